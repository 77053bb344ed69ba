/-
  Texts of mine that belong together (packed by pack.py), for every input: QPs, TyAw, GAw, QAw, GLp10, QRh, QRi, QRk, QRj, TyRe, TyRf, GRq, QRl, QRm, GSa, QRo.
-/
import Derived.Test.YtjfgiaooglnomaaGreatDoorKH2
import Derived.Test.YtjfgiaooglnomaaGreatDoorKH3
import Derived.Test.YtjfgiaooglnomaaGreatDoorKH4
import Derived.KernelRfl
set_option linter.unusedVariables false
set_option linter.unusedSimpArgs false
namespace Go.Pl
open Go.RowKit
open Enc (enc dec is)
open EncL (encL decL isL)
theorem b6x(n:Int):Int.fdiv n (2 ^ min (Int.toNat 31) (IntKind.bits .i64))=X7 n:=by
 show Int.fdiv n 2147483648=n / 2147483648
 exact Int.fdiv_eq_ediv_of_nonneg n (by decide)
theorem O8(n:Int):IntKind.i64.wrap ((BitVec.toNat (BitVec.ofInt (IntKind.bits .i64) n &&& BitVec.ofInt (IntKind.bits .i64) 2147483647):Nat):Int)=XH n:=by
 have e:BitVec.toNat (BitVec.ofInt (IntKind.bits .i64) n &&& BitVec.ofInt (IntKind.bits .i64) 2147483647)=(n % 2147483648).toNat:=by
  rw[BitVec.toNat_and]
  have e2:(BitVec.ofInt (IntKind.bits .i64) 2147483647).toNat=2 ^ 31 - 1:=rfl
  rw[e2,Nat.and_two_pow_sub_one_eq_mod,BitVec.toNat_ofInt]
  show(n % 18446744073709551616).toNat % 2147483648=_
  omega
 rw[e,Ug (by omega) (by omega)]
 unfold XH
 omega
theorem b7m: ∀ args os,VX args os=true->Zc TT os.length (Zh os.length Dp fun r=>r=UF args os) DD [] (YH b5r args os):=by
 intro args os h
 unfold VX at h
 split at h
 ·rename_i n
  apply c1h (G:=fun r=>r=UF _ _) n
  rw[b6x,O8]
  rfl
 ·rename_i n q q' r r' ty xs ty' ys
  simp only[Bool.and_eq_true,beq_iff_eq,decide_eq_true_eq]at h
  obtain⟨⟨⟨⟨⟨⟨⟨h1,h2⟩,h3⟩,h4⟩,h5⟩,h6⟩,h7⟩,h8⟩:=h
  subst h1 h2 h3 h4 h5
  apply c1g (G:=fun r=>r=UF _ _) n r' xs ys
  rw[b6x,O8,h6,h7]
  have hd:((r'==r')&&(r'==r')&&decide ((r'+1)*8<=1099511627776)&&decide (r'+1<=1099511627776))=true:=by
   rw[decide_eq_true (by omega),decide_eq_true (by omega)];simp
  exact⟨hd,hd,rfl⟩
 ·cases h
def hN(p:List Mono):Zr:=[.obj (.box [.pv (enc p)]),.obj (.box [.pv (.int .i64 0)]),.obj (.box [.pv (.int .i64 0)]),.obj (.box [.pv (.sl 0 true [])]),.obj (.box [.pv (.sl 0 true [])]),.obj (.box [.fn 124 [] [.ptr 3 0,.ptr 4 0]])]
def hR(p:List Mono)(n:Nat)(xs ys:List Int):Zr:=[.obj (.box [.pv (enc p)]),.obj (.box [.pv (.int .i64 0)]),.obj (.box [.pv (.int .i64 0)]),.obj (.box [.row 6 n 0 n]),.obj (.box [.row 7 n 0 n]),.obj (.box [.fn 124 [] [.ptr 3 0,.ptr 4 0]]),.obj (.row false 3 1 (xs.map enc)),.obj (.row false 3 1 (ys.map enc))]
def hNX(p:List Mono):Zr:=[.obj (.box [.pv (enc p)]),.obj (.box [.pv (.int .i64 0)]),.obj (.box [.pv (.int .i64 2)]),.obj (.box [.pv (.sl 0 true [])]),.obj (.box [.pv (.sl 0 true [])]),.obj (.box [.fn 124 [] [.ptr 3 0,.ptr 4 0]]),.fresh,.fresh]
def hRX(p:List Mono)(n:Nat)(xs ys:List Int):Zr:=[.obj (.box [.pv (enc p)]),.obj (.box [.pv (.int .i64 0)]),.obj (.box [.pv (.int .i64 2)]),.obj (.box [.row 6 n 0 n]),.obj (.box [.row 7 n 0 n]),.obj (.box [.fn 124 [] [.ptr 3 0,.ptr 4 0]]),.obj (.row false 3 1 (xs.map enc)),.obj (.row false 3 1 (ys.map enc)),.fresh,.fresh]
def gsI(b:BoxT)(fs:List Fact)(p:List Mono)(k:Nat)(σ:Zr):Prop:=
 ∃ l,VH p b.v ((Yb b fs).take k)=some l∧((k=0∧σ=hN p)∨(0<k∧k<=(Yb b fs).length∧σ=hR p k (l.map X7) (l.map XH)))
def gsX(b:BoxT)(fs:List Fact)(p:List Mono)(σ:Zr):Prop:=VH p b.v (Yb b fs)=none∧(σ=hNX p ∨ ∃ n xs ys,σ=hRX p n xs ys)
theorem TY{b:BoxT}{fs:List Fact}(hv:Xh b=true):(Yb b fs).length<=20000:=by
 unfold Yb
 refine Nat.le_trans (List.length_filter_le _ _) ?_
 rw[WG hv,Jy]
 exact Dn hv
theorem JI{b:BoxT}{fs:List Fact}{p:List Mono}{k:Nat}{q:List Int}(hq:(Yb b fs)[k]? = some q)(h:(YO p (Zj b.v q)).2≠0):VH p b.v (Yb b fs)=none:=by
 have hk:=(List.getElem?_eq_some_iff.1 hq).1
 have hkp:=(List.getElem?_eq_some_iff.1 hq).2
 have e:Yb b fs=(Yb b fs).take k++q::(Yb b fs).drop (k+1):=by
  rw[<- hkp,<- List.drop_eq_getElem_cons hk,List.take_append_drop]
 rw[e]
 exact CO h _
def WX:Yv:=fun n st q=>n=0∧Ga YE 0 (.t 32) 177 [33,34] [(13,34)] WP QF UB Gw st q
theorem a3r(b:BoxT)(fs:List Fact)(p:List Mono)(hp:Yc p=true)(hv:Xh b=true)(hb:b.v.length<=1000)(k:Nat)(q:List Int)(σ:Zr)(hq:(Yb b fs)[k]? = some q)(h:gsI b fs p k σ):
  Zz YE (fun n S' _=>n=99∧gsI b fs p (k+1) S'.heap) σ.length (fun st=>gsX b fs p st.heap) (.inl WP) [.seq (.ext 99 [])]
   ⟨ZO 77 0 [(5,.ptr 0 0),(6,.ptr 1 0),(7,.ptr 2 0),(9,.ptr 3 0),(10,.ptr 4 0),(11,.ptr 5 0),(13,.pv (enc (Zj b.v q))),(33,.pv (enc q)),(34,.pv (enc (Zj b.v q)))],σ⟩:=by
 have hk:=(List.getElem?_eq_some_iff.1 hq).1
 have hkp:=(List.getElem?_eq_some_iff.1 hq).2
 have h20:=TY (fs:=fs) hv
 have ht:(Yb b fs).take (k+1)=(Yb b fs).take k++[q]:=by rw[List.take_succ_eq_append_getElem hk,hkp]
 have hvl:(Zj b.v q).length<=9223372036854775807:=by unfold Zj;rw[List.length_zipWith];omega
 have hpre:preT (fun x:List Mono×List Coef×Unit=>Yc x.1&&Zt x.2.1) (encL (p,Zj b.v q,()))=true:=Zl (p,Zj b.v q,()) rfl (by rw[hp,ZN.2 hvl];rfl)
 obtain⟨l,hl,hσ⟩:=h
 have hlen:=U6 hl
 rw[List.length_take]at hlen
 rcases hσ with ⟨rfl,rfl⟩|⟨h0,h1,rfl⟩
 ·apply a7m (G:=gsX b fs p) (fun n S' _=>n=99∧gsI b fs p (0+1) S'.heap) p q (Zj b.v q)
  refine⟨hpre,Zi (p,Zj b.v q,()) rfl ?_⟩
  refine Xe (fun he=> ?_) fun he=> ?_
  ·have he:(YO p (Zj b.v q)).2≠0:=by simpa using he
   exact⟨JI hq he,.inl rfl⟩
  ·have he:(YO p (Zj b.v q)).2=0:=by simpa using he
   have hs:=Us he hl
   rw[<- ht]at hs
   have hnil:l=[]:=List.length_eq_zero_iff.1 (by omega)
   subst hnil
   exact⟨rfl,_,hs,.inr ⟨by omega,by omega,rfl⟩⟩
 ·have hlk:l.length=k:=by omega
  apply a4v (G:=gsX b fs p) (fun n S' _=>n=99∧gsI b fs p (k+1) S'.heap) p q (Zj b.v q) k (l.map X7) (l.map XH)
  refine⟨hpre,Zi (p,Zj b.v q,()) rfl ?_⟩
  refine Xe (fun he=> ?_) fun he=> ?_
  ·have he:(YO p (Zj b.v q)).2≠0:=by simpa using he
   exact⟨JI hq he,.inr ⟨k,_,_,rfl⟩⟩
  ·have he:(YO p (Zj b.v q)).2=0:=by simpa using he
   have hs:=Us he hl
   rw[<- ht]at hs
   refine⟨?_,rfl,_,hs,.inr ⟨by omega,by omega,?_⟩⟩
   ·show(k==k&&k==k&&k==k&&3==3&&3==3&&((l.map X7).map (enc:Int->PV)).length==k&&((l.map XH).map (enc:Int->PV)).length==k&&decide (k<=1000000))=true
    rw[List.length_map,List.length_map,List.length_map,List.length_map,hlk,decide_eq_true (by omega)];simp
   ·unfold hR
    rw[List.map_append,List.map_append,List.map_append,List.map_append]
    rfl
theorem b1f(b:BoxT)(fs:List Fact)(p:List Mono)(l:List Int)(hl:l.length<=20000)(hr : ∀ x∈l,Ut x=true)(R:Int×Int)(hR:R=Vp l): ∀ (d i:Nat),d+i=l.length ->
  Es YE WX 0 (Za YP (Zf R)) YK 0 77 [(6,.ptr 0 0),(7,.ptr 1 0),(9,.ptr 2 0),(10,.ptr 3 0),(16,.pv (.int .i64 ((l.map X7).take i).sum)),(17,.pv (.int .i64 ((l.map XH).take i).sum)),(47,.pv (.int .i64 l.length)),(48,.pv (.int .i64 i))]
   [.obj (.box [.pv (.int .i64 0)]),.obj (.box [.pv (.int .i64 0)]),.obj (.box [.row 4 l.length 0 l.length]),.obj (.box [.row 5 l.length 0 l.length]),.obj (.row false 3 1 ((l.map X7).map enc)),.obj (.row false 3 1 ((l.map XH).map enc))]:=by
 have hb1 : ∀ i,((l.map X7).take i).length*(-2147483648:Int)<=((l.map X7).take i).sum∧((l.map X7).take i).sum<=((l.map X7).take i).length*(2147483648:Int):=fun i=>Jk (by
  intro x hx
  obtain⟨n,hn,rfl⟩:=List.mem_map.1 (List.mem_of_mem_take hx)
  exact b0n (hr n hn))
 have hb2 : ∀ i,((l.map XH).take i).length*(0:Int)<=((l.map XH).take i).sum∧((l.map XH).take i).sum<=((l.map XH).take i).length*(2147483647:Int):=fun i=>Jk (by
  intro x hx
  obtain⟨n,hn,rfl⟩:=List.mem_map.1 (List.mem_of_mem_take hx)
  exact a6q n)
 have hc1 : ∀ i,((l.map X7).take i).length<=20000:=fun i=>by rw[List.length_take,List.length_map];omega
 have hc2 : ∀ i,((l.map XH).take i).length<=20000:=fun i=>by rw[List.length_take,List.length_map];omega
 intro d
 induction d with
 | zero=>
  intro i hi
  apply SX (G:=Zf R) WX b fs p
  refine ZV (Z8 (by omega)) ?_
  have e1:(l.map X7).take i=l.map X7:=List.take_of_length_le (by rw[List.length_map];omega)
  have e2:(l.map XH).take i=l.map XH:=List.take_of_length_le (by rw[List.length_map];omega)
  have a1:=hb1 i
  have a2:=hb2 i
  have a3:=hc1 i
  have a4:=hc2 i
  rw[e1]at a1 a3
  rw[e2]at a2 a4
  rw[e1,e2,b6x,O8]
  have hh:X7 (l.map XH).sum=(l.map XH).sum / 2147483648:=rfl
  have hw:IntKind.i64.wrap ((l.map X7).sum+X7 (l.map XH).sum)=(l.map X7).sum+X7 (l.map XH).sum:=Ug (by rw[hh];omega) (by rw[hh];omega)
  rw[hw]
  refine Zi ([(l.map X7).sum+X7 (l.map XH).sum,XH (l.map XH).sum],[2147483648,1],()) rfl ?_
  rw[hR,<- BB hl hr (H:=(l.map X7).sum+X7 (l.map XH).sum) (L:=XH (l.map XH).sum) rfl rfl]
  exact ZU rfl
 | succ d ih=>
  intro i hi
  have hlt:i<l.length:=by omega
  have hl1:i<(l.map X7).length:=by rw[List.length_map];omega
  have hl2:i<(l.map XH).length:=by rw[List.length_map];omega
  apply SX (G:=Zf R) WX b fs p
  apply ZQ (Z4 hlt)
  rw[U7 hl1,U7 hl2]
  refine⟨by simp;omega,by simp;omega,rfl,by simp;omega,by simp;omega,rfl,?_⟩
  rw[next (by omega)]
  show Es YE _ _ _ _ _ _ [_,_,_,_,(16,.pv (.int .i64 (IntKind.i64.wrap (((l.map X7).take i).sum+(l.map X7)[i])))),(17,.pv (.int .i64 (IntKind.i64.wrap (((l.map XH).take i).sum+(l.map XH)[i])))),_,_] _
  have s1:((l.map X7).take i).sum+(l.map X7)[i]=((l.map X7).take (i+1)).sum:=by rw[List.take_succ_eq_append_getElem hl1,List.sum_append];simp
  have s2:((l.map XH).take i).sum+(l.map XH)[i]=((l.map XH).take (i+1)).sum:=by rw[List.take_succ_eq_append_getElem hl2,List.sum_append];simp
  have a1:=hb1 (i+1)
  have a2:=hb2 (i+1)
  have a3:=hc1 (i+1)
  have a4:=hc2 (i+1)
  rw[s1,s2,Ug (by omega) (by omega),Ug (by omega) (by omega)]
  exact ih (i+1) (by omega)
theorem a2p: ∀ x:BoxT×List Fact×List Mono×Unit,(Jh x.1 x.2.1 x.2.2.1&&(!ZZ x.2.2.1||(Xq x.2.2.1).isEmpty))=true->QB YE WX 0 (Za YP (Zf (X9 x.1 x.2.1 x.2.2.1))) YK [] (Yx b0k (encL x)):=by
 rintro⟨b,fs,p,⟨⟩⟩ hp
 simp only[Jh,Bool.and_eq_true,decide_eq_true_eq]at hp
 obtain⟨⟨⟨⟨⟨h1,h2⟩,h3⟩,h4⟩,h5⟩,h6⟩:=hp
 have key:Zp b fs (ZZ p) (Yt p)=0->WX 0 ⟨ZO 77 0 [(5,.ptr 0 0),(6,.ptr 1 0),(7,.ptr 2 0),(9,.ptr 3 0),(10,.ptr 4 0),(11,.ptr 5 0),(13,.undef),(14,.undef),(15,.undef),(32,(.fn 177 [] [(.ptr 6 0),(.ptr 7 0)])),(34,.undef),(35,.undef),(36,.undef),(37,.undef),(38,.undef),(39,.undef),(40,.undef),(41,.undef),(42,.undef),(43,.undef),(44,.undef)],
   hN p++[(.obj (.box [(.pv (.sl 1 false (List.map enc b.v))),(.pv (.int .i64 b.m))])),(.obj (.box [(.pv (.sl 3 false (List.map enc fs)))]))]⟩ (fun x S'=>KF YE WX 0 (Za YP (Zf (X9 b fs p))) YK 0 x S'):=by
  intro h0
  obtain⟨hv,_⟩:=VI _ _ _ _ h0
  have h20:=TY (fs:=fs) hv
  refine⟨rfl,[6,7],[[enc b.v,.int .i64 b.m],[enc fs]],[5,6,7,9,10,11],[],⟨ZO 77 0 [(5,.ptr 0 0),(6,.ptr 1 0),(7,.ptr 2 0),(9,.ptr 3 0),(10,.ptr 4 0),(11,.ptr 5 0)],hN p⟩,gsI b fs p,gsX b fs p,rfl,by simp,rfl,?_,by kernel_rfl,Ce hv h2 h4,⟨[],rfl,.inl ⟨rfl,rfl⟩⟩,?_,?_,?_⟩
  ·intro j l' ps hl hps
   match j with
   | 0=>cases hl;cases hps;rfl
   | 1=>cases hl;cases hps;rfl
   | j+2=>simp at hl
  ·intro k x σ hx hI
   rw[Al,List.getElem?_map]at hx
   obtain⟨q,hq,rfl⟩:=Option.map_eq_some_iff.1 hx
   have e:BZ [(13,34)] (GX [33,34] ((QF (q,Zj b.v q)).map .pv) (ZO 77 0 [(5,.ptr 0 0),(6,.ptr 1 0),(7,.ptr 2 0),(9,.ptr 3 0),(10,.ptr 4 0),(11,.ptr 5 0)]))=ZO 77 0 [(5,.ptr 0 0),(6,.ptr 1 0),(7,.ptr 2 0),(9,.ptr 3 0),(10,.ptr 4 0),(11,.ptr 5 0),(13,.pv (enc (Zj b.v q))),(33,.pv (enc q)),(34,.pv (enc (Zj b.v q)))]:=by kernel_rfl
   have:=a3r b fs p h5 hv h4 k q σ hq hI
   rw[<- e]at this
   exact this
  ·intro σ hI
   rw[Al,List.length_map]at hI
   obtain⟨l,hl,hσ⟩:=hI
   rw[List.take_length]at hl
   have hT:X9 b fs p=Vp l:=by unfold X9;rw[if_pos h0,hl]
   have hlen:=U6 hl
   rcases hσ with ⟨e0,rfl⟩|⟨_,_,rfl⟩
   ·refine a1p (G:=Zf (X9 b fs p)) WX b fs p ?_
    refine a0q (G:=Zf (X9 b fs p)) WX b fs p (Zi ([0,0],[2147483648,1],()) rfl ?_)
    have:l=[]:=List.length_eq_zero_iff.1 (by omega)
    rw[hT,this]
    exact ZU (x:=((0:Int),(0:Int))) rfl
   ·refine a3w (G:=Zf (X9 b fs p)) WX b fs p _ _ _ ?_
    have:=b1f b fs p l (by omega) (Cm hl) (X9 b fs p) hT l.length 0 (by omega)
    rw[hlen]at this
    exact this
  ·intro σ hX
   obtain⟨hn,hσ⟩:=hX
   have hT:X9 b fs p=(0,2):=by unfold X9;rw[if_pos h0,hn]
   rcases hσ with rfl|⟨n,xs,ys,rfl⟩
   ·exact Ow (G:=Zf (X9 b fs p)) WX b fs p (by rw[hT];exact ZU (x:=((0:Int),(2:Int))) rfl)
   ·exact LC (G:=Zf (X9 b fs p)) WX b fs p n xs ys (by rw[hT];exact ZU (x:=((0:Int),(2:Int))) rfl)
 have hbad:Zp b fs (ZZ p) (Yt p)≠0->Zf (X9 b fs p) (.tup [.int .i64 0,.int .i64 (Zp b fs (ZZ p) (Yt p))]):=by
  intro h0
  unfold X9
  rw[if_neg h0]
  exact ZU (x:=((0:Int),Zp b fs (ZZ p) (Yt p))) rfl
 have hn:Zp b fs (ZZ p) (Yt p)=Zp b fs (ZZ p) []:=by
  cases hv:ZZ p
  ·unfold Zp;simp
  ·rw[hv]at h6
   rw[a3q (by simpa using h6)]
 rw[hn]at key hbad
 refine b3u WX b fs p ⟨Zl (p,()) rfl h5,Zi (p,()) rfl ⟨?_,Zl (b,fs,ZZ p,⟨⟩,()) rfl (by simp[h1,h2,h3]),Zi (b,fs,ZZ p,⟨⟩,()) rfl ?_⟩⟩
 ·show(Vf (List Mono) (enc p)&&Yc (dec (enc p:PV))&&(!ZZ (dec (enc p:PV))||(Xq (dec (enc p:PV))).isEmpty))=true
  rw[Z5,Enc.dec_enc,h5,h6];rfl
 ·show if (Zp b fs (ZZ p) [] != 0)=true then _ else _
  by_cases h0:Zp b fs (ZZ p) []=0
  ·rw[if_neg (by simp[h0])]
   refine⟨?_,key h0⟩
   show(Vf (List Str) (enc b.v)&&Vf (List Fact) (enc fs))=true
   rw[Z5,Z5];rfl
  ·rw[if_pos (by simpa using h0)]
   exact hbad h0
def WQ:Yv:=fun n st q=>n=0∧Ga YF 0 (.t 32) 177 [33,34] [(13,34)] VF QF UB Gw st q
theorem a0o(b:BoxT)(fs:List Fact)(p:List Mono)(hp:Yc p=true)(hv:Xh b=true)(hb:b.v.length<=1000)(k:Nat)(q:List Int)(σ:Zr)(hq:(Yb b fs)[k]? = some q)(h:gsI b fs p k σ):
  Zz YF (fun n S' _=>n=99∧gsI b fs p (k+1) S'.heap) σ.length (fun st=>gsX b fs p st.heap) (.inl VF) [.seq (.ext 99 [])]
   ⟨ZO 77 0 [(5,.ptr 0 0),(6,.ptr 1 0),(7,.ptr 2 0),(9,.ptr 3 0),(10,.ptr 4 0),(11,.ptr 5 0),(13,.pv (enc (Zj b.v q))),(33,.pv (enc q)),(34,.pv (enc (Zj b.v q)))],σ⟩:=by
 have hk:=(List.getElem?_eq_some_iff.1 hq).1
 have hkp:=(List.getElem?_eq_some_iff.1 hq).2
 have h20:=TY (fs:=fs) hv
 have ht:(Yb b fs).take (k+1)=(Yb b fs).take k++[q]:=by rw[List.take_succ_eq_append_getElem hk,hkp]
 have hvl:(Zj b.v q).length<=9223372036854775807:=by unfold Zj;rw[List.length_zipWith];omega
 have hpre:preT (fun x:List Mono×List Coef×Unit=>Yc x.1&&Zt x.2.1) (encL (p,Zj b.v q,()))=true:=Zl (p,Zj b.v q,()) rfl (by rw[hp,ZN.2 hvl];rfl)
 obtain⟨l,hl,hσ⟩:=h
 have hlen:=U6 hl
 rw[List.length_take]at hlen
 rcases hσ with ⟨rfl,rfl⟩|⟨h0,h1,rfl⟩
 ·apply b1l (G:=gsX b fs p) (fun n S' _=>n=99∧gsI b fs p (0+1) S'.heap) p q (Zj b.v q)
  refine⟨hpre,Zi (p,Zj b.v q,()) rfl ?_⟩
  refine Xe (fun he=> ?_) fun he=> ?_
  ·have he:(YO p (Zj b.v q)).2≠0:=by simpa using he
   exact⟨JI hq he,.inl rfl⟩
  ·have he:(YO p (Zj b.v q)).2=0:=by simpa using he
   have hs:=Us he hl
   rw[<- ht]at hs
   have hnil:l=[]:=List.length_eq_zero_iff.1 (by omega)
   subst hnil
   exact⟨rfl,_,hs,.inr ⟨by omega,by omega,rfl⟩⟩
 ·have hlk:l.length=k:=by omega
  apply b1p (G:=gsX b fs p) (fun n S' _=>n=99∧gsI b fs p (k+1) S'.heap) p q (Zj b.v q) k (l.map X7) (l.map XH)
  refine⟨hpre,Zi (p,Zj b.v q,()) rfl ?_⟩
  refine Xe (fun he=> ?_) fun he=> ?_
  ·have he:(YO p (Zj b.v q)).2≠0:=by simpa using he
   exact⟨JI hq he,.inr ⟨k,_,_,rfl⟩⟩
  ·have he:(YO p (Zj b.v q)).2=0:=by simpa using he
   have hs:=Us he hl
   rw[<- ht]at hs
   refine⟨?_,rfl,_,hs,.inr ⟨by omega,by omega,?_⟩⟩
   ·show(k==k&&k==k&&k==k&&3==3&&3==3&&((l.map X7).map (enc:Int->PV)).length==k&&((l.map XH).map (enc:Int->PV)).length==k&&decide (k<=1000000))=true
    rw[List.length_map,List.length_map,List.length_map,List.length_map,hlk,decide_eq_true (by omega)];simp
   ·unfold hR
    rw[List.map_append,List.map_append,List.map_append,List.map_append]
    rfl
theorem a6c(b:BoxT)(fs:List Fact)(p:List Mono)(l:List Int)(hl:l.length<=20000)(hr : ∀ x∈l,Ut x=true)(R:Int×Int)(hR:R=Vp l): ∀ (d i:Nat),d+i=l.length ->
  Es YF WQ 0 (Za YV (Zf R)) YU 0 77 [(6,.ptr 0 0),(7,.ptr 1 0),(9,.ptr 2 0),(10,.ptr 3 0),(16,.pv (.int .i64 ((l.map X7).take i).sum)),(17,.pv (.int .i64 ((l.map XH).take i).sum)),(47,.pv (.int .i64 l.length)),(48,.pv (.int .i64 i))]
   [.obj (.box [.pv (.int .i64 0)]),.obj (.box [.pv (.int .i64 0)]),.obj (.box [.row 4 l.length 0 l.length]),.obj (.box [.row 5 l.length 0 l.length]),.obj (.row false 3 1 ((l.map X7).map enc)),.obj (.row false 3 1 ((l.map XH).map enc))]:=by
 have hb1 : ∀ i,((l.map X7).take i).length*(-2147483648:Int)<=((l.map X7).take i).sum∧((l.map X7).take i).sum<=((l.map X7).take i).length*(2147483648:Int):=fun i=>Jk (by
  intro x hx
  obtain⟨n,hn,rfl⟩:=List.mem_map.1 (List.mem_of_mem_take hx)
  exact b0n (hr n hn))
 have hb2 : ∀ i,((l.map XH).take i).length*(0:Int)<=((l.map XH).take i).sum∧((l.map XH).take i).sum<=((l.map XH).take i).length*(2147483647:Int):=fun i=>Jk (by
  intro x hx
  obtain⟨n,hn,rfl⟩:=List.mem_map.1 (List.mem_of_mem_take hx)
  exact a6q n)
 have hc1 : ∀ i,((l.map X7).take i).length<=20000:=fun i=>by rw[List.length_take,List.length_map];omega
 have hc2 : ∀ i,((l.map XH).take i).length<=20000:=fun i=>by rw[List.length_take,List.length_map];omega
 intro d
 induction d with
 | zero=>
  intro i hi
  apply Sa (G:=Zf R) WQ b fs p
  refine ZV (Z8 (by omega)) ?_
  have e1:(l.map X7).take i=l.map X7:=List.take_of_length_le (by rw[List.length_map];omega)
  have e2:(l.map XH).take i=l.map XH:=List.take_of_length_le (by rw[List.length_map];omega)
  have a1:=hb1 i
  have a2:=hb2 i
  have a3:=hc1 i
  have a4:=hc2 i
  rw[e1]at a1 a3
  rw[e2]at a2 a4
  rw[e1,e2,b6x,O8]
  have hh:X7 (l.map XH).sum=(l.map XH).sum / 2147483648:=rfl
  have hw:IntKind.i64.wrap ((l.map X7).sum+X7 (l.map XH).sum)=(l.map X7).sum+X7 (l.map XH).sum:=Ug (by rw[hh];omega) (by rw[hh];omega)
  rw[hw]
  refine Zi ([(l.map X7).sum+X7 (l.map XH).sum,XH (l.map XH).sum],[2147483648,1],()) rfl ?_
  rw[hR,<- BB hl hr (H:=(l.map X7).sum+X7 (l.map XH).sum) (L:=XH (l.map XH).sum) rfl rfl]
  exact ZU rfl
 | succ d ih=>
  intro i hi
  have hlt:i<l.length:=by omega
  have hl1:i<(l.map X7).length:=by rw[List.length_map];omega
  have hl2:i<(l.map XH).length:=by rw[List.length_map];omega
  apply Sa (G:=Zf R) WQ b fs p
  apply ZQ (Z4 hlt)
  rw[U7 hl1,U7 hl2]
  refine⟨by simp;omega,by simp;omega,rfl,by simp;omega,by simp;omega,rfl,?_⟩
  rw[next (by omega)]
  show Es YF _ _ _ _ _ _ [_,_,_,_,(16,.pv (.int .i64 (IntKind.i64.wrap (((l.map X7).take i).sum+(l.map X7)[i])))),(17,.pv (.int .i64 (IntKind.i64.wrap (((l.map XH).take i).sum+(l.map XH)[i])))),_,_] _
  have s1:((l.map X7).take i).sum+(l.map X7)[i]=((l.map X7).take (i+1)).sum:=by rw[List.take_succ_eq_append_getElem hl1,List.sum_append];simp
  have s2:((l.map XH).take i).sum+(l.map XH)[i]=((l.map XH).take (i+1)).sum:=by rw[List.take_succ_eq_append_getElem hl2,List.sum_append];simp
  have a1:=hb1 (i+1)
  have a2:=hb2 (i+1)
  have a3:=hc1 (i+1)
  have a4:=hc2 (i+1)
  rw[s1,s2,Ug (by omega) (by omega),Ug (by omega) (by omega)]
  exact ih (i+1) (by omega)
theorem a3a: ∀ x:BoxT×List Fact×List Mono×Unit,(Jh x.1 x.2.1 x.2.2.1&&(ZZ x.2.2.1&& !(Xq x.2.2.1).isEmpty))=true->QB YF WQ 0 (Za YV (Zf (X9 x.1 x.2.1 x.2.2.1))) YU [] (Yx b1o (encL x)):=by
 rintro⟨b,fs,p,⟨⟩⟩ hp
 simp only[Jh,Bool.and_eq_true,decide_eq_true_eq]at hp
 obtain⟨⟨⟨⟨⟨h1,h2⟩,h3⟩,h4⟩,h5⟩,h6⟩:=hp
 have key:Zp b fs (ZZ p) (Yt p)=0->WQ 0 ⟨ZO 77 0 [(5,.ptr 0 0),(6,.ptr 1 0),(7,.ptr 2 0),(9,.ptr 3 0),(10,.ptr 4 0),(11,.ptr 5 0),(13,.undef),(14,.undef),(15,.undef),(32,(.fn 177 [] [(.ptr 6 0),(.ptr 7 0)])),(34,.undef),(35,.undef),(36,.undef),(37,.undef),(38,.undef),(39,.undef),(40,.undef),(41,.undef),(42,.undef),(43,.undef),(44,.undef)],
   hN p++[(.obj (.box [(.pv (.sl 1 false (List.map enc b.v))),(.pv (.int .i64 b.m))])),(.obj (.box [(.pv (.sl 3 false (List.map enc fs)))]))]⟩ (fun x S'=>KF YF WQ 0 (Za YV (Zf (X9 b fs p))) YU 0 x S'):=by
  intro h0
  obtain⟨hv,_⟩:=VI _ _ _ _ h0
  have h20:=TY (fs:=fs) hv
  refine⟨rfl,[6,7],[[enc b.v,.int .i64 b.m],[enc fs]],[5,6,7,9,10,11],[],⟨ZO 77 0 [(5,.ptr 0 0),(6,.ptr 1 0),(7,.ptr 2 0),(9,.ptr 3 0),(10,.ptr 4 0),(11,.ptr 5 0)],hN p⟩,gsI b fs p,gsX b fs p,rfl,by simp,rfl,?_,by kernel_rfl,Ce hv h2 h4,⟨[],rfl,.inl ⟨rfl,rfl⟩⟩,?_,?_,?_⟩
  ·intro j l' ps hl hps
   match j with
   | 0=>cases hl;cases hps;rfl
   | 1=>cases hl;cases hps;rfl
   | j+2=>simp at hl
  ·intro k x σ hx hI
   rw[Al,List.getElem?_map]at hx
   obtain⟨q,hq,rfl⟩:=Option.map_eq_some_iff.1 hx
   have e:BZ [(13,34)] (GX [33,34] ((QF (q,Zj b.v q)).map .pv) (ZO 77 0 [(5,.ptr 0 0),(6,.ptr 1 0),(7,.ptr 2 0),(9,.ptr 3 0),(10,.ptr 4 0),(11,.ptr 5 0)]))=ZO 77 0 [(5,.ptr 0 0),(6,.ptr 1 0),(7,.ptr 2 0),(9,.ptr 3 0),(10,.ptr 4 0),(11,.ptr 5 0),(13,.pv (enc (Zj b.v q))),(33,.pv (enc q)),(34,.pv (enc (Zj b.v q)))]:=by kernel_rfl
   have:=a0o b fs p h5 hv h4 k q σ hq hI
   rw[<- e]at this
   exact this
  ·intro σ hI
   rw[Al,List.length_map]at hI
   obtain⟨l,hl,hσ⟩:=hI
   rw[List.take_length]at hl
   have hT:X9 b fs p=Vp l:=by unfold X9;rw[if_pos h0,hl]
   have hlen:=U6 hl
   rcases hσ with ⟨e0,rfl⟩|⟨_,_,rfl⟩
   ·refine a1h (G:=Zf (X9 b fs p)) WQ b fs p ?_
    refine a1y (G:=Zf (X9 b fs p)) WQ b fs p (Zi ([0,0],[2147483648,1],()) rfl ?_)
    have:l=[]:=List.length_eq_zero_iff.1 (by omega)
    rw[hT,this]
    exact ZU (x:=((0:Int),(0:Int))) rfl
   ·refine a1t (G:=Zf (X9 b fs p)) WQ b fs p _ _ _ ?_
    have:=a6c b fs p l (by omega) (Cm hl) (X9 b fs p) hT l.length 0 (by omega)
    rw[hlen]at this
    exact this
  ·intro σ hX
   obtain⟨hn,hσ⟩:=hX
   have hT:X9 b fs p=(0,2):=by unfold X9;rw[if_pos h0,hn]
   rcases hσ with rfl|⟨n,xs,ys,rfl⟩
   ·exact FZ (G:=Zf (X9 b fs p)) WQ b fs p (by rw[hT];exact ZU (x:=((0:Int),(2:Int))) rfl)
   ·exact Lc (G:=Zf (X9 b fs p)) WQ b fs p n xs ys (by rw[hT];exact ZU (x:=((0:Int),(2:Int))) rfl)
 have hbad:Zp b fs (ZZ p) (Yt p)≠0->Zf (X9 b fs p) (.tup [.int .i64 0,.int .i64 (Zp b fs (ZZ p) (Yt p))]):=by
  intro h0
  unfold X9
  rw[if_neg h0]
  exact ZU (x:=((0:Int),Zp b fs (ZZ p) (Yt p))) rfl
 have hpv:ZZ p=true:=by simp at h6;exact h6.1
 have hne:(Xq p).isEmpty=false:=by simp only[Bool.and_eq_true,Bool.not_eq_true']at h6;exact h6.2
 refine b5n WQ b fs p ⟨Zl (p,()) rfl h5,Zi (p,()) rfl ⟨?_,?_⟩⟩
 ·show(Vf (List Mono) (enc p)&&Yc (dec (enc p:PV))&&ZZ (dec (enc p:PV))&& !(Xq (dec (enc p:PV))).isEmpty)=true
  rw[Z5,Enc.dec_enc,h5,hpv,hne];rfl
 ·have hmd:VG (enc p)=p:=Enc.dec_enc p
  rw[hmd,Ef,MI,Um]
  have hnl:(Yt p).length<=480:=by
   have a:=a0v p
   have c:=Rp p (JX hpv).2 p.length (Nat.le_refl _)
   unfold Ul at c
   rw[List.take_length]at c
   have:=(JX hpv).1
   unfold Xq at a
   omega
  refine⟨?_,?_⟩
  ·show(Vf BoxT (enc b)&&Vf (List Fact) (enc fs)&&9==9&&Ad (Yt p).length (Yt p).length ((Yt p).map enc)&&decide ((Yt p).length<=1000)&& !((Yt p).map (enc:Str->PV)).isEmpty&&ZW (dec (enc b:PV))&&Zm (dec (enc fs:PV))&&decide ((dec (enc fs:PV):List Fact).length<=100)&&decide (((Yt p).map (enc:Str->PV)).length<=1000))=true
   rw[List.length_map,Z5,Z5,Enc.dec_enc,Enc.dec_enc,Df rfl (by omega),h1,h2,decide_eq_true h3,decide_eq_true (show(Yt p).length<=1000 by omega)]
   have:((Yt p).map (enc:Str->PV)).isEmpty=false:=by
    have:=a4o hne
    rw[List.isEmpty_eq_false_iff]at this ⊢
    intro h
    exact this (List.map_eq_nil_iff.1 h)
   rw[this];simp
  ·show if (Zp b fs (ZZ p) (Yt p) != 0)=true then _ else _
   by_cases h0:Zp b fs (ZZ p) (Yt p)=0
   ·rw[if_neg (by simp[h0])]
    refine⟨?_,key h0⟩
    show(Vf (List Str) (enc b.v)&&Vf (List Fact) (enc fs))=true
    rw[Z5,Z5];rfl
   ·rw[if_pos (by simpa using h0)]
    exact hbad h0
end Go.Pl

namespace Go.Pl
open Go.RowKit
open Enc (enc dec is)
open EncL (encL decL isL)
def xN:Str:=⟨[110]⟩
def xM:Str:=⟨[109]⟩
def QW(a b c:Int):Fact:=⟨false,Q7 (Q7 ⟨c,[]⟩ xN a) xM b⟩
end Go.Pl

namespace Go.Pl
open Go.RowKit
open Enc (enc dec is)
open EncL (encL decL isL)
set_option maxRecDepth 100000
def K4:IC:=(.seq (.reg [⟨(some 6),(.alloc (.agg [(.bool false),(.int .i64 0),(.sl 0 true [])])),0,none⟩] none) (.seq (.reg [⟨(some 7),(.mv (.t 2)),0,none⟩,⟨(some 8),(.call (.c (.fn 91)) [(.t 7)]),0,none⟩,⟨(some 9),(.mv (.t 0)),2,none⟩,⟨(some 10),(.call (.c (.fn 89)) [(.t 8),(.c (.str [110])),(.t 9)]),2,none⟩,⟨(some 11),(.mv (.t 1)),4,none⟩,⟨(some 12),(.call (.c (.fn 89)) [(.t 10),(.c (.str [109])),(.t 11)]),4,none⟩,⟨(some 13),(.build [(.bool false),(.int .i64 0),(.sl 0 true [])] [(1,(2,(.t 12)))]),6,none⟩,⟨none,(.store 3 (.t 6) (.t 13)),6,none⟩] none) .ret))
def Jm:List IRes:=[(.cell true 3 6)]
abbrev M5:Nat:=14
def Gj:ZE:=Xi [(91,.pure (preT (fun _:Int×Unit=>true)) (Zg (fun x:Int×Unit=>(⟨x.1,[]⟩:Lin)))),(89,.pure (preT (fun x:Lin×Str×Int×Unit=>decide (x.1.t.length<=1000000))) (Zg (fun x:Lin×Str×Int×Unit=>Q7 x.1 x.2.1 x.2.2.1)))]
theorem ES{G:PV->Prop}(a b c:Int)(h : ∃ y0:Lin,AV.pv (Zg (fun(x:Int×Unit)=>Lin.mk x.1 []) [(.int .i64 c)])=AV.pv (enc y0)∧((Go.Pl.preT (fun(x:Lin×Str×Int×Unit)=>decide (List.length x.1.t<=1000000)) [(.agg [(.int .i64 y0.k),(.sl 2 false (List.map enc y0.t))]),(.str [(110:UInt8)]),(.int .i64 a)])=true∧(∃ y1:Lin,AV.pv (Zg (fun(x:Lin×Str×Int×Unit)=>Q7 x.1 x.2.1 x.2.2.1) [(.agg [(.int .i64 y0.k),(.sl 2 false (List.map enc y0.t))]),(.str [(110:UInt8)]),(.int .i64 a)])=AV.pv (enc y1)∧((Go.Pl.preT (fun(x:Lin×Str×Int×Unit)=>decide (List.length x.1.t<=1000000)) [(.agg [(.int .i64 y1.k),(.sl 2 false (List.map enc y1.t))]),(.str [(109:UInt8)]),(.int .i64 b)])=true∧(∃ y2:Lin,AV.pv (Zg (fun(x:Lin×Str×Int×Unit)=>Q7 x.1 x.2.1 x.2.2.1) [(.agg [(.int .i64 y1.k),(.sl 2 false (List.map enc y1.t))]),(.str [(109:UInt8)]),(.int .i64 b)])=AV.pv (enc y2)∧(G ((.agg [(.bool false),(.int .i64 y2.k),(.sl 2 false (List.map enc y2.t))])))))))):Zc Gj 0 (Za Jm G) K4 [] (Yx 14 [enc a,enc b,enc c]):=Zc.tp (.lit (.abs (Lin) (fun YY=>AV.pv (enc YY)) (.req (.abs (Lin) (fun YY=>AV.pv (enc YY)) (.req (.abs (Lin) (fun YY=>AV.pv (enc YY)) (.nil))))))) h (by kernel_rfl)
def Jd:IC:=(.seq (.reg [⟨(some 0),(.mv (.c (.bool false))),0,none⟩] none) (.seq (.reg [⟨(some 9),(.bslice 9 1 2 (.str []) [(0,(.c (.str [110]))),(1,(.c (.str [109])))]),0,none⟩,⟨(some 10),(.build [(.sl 0 true []),(.int .i64 0)] [(0,(1,(.t 9))),(1,(1,(.c (.int .i64 3))))]),1,none⟩,⟨(some 1),(.alloc (.agg [(.sl 0 true []),(.int .i64 0)])),1,none⟩,⟨none,(.store 2 (.t 1) (.t 10)),2,none⟩] none) (.seq (.reg [⟨(some 11),(.call (.c (.fn 115)) [(.c (.int .i64 1)),(.c (.int .i64 (-1))),(.c (.int .i64 (-1)))]),0,none⟩,⟨(some 12),(.bslice 100 3 1 (.agg [(.bool false),(.int .i64 0),(.sl 0 true [])]) [(0,(.t 11))]),2,none⟩,⟨(some 2),(.mv (.t 12)),3,none⟩] none) (.seq (.reg [⟨(some 14),(.load true [(.sl 1),(.int .i64)] (.t 1)),0,none⟩,⟨(some 15),(.mv (.t 2)),0,none⟩,⟨(some 16),(.call (.c (.fn 47)) [(.t 14),(.t 15)]),0,none⟩,⟨(some 13),(.mv (.t 16)),2,none⟩,⟨(some 17),(.extract (.t 13) 0),2,none⟩,⟨(some 18),(.extract (.t 13) 1),2,none⟩,⟨(some 3),(.mv (.t 17)),2,none⟩,⟨(some 4),(.mv (.t 18)),2,none⟩] none) (.seq (.reg [⟨(some 20),(.load true [(.sl 1),(.int .i64)] (.t 1)),0,none⟩,⟨(some 21),(.mv (.t 2)),0,none⟩,⟨(some 22),(.call (.c (.fn 115)) [(.c (.int .i64 2)),(.c (.int .i64 1)),(.c (.int .i64 0))]),0,none⟩,⟨(some 23),(.field true 1 2 (.t 22)),2,none⟩,⟨(some 24),(.call (.c (.fn 58)) [(.t 20),(.t 21),(.t 23)]),2,none⟩,⟨(some 19),(.mv (.t 24)),4,none⟩,⟨(some 25),(.extract (.t 19) 0),4,none⟩,⟨(some 26),(.extract (.t 19) 1),4,none⟩,⟨(some 5),(.mv (.t 25)),4,none⟩,⟨(some 6),(.mv (.t 26)),4,none⟩] (some [[],[],[],[2],[0,1,3,2],[4,0,1,3,2],[5,4,0,1,3,2],[5,4,0,1,3,2],[6,4,0,1,2,3,5],[7,8,0,1,2,3,4,5,6]])) (.seq (.reg [⟨(some 28),(.load true [(.sl 1),(.int .i64)] (.t 1)),0,none⟩,⟨(some 29),(.mv (.t 2)),0,none⟩,⟨(some 30),(.bslice 9 1 2 (.str []) [(0,(.c (.str [109]))),(1,(.c (.str [110])))]),0,none⟩,⟨(some 31),(.build [(.int .i64 0),(.sl 0 true [])] [(0,(1,(.c (.int .i64 1)))),(1,(1,(.t 30)))]),1,none⟩,⟨(some 32),(.bslice 104 2 1 (.agg [(.int .i64 0),(.sl 0 true [])]) [(0,(.t 31))]),1,none⟩,⟨(some 33),(.call (.c (.fn 57)) [(.t 28),(.t 29),(.t 32)]),2,none⟩,⟨(some 27),(.mv (.t 33)),4,none⟩,⟨(some 34),(.extract (.t 27) 0),4,none⟩,⟨(some 35),(.extract (.t 27) 1),4,none⟩,⟨(some 7),(.mv (.t 34)),4,none⟩,⟨(some 8),(.mv (.t 35)),4,none⟩] none) (.seq (.reg [⟨(some 36),(.mv (.t 3)),0,none⟩,⟨(some 37),(.bin .num .eql (.t 36) (.c (.int .i64 6))),0,none⟩,⟨(some 38),(.mv (.t 37)),0,none⟩,⟨(some 39),(.mv (.t 5)),0,(some (38,true))⟩,⟨(some 40),(.bin .num .eql (.t 39) (.c (.int .i64 2))),0,(some (38,true))⟩,⟨(some 41),(.pick (.t 38) (.t 40) (.c (.bool false))),0,none⟩,⟨(some 42),(.mv (.t 41)),0,none⟩,⟨(some 43),(.mv (.t 7)),0,(some (42,true))⟩,⟨(some 44),(.bin .num .eql (.t 43) (.c (.int .i64 11))),0,(some (42,true))⟩,⟨(some 45),(.pick (.t 42) (.t 44) (.c (.bool false))),0,none⟩,⟨(some 46),(.mv (.t 45)),0,none⟩,⟨(some 47),(.mv (.t 4)),0,(some (46,true))⟩,⟨(some 48),(.bin .num .eql (.t 47) (.c (.int .i64 0))),0,(some (46,true))⟩,⟨(some 49),(.pick (.t 46) (.t 48) (.c (.bool false))),0,none⟩,⟨(some 50),(.mv (.t 49)),0,none⟩,⟨(some 51),(.mv (.t 6)),0,(some (50,true))⟩,⟨(some 52),(.bin .num .eql (.t 51) (.c (.int .i64 0))),0,(some (50,true))⟩,⟨(some 53),(.pick (.t 50) (.t 52) (.c (.bool false))),0,none⟩,⟨(some 54),(.mv (.t 53)),0,none⟩,⟨(some 55),(.mv (.t 8)),0,(some (54,true))⟩,⟨(some 56),(.bin .num .eql (.t 55) (.c (.int .i64 0))),0,(some (54,true))⟩,⟨(some 57),(.pick (.t 54) (.t 56) (.c (.bool false))),0,none⟩,⟨(some 58),(.mv (.t 57)),0,none⟩,⟨(some 59),(.load true [(.sl 1),(.int .i64)] (.t 1)),0,(some (58,true))⟩,⟨(some 60),(.call (.c (.fn 50)) [(.t 59)]),0,(some (58,true))⟩,⟨(some 61),(.pick (.t 58) (.t 60) (.c (.bool false))),2,none⟩,⟨(some 0),(.mv (.t 61)),2,none⟩] none) .ret)))))))
def Jv:List IRes:=[(.tmp 0)]
abbrev Oj:Nat:=62
def Hr:ZE:=Xi [(115,.pure (preT (fun _:Int×Int×Int×Unit=>true)) (Zg (fun x:Int×Int×Int×Unit=>QW x.1 x.2.1 x.2.2.1))),(47,.pure (preT (fun x:BoxT×List Fact×Unit=>ZW x.1&&Zm x.2.1&&decide (x.2.1.length<=100)&&decide (x.1.v.length<=1000))) (Zg (fun x:BoxT×List Fact×Unit=>J8 x.1 x.2.1))),(58,.pure (preT (fun x:BoxT×List Fact×Lin×Unit=>Ud x.1 x.2.1 x.2.2.1)) (Zg (fun x:BoxT×List Fact×Lin×Unit=>Uv Yl x.1 x.2.1 x.2.2.1))),(57,.pure (preT (fun x:BoxT×List Fact×List Mono×Unit=>Jh x.1 x.2.1 x.2.2.1)) (Zg (fun x:BoxT×List Fact×List Mono×Unit=>X9 x.1 x.2.1 x.2.2.1))),(50,.pure (preT (fun x:BoxT×Unit=>ZW x.1)) (Zg (fun x:BoxT×Unit=>Xh x.1)))]
theorem EY{G:PV->Prop}(h : ∃ y0:Fact,AV.pv (Zg (fun(x:Int×Int×Int×Unit)=>QW x.1 x.2.1 x.2.2.1) [(.int .i64 1),(.int .i64 (-1)),(.int .i64 (-1))])=AV.pv (enc y0)∧((Go.Pl.preT (fun(x:BoxT×List Fact×Unit)=>ZW x.1&&Zm x.2.1&&decide (List.length x.2.1<=100)&&decide (List.length x.1.v<=1000)) [(.agg [(.sl 1 false [(.str [(110:UInt8)]),(.str [(109:UInt8)])]),(.int .i64 3)]),(.sl 3 false [(.agg [(.bool y0.eq),(.int .i64 (Lin.k y0.l)),(.sl 2 false (List.map enc (Lin.t y0.l)))])])])=true∧(∃ y1:Int×Int,AV.pv (Zg (fun(x:BoxT×List Fact×Unit)=>J8 x.1 x.2.1) [(.agg [(.sl 1 false [(.str [(110:UInt8)]),(.str [(109:UInt8)])]),(.int .i64 3)]),(.sl 3 false [(.agg [(.bool y0.eq),(.int .i64 (Lin.k y0.l)),(.sl 2 false (List.map enc (Lin.t y0.l)))])])])=AV.pv (enc y1)∧(∃ y2:Fact,AV.pv (Zg (fun(x:Int×Int×Int×Unit)=>QW x.1 x.2.1 x.2.2.1) [(.int .i64 2),(.int .i64 1),(.int .i64 0)])=AV.pv (enc y2)∧((Go.Pl.preT (fun(x:BoxT×List Fact×Lin×Unit)=>Ud x.1 x.2.1 x.2.2.1) [(.agg [(.sl 1 false [(.str [(110:UInt8)]),(.str [(109:UInt8)])]),(.int .i64 3)]),(.sl 3 false [(.agg [(.bool y0.eq),(.int .i64 (Lin.k y0.l)),(.sl 2 false (List.map enc (Lin.t y0.l)))])]),(.agg [(.int .i64 (Lin.k y2.l)),(.sl 2 false (List.map enc (Lin.t y2.l)))])])=true∧(∃ y3:Int×Int,AV.pv (Zg (fun(x:BoxT×List Fact×Lin×Unit)=>Uv Yl x.1 x.2.1 x.2.2.1) [(.agg [(.sl 1 false [(.str [(110:UInt8)]),(.str [(109:UInt8)])]),(.int .i64 3)]),(.sl 3 false [(.agg [(.bool y0.eq),(.int .i64 (Lin.k y0.l)),(.sl 2 false (List.map enc (Lin.t y0.l)))])]),(.agg [(.int .i64 (Lin.k y2.l)),(.sl 2 false (List.map enc (Lin.t y2.l)))])])=AV.pv (enc y3)∧((Go.Pl.preT (fun(x:BoxT×List Fact×List Mono×Unit)=>Jh x.1 x.2.1 x.2.2.1) [(.agg [(.sl 1 false [(.str [(110:UInt8)]),(.str [(109:UInt8)])]),(.int .i64 3)]),(.sl 3 false [(.agg [(.bool y0.eq),(.int .i64 (Lin.k y0.l)),(.sl 2 false (List.map enc (Lin.t y0.l)))])]),(.sl 2 false [(.agg [(.int .i64 1),(.sl 1 false [(.str [(109:UInt8)]),(.str [(110:UInt8)])])])])])=true∧(∃ y4:Int×Int,AV.pv (Zg (fun(x:BoxT×List Fact×List Mono×Unit)=>X9 x.1 x.2.1 x.2.2.1) [(.agg [(.sl 1 false [(.str [(110:UInt8)]),(.str [(109:UInt8)])]),(.int .i64 3)]),(.sl 3 false [(.agg [(.bool y0.eq),(.int .i64 (Lin.k y0.l)),(.sl 2 false (List.map enc (Lin.t y0.l)))])]),(.sl 2 false [(.agg [(.int .i64 1),(.sl 1 false [(.str [(109:UInt8)]),(.str [(110:UInt8)])])])])])=AV.pv (enc y4)∧(if (y1.1==6)=true then if (y3.1==2)=true then if (y4.1==11)=true then if (y1.2==0)=true then if (y3.2==0)=true then if (y4.2==0)=true then ∃ y5:Bool,AV.pv (Zg (fun(x:BoxT×Unit)=>Xh x.1) [(.agg [(.sl 1 false [(.str [(110:UInt8)]),(.str [(109:UInt8)])]),(.int .i64 3)])])=AV.pv (enc y5)∧(G ((.bool y5)))else(G ((.bool false)))else(G ((.bool false)))else(G ((.bool false)))else(G ((.bool false)))else(G ((.bool false)))else(G ((.bool false)))))))))))):Zc Hr 0 (Za Jv G) Jd [] (Yx 62 []):=Zc.tp (.lit (.lit (.abs (Fact) (fun YY=>AV.pv (enc YY)) (.lit (.lit (.lit (.req (.abs (Int×Int) (fun YY=>AV.pv (enc YY)) (.lit (.abs (Fact) (fun YY=>AV.pv (enc YY)) (.lit (.lit (.req (.abs (Int×Int) (fun YY=>AV.pv (enc YY)) (.lit (.lit (.lit (.lit (.lit (.lit (.req (.abs (Int×Int) (fun YY=>AV.pv (enc YY)) (.lit (.ask (.lit (.lit (.lit (.ask (.lit (.lit (.lit (.ask (.lit (.lit (.lit (.ask (.lit (.lit (.lit (.ask (.lit (.lit (.lit (.ask (.lit (.lit (.lit (.abs (Bool) (fun YY=>AV.pv (enc YY)) (.lit (.nil)))))) (.lit (.lit (.nil))))))) (.lit (.lit (.lit (.lit (.lit (.nil)))))))))) (.lit (.lit (.lit (.lit (.lit (.lit (.lit (.lit (.nil))))))))))))) (.lit (.lit (.lit (.lit (.lit (.lit (.lit (.lit (.lit (.lit (.lit (.nil)))))))))))))))) (.lit (.lit (.lit (.lit (.lit (.lit (.lit (.lit (.lit (.lit (.lit (.lit (.lit (.lit (.nil))))))))))))))))))) (.lit (.lit (.lit (.lit (.lit (.lit (.lit (.lit (.lit (.lit (.lit (.lit (.lit (.lit (.lit (.lit (.lit (.nil)))))))))))))))))))))))))))))))))))))))))) h (by kernel_rfl)
end Go.Pl

namespace Go.Pl
open Go.RowKit
open Enc (enc dec is)
open EncL (encL decL isL)
theorem NY: ∀ x:Int×Int×Int×Unit,(fun _:Int×Int×Int×Unit=>true) x=true->Zc Gj 0 (Za Jm (Zf (QW x.1 x.2.1 x.2.2.1))) K4 [] (Yx M5 (encL x)):=by
 rintro⟨a,b,c,⟨⟩⟩ -
 have h1:=a8d ⟨c,[]⟩ xN a
 refine ES a b c (Zi (c,()) rfl ⟨Zl ((⟨c,[]⟩:Lin),xN,a,()) rfl rfl,Zi ((⟨c,[]⟩:Lin),xN,a,()) rfl ⟨Zl (Q7 ⟨c,[]⟩ xN a,xM,b,()) rfl ?_,Zi (Q7 ⟨c,[]⟩ xN a,xM,b,()) rfl ?_⟩⟩)
 ·exact decide_eq_true (Nat.le_trans h1 (show 0+1<=1000000 by decide))
 ·exact ZU (x:=QW a b c) rfl
def Hq:BoxT:=⟨[xN,xM],3⟩
def Gc:Fact:=⟨false,⟨-1,[⟨xM,-1⟩,⟨xN,1⟩]⟩⟩
def a3b:Lin:=⟨0,[⟨xM,1⟩,⟨xN,2⟩]⟩
def a6u:List Mono:=[⟨1,[xM,xN]⟩]
theorem b7f:QW 1 (-1) (-1)=Gc:=by decide
theorem b9m:(QW 2 1 0).l=a3b:=by decide
theorem FY:Yb Hq [Gc]=[[1,0],[2,0],[2,1],[3,0],[3,1],[3,2]]:=by kernel_rfl
theorem a9o:Zp Hq [Gc] true [xM,xN]=0:=by kernel_rfl
theorem b7d:Zp Hq [Gc] true []=0:=by kernel_rfl
theorem a8g:J8 Hq [Gc]=(6,0):=by
 unfold J8 Z9
 rw[if_pos b7d,FY];rfl
theorem a6v:Uv Yl Hq [Gc] a3b=(2,0):=by
 have h1:Zw a3b=true:=by kernel_rfl
 have h2:Zn a3b=[xM,xN]:=rfl
 unfold Uv YA
 rw[h1,h2,if_pos a9o,FY]
 decide +kernel
theorem c0t:X9 Hq [Gc] a6u=(11,0):=by
 have h1:ZZ a6u=true:=by kernel_rfl
 have h2:Yt a6u=[xM,xN]:=by rw[Sw];kernel_rfl
 unfold X9
 rw[h1,h2,if_pos a9o,FY]
 decide +kernel
theorem PN: ∀ a:Unit,(fun _:Unit=>true) a=true->Zc Hr 0 (Za Jv (Zf true)) Jd [] (Yx Oj (encL a)):=by
 rintro⟨⟩ -
 refine EY (Zi ((1:Int),(-1:Int),(-1:Int),()) rfl ?_)
 simp only[b7f]
 refine⟨Zl (Hq,[Gc],()) rfl (by decide),Zi (Hq,[Gc],()) rfl (Zi ((2:Int),(1:Int),(0:Int),()) rfl ?_)⟩
 simp only[a8g,b9m]
 refine⟨Zl (Hq,[Gc],a3b,()) rfl (by decide),Zi (Hq,[Gc],a3b,()) rfl ?_⟩
 simp only[a6v]
 refine⟨Zl (Hq,[Gc],a6u,()) rfl (by decide),Zi (Hq,[Gc],a6u,()) rfl ?_⟩
 simp only[c0t]
 refine ZQ rfl (ZQ rfl (ZQ rfl (ZQ rfl (ZQ rfl (ZQ rfl (Zi (Hq,()) rfl (ZJ ?_)))))))
 kernel_rfl
end Go.Pl

namespace Go.Pl
open Go.RowKit
open Enc (enc dec is)
open EncL (encL decL isL)
set_option maxRecDepth 100000
def ZM:IC:=(.seq (.reg [⟨(some 3),(.box 2 (.t 0)),0,none⟩,⟨(some 6),(.mv (.c (.bool false))),1,none⟩] none) (.seq (.seq (.reg [⟨(some 14),(.call (.c (.fn 43)) []),0,none⟩,⟨(some 15),(.un .not (.t 14)),2,none⟩] none) (.cond (.t 15) (.seq (.reg [⟨(some 6),(.mv (.c (.bool false))),0,none⟩] none) .ret) .skip)) (.seq (.seq (.reg [⟨(some 16),(.load true [(.sl 1),(.int .i64)] (.t 3)),0,none⟩,⟨(some 17),(.mv (.t 1)),0,none⟩,⟨(some 18),(.call (.c (.fn 44)) [(.t 16),(.t 17)]),0,none⟩,⟨(some 19),(.un .not (.t 18)),2,none⟩,⟨(some 20),(.mv (.t 19)),2,none⟩,⟨(some 21),(.mv (.t 2)),2,(some (20,false))⟩,⟨(some 22),(.len 1 (.t 21)),2,(some (20,false))⟩,⟨(some 23),(.bin .num .gtr (.t 22) (.c (.int .i64 8))),2,(some (20,false))⟩,⟨(some 24),(.pick (.t 20) (.c (.bool true)) (.t 23)),2,none⟩] none) (.cond (.t 24) (.seq (.reg [⟨(some 6),(.mv (.c (.bool true))),0,none⟩] none) .ret) .skip)) (.seq (.reg [⟨(some 26),(.load true [(.sl 1),(.int .i64)] (.t 3)),0,none⟩,⟨(some 27),(.mv (.t 1)),0,none⟩,⟨(some 28),(.call (.c (.fn 45)) [(.t 26),(.t 27)]),0,none⟩,⟨(some 25),(.mv (.t 28)),2,none⟩,⟨(some 29),(.extract (.t 25) 0),2,none⟩,⟨(some 30),(.extract (.t 25) 1),2,none⟩,⟨(some 7),(.mv (.t 29)),2,none⟩,⟨(some 8),(.mv (.t 30)),2,none⟩] none) (.seq (.seq (.reg [⟨(some 31),(.mv (.t 8)),0,none⟩,⟨(some 32),(.bin .num .neq (.t 31) (.c (.int .i64 0))),0,none⟩] none) (.cond (.t 32) (.seq (.reg [⟨(some 33),(.mv (.t 7)),0,none⟩,⟨(some 34),(.len 1 (.t 33)),0,none⟩,⟨(some 35),(.bin .num .eql (.t 34) (.c (.int .i64 0))),0,none⟩,⟨(some 6),(.mv (.t 35)),0,none⟩] none) .ret) .skip)) (.seq (.reg [⟨(some 36),(.mv (.t 2)),0,none⟩,⟨(some 37),(.len 1 (.t 36)),0,none⟩,⟨(some 38),(.faddr 0 (.t 3)),0,none⟩,⟨(some 39),(.load false [(.sl 1)] (.t 38)),0,none⟩,⟨(some 40),(.len 1 (.t 39)),0,none⟩,⟨(some 41),(.bin .num .eql (.t 37) (.t 40)),0,none⟩,⟨(some 42),(.mv (.t 41)),0,none⟩,⟨(some 43),(.mv (.t 1)),0,(some (42,true))⟩,⟨(some 44),(.load true [(.sl 1),(.int .i64)] (.t 3)),0,(some (42,true))⟩,⟨(some 45),(.mv (.t 2)),0,(some (42,true))⟩,⟨(some 46),(.call (.c (.fn 49)) [(.t 44),(.t 45)]),0,(some (42,true))⟩,⟨(some 47),(.call (.c (.fn 53)) [(.t 43),(.t 46)]),2,(some (42,true))⟩,⟨(some 48),(.pick (.t 42) (.t 47) (.c (.bool false))),4,none⟩,⟨(some 9),(.mv (.t 48)),4,none⟩] none) (.seq (.seq (.reg [⟨(some 10),(.mv (.c (.int .i64 0))),0,none⟩] none) (.block 0 (.loop [10,2,9,3,7] (.seq (.seq (.reg [⟨(some 49),(.mv (.t 10)),0,none⟩,⟨(some 50),(.mv (.t 2)),0,none⟩,⟨(some 51),(.len 1 (.t 50)),0,none⟩,⟨(some 52),(.bin .num .lss (.t 49) (.t 51)),0,none⟩] none) (.cond (.t 52) .skip (.exit 0))) (.seq (.block 1 (.reg [⟨(some 55),(.mv (.t 9)),0,none⟩,⟨(some 56),(.mv (.t 55)),0,none⟩,⟨(some 57),(.mv (.t 2)),0,(some (56,true))⟩,⟨(some 58),(.mv (.t 10)),0,(some (56,true))⟩,⟨(some 59),(.iaddr 1 (.t 57) (.t 58)),0,(some (56,true))⟩,⟨(some 60),(.load false [(.int .i64)] (.t 59)),0,(some (56,true))⟩,⟨(some 61),(.bin .num .geq (.t 60) (.c (.int .i64 0))),0,(some (56,true))⟩,⟨(some 62),(.pick (.t 56) (.t 61) (.c (.bool false))),0,none⟩,⟨(some 63),(.mv (.t 62)),0,none⟩,⟨(some 64),(.mv (.t 2)),0,(some (63,true))⟩,⟨(some 65),(.mv (.t 10)),0,(some (63,true))⟩,⟨(some 66),(.iaddr 1 (.t 64) (.t 65)),0,(some (63,true))⟩,⟨(some 67),(.load false [(.int .i64)] (.t 66)),0,(some (63,true))⟩,⟨(some 68),(.faddr 1 (.t 3)),0,(some (63,true))⟩,⟨(some 69),(.load false [(.int .i64)] (.t 68)),0,(some (63,true))⟩,⟨(some 70),(.bin .num .leq (.t 67) (.t 69)),0,(some (63,true))⟩,⟨(some 71),(.pick (.t 63) (.t 70) (.c (.bool false))),0,none⟩,⟨(some 9),(.mv (.t 71)),0,none⟩] (some [[],[0],[1,0],[1,0],[2,3,1,0],[4,1,2,3,0],[5,1,4,2,3,0],[1,6,0,5,4,2,3],[7,1,6,0,5,4,2,3],[8,7,1,6,0,5,4,2,3],[8,7,1,6,0,5,4,2,3],[9,10,8,7,1,6,0,5,4,2,3],[11,8,9,10,7,1,6,0,5,4,2,3],[8,7,1,6,0,5,4,2,3],[13,8,7,1,6,0,5,4,2,3],[12,14,8,11,9,10,7,1,6,0,5,4,2,3,13],[8,15,7,1,6,0,5,4,2,3,12,14,11,9,10,13],[16,8,0,1,2,3,4,5,6,7,9,10,11,12,13,14,15]]))) (.reg [⟨(some 53),(.mv (.t 10)),0,none⟩,⟨(some 54),(.bin .num .add (.t 53) (.c (.int .i64 1))),0,none⟩,⟨(some 10),(.mv (.t 54)),0,none⟩] none)))))) (.seq (.reg [⟨(some 11),(.mv (.c (.bool false))),0,none⟩] none) (.seq (.seq (.reg [⟨(some 12),(.mv (.c (.int .i64 0))),0,none⟩] none) (.block 2 (.loop [12,7,11,2,3,9] (.seq (.seq (.reg [⟨(some 72),(.mv (.t 12)),0,none⟩,⟨(some 73),(.mv (.t 7)),0,none⟩,⟨(some 74),(.len 1 (.t 73)),0,none⟩,⟨(some 75),(.bin .num .lss (.t 72) (.t 74)),0,none⟩] none) (.cond (.t 75) .skip (.exit 2))) (.seq (.block 3 (.seq (.reg [⟨(some 78),(.mv (.t 11)),0,none⟩,⟨(some 79),(.mv (.t 78)),0,none⟩,⟨(some 80),(.mv (.t 7)),0,(some (79,false))⟩,⟨(some 81),(.mv (.t 12)),0,(some (79,false))⟩,⟨(some 82),(.iaddr 1 (.t 80) (.t 81)),0,(some (79,false))⟩,⟨(some 83),(.load false [(.sl 1)] (.t 82)),0,(some (79,false))⟩,⟨(some 84),(.mv (.t 2)),0,(some (79,false))⟩,⟨(some 85),(.call (.c (.fn 54)) [(.t 83),(.t 84)]),0,(some (79,false))⟩,⟨(some 86),(.pick (.t 79) (.c (.bool true)) (.t 85)),2,none⟩,⟨(some 11),(.mv (.t 86)),2,none⟩] none) (.seq (.seq (.reg [⟨(some 87),(.mv (.t 12)),0,none⟩,⟨(some 88),(.bin .num .eql (.t 87) (.c (.int .i64 0))),0,none⟩] none) (.cond (.t 88) (.exit 3) .skip)) (.seq (.reg [⟨(some 13),(.mv (.c (.int .i64 0))),0,none⟩] none) (.seq (.block 4 (.loop [13,3,7,12,11,2,9] (.seq (.seq (.reg [⟨(some 89),(.mv (.t 13)),0,none⟩,⟨(some 90),(.faddr 0 (.t 3)),0,none⟩,⟨(some 91),(.load false [(.sl 1)] (.t 90)),0,none⟩,⟨(some 92),(.len 1 (.t 91)),0,none⟩,⟨(some 93),(.bin .num .lss (.t 89) (.t 92)),0,none⟩,⟨(some 94),(.mv (.t 93)),0,none⟩,⟨(some 95),(.mv (.t 7)),0,(some (94,true))⟩,⟨(some 96),(.mv (.t 12)),0,(some (94,true))⟩,⟨(some 97),(.bin .num .sub (.t 96) (.c (.int .i64 1))),0,(some (94,true))⟩,⟨(some 98),(.iaddr 1 (.t 95) (.t 97)),0,(some (94,true))⟩,⟨(some 99),(.load false [(.sl 1)] (.t 98)),0,(some (94,true))⟩,⟨(some 100),(.mv (.t 13)),0,(some (94,true))⟩,⟨(some 101),(.iaddr 1 (.t 99) (.t 100)),0,(some (94,true))⟩,⟨(some 102),(.load false [(.int .i64)] (.t 101)),0,(some (94,true))⟩,⟨(some 103),(.mv (.t 7)),0,(some (94,true))⟩,⟨(some 104),(.mv (.t 12)),0,(some (94,true))⟩,⟨(some 105),(.iaddr 1 (.t 103) (.t 104)),0,(some (94,true))⟩,⟨(some 106),(.load false [(.sl 1)] (.t 105)),0,(some (94,true))⟩,⟨(some 107),(.mv (.t 13)),0,(some (94,true))⟩,⟨(some 108),(.iaddr 1 (.t 106) (.t 107)),0,(some (94,true))⟩,⟨(some 109),(.load false [(.int .i64)] (.t 108)),0,(some (94,true))⟩,⟨(some 110),(.bin .num .eql (.t 102) (.t 109)),0,(some (94,true))⟩,⟨(some 111),(.pick (.t 94) (.t 110) (.c (.bool false))),0,none⟩] (some [[],[],[1],[2,1],[0,3,2,1],[4,0,3,2,1],[5,4,0,3,2,1],[5,4,0,3,2,1],[7,5,4,0,3,2,1],[6,8,5,4,0,3,2,1,7],[9,5,6,8,4,0,3,2,1,7],[5,4,0,3,2,1],[10,11,5,9,6,8,4,0,3,2,1,7],[12,5,10,11,9,6,8,4,0,3,2,1,7],[5,4,0,3,2,1],[5,4,0,3,2,1],[14,15,5,4,0,3,2,1],[16,5,14,15,4,0,3,2,1],[5,4,0,3,2,1],[17,18,5,16,14,15,4,0,3,2,1],[19,5,17,18,16,14,15,4,0,3,2,1],[13,20,5,12,10,11,9,6,8,4,0,3,2,1,7,19,17,18,16,14,15],[5,21,4,0,3,2,1,13,20,12,10,11,9,6,8,7,19,17,18,16,14,15]])) (.cond (.t 111) .skip (.exit 4))) (.block 5 (.reg [⟨(some 112),(.mv (.t 13)),0,none⟩,⟨(some 113),(.bin .num .add (.t 112) (.c (.int .i64 1))),0,none⟩,⟨(some 13),(.mv (.t 113)),0,none⟩] none))))) (.seq (.reg [⟨(some 114),(.mv (.t 13)),0,none⟩,⟨(some 115),(.faddr 0 (.t 3)),0,none⟩,⟨(some 116),(.load false [(.sl 1)] (.t 115)),0,none⟩,⟨(some 117),(.len 1 (.t 116)),0,none⟩,⟨(some 118),(.bin .num .eql (.t 114) (.t 117)),0,none⟩,⟨(some 119),(.mv (.t 118)),0,none⟩,⟨(some 120),(.mv (.t 7)),0,(some (119,false))⟩,⟨(some 121),(.mv (.t 12)),0,(some (119,false))⟩,⟨(some 122),(.bin .num .sub (.t 121) (.c (.int .i64 1))),0,(some (119,false))⟩,⟨(some 123),(.iaddr 1 (.t 120) (.t 122)),0,(some (119,false))⟩,⟨(some 124),(.load false [(.sl 1)] (.t 123)),0,(some (119,false))⟩,⟨(some 125),(.mv (.t 13)),0,(some (119,false))⟩,⟨(some 126),(.iaddr 1 (.t 124) (.t 125)),0,(some (119,false))⟩,⟨(some 127),(.load false [(.int .i64)] (.t 126)),0,(some (119,false))⟩,⟨(some 128),(.mv (.t 7)),0,(some (119,false))⟩,⟨(some 129),(.mv (.t 12)),0,(some (119,false))⟩,⟨(some 130),(.iaddr 1 (.t 128) (.t 129)),0,(some (119,false))⟩,⟨(some 131),(.load false [(.sl 1)] (.t 130)),0,(some (119,false))⟩,⟨(some 132),(.mv (.t 13)),0,(some (119,false))⟩,⟨(some 133),(.iaddr 1 (.t 131) (.t 132)),0,(some (119,false))⟩,⟨(some 134),(.load false [(.int .i64)] (.t 133)),0,(some (119,false))⟩,⟨(some 135),(.bin .num .gtr (.t 127) (.t 134)),0,(some (119,false))⟩,⟨(some 136),(.pick (.t 119) (.c (.bool true)) (.t 135)),0,none⟩] (some [[],[],[1],[2,1],[0,3,2,1],[4,0,3,2,1],[5,4,0,3,2,1],[5,4,0,3,2,1],[7,5,4,0,3,2,1],[6,8,5,4,0,3,2,1,7],[9,5,6,8,4,0,3,2,1,7],[5,4,0,3,2,1],[10,11,5,9,6,8,4,0,3,2,1,7],[12,5,10,11,9,6,8,4,0,3,2,1,7],[5,4,0,3,2,1],[5,4,0,3,2,1],[14,15,5,4,0,3,2,1],[16,5,14,15,4,0,3,2,1],[5,4,0,3,2,1],[17,18,5,16,14,15,4,0,3,2,1],[19,5,17,18,16,14,15,4,0,3,2,1],[13,20,5,12,10,11,9,6,8,4,0,3,2,1,7,19,17,18,16,14,15],[5,21,4,0,3,2,1,13,20,12,10,11,9,6,8,7,19,17,18,16,14,15]])) (.cond (.t 136) (.seq (.reg [⟨(some 6),(.mv (.c (.bool false))),0,none⟩] none) .ret) .skip))))))) (.reg [⟨(some 76),(.mv (.t 12)),0,none⟩,⟨(some 77),(.bin .num .add (.t 76) (.c (.int .i64 1))),0,none⟩,⟨(some 12),(.mv (.t 77)),0,none⟩] none)))))) (.seq (.reg [⟨(some 137),(.mv (.t 11)),0,none⟩,⟨(some 138),(.mv (.t 9)),0,none⟩,⟨(some 139),(.bin .bool .eql (.t 137) (.t 138)),0,none⟩,⟨(some 6),(.mv (.t 139)),0,none⟩] none) .ret))))))))))
def ZL:List IRes:=[(.tmp 6)]
abbrev a1n:Nat:=140
def Z0:ZE:=Xi [(43,.pure (preT (fun _:Unit=>true)) (Zg (fun _:Unit=>true))),(44,.pure (preT (fun x:BoxT×List Fact×Unit=>ZW x.1&&YM x.2.1)) (Zg (fun x:BoxT×List Fact×Unit=>Ux x.1 x.2.1))),(45,.pure (preT (fun x:BoxT×List Fact×Unit=>ZW x.1&&Zm x.2.1&&decide (x.2.1.length<=100)&&decide (x.1.v.length<=1000))) (Zg (fun x:BoxT×List Fact×Unit=>Z9 x.1 x.2.1))),(49,.pure (preT (fun x:BoxT×List Int×Unit=>decide (x.1.v.length<=1000)&&Zt x.2.1)) (Zg (fun x:BoxT×List Int×Unit=>Zj x.1.v x.2.1))),(53,.pure (preT (fun x:List Fact×List Coef×Unit=>Zm x.1&&decide (x.2.1.length<=9223372036854775807))) (Zg (fun x:List Fact×List Coef×Unit=>x.1.all fun f=>Ya f x.2.1))),(54,.pure (preT (fun x:List Int×List Int×Unit=>Zt x.1)) (Zg (fun x:List Int×List Int×Unit=>decide (x.1=x.2.1))))]
theorem b1n{G:PV->Prop}(b:BoxT)(fs:List Fact)(p:List Int)(h : ∃ y0:Bool,AV.pv (Zg (fun(x:Unit)=>true) [])=AV.pv (enc y0)∧(if (!y0)=true then G ((.bool false))else((Go.Pl.preT (fun(x:BoxT×List Fact×Unit)=>ZW x.1&&YM x.2.1) [(.agg [(.sl 1 false (List.map enc b.v)),(.int .i64 b.m)]),(.sl 3 false (List.map enc fs))])=true∧(∃ y1:Bool,AV.pv (Zg (fun(x:BoxT×List Fact×Unit)=>Ux x.1 x.2.1) [(.agg [(.sl 1 false (List.map enc b.v)),(.int .i64 b.m)]),(.sl 3 false (List.map enc fs))])=AV.pv (enc y1)∧(if (!y1)=true then G ((.bool true))else(if (decide ((↑(List.length (List.map enc p)):Int)>8))=true then G ((.bool true))else((Go.Pl.preT (fun(x:BoxT×List Fact×Unit)=>ZW x.1&&Zm x.2.1&&decide (List.length x.2.1<=100)&&decide (List.length x.1.v<=1000)) [(.agg [(.sl 1 false (List.map enc b.v)),(.int .i64 b.m)]),(.sl 3 false (List.map enc fs))])=true∧(∃ y2:List (List Int)×Int,AV.pv (Zg (fun(x:BoxT×List Fact×Unit)=>Z9 x.1 x.2.1) [(.agg [(.sl 1 false (List.map enc b.v)),(.int .i64 b.m)]),(.sl 3 false (List.map enc fs))])=AV.pv (enc y2)∧(if (y2.2 != 0)=true then G ((.bool ((↑(List.length (List.map enc y2.1)):Int)==0)))else(if ((↑(List.length (List.map enc p)):Int)==(↑(List.length (List.map enc b.v)):Int))=true then(Go.Pl.preT (fun(x:BoxT×List Int×Unit)=>decide (List.length x.1.v<=1000)&&Zt x.2.1) [(.agg [(.sl 1 false (List.map enc b.v)),(.int .i64 b.m)]),(.sl 1 false (List.map enc p))])=true∧(∃ y3:List Coef,AV.pv (Zg (fun(x:BoxT×List Int×Unit)=>Zj x.1.v x.2.1) [(.agg [(.sl 1 false (List.map enc b.v)),(.int .i64 b.m)]),(.sl 1 false (List.map enc p))])=AV.pv (enc y3)∧((Go.Pl.preT (fun(x:List Fact×List Coef×Unit)=>Zm x.1&&decide (List.length x.2.1<=9223372036854775807)) [(.sl 3 false (List.map enc fs)),(.sl 2 false (List.map enc y3))])=true∧(∃ y4:Bool,AV.pv (Zg (fun(x:List Fact×List Coef×Unit)=>List.all x.1 fun(f:Fact)=>Ya f x.2.1) [(.sl 3 false (List.map enc fs)),(.sl 2 false (List.map enc y3))])=AV.pv (enc y4)∧(At Z0 0 (Za ZL G) ZM 0 140 [(2,(.pv (.sl 1 false (List.map enc p)))),(3,(.ptr 0 0)),(7,(.pv (.sl 1 false (List.map enc y2.1)))),(9,(.pv (.bool y4))),(10,(.pv (.int .i64 0)))] [(.obj (.box [(.pv (.sl 1 false (List.map enc b.v))),(.pv (.int .i64 b.m))]))]))))else(At Z0 0 (Za ZL G) ZM 0 140 [(2,(.pv (.sl 1 false (List.map enc p)))),(3,(.ptr 0 0)),(7,(.pv (.sl 1 false (List.map enc y2.1)))),(9,(.pv (.bool false))),(10,(.pv (.int .i64 0)))] [(.obj (.box [(.pv (.sl 1 false (List.map enc b.v))),(.pv (.int .i64 b.m))]))]))))))))))):Zc Z0 0 (Za ZL G) ZM [] (Yx 140 [enc b,enc fs,enc p]):=Zc.tp (.lit (.abs (Bool) (fun YY=>AV.pv (enc YY)) (.ask (.nil) (.req (.abs (Bool) (fun YY=>AV.pv (enc YY)) (.ask (.lit (.lit (.lit (.lit (.nil))))) (.lit (.lit (.lit (.lit (.ask (.nil) (.req (.abs (List (List Int)×Int) (fun YY=>AV.pv (enc YY)) (.lit (.ask (.lit (.nil)) (.lit (.ask (.lit (.lit (.lit (.req (.abs (List Coef) (fun YY=>AV.pv (enc YY)) (.lit (.req (.abs (Bool) (fun YY=>AV.pv (enc YY)) (.lit (.nil)))))))))) (.lit (.lit (.lit (.lit (.lit (.nil))))))))))))))))))))))) h (by kernel_rfl)
theorem AX{G:PV->Prop}(b:BoxT)(fs:List Fact)(p:List Int)(l:List (List Int))(want:Bool)(i:Int)(h:if (decide (i<(↑(List.length (List.map enc p)):Int)))=true then if (want)=true then(decide (0<=i)&&decide (Int.toNat i<List.length (List.map enc p))&&Enc.sz Int==1)=true∧(∃ y0:Int,AV.pv (PV.rptr (PV.cells (List.getD (List.map enc p) (Int.toNat i) default)))=AV.pv (PV.rptr (PV.cells ((enc) y0)))∧(if (decide (PV.asInt (List.getD (PV.cells (enc y0)) 0 default) ≥ 0))=true then(decide (0<=i)&&decide (Int.toNat i<List.length (List.map enc p))&&Enc.sz Int==1)=true∧(∃ y1:Int,AV.pv (PV.rptr (PV.cells (List.getD (List.map enc p) (Int.toNat i) default)))=AV.pv (PV.rptr (PV.cells ((enc) y1)))∧(At Z0 0 (Za ZL G) ZM 0 140 [(2,(.pv (.sl 1 false (List.map enc p)))),(3,(.ptr 0 0)),(7,(.pv (.sl 1 false (List.map enc l)))),(9,(.pv (.bool (decide (PV.asInt (List.getD (PV.cells (enc y1)) 0 default)<=BoxT.m b))))),(10,(.pv (.int .i64 (IntKind.wrap IntKind.i64 (i+1)))))] [(.obj (.box [(.pv (.sl 1 false (List.map enc b.v))),(.pv (.int .i64 b.m))]))]))else(At Z0 0 (Za ZL G) ZM 0 140 [(2,(.pv (.sl 1 false (List.map enc p)))),(3,(.ptr 0 0)),(7,(.pv (.sl 1 false (List.map enc l)))),(9,(.pv (.bool false))),(10,(.pv (.int .i64 (IntKind.wrap IntKind.i64 (i+1)))))] [(.obj (.box [(.pv (.sl 1 false (List.map enc b.v))),(.pv (.int .i64 b.m))]))])))else(At Z0 0 (Za ZL G) ZM 0 140 [(2,(.pv (.sl 1 false (List.map enc p)))),(3,(.ptr 0 0)),(7,(.pv (.sl 1 false (List.map enc l)))),(9,(.pv (.bool false))),(10,(.pv (.int .i64 (IntKind.wrap IntKind.i64 (i+1)))))] [(.obj (.box [(.pv (.sl 1 false (List.map enc b.v))),(.pv (.int .i64 b.m))]))])else(At Z0 0 (Za ZL G) ZM 1 140 [(2,(.pv (.sl 1 false (List.map enc p)))),(3,(.ptr 0 0)),(7,(.pv (.sl 1 false (List.map enc l)))),(9,(.pv (.bool want))),(11,(.pv (.bool false))),(12,(.pv (.int .i64 0)))] [(.obj (.box [(.pv (.sl 1 false (List.map enc b.v))),(.pv (.int .i64 b.m))]))])):At Z0 0 (Za ZL G) ZM 0 140 [(2,.pv (enc p)),(3,.ptr 0 0),(7,.pv (enc l)),(9,.pv (.bool want)),(10,.pv (.int .i64 i))] [.obj (.box [.pv (enc b.v),.pv (.int .i64 b.m)])]:=At.tp (.lit (.ask (.ask (.lit (.lit (.req (.abs (Int) (fun YY=>AV.pv (PV.rptr (PV.cells ((enc) YY)))) (.lit (.lit (.lit (.lit (.lit (.ask (.lit (.lit (.req (.abs (Int) (fun YY=>AV.pv (PV.rptr (PV.cells ((enc) YY)))) (.lit (.lit (.lit (.lit (.lit (.lit (.lit (.lit (.nil))))))))))))) (.lit (.lit (.lit (.lit (.lit (.lit (.lit (.lit (.nil))))))))))))))))))) (.lit (.lit (.lit (.lit (.lit (.lit (.lit (.lit (.lit (.lit (.lit (.lit (.lit (.lit (.nil)))))))))))))))) (.nil))) h (by kernel_rfl)
theorem SC{G:PV->Prop}(b:BoxT)(fs:List Fact)(p:List Int)(l:List (List Int))(want has:Bool)(i:Int)(h:if (decide (i<(↑(List.length (List.map enc l)):Int)))=true then if (has)=true then if (i==0)=true then At Z0 0 (Za ZL G) ZM 1 140 [(2,(.pv (.sl 1 false (List.map enc p)))),(3,(.ptr 0 0)),(7,(.pv (.sl 1 false (List.map enc l)))),(9,(.pv (.bool want))),(11,(.pv (.bool true))),(12,(.pv (.int .i64 (IntKind.wrap IntKind.i64 (i+1)))))] [(.obj (.box [(.pv (.sl 1 false (List.map enc b.v))),(.pv (.int .i64 b.m))]))]else(At Z0 0 (Za ZL G) ZM 2 140 [(2,(.pv (.sl 1 false (List.map enc p)))),(3,(.ptr 0 0)),(7,(.pv (.sl 1 false (List.map enc l)))),(9,(.pv (.bool want))),(11,(.pv (.bool true))),(12,(.pv (.int .i64 i))),(13,(.pv (.int .i64 0)))] [(.obj (.box [(.pv (.sl 1 false (List.map enc b.v))),(.pv (.int .i64 b.m))]))])else((decide (0<=i)&&decide (Int.toNat i<List.length (List.map enc l))&&Enc.sz (List Int)==1)=true∧(∃ y0:List Int,AV.pv (PV.rptr (PV.cells (List.getD (List.map enc l) (Int.toNat i) default)))=AV.pv (PV.rptr (PV.cells ((enc) y0)))∧((Go.Pl.preT (fun(x:List Int×List Int×Unit)=>Zt x.1) [(.sl 1 false (PV.asXs (List.getD (PV.cells (enc y0)) 0 default))),(.sl 1 false (List.map enc p))])=true∧(∃ y1:Bool,AV.pv (Zg (fun(x:List Int×List Int×Unit)=>decide (x.1=x.2.1)) [(.sl 1 false (PV.asXs (List.getD (PV.cells (enc y0)) 0 default))),(.sl 1 false (List.map enc p))])=AV.pv (enc y1)∧(if (i==0)=true then At Z0 0 (Za ZL G) ZM 1 140 [(2,(.pv (.sl 1 false (List.map enc p)))),(3,(.ptr 0 0)),(7,(.pv (.sl 1 false (List.map enc l)))),(9,(.pv (.bool want))),(11,(.pv (.bool y1))),(12,(.pv (.int .i64 (IntKind.wrap IntKind.i64 (i+1)))))] [(.obj (.box [(.pv (.sl 1 false (List.map enc b.v))),(.pv (.int .i64 b.m))]))]else(At Z0 0 (Za ZL G) ZM 2 140 [(2,(.pv (.sl 1 false (List.map enc p)))),(3,(.ptr 0 0)),(7,(.pv (.sl 1 false (List.map enc l)))),(9,(.pv (.bool want))),(11,(.pv (.bool y1))),(12,(.pv (.int .i64 i))),(13,(.pv (.int .i64 0)))] [(.obj (.box [(.pv (.sl 1 false (List.map enc b.v))),(.pv (.int .i64 b.m))]))]))))))else(G ((.bool (has==want))))):At Z0 0 (Za ZL G) ZM 1 140 [(2,.pv (enc p)),(3,.ptr 0 0),(7,.pv (enc l)),(9,.pv (.bool want)),(11,.pv (.bool has)),(12,.pv (.int .i64 i))] [.obj (.box [.pv (enc b.v),.pv (.int .i64 b.m)])]:=At.tp (.lit (.ask (.ask (.lit (.lit (.lit (.lit (.lit (.lit (.lit (.ask (.lit (.nil)) (.nil))))))))) (.lit (.lit (.req (.abs (List Int) (fun YY=>AV.pv (PV.rptr (PV.cells ((enc) YY)))) (.lit (.lit (.lit (.lit (.req (.abs (Bool) (fun YY=>AV.pv (enc YY)) (.lit (.lit (.ask (.lit (.nil)) (.nil))))))))))))))) (.lit (.nil)))) h (by kernel_rfl)
theorem AP{G:PV->Prop}(b:BoxT)(fs:List Fact)(p:List Int)(l:List (List Int))(want has:Bool)(i k:Int)(h:if (decide (k<(↑(List.length (List.map enc b.v)):Int)))=true then(decide (0<=IntKind.wrap IntKind.i64 (i - 1))&&decide (Int.toNat (IntKind.wrap IntKind.i64 (i - 1))<List.length (List.map enc l))&&Enc.sz (List Int)==1)=true∧(∃ y0:List Int,AV.pv (PV.rptr (PV.cells (List.getD (List.map enc l) (Int.toNat (IntKind.wrap IntKind.i64 (i - 1))) default)))=AV.pv (PV.rptr (PV.cells ((enc) y0)))∧((decide (0<=k)&&decide (Int.toNat k<List.length (PV.asXs (List.getD (PV.cells (enc y0)) 0 default)))&&1==1)=true∧((decide (0+List.length [Sh.int .i64]<=List.length (PV.cells (List.getD (PV.asXs (List.getD (PV.cells (enc y0)) 0 default)) (Int.toNat k) default)))&&Y4 (PV.cells (List.getD (PV.asXs (List.getD (PV.cells (enc y0)) 0 default)) (Int.toNat k) default)) 0 [Sh.int .i64])=true∧((decide (0<=i)&&decide (Int.toNat i<List.length (List.map enc l))&&Enc.sz (List Int)==1)=true∧(∃ y1:List Int,AV.pv (PV.rptr (PV.cells (List.getD (List.map enc l) (Int.toNat i) default)))=AV.pv (PV.rptr (PV.cells ((enc) y1)))∧((decide (0<=k)&&decide (Int.toNat k<List.length (PV.asXs (List.getD (PV.cells (enc y1)) 0 default)))&&1==1)=true∧((decide (0+List.length [Sh.int .i64]<=List.length (PV.cells (List.getD (PV.asXs (List.getD (PV.cells (enc y1)) 0 default)) (Int.toNat k) default)))&&Y4 (PV.cells (List.getD (PV.asXs (List.getD (PV.cells (enc y1)) 0 default)) (Int.toNat k) default)) 0 [Sh.int .i64])=true∧(if (PV.asInt (List.getD (PV.cells (List.getD (PV.asXs (List.getD (PV.cells (enc y0)) 0 default)) (Int.toNat k) default)) 0 default)==PV.asInt (List.getD (PV.cells (List.getD (PV.asXs (List.getD (PV.cells (enc y1)) 0 default)) (Int.toNat k) default)) 0 default))=true then At Z0 0 (Za ZL G) ZM 2 140 [(2,(.pv (.sl 1 false (List.map enc p)))),(3,(.ptr 0 0)),(7,(.pv (.sl 1 false (List.map enc l)))),(9,(.pv (.bool want))),(11,(.pv (.bool has))),(12,(.pv (.int .i64 i))),(13,(.pv (.int .i64 (IntKind.wrap IntKind.i64 (k+1)))))] [(.obj (.box [(.pv (.sl 1 false (List.map enc b.v))),(.pv (.int .i64 b.m))]))]else(if (k==(↑(List.length (List.map enc b.v)):Int))=true then G ((.bool false))else((decide (0<=IntKind.wrap IntKind.i64 (i - 1))&&decide (Int.toNat (IntKind.wrap IntKind.i64 (i - 1))<List.length (List.map enc l))&&Enc.sz (List Int)==1)=true∧(∃ y2:List Int,AV.pv (PV.rptr (PV.cells (List.getD (List.map enc l) (Int.toNat (IntKind.wrap IntKind.i64 (i - 1))) default)))=AV.pv (PV.rptr (PV.cells ((enc) y2)))∧((decide (0<=k)&&decide (Int.toNat k<List.length (PV.asXs (List.getD (PV.cells (enc y2)) 0 default)))&&1==1)=true∧((decide (0+List.length [Sh.int .i64]<=List.length (PV.cells (List.getD (PV.asXs (List.getD (PV.cells (enc y2)) 0 default)) (Int.toNat k) default)))&&Y4 (PV.cells (List.getD (PV.asXs (List.getD (PV.cells (enc y2)) 0 default)) (Int.toNat k) default)) 0 [Sh.int .i64])=true∧((decide (0<=i)&&decide (Int.toNat i<List.length (List.map enc l))&&Enc.sz (List Int)==1)=true∧(∃ y3:List Int,AV.pv (PV.rptr (PV.cells (List.getD (List.map enc l) (Int.toNat i) default)))=AV.pv (PV.rptr (PV.cells ((enc) y3)))∧((decide (0<=k)&&decide (Int.toNat k<List.length (PV.asXs (List.getD (PV.cells (enc y3)) 0 default)))&&1==1)=true∧((decide (0+List.length [Sh.int .i64]<=List.length (PV.cells (List.getD (PV.asXs (List.getD (PV.cells (enc y3)) 0 default)) (Int.toNat k) default)))&&Y4 (PV.cells (List.getD (PV.asXs (List.getD (PV.cells (enc y3)) 0 default)) (Int.toNat k) default)) 0 [Sh.int .i64])=true∧(if (decide (PV.asInt (List.getD (PV.cells (List.getD (PV.asXs (List.getD (PV.cells (enc y2)) 0 default)) (Int.toNat k) default)) 0 default)>PV.asInt (List.getD (PV.cells (List.getD (PV.asXs (List.getD (PV.cells (enc y3)) 0 default)) (Int.toNat k) default)) 0 default)))=true then G ((.bool false))else(At Z0 0 (Za ZL G) ZM 1 140 [(2,(.pv (.sl 1 false (List.map enc p)))),(3,(.ptr 0 0)),(7,(.pv (.sl 1 false (List.map enc l)))),(9,(.pv (.bool want))),(11,(.pv (.bool has))),(12,(.pv (.int .i64 (IntKind.wrap IntKind.i64 (i+1)))))] [(.obj (.box [(.pv (.sl 1 false (List.map enc b.v))),(.pv (.int .i64 b.m))]))])))))))))))))))))))else(if (k==(↑(List.length (List.map enc b.v)):Int))=true then G ((.bool false))else((decide (0<=IntKind.wrap IntKind.i64 (i - 1))&&decide (Int.toNat (IntKind.wrap IntKind.i64 (i - 1))<List.length (List.map enc l))&&Enc.sz (List Int)==1)=true∧(∃ y4:List Int,AV.pv (PV.rptr (PV.cells (List.getD (List.map enc l) (Int.toNat (IntKind.wrap IntKind.i64 (i - 1))) default)))=AV.pv (PV.rptr (PV.cells ((enc) y4)))∧((decide (0<=k)&&decide (Int.toNat k<List.length (PV.asXs (List.getD (PV.cells (enc y4)) 0 default)))&&1==1)=true∧((decide (0+List.length [Sh.int .i64]<=List.length (PV.cells (List.getD (PV.asXs (List.getD (PV.cells (enc y4)) 0 default)) (Int.toNat k) default)))&&Y4 (PV.cells (List.getD (PV.asXs (List.getD (PV.cells (enc y4)) 0 default)) (Int.toNat k) default)) 0 [Sh.int .i64])=true∧((decide (0<=i)&&decide (Int.toNat i<List.length (List.map enc l))&&Enc.sz (List Int)==1)=true∧(∃ y5:List Int,AV.pv (PV.rptr (PV.cells (List.getD (List.map enc l) (Int.toNat i) default)))=AV.pv (PV.rptr (PV.cells ((enc) y5)))∧((decide (0<=k)&&decide (Int.toNat k<List.length (PV.asXs (List.getD (PV.cells (enc y5)) 0 default)))&&1==1)=true∧((decide (0+List.length [Sh.int .i64]<=List.length (PV.cells (List.getD (PV.asXs (List.getD (PV.cells (enc y5)) 0 default)) (Int.toNat k) default)))&&Y4 (PV.cells (List.getD (PV.asXs (List.getD (PV.cells (enc y5)) 0 default)) (Int.toNat k) default)) 0 [Sh.int .i64])=true∧(if (decide (PV.asInt (List.getD (PV.cells (List.getD (PV.asXs (List.getD (PV.cells (enc y4)) 0 default)) (Int.toNat k) default)) 0 default)>PV.asInt (List.getD (PV.cells (List.getD (PV.asXs (List.getD (PV.cells (enc y5)) 0 default)) (Int.toNat k) default)) 0 default)))=true then G ((.bool false))else(At Z0 0 (Za ZL G) ZM 1 140 [(2,(.pv (.sl 1 false (List.map enc p)))),(3,(.ptr 0 0)),(7,(.pv (.sl 1 false (List.map enc l)))),(9,(.pv (.bool want))),(11,(.pv (.bool has))),(12,(.pv (.int .i64 (IntKind.wrap IntKind.i64 (i+1)))))] [(.obj (.box [(.pv (.sl 1 false (List.map enc b.v))),(.pv (.int .i64 b.m))]))])))))))))))):At Z0 0 (Za ZL G) ZM 2 140 [(2,.pv (enc p)),(3,.ptr 0 0),(7,.pv (enc l)),(9,.pv (.bool want)),(11,.pv (.bool has)),(12,.pv (.int .i64 i)),(13,.pv (.int .i64 k))] [.obj (.box [.pv (enc b.v),.pv (.int .i64 b.m)])]:=At.tp (.lit (.ask (.lit (.lit (.lit (.lit (.req (.abs (List Int) (fun YY=>AV.pv (PV.rptr (PV.cells ((enc) YY)))) (.lit (.lit (.lit (.lit (.req (.keep (.lit (.req (.lit (.lit (.lit (.req (.abs (List Int) (fun YY=>AV.pv (PV.rptr (PV.cells ((enc) YY)))) (.lit (.lit (.lit (.lit (.req (.keep (.lit (.req (.lit (.lit (.lit (.ask (.lit (.nil)) (.lit (.ask (.lit (.lit (.lit (.lit (.lit (.lit (.lit (.lit (.lit (.lit (.lit (.lit (.lit (.lit (.lit (.lit (.lit (.nil)))))))))))))))))) (.lit (.lit (.lit (.lit (.req (.abs (List Int) (fun YY=>AV.pv (PV.rptr (PV.cells ((enc) YY)))) (.lit (.lit (.lit (.lit (.req (.keep (.lit (.req (.lit (.lit (.lit (.req (.abs (List Int) (fun YY=>AV.pv (PV.rptr (PV.cells ((enc) YY)))) (.lit (.lit (.lit (.lit (.req (.keep (.lit (.req (.lit (.lit (.lit (.ask (.nil) (.lit (.nil)))))))))))))))))))))))))))))))))))))))))))))))))))))))))))))))))) (.lit (.lit (.lit (.lit (.lit (.lit (.lit (.lit (.lit (.lit (.lit (.lit (.lit (.lit (.lit (.lit (.lit (.lit (.ask (.lit (.lit (.lit (.lit (.lit (.lit (.lit (.lit (.lit (.lit (.lit (.lit (.lit (.lit (.lit (.lit (.lit (.nil)))))))))))))))))) (.lit (.lit (.lit (.lit (.req (.abs (List Int) (fun YY=>AV.pv (PV.rptr (PV.cells ((enc) YY)))) (.lit (.lit (.lit (.lit (.req (.keep (.lit (.req (.lit (.lit (.lit (.req (.abs (List Int) (fun YY=>AV.pv (PV.rptr (PV.cells ((enc) YY)))) (.lit (.lit (.lit (.lit (.req (.keep (.lit (.req (.lit (.lit (.lit (.ask (.nil) (.lit (.nil)))))))))))))))))))))))))))))))))))))))))))))))))))))) h (by kernel_rfl)
end Go.Pl

namespace Go.Pl
open Go.RowKit
open Enc (enc dec is)
open EncL (encL decL isL)
theorem b3j{l:Lin}{n:Int}(h:J6 l n=true)(hn:n<=1000):Ym l=true∧(l.t.length:Int)<=n:=by
 unfold J6 at h
 simp only[Bool.and_eq_true,decide_eq_true_eq]at h
 refine⟨?_,h.2⟩
 unfold Ym YW
 rw[Bool.and_eq_true]
 refine⟨decide_eq_true (by omega),List.all_eq_true.2 fun t ht=> ?_⟩
 have:=List.all_eq_true.1 h.1 t ht
 have:=of_decide_eq_true this
 exact decide_eq_true (by omega)
theorem AU{b:BoxT}{fs:List Fact}(h:Ux b fs=true):b.v.length<=5∧fs.length<=6∧Zm fs=true∧(∀ f∈fs,J6 f.l 8=true):=by
 unfold Ux G5 at h
 simp only[Bool.and_eq_true,decide_eq_true_eq]at h
 obtain⟨⟨⟨h1,h2⟩,h3⟩,h4,h5⟩:=h
 have h4:=List.all_eq_true.1 h4
 refine⟨h1,h3,?_,h4⟩
 unfold Zm
 rw[Bool.and_eq_true]
 exact⟨decide_eq_true (by omega),List.all_eq_true.2 fun f hf=>(b3j (h4 f hf) (by omega)).1⟩
theorem a2b{b:BoxT}{fs:List Fact}(hb:ZW b=true)(h:Ux b fs=true):(ZW b&&Zm fs&&decide (fs.length<=100)&&decide (b.v.length<=1000))=true:=by
 obtain⟨h1,h2,h3,_⟩:=AU h
 rw[hb,h3,decide_eq_true (by omega),decide_eq_true (by omega)];rfl
theorem b9f{b:BoxT}{fs:List Fact}(hr:(Z9 b fs).1≠[]):Xh b=true∧(Z9 b fs).1=Yb b fs:=by
 unfold Z9 at hr ⊢
 split at hr
 ·rename_i h0
  exact⟨(VI _ _ _ _ h0).1,by rw[if_pos h0]⟩
 ·exact absurd rfl hr
theorem a3m{b:BoxT}{fs:List Fact}(hb:b.v.length<=1000):(Z9 b fs).1.length<=20000∧(Z9 b fs).1.all Zt=true:=by
 by_cases h:(Z9 b fs).1=[]
 ·rw[h];exact⟨by simp,rfl⟩
 ·obtain⟨hv,e⟩:=b9f h
  rw[e]
  constructor
  ·unfold Yb
   refine Nat.le_trans (List.length_filter_le _ _) ?_
   rw[WG hv,Jy]
   exact Dn hv
  ·refine List.all_eq_true.2 fun p hp=>ZN.2 ?_
   unfold Yb at hp
   rw[WG hv]at hp
   have:=(Q4.1 (List.mem_filter.1 hp).1).1
   omega
end Go.Pl

namespace Go.Pl
open Go.RowKit
open Enc (enc dec is)
open EncL (encL decL isL)
theorem b0t: ∀ {p q:List Int},Nr p q->p.length=q.length-> ∃ k,∃ (h1:k<p.length) (h2:k<q.length),(∀ j (h:j<k),p[j]=q[j])∧p[k]<q[k]
 | [],_,h,_=>by simp[Nr]at h
 | _::_,[],h,_=>by simp[Nr]at h
 | x::p,y::q,h,hl=>by
  rcases h with h|⟨rfl,h⟩
  ·exact⟨0,by simp,by simp,fun j h=>absurd h (by omega),by simpa using h⟩
  ·obtain⟨k,h1,h2,h3,h4⟩:=b0t h (by simpa using hl)
   refine⟨k+1,by simpa using h1,by simpa using h2,?_,by simpa using h4⟩
   intro j hj
   cases j with
   | zero=>rfl
   | succ j=>simpa using h3 j (by omega)
theorem OU{b:BoxT}{fs:List Fact}(hv:Xh b=true):(Yb b fs).Pairwise Nr:=by
 unfold Yb
 rw[WG hv]
 exact(b0p _ _).filter _
theorem EC{b:BoxT}{fs:List Fact}(hv:Xh b=true){p:List Int}:p∈Yb b fs ↔ (p.length=b.v.length∧Wx b.v fs p=true)∧ ∀ x∈p,0<=x∧x<=b.m:=by
 unfold Yb
 rw[WG hv,List.mem_filter,Q4]
 have:0<=b.m:=(VM.1 hv).2.2.2.1
 have e:(b.m.toNat:Int)=b.m:=by omega
 rw[e]
 exact⟨fun h=>⟨⟨h.1.1,h.2⟩,h.1.2⟩,fun h=>⟨⟨h.1.1,h.2⟩,h.1.2⟩⟩
theorem ix2{y:List Int}{k:Nat}(h:k<y.length):(decide (0<=(k:Int))&&decide (Int.toNat (k:Int)<List.length (PV.asXs (List.getD (PV.cells (enc y)) 0 default)))&&1==1)=true:=by
 show(decide (0<=(k:Int))&&decide (Int.toNat (k:Int)<List.length (y.map (enc:Int->PV)))&&1==1)=true
 simp[h]
theorem a0r{y:List Int}{k:Nat}(h:k<y.length):(decide (0+List.length [Sh.int .i64]<=List.length (PV.cells (List.getD (PV.asXs (List.getD (PV.cells (enc y)) 0 default)) (Int.toNat (k:Int)) default)))&&Y4 (PV.cells (List.getD (PV.asXs (List.getD (PV.cells (enc y)) 0 default)) (Int.toNat (k:Int)) default)) 0 [Sh.int .i64])=true:=by
 show(decide (0+List.length [Sh.int .i64]<=List.length (PV.cells (List.getD (y.map (enc:Int->PV)) (Int.toNat (k:Int)) default)))&&Y4 (PV.cells (List.getD (y.map (enc:Int->PV)) (Int.toNat (k:Int)) default)) 0 [Sh.int .i64])=true
 rw[JW enc h];rfl
theorem a2u{y:List Int}{k:Nat}(h:k<y.length):PV.asInt (List.getD (PV.cells (List.getD (PV.asXs (List.getD (PV.cells (enc y)) 0 default)) (Int.toNat (k:Int)) default)) 0 default)=y[k]:=by
 show PV.asInt (List.getD (PV.cells (List.getD (y.map (enc:Int->PV)) (Int.toNat (k:Int)) default)) 0 default)=y[k]
 rw[JW enc h];rfl
theorem b8c{i:Nat}(h:i<9223372036854775807):IntKind.i64.wrap (((i+1:Nat):Int) - 1)=(i:Int):=by rw[Ug (by omega) (by omega)];omega
theorem b7w(b:BoxT)(fs:List Fact)(p:List Int)(l:List (List Int))(want has:Bool)(hl:l.length<=20000)(hb:b.v.length<=1000)(i:Nat)(h1:i+1<l.length)(hlen : ∀ q∈l,q.length=b.v.length)(k0:Nat)
  (a1:k0<(l[i]'(by omega)).length) (a2:k0<l[i+1].length) (a3 : ∀ j (h:j<k0),(l[i]'(by omega))[j]=l[i+1][j]) (a4:(l[i]'(by omega))[k0]<l[i+1][k0])
  (hk:At Z0 0 (Za ZL (Zf true)) ZM 1 140 [(2,.pv (enc p)),(3,.ptr 0 0),(7,.pv (enc l)),(9,.pv (.bool want)),(11,.pv (.bool has)),(12,.pv (.int .i64 ((i+2:Nat):Int)))] [.obj (.box [.pv (enc b.v),.pv (.int .i64 b.m)])]) :
  ∀ (d k:Nat),d+k=k0->At Z0 0 (Za ZL (Zf true)) ZM 2 140 [(2,.pv (enc p)),(3,.ptr 0 0),(7,.pv (enc l)),(9,.pv (.bool want)),(11,.pv (.bool has)),(12,.pv (.int .i64 ((i+1:Nat):Int))),(13,.pv (.int .i64 k))] [.obj (.box [.pv (enc b.v),.pv (.int .i64 b.m)])]:=by
 have hi:i<l.length:=by omega
 have hn1:l[i].length=b.v.length:=hlen _ (List.getElem_mem hi)
 have hn2:l[i+1].length=b.v.length:=hlen _ (List.getElem_mem h1)
 intro d
 induction d with
 | zero=>
  intro k hd
  have hk0:k=k0:=by omega
  subst hk0
  apply AP (G:=Zf true) b fs p l want has
  rw[b8c (by omega)]
  refine ZQ (Wd (l:=b.v) (by omega)) ⟨Zu hi rfl,ZG hi ⟨ix2 a1,a0r a1,Zu h1 rfl,ZG h1 ⟨ix2 a2,a0r a2,?_⟩⟩⟩
  rw[a2u a1,a2u a2]
  refine ZV (by simpa using (show l[i][k]≠l[i+1][k] by omega)) (ZV (by rw[List.length_map];simpa using (show ¬ (k:Int)=(b.v.length:Int) by omega)) ⟨Zu hi rfl,ZG hi ⟨ix2 a1,a0r a1,Zu h1 rfl,ZG h1 ⟨ix2 a2,a0r a2,?_⟩⟩⟩)
  rw[a2u a1,a2u a2]
  refine ZV (by simpa using (show l[i][k]<=l[i+1][k] by omega)) ?_
  rw[next (by omega)]
  exact hk
 | succ d ih=>
  intro k hd
  have b1:k<l[i].length:=by omega
  have b2:k<l[i+1].length:=by omega
  have he:=a3 k (by omega)
  apply AP (G:=Zf true) b fs p l want has
  rw[b8c (by omega)]
  refine ZQ (Wd (l:=b.v) (by omega)) ⟨Zu hi rfl,ZG hi ⟨ix2 b1,a0r b1,Zu h1 rfl,ZG h1 ⟨ix2 b2,a0r b2,?_⟩⟩⟩
  rw[a2u b1,a2u b2]
  refine ZQ (by simpa using he) ?_
  rw[next (by omega)]
  exact ih (k+1) (by omega)
theorem b3s(b:BoxT)(fs:List Fact)(p:List Int)(l:List (List Int))(want:Bool)(hl:l.length<=20000)(hb:b.v.length<=1000)(hlen : ∀ q∈l,q.length=b.v.length)(hx:l.Pairwise Nr)(hw:want=decide (p∈l)):
  ∀ (d i:Nat),d+i=l.length->At Z0 0 (Za ZL (Zf true)) ZM 1 140 [(2,.pv (enc p)),(3,.ptr 0 0),(7,.pv (enc l)),(9,.pv (.bool want)),(11,.pv (.bool (decide (p∈l.take i)))),(12,.pv (.int .i64 i))] [.obj (.box [.pv (enc b.v),.pv (.int .i64 b.m)])]:=by
 intro d
 induction d with
 | zero=>
  intro i hi
  apply SC (G:=Zf true) b fs p l want
  refine ZV (VL (by omega)) (ZJ ?_)
  rw[hw,List.take_of_length_le (by omega)]
  simp
 | succ d ih=>
  intro i hi
  have hlt:i<l.length:=by omega
  have ih:=ih (i+1) (by omega)
  have ht:l.take (i+1)=l.take i++[l[i]]:=List.take_succ_eq_append_getElem hlt
  have go:At Z0 0 (Za ZL (Zf true)) ZM 1 140 [(2,.pv (enc p)),(3,.ptr 0 0),(7,.pv (enc l)),(9,.pv (.bool want)),(11,.pv (.bool (decide (p∈l.take (i+1))))),(12,.pv (.int .i64 (IntKind.i64.wrap ((i:Int)+1))))] [.obj (.box [.pv (enc b.v),.pv (.int .i64 b.m)])] ∧
    (i≠0->At Z0 0 (Za ZL (Zf true)) ZM 2 140 [(2,.pv (enc p)),(3,.ptr 0 0),(7,.pv (enc l)),(9,.pv (.bool want)),(11,.pv (.bool (decide (p∈l.take (i+1))))),(12,.pv (.int .i64 i)),(13,.pv (.int .i64 0))] [.obj (.box [.pv (enc b.v),.pv (.int .i64 b.m)])]):=by
   refine⟨by rw[next (by omega)];exact ih,fun h0=> ?_⟩
   obtain⟨j,rfl⟩ : ∃ j,i=j+1:=⟨i - 1,by omega⟩
   have hj:j<l.length:=by omega
   have hlx:=List.pairwise_iff_getElem.1 hx j (j+1) hj hlt (by omega)
   obtain⟨k0,a1,a2,a3,a4⟩:=b0t hlx (by rw[hlen _ (List.getElem_mem hj),hlen _ (List.getElem_mem hlt)])
   exact b7w b fs p l want _ hl hb j hlt hlen k0 a1 a2 a3 a4 ih k0 0 rfl
  have hz:((i:Int)==0)=decide (i=0):=by
   by_cases h:i=0
   ·subst h;rfl
   ·rw[decide_eq_false h];simpa using h
  apply SC (G:=Zf true) b fs p l want
  refine ZQ (Wd hlt) (Xe (fun hh=> ?_) fun hh=> ?_)
  ·have e:decide (p∈l.take (i+1))=true:=by
    rw[ht];exact decide_eq_true (List.mem_append_left _ (of_decide_eq_true hh))
   rw[e]at go
   rw[hz]
   exact Xe (fun _=>go.1) fun h=>go.2 (by simpa using h)
  ·have e:decide (p∈l.take (i+1))=decide (l[i]=p):=by
    have hn:p ∉ l.take i:=of_decide_eq_false hh
    rw[ht,decide_eq_decide,List.mem_append,List.mem_singleton]
    exact⟨fun h=>(h.resolve_left hn).symm,fun h=>.inr h.symm⟩
   rw[e]at go
   rw[hz]
   refine⟨Zu hlt rfl,ZG hlt ⟨Zl (l[i],p,()) rfl (ZN.2 (by rw[hlen _ (List.getElem_mem hlt)];omega)),Zi (l[i],p,()) rfl ?_⟩⟩
   exact Xe (fun _=>go.1) fun h=>go.2 (by simpa using h)
theorem Ed(b:BoxT)(fs:List Fact)(p:List Int)(l:List (List Int))(w0:Bool)(hp:p.length<=8)(hl:l.length<=20000)(hb:b.v.length<=1000)(hlen : ∀ q∈l,q.length=b.v.length)(hx:l.Pairwise Nr)(hw:(w0&&p.all fun x=>decide (0<=x)&&decide (x<=b.m))=decide (p∈l)):
  ∀ (d i:Nat),d+i=p.length->At Z0 0 (Za ZL (Zf true)) ZM 0 140 [(2,.pv (enc p)),(3,.ptr 0 0),(7,.pv (enc l)),(9,.pv (.bool (w0&&(p.take i).all fun x=>decide (0<=x)&&decide (x<=b.m)))),(10,.pv (.int .i64 i))] [.obj (.box [.pv (enc b.v),.pv (.int .i64 b.m)])]:=by
 intro d
 induction d with
 | zero=>
  intro i hi
  apply AX (G:=Zf true) b fs p l
  refine ZV (VL (by omega)) ?_
  rw[List.take_of_length_le (by omega)]
  exact b3s b fs p l _ hl hb hlen hx hw l.length 0 (by omega)
 | succ d ih=>
  intro i hi
  have hlt:i<p.length:=by omega
  have ih:=ih (i+1) (by omega)
  have ht:((p.take (i+1)).all fun x=>decide (0<=x)&&decide (x<=b.m))=(((p.take i).all fun x=>decide (0<=x)&&decide (x<=b.m))&&(decide (0<=p[i])&&decide (p[i]<=b.m))):=by
   rw[List.take_succ_eq_append_getElem hlt,List.all_append];simp
  rw[ht,<- Bool.and_assoc]at ih
  apply AX (G:=Zf true) b fs p l
  rw[next (by omega)]
  refine ZQ (Wd hlt) (Xe (fun hh=> ?_) fun hh=> ?_)
  ·rw[hh]at ih
   refine⟨Zu hlt rfl,ZG hlt ?_⟩
   show if decide (p[i] ≥ 0)=true then _ else _
   refine Xe (fun h0=>⟨Zu hlt rfl,ZG hlt ?_⟩) fun h0=> ?_
   ·have h0:(decide (0<=p[i]))=true:=h0
    rw[h0]at ih
    exact ih
   ·have h0:(decide (0<=p[i]))=false:=h0
    rw[h0]at ih
    exact ih
  ·rw[hh]at ih
   exact ih
theorem Og: ∀ x:BoxT×List Fact×List Int×Unit,(ZW x.1&&YM x.2.1&&Zt x.2.2.1)=true->Zc Z0 0 (Za ZL (Zf true)) ZM [] (Yx a1n (encL x)):=by
 rintro⟨b,fs,p,⟨⟩⟩ hp
 simp only[Bool.and_eq_true]at hp
 obtain⟨⟨h1,h2⟩,h3⟩:=hp
 refine b1n b fs p (Zi () rfl (ZV (by simp) ⟨Zl (b,fs,()) rfl (by rw[h1,h2];rfl),Zi (b,fs,()) rfl ?_⟩))
 refine Xe (fun _=>ZJ rfl) fun hf=> ?_
 have hf:Ux b fs=true:=by simpa using hf
 have hP:=a2b h1 hf
 obtain⟨h5,_,hfs,_⟩:=AU hf
 refine Xe (fun _=>ZJ rfl) fun h8=> ?_
 have h8:p.length<=8:=by
  have:=of_decide_eq_false h8
  rw[List.length_map]at this
  omega
 have hpv:(decide (b.v.length<=1000)&&Zt p)=true:=by rw[h3,decide_eq_true (by omega)];rfl
 refine⟨Zl (b,fs,()) rfl hP,Zi (b,fs,()) rfl ?_⟩
 refine Xe (fun he=> ?_) fun he=> ?_
 ·have he:(Z9 b fs).2≠0:=by simpa using he
  have:(Z9 b fs).1=[]:=by
   unfold Z9 at he ⊢
   split
   ·rename_i h0;rw[if_pos h0]at he;exact absurd rfl he
   ·rfl
  rw[this];exact ZJ rfl
 ·have he:(Z9 b fs).2=0:=by simpa using he
  have hr:Zp b fs true []=0:=by
   unfold Z9 at he
   split at he
   ·assumption
   ·exact absurd he (by assumption)
  have hv:=(VI _ _ _ _ hr).1
  have hpt:(Z9 b fs).1=Yb b fs:=by unfold Z9;rw[if_pos hr]
  obtain⟨s1,_⟩:=a3m (b:=b) (fs:=fs) (by omega)
  rw[hpt]at s1 ⊢
  have hlen : ∀ q∈Yb b fs,q.length=b.v.length:=fun q hq=>((EC hv).1 hq).1.1
  have hall:(p.all fun x=>decide (0<=x)&&decide (x<=b.m))=decide (∀ x∈p,0<=x∧x<=b.m):=by
   rw[Bool.eq_iff_iff,List.all_eq_true,decide_eq_true_iff]
   simp
  have key : ∀ w0:Bool,w0=decide (p.length=b.v.length∧Wx b.v fs p=true)->(w0&&p.all fun x=>decide (0<=x)&&decide (x<=b.m))=decide (p∈Yb b fs):=by
   rintro w0 rfl
   rw[hall,<- Bool.decide_and]
   exact decide_eq_decide.2 (EC hv).symm
  refine Xe (fun hq=> ?_) fun hq=> ?_
  ·have hq:p.length=b.v.length:=by rw[List.length_map,List.length_map]at hq;have:=eq_of_beq hq;omega
   have hvl:(Zj b.v p).length<=9223372036854775807:=by unfold Zj;rw[List.length_zipWith];omega
   refine⟨Zl (b,p,()) rfl hpv,Zi (b,p,()) rfl ⟨Zl (fs,Zj b.v p,()) rfl (by rw[hfs,decide_eq_true hvl];rfl),Zi (fs,Zj b.v p,()) rfl ?_⟩⟩
   have:=Ed b fs p (Yb b fs) (Wx b.v fs p) h8 s1 (by omega) hlen (OU hv) (key _ (by simp[hq])) p.length 0 (by omega)
   rw[List.take_zero,List.all_nil,Bool.and_true]at this
   exact this
  ·have hq:p.length≠b.v.length:=by
    intro e
    rw[List.length_map,List.length_map,e]at hq
    simp at hq
   exact Ed b fs p (Yb b fs) false h8 s1 (by omega) hlen (OU hv) (key _ (by simp[hq])) p.length 0 (by omega)
end Go.Pl

namespace Go.Pl
open Go.RowKit
end Go.Pl

namespace Go.Pl
open Go.RowKit
open Enc (enc dec is)
open EncL (encL decL isL)
end Go.Pl

namespace Go.Pl
open Go.RowKit
open Enc (enc dec is)
open EncL (encL decL isL)
end Go.Pl

namespace Go.Pl
open Go.RowKit
open Enc (enc dec is)
open EncL (encL decL isL)
def J7(m:Mono):Bool->List Mono->List Mono
 | put,[]=>if put then []else [m]
 | put,x::r=>
  if !put&&decide (VK x.v m.v>0)then m::(if x.c≠0 then x::J7 m true r else J7 m true r)
  else if !put&&decide (VK x.v m.v=0)then(if Cu (x.c+m.c)≠0 then⟨Cu (x.c+m.c),x.v⟩::J7 m true r else J7 m true r)
  else if x.c≠0 then x::J7 m put r else J7 m put r
end Go.Pl

namespace Go.Pl
open Go.RowKit
open Enc (enc dec is)
open EncL (encL decL isL)
set_option maxRecDepth 100000
def Ky:IC:=(.seq (.reg [⟨(some 3),(.box 2 (.t 1)),0,none⟩,⟨(some 4),(.mv (.c (.sl 0 true []))),1,none⟩] none) (.seq (.reg [⟨(some 5),(.mv (.c (.sl 0 true []))),0,none⟩] none) (.seq (.reg [⟨(some 10),(.faddr 0 (.t 3)),0,none⟩,⟨(some 11),(.load false [(.int .i64)] (.t 10)),0,none⟩,⟨(some 12),(.bin .num .eql (.t 11) (.c (.int .i64 0))),0,none⟩,⟨(some 6),(.mv (.t 12)),0,none⟩] none) (.seq (.seq (.reg [⟨(some 7),(.mv (.c (.int .i64 0))),0,none⟩] none) (.block 0 (.loop [7,0,3,6,5] (.seq (.seq (.reg [⟨(some 13),(.mv (.t 7)),0,none⟩,⟨(some 14),(.mv (.t 0)),0,none⟩,⟨(some 15),(.len 1 (.t 14)),0,none⟩,⟨(some 16),(.bin .num .lss (.t 13) (.t 15)),0,none⟩] none) (.cond (.t 16) .skip (.exit 0))) (.seq (.block 1 (.seq (.reg [⟨(some 19),(.mv (.t 0)),0,none⟩,⟨(some 20),(.mv (.t 7)),0,none⟩,⟨(some 21),(.iaddr 2 (.t 19) (.t 20)),0,none⟩,⟨(some 22),(.faddr 1 (.t 21)),0,none⟩,⟨(some 23),(.load false [(.sl 1)] (.t 22)),0,none⟩,⟨(some 24),(.faddr 1 (.t 3)),0,none⟩,⟨(some 25),(.load false [(.sl 1)] (.t 24)),0,none⟩,⟨(some 26),(.call (.c (.fn 195)) [(.t 23),(.t 25)]),0,none⟩,⟨(some 8),(.mv (.t 26)),2,none⟩] (some [[],[],[0,1],[2,0,1],[3,2,0,1],[],[5],[4,6,3,2,0,1,5],[7,0,1,2,3,4,5,6]])) (.seq (.seq (.reg [⟨(some 27),(.mv (.t 6)),0,none⟩,⟨(some 28),(.un .not (.t 27)),0,none⟩,⟨(some 29),(.mv (.t 28)),0,none⟩,⟨(some 30),(.mv (.t 8)),0,(some (29,true))⟩,⟨(some 31),(.bin .num .gtr (.t 30) (.c (.int .i64 0))),0,(some (29,true))⟩,⟨(some 32),(.pick (.t 29) (.t 31) (.c (.bool false))),0,none⟩] none) (.cond (.t 32) (.seq (.reg [⟨(some 33),(.mv (.t 5)),0,none⟩,⟨(some 34),(.load true [(.int .i64),(.sl 1)] (.t 3)),0,none⟩,⟨(some 35),(.bslice 104 2 1 (.agg [(.int .i64 0),(.sl 0 true [])]) [(0,(.t 34))]),0,none⟩,⟨(some 36),(.append 104 2 32 (.t 33) (.t 35)),1,none⟩,⟨(some 5),(.mv (.t 36)),2,none⟩] none) (.reg [⟨(some 6),(.mv (.c (.bool true))),0,none⟩] none)) .skip)) (.seq (.reg [⟨(some 37),(.mv (.t 0)),0,none⟩,⟨(some 38),(.mv (.t 7)),0,none⟩,⟨(some 39),(.iaddr 2 (.t 37) (.t 38)),0,none⟩,⟨(some 40),(.load true [(.int .i64),(.sl 1)] (.t 39)),0,none⟩,⟨(some 9),(.alloc (.agg [(.int .i64 0),(.sl 0 true [])])),0,none⟩,⟨none,(.store 2 (.t 9) (.t 40)),1,none⟩] none) (.seq (.seq (.reg [⟨(some 41),(.mv (.t 6)),0,none⟩,⟨(some 42),(.un .not (.t 41)),0,none⟩,⟨(some 43),(.mv (.t 42)),0,none⟩,⟨(some 44),(.mv (.t 8)),0,(some (43,true))⟩,⟨(some 45),(.bin .num .eql (.t 44) (.c (.int .i64 0))),0,(some (43,true))⟩,⟨(some 46),(.pick (.t 43) (.t 45) (.c (.bool false))),0,none⟩] none) (.cond (.t 46) (.seq (.reg [⟨(some 47),(.faddr 0 (.t 9)),0,none⟩,⟨(some 48),(.load false [(.int .i64)] (.t 47)),0,none⟩,⟨(some 49),(.faddr 0 (.t 3)),0,none⟩,⟨(some 50),(.load false [(.int .i64)] (.t 49)),0,none⟩,⟨(some 51),(.bin .num .add (.t 48) (.t 50)),0,none⟩,⟨(some 52),(.faddr 0 (.t 9)),0,none⟩,⟨none,(.store 1 (.t 52) (.t 51)),0,none⟩] none) (.reg [⟨(some 6),(.mv (.c (.bool true))),0,none⟩] none)) .skip)) (.seq (.reg [⟨(some 53),(.faddr 0 (.t 9)),0,none⟩,⟨(some 54),(.load false [(.int .i64)] (.t 53)),0,none⟩,⟨(some 55),(.bin .num .neq (.t 54) (.c (.int .i64 0))),0,none⟩] none) (.cond (.t 55) (.reg [⟨(some 56),(.mv (.t 5)),0,none⟩,⟨(some 57),(.load true [(.int .i64),(.sl 1)] (.t 9)),0,none⟩,⟨(some 58),(.bslice 104 2 1 (.agg [(.int .i64 0),(.sl 0 true [])]) [(0,(.t 57))]),0,none⟩,⟨(some 59),(.append 104 2 32 (.t 56) (.t 58)),1,none⟩,⟨(some 5),(.mv (.t 59)),2,none⟩] none) .skip))))))) (.reg [⟨(some 17),(.mv (.t 7)),0,none⟩,⟨(some 18),(.bin .num .add (.t 17) (.c (.int .i64 1))),0,none⟩,⟨(some 7),(.mv (.t 18)),0,none⟩] none)))))) (.seq (.seq (.reg [⟨(some 60),(.mv (.t 6)),0,none⟩,⟨(some 61),(.un .not (.t 60)),0,none⟩] none) (.cond (.t 61) (.reg [⟨(some 62),(.mv (.t 5)),0,none⟩,⟨(some 63),(.load true [(.int .i64),(.sl 1)] (.t 3)),0,none⟩,⟨(some 64),(.bslice 104 2 1 (.agg [(.int .i64 0),(.sl 0 true [])]) [(0,(.t 63))]),0,none⟩,⟨(some 65),(.append 104 2 32 (.t 62) (.t 64)),1,none⟩,⟨(some 5),(.mv (.t 65)),2,none⟩] none) .skip)) (.seq (.reg [⟨(some 66),(.mv (.t 5)),0,none⟩,⟨(some 4),(.mv (.t 66)),0,none⟩] none) .ret))))))
def KE:List IRes:=[(.tmp 4)]
def JV:ZE:=Xi [(195,.pure (preT (fun x:List Str×List Str×Unit=>Zt x.1&&Zt x.2.1)) (Zg (fun x:List Str×List Str×Unit=>VK x.1 x.2.1)))]
end Go.Pl

namespace Go.Pl
open Go.RowKit
open Enc (enc dec is)
open EncL (encL decL isL)
def b3h(p:List Mono)(m:Mono)(put:Bool)(i:Nat)(xs:List Mono):Prop:= ∀ R:List Mono,R=xs++J7 m put (p.drop i) ->
 match xs with
 | []=>At JV 0 (Za KE (Zf R)) Ky 0 67 [(0,.pv (enc p)),(3,.ptr 0 0),(5,.pv (.sl 0 true [])),(6,.pv (.bool put)),(7,.pv (.int .i64 i))] [.obj (.box [.pv (.int .i64 m.c),.pv (enc m.v)])]
 | x::r=>At JV 0 (Za KE (Zf R)) Ky 0 67 [(0,.pv (enc p)),(3,.ptr 0 0),(5,.row 1 (r.length+1) 0 (r.length+1)),(6,.pv (.bool put)),(7,.pv (.int .i64 i))] [.obj (.box [.pv (.int .i64 m.c),.pv (enc m.v)]),.obj (.row false 104 2 ((x::r).map enc))]
theorem b3h.row{p:List Mono}{m:Mono}{put:Bool}{i n:Nat}{ys:List Mono}{R:List Mono}{qs:List PV}(h:b3h p m put i ys)(h0:ys≠[])(hR:R=ys++J7 m put (p.drop i))(hn:n=ys.length)(hy:qs=ys.map enc):
  At JV 0 (Za KE (Zf R)) Ky 0 67 [(0,.pv (enc p)),(3,.ptr 0 0),(5,.row 1 n 0 n),(6,.pv (.bool put)),(7,.pv (.int .i64 i))] [.obj (.box [.pv (.int .i64 m.c),.pv (enc m.v)]),.obj (.row false 104 2 qs)]:=by
 subst hn hy
 cases ys with
 | nil=>exact absurd rfl h0
 | cons x r=>exact h R hR
theorem b3h.nil{p:List Mono}{m:Mono}{put:Bool}{i:Nat}{R:List Mono}(h:b3h p m put i [])(hR:R=J7 m put (p.drop i)):
  At JV 0 (Za KE (Zf R)) Ky 0 67 [(0,.pv (enc p)),(3,.ptr 0 0),(5,.pv (.sl 0 true [])),(6,.pv (.bool put)),(7,.pv (.int .i64 i))] [.obj (.box [.pv (.int .i64 m.c),.pv (enc m.v)])]:=h R hR
end Go.Pl

namespace Go.Pl
open Go.RowKit
open Enc (enc dec is)
open EncL (encL decL isL)
end Go.Pl

namespace Go.Pl
open Go.RowKit
open Enc (enc dec is)
open EncL (encL decL isL)
set_option maxRecDepth 100000
end Go.Pl

namespace Go.Pl
open Go.RowKit
open Enc (enc dec is)
open EncL (encL decL isL)
end Go.Pl

