/-
  Texts of mine that belong together (packed by pack.py), for every input: QPs, TyAw, GAw, QAw, GLp10, QRh, QRi, QRk, QRj, TyRe, TyRf, GRq, QRl, QRm, QRn, QSa, TyAs, GLr10, QSb, GLs10, TyRg, QSc, GSa, QRo.
-/
import Derived.Test.YtjfgiaooglnomaaGreatDoorKP2
import Derived.Test.YtjfgiaooglnomaaGreatDoorKP3
import Derived.Test.YtjfgiaooglnomaaGreatDoorKP4
import Derived.KernelRfl
set_option linter.unusedVariables false
set_option linter.unusedSimpArgs false
namespace Go.Pl
open Go.RowKit
open Enc (enc dec is)
open EncL (encL decL isL)
theorem b9i(n:Int):Int.fdiv n (2 ^ min (Int.toNat 31) (IntKind.bits .i64))=Wm n:=by
 show Int.fdiv n 2147483648=n / 2147483648
 exact Int.fdiv_eq_ediv_of_nonneg n (by decide)
theorem a0w(n:Int):IntKind.i64.wrap ((BitVec.toNat (BitVec.ofInt (IntKind.bits .i64) n &&& BitVec.ofInt (IntKind.bits .i64) 2147483647):Nat):Int)=XR n:=by
 have e:BitVec.toNat (BitVec.ofInt (IntKind.bits .i64) n &&& BitVec.ofInt (IntKind.bits .i64) 2147483647)=(n % 2147483648).toNat:=by
  rw[BitVec.toNat_and]
  have e2:(BitVec.ofInt (IntKind.bits .i64) 2147483647).toNat=2 ^ 31 - 1:=rfl
  rw[e2,Nat.and_two_pow_sub_one_eq_mod,BitVec.toNat_ofInt]
  show(n % 18446744073709551616).toNat % 2147483648=_
  omega
 rw[e,Wo (by omega) (by omega)]
 unfold XR
 omega
theorem c1c: ∀ args os,V8 args os=true->Zc Nn os.length (Zj os.length Cu fun r=>r=UR args os) CQ [] (YH c1n args os):=by
 intro args os h
 unfold V8 at h
 split at h
 ·rename_i n
  apply c3k (G:=fun r=>r=UR _ _) n
  rw[b9i,a0w]
  rfl
 ·rename_i n q q' r r' ty xs ty' ys
  simp only[Bool.and_eq_true,beq_iff_eq,decide_eq_true_eq]at h
  obtain⟨⟨⟨⟨⟨⟨⟨h1,h2⟩,h3⟩,h4⟩,h5⟩,h6⟩,h7⟩,h8⟩:=h
  subst h1 h2 h3 h4 h5
  apply c6g (G:=fun r=>r=UR _ _) n r' xs ys
  rw[b9i,a0w,h6,h7]
  have hd:((r'==r')&&(r'==r')&&decide ((r'+1)*8<=1099511627776)&&decide (r'+1<=1099511627776))=true:=by
   rw[decide_eq_true (by omega),decide_eq_true (by omega)];simp
  exact⟨hd,hd,rfl⟩
 ·cases h
def hN(p:List Mono):Zt:=[.obj (.box [.pv (enc p)]),.obj (.box [.pv (.int .i64 0)]),.obj (.box [.pv (.int .i64 0)]),.obj (.box [.pv (.sl 0 true [])]),.obj (.box [.pv (.sl 0 true [])]),.obj (.box [.fn 124 [] [.ptr 3 0,.ptr 4 0]])]
def hR(p:List Mono)(n:Nat)(xs ys:List Int):Zt:=[.obj (.box [.pv (enc p)]),.obj (.box [.pv (.int .i64 0)]),.obj (.box [.pv (.int .i64 0)]),.obj (.box [.row 6 n 0 n]),.obj (.box [.row 7 n 0 n]),.obj (.box [.fn 124 [] [.ptr 3 0,.ptr 4 0]]),.obj (.row false 3 1 (xs.map enc)),.obj (.row false 3 1 (ys.map enc))]
def hNX(p:List Mono):Zt:=[.obj (.box [.pv (enc p)]),.obj (.box [.pv (.int .i64 0)]),.obj (.box [.pv (.int .i64 2)]),.obj (.box [.pv (.sl 0 true [])]),.obj (.box [.pv (.sl 0 true [])]),.obj (.box [.fn 124 [] [.ptr 3 0,.ptr 4 0]]),.fresh,.fresh]
def hRX(p:List Mono)(n:Nat)(xs ys:List Int):Zt:=[.obj (.box [.pv (enc p)]),.obj (.box [.pv (.int .i64 0)]),.obj (.box [.pv (.int .i64 2)]),.obj (.box [.row 6 n 0 n]),.obj (.box [.row 7 n 0 n]),.obj (.box [.fn 124 [] [.ptr 3 0,.ptr 4 0]]),.obj (.row false 3 1 (xs.map enc)),.obj (.row false 3 1 (ys.map enc)),.fresh,.fresh]
def gsI(b:BoxT)(fs:List Fact)(p:List Mono)(k:Nat)(σ:Zt):Prop:=
 ∃ l,WM p b.v ((Yb b fs).take k)=some l∧((k=0∧σ=hN p)∨(0<k∧k<=(Yb b fs).length∧σ=hR p k (l.map Wm) (l.map XR)))
def gsX(b:BoxT)(fs:List Fact)(p:List Mono)(σ:Zt):Prop:=WM p b.v (Yb b fs)=none∧(σ=hNX p ∨ ∃ n xs ys,σ=hRX p n xs ys)
theorem PR{b:BoxT}{fs:List Fact}(hv:Xo b=true):(Yb b fs).length<=20000:=by
 unfold Yb
 refine Nat.le_trans (List.length_filter_le _ _) ?_
 rw[Vv hv,Gm]
 exact Cy hv
theorem Gn{b:BoxT}{fs:List Fact}{p:List Mono}{k:Nat}{q:List Int}(hq:(Yb b fs)[k]? = some q)(h:(Yz p (Zn b.v q)).2≠0):WM p b.v (Yb b fs)=none:=by
 have hk:=(List.getElem?_eq_some_iff.1 hq).1
 have hkp:=(List.getElem?_eq_some_iff.1 hq).2
 have e:Yb b fs=(Yb b fs).take k++q::(Yb b fs).drop (k+1):=by
  rw[<- hkp,<- List.drop_eq_getElem_cons hk,List.take_append_drop]
 rw[e]
 exact CW h _
def Vi:Yx:=fun n st q=>n=0∧Gv YN 0 (.t 32) 177 [33,34] [(13,34)] WW Q4 UM DZ st q
theorem a3w(b:BoxT)(fs:List Fact)(p:List Mono)(hp:Yd p=true)(hv:Xo b=true)(hb:b.v.length<=1000)(k:Nat)(q:List Int)(σ:Zt)(hq:(Yb b fs)[k]? = some q)(h:gsI b fs p k σ):
  Zz YN (fun n S' _=>n=99∧gsI b fs p (k+1) S'.heap) σ.length (fun st=>gsX b fs p st.heap) (.inl WW) [.seq (.ext 99 [])]
   ⟨ZM 77 0 [(5,.ptr 0 0),(6,.ptr 1 0),(7,.ptr 2 0),(9,.ptr 3 0),(10,.ptr 4 0),(11,.ptr 5 0),(13,.pv (enc (Zn b.v q))),(33,.pv (enc q)),(34,.pv (enc (Zn b.v q)))],σ⟩:=by
 have hk:=(List.getElem?_eq_some_iff.1 hq).1
 have hkp:=(List.getElem?_eq_some_iff.1 hq).2
 have h20:=PR (fs:=fs) hv
 have ht:(Yb b fs).take (k+1)=(Yb b fs).take k++[q]:=by rw[List.take_succ_eq_append_getElem hk,hkp]
 have hvl:(Zn b.v q).length<=9223372036854775807:=by unfold Zn;rw[List.length_zipWith];omega
 have hpre:preT (fun x:List Mono×List Coef×Unit=>Yd x.1&&Zv x.2.1) (encL (p,Zn b.v q,()))=true:=Zh (p,Zn b.v q,()) rfl (by rw[hp,ZL.2 hvl];rfl)
 obtain⟨l,hl,hσ⟩:=h
 have hlen:=Qx hl
 rw[List.length_take]at hlen
 rcases hσ with ⟨rfl,rfl⟩|⟨h0,h1,rfl⟩
 ·apply b5x (G:=gsX b fs p) (fun n S' _=>n=99∧gsI b fs p (0+1) S'.heap) p q (Zn b.v q)
  refine⟨hpre,Ze (p,Zn b.v q,()) rfl ?_⟩
  refine Wn (fun he=> ?_) fun he=> ?_
  ·have he:(Yz p (Zn b.v q)).2≠0:=by simpa using he
   exact⟨Gn hq he,.inl rfl⟩
  ·have he:(Yz p (Zn b.v q)).2=0:=by simpa using he
   have hs:=Um he hl
   rw[<- ht]at hs
   have hnil:l=[]:=List.length_eq_zero_iff.1 (by omega)
   subst hnil
   exact⟨rfl,_,hs,.inr ⟨by omega,by omega,rfl⟩⟩
 ·have hlk:l.length=k:=by omega
  apply a9k (G:=gsX b fs p) (fun n S' _=>n=99∧gsI b fs p (k+1) S'.heap) p q (Zn b.v q) k (l.map Wm) (l.map XR)
  refine⟨hpre,Ze (p,Zn b.v q,()) rfl ?_⟩
  refine Wn (fun he=> ?_) fun he=> ?_
  ·have he:(Yz p (Zn b.v q)).2≠0:=by simpa using he
   exact⟨Gn hq he,.inr ⟨k,_,_,rfl⟩⟩
  ·have he:(Yz p (Zn b.v q)).2=0:=by simpa using he
   have hs:=Um he hl
   rw[<- ht]at hs
   refine⟨?_,rfl,_,hs,.inr ⟨by omega,by omega,?_⟩⟩
   ·show(k==k&&k==k&&k==k&&3==3&&3==3&&((l.map Wm).map (enc:Int->PV)).length==k&&((l.map XR).map (enc:Int->PV)).length==k&&decide (k<=1000000))=true
    rw[List.length_map,List.length_map,List.length_map,List.length_map,hlk,decide_eq_true (by omega)];simp
   ·unfold hR
    rw[List.map_append,List.map_append,List.map_append,List.map_append]
    rfl
theorem b6v(b:BoxT)(fs:List Fact)(p:List Mono)(l:List Int)(hl:l.length<=20000)(hr : ∀ x∈l,Ua x=true)(R:Int×Int)(hR:R=WT l): ∀ (d i:Nat),d+i=l.length ->
  AtM YN Vi 0 (Za YZ (Zl R)) YP 0 77 [(6,.ptr 0 0),(7,.ptr 1 0),(9,.ptr 2 0),(10,.ptr 3 0),(16,.pv (.int .i64 ((l.map Wm).take i).sum)),(17,.pv (.int .i64 ((l.map XR).take i).sum)),(47,.pv (.int .i64 l.length)),(48,.pv (.int .i64 i))]
   [.obj (.box [.pv (.int .i64 0)]),.obj (.box [.pv (.int .i64 0)]),.obj (.box [.row 4 l.length 0 l.length]),.obj (.box [.row 5 l.length 0 l.length]),.obj (.row false 3 1 ((l.map Wm).map enc)),.obj (.row false 3 1 ((l.map XR).map enc))]:=by
 have hb1 : ∀ i,((l.map Wm).take i).length*(-2147483648:Int)<=((l.map Wm).take i).sum∧((l.map Wm).take i).sum<=((l.map Wm).take i).length*(2147483648:Int):=fun i=>Jw (by
  intro x hx
  obtain⟨n,hn,rfl⟩:=List.mem_map.1 (List.mem_of_mem_take hx)
  exact b1b (hr n hn))
 have hb2 : ∀ i,((l.map XR).take i).length*(0:Int)<=((l.map XR).take i).sum∧((l.map XR).take i).sum<=((l.map XR).take i).length*(2147483647:Int):=fun i=>Jw (by
  intro x hx
  obtain⟨n,hn,rfl⟩:=List.mem_map.1 (List.mem_of_mem_take hx)
  exact a9x n)
 have hc1 : ∀ i,((l.map Wm).take i).length<=20000:=fun i=>by rw[List.length_take,List.length_map];omega
 have hc2 : ∀ i,((l.map XR).take i).length<=20000:=fun i=>by rw[List.length_take,List.length_map];omega
 intro d
 induction d with
 | zero=>
  intro i hi
  apply TD (G:=Zl R) Vi b fs p
  refine Z8 (Yc (by omega)) ?_
  have e1:(l.map Wm).take i=l.map Wm:=List.take_of_length_le (by rw[List.length_map];omega)
  have e2:(l.map XR).take i=l.map XR:=List.take_of_length_le (by rw[List.length_map];omega)
  have a1:=hb1 i
  have a2:=hb2 i
  have a3:=hc1 i
  have a4:=hc2 i
  rw[e1]at a1 a3
  rw[e2]at a2 a4
  rw[e1,e2,b9i,a0w]
  have hh:Wm (l.map XR).sum=(l.map XR).sum / 2147483648:=rfl
  have hw:IntKind.i64.wrap ((l.map Wm).sum+Wm (l.map XR).sum)=(l.map Wm).sum+Wm (l.map XR).sum:=Wo (by rw[hh];omega) (by rw[hh];omega)
  rw[hw]
  refine Ze ([(l.map Wm).sum+Wm (l.map XR).sum,XR (l.map XR).sum],[2147483648,1],()) rfl ?_
  rw[hR,<- Ab hl hr (H:=(l.map Wm).sum+Wm (l.map XR).sum) (L:=XR (l.map XR).sum) rfl rfl]
  exact ZV rfl
 | succ d ih=>
  intro i hi
  have hlt:i<l.length:=by omega
  have hl1:i<(l.map Wm).length:=by rw[List.length_map];omega
  have hl2:i<(l.map XR).length:=by rw[List.length_map];omega
  apply TD (G:=Zl R) Vi b fs p
  apply Ya (Z4 hlt)
  rw[Qq hl1,Qq hl2]
  refine⟨by simp;omega,by simp;omega,rfl,by simp;omega,by simp;omega,rfl,?_⟩
  rw[next (by omega)]
  show AtM YN _ _ _ _ _ _ [_,_,_,_,(16,.pv (.int .i64 (IntKind.i64.wrap (((l.map Wm).take i).sum+(l.map Wm)[i])))),(17,.pv (.int .i64 (IntKind.i64.wrap (((l.map XR).take i).sum+(l.map XR)[i])))),_,_] _
  have s1:((l.map Wm).take i).sum+(l.map Wm)[i]=((l.map Wm).take (i+1)).sum:=by rw[List.take_succ_eq_append_getElem hl1,List.sum_append];simp
  have s2:((l.map XR).take i).sum+(l.map XR)[i]=((l.map XR).take (i+1)).sum:=by rw[List.take_succ_eq_append_getElem hl2,List.sum_append];simp
  have a1:=hb1 (i+1)
  have a2:=hb2 (i+1)
  have a3:=hc1 (i+1)
  have a4:=hc2 (i+1)
  rw[s1,s2,Wo (by omega) (by omega),Wo (by omega) (by omega)]
  exact ih (i+1) (by omega)
theorem a3u: ∀ x:BoxT×List Fact×List Mono×Unit,(Xh x.1 x.2.1 x.2.2.1&&(!ZY x.2.2.1||(XC x.2.2.1).isEmpty))=true->Q0 YN Vi 0 (Za YZ (Zl (Yw x.1 x.2.1 x.2.2.1))) YP [] (YD b2p (encL x)):=by
 rintro⟨b,fs,p,⟨⟩⟩ hp
 simp only[Xh,Bool.and_eq_true,decide_eq_true_eq]at hp
 obtain⟨⟨⟨⟨⟨h1,h2⟩,h3⟩,h4⟩,h5⟩,h6⟩:=hp
 have key:Zp b fs (ZY p) (Yp p)=0->Vi 0 ⟨ZM 77 0 [(5,.ptr 0 0),(6,.ptr 1 0),(7,.ptr 2 0),(9,.ptr 3 0),(10,.ptr 4 0),(11,.ptr 5 0),(13,.undef),(14,.undef),(15,.undef),(32,(.fn 177 [] [(.ptr 6 0),(.ptr 7 0)])),(34,.undef),(35,.undef),(36,.undef),(37,.undef),(38,.undef),(39,.undef),(40,.undef),(41,.undef),(42,.undef),(43,.undef),(44,.undef)],
   hN p++[(.obj (.box [(.pv (.sl 1 false (List.map enc b.v))),(.pv (.int .i64 b.m))])),(.obj (.box [(.pv (.sl 3 false (List.map enc fs)))]))]⟩ (fun x S'=>Jb YN Vi 0 (Za YZ (Zl (Yw b fs p))) YP 0 x S'):=by
  intro h0
  obtain⟨hv,_⟩:=WZ _ _ _ _ h0
  have h20:=PR (fs:=fs) hv
  refine⟨rfl,[6,7],[[enc b.v,.int .i64 b.m],[enc fs]],[5,6,7,9,10,11],[],⟨ZM 77 0 [(5,.ptr 0 0),(6,.ptr 1 0),(7,.ptr 2 0),(9,.ptr 3 0),(10,.ptr 4 0),(11,.ptr 5 0)],hN p⟩,gsI b fs p,gsX b fs p,rfl,by simp,rfl,?_,by kernel_rfl,AX hv h2 h4,⟨[],rfl,.inl ⟨rfl,rfl⟩⟩,?_,?_,?_⟩
  ·intro j l' ps hl hps
   match j with
   | 0=>cases hl;cases hps;rfl
   | 1=>cases hl;cases hps;rfl
   | j+2=>simp at hl
  ·intro k x σ hx hI
   rw[SV,List.getElem?_map]at hx
   obtain⟨q,hq,rfl⟩:=Option.map_eq_some_iff.1 hx
   have e:SK [(13,34)] (Cb [33,34] ((Q4 (q,Zn b.v q)).map .pv) (ZM 77 0 [(5,.ptr 0 0),(6,.ptr 1 0),(7,.ptr 2 0),(9,.ptr 3 0),(10,.ptr 4 0),(11,.ptr 5 0)]))=ZM 77 0 [(5,.ptr 0 0),(6,.ptr 1 0),(7,.ptr 2 0),(9,.ptr 3 0),(10,.ptr 4 0),(11,.ptr 5 0),(13,.pv (enc (Zn b.v q))),(33,.pv (enc q)),(34,.pv (enc (Zn b.v q)))]:=by kernel_rfl
   have:=a3w b fs p h5 hv h4 k q σ hq hI
   rw[<- e]at this
   exact this
  ·intro σ hI
   rw[SV,List.length_map]at hI
   obtain⟨l,hl,hσ⟩:=hI
   rw[List.take_length]at hl
   have hT:Yw b fs p=WT l:=by unfold Yw;rw[if_pos h0,hl]
   have hlen:=Qx hl
   rcases hσ with ⟨e0,rfl⟩|⟨_,_,rfl⟩
   ·refine a5c (G:=Zl (Yw b fs p)) Vi b fs p ?_
    refine a5x (G:=Zl (Yw b fs p)) Vi b fs p (Ze ([0,0],[2147483648,1],()) rfl ?_)
    have:l=[]:=List.length_eq_zero_iff.1 (by omega)
    rw[hT,this]
    exact ZV (x:=((0:Int),(0:Int))) rfl
   ·refine a4p (G:=Zl (Yw b fs p)) Vi b fs p _ _ _ ?_
    have:=b6v b fs p l (by omega) (BL hl) (Yw b fs p) hT l.length 0 (by omega)
    rw[hlen]at this
    exact this
  ·intro σ hX
   obtain⟨hn,hσ⟩:=hX
   have hT:Yw b fs p=(0,2):=by unfold Yw;rw[if_pos h0,hn]
   rcases hσ with rfl|⟨n,xs,ys,rfl⟩
   ·exact Ou (G:=Zl (Yw b fs p)) Vi b fs p (by rw[hT];exact ZV (x:=((0:Int),(2:Int))) rfl)
   ·exact EE (G:=Zl (Yw b fs p)) Vi b fs p n xs ys (by rw[hT];exact ZV (x:=((0:Int),(2:Int))) rfl)
 have hbad:Zp b fs (ZY p) (Yp p)≠0->Zl (Yw b fs p) (.tup [.int .i64 0,.int .i64 (Zp b fs (ZY p) (Yp p))]):=by
  intro h0
  unfold Yw
  rw[if_neg h0]
  exact ZV (x:=((0:Int),Zp b fs (ZY p) (Yp p))) rfl
 have hn:Zp b fs (ZY p) (Yp p)=Zp b fs (ZY p) []:=by
  cases hv:ZY p
  ·unfold Zp;simp
  ·rw[hv]at h6
   rw[a5w (by simpa using h6)]
 rw[hn]at key hbad
 refine b7n Vi b fs p ⟨Zh (p,()) rfl h5,Ze (p,()) rfl ⟨?_,Zh (b,fs,ZY p,⟨⟩,()) rfl (by simp[h1,h2,h3]),Ze (b,fs,ZY p,⟨⟩,()) rfl ?_⟩⟩
 ·show(Wz (List Mono) (enc p)&&Yd (dec (enc p:PV))&&(!ZY (dec (enc p:PV))||(XC (dec (enc p:PV))).isEmpty))=true
  rw[ZQ,Enc.dec_enc,h5,h6];rfl
 ·show if (Zp b fs (ZY p) [] != 0)=true then _ else _
  by_cases h0:Zp b fs (ZY p) []=0
  ·rw[if_neg (by simp[h0])]
   refine⟨?_,key h0⟩
   show(Wz (List Str) (enc b.v)&&Wz (List Fact) (enc fs))=true
   rw[ZQ,ZQ];rfl
  ·rw[if_pos (by simpa using h0)]
   exact hbad h0
def Vg:Yx:=fun n st q=>n=0∧Gv YK 0 (.t 32) 177 [33,34] [(13,34)] VV Q4 UM DZ st q
theorem a6v(b:BoxT)(fs:List Fact)(p:List Mono)(hp:Yd p=true)(hv:Xo b=true)(hb:b.v.length<=1000)(k:Nat)(q:List Int)(σ:Zt)(hq:(Yb b fs)[k]? = some q)(h:gsI b fs p k σ):
  Zz YK (fun n S' _=>n=99∧gsI b fs p (k+1) S'.heap) σ.length (fun st=>gsX b fs p st.heap) (.inl VV) [.seq (.ext 99 [])]
   ⟨ZM 77 0 [(5,.ptr 0 0),(6,.ptr 1 0),(7,.ptr 2 0),(9,.ptr 3 0),(10,.ptr 4 0),(11,.ptr 5 0),(13,.pv (enc (Zn b.v q))),(33,.pv (enc q)),(34,.pv (enc (Zn b.v q)))],σ⟩:=by
 have hk:=(List.getElem?_eq_some_iff.1 hq).1
 have hkp:=(List.getElem?_eq_some_iff.1 hq).2
 have h20:=PR (fs:=fs) hv
 have ht:(Yb b fs).take (k+1)=(Yb b fs).take k++[q]:=by rw[List.take_succ_eq_append_getElem hk,hkp]
 have hvl:(Zn b.v q).length<=9223372036854775807:=by unfold Zn;rw[List.length_zipWith];omega
 have hpre:preT (fun x:List Mono×List Coef×Unit=>Yd x.1&&Zv x.2.1) (encL (p,Zn b.v q,()))=true:=Zh (p,Zn b.v q,()) rfl (by rw[hp,ZL.2 hvl];rfl)
 obtain⟨l,hl,hσ⟩:=h
 have hlen:=Qx hl
 rw[List.length_take]at hlen
 rcases hσ with ⟨rfl,rfl⟩|⟨h0,h1,rfl⟩
 ·apply b1p (G:=gsX b fs p) (fun n S' _=>n=99∧gsI b fs p (0+1) S'.heap) p q (Zn b.v q)
  refine⟨hpre,Ze (p,Zn b.v q,()) rfl ?_⟩
  refine Wn (fun he=> ?_) fun he=> ?_
  ·have he:(Yz p (Zn b.v q)).2≠0:=by simpa using he
   exact⟨Gn hq he,.inl rfl⟩
  ·have he:(Yz p (Zn b.v q)).2=0:=by simpa using he
   have hs:=Um he hl
   rw[<- ht]at hs
   have hnil:l=[]:=List.length_eq_zero_iff.1 (by omega)
   subst hnil
   exact⟨rfl,_,hs,.inr ⟨by omega,by omega,rfl⟩⟩
 ·have hlk:l.length=k:=by omega
  apply a7w (G:=gsX b fs p) (fun n S' _=>n=99∧gsI b fs p (k+1) S'.heap) p q (Zn b.v q) k (l.map Wm) (l.map XR)
  refine⟨hpre,Ze (p,Zn b.v q,()) rfl ?_⟩
  refine Wn (fun he=> ?_) fun he=> ?_
  ·have he:(Yz p (Zn b.v q)).2≠0:=by simpa using he
   exact⟨Gn hq he,.inr ⟨k,_,_,rfl⟩⟩
  ·have he:(Yz p (Zn b.v q)).2=0:=by simpa using he
   have hs:=Um he hl
   rw[<- ht]at hs
   refine⟨?_,rfl,_,hs,.inr ⟨by omega,by omega,?_⟩⟩
   ·show(k==k&&k==k&&k==k&&3==3&&3==3&&((l.map Wm).map (enc:Int->PV)).length==k&&((l.map XR).map (enc:Int->PV)).length==k&&decide (k<=1000000))=true
    rw[List.length_map,List.length_map,List.length_map,List.length_map,hlk,decide_eq_true (by omega)];simp
   ·unfold hR
    rw[List.map_append,List.map_append,List.map_append,List.map_append]
    rfl
theorem a8b(b:BoxT)(fs:List Fact)(p:List Mono)(l:List Int)(hl:l.length<=20000)(hr : ∀ x∈l,Ua x=true)(R:Int×Int)(hR:R=WT l): ∀ (d i:Nat),d+i=l.length ->
  AtM YK Vg 0 (Za Y2 (Zl R)) Y1 0 77 [(6,.ptr 0 0),(7,.ptr 1 0),(9,.ptr 2 0),(10,.ptr 3 0),(16,.pv (.int .i64 ((l.map Wm).take i).sum)),(17,.pv (.int .i64 ((l.map XR).take i).sum)),(47,.pv (.int .i64 l.length)),(48,.pv (.int .i64 i))]
   [.obj (.box [.pv (.int .i64 0)]),.obj (.box [.pv (.int .i64 0)]),.obj (.box [.row 4 l.length 0 l.length]),.obj (.box [.row 5 l.length 0 l.length]),.obj (.row false 3 1 ((l.map Wm).map enc)),.obj (.row false 3 1 ((l.map XR).map enc))]:=by
 have hb1 : ∀ i,((l.map Wm).take i).length*(-2147483648:Int)<=((l.map Wm).take i).sum∧((l.map Wm).take i).sum<=((l.map Wm).take i).length*(2147483648:Int):=fun i=>Jw (by
  intro x hx
  obtain⟨n,hn,rfl⟩:=List.mem_map.1 (List.mem_of_mem_take hx)
  exact b1b (hr n hn))
 have hb2 : ∀ i,((l.map XR).take i).length*(0:Int)<=((l.map XR).take i).sum∧((l.map XR).take i).sum<=((l.map XR).take i).length*(2147483647:Int):=fun i=>Jw (by
  intro x hx
  obtain⟨n,hn,rfl⟩:=List.mem_map.1 (List.mem_of_mem_take hx)
  exact a9x n)
 have hc1 : ∀ i,((l.map Wm).take i).length<=20000:=fun i=>by rw[List.length_take,List.length_map];omega
 have hc2 : ∀ i,((l.map XR).take i).length<=20000:=fun i=>by rw[List.length_take,List.length_map];omega
 intro d
 induction d with
 | zero=>
  intro i hi
  apply RH (G:=Zl R) Vg b fs p
  refine Z8 (Yc (by omega)) ?_
  have e1:(l.map Wm).take i=l.map Wm:=List.take_of_length_le (by rw[List.length_map];omega)
  have e2:(l.map XR).take i=l.map XR:=List.take_of_length_le (by rw[List.length_map];omega)
  have a1:=hb1 i
  have a2:=hb2 i
  have a3:=hc1 i
  have a4:=hc2 i
  rw[e1]at a1 a3
  rw[e2]at a2 a4
  rw[e1,e2,b9i,a0w]
  have hh:Wm (l.map XR).sum=(l.map XR).sum / 2147483648:=rfl
  have hw:IntKind.i64.wrap ((l.map Wm).sum+Wm (l.map XR).sum)=(l.map Wm).sum+Wm (l.map XR).sum:=Wo (by rw[hh];omega) (by rw[hh];omega)
  rw[hw]
  refine Ze ([(l.map Wm).sum+Wm (l.map XR).sum,XR (l.map XR).sum],[2147483648,1],()) rfl ?_
  rw[hR,<- Ab hl hr (H:=(l.map Wm).sum+Wm (l.map XR).sum) (L:=XR (l.map XR).sum) rfl rfl]
  exact ZV rfl
 | succ d ih=>
  intro i hi
  have hlt:i<l.length:=by omega
  have hl1:i<(l.map Wm).length:=by rw[List.length_map];omega
  have hl2:i<(l.map XR).length:=by rw[List.length_map];omega
  apply RH (G:=Zl R) Vg b fs p
  apply Ya (Z4 hlt)
  rw[Qq hl1,Qq hl2]
  refine⟨by simp;omega,by simp;omega,rfl,by simp;omega,by simp;omega,rfl,?_⟩
  rw[next (by omega)]
  show AtM YK _ _ _ _ _ _ [_,_,_,_,(16,.pv (.int .i64 (IntKind.i64.wrap (((l.map Wm).take i).sum+(l.map Wm)[i])))),(17,.pv (.int .i64 (IntKind.i64.wrap (((l.map XR).take i).sum+(l.map XR)[i])))),_,_] _
  have s1:((l.map Wm).take i).sum+(l.map Wm)[i]=((l.map Wm).take (i+1)).sum:=by rw[List.take_succ_eq_append_getElem hl1,List.sum_append];simp
  have s2:((l.map XR).take i).sum+(l.map XR)[i]=((l.map XR).take (i+1)).sum:=by rw[List.take_succ_eq_append_getElem hl2,List.sum_append];simp
  have a1:=hb1 (i+1)
  have a2:=hb2 (i+1)
  have a3:=hc1 (i+1)
  have a4:=hc2 (i+1)
  rw[s1,s2,Wo (by omega) (by omega),Wo (by omega) (by omega)]
  exact ih (i+1) (by omega)
theorem a7a: ∀ x:BoxT×List Fact×List Mono×Unit,(Xh x.1 x.2.1 x.2.2.1&&(ZY x.2.2.1&& !(XC x.2.2.1).isEmpty))=true->Q0 YK Vg 0 (Za Y2 (Zl (Yw x.1 x.2.1 x.2.2.1))) Y1 [] (YD b5q (encL x)):=by
 rintro⟨b,fs,p,⟨⟩⟩ hp
 simp only[Xh,Bool.and_eq_true,decide_eq_true_eq]at hp
 obtain⟨⟨⟨⟨⟨h1,h2⟩,h3⟩,h4⟩,h5⟩,h6⟩:=hp
 have key:Zp b fs (ZY p) (Yp p)=0->Vg 0 ⟨ZM 77 0 [(5,.ptr 0 0),(6,.ptr 1 0),(7,.ptr 2 0),(9,.ptr 3 0),(10,.ptr 4 0),(11,.ptr 5 0),(13,.undef),(14,.undef),(15,.undef),(32,(.fn 177 [] [(.ptr 6 0),(.ptr 7 0)])),(34,.undef),(35,.undef),(36,.undef),(37,.undef),(38,.undef),(39,.undef),(40,.undef),(41,.undef),(42,.undef),(43,.undef),(44,.undef)],
   hN p++[(.obj (.box [(.pv (.sl 1 false (List.map enc b.v))),(.pv (.int .i64 b.m))])),(.obj (.box [(.pv (.sl 3 false (List.map enc fs)))]))]⟩ (fun x S'=>Jb YK Vg 0 (Za Y2 (Zl (Yw b fs p))) Y1 0 x S'):=by
  intro h0
  obtain⟨hv,_⟩:=WZ _ _ _ _ h0
  have h20:=PR (fs:=fs) hv
  refine⟨rfl,[6,7],[[enc b.v,.int .i64 b.m],[enc fs]],[5,6,7,9,10,11],[],⟨ZM 77 0 [(5,.ptr 0 0),(6,.ptr 1 0),(7,.ptr 2 0),(9,.ptr 3 0),(10,.ptr 4 0),(11,.ptr 5 0)],hN p⟩,gsI b fs p,gsX b fs p,rfl,by simp,rfl,?_,by kernel_rfl,AX hv h2 h4,⟨[],rfl,.inl ⟨rfl,rfl⟩⟩,?_,?_,?_⟩
  ·intro j l' ps hl hps
   match j with
   | 0=>cases hl;cases hps;rfl
   | 1=>cases hl;cases hps;rfl
   | j+2=>simp at hl
  ·intro k x σ hx hI
   rw[SV,List.getElem?_map]at hx
   obtain⟨q,hq,rfl⟩:=Option.map_eq_some_iff.1 hx
   have e:SK [(13,34)] (Cb [33,34] ((Q4 (q,Zn b.v q)).map .pv) (ZM 77 0 [(5,.ptr 0 0),(6,.ptr 1 0),(7,.ptr 2 0),(9,.ptr 3 0),(10,.ptr 4 0),(11,.ptr 5 0)]))=ZM 77 0 [(5,.ptr 0 0),(6,.ptr 1 0),(7,.ptr 2 0),(9,.ptr 3 0),(10,.ptr 4 0),(11,.ptr 5 0),(13,.pv (enc (Zn b.v q))),(33,.pv (enc q)),(34,.pv (enc (Zn b.v q)))]:=by kernel_rfl
   have:=a6v b fs p h5 hv h4 k q σ hq hI
   rw[<- e]at this
   exact this
  ·intro σ hI
   rw[SV,List.length_map]at hI
   obtain⟨l,hl,hσ⟩:=hI
   rw[List.take_length]at hl
   have hT:Yw b fs p=WT l:=by unfold Yw;rw[if_pos h0,hl]
   have hlen:=Qx hl
   rcases hσ with ⟨e0,rfl⟩|⟨_,_,rfl⟩
   ·refine a4j (G:=Zl (Yw b fs p)) Vg b fs p ?_
    refine a4k (G:=Zl (Yw b fs p)) Vg b fs p (Ze ([0,0],[2147483648,1],()) rfl ?_)
    have:l=[]:=List.length_eq_zero_iff.1 (by omega)
    rw[hT,this]
    exact ZV (x:=((0:Int),(0:Int))) rfl
   ·refine a4g (G:=Zl (Yw b fs p)) Vg b fs p _ _ _ ?_
    have:=a8b b fs p l (by omega) (BL hl) (Yw b fs p) hT l.length 0 (by omega)
    rw[hlen]at this
    exact this
  ·intro σ hX
   obtain⟨hn,hσ⟩:=hX
   have hT:Yw b fs p=(0,2):=by unfold Yw;rw[if_pos h0,hn]
   rcases hσ with rfl|⟨n,xs,ys,rfl⟩
   ·exact El (G:=Zl (Yw b fs p)) Vg b fs p (by rw[hT];exact ZV (x:=((0:Int),(2:Int))) rfl)
   ·exact En (G:=Zl (Yw b fs p)) Vg b fs p n xs ys (by rw[hT];exact ZV (x:=((0:Int),(2:Int))) rfl)
 have hbad:Zp b fs (ZY p) (Yp p)≠0->Zl (Yw b fs p) (.tup [.int .i64 0,.int .i64 (Zp b fs (ZY p) (Yp p))]):=by
  intro h0
  unfold Yw
  rw[if_neg h0]
  exact ZV (x:=((0:Int),Zp b fs (ZY p) (Yp p))) rfl
 have hpv:ZY p=true:=by simp at h6;exact h6.1
 have hne:(XC p).isEmpty=false:=by simp only[Bool.and_eq_true,Bool.not_eq_true']at h6;exact h6.2
 refine c2h Vg b fs p ⟨Zh (p,()) rfl h5,Ze (p,()) rfl ⟨?_,?_⟩⟩
 ·show(Wz (List Mono) (enc p)&&Yd (dec (enc p:PV))&&ZY (dec (enc p:PV))&& !(XC (dec (enc p:PV))).isEmpty)=true
  rw[ZQ,Enc.dec_enc,h5,hpv,hne];rfl
 ·have hmd:VN (enc p)=p:=Enc.dec_enc p
  rw[hmd,a2r,Mc,Uy]
  have hnl:(Yp p).length<=480:=by
   have a:=a7k p
   have c:=Pj p (H5 hpv).2 p.length (Nat.le_refl _)
   unfold UA at c
   rw[List.take_length]at c
   have:=(H5 hpv).1
   unfold XC at a
   omega
  refine⟨?_,?_⟩
  ·show(Wz BoxT (enc b)&&Wz (List Fact) (enc fs)&&9==9&&Te (Yp p).length (Yp p).length ((Yp p).map enc)&&decide ((Yp p).length<=1000)&& !((Yp p).map (enc:Str->PV)).isEmpty&&ZP (dec (enc b:PV))&&Zo (dec (enc fs:PV))&&decide ((dec (enc fs:PV):List Fact).length<=100)&&decide (((Yp p).map (enc:Str->PV)).length<=1000))=true
   rw[List.length_map,ZQ,ZQ,Enc.dec_enc,Enc.dec_enc,Cr rfl (by omega),h1,h2,decide_eq_true h3,decide_eq_true (show(Yp p).length<=1000 by omega)]
   have:((Yp p).map (enc:Str->PV)).isEmpty=false:=by
    have:=b5k hne
    rw[List.isEmpty_eq_false_iff]at this ⊢
    intro h
    exact this (List.map_eq_nil_iff.1 h)
   rw[this];simp
  ·show if (Zp b fs (ZY p) (Yp p) != 0)=true then _ else _
   by_cases h0:Zp b fs (ZY p) (Yp p)=0
   ·rw[if_neg (by simp[h0])]
    refine⟨?_,key h0⟩
    show(Wz (List Str) (enc b.v)&&Wz (List Fact) (enc fs))=true
    rw[ZQ,ZQ];rfl
   ·rw[if_pos (by simpa using h0)]
    exact hbad h0
end Go.Pl

namespace Go.Pl
open Go.RowKit
open Enc (enc dec is)
open EncL (encL decL isL)
def xN:Str:=⟨[110]⟩
def xM:Str:=⟨[109]⟩
def Q7(a b c:Int):Fact:=⟨false,Xy (Xy ⟨c,[]⟩ xN a) xM b⟩
end Go.Pl

namespace Go.Pl
open Go.RowKit
open Enc (enc dec is)
open EncL (encL decL isL)
set_option maxRecDepth 100000
def JR:IC:=(.seq (.reg [⟨(some 6),(.alloc (.agg [(.bool false),(.int .i64 0),(.sl 0 true [])])),0,none⟩] none) (.seq (.reg [⟨(some 7),(.mv (.t 2)),0,none⟩,⟨(some 8),(.call (.c (.fn 91)) [(.t 7)]),0,none⟩,⟨(some 9),(.mv (.t 0)),2,none⟩,⟨(some 10),(.call (.c (.fn 89)) [(.t 8),(.c (.str [110])),(.t 9)]),2,none⟩,⟨(some 11),(.mv (.t 1)),4,none⟩,⟨(some 12),(.call (.c (.fn 89)) [(.t 10),(.c (.str [109])),(.t 11)]),4,none⟩,⟨(some 13),(.build [(.bool false),(.int .i64 0),(.sl 0 true [])] [(1,(2,(.t 12)))]),6,none⟩,⟨none,(.store 3 (.t 6) (.t 13)),6,none⟩] none) .ret))
def Jo:List IRes:=[(.cell true 3 6)]
abbrev Oi:Nat:=14
def GJ:ZC:=Xn [(91,.pure (preT (fun _:Int×Unit=>true)) (Zg (fun x:Int×Unit=>(⟨x.1,[]⟩:Lin)))),(89,.pure (preT (fun x:Lin×Str×Int×Unit=>decide (x.1.t.length<=1000000))) (Zg (fun x:Lin×Str×Int×Unit=>Xy x.1 x.2.1 x.2.2.1)))]
theorem a3d{G:PV->Prop}(a b c:Int)(h : ∃ y0:Lin,AV.pv (Zg (fun(x:Int×Unit)=>Lin.mk x.1 []) [(.int .i64 c)])=AV.pv (enc y0)∧((Go.Pl.preT (fun(x:Lin×Str×Int×Unit)=>decide (List.length x.1.t<=1000000)) [(.agg [(.int .i64 y0.k),(.sl 2 false (List.map enc y0.t))]),(.str [(110:UInt8)]),(.int .i64 a)])=true∧(∃ y1:Lin,AV.pv (Zg (fun(x:Lin×Str×Int×Unit)=>Xy x.1 x.2.1 x.2.2.1) [(.agg [(.int .i64 y0.k),(.sl 2 false (List.map enc y0.t))]),(.str [(110:UInt8)]),(.int .i64 a)])=AV.pv (enc y1)∧((Go.Pl.preT (fun(x:Lin×Str×Int×Unit)=>decide (List.length x.1.t<=1000000)) [(.agg [(.int .i64 y1.k),(.sl 2 false (List.map enc y1.t))]),(.str [(109:UInt8)]),(.int .i64 b)])=true∧(∃ y2:Lin,AV.pv (Zg (fun(x:Lin×Str×Int×Unit)=>Xy x.1 x.2.1 x.2.2.1) [(.agg [(.int .i64 y1.k),(.sl 2 false (List.map enc y1.t))]),(.str [(109:UInt8)]),(.int .i64 b)])=AV.pv (enc y2)∧(G ((.agg [(.bool false),(.int .i64 y2.k),(.sl 2 false (List.map enc y2.t))])))))))):Zc GJ 0 (Za Jo G) JR [] (YD 14 [enc a,enc b,enc c]):=Zc.tp (.lit (.abs (Lin) (fun YY=>AV.pv (enc YY)) (.req (.abs (Lin) (fun YY=>AV.pv (enc YY)) (.req (.abs (Lin) (fun YY=>AV.pv (enc YY)) (.nil))))))) h (by kernel_rfl)
def JK:IC:=(.seq (.reg [⟨(some 0),(.mv (.c (.bool false))),0,none⟩] none) (.seq (.reg [⟨(some 9),(.bslice 9 1 2 (.str []) [(0,(.c (.str [110]))),(1,(.c (.str [109])))]),0,none⟩,⟨(some 10),(.build [(.sl 0 true []),(.int .i64 0)] [(0,(1,(.t 9))),(1,(1,(.c (.int .i64 3))))]),1,none⟩,⟨(some 1),(.alloc (.agg [(.sl 0 true []),(.int .i64 0)])),1,none⟩,⟨none,(.store 2 (.t 1) (.t 10)),2,none⟩] none) (.seq (.reg [⟨(some 11),(.call (.c (.fn 115)) [(.c (.int .i64 1)),(.c (.int .i64 (-1))),(.c (.int .i64 (-1)))]),0,none⟩,⟨(some 12),(.bslice 100 3 1 (.agg [(.bool false),(.int .i64 0),(.sl 0 true [])]) [(0,(.t 11))]),2,none⟩,⟨(some 2),(.mv (.t 12)),3,none⟩] none) (.seq (.reg [⟨(some 14),(.load true [(.sl 1),(.int .i64)] (.t 1)),0,none⟩,⟨(some 15),(.mv (.t 2)),0,none⟩,⟨(some 16),(.call (.c (.fn 47)) [(.t 14),(.t 15)]),0,none⟩,⟨(some 13),(.mv (.t 16)),2,none⟩,⟨(some 17),(.extract (.t 13) 0),2,none⟩,⟨(some 18),(.extract (.t 13) 1),2,none⟩,⟨(some 3),(.mv (.t 17)),2,none⟩,⟨(some 4),(.mv (.t 18)),2,none⟩] none) (.seq (.reg [⟨(some 20),(.load true [(.sl 1),(.int .i64)] (.t 1)),0,none⟩,⟨(some 21),(.mv (.t 2)),0,none⟩,⟨(some 22),(.call (.c (.fn 115)) [(.c (.int .i64 2)),(.c (.int .i64 1)),(.c (.int .i64 0))]),0,none⟩,⟨(some 23),(.field true 1 2 (.t 22)),2,none⟩,⟨(some 24),(.call (.c (.fn 58)) [(.t 20),(.t 21),(.t 23)]),2,none⟩,⟨(some 19),(.mv (.t 24)),4,none⟩,⟨(some 25),(.extract (.t 19) 0),4,none⟩,⟨(some 26),(.extract (.t 19) 1),4,none⟩,⟨(some 5),(.mv (.t 25)),4,none⟩,⟨(some 6),(.mv (.t 26)),4,none⟩] (some [[],[],[],[2],[0,1,3,2],[4,0,1,3,2],[5,4,0,1,3,2],[5,4,0,1,3,2],[6,4,0,1,2,3,5],[7,8,0,1,2,3,4,5,6]])) (.seq (.reg [⟨(some 28),(.load true [(.sl 1),(.int .i64)] (.t 1)),0,none⟩,⟨(some 29),(.mv (.t 2)),0,none⟩,⟨(some 30),(.bslice 9 1 2 (.str []) [(0,(.c (.str [109]))),(1,(.c (.str [110])))]),0,none⟩,⟨(some 31),(.build [(.int .i64 0),(.sl 0 true [])] [(0,(1,(.c (.int .i64 1)))),(1,(1,(.t 30)))]),1,none⟩,⟨(some 32),(.bslice 104 2 1 (.agg [(.int .i64 0),(.sl 0 true [])]) [(0,(.t 31))]),1,none⟩,⟨(some 33),(.call (.c (.fn 57)) [(.t 28),(.t 29),(.t 32)]),2,none⟩,⟨(some 27),(.mv (.t 33)),4,none⟩,⟨(some 34),(.extract (.t 27) 0),4,none⟩,⟨(some 35),(.extract (.t 27) 1),4,none⟩,⟨(some 7),(.mv (.t 34)),4,none⟩,⟨(some 8),(.mv (.t 35)),4,none⟩] none) (.seq (.reg [⟨(some 36),(.mv (.t 3)),0,none⟩,⟨(some 37),(.bin .num .eql (.t 36) (.c (.int .i64 6))),0,none⟩,⟨(some 38),(.mv (.t 37)),0,none⟩,⟨(some 39),(.mv (.t 5)),0,(some (38,true))⟩,⟨(some 40),(.bin .num .eql (.t 39) (.c (.int .i64 2))),0,(some (38,true))⟩,⟨(some 41),(.pick (.t 38) (.t 40) (.c (.bool false))),0,none⟩,⟨(some 42),(.mv (.t 41)),0,none⟩,⟨(some 43),(.mv (.t 7)),0,(some (42,true))⟩,⟨(some 44),(.bin .num .eql (.t 43) (.c (.int .i64 11))),0,(some (42,true))⟩,⟨(some 45),(.pick (.t 42) (.t 44) (.c (.bool false))),0,none⟩,⟨(some 46),(.mv (.t 45)),0,none⟩,⟨(some 47),(.mv (.t 4)),0,(some (46,true))⟩,⟨(some 48),(.bin .num .eql (.t 47) (.c (.int .i64 0))),0,(some (46,true))⟩,⟨(some 49),(.pick (.t 46) (.t 48) (.c (.bool false))),0,none⟩,⟨(some 50),(.mv (.t 49)),0,none⟩,⟨(some 51),(.mv (.t 6)),0,(some (50,true))⟩,⟨(some 52),(.bin .num .eql (.t 51) (.c (.int .i64 0))),0,(some (50,true))⟩,⟨(some 53),(.pick (.t 50) (.t 52) (.c (.bool false))),0,none⟩,⟨(some 54),(.mv (.t 53)),0,none⟩,⟨(some 55),(.mv (.t 8)),0,(some (54,true))⟩,⟨(some 56),(.bin .num .eql (.t 55) (.c (.int .i64 0))),0,(some (54,true))⟩,⟨(some 57),(.pick (.t 54) (.t 56) (.c (.bool false))),0,none⟩,⟨(some 58),(.mv (.t 57)),0,none⟩,⟨(some 59),(.load true [(.sl 1),(.int .i64)] (.t 1)),0,(some (58,true))⟩,⟨(some 60),(.call (.c (.fn 50)) [(.t 59)]),0,(some (58,true))⟩,⟨(some 61),(.pick (.t 58) (.t 60) (.c (.bool false))),2,none⟩,⟨(some 0),(.mv (.t 61)),2,none⟩] none) .ret)))))))
def JE:List IRes:=[(.tmp 0)]
abbrev Ev:Nat:=62
def GQ:ZC:=Xn [(115,.pure (preT (fun _:Int×Int×Int×Unit=>true)) (Zg (fun x:Int×Int×Int×Unit=>Q7 x.1 x.2.1 x.2.2.1))),(47,.pure (preT (fun x:BoxT×List Fact×Unit=>ZP x.1&&Zo x.2.1&&decide (x.2.1.length<=100)&&decide (x.1.v.length<=1000))) (Zg (fun x:BoxT×List Fact×Unit=>YB x.1 x.2.1))),(58,.pure (preT (fun x:BoxT×List Fact×Lin×Unit=>Uu x.1 x.2.1 x.2.2.1)) (Zg (fun x:BoxT×List Fact×Lin×Unit=>UH Yn x.1 x.2.1 x.2.2.1))),(57,.pure (preT (fun x:BoxT×List Fact×List Mono×Unit=>Xh x.1 x.2.1 x.2.2.1)) (Zg (fun x:BoxT×List Fact×List Mono×Unit=>Yw x.1 x.2.1 x.2.2.1))),(50,.pure (preT (fun x:BoxT×Unit=>ZP x.1)) (Zg (fun x:BoxT×Unit=>Xo x.1)))]
theorem a4n{G:PV->Prop}(h : ∃ y0:Fact,AV.pv (Zg (fun(x:Int×Int×Int×Unit)=>Q7 x.1 x.2.1 x.2.2.1) [(.int .i64 1),(.int .i64 (-1)),(.int .i64 (-1))])=AV.pv (enc y0)∧((Go.Pl.preT (fun(x:BoxT×List Fact×Unit)=>ZP x.1&&Zo x.2.1&&decide (List.length x.2.1<=100)&&decide (List.length x.1.v<=1000)) [(.agg [(.sl 1 false [(.str [(110:UInt8)]),(.str [(109:UInt8)])]),(.int .i64 3)]),(.sl 3 false [(.agg [(.bool y0.eq),(.int .i64 (Lin.k y0.l)),(.sl 2 false (List.map enc (Lin.t y0.l)))])])])=true∧(∃ y1:Int×Int,AV.pv (Zg (fun(x:BoxT×List Fact×Unit)=>YB x.1 x.2.1) [(.agg [(.sl 1 false [(.str [(110:UInt8)]),(.str [(109:UInt8)])]),(.int .i64 3)]),(.sl 3 false [(.agg [(.bool y0.eq),(.int .i64 (Lin.k y0.l)),(.sl 2 false (List.map enc (Lin.t y0.l)))])])])=AV.pv (enc y1)∧(∃ y2:Fact,AV.pv (Zg (fun(x:Int×Int×Int×Unit)=>Q7 x.1 x.2.1 x.2.2.1) [(.int .i64 2),(.int .i64 1),(.int .i64 0)])=AV.pv (enc y2)∧((Go.Pl.preT (fun(x:BoxT×List Fact×Lin×Unit)=>Uu x.1 x.2.1 x.2.2.1) [(.agg [(.sl 1 false [(.str [(110:UInt8)]),(.str [(109:UInt8)])]),(.int .i64 3)]),(.sl 3 false [(.agg [(.bool y0.eq),(.int .i64 (Lin.k y0.l)),(.sl 2 false (List.map enc (Lin.t y0.l)))])]),(.agg [(.int .i64 (Lin.k y2.l)),(.sl 2 false (List.map enc (Lin.t y2.l)))])])=true∧(∃ y3:Int×Int,AV.pv (Zg (fun(x:BoxT×List Fact×Lin×Unit)=>UH Yn x.1 x.2.1 x.2.2.1) [(.agg [(.sl 1 false [(.str [(110:UInt8)]),(.str [(109:UInt8)])]),(.int .i64 3)]),(.sl 3 false [(.agg [(.bool y0.eq),(.int .i64 (Lin.k y0.l)),(.sl 2 false (List.map enc (Lin.t y0.l)))])]),(.agg [(.int .i64 (Lin.k y2.l)),(.sl 2 false (List.map enc (Lin.t y2.l)))])])=AV.pv (enc y3)∧((Go.Pl.preT (fun(x:BoxT×List Fact×List Mono×Unit)=>Xh x.1 x.2.1 x.2.2.1) [(.agg [(.sl 1 false [(.str [(110:UInt8)]),(.str [(109:UInt8)])]),(.int .i64 3)]),(.sl 3 false [(.agg [(.bool y0.eq),(.int .i64 (Lin.k y0.l)),(.sl 2 false (List.map enc (Lin.t y0.l)))])]),(.sl 2 false [(.agg [(.int .i64 1),(.sl 1 false [(.str [(109:UInt8)]),(.str [(110:UInt8)])])])])])=true∧(∃ y4:Int×Int,AV.pv (Zg (fun(x:BoxT×List Fact×List Mono×Unit)=>Yw x.1 x.2.1 x.2.2.1) [(.agg [(.sl 1 false [(.str [(110:UInt8)]),(.str [(109:UInt8)])]),(.int .i64 3)]),(.sl 3 false [(.agg [(.bool y0.eq),(.int .i64 (Lin.k y0.l)),(.sl 2 false (List.map enc (Lin.t y0.l)))])]),(.sl 2 false [(.agg [(.int .i64 1),(.sl 1 false [(.str [(109:UInt8)]),(.str [(110:UInt8)])])])])])=AV.pv (enc y4)∧(if (y1.1==6)=true then if (y3.1==2)=true then if (y4.1==11)=true then if (y1.2==0)=true then if (y3.2==0)=true then if (y4.2==0)=true then ∃ y5:Bool,AV.pv (Zg (fun(x:BoxT×Unit)=>Xo x.1) [(.agg [(.sl 1 false [(.str [(110:UInt8)]),(.str [(109:UInt8)])]),(.int .i64 3)])])=AV.pv (enc y5)∧(G ((.bool y5)))else(G ((.bool false)))else(G ((.bool false)))else(G ((.bool false)))else(G ((.bool false)))else(G ((.bool false)))else(G ((.bool false)))))))))))):Zc GQ 0 (Za JE G) JK [] (YD 62 []):=Zc.tp (.lit (.lit (.abs (Fact) (fun YY=>AV.pv (enc YY)) (.lit (.lit (.lit (.req (.abs (Int×Int) (fun YY=>AV.pv (enc YY)) (.lit (.abs (Fact) (fun YY=>AV.pv (enc YY)) (.lit (.lit (.req (.abs (Int×Int) (fun YY=>AV.pv (enc YY)) (.lit (.lit (.lit (.lit (.lit (.lit (.req (.abs (Int×Int) (fun YY=>AV.pv (enc YY)) (.lit (.ask (.lit (.lit (.lit (.ask (.lit (.lit (.lit (.ask (.lit (.lit (.lit (.ask (.lit (.lit (.lit (.ask (.lit (.lit (.lit (.ask (.lit (.lit (.lit (.abs (Bool) (fun YY=>AV.pv (enc YY)) (.lit (.nil)))))) (.lit (.lit (.nil))))))) (.lit (.lit (.lit (.lit (.lit (.nil)))))))))) (.lit (.lit (.lit (.lit (.lit (.lit (.lit (.lit (.nil))))))))))))) (.lit (.lit (.lit (.lit (.lit (.lit (.lit (.lit (.lit (.lit (.lit (.nil)))))))))))))))) (.lit (.lit (.lit (.lit (.lit (.lit (.lit (.lit (.lit (.lit (.lit (.lit (.lit (.lit (.nil))))))))))))))))))) (.lit (.lit (.lit (.lit (.lit (.lit (.lit (.lit (.lit (.lit (.lit (.lit (.lit (.lit (.lit (.lit (.lit (.nil)))))))))))))))))))))))))))))))))))))))))) h (by kernel_rfl)
end Go.Pl

namespace Go.Pl
open Go.RowKit
open Enc (enc dec is)
open EncL (encL decL isL)
theorem FJ: ∀ x:Int×Int×Int×Unit,(fun _:Int×Int×Int×Unit=>true) x=true->Zc GJ 0 (Za Jo (Zl (Q7 x.1 x.2.1 x.2.2.1))) JR [] (YD Oi (encL x)):=by
 rintro⟨a,b,c,⟨⟩⟩ -
 have h1:=L9 ⟨c,[]⟩ xN a
 refine a3d a b c (Ze (c,()) rfl ⟨Zh ((⟨c,[]⟩:Lin),xN,a,()) rfl rfl,Ze ((⟨c,[]⟩:Lin),xN,a,()) rfl ⟨Zh (Xy ⟨c,[]⟩ xN a,xM,b,()) rfl ?_,Ze (Xy ⟨c,[]⟩ xN a,xM,b,()) rfl ?_⟩⟩)
 ·exact decide_eq_true (Nat.le_trans h1 (show 0+1<=1000000 by decide))
 ·exact ZV (x:=Q7 a b c) rfl
def Gt:BoxT:=⟨[xN,xM],3⟩
def Dq:Fact:=⟨false,⟨-1,[⟨xM,-1⟩,⟨xN,1⟩]⟩⟩
def a6z:Lin:=⟨0,[⟨xM,1⟩,⟨xN,2⟩]⟩
def b2h:List Mono:=[⟨1,[xM,xN]⟩]
theorem c2j:Q7 1 (-1) (-1)=Dq:=by decide
theorem c5m:(Q7 2 1 0).l=a6z:=by decide
theorem Ex:Yb Gt [Dq]=[[1,0],[2,0],[2,1],[3,0],[3,1],[3,2]]:=by kernel_rfl
theorem b2i:Zp Gt [Dq] true [xM,xN]=0:=by kernel_rfl
theorem b8f:Zp Gt [Dq] true []=0:=by kernel_rfl
theorem a8v:YB Gt [Dq]=(6,0):=by
 unfold YB Yy
 rw[if_pos b8f,Ex];rfl
theorem a8s:UH Yn Gt [Dq] a6z=(2,0):=by
 have h1:Zd a6z=true:=by kernel_rfl
 have h2:Zm a6z=[xM,xN]:=rfl
 unfold UH YE
 rw[h1,h2,if_pos b2i,Ex]
 decide +kernel
theorem c4x:Yw Gt [Dq] b2h=(11,0):=by
 have h1:ZY b2h=true:=by kernel_rfl
 have h2:Yp b2h=[xM,xN]:=by rw[RJ];kernel_rfl
 unfold Yw
 rw[h1,h2,if_pos b2i,Ex]
 decide +kernel
theorem Mo: ∀ a:Unit,(fun _:Unit=>true) a=true->Zc GQ 0 (Za JE (Zl true)) JK [] (YD Ev (encL a)):=by
 rintro⟨⟩ -
 refine a4n (Ze ((1:Int),(-1:Int),(-1:Int),()) rfl ?_)
 simp only[c2j]
 refine⟨Zh (Gt,[Dq],()) rfl (by decide),Ze (Gt,[Dq],()) rfl (Ze ((2:Int),(1:Int),(0:Int),()) rfl ?_)⟩
 simp only[a8v,c5m]
 refine⟨Zh (Gt,[Dq],a6z,()) rfl (by decide),Ze (Gt,[Dq],a6z,()) rfl ?_⟩
 simp only[a8s]
 refine⟨Zh (Gt,[Dq],b2h,()) rfl (by decide),Ze (Gt,[Dq],b2h,()) rfl ?_⟩
 simp only[c4x]
 refine Ya rfl (Ya rfl (Ya rfl (Ya rfl (Ya rfl (Ya rfl (Ze (Gt,()) rfl (ZF ?_)))))))
 kernel_rfl
end Go.Pl

namespace Go.Pl
open Go.RowKit
open Enc (enc dec is)
open EncL (encL decL isL)
set_option maxRecDepth 100000
end Go.Pl

namespace Go.Pl
open Go.RowKit
open Enc (enc dec is)
open EncL (encL decL isL)
theorem a1k{l:Lin}{n:Int}(h:QV l n=true)(hn:n<=1000):ZW l=true∧(l.t.length:Int)<=n:=by
 unfold QV at h
 simp only[Bool.and_eq_true,decide_eq_true_eq]at h
 refine⟨?_,h.2⟩
 unfold ZW Y4
 rw[Bool.and_eq_true]
 refine⟨decide_eq_true (by omega),List.all_eq_true.2 fun t ht=> ?_⟩
 have:=List.all_eq_true.1 h.1 t ht
 have:=of_decide_eq_true this
 exact decide_eq_true (by omega)
theorem TK{b:BoxT}{fs:List Fact}(h:UY b fs=true):b.v.length<=5∧fs.length<=6∧Zo fs=true∧(∀ f∈fs,QV f.l 8=true):=by
 unfold UY D9 at h
 simp only[Bool.and_eq_true,decide_eq_true_eq]at h
 obtain⟨⟨⟨h1,h2⟩,h3⟩,h4,h5⟩:=h
 have h4:=List.all_eq_true.1 h4
 refine⟨h1,h3,?_,h4⟩
 unfold Zo
 rw[Bool.and_eq_true]
 exact⟨decide_eq_true (by omega),List.all_eq_true.2 fun f hf=>(a1k (h4 f hf) (by omega)).1⟩
theorem a3i{b:BoxT}{fs:List Fact}(hb:ZP b=true)(h:UY b fs=true):(ZP b&&Zo fs&&decide (fs.length<=100)&&decide (b.v.length<=1000))=true:=by
 obtain⟨h1,h2,h3,_⟩:=TK h
 rw[hb,h3,decide_eq_true (by omega),decide_eq_true (by omega)];rfl
theorem c4d{b:BoxT}{fs:List Fact}(hr:(Yy b fs).1≠[]):Xo b=true∧(Yy b fs).1=Yb b fs:=by
 unfold Yy at hr ⊢
 split at hr
 ·rename_i h0
  exact⟨(WZ _ _ _ _ h0).1,by rw[if_pos h0]⟩
 ·exact absurd rfl hr
theorem a4q{b:BoxT}{fs:List Fact}(hb:b.v.length<=1000):(Yy b fs).1.length<=20000∧(Yy b fs).1.all Zv=true:=by
 by_cases h:(Yy b fs).1=[]
 ·rw[h];exact⟨by simp,rfl⟩
 ·obtain⟨hv,e⟩:=c4d h
  rw[e]
  constructor
  ·unfold Yb
   refine Nat.le_trans (List.length_filter_le _ _) ?_
   rw[Vv hv,Gm]
   exact Cy hv
  ·refine List.all_eq_true.2 fun p hp=>ZL.2 ?_
   unfold Yb at hp
   rw[Vv hv]at hp
   have:=(Kl.1 (List.mem_filter.1 hp).1).1
   omega
end Go.Pl

namespace Go.Pl
open Go.RowKit
open Enc (enc dec is)
open EncL (encL decL isL)
end Go.Pl

namespace Go.Pl
open Go.RowKit
theorem NJ{l:Lin}(h:Zd l=true)(s:List UInt8): -1000000<=Z6 l.t s∧Z6 l.t s<=1000000:=by
 unfold Z6
 cases hf:l.t.find? fun t=>t.v.s==s with
 | none=>exact⟨by decide,by decide⟩
 | some t=>
  have:=(UC h (List.mem_of_find?_eq_some hf)).2.2
  exact this
theorem BJ{n:Int}(h1 : -4000000000000<=n)(h2:n<=4000000000000):YV n=n:=YU (by omega) (by omega)
theorem G5(k:Int)(s:List UInt8): ∀ (x:List Coef) (l:Lin),V9 x->V9 l.t->YV (Z6 l.t s)=Z6 l.t s->Z6 (x.foldl (fun o t=>Xy o t.v (YV (k*t.c))) l).t s=YV (Z6 l.t s+YV (k*Z6 x s))
 | [],l,_,_,h=>by
  rw[List.foldl_nil,Uj,Int.mul_zero]
  have:YV 0=0:=by decide
  rw[this,Int.add_zero,h]
 | t::x,l,hx,hl,h=>by
  obtain⟨h1,h2⟩:=Xx.1 hx
  rw[List.foldl_cons,ZH]
  have e:=Ru (l:=l) t.v (KY (k*t.c)) hl s
  by_cases hs:t.v.s=s
  ·rw[if_pos hs]at e ⊢
   rw[hs]at e
   rw[G5 k s x _ h2 (Hu _ _ hl) (by rw[e,KY]),e,VO (ts:=x) (fun u hu=>hs▸h1 u hu),Int.mul_zero]
   have:YV 0=0:=by decide
   rw[this,Int.add_zero,KY]
  ·rw[if_neg hs]at e ⊢
   rw[G5 k s x _ h2 (Hu _ _ hl) (by rw[e,h]),e]
theorem MJ(k:Int): ∀ (x:List Coef) (l:Lin),V9 l.t->V9 (x.foldl (fun o t=>Xy o t.v (YV (k*t.c))) l).t
 | [],l,h=>h
 | t::x,l,h=>MJ k x _ (Hu _ _ h)
theorem a0i{k c:Int}(h1 : -1000001<=k)(h2:k<=1000001)(h3 : -1000000<=c)(h4:c<=1000000): -1000001000000<=k*c∧k*c<=1000001000000:=by
 have a:k*c<=1000001000000:=by
  rcases Int.le_total 0 c with h|h
  ·have:=Int.mul_le_mul_of_nonneg_right h2 h
   omega
  ·have:=Int.mul_le_mul_of_nonpos_right h1 h
   omega
 have b : -1000001000000<=k*c:=by
  rcases Int.le_total 0 c with h|h
  ·have:=Int.mul_le_mul_of_nonneg_right h1 h
   omega
  ·have:=Int.mul_le_mul_of_nonpos_right h2 h
   omega
 exact⟨b,a⟩
theorem ED{a b:Lin}{k:Int}(ha:Zd a=true)(hb:Zd b=true)(h1 : -1000001<=k)(h2:k<=1000001)(s:List UInt8):Z6 (Z5 a b k).t s=Z6 a.t s+k*Z6 b.t s:=by
 have ra:=NJ ha s
 have rb:=NJ hb s
 have rm:=a0i h1 h2 rb.1 rb.2
 have e:Z6 (Z5 a b k).t s=YV (Z6 a.t s+YV (k*Z6 b.t s)):=G5 k s b.t ⟨YV (a.k+YV (k*b.k)),a.t⟩ (Qs hb) (show V9 a.t from Qs ha) (show YV (Z6 a.t s)=Z6 a.t s from BJ (by omega) (by omega))
 rw[e,BJ (n:=k*Z6 b.t s) (by omega) (by omega),BJ (by omega) (by omega)]
theorem ME{a b:Lin}{k:Int}(ha:Zd a=true)(hb:Zd b=true)(h1 : -1000001<=k)(h2:k<=1000001):(Z5 a b k).k=a.k+k*b.k:=by
 have ra:=KN ha
 have rb:=KN hb
 have rm:=a0i h1 h2 rb.1 rb.2
 rw[Ch,BJ (n:=k*b.k) (by omega) (by omega),BJ (by omega) (by omega)]
end Go.Pl

namespace Go.Pl
open Go.RowKit
open Enc (enc dec is)
open EncL (encL decL isL)
def FN(t:Coef):Coef:=⟨t.v,-t.c⟩
def ngL(l:Lin):Lin:=⟨-l.k,l.t.map FN⟩
theorem a1a(s:List UInt8): ∀ ts:List Coef,Z6 (ts.map FN) s = - Z6 ts s
 | []=>rfl
 | t::ts=>by
  have ih:=a1a s ts
  rw[List.map_cons,ZH,ZH,ih]
  show(if t.v.s=s then -t.c else _)=_
  split <;> rfl
theorem a1g: ∀ ts:List Coef,Q5 (ts.map FN)=Q5 ts
 | []=>rfl
 | [_]=>rfl
 | a::b::l=>by
  have ih:=a1g (b::l)
  show(decide (a.v.s<b.v.s)&&Q5 ((b::l).map FN))=_
  rw[ih];rfl
theorem b2c{l:Lin}(h:Zd l=true):Zd (ngL l)=true:=by
 have h1:=KN h
 have h2:=Qn h
 have h3:= @UC l h
 simp only[Zd,Bool.and_eq_true,decide_eq_true_eq]at h ⊢
 refine⟨⟨⟨?_,?_⟩,?_⟩,?_⟩
 ·refine List.all_eq_true.2 fun t ht=> ?_
  obtain⟨u,hu,rfl⟩:=List.mem_map.1 ht
  obtain⟨a,b,c,d⟩:=h3 hu
  have e:Z7 (FN u).c=true:=by
   show(decide (-1000000 <= -u.c)&&decide (-u.c<=1000000))=true
   rw[decide_eq_true (by omega),decide_eq_true (by omega)];rfl
  have e2:(FN u).c≠0:=by show -u.c≠0;omega
  rw[e,decide_eq_true e2]
  show(Zw u.v&&true&&true)=true
  rw[a];rfl
 ·show Q5 (l.t.map FN)=true
  rw[a1g];exact h.1.1.2
 ·show(decide (-1000000 <= -l.k)&&decide (-l.k<=1000000))=true
  rw[decide_eq_true (by omega),decide_eq_true (by omega)];rfl
 ·show(l.t.map FN).length<=12
  rw[List.length_map];exact h2
end Go.Pl

namespace Go.Pl
open Go.RowKit
open Enc (enc dec is)
open EncL (encL decL isL)
theorem AC{p:List Mono}{vs:List Str}: ∀ {qs:List (List Int)} {l:List Int},WM p vs qs=some l->(∀ q∈qs,(Yz p (Zn vs q)).2=0)∧l=qs.map fun q=>(Yz p (Zn vs q)).1
 | [],_,h=>by cases h;exact⟨by simp,rfl⟩
 | q::r,l,h=>by
  rw[WM]at h
  split at h
  ·cases h
  ·rename_i h0
   have h0:(Yz p (Zn vs q)).2=0:=by simpa using h0
   obtain⟨m,hm,rfl⟩:=Option.map_eq_some_iff.1 h
   obtain⟨a,rfl⟩:=AC hm
   exact⟨fun x hx=>by rcases List.mem_cons.1 hx with rfl|hx;exact h0;exact a x hx,rfl⟩
theorem BP{α:Type}(f g h:α->Bool): ∀ l:List α,(∀ x∈l,h x = !g x)-> ∀ (w:α->Int),((l.filter f).map w).sum=((l.filter fun x=>f x&&g x).map w).sum+((l.filter fun x=>f x&&h x).map w).sum∧(l.filter f).length=(l.filter fun x=>f x&&g x).length+(l.filter fun x=>f x&&h x).length
 | [],_,_=>by simp
 | x::l,hx,w=>by
  obtain⟨i1,i2⟩:=BP f g h l (fun y hy=>hx y (by simp[hy])) w
  have hx:=hx x (by simp)
  cases hf:f x <;> cases hg:g x <;> rw[hg]at hx <;> simp[hf,hg,hx,i1,i2] <;> omega
end Go.Pl

namespace Go.Pl
open Go.RowKit
open Enc (enc dec is)
open EncL (encL decL isL)
def H9(m:Mono):Bool->List Mono->List Mono
 | put,[]=>if put then []else [m]
 | put,x::r=>
  if !put&&decide (VQ x.v m.v>0)then m::(if x.c≠0 then x::H9 m true r else H9 m true r)
  else if !put&&decide (VQ x.v m.v=0)then(if YV (x.c+m.c)≠0 then⟨YV (x.c+m.c),x.v⟩::H9 m true r else H9 m true r)
  else if x.c≠0 then x::H9 m put r else H9 m put r
def b3p(v:List Coef)(s:Str):Int:=(Q3 v s).getD 0
def c5x(v:List Coef)(m:Mono):Int:=m.c*(m.v.map (b3p v)).foldr (· * ·) 1
def c9f(v:List Coef)(p:List Mono):Int:=(p.map (c5x v)).sum
theorem c2l{a b:Int}(h:(JZ a b).2=0):(JZ a b).1=a*b:=by
 unfold JZ at h ⊢
 split at h
 ·rename_i h1;rw[if_pos h1]
 ·cases h
theorem a2p{l:List Int}(h:(WT l).2=0):(WT l).1=l.sum:=by
 unfold WT at h ⊢
 split at h
 ·rename_i h1;rw[if_pos h1]
 ·cases h
theorem Ls: ∀ {l:List Int} {o:Int},(DD o l).2=0->(DD o l).1=o*l.foldr (· * ·) 1
 | [],o,_=>by simp[DD]
 | n::r,o,h=>by
  rw[DD]at h ⊢
  by_cases h1:(JZ o n).2=0
  ·rw[if_neg (by simpa using h1)]at h ⊢
   rw[Ls h,c2l h1,List.foldr_cons,Int.mul_assoc]
  ·rw[if_pos h1]at h
   exact absurd h h1
theorem Tg: ∀ {l:List Int},l.contains 0=true->l.foldr (· * ·) 1=(0:Int)
 | [],h=>by simp at h
 | n::r,h=>by
  rw[List.foldr_cons]
  by_cases h0:n=0
  ·rw[h0,Int.zero_mul]
  ·rw[Tg (l:=r) (by
    rw[List.contains_cons,Bool.or_eq_true]at h
    rcases h with h|h
    ·exact absurd (eq_of_beq h).symm h0
    ·exact h),Int.mul_zero]
theorem b4m{l:List Int}(h:(YL l).2=0):(YL l).1=l.foldr (· * ·) 1:=by
 unfold YL at h ⊢
 by_cases h0:l.contains 0=true
 ·rw[if_pos h0,Tg h0]
 ·rw[if_neg h0]at h ⊢
  rw[Ls h,Int.one_mul]
theorem Lx{v:List Coef}: ∀ {ss:List Str} {l:List Int},Aw v ss=some l->l=ss.map (b3p v)
 | [],l,h=>by cases h;rfl
 | s::r,l,h=>by
  rw[Aw]at h
  cases hs:Q3 v s with
  | none=>rw[hs]at h;cases h
  | some x=>
   rw[hs]at h
   obtain⟨m,hm,rfl⟩:=Option.map_eq_some_iff.1 h
   rw[Lx hm,List.map_cons]
   congr 1
   unfold b3p
   rw[hs];rfl
theorem FK{v:List Coef}: ∀ {p:List Mono} {fs:List (List Int)} {l:List Int},SF v p=some fs->Yl fs=some l->l=p.map (c5x v)
 | [],fs,l,h,h2=>by cases h;cases h2;rfl
 | m::r,fs,l,h,h2=>by
  rw[SF]at h
  cases hm:Aw v m.v with
  | none=>rw[hm]at h;cases h
  | some q=>
   rw[hm]at h
   obtain⟨gs,hg,rfl⟩:=Option.map_eq_some_iff.1 h
   rw[Yl]at h2
   split at h2
   ·cases h2
   ·rename_i h0
    have h0:(YL (m.c::q)).2=0:=by simpa using h0
    obtain⟨k,hk,rfl⟩:=Option.map_eq_some_iff.1 h2
    rw[FK hg hk,b4m h0,List.map_cons]
    congr 1
    unfold c5x
    rw[Lx hm,List.foldr_cons]
theorem a3v{p:List Mono}{v:List Coef}(h:(Yz p v).2=0):(Yz p v).1=c9f v p:=by
 unfold Yz at h ⊢
 split at h
 ·rename_i hv
  rw[if_pos hv]
  cases hf:SF v p with
  | none=>rw[hf]at h;cases h
  | some fs=>
   rw[hf]at h
   simp only at h ⊢
   split at h
   ·cases h
   ·rename_i hb
    rw[if_neg hb]
    cases hp:Yl fs with
    | none=>rw[hp]at h;cases h
    | some l=>
     rw[hp]at h
     simp only at h ⊢
     rw[a2p h,FK hf hp];rfl
 ·cases h
theorem AP{b:BoxT}{fs:List Fact}{p:List Mono}(h:(Yw b fs p).2=0):Zp b fs (ZY p) (Yp p)=0∧(Yw b fs p).1=((Yb b fs).map fun q=>c9f (Zn b.v q) p).sum:=by
 unfold Yw at h ⊢
 by_cases h0:Zp b fs (ZY p) (Yp p)=0
 ·rw[if_pos h0]at h ⊢
  refine⟨h0,?_⟩
  cases hv:WM p b.v (Yb b fs)with
  | none=>rw[hv]at h;cases h
  | some l=>
   rw[hv]at h
   simp only at h ⊢
   obtain⟨a,rfl⟩:=AC hv
   rw[a2p h]
   congr 1
   exact List.map_congr_left fun q hq=>a3v (a q hq)
 ·rw[if_neg h0]at h
  exact absurd h h0
theorem MH(v:List Coef): ∀ (ts:List Coef) (n:Int),(∀ t∈ts,-1000000<=t.c∧t.c<=1000000)->n.natAbs+ts.length*1000000000000000<=9000000000000000000->(KC v n ts).2=0 ->
  KC v (-1 - n) (ts.map FN)=(-1 - (KC v n ts).1,0)
 | [],n,_,_,_=>rfl
 | t::r,n,h,hn,he=>by
  have ht:=h t (by simp)
  rw[List.length_cons]at hn
  rw[List.map_cons]
  rw[KC]at he ⊢
  rw[KC]
  show(match Q3 v t.v with|none=>_|some x=>_:Int×Int)=_
  cases hl:Q3 v t.v with
  | none=>rw[hl]at he;cases he
  | some x=>
   rw[hl]at he
   simp only at he ⊢
   by_cases h1:x < -1000000000
   ·rw[if_pos h1]at he;cases he
   rw[if_neg h1]at he ⊢
   rw[if_neg h1]
   by_cases h2:x>1000000000
   ·rw[if_pos h2]at he;cases he
   rw[if_neg h2]at he ⊢
   rw[if_neg h2]
   have hp:(t.c*x).natAbs<=1000000*1000000000:=by rw[Int.natAbs_mul];exact Nat.mul_le_mul (by omega) (by omega)
   have e1:YV (t.c*x)=t.c*x:=Wo (by omega) (by omega)
   have e2:YV (n+t.c*x)=n+t.c*x:=Wo (by omega) (by omega)
   have e3:YV ((FN t).c*x) = -(t.c*x):=by
    show YV (-t.c*x)=_
    rw[Int.neg_mul]
    exact Wo (by omega) (by omega)
   have e4:YV (-1 - n + -(t.c*x)) = -1 - (n+t.c*x):=by
    have : -1 - n + -(t.c*x) = -1 - (n+t.c*x):=by omega
    rw[this]
    exact Wo (by omega) (by omega)
   rw[e1,e2]at he ⊢
   rw[e3,e4]
   exact MH v r (n+t.c*x) (fun u hu=>h u (by simp[hu])) (by omega) he
theorem EQ{l:Lin}(h:(Xb l).2=0):Zd l=true∧(Xb l).1=⟨-1 - l.k,l.t.map FN⟩:=by
 have hv:=(KQ h).1
 refine⟨hv,?_⟩
 have h0:Zd ⟨-1,[]⟩=true:=by decide
 have hk:=ME (k:= -1) h0 hv (by decide) (by decide)
 have ht:(Z5 ⟨-1,[]⟩ l (-1)).t=l.t.map FN:=by
  have hg:=b2c hv
  refine G8 (MJ (-1) l.t _ .nil) (Mt fun t ht=>by cases ht) (Qs hg) (M6 hg) fun s=> ?_
  rw[ED h0 hv (by decide) (by decide)]
  show Z6 [] s + -1*Z6 l.t s=Z6 (l.t.map FN) s
  rw[a1a,Uj];omega
 have e:(Xb l).1=Z5 ⟨-1,[]⟩ l (-1):=by
  rw[Rn,if_pos hv]at h ⊢
  unfold SN at h ⊢
  split at h
  ·rename_i h1;rw[if_pos h1]
  ·cases h
 rw[e]
 have hk:(Z5 ⟨-1,[]⟩ l (-1)).k = -1 - l.k:=by
  rw[hk];show(-1:Int) + -1*l.k = -1 - l.k;omega
 cases hx:Z5 ⟨-1,[]⟩ l (-1)
 rw[hx]at hk ht
 exact congr (congrArg Lin.mk hk) ht
theorem b9y{l:Lin}{v:List Coef}(hn:(Xb l).2=0)(he:(Yo l v).2=0):Yo (Xb l).1 v=(-1 - (Yo l v).1,0):=by
 obtain⟨hv,e⟩:=EQ hn
 have hv2:=(KQ hn).2
 have h1:=KN hv
 have h2:=Qn hv
 unfold Yo at he ⊢
 rw[if_pos hv]at he ⊢
 rw[if_pos hv2,e]
 exact MH v l.t l.k (fun t ht=>(UC hv ht).2.2) (by omega) he
theorem b5o{l:Lin}{v:List Coef}(hn:(Xb l).2=0)(he:(Yo l v).2=0):YC ⟨false,(Xb l).1⟩ v = !YC ⟨false,l⟩ v:=by
 unfold YC
 rw[b9y hn he]
 show(decide ((0:Int)=0)&& !decide ((-1 - (Yo l v).1)<0)&&(!false||_)) = !(decide ((Yo l v).2=0)&& !decide ((Yo l v).1<0)&&(!false||_))
 rw[he]
 by_cases h:(Yo l v).1<0
 ·rw[decide_eq_true h,decide_eq_false (show ¬ (-1 - (Yo l v).1<0) by omega)];simp
 ·rw[decide_eq_false h,decide_eq_true (show(-1 - (Yo l v).1<0) by omega)];simp
theorem a8y{l:Lin}(hn:(Xb l).2=0):Zm (Xb l).1=Zm l:=by
 rw[(EQ hn).2]
 show(l.t.map FN).map (·.v)=l.t.map (·.v)
 rw[List.map_map];rfl
theorem b7d(fs:List Fact)(l:Lin):Y6 (ZU fs l)=(Y6 fs&&Zd l):=by
 unfold Y6 ZU
 rw[List.all_append];simp
theorem OZ(fs:List Fact)(l:Lin):((ZU fs l).flatMap fun f=>Zm f.l)=(fs.flatMap fun f=>Zm f.l)++Zm l:=by
 unfold ZU
 rw[List.flatMap_append];simp
theorem Jp(b:BoxT)(fs:List Fact)(l:Lin)(ok:Bool)(ns:List Str):Zp b (ZU fs l) ok ns=0 ↔ Zp b fs ok ns=0∧Zd l=true∧UW b.v (Zm l)=true:=by
 unfold Zp
 rw[b7d,OZ,K9,K9,K9]
 cases Xo b <;> cases Y6 fs <;> cases ok <;> cases Zd l <;> cases UW b.v ns <;> cases UW b.v (fs.flatMap fun f=>Zm f.l) <;> cases UW b.v (Zm l) <;> simp
theorem a8h(vs:List Str)(fs:List Fact)(l:Lin)(p:List Int):XX vs (ZU fs l) p=(XX vs fs p&&YC ⟨false,l⟩ (Zn vs p)):=by
 unfold XX ZU
 rw[List.all_append];simp
theorem RB{b:BoxT}{fs:List Fact}{l:Lin}(hn:(Xb l).2=0)(hv:Xo b=true)(hb:UW b.v (Zm l)=true)(w:List Int->Int):
  ((Yb b fs).map w).sum=((Yb b (ZU fs l)).map w).sum+((Yb b (ZU fs (Xb l).1)).map w).sum∧(Yb b fs).length=(Yb b (ZU fs l)).length+(Yb b (ZU fs (Xb l).1)).length:=by
 have e : ∀ l',Yb b (ZU fs l')=(b4v b).filter fun p=>XX b.v fs p&&YC ⟨false,l'⟩ (Zn b.v p):=by
  intro l'
  unfold Yb
  congr 1
  funext p
  exact a8h _ _ _ _
 rw[e,e]
 refine BP (XX b.v fs) _ _ (b4v b) (fun p hp=> ?_) w
 rw[Vv hv]at hp
 have hl:=(KQ hn).1
 refine b5o hn ?_
 unfold Yo
 rw[if_pos hl]
 refine Ju (Kl.1 hp).1 (fun x hx=> ?_) _ _ fun t ht=> ?_
 ·have:=a2v hv p hp x hx;omega
 ·have:=List.all_eq_true.1 hb t.v (by unfold Zm;exact List.mem_map.2 ⟨t,ht,rfl⟩)
  simpa using this
theorem NT{b:BoxT}{fs:List Fact}{l:Lin}(hn:(Xb l).2=0)(h1:(YB b fs).2=0)(h2:(YB b (ZU fs l)).2=0):
  (YB b (ZU fs (Xb l).1)).2=0∧(YB b fs).1=(YB b (ZU fs l)).1+(YB b (ZU fs (Xb l).1)).1:=by
 have g : ∀ {fs},(YB b fs).2=0->Zp b fs true []=0:=by
  intro fs h
  unfold YB Yy at h
  by_cases h0:Zp b fs true []=0
  ·exact h0
  ·rw[if_neg h0]at h;exact h
 have r1:=g h1
 have r2:=(Jp b fs l true []).1 (g h2)
 have r3:Zp b (ZU fs (Xb l).1) true []=0:=(Jp b fs _ true []).2 ⟨r1,(KQ hn).2,by rw[a8y hn];exact r2.2.2⟩
 have hp:=(RB (fs:=fs) hn (WZ _ _ _ _ r1).1 r2.2.2 (fun _=>0)).2
 unfold YB Yy
 rw[if_pos r1,if_pos (g h2),if_pos r3]
 refine⟨rfl,?_⟩
 show((Yb b fs).length:Int)=(Yb b (ZU fs l)).length+(Yb b (ZU fs (Xb l).1)).length
 omega
theorem a7f{b:BoxT}{fs:List Fact}{l:Lin}{p:List Mono}(hn:(Xb l).2=0)(h1:(Yw b fs p).2=0)(h2:(Yw b (ZU fs l) p).2=0)(h3:(Yw b (ZU fs (Xb l).1) p).2=0):
  (Yw b fs p).1=(Yw b (ZU fs l) p).1+(Yw b (ZU fs (Xb l).1) p).1:=by
 obtain⟨r1,e1⟩:=AP h1
 obtain⟨r2,e2⟩:=AP h2
 obtain⟨r3,e3⟩:=AP h3
 rw[e1,e2,e3]
 have r2:=(Jp b fs l _ _).1 r2
 exact(RB (fs:=fs) hn (WZ _ _ _ _ r1).1 r2.2.2 _).1
end Go.Pl

namespace Go.Pl
open Go.RowKit
open Enc (enc dec is)
open EncL (encL decL isL)
set_option maxRecDepth 100000
def KE:IC:=(.seq (.reg [⟨(some 3),(.box 2 (.t 1)),0,none⟩,⟨(some 4),(.mv (.c (.sl 0 true []))),1,none⟩] none) (.seq (.reg [⟨(some 5),(.mv (.c (.sl 0 true []))),0,none⟩] none) (.seq (.reg [⟨(some 10),(.faddr 0 (.t 3)),0,none⟩,⟨(some 11),(.load false [(.int .i64)] (.t 10)),0,none⟩,⟨(some 12),(.bin .num .eql (.t 11) (.c (.int .i64 0))),0,none⟩,⟨(some 6),(.mv (.t 12)),0,none⟩] none) (.seq (.seq (.reg [⟨(some 7),(.mv (.c (.int .i64 0))),0,none⟩] none) (.block 0 (.loop [7,0,3,6,5] (.seq (.seq (.reg [⟨(some 13),(.mv (.t 7)),0,none⟩,⟨(some 14),(.mv (.t 0)),0,none⟩,⟨(some 15),(.len 1 (.t 14)),0,none⟩,⟨(some 16),(.bin .num .lss (.t 13) (.t 15)),0,none⟩] none) (.cond (.t 16) .skip (.exit 0))) (.seq (.block 1 (.seq (.reg [⟨(some 19),(.mv (.t 0)),0,none⟩,⟨(some 20),(.mv (.t 7)),0,none⟩,⟨(some 21),(.iaddr 2 (.t 19) (.t 20)),0,none⟩,⟨(some 22),(.faddr 1 (.t 21)),0,none⟩,⟨(some 23),(.load false [(.sl 1)] (.t 22)),0,none⟩,⟨(some 24),(.faddr 1 (.t 3)),0,none⟩,⟨(some 25),(.load false [(.sl 1)] (.t 24)),0,none⟩,⟨(some 26),(.call (.c (.fn 195)) [(.t 23),(.t 25)]),0,none⟩,⟨(some 8),(.mv (.t 26)),2,none⟩] (some [[],[],[0,1],[2,0,1],[3,2,0,1],[],[5],[4,6,3,2,0,1,5],[7,0,1,2,3,4,5,6]])) (.seq (.seq (.reg [⟨(some 27),(.mv (.t 6)),0,none⟩,⟨(some 28),(.un .not (.t 27)),0,none⟩,⟨(some 29),(.mv (.t 28)),0,none⟩,⟨(some 30),(.mv (.t 8)),0,(some (29,true))⟩,⟨(some 31),(.bin .num .gtr (.t 30) (.c (.int .i64 0))),0,(some (29,true))⟩,⟨(some 32),(.pick (.t 29) (.t 31) (.c (.bool false))),0,none⟩] none) (.cond (.t 32) (.seq (.reg [⟨(some 33),(.mv (.t 5)),0,none⟩,⟨(some 34),(.load true [(.int .i64),(.sl 1)] (.t 3)),0,none⟩,⟨(some 35),(.bslice 104 2 1 (.agg [(.int .i64 0),(.sl 0 true [])]) [(0,(.t 34))]),0,none⟩,⟨(some 36),(.append 104 2 32 (.t 33) (.t 35)),1,none⟩,⟨(some 5),(.mv (.t 36)),2,none⟩] none) (.reg [⟨(some 6),(.mv (.c (.bool true))),0,none⟩] none)) .skip)) (.seq (.reg [⟨(some 37),(.mv (.t 0)),0,none⟩,⟨(some 38),(.mv (.t 7)),0,none⟩,⟨(some 39),(.iaddr 2 (.t 37) (.t 38)),0,none⟩,⟨(some 40),(.load true [(.int .i64),(.sl 1)] (.t 39)),0,none⟩,⟨(some 9),(.alloc (.agg [(.int .i64 0),(.sl 0 true [])])),0,none⟩,⟨none,(.store 2 (.t 9) (.t 40)),1,none⟩] none) (.seq (.seq (.reg [⟨(some 41),(.mv (.t 6)),0,none⟩,⟨(some 42),(.un .not (.t 41)),0,none⟩,⟨(some 43),(.mv (.t 42)),0,none⟩,⟨(some 44),(.mv (.t 8)),0,(some (43,true))⟩,⟨(some 45),(.bin .num .eql (.t 44) (.c (.int .i64 0))),0,(some (43,true))⟩,⟨(some 46),(.pick (.t 43) (.t 45) (.c (.bool false))),0,none⟩] none) (.cond (.t 46) (.seq (.reg [⟨(some 47),(.faddr 0 (.t 9)),0,none⟩,⟨(some 48),(.load false [(.int .i64)] (.t 47)),0,none⟩,⟨(some 49),(.faddr 0 (.t 3)),0,none⟩,⟨(some 50),(.load false [(.int .i64)] (.t 49)),0,none⟩,⟨(some 51),(.bin .num .add (.t 48) (.t 50)),0,none⟩,⟨(some 52),(.faddr 0 (.t 9)),0,none⟩,⟨none,(.store 1 (.t 52) (.t 51)),0,none⟩] none) (.reg [⟨(some 6),(.mv (.c (.bool true))),0,none⟩] none)) .skip)) (.seq (.reg [⟨(some 53),(.faddr 0 (.t 9)),0,none⟩,⟨(some 54),(.load false [(.int .i64)] (.t 53)),0,none⟩,⟨(some 55),(.bin .num .neq (.t 54) (.c (.int .i64 0))),0,none⟩] none) (.cond (.t 55) (.reg [⟨(some 56),(.mv (.t 5)),0,none⟩,⟨(some 57),(.load true [(.int .i64),(.sl 1)] (.t 9)),0,none⟩,⟨(some 58),(.bslice 104 2 1 (.agg [(.int .i64 0),(.sl 0 true [])]) [(0,(.t 57))]),0,none⟩,⟨(some 59),(.append 104 2 32 (.t 56) (.t 58)),1,none⟩,⟨(some 5),(.mv (.t 59)),2,none⟩] none) .skip))))))) (.reg [⟨(some 17),(.mv (.t 7)),0,none⟩,⟨(some 18),(.bin .num .add (.t 17) (.c (.int .i64 1))),0,none⟩,⟨(some 7),(.mv (.t 18)),0,none⟩] none)))))) (.seq (.seq (.reg [⟨(some 60),(.mv (.t 6)),0,none⟩,⟨(some 61),(.un .not (.t 60)),0,none⟩] none) (.cond (.t 61) (.reg [⟨(some 62),(.mv (.t 5)),0,none⟩,⟨(some 63),(.load true [(.int .i64),(.sl 1)] (.t 3)),0,none⟩,⟨(some 64),(.bslice 104 2 1 (.agg [(.int .i64 0),(.sl 0 true [])]) [(0,(.t 63))]),0,none⟩,⟨(some 65),(.append 104 2 32 (.t 62) (.t 64)),1,none⟩,⟨(some 5),(.mv (.t 65)),2,none⟩] none) .skip)) (.seq (.reg [⟨(some 66),(.mv (.t 5)),0,none⟩,⟨(some 4),(.mv (.t 66)),0,none⟩] none) .ret))))))
def KP:List IRes:=[(.tmp 4)]
def J8:ZC:=Xn [(195,.pure (preT (fun x:List Str×List Str×Unit=>Zv x.1&&Zv x.2.1)) (Zg (fun x:List Str×List Str×Unit=>VQ x.1 x.2.1)))]
end Go.Pl

namespace Go.Pl
open Go.RowKit
open Enc (enc dec is)
open EncL (encL decL isL)
def b8v(p:List Mono)(m:Mono)(put:Bool)(i:Nat)(xs:List Mono):Prop:= ∀ R:List Mono,R=xs++H9 m put (p.drop i) ->
 match xs with
 | []=>At J8 0 (Za KP (Zl R)) KE 0 67 [(0,.pv (enc p)),(3,.ptr 0 0),(5,.pv (.sl 0 true [])),(6,.pv (.bool put)),(7,.pv (.int .i64 i))] [.obj (.box [.pv (.int .i64 m.c),.pv (enc m.v)])]
 | x::r=>At J8 0 (Za KP (Zl R)) KE 0 67 [(0,.pv (enc p)),(3,.ptr 0 0),(5,.row 1 (r.length+1) 0 (r.length+1)),(6,.pv (.bool put)),(7,.pv (.int .i64 i))] [.obj (.box [.pv (.int .i64 m.c),.pv (enc m.v)]),.obj (.row false 104 2 ((x::r).map enc))]
theorem b8v.row{p:List Mono}{m:Mono}{put:Bool}{i n:Nat}{ys:List Mono}{R:List Mono}{qs:List PV}(h:b8v p m put i ys)(h0:ys≠[])(hR:R=ys++H9 m put (p.drop i))(hn:n=ys.length)(hy:qs=ys.map enc):
  At J8 0 (Za KP (Zl R)) KE 0 67 [(0,.pv (enc p)),(3,.ptr 0 0),(5,.row 1 n 0 n),(6,.pv (.bool put)),(7,.pv (.int .i64 i))] [.obj (.box [.pv (.int .i64 m.c),.pv (enc m.v)]),.obj (.row false 104 2 qs)]:=by
 subst hn hy
 cases ys with
 | nil=>exact absurd rfl h0
 | cons x r=>exact h R hR
theorem b8v.nil{p:List Mono}{m:Mono}{put:Bool}{i:Nat}{R:List Mono}(h:b8v p m put i [])(hR:R=H9 m put (p.drop i)):
  At J8 0 (Za KP (Zl R)) KE 0 67 [(0,.pv (enc p)),(3,.ptr 0 0),(5,.pv (.sl 0 true [])),(6,.pv (.bool put)),(7,.pv (.int .i64 i))] [.obj (.box [.pv (.int .i64 m.c),.pv (enc m.v)])]:=h R hR
end Go.Pl

namespace Go.Pl
open Go.RowKit
open Enc (enc dec is)
open EncL (encL decL isL)
theorem ixS{m:Mono}{k:Nat}(h:k<m.v.length):(decide (0<=(k:Int))&&decide (Int.toNat (k:Int)<List.length (PV.asXs (List.getD (List.drop 1 (PV.cells (enc m))) 0 default)))&&1==1)=true:=by
 show(decide (0<=(k:Int))&&decide (Int.toNat (k:Int)<List.length (m.v.map (enc:Str->PV)))&&1==1)=true
 simp[h]
theorem d0v{m:Mono}{k:Nat}(h:k<m.v.length):(decide (0+List.length [Sh.str]<=List.length (PV.cells (List.getD (PV.asXs (List.getD (List.drop 1 (PV.cells (enc m))) 0 default)) (Int.toNat (k:Int)) default)))&&XL (PV.cells (List.getD (PV.asXs (List.getD (List.drop 1 (PV.cells (enc m))) 0 default)) (Int.toNat (k:Int)) default)) 0 [Sh.str])=true:=by
 show(decide (0+List.length [Sh.str]<=List.length (PV.cells (List.getD (m.v.map (enc:Str->PV)) (Int.toNat (k:Int)) default)))&&XL (PV.cells (List.getD (m.v.map (enc:Str->PV)) (Int.toNat (k:Int)) default)) 0 [Sh.str])=true
 rw[Hq enc h];rfl
theorem d0l{m:Mono}{k:Nat}(h:k<m.v.length):PV.asStr (List.getD (PV.cells (List.getD (PV.asXs (List.getD (List.drop 1 (PV.cells (enc m))) 0 default)) (Int.toNat (k:Int)) default)) 0 default)=m.v[k].s:=by
 show PV.asStr (List.getD (PV.cells (List.getD (m.v.map (enc:Str->PV)) (Int.toNat (k:Int)) default)) 0 default)=m.v[k].s
 rw[Hq enc h];rfl
end Go.Pl

namespace Go.Pl
open Go.RowKit
open Enc (enc dec is)
open EncL (encL decL isL)
theorem c4o{n:Int}(h:Ua n=true): -4611686018427387904<=n∧n<=4611686018427387904:=by
 unfold Ua at h
 simpa using h
end Go.Pl

namespace Go.Pl
open Go.RowKit
open Enc (enc dec is)
open EncL (encL decL isL)
end Go.Pl

namespace Go.Pl
open Go.RowKit
open Enc (enc dec is)
open EncL (encL decL isL)
structure Asked where
 l:Lin
 p:List Mono
 deriving DecidableEq
instance:Enc Asked where
 sz:=3
 enc x:=.agg [enc x.l.k,enc x.l.t,enc x.p]
 dec | .agg [a,b,c]=>⟨⟨dec a,dec b⟩,dec c⟩|_=>⟨⟨0,[]⟩,[]⟩
 is | .agg [a,b,c]=>is Int a&&is (List Coef) b&&is (List Mono) c|_=>false
 is_enc v:=by simp
 dec_enc v:=by simp
 sub p h:=by
  cases p with
  | agg xs=>
   match xs,h with
   | [a,b,c],h=>
    simp only[Bool.and_eq_true]at h
    exact .agg (.cons (Enc.sub a h.1.1).2 (.cons (Enc.sub b h.1.2).2 (.cons (Enc.sub c h.2).2 .nil)))
  | _=>cases h
@[simp] theorem c8p (a b c : PV) : is Asked (.agg [a, b, c]) = (is Int a && is (List Coef) b && is (List Mono) c) := rfl
@[simp] theorem c7p (a b c : PV) : (dec (.agg [a, b, c]) : Asked) = ⟨⟨dec a, dec b⟩, dec c⟩ := rfl
def GU(p:List Mono)(n:Int):Bool:=p.all (fun m=>decide (m.v.length<=10)&&m.v.all fun s=>decide (s.s.length<=40))&&decide ((p.length:Int)<=n)
def UK(p:List Mono):Bool:=Zv p&&p.all fun m=>Zv m.v
def UX(a:Asked):Bool:=QV a.l 6&&GU a.p 6
def Kw(a:Asked):Bool:=Y4 a.l&&UK a.p
end Go.Pl

namespace Go.Pl
open Go.RowKit
open Enc (enc dec is)
open EncL (encL decL isL)
set_option maxRecDepth 100000
def Ww:IC:=(.seq (.reg [⟨(some 4),(.mv (.c (.bool false))),0,none⟩] none) (.seq (.seq (.reg [⟨(some 5),(.mv (.c (.int .i64 0))),0,none⟩] none) (.block 0 (.loop [5,0,1] (.seq (.seq (.reg [⟨(some 7),(.mv (.t 5)),0,none⟩,⟨(some 8),(.mv (.t 0)),0,none⟩,⟨(some 9),(.len 1 (.t 8)),0,none⟩,⟨(some 10),(.bin .num .lss (.t 7) (.t 9)),0,none⟩] none) (.cond (.t 10) .skip (.exit 0))) (.seq (.block 1 (.seq (.seq (.reg [⟨(some 13),(.mv (.t 0)),0,none⟩,⟨(some 14),(.mv (.t 5)),0,none⟩,⟨(some 15),(.iaddr 2 (.t 13) (.t 14)),0,none⟩,⟨(some 16),(.faddr 1 (.t 15)),0,none⟩,⟨(some 17),(.load false [(.sl 1)] (.t 16)),0,none⟩,⟨(some 18),(.len 1 (.t 17)),0,none⟩,⟨(some 19),(.bin .num .gtr (.t 18) (.c (.int .i64 10))),0,none⟩] none) (.cond (.t 19) (.seq (.reg [⟨(some 4),(.mv (.c (.bool false))),0,none⟩] none) .ret) .skip)) (.seq (.reg [⟨(some 6),(.mv (.c (.int .i64 0))),0,none⟩] none) (.block 2 (.loop [6,0,5,1] (.seq (.seq (.reg [⟨(some 20),(.mv (.t 6)),0,none⟩,⟨(some 21),(.mv (.t 0)),0,none⟩,⟨(some 22),(.mv (.t 5)),0,none⟩,⟨(some 23),(.iaddr 2 (.t 21) (.t 22)),0,none⟩,⟨(some 24),(.faddr 1 (.t 23)),0,none⟩,⟨(some 25),(.load false [(.sl 1)] (.t 24)),0,none⟩,⟨(some 26),(.len 1 (.t 25)),0,none⟩,⟨(some 27),(.bin .num .lss (.t 20) (.t 26)),0,none⟩] none) (.cond (.t 27) .skip (.exit 2))) (.seq (.block 3 (.seq (.reg [⟨(some 30),(.mv (.t 0)),0,none⟩,⟨(some 31),(.mv (.t 5)),0,none⟩,⟨(some 32),(.iaddr 2 (.t 30) (.t 31)),0,none⟩,⟨(some 33),(.faddr 1 (.t 32)),0,none⟩,⟨(some 34),(.load false [(.sl 1)] (.t 33)),0,none⟩,⟨(some 35),(.mv (.t 6)),0,none⟩,⟨(some 36),(.iaddr 1 (.t 34) (.t 35)),0,none⟩,⟨(some 37),(.load false [.str] (.t 36)),0,none⟩,⟨(some 38),(.len 0 (.t 37)),0,none⟩,⟨(some 39),(.bin .num .gtr (.t 38) (.c (.int .i64 40))),0,none⟩] none) (.cond (.t 39) (.seq (.reg [⟨(some 4),(.mv (.c (.bool false))),0,none⟩] none) .ret) .skip))) (.reg [⟨(some 28),(.mv (.t 6)),0,none⟩,⟨(some 29),(.bin .num .add (.t 28) (.c (.int .i64 1))),0,none⟩,⟨(some 6),(.mv (.t 29)),0,none⟩] none)))))))) (.reg [⟨(some 11),(.mv (.t 5)),0,none⟩,⟨(some 12),(.bin .num .add (.t 11) (.c (.int .i64 1))),0,none⟩,⟨(some 5),(.mv (.t 12)),0,none⟩] none)))))) (.seq (.reg [⟨(some 40),(.mv (.t 0)),0,none⟩,⟨(some 41),(.len 1 (.t 40)),0,none⟩,⟨(some 42),(.mv (.t 1)),0,none⟩,⟨(some 43),(.bin .num .leq (.t 41) (.t 42)),0,none⟩,⟨(some 4),(.mv (.t 43)),0,none⟩] none) .ret)))
def Wy:List IRes:=[(.tmp 4)]
abbrev c1q:Nat:=44
def VW:ZC:=Xn []
theorem c3i{G:PV->Prop}(p:List Mono)(n:Int)(h:At VW 0 (Za Wy G) Ww 0 44 [(0,(.pv (.sl 2 false (List.map enc p)))),(1,(.pv (.int .i64 n))),(5,(.pv (.int .i64 0)))] []):Zc VW 0 (Za Wy G) Ww [] (YD 44 [enc p,enc n]):=Zc.tp (.nil) h (by kernel_rfl)
theorem a0e{G:PV->Prop}(p:List Mono)(n:Int)(i:Int)(h:if (decide (i<(↑(List.length (List.map enc p)):Int)))=true then(decide (0<=i)&&decide (Int.toNat i<List.length (List.map enc p))&&Enc.sz Mono==2)=true∧(∃ y0:Mono,AV.pv (PV.rptr (PV.cells (List.getD (List.map enc p) (Int.toNat i) default)))=AV.pv (PV.rptr (PV.cells ((enc) y0)))∧(if (decide ((↑(List.length (PV.asXs (List.getD (List.drop 1 (PV.cells (enc y0))) 0 default))):Int)>10))=true then G ((.bool false))else(At VW 0 (Za Wy G) Ww 1 44 [(0,(.pv (.sl 2 false (List.map enc p)))),(1,(.pv (.int .i64 n))),(5,(.pv (.int .i64 i))),(6,(.pv (.int .i64 0)))] [])))else(G ((.bool (decide ((↑(List.length (List.map enc p)):Int)<=n)))))):At VW 0 (Za Wy G) Ww 0 44 [(0,.pv (enc p)),(1,.pv (enc n)),(5,.pv (.int .i64 i))] []:=At.tp (.lit (.ask (.req (.abs (Mono) (fun YY=>AV.pv (PV.rptr (PV.cells ((enc) YY)))) (.lit (.lit (.ask (.nil) (.nil)))))) (.lit (.nil)))) h (by kernel_rfl)
theorem a0y{G:PV->Prop}(p:List Mono)(n:Int)(i k:Int)(h:(decide (0<=i)&&decide (Int.toNat i<List.length (List.map enc p))&&Enc.sz Mono==2)=true∧(∃ y0:Mono,AV.pv (PV.rptr (PV.cells (List.getD (List.map enc p) (Int.toNat i) default)))=AV.pv (PV.rptr (PV.cells ((enc) y0)))∧(if (decide (k<(↑(List.length (PV.asXs (List.getD (List.drop 1 (PV.cells (enc y0))) 0 default))):Int)))=true then(decide (0<=i)&&decide (Int.toNat i<List.length (List.map enc p))&&Enc.sz Mono==2)=true∧(∃ y1:Mono,AV.pv (PV.rptr (PV.cells (List.getD (List.map enc p) (Int.toNat i) default)))=AV.pv (PV.rptr (PV.cells ((enc) y1)))∧((decide (0<=k)&&decide (Int.toNat k<List.length (PV.asXs (List.getD (List.drop 1 (PV.cells (enc y1))) 0 default)))&&1==1)=true∧((decide (0+List.length [Sh.str]<=List.length (PV.cells (List.getD (PV.asXs (List.getD (List.drop 1 (PV.cells (enc y1))) 0 default)) (Int.toNat k) default)))&&XL (PV.cells (List.getD (PV.asXs (List.getD (List.drop 1 (PV.cells (enc y1))) 0 default)) (Int.toNat k) default)) 0 [Sh.str])=true∧(if (decide ((↑(List.length (PV.asStr (List.getD (PV.cells (List.getD (PV.asXs (List.getD (List.drop 1 (PV.cells (enc y1))) 0 default)) (Int.toNat k) default)) 0 default))):Int)>40))=true then G ((.bool false))else(At VW 0 (Za Wy G) Ww 1 44 [(0,(.pv (.sl 2 false (List.map enc p)))),(1,(.pv (.int .i64 n))),(5,(.pv (.int .i64 i))),(6,(.pv (.int .i64 (IntKind.wrap IntKind.i64 (k+1)))))] [])))))else(At VW 0 (Za Wy G) Ww 0 44 [(0,(.pv (.sl 2 false (List.map enc p)))),(1,(.pv (.int .i64 n))),(5,(.pv (.int .i64 (IntKind.wrap IntKind.i64 (i+1)))))] [])))):At VW 0 (Za Wy G) Ww 1 44 [(0,.pv (enc p)),(1,.pv (enc n)),(5,.pv (.int .i64 i)),(6,.pv (.int .i64 k))] []:=At.tp (.req (.abs (Mono) (fun YY=>AV.pv (PV.rptr (PV.cells ((enc) YY)))) (.lit (.lit (.ask (.req (.abs (Mono) (fun YY=>AV.pv (PV.rptr (PV.cells ((enc) YY)))) (.lit (.req (.keep (.req (.lit (.ask (.nil) (.lit (.nil)))))))))) (.lit (.nil))))))) h (by kernel_rfl)
def G9:IC:=(.seq (.reg [⟨(some 1),(.box 3 (.t 0)),0,none⟩,⟨(some 2),(.mv (.c (.bool false))),1,none⟩] none) (.seq (.reg [⟨(some 3),(.faddr 0 (.t 1)),0,none⟩,⟨(some 4),(.load true [(.int .i64),(.sl 2)] (.t 3)),0,none⟩,⟨(some 5),(.call (.c (.fn 16)) [(.t 4),(.c (.int .i64 6))]),0,none⟩,⟨(some 6),(.mv (.t 5)),2,none⟩,⟨(some 7),(.faddr 2 (.t 1)),2,(some (6,true))⟩,⟨(some 8),(.load false [(.sl 2)] (.t 7)),2,(some (6,true))⟩,⟨(some 9),(.call (.c (.fn 121)) [(.t 8),(.c (.int .i64 6))]),2,(some (6,true))⟩,⟨(some 10),(.pick (.t 6) (.t 9) (.c (.bool false))),4,none⟩,⟨(some 2),(.mv (.t 10)),4,none⟩] none) .ret))
def Di:List IRes:=[(.tmp 2)]
abbrev a6x:Nat:=11
def BD:ZC:=Xn [(16,.pure (preT (fun x:Lin×Int×Unit=>Y4 x.1)) (Zg (fun x:Lin×Int×Unit=>QV x.1 x.2.1))),(121,.pure (preT (fun x:List Mono×Int×Unit=>UK x.1)) (Zg (fun x:List Mono×Int×Unit=>GU x.1 x.2.1)))]
theorem b1v{G:PV->Prop}(l:Lin)(p:List Mono)(h:(Go.Pl.preT (fun(x:Lin×Int×Unit)=>Y4 x.1) [(.agg [(.int .i64 l.k),(.sl 2 false (List.map enc l.t))]),(.int .i64 6)])=true∧(∃ y0:Bool,AV.pv (Zg (fun(x:Lin×Int×Unit)=>QV x.1 x.2.1) [(.agg [(.int .i64 l.k),(.sl 2 false (List.map enc l.t))]),(.int .i64 6)])=AV.pv (enc y0)∧(if (y0)=true then(Go.Pl.preT (fun(x:List Mono×Int×Unit)=>UK x.1) [(.sl 2 false (List.map enc p)),(.int .i64 6)])=true∧(∃ y1:Bool,AV.pv (Zg (fun(x:List Mono×Int×Unit)=>GU x.1 x.2.1) [(.sl 2 false (List.map enc p)),(.int .i64 6)])=AV.pv (enc y1)∧(G ((.bool y1))))else(G ((.bool false)))))):Zc BD 0 (Za Di G) G9 [] (YD 11 [.agg [enc l.k,enc l.t,enc p]]):=Zc.tp (.req (.abs (Bool) (fun YY=>AV.pv (enc YY)) (.ask (.lit (.lit (.req (.abs (Bool) (fun YY=>AV.pv (enc YY)) (.lit (.nil)))))) (.lit (.lit (.lit (.nil))))))) h (by kernel_rfl)
def GI:IC:=(.seq (.reg [⟨(some 3),(.box 2 (.t 0)),0,none⟩,⟨(some 5),(.box 3 (.t 2)),1,none⟩,⟨(some 6),(.mv (.c (.bool false))),2,none⟩] none) (.seq (.seq (.reg [⟨(some 24),(.call (.c (.fn 43)) []),0,none⟩,⟨(some 25),(.un .not (.t 24)),2,none⟩] none) (.cond (.t 25) (.seq (.reg [⟨(some 6),(.mv (.c (.bool false))),0,none⟩] none) .ret) .skip)) (.seq (.seq (.reg [⟨(some 26),(.load true [(.sl 1),(.int .i64)] (.t 3)),0,none⟩,⟨(some 27),(.mv (.t 1)),0,none⟩,⟨(some 28),(.call (.c (.fn 44)) [(.t 26),(.t 27)]),0,none⟩,⟨(some 29),(.un .not (.t 28)),2,none⟩,⟨(some 30),(.mv (.t 29)),2,none⟩,⟨(some 31),(.load true [(.int .i64),(.sl 2),(.sl 2)] (.t 5)),2,(some (30,false))⟩,⟨(some 32),(.call (.c (.fn 55)) [(.t 31)]),2,(some (30,false))⟩,⟨(some 33),(.un .not (.t 32)),4,(some (30,false))⟩,⟨(some 34),(.pick (.t 30) (.c (.bool true)) (.t 33)),4,none⟩] none) (.cond (.t 34) (.seq (.reg [⟨(some 6),(.mv (.c (.bool true))),0,none⟩] none) .ret) .skip)) (.seq (.reg [⟨(some 36),(.faddr 0 (.t 5)),0,none⟩,⟨(some 37),(.load true [(.int .i64),(.sl 2)] (.t 36)),0,none⟩,⟨(some 38),(.call (.c (.fn 56)) [(.t 37)]),0,none⟩,⟨(some 35),(.mv (.t 38)),2,none⟩,⟨(some 39),(.extract (.t 35) 0),2,none⟩,⟨(some 40),(.extract (.t 35) 1),2,none⟩,⟨(some 7),(.alloc (.agg [(.int .i64 0),(.sl 0 true [])])),2,none⟩,⟨none,(.store 2 (.t 7) (.t 39)),3,none⟩,⟨(some 8),(.mv (.t 40)),3,none⟩] none) (.seq (.seq (.reg [⟨(some 41),(.mv (.t 8)),0,none⟩,⟨(some 42),(.bin .num .neq (.t 41) (.c (.int .i64 0))),0,none⟩] none) (.cond (.t 42) (.seq (.reg [⟨(some 6),(.mv (.c (.bool true))),0,none⟩] none) .ret) .skip)) (.seq (.reg [⟨(some 43),(.load true [(.sl 1),(.int .i64)] (.t 3)),0,none⟩,⟨(some 9),(.alloc (.agg [(.sl 0 true []),(.int .i64 0)])),0,none⟩,⟨none,(.store 2 (.t 9) (.t 43)),1,none⟩] none) (.seq (.reg [⟨(some 44),(.bslice 100 3 0 (.agg [(.bool false),(.int .i64 0),(.sl 0 true [])]) []),0,none⟩,⟨(some 45),(.mv (.t 1)),1,none⟩,⟨(some 46),(.append 100 3 40 (.t 44) (.t 45)),1,none⟩,⟨(some 47),(.faddr 0 (.t 5)),2,none⟩,⟨(some 48),(.load true [(.int .i64),(.sl 2)] (.t 47)),2,none⟩,⟨(some 49),(.build [(.bool false),(.int .i64 0),(.sl 0 true [])] [(1,(2,(.t 48)))]),2,none⟩,⟨(some 50),(.bslice 100 3 1 (.agg [(.bool false),(.int .i64 0),(.sl 0 true [])]) [(0,(.t 49))]),2,none⟩,⟨(some 51),(.append 100 3 40 (.t 46) (.t 50)),3,none⟩,⟨(some 52),(.bslice 100 3 0 (.agg [(.bool false),(.int .i64 0),(.sl 0 true [])]) []),4,none⟩,⟨(some 53),(.mv (.t 1)),5,none⟩,⟨(some 54),(.append 100 3 40 (.t 52) (.t 53)),5,none⟩,⟨(some 55),(.load true [(.int .i64),(.sl 2)] (.t 7)),6,none⟩,⟨(some 56),(.build [(.bool false),(.int .i64 0),(.sl 0 true [])] [(1,(2,(.t 55)))]),6,none⟩,⟨(some 57),(.bslice 100 3 1 (.agg [(.bool false),(.int .i64 0),(.sl 0 true [])]) [(0,(.t 56))]),6,none⟩,⟨(some 58),(.append 100 3 40 (.t 54) (.t 57)),7,none⟩,⟨(some 10),(.mv (.t 51)),8,none⟩,⟨(some 11),(.mv (.t 58)),8,none⟩] (some [[],[],[0,1],[],[3],[4,3],[5,4,3],[2,6,0,1,5,4,3],[],[],[8,9,7,2,6,0,1,5,4,3],[],[11],[12,11],[10,13,8,9,7,2,6,0,1,5,4,3,12,11],[7,14,0,1,2,3,4,5,6,10,13,8,9,12,11],[14,15,0,1,2,3,4,5,6,7,8,9,10,11,12,13]])) (.seq (.reg [⟨(some 60),(.load true [(.sl 1),(.int .i64)] (.t 9)),0,none⟩,⟨(some 61),(.mv (.t 1)),0,none⟩,⟨(some 62),(.call (.c (.fn 47)) [(.t 60),(.t 61)]),0,none⟩,⟨(some 59),(.mv (.t 62)),2,none⟩,⟨(some 63),(.extract (.t 59) 0),2,none⟩,⟨(some 64),(.extract (.t 59) 1),2,none⟩,⟨(some 12),(.mv (.t 63)),2,none⟩,⟨(some 13),(.mv (.t 64)),2,none⟩] none) (.seq (.reg [⟨(some 66),(.load true [(.sl 1),(.int .i64)] (.t 9)),0,none⟩,⟨(some 67),(.mv (.t 10)),0,none⟩,⟨(some 68),(.call (.c (.fn 47)) [(.t 66),(.t 67)]),0,none⟩,⟨(some 65),(.mv (.t 68)),2,none⟩,⟨(some 69),(.extract (.t 65) 0),2,none⟩,⟨(some 70),(.extract (.t 65) 1),2,none⟩,⟨(some 14),(.mv (.t 69)),2,none⟩,⟨(some 15),(.mv (.t 70)),2,none⟩] none) (.seq (.reg [⟨(some 72),(.load true [(.sl 1),(.int .i64)] (.t 9)),0,none⟩,⟨(some 73),(.mv (.t 11)),0,none⟩,⟨(some 74),(.call (.c (.fn 47)) [(.t 72),(.t 73)]),0,none⟩,⟨(some 71),(.mv (.t 74)),2,none⟩,⟨(some 75),(.extract (.t 71) 0),2,none⟩,⟨(some 76),(.extract (.t 71) 1),2,none⟩,⟨(some 16),(.mv (.t 75)),2,none⟩,⟨(some 17),(.mv (.t 76)),2,none⟩] none) (.seq (.seq (.reg [⟨(some 77),(.mv (.t 13)),0,none⟩,⟨(some 78),(.bin .num .eql (.t 77) (.c (.int .i64 0))),0,none⟩,⟨(some 79),(.mv (.t 78)),0,none⟩,⟨(some 80),(.mv (.t 15)),0,(some (79,true))⟩,⟨(some 81),(.bin .num .eql (.t 80) (.c (.int .i64 0))),0,(some (79,true))⟩,⟨(some 82),(.pick (.t 79) (.t 81) (.c (.bool false))),0,none⟩,⟨(some 83),(.mv (.t 82)),0,none⟩,⟨(some 84),(.mv (.t 17)),0,(some (83,true))⟩,⟨(some 85),(.bin .num .neq (.t 84) (.c (.int .i64 0))),0,(some (83,true))⟩,⟨(some 86),(.mv (.t 85)),0,(some (83,true))⟩,⟨(some 87),(.mv (.t 12)),0,(some (86,false))⟩,⟨(some 88),(.mv (.t 14)),0,(some (86,false))⟩,⟨(some 89),(.mv (.t 16)),0,(some (86,false))⟩,⟨(some 90),(.bin .num .add (.t 88) (.t 89)),0,(some (86,false))⟩,⟨(some 91),(.bin .num .neq (.t 87) (.t 90)),0,(some (86,false))⟩,⟨(some 92),(.pick (.t 86) (.c (.bool true)) (.t 91)),0,(some (83,true))⟩,⟨(some 93),(.pick (.t 83) (.t 92) (.c (.bool false))),0,none⟩] none) (.cond (.t 93) (.seq (.reg [⟨(some 6),(.mv (.c (.bool false))),0,none⟩] none) .ret) .skip)) (.seq (.reg [⟨(some 95),(.load true [(.sl 1),(.int .i64)] (.t 9)),0,none⟩,⟨(some 96),(.mv (.t 1)),0,none⟩,⟨(some 97),(.faddr 2 (.t 5)),0,none⟩,⟨(some 98),(.load false [(.sl 2)] (.t 97)),0,none⟩,⟨(some 99),(.call (.c (.fn 57)) [(.t 95),(.t 96),(.t 98)]),0,none⟩,⟨(some 94),(.mv (.t 99)),2,none⟩,⟨(some 100),(.extract (.t 94) 0),2,none⟩,⟨(some 101),(.extract (.t 94) 1),2,none⟩,⟨(some 18),(.mv (.t 100)),2,none⟩,⟨(some 19),(.mv (.t 101)),2,none⟩] none) (.seq (.reg [⟨(some 103),(.load true [(.sl 1),(.int .i64)] (.t 9)),0,none⟩,⟨(some 104),(.mv (.t 10)),0,none⟩,⟨(some 105),(.faddr 2 (.t 5)),0,none⟩,⟨(some 106),(.load false [(.sl 2)] (.t 105)),0,none⟩,⟨(some 107),(.call (.c (.fn 57)) [(.t 103),(.t 104),(.t 106)]),0,none⟩,⟨(some 102),(.mv (.t 107)),2,none⟩,⟨(some 108),(.extract (.t 102) 0),2,none⟩,⟨(some 109),(.extract (.t 102) 1),2,none⟩,⟨(some 20),(.mv (.t 108)),2,none⟩,⟨(some 21),(.mv (.t 109)),2,none⟩] none) (.seq (.reg [⟨(some 111),(.load true [(.sl 1),(.int .i64)] (.t 9)),0,none⟩,⟨(some 112),(.mv (.t 11)),0,none⟩,⟨(some 113),(.faddr 2 (.t 5)),0,none⟩,⟨(some 114),(.load false [(.sl 2)] (.t 113)),0,none⟩,⟨(some 115),(.call (.c (.fn 57)) [(.t 111),(.t 112),(.t 114)]),0,none⟩,⟨(some 110),(.mv (.t 115)),2,none⟩,⟨(some 116),(.extract (.t 110) 0),2,none⟩,⟨(some 117),(.extract (.t 110) 1),2,none⟩,⟨(some 22),(.mv (.t 116)),2,none⟩,⟨(some 23),(.mv (.t 117)),2,none⟩] none) (.seq (.reg [⟨(some 118),(.mv (.t 19)),0,none⟩,⟨(some 119),(.bin .num .neq (.t 118) (.c (.int .i64 0))),0,none⟩,⟨(some 120),(.mv (.t 119)),0,none⟩,⟨(some 121),(.mv (.t 21)),0,(some (120,false))⟩,⟨(some 122),(.bin .num .neq (.t 121) (.c (.int .i64 0))),0,(some (120,false))⟩,⟨(some 123),(.pick (.t 120) (.c (.bool true)) (.t 122)),0,none⟩,⟨(some 124),(.mv (.t 123)),0,none⟩,⟨(some 125),(.mv (.t 23)),0,(some (124,false))⟩,⟨(some 126),(.bin .num .neq (.t 125) (.c (.int .i64 0))),0,(some (124,false))⟩,⟨(some 127),(.pick (.t 124) (.c (.bool true)) (.t 126)),0,none⟩,⟨(some 128),(.mv (.t 127)),0,none⟩,⟨(some 129),(.mv (.t 18)),0,(some (128,false))⟩,⟨(some 130),(.mv (.t 20)),0,(some (128,false))⟩,⟨(some 131),(.mv (.t 22)),0,(some (128,false))⟩,⟨(some 132),(.bin .num .add (.t 130) (.t 131)),0,(some (128,false))⟩,⟨(some 133),(.bin .num .eql (.t 129) (.t 132)),0,(some (128,false))⟩,⟨(some 134),(.pick (.t 128) (.c (.bool true)) (.t 133)),0,none⟩,⟨(some 6),(.mv (.t 134)),0,none⟩] none) .ret)))))))))))))))
def Df:List IRes:=[(.tmp 6)]
abbrev a3t:Nat:=135
def Sg:ZC:=Xn [(43,.pure (preT (fun _:Unit=>true)) (Zg (fun _:Unit=>true))),(44,.pure (preT (fun x:BoxT×List Fact×Unit=>ZP x.1&&YQ x.2.1)) (Zg (fun x:BoxT×List Fact×Unit=>UY x.1 x.2.1))),(55,.pure (preT (fun x:Asked×Unit=>Kw x.1)) (Zg (fun x:Asked×Unit=>UX x.1))),(56,.pure (preT (fun x:Lin×Unit=>ZW x.1)) (Zg (fun x:Lin×Unit=>Xb x.1))),(47,.pure (preT (fun x:BoxT×List Fact×Unit=>ZP x.1&&Zo x.2.1&&decide (x.2.1.length<=100)&&decide (x.1.v.length<=1000))) (Zg (fun x:BoxT×List Fact×Unit=>YB x.1 x.2.1))),(57,.pure (preT (fun x:BoxT×List Fact×List Mono×Unit=>Xh x.1 x.2.1 x.2.2.1)) (Zg (fun x:BoxT×List Fact×List Mono×Unit=>Yw x.1 x.2.1 x.2.2.1)))]
theorem b5e{G:PV->Prop}(b:BoxT)(fs:List Fact)(l:Lin)(p:List Mono)(h : ∃ y0:Bool,AV.pv (Zg (fun(x:Unit)=>true) [])=AV.pv (enc y0)∧(if (!y0)=true then G ((.bool false))else((Go.Pl.preT (fun(x:BoxT×List Fact×Unit)=>ZP x.1&&YQ x.2.1) [(.agg [(.sl 1 false (List.map enc b.v)),(.int .i64 b.m)]),(.sl 3 false (List.map enc fs))])=true∧(∃ y1:Bool,AV.pv (Zg (fun(x:BoxT×List Fact×Unit)=>UY x.1 x.2.1) [(.agg [(.sl 1 false (List.map enc b.v)),(.int .i64 b.m)]),(.sl 3 false (List.map enc fs))])=AV.pv (enc y1)∧(if (!y1)=true then G ((.bool true))else((Go.Pl.preT (fun(x:Asked×Unit)=>Kw x.1) [(.agg [(.int .i64 l.k),(.sl 2 false (List.map enc l.t)),(.sl 2 false (List.map enc p))])])=true∧(∃ y2:Bool,AV.pv (Zg (fun(x:Asked×Unit)=>UX x.1) [(.agg [(.int .i64 l.k),(.sl 2 false (List.map enc l.t)),(.sl 2 false (List.map enc p))])])=AV.pv (enc y2)∧(if (!y2)=true then G ((.bool true))else((Go.Pl.preT (fun(x:Lin×Unit)=>ZW x.1) [(.agg [(.int .i64 l.k),(.sl 2 false (List.map enc l.t))])])=true∧(∃ y3:Lin×Int,AV.pv (Zg (fun(x:Lin×Unit)=>Xb x.1) [(.agg [(.int .i64 l.k),(.sl 2 false (List.map enc l.t))])])=AV.pv (enc y3)∧(if (y3.2 != 0)=true then G ((.bool true))else((List.isEmpty (List.map enc fs)||Enc.sz Fact==3)=true∧((List.length ([]:List PV)==0&&0==0&&decide ((0+List.length (List.map enc fs))*40<=1099511627776)&&decide (0+List.length (List.map enc fs)<=1099511627776))=true∧((List.length (([]:List PV)++List.map enc fs)==0+List.length (List.map enc fs)&&0+List.length (List.map enc fs)==0+List.length (List.map enc fs)&&decide ((0+List.length (List.map enc fs)+List.length (List.drop 0 (List.take 1 [PV.agg [PV.bool false,enc l.k,enc l.t]])))*40<=1099511627776)&&decide (0+List.length (List.map enc fs)+List.length (List.drop 0 (List.take 1 [PV.agg [PV.bool false,enc l.k,enc l.t]]))<=1099511627776))=true∧((List.isEmpty (List.map enc fs)||Enc.sz Fact==3)=true∧((List.length ([]:List PV)==0&&0==0&&decide ((0+List.length (List.map enc fs))*40<=1099511627776)&&decide (0+List.length (List.map enc fs)<=1099511627776))=true∧((List.length (([]:List PV)++List.map enc fs)==0+List.length (List.map enc fs)&&0+List.length (List.map enc fs)==0+List.length (List.map enc fs)&&decide ((0+List.length (List.map enc fs)+List.length (List.drop 0 (List.take 1 [PV.agg [PV.bool false,enc y3.1.k,enc y3.1.t]])))*40<=1099511627776)&&decide (0+List.length (List.map enc fs)+List.length (List.drop 0 (List.take 1 [PV.agg [PV.bool false,enc y3.1.k,enc y3.1.t]]))<=1099511627776))=true∧((Go.Pl.preT (fun(x:BoxT×List Fact×Unit)=>ZP x.1&&Zo x.2.1&&decide (List.length x.2.1<=100)&&decide (List.length x.1.v<=1000)) [(.agg [(.sl 1 false (List.map enc b.v)),(.int .i64 b.m)]),(.sl 3 false (List.map enc fs))])=true∧(∃ y4:Int×Int,AV.pv (Zg (fun(x:BoxT×List Fact×Unit)=>YB x.1 x.2.1) [(.agg [(.sl 1 false (List.map enc b.v)),(.int .i64 b.m)]),(.sl 3 false (List.map enc fs))])=AV.pv (enc y4)∧((List.length (([]:List PV)++List.map enc fs++List.drop 0 (List.take 1 [PV.agg [PV.bool false,enc l.k,enc l.t]]))==0+List.length (List.map enc fs)+List.length (List.drop 0 (List.take 1 [PV.agg [PV.bool false,enc l.k,enc l.t]])))=true∧((Go.Pl.preT (fun(x:BoxT×List Fact×Unit)=>ZP x.1&&Zo x.2.1&&decide (List.length x.2.1<=100)&&decide (List.length x.1.v<=1000)) [(.agg [(.sl 1 false (List.map enc b.v)),(.int .i64 b.m)]),(.sl 3 false (List.drop 0 (List.take (0+List.length (List.map enc fs)+List.length (List.drop 0 (List.take 1 [PV.agg [PV.bool false,enc l.k,enc l.t]]))) (([]:List PV)++List.map enc fs++List.drop 0 (List.take 1 [PV.agg [PV.bool false,enc l.k,enc l.t]])))))])=true∧(∃ y5:Int×Int,AV.pv (Zg (fun(x:BoxT×List Fact×Unit)=>YB x.1 x.2.1) [(.agg [(.sl 1 false (List.map enc b.v)),(.int .i64 b.m)]),(.sl 3 false (List.drop 0 (List.take (0+List.length (List.map enc fs)+List.length (List.drop 0 (List.take 1 [PV.agg [PV.bool false,enc l.k,enc l.t]]))) (([]:List PV)++List.map enc fs++List.drop 0 (List.take 1 [PV.agg [PV.bool false,enc l.k,enc l.t]])))))])=AV.pv (enc y5)∧((List.length (([]:List PV)++List.map enc fs++List.drop 0 (List.take 1 [PV.agg [PV.bool false,enc y3.1.k,enc y3.1.t]]))==0+List.length (List.map enc fs)+List.length (List.drop 0 (List.take 1 [PV.agg [PV.bool false,enc y3.1.k,enc y3.1.t]])))=true∧((Go.Pl.preT (fun(x:BoxT×List Fact×Unit)=>ZP x.1&&Zo x.2.1&&decide (List.length x.2.1<=100)&&decide (List.length x.1.v<=1000)) [(.agg [(.sl 1 false (List.map enc b.v)),(.int .i64 b.m)]),(.sl 3 false (List.drop 0 (List.take (0+List.length (List.map enc fs)+List.length (List.drop 0 (List.take 1 [PV.agg [PV.bool false,enc y3.1.k,enc y3.1.t]]))) (([]:List PV)++List.map enc fs++List.drop 0 (List.take 1 [PV.agg [PV.bool false,enc y3.1.k,enc y3.1.t]])))))])=true∧(∃ y6:Int×Int,AV.pv (Zg (fun(x:BoxT×List Fact×Unit)=>YB x.1 x.2.1) [(.agg [(.sl 1 false (List.map enc b.v)),(.int .i64 b.m)]),(.sl 3 false (List.drop 0 (List.take (0+List.length (List.map enc fs)+List.length (List.drop 0 (List.take 1 [PV.agg [PV.bool false,enc y3.1.k,enc y3.1.t]]))) (([]:List PV)++List.map enc fs++List.drop 0 (List.take 1 [PV.agg [PV.bool false,enc y3.1.k,enc y3.1.t]])))))])=AV.pv (enc y6)∧(if (y4.2==0)=true then if (y5.2==0)=true then if (y6.2 != 0)=true then G ((.bool false))else(if (y4.1 != IntKind.wrap IntKind.i64 (y5.1+y6.1))=true then G ((.bool false))else((Go.Pl.preT (fun(x:BoxT×List Fact×List Mono×Unit)=>Xh x.1 x.2.1 x.2.2.1) [(.agg [(.sl 1 false (List.map enc b.v)),(.int .i64 b.m)]),(.sl 3 false (List.map enc fs)),(.sl 2 false (List.map enc p))])=true∧(∃ y7:Int×Int,AV.pv (Zg (fun(x:BoxT×List Fact×List Mono×Unit)=>Yw x.1 x.2.1 x.2.2.1) [(.agg [(.sl 1 false (List.map enc b.v)),(.int .i64 b.m)]),(.sl 3 false (List.map enc fs)),(.sl 2 false (List.map enc p))])=AV.pv (enc y7)∧((List.length (([]:List PV)++List.map enc fs++List.drop 0 (List.take 1 [PV.agg [PV.bool false,enc l.k,enc l.t]]))==0+List.length (List.map enc fs)+List.length (List.drop 0 (List.take 1 [PV.agg [PV.bool false,enc l.k,enc l.t]])))=true∧((Go.Pl.preT (fun(x:BoxT×List Fact×List Mono×Unit)=>Xh x.1 x.2.1 x.2.2.1) [(.agg [(.sl 1 false (List.map enc b.v)),(.int .i64 b.m)]),(.sl 3 false (List.drop 0 (List.take (0+List.length (List.map enc fs)+List.length (List.drop 0 (List.take 1 [PV.agg [PV.bool false,enc l.k,enc l.t]]))) (([]:List PV)++List.map enc fs++List.drop 0 (List.take 1 [PV.agg [PV.bool false,enc l.k,enc l.t]]))))),(.sl 2 false (List.map enc p))])=true∧(∃ y8:Int×Int,AV.pv (Zg (fun(x:BoxT×List Fact×List Mono×Unit)=>Yw x.1 x.2.1 x.2.2.1) [(.agg [(.sl 1 false (List.map enc b.v)),(.int .i64 b.m)]),(.sl 3 false (List.drop 0 (List.take (0+List.length (List.map enc fs)+List.length (List.drop 0 (List.take 1 [PV.agg [PV.bool false,enc l.k,enc l.t]]))) (([]:List PV)++List.map enc fs++List.drop 0 (List.take 1 [PV.agg [PV.bool false,enc l.k,enc l.t]]))))),(.sl 2 false (List.map enc p))])=AV.pv (enc y8)∧((List.length (([]:List PV)++List.map enc fs++List.drop 0 (List.take 1 [PV.agg [PV.bool false,enc y3.1.k,enc y3.1.t]]))==0+List.length (List.map enc fs)+List.length (List.drop 0 (List.take 1 [PV.agg [PV.bool false,enc y3.1.k,enc y3.1.t]])))=true∧((Go.Pl.preT (fun(x:BoxT×List Fact×List Mono×Unit)=>Xh x.1 x.2.1 x.2.2.1) [(.agg [(.sl 1 false (List.map enc b.v)),(.int .i64 b.m)]),(.sl 3 false (List.drop 0 (List.take (0+List.length (List.map enc fs)+List.length (List.drop 0 (List.take 1 [PV.agg [PV.bool false,enc y3.1.k,enc y3.1.t]]))) (([]:List PV)++List.map enc fs++List.drop 0 (List.take 1 [PV.agg [PV.bool false,enc y3.1.k,enc y3.1.t]]))))),(.sl 2 false (List.map enc p))])=true∧(∃ y9:Int×Int,AV.pv (Zg (fun(x:BoxT×List Fact×List Mono×Unit)=>Yw x.1 x.2.1 x.2.2.1) [(.agg [(.sl 1 false (List.map enc b.v)),(.int .i64 b.m)]),(.sl 3 false (List.drop 0 (List.take (0+List.length (List.map enc fs)+List.length (List.drop 0 (List.take 1 [PV.agg [PV.bool false,enc y3.1.k,enc y3.1.t]]))) (([]:List PV)++List.map enc fs++List.drop 0 (List.take 1 [PV.agg [PV.bool false,enc y3.1.k,enc y3.1.t]]))))),(.sl 2 false (List.map enc p))])=AV.pv (enc y9)∧(if (y7.2 != 0)=true then G ((.bool true))else(if (y8.2 != 0)=true then G ((.bool true))else(if (y9.2 != 0)=true then G ((.bool true))else(G ((.bool (y7.1==IntKind.wrap IntKind.i64 (y8.1+y9.1)))))))))))))))))else((Go.Pl.preT (fun(x:BoxT×List Fact×List Mono×Unit)=>Xh x.1 x.2.1 x.2.2.1) [(.agg [(.sl 1 false (List.map enc b.v)),(.int .i64 b.m)]),(.sl 3 false (List.map enc fs)),(.sl 2 false (List.map enc p))])=true∧(∃ y10:Int×Int,AV.pv (Zg (fun(x:BoxT×List Fact×List Mono×Unit)=>Yw x.1 x.2.1 x.2.2.1) [(.agg [(.sl 1 false (List.map enc b.v)),(.int .i64 b.m)]),(.sl 3 false (List.map enc fs)),(.sl 2 false (List.map enc p))])=AV.pv (enc y10)∧((List.length (([]:List PV)++List.map enc fs++List.drop 0 (List.take 1 [PV.agg [PV.bool false,enc l.k,enc l.t]]))==0+List.length (List.map enc fs)+List.length (List.drop 0 (List.take 1 [PV.agg [PV.bool false,enc l.k,enc l.t]])))=true∧((Go.Pl.preT (fun(x:BoxT×List Fact×List Mono×Unit)=>Xh x.1 x.2.1 x.2.2.1) [(.agg [(.sl 1 false (List.map enc b.v)),(.int .i64 b.m)]),(.sl 3 false (List.drop 0 (List.take (0+List.length (List.map enc fs)+List.length (List.drop 0 (List.take 1 [PV.agg [PV.bool false,enc l.k,enc l.t]]))) (([]:List PV)++List.map enc fs++List.drop 0 (List.take 1 [PV.agg [PV.bool false,enc l.k,enc l.t]]))))),(.sl 2 false (List.map enc p))])=true∧(∃ y11:Int×Int,AV.pv (Zg (fun(x:BoxT×List Fact×List Mono×Unit)=>Yw x.1 x.2.1 x.2.2.1) [(.agg [(.sl 1 false (List.map enc b.v)),(.int .i64 b.m)]),(.sl 3 false (List.drop 0 (List.take (0+List.length (List.map enc fs)+List.length (List.drop 0 (List.take 1 [PV.agg [PV.bool false,enc l.k,enc l.t]]))) (([]:List PV)++List.map enc fs++List.drop 0 (List.take 1 [PV.agg [PV.bool false,enc l.k,enc l.t]]))))),(.sl 2 false (List.map enc p))])=AV.pv (enc y11)∧((List.length (([]:List PV)++List.map enc fs++List.drop 0 (List.take 1 [PV.agg [PV.bool false,enc y3.1.k,enc y3.1.t]]))==0+List.length (List.map enc fs)+List.length (List.drop 0 (List.take 1 [PV.agg [PV.bool false,enc y3.1.k,enc y3.1.t]])))=true∧((Go.Pl.preT (fun(x:BoxT×List Fact×List Mono×Unit)=>Xh x.1 x.2.1 x.2.2.1) [(.agg [(.sl 1 false (List.map enc b.v)),(.int .i64 b.m)]),(.sl 3 false (List.drop 0 (List.take (0+List.length (List.map enc fs)+List.length (List.drop 0 (List.take 1 [PV.agg [PV.bool false,enc y3.1.k,enc y3.1.t]]))) (([]:List PV)++List.map enc fs++List.drop 0 (List.take 1 [PV.agg [PV.bool false,enc y3.1.k,enc y3.1.t]]))))),(.sl 2 false (List.map enc p))])=true∧(∃ y12:Int×Int,AV.pv (Zg (fun(x:BoxT×List Fact×List Mono×Unit)=>Yw x.1 x.2.1 x.2.2.1) [(.agg [(.sl 1 false (List.map enc b.v)),(.int .i64 b.m)]),(.sl 3 false (List.drop 0 (List.take (0+List.length (List.map enc fs)+List.length (List.drop 0 (List.take 1 [PV.agg [PV.bool false,enc y3.1.k,enc y3.1.t]]))) (([]:List PV)++List.map enc fs++List.drop 0 (List.take 1 [PV.agg [PV.bool false,enc y3.1.k,enc y3.1.t]]))))),(.sl 2 false (List.map enc p))])=AV.pv (enc y12)∧(if (y10.2 != 0)=true then G ((.bool true))else(if (y11.2 != 0)=true then G ((.bool true))else(if (y12.2 != 0)=true then G ((.bool true))else(G ((.bool (y10.1==IntKind.wrap IntKind.i64 (y11.1+y12.1))))))))))))))))else((Go.Pl.preT (fun(x:BoxT×List Fact×List Mono×Unit)=>Xh x.1 x.2.1 x.2.2.1) [(.agg [(.sl 1 false (List.map enc b.v)),(.int .i64 b.m)]),(.sl 3 false (List.map enc fs)),(.sl 2 false (List.map enc p))])=true∧(∃ y13:Int×Int,AV.pv (Zg (fun(x:BoxT×List Fact×List Mono×Unit)=>Yw x.1 x.2.1 x.2.2.1) [(.agg [(.sl 1 false (List.map enc b.v)),(.int .i64 b.m)]),(.sl 3 false (List.map enc fs)),(.sl 2 false (List.map enc p))])=AV.pv (enc y13)∧((List.length (([]:List PV)++List.map enc fs++List.drop 0 (List.take 1 [PV.agg [PV.bool false,enc l.k,enc l.t]]))==0+List.length (List.map enc fs)+List.length (List.drop 0 (List.take 1 [PV.agg [PV.bool false,enc l.k,enc l.t]])))=true∧((Go.Pl.preT (fun(x:BoxT×List Fact×List Mono×Unit)=>Xh x.1 x.2.1 x.2.2.1) [(.agg [(.sl 1 false (List.map enc b.v)),(.int .i64 b.m)]),(.sl 3 false (List.drop 0 (List.take (0+List.length (List.map enc fs)+List.length (List.drop 0 (List.take 1 [PV.agg [PV.bool false,enc l.k,enc l.t]]))) (([]:List PV)++List.map enc fs++List.drop 0 (List.take 1 [PV.agg [PV.bool false,enc l.k,enc l.t]]))))),(.sl 2 false (List.map enc p))])=true∧(∃ y14:Int×Int,AV.pv (Zg (fun(x:BoxT×List Fact×List Mono×Unit)=>Yw x.1 x.2.1 x.2.2.1) [(.agg [(.sl 1 false (List.map enc b.v)),(.int .i64 b.m)]),(.sl 3 false (List.drop 0 (List.take (0+List.length (List.map enc fs)+List.length (List.drop 0 (List.take 1 [PV.agg [PV.bool false,enc l.k,enc l.t]]))) (([]:List PV)++List.map enc fs++List.drop 0 (List.take 1 [PV.agg [PV.bool false,enc l.k,enc l.t]]))))),(.sl 2 false (List.map enc p))])=AV.pv (enc y14)∧((List.length (([]:List PV)++List.map enc fs++List.drop 0 (List.take 1 [PV.agg [PV.bool false,enc y3.1.k,enc y3.1.t]]))==0+List.length (List.map enc fs)+List.length (List.drop 0 (List.take 1 [PV.agg [PV.bool false,enc y3.1.k,enc y3.1.t]])))=true∧((Go.Pl.preT (fun(x:BoxT×List Fact×List Mono×Unit)=>Xh x.1 x.2.1 x.2.2.1) [(.agg [(.sl 1 false (List.map enc b.v)),(.int .i64 b.m)]),(.sl 3 false (List.drop 0 (List.take (0+List.length (List.map enc fs)+List.length (List.drop 0 (List.take 1 [PV.agg [PV.bool false,enc y3.1.k,enc y3.1.t]]))) (([]:List PV)++List.map enc fs++List.drop 0 (List.take 1 [PV.agg [PV.bool false,enc y3.1.k,enc y3.1.t]]))))),(.sl 2 false (List.map enc p))])=true∧(∃ y15:Int×Int,AV.pv (Zg (fun(x:BoxT×List Fact×List Mono×Unit)=>Yw x.1 x.2.1 x.2.2.1) [(.agg [(.sl 1 false (List.map enc b.v)),(.int .i64 b.m)]),(.sl 3 false (List.drop 0 (List.take (0+List.length (List.map enc fs)+List.length (List.drop 0 (List.take 1 [PV.agg [PV.bool false,enc y3.1.k,enc y3.1.t]]))) (([]:List PV)++List.map enc fs++List.drop 0 (List.take 1 [PV.agg [PV.bool false,enc y3.1.k,enc y3.1.t]]))))),(.sl 2 false (List.map enc p))])=AV.pv (enc y15)∧(if (y13.2 != 0)=true then G ((.bool true))else(if (y14.2 != 0)=true then G ((.bool true))else(if (y15.2 != 0)=true then G ((.bool true))else(G ((.bool (y13.1==IntKind.wrap IntKind.i64 (y14.1+y15.1)))))))))))))))))))))))))))))))))))))))))):Zc Sg 0 (Za Df G) GI [] (YD 135 [enc b,enc fs,.agg [enc l.k,enc l.t,enc p]]):=Zc.tp (.lit (.abs (Bool) (fun YY=>AV.pv (enc YY)) (.ask (.nil) (.req (.abs (Bool) (fun YY=>AV.pv (enc YY)) (.ask (.lit (.lit (.lit (.lit (.nil))))) (.lit (.req (.abs (Bool) (fun YY=>AV.pv (enc YY)) (.lit (.lit (.ask (.nil) (.req (.abs (Lin×Int) (fun YY=>AV.pv (enc YY)) (.lit (.ask (.nil) (.lit (.req (.req (.lit (.lit (.req (.lit (.req (.req (.lit (.lit (.req (.req (.abs (Int×Int) (fun YY=>AV.pv (enc YY)) (.req (.req (.abs (Int×Int) (fun YY=>AV.pv (enc YY)) (.req (.req (.abs (Int×Int) (fun YY=>AV.pv (enc YY)) (.lit (.ask (.lit (.lit (.lit (.ask (.lit (.lit (.lit (.ask (.lit (.lit (.lit (.lit (.lit (.lit (.lit (.lit (.nil))))))))) (.lit (.lit (.lit (.lit (.lit (.lit (.lit (.lit (.lit (.ask (.nil) (.req (.abs (Int×Int) (fun YY=>AV.pv (enc YY)) (.req (.req (.abs (Int×Int) (fun YY=>AV.pv (enc YY)) (.req (.req (.abs (Int×Int) (fun YY=>AV.pv (enc YY)) (.lit (.ask (.lit (.lit (.lit (.lit (.lit (.lit (.lit (.lit (.lit (.lit (.lit (.nil)))))))))))) (.lit (.lit (.lit (.ask (.lit (.lit (.lit (.lit (.lit (.lit (.lit (.lit (.nil))))))))) (.lit (.lit (.lit (.ask (.lit (.lit (.lit (.lit (.lit (.nil)))))) (.lit (.lit (.lit (.lit (.lit (.lit (.lit (.nil)))))))))))))))))))))))))))))))))))))))) (.lit (.lit (.lit (.lit (.lit (.req (.abs (Int×Int) (fun YY=>AV.pv (enc YY)) (.req (.req (.abs (Int×Int) (fun YY=>AV.pv (enc YY)) (.req (.req (.abs (Int×Int) (fun YY=>AV.pv (enc YY)) (.lit (.ask (.lit (.lit (.lit (.lit (.lit (.lit (.lit (.lit (.lit (.lit (.lit (.nil)))))))))))) (.lit (.lit (.lit (.ask (.lit (.lit (.lit (.lit (.lit (.lit (.lit (.lit (.nil))))))))) (.lit (.lit (.lit (.ask (.lit (.lit (.lit (.lit (.lit (.nil)))))) (.lit (.lit (.lit (.lit (.lit (.lit (.lit (.nil))))))))))))))))))))))))))))))))))) (.lit (.lit (.lit (.lit (.lit (.lit (.lit (.lit (.req (.abs (Int×Int) (fun YY=>AV.pv (enc YY)) (.req (.req (.abs (Int×Int) (fun YY=>AV.pv (enc YY)) (.req (.req (.abs (Int×Int) (fun YY=>AV.pv (enc YY)) (.lit (.ask (.lit (.lit (.lit (.lit (.lit (.lit (.lit (.lit (.lit (.lit (.lit (.nil)))))))))))) (.lit (.lit (.lit (.ask (.lit (.lit (.lit (.lit (.lit (.lit (.lit (.lit (.nil))))))))) (.lit (.lit (.lit (.ask (.lit (.lit (.lit (.lit (.lit (.nil)))))) (.lit (.lit (.lit (.lit (.lit (.lit (.lit (.nil)))))))))))))))))))))))))))))))))))))))))))))))))))))))))))))))))))))))) h (by kernel_rfl)
end Go.Pl

namespace Go.Pl
open Go.RowKit
open Enc (enc dec is)
open EncL (encL decL isL)
theorem c5c{p:List Mono}{i:Nat}(h:i<p.length):(List.length (PV.asXs (List.getD (List.drop 1 (PV.cells (enc p[i]))) 0 default)):Nat)=p[i].v.length:=by
 show(p[i].v.map (enc:Str->PV)).length=_
 rw[List.length_map]
theorem c1w{p:List Mono}{n:Int}(h:GU p n=true)(hn:n<=1000):b5w p=true:=by
 unfold GU at h
 simp only[Bool.and_eq_true,decide_eq_true_eq,List.all_eq_true]at h
 unfold b5w XM
 simp only[Bool.and_eq_true,decide_eq_true_eq,List.all_eq_true]
 refine⟨ZL.2 (by omega),fun m hm=>⟨ZL.2 (by have:=(h.1 m hm).1;omega),fun s hs=>by have:=(h.1 m hm).2 s hs;omega⟩⟩
theorem c2v(fs:List Fact)(l:Lin):List.drop 0 (List.take (0+List.length (List.map (enc:Fact->PV) fs)+List.length (List.drop 0 (List.take 1 [PV.agg [PV.bool false,enc l.k,enc l.t]]))) (([]:List PV)++List.map enc fs++List.drop 0 (List.take 1 [PV.agg [PV.bool false,enc l.k,enc l.t]])))=List.map enc (ZU fs l):=by
 rw[List.drop_zero,List.take_of_length_le (by simp)]
 unfold ZU;rw[List.map_append];rfl
theorem b7u{l:Lin}(hn:(Xb l).2=0)(h:ZW l=true):ZW (Xb l).1=true:=by
 rw[(EQ hn).2]
 unfold ZW Y4 at h ⊢
 rw[Bool.and_eq_true]at h ⊢
 refine⟨?_,?_⟩
 ·show decide ((l.t.map FN).length<=_)=true
  rw[List.length_map];exact h.1
 ·show((l.t.map FN).all _)=true
  rw[List.all_map];exact h.2
theorem OT{fs:List Fact}{l:Lin}(h:Zo fs=true)(h2:fs.length<=1000)(hl:ZW l=true):Zo (ZU fs l)=true:=by
 unfold Zo ZU at *
 rw[Bool.and_eq_true]at h ⊢
 refine⟨decide_eq_true (by rw[List.length_append,List.length_singleton];omega),?_⟩
 rw[List.all_append,h.2,Bool.true_and]
 show(ZW l&&true)=true
 rw[hl];rfl
theorem a3f(fs:List Fact)(l:Lin):(ZU fs l).length=fs.length+1:=by unfold ZU;simp
theorem b5m{b:BoxT}{fs:List Fact}(hb:b.v.length<=1000):0<=(YB b fs).1∧(YB b fs).1<=20000:=by
 unfold YB
 have:=(a4q (b:=b) (fs:=fs) hb).1
 show(0:Int)<=((Yy b fs).1.length:Int)∧((Yy b fs).1.length:Int)<=20000
 omega
theorem b9b(b:BoxT)(fs:List Fact)(p:List Mono):Ua (Yw b fs p).1=true:=by
 unfold Yw
 split
 ·split
  ·rfl
  ·exact a2t
 ·rfl
theorem Oz: ∀ x:BoxT×List Fact×Asked×Unit,(ZP x.1&&YQ x.2.1&&Kw x.2.2.1)=true->Zc Sg 0 (Za Df (Zl true)) GI [] (YD a3t (encL x)):=by
 rintro⟨b,fs,⟨l,p⟩,⟨⟩⟩ hp
 simp only[Bool.and_eq_true]at hp
 obtain⟨⟨h1,h2⟩,h3⟩:=hp
 refine b5e b fs l p (Ze () rfl (Z8 (by simp) ⟨Zh (b,fs,()) rfl (by rw[h1,h2];rfl),Ze (b,fs,()) rfl ?_⟩))
 refine Vj (fun _=>ZF rfl) fun hf=> ?_
 have hf:UY b fs=true:=hf
 have hP:=a3i h1 hf
 obtain⟨h5,h6,hfs,_⟩:=TK hf
 refine⟨Zh ((⟨l,p⟩:Asked),()) rfl h3,Ze ((⟨l,p⟩:Asked),()) rfl ?_⟩
 refine Vj (fun _=>ZF rfl) fun hs=> ?_
 have hs:(QV l 6&&GU p 6)=true:=hs
 rw[Bool.and_eq_true]at hs
 obtain⟨hls,hll⟩:=a1k hs.1 (by decide)
 have hpo:=c1w hs.2 (by decide)
 have hps:Yd p=true:=hpo
 refine⟨Zh (l,()) rfl hls,Ze (l,()) rfl ?_⟩
 refine Ce (fun _=>ZF rfl) fun hn=> ?_
 have hn:(Xb l).2=0:=by simpa using hn
 have hng:=b7u hn hls
 have pm : ∀ g,ZW g=true->(ZP b&&Zo (ZU fs g)&&decide ((ZU fs g).length<=100)&&decide (b.v.length<=1000))=true:=by
  intro g hg
  rw[h1,OT hfs (by omega) hg,decide_eq_true (by rw[a3f];omega),decide_eq_true (by omega)];rfl
 have ps0:Xh b fs p=true:=by unfold Xh;rw[hP,hps];rfl
 have ps : ∀ g,ZW g=true->Xh b (ZU fs g) p=true:=by
  intro g hg
  unfold Xh;rw[pm g hg,hps];rfl
 have fin:((Yw b fs p).2=0->(Yw b (ZU fs l) p).2=0->(Yw b (ZU fs (Xb l).1) p).2=0->((Yw b fs p).1==IntKind.i64.wrap ((Yw b (ZU fs l) p).1+(Yw b (ZU fs (Xb l).1) p).1))=true):=by
  intro a1 a2 a3
  have e:=a7f hn a1 a2 a3
  have:=c4o (b9b b fs p)
  rw[Wo (by omega) (by omega),<- e];simp
 refine⟨by simp[Enc.sz],by simp;omega,by simp;omega,by simp[Enc.sz],by simp;omega,by simp;omega,Zh (b,fs,()) rfl hP,Ze (b,fs,()) rfl ⟨by simp,?_⟩⟩
 rw[c2v]
 refine⟨Zh (b,ZU fs l,()) rfl (pm l hls),Ze (b,ZU fs l,()) rfl ⟨by simp,?_⟩⟩
 rw[c2v]
 refine⟨Zh (b,ZU fs (Xb l).1,()) rfl (pm _ hng),Ze (b,ZU fs (Xb l).1,()) rfl ?_⟩
 refine Ce (fun hc1=>Ce (fun hc2=> ?_) fun hc2=> ?_) fun hc1=> ?_
 ·have hc1:(YB b fs).2=0:=by simpa using hc1
  have hc2:(YB b (ZU fs l)).2=0:=by simpa using hc2
  obtain⟨e1,e2⟩:=NT hn hc1 hc2
  have b1:=b5m (b:=b) (fs:=fs) (by omega)
  refine Z8 (by rw[show(YB b (ZU fs (Xb l).1)).2=0 from e1];simp) (Z8 ?_ ?_)
  ·show ¬ (((YB b fs).1 != IntKind.i64.wrap ((YB b (ZU fs l)).1+(YB b (ZU fs (Xb l).1)).1))=true)
   rw[Wo (by omega) (by omega),<- e2];simp
  ·refine⟨Zh (b,fs,p,()) rfl ps0,Ze (b,fs,p,()) rfl ⟨by simp,?_⟩⟩
   refine⟨Zh (b,ZU fs l,p,()) rfl (ps l hls),Ze (b,ZU fs l,p,()) rfl ⟨by simp,?_⟩⟩
   refine⟨Zh (b,ZU fs (Xb l).1,p,()) rfl (ps _ hng),Ze (b,ZU fs (Xb l).1,p,()) rfl ?_⟩
   exact Ce (fun _=>ZF rfl) fun a1=>Ce (fun _=>ZF rfl) fun a2=>Ce (fun _=>ZF rfl) fun a3=>ZF (fin (by simpa using a1) (by simpa using a2) (by simpa using a3))
 ·refine⟨Zh (b,fs,p,()) rfl ps0,Ze (b,fs,p,()) rfl ⟨by simp,?_⟩⟩
  refine⟨Zh (b,ZU fs l,p,()) rfl (ps l hls),Ze (b,ZU fs l,p,()) rfl ⟨by simp,?_⟩⟩
  refine⟨Zh (b,ZU fs (Xb l).1,p,()) rfl (ps _ hng),Ze (b,ZU fs (Xb l).1,p,()) rfl ?_⟩
  exact Ce (fun _=>ZF rfl) fun a1=>Ce (fun _=>ZF rfl) fun a2=>Ce (fun _=>ZF rfl) fun a3=>ZF (fin (by simpa using a1) (by simpa using a2) (by simpa using a3))
 ·refine⟨Zh (b,fs,p,()) rfl ps0,Ze (b,fs,p,()) rfl ⟨by simp,?_⟩⟩
  refine⟨Zh (b,ZU fs l,p,()) rfl (ps l hls),Ze (b,ZU fs l,p,()) rfl ⟨by simp,?_⟩⟩
  refine⟨Zh (b,ZU fs (Xb l).1,p,()) rfl (ps _ hng),Ze (b,ZU fs (Xb l).1,p,()) rfl ?_⟩
  exact Ce (fun _=>ZF rfl) fun a1=>Ce (fun _=>ZF rfl) fun a2=>Ce (fun _=>ZF rfl) fun a3=>ZF (fin (by simpa using a1) (by simpa using a2) (by simpa using a3))
end Go.Pl

namespace Go.Pl
open Go.RowKit
open Enc (enc dec is)
open EncL (encL decL isL)
set_option maxRecDepth 100000
end Go.Pl

namespace Go.Pl
open Go.RowKit
open Enc (enc dec is)
open EncL (encL decL isL)
end Go.Pl

namespace Go.Pl
open Go.RowKit
open Enc (enc dec is)
open EncL (encL decL isL)
theorem c8f{l:List Str}{k:Nat}(h:k<l.length):(l.drop k).all (fun s=>decide (s.s.length<=40))=(decide (l[k].s.length<=40)&&(l.drop (k+1)).all fun s=>decide (s.s.length<=40)):=by
 rw[List.drop_eq_getElem_cons h,List.all_cons]
theorem c2e(p:List Mono)(n:Int)(i:Nat)(hi:i<p.length)(hil:i<9223372036854775807)(h10:p[i].v.length<=10)(R:Bool)
  (hK:(p[i].v.all fun s=>decide (s.s.length<=40))=true->At VW 0 (Za Wy (Zl R)) Ww 0 44 [(0,.pv (enc p)),(1,.pv (enc n)),(5,.pv (.int .i64 ((i+1:Nat):Int)))] [])
  (hB:(p[i].v.all fun s=>decide (s.s.length<=40))=false->R=false) : ∀ (d k:Nat),d+k=p[i].v.length->(p[i].v.all fun s=>decide (s.s.length<=40))=((p[i].v.drop k).all fun s=>decide (s.s.length<=40)) ->
  At VW 0 (Za Wy (Zl R)) Ww 1 44 [(0,.pv (enc p)),(1,.pv (enc n)),(5,.pv (.int .i64 i)),(6,.pv (.int .i64 k))] []:=by
 intro d
 induction d with
 | zero=>
  intro k hk ha
  rw[List.drop_of_length_le (by omega)]at ha
  refine a0y p n i k ⟨ZG hi rfl,Z0 hi ?_⟩
  rw[c5c hi]
  refine Z8 (by simp;omega) ?_
  rw[next (by omega)]
  exact hK ha
 | succ d ih=>
  intro k hk ha
  have hkl:k<p[i].v.length:=by omega
  refine a0y p n i k ⟨ZG hi rfl,Z0 hi ?_⟩
  rw[c5c hi]
  refine Ya (by simp;omega) ⟨ZG hi rfl,Z0 hi ⟨ixS hkl,d0v hkl,?_⟩⟩
  rw[d0l hkl]
  rw[c8f hkl]at ha
  refine WI (fun h=> ?_) fun h=> ?_
  ·rw[decide_eq_false (show ¬ p[i].v[k].s.length<=40 by omega),Bool.false_and]at ha
   exact ZF (hB ha).symm
  ·rw[decide_eq_true (show p[i].v[k].s.length<=40 by omega),Bool.true_and]at ha
   rw[next (by omega)]
   exact ih (k+1) (by omega) ha
def a5h(m:Mono):Bool:=decide (m.v.length<=10)&&m.v.all fun s=>decide (s.s.length<=40)
theorem c5d(p:List Mono)(n:Int):GU p n=(p.all a5h&&decide ((p.length:Int)<=n)):=rfl
theorem a5t(p:List Mono)(n:Int)(hp:p.length<=9223372036854775807): ∀ (d i:Nat),d+i=p.length->GU p n=((p.drop i).all a5h&&decide ((p.length:Int)<=n)) ->
  At VW 0 (Za Wy (Zl (GU p n))) Ww 0 44 [(0,.pv (enc p)),(1,.pv (enc n)),(5,.pv (.int .i64 i))] []:=by
 intro d
 induction d with
 | zero=>
  intro i hi hR
  rw[List.drop_of_length_le (by omega)]at hR
  refine a0e p n i (Z8 (Gh (by omega)) (ZF ?_))
  rw[hR]
  simp
 | succ d ih=>
  intro i hi hR
  have hlt:i<p.length:=by omega
  rw[List.drop_eq_getElem_cons hlt,List.all_cons]at hR
  refine a0e p n i (Ya (H6 hlt) ⟨ZG hlt rfl,Z0 hlt ?_⟩)
  rw[c5c hlt]
  refine WI (fun h=> ?_) fun h=> ?_
  ·have:a5h p[i]=false:=by unfold a5h;rw[decide_eq_false (by omega),Bool.false_and]
   rw[this,Bool.false_and,Bool.false_and]at hR
   exact ZF hR.symm
  ·have hm:a5h p[i]=p[i].v.all fun s=>decide (s.s.length<=40):=by unfold a5h;rw[decide_eq_true (by omega),Bool.true_and]
   refine c2e p n i hlt (by omega) (by omega) (GU p n) (fun ha=> ?_) (fun ha=> ?_) p[i].v.length 0 rfl rfl
   ·rw[hm,ha,Bool.true_and]at hR
    exact ih (i+1) (by omega) hR
   ·rw[hm,ha,Bool.false_and,Bool.false_and]at hR
    exact hR
theorem b0j: ∀ x:List Mono×Int×Unit,UK x.1=true->Zc VW 0 (Za Wy (Zl (GU x.1 x.2.1))) Ww [] (YD c1q (encL x)):=by
 rintro⟨p,n,⟨⟩⟩ h
 unfold UK at h
 rw[Bool.and_eq_true]at h
 exact c3i p n (a5t p n (ZL.1 h.1) p.length 0 rfl (c5d p n))
theorem OV: ∀ x:Asked×Unit,Kw x.1=true->Zc BD 0 (Za Di (Zl (UX x.1))) G9 [] (YD a6x (encL x)):=by
 rintro⟨⟨l,p⟩,⟨⟩⟩ h
 unfold Kw at h
 rw[Bool.and_eq_true]at h
 refine b1v l p ⟨Zh (l,(6:Int),()) rfl h.1,Ze (l,(6:Int),()) rfl ?_⟩
 show if QV l 6=true then _ else _
 refine Wn (fun h4=>⟨Zh (p,(6:Int),()) rfl h.2,Ze (p,(6:Int),()) rfl (ZF ?_)⟩) fun h4=>ZF ?_
 ·show GU p 6=UX ⟨l,p⟩
  unfold UX
  rw[h4,Bool.true_and]
 ·show false=UX ⟨l,p⟩
  unfold UX
  rw[h4,Bool.false_and]
end Go.Pl

namespace Go.Pl
open Go.RowKit
open Enc (enc dec is)
open EncL (encL decL isL)
set_option maxRecDepth 100000
end Go.Pl

namespace Go.Pl
open Go.RowKit
open Enc (enc dec is)
open EncL (encL decL isL)
end Go.Pl

