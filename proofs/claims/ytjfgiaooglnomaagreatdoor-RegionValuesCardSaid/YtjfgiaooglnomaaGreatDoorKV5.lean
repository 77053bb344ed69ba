/-
  Texts of mine that belong together (packed by pack.py), for every input: QPs, TyAw, GAw, QAw, GLp10, QRh, QRi, QRk, QRj, TyRe, TyRf, GRq, QRl, QRm, QRn, QSa, TyAs, GLr10, QSb, GLs10, TyRg, QSc, GSa, QRo.
-/
import Derived.Test.YtjfgiaooglnomaaGreatDoorChecked
import Derived.Test.YtjfgiaooglnomaaGreatDoorKV2
import Derived.Test.YtjfgiaooglnomaaGreatDoorKV3
import Derived.Test.YtjfgiaooglnomaaGreatDoorKV4
import Derived.KernelRfl
set_option linter.unusedVariables false
set_option linter.unusedSimpArgs false
namespace Go.Pl
open Go.RowKit
open Enc (enc dec is)
open EncL (encL decL isL)
theorem c9n(n:Int):Int.fdiv n (2 ^ min (Int.toNat 31) (IntKind.bits .i64))=WI n:=by
 show Int.fdiv n 2147483648=n / 2147483648
 exact Int.fdiv_eq_ediv_of_nonneg n (by decide)
theorem b1f(n:Int):IntKind.i64.wrap ((BitVec.toNat (BitVec.ofInt (IntKind.bits .i64) n &&& BitVec.ofInt (IntKind.bits .i64) 2147483647):Nat):Int)=Wh n:=by
 have e:BitVec.toNat (BitVec.ofInt (IntKind.bits .i64) n &&& BitVec.ofInt (IntKind.bits .i64) 2147483647)=(n % 2147483648).toNat:=by
  rw[BitVec.toNat_and]
  have e2:(BitVec.ofInt (IntKind.bits .i64) 2147483647).toNat=2 ^ 31 - 1:=rfl
  rw[e2,Nat.and_two_pow_sub_one_eq_mod,BitVec.toNat_ofInt]
  show(n % 18446744073709551616).toNat % 2147483648=_
  omega
 rw[e,WX (by omega) (by omega)]
 unfold Wh
 omega
theorem d2x: ∀ args os,QM args os=true->Ze Ol os.length (Zq os.length Ti fun r=>r=KJ args os) S9 [] (Y5 d2r args os):=by
 intro args os h
 unfold QM at h
 split at h
 ·rename_i n
  apply d6p (G:=fun r=>r=KJ _ _) n
  rw[c9n,b1f]
  rfl
 ·rename_i n q q' r r' ty xs ty' ys
  simp only[Bool.and_eq_true,beq_iff_eq,decide_eq_true_eq]at h
  obtain⟨⟨⟨⟨⟨⟨⟨h1,h2⟩,h3⟩,h4⟩,h5⟩,h6⟩,h7⟩,h8⟩:=h
  subst h1 h2 h3 h4 h5
  apply d6u (G:=fun r=>r=KJ _ _) n r' xs ys
  rw[c9n,b1f,h6,h7]
  have hd:((r'==r')&&(r'==r')&&decide ((r'+1)*8<=1099511627776)&&decide (r'+1<=1099511627776))=true:=by
   rw[decide_eq_true (by omega),decide_eq_true (by omega)];simp
  exact⟨hd,hd,rfl⟩
 ·cases h
def hN(p:List Mono):ZE:=[.obj (.box [.pv (enc p)]),.obj (.box [.pv (.int .i64 0)]),.obj (.box [.pv (.int .i64 0)]),.obj (.box [.pv (.sl 0 true [])]),.obj (.box [.pv (.sl 0 true [])]),.obj (.box [.fn 124 [] [.ptr 3 0,.ptr 4 0]])]
def hR(p:List Mono)(n:Nat)(xs ys:List Int):ZE:=[.obj (.box [.pv (enc p)]),.obj (.box [.pv (.int .i64 0)]),.obj (.box [.pv (.int .i64 0)]),.obj (.box [.row 6 n 0 n]),.obj (.box [.row 7 n 0 n]),.obj (.box [.fn 124 [] [.ptr 3 0,.ptr 4 0]]),.obj (.row false 3 1 (xs.map enc)),.obj (.row false 3 1 (ys.map enc))]
def hNX(p:List Mono):ZE:=[.obj (.box [.pv (enc p)]),.obj (.box [.pv (.int .i64 0)]),.obj (.box [.pv (.int .i64 2)]),.obj (.box [.pv (.sl 0 true [])]),.obj (.box [.pv (.sl 0 true [])]),.obj (.box [.fn 124 [] [.ptr 3 0,.ptr 4 0]]),.fresh,.fresh]
def hRX(p:List Mono)(n:Nat)(xs ys:List Int):ZE:=[.obj (.box [.pv (enc p)]),.obj (.box [.pv (.int .i64 0)]),.obj (.box [.pv (.int .i64 2)]),.obj (.box [.row 6 n 0 n]),.obj (.box [.row 7 n 0 n]),.obj (.box [.fn 124 [] [.ptr 3 0,.ptr 4 0]]),.obj (.row false 3 1 (xs.map enc)),.obj (.row false 3 1 (ys.map enc)),.fresh,.fresh]
def gsI(b:BoxT)(fs:List Fact)(p:List Mono)(k:Nat)(σ:ZE):Prop:=
 ∃ l,UE p b.v ((Zv b fs).take k)=some l∧((k=0∧σ=hN p)∨(0<k∧k<=(Zv b fs).length∧σ=hR p k (l.map WI) (l.map Wh)))
def gsX(b:BoxT)(fs:List Fact)(p:List Mono)(σ:ZE):Prop:=UE p b.v (Zv b fs)=none∧(σ=hNX p ∨ ∃ n xs ys,σ=hRX p n xs ys)
theorem Lb{b:BoxT}{fs:List Fact}(hv:Xd b=true):(Zv b fs).length<=20000:=by
 unfold Zv
 refine Nat.le_trans (List.length_filter_le _ _) ?_
 rw[V7 hv,Hw]
 exact Te hv
theorem Gc{b:BoxT}{fs:List Fact}{p:List Mono}{k:Nat}{q:List Int}(hq:(Zv b fs)[k]? = some q)(h:(Yq p (Zf b.v q)).2≠0):UE p b.v (Zv b fs)=none:=by
 have hk:=(List.getElem?_eq_some_iff.1 hq).1
 have hkp:=(List.getElem?_eq_some_iff.1 hq).2
 have e:Zv b fs=(Zv b fs).take k++q::(Zv b fs).drop (k+1):=by
  rw[<- hkp,<- List.drop_eq_getElem_cons hk,List.take_append_drop]
 rw[e]
 exact Tq h _
def Uv:YN:=fun n st q=>n=0∧H9 Xl 0 (.t 32) 177 [33,34] [(13,34)] Um QC Qd De st q
theorem b5a(b:BoxT)(fs:List Fact)(p:List Mono)(hp:YD p=true)(hv:Xd b=true)(hb:b.v.length<=1000)(k:Nat)(q:List Int)(σ:ZE)(hq:(Zv b fs)[k]? = some q)(h:gsI b fs p k σ):
  ZF Xl (fun n S' _=>n=99∧gsI b fs p (k+1) S'.heap) σ.length (fun st=>gsX b fs p st.heap) (.inl Um) [.seq (.ext 99 [])]
   ⟨Z4 77 0 [(5,.ptr 0 0),(6,.ptr 1 0),(7,.ptr 2 0),(9,.ptr 3 0),(10,.ptr 4 0),(11,.ptr 5 0),(13,.pv (enc (Zf b.v q))),(33,.pv (enc q)),(34,.pv (enc (Zf b.v q)))],σ⟩:=by
 have hk:=(List.getElem?_eq_some_iff.1 hq).1
 have hkp:=(List.getElem?_eq_some_iff.1 hq).2
 have h20:=Lb (fs:=fs) hv
 have ht:(Zv b fs).take (k+1)=(Zv b fs).take k++[q]:=by rw[List.take_succ_eq_append_getElem hk,hkp]
 have hvl:(Zf b.v q).length<=9223372036854775807:=by unfold Zf;rw[List.length_zipWith];omega
 have hpre:preT (fun x:List Mono×List Coef×Unit=>YD x.1&&Zr x.2.1) (encL (p,Zf b.v q,()))=true:=Zk (p,Zf b.v q,()) rfl (by rw[hp,Zz.2 hvl];rfl)
 obtain⟨l,hl,hσ⟩:=h
 have hlen:=UK hl
 rw[List.length_take]at hlen
 rcases hσ with ⟨rfl,rfl⟩|⟨h0,h1,rfl⟩
 ·apply b9c (G:=gsX b fs p) (fun n S' _=>n=99∧gsI b fs p (0+1) S'.heap) p q (Zf b.v q)
  refine⟨hpre,Zg (p,Zf b.v q,()) rfl ?_⟩
  refine WP (fun he=> ?_) fun he=> ?_
  ·have he:(Yq p (Zf b.v q)).2≠0:=by simpa using he
   exact⟨Gc hq he,.inl rfl⟩
  ·have he:(Yq p (Zf b.v q)).2=0:=by simpa using he
   have hs:=U0 he hl
   rw[<- ht]at hs
   have hnil:l=[]:=List.length_eq_zero_iff.1 (by omega)
   subst hnil
   exact⟨rfl,_,hs,.inr ⟨by omega,by omega,rfl⟩⟩
 ·have hlk:l.length=k:=by omega
  apply c0f (G:=gsX b fs p) (fun n S' _=>n=99∧gsI b fs p (k+1) S'.heap) p q (Zf b.v q) k (l.map WI) (l.map Wh)
  refine⟨hpre,Zg (p,Zf b.v q,()) rfl ?_⟩
  refine WP (fun he=> ?_) fun he=> ?_
  ·have he:(Yq p (Zf b.v q)).2≠0:=by simpa using he
   exact⟨Gc hq he,.inr ⟨k,_,_,rfl⟩⟩
  ·have he:(Yq p (Zf b.v q)).2=0:=by simpa using he
   have hs:=U0 he hl
   rw[<- ht]at hs
   refine⟨?_,rfl,_,hs,.inr ⟨by omega,by omega,?_⟩⟩
   ·show(k==k&&k==k&&k==k&&3==3&&3==3&&((l.map WI).map (enc:Int->PV)).length==k&&((l.map Wh).map (enc:Int->PV)).length==k&&decide (k<=1000000))=true
    rw[List.length_map,List.length_map,List.length_map,List.length_map,hlk,decide_eq_true (by omega)];simp
   ·unfold hR
    rw[List.map_append,List.map_append,List.map_append,List.map_append]
    rfl
theorem b8r(b:BoxT)(fs:List Fact)(p:List Mono)(l:List Int)(hl:l.length<=20000)(hr : ∀ x∈l,YR x=true)(R:Int×Int)(hR:R=Xr l): ∀ (d i:Nat),d+i=l.length ->
  AtM Xl Uv 0 (Za XC (Zi R)) Xq 0 77 [(6,.ptr 0 0),(7,.ptr 1 0),(9,.ptr 2 0),(10,.ptr 3 0),(16,.pv (.int .i64 ((l.map WI).take i).sum)),(17,.pv (.int .i64 ((l.map Wh).take i).sum)),(47,.pv (.int .i64 l.length)),(48,.pv (.int .i64 i))]
   [.obj (.box [.pv (.int .i64 0)]),.obj (.box [.pv (.int .i64 0)]),.obj (.box [.row 4 l.length 0 l.length]),.obj (.box [.row 5 l.length 0 l.length]),.obj (.row false 3 1 ((l.map WI).map enc)),.obj (.row false 3 1 ((l.map Wh).map enc))]:=by
 have hb1 : ∀ i,((l.map WI).take i).length*(-2147483648:Int)<=((l.map WI).take i).sum∧((l.map WI).take i).sum<=((l.map WI).take i).length*(2147483648:Int):=fun i=>JU (by
  intro x hx
  obtain⟨n,hn,rfl⟩:=List.mem_map.1 (List.mem_of_mem_take hx)
  exact EW (hr n hn))
 have hb2 : ∀ i,((l.map Wh).take i).length*(0:Int)<=((l.map Wh).take i).sum∧((l.map Wh).take i).sum<=((l.map Wh).take i).length*(2147483647:Int):=fun i=>JU (by
  intro x hx
  obtain⟨n,hn,rfl⟩:=List.mem_map.1 (List.mem_of_mem_take hx)
  exact a2w n)
 have hc1 : ∀ i,((l.map WI).take i).length<=20000:=fun i=>by rw[List.length_take,List.length_map];omega
 have hc2 : ∀ i,((l.map Wh).take i).length<=20000:=fun i=>by rw[List.length_take,List.length_map];omega
 intro d
 induction d with
 | zero=>
  intro i hi
  apply NB (G:=Zi R) Uv b fs p
  refine ZG (Yt (by omega)) ?_
  have e1:(l.map WI).take i=l.map WI:=List.take_of_length_le (by rw[List.length_map];omega)
  have e2:(l.map Wh).take i=l.map Wh:=List.take_of_length_le (by rw[List.length_map];omega)
  have a1:=hb1 i
  have a2:=hb2 i
  have a3:=hc1 i
  have a4:=hc2 i
  rw[e1]at a1 a3
  rw[e2]at a2 a4
  rw[e1,e2,c9n,b1f]
  have hh:WI (l.map Wh).sum=(l.map Wh).sum / 2147483648:=rfl
  have hw:IntKind.i64.wrap ((l.map WI).sum+WI (l.map Wh).sum)=(l.map WI).sum+WI (l.map Wh).sum:=WX (by rw[hh];omega) (by rw[hh];omega)
  rw[hw]
  refine Zg ([(l.map WI).sum+WI (l.map Wh).sum,Wh (l.map Wh).sum],[2147483648,1],()) rfl ?_
  rw[hR,<- Rj hl hr (H:=(l.map WI).sum+WI (l.map Wh).sum) (L:=Wh (l.map Wh).sum) rfl rfl]
  exact ZC rfl
 | succ d ih=>
  intro i hi
  have hlt:i<l.length:=by omega
  have hl1:i<(l.map WI).length:=by rw[List.length_map];omega
  have hl2:i<(l.map Wh).length:=by rw[List.length_map];omega
  apply NB (G:=Zi R) Uv b fs p
  apply ZA (Yi hlt)
  rw[Jm hl1,Jm hl2]
  refine⟨by simp;omega,by simp;omega,rfl,by simp;omega,by simp;omega,rfl,?_⟩
  rw[next (by omega)]
  show AtM Xl _ _ _ _ _ _ [_,_,_,_,(16,.pv (.int .i64 (IntKind.i64.wrap (((l.map WI).take i).sum+(l.map WI)[i])))),(17,.pv (.int .i64 (IntKind.i64.wrap (((l.map Wh).take i).sum+(l.map Wh)[i])))),_,_] _
  have s1:((l.map WI).take i).sum+(l.map WI)[i]=((l.map WI).take (i+1)).sum:=by rw[List.take_succ_eq_append_getElem hl1,List.sum_append];simp
  have s2:((l.map Wh).take i).sum+(l.map Wh)[i]=((l.map Wh).take (i+1)).sum:=by rw[List.take_succ_eq_append_getElem hl2,List.sum_append];simp
  have a1:=hb1 (i+1)
  have a2:=hb2 (i+1)
  have a3:=hc1 (i+1)
  have a4:=hc2 (i+1)
  rw[s1,s2,WX (by omega) (by omega),WX (by omega) (by omega)]
  exact ih (i+1) (by omega)
theorem b4b: ∀ x:BoxT×List Fact×List Mono×Unit,(Kh x.1 x.2.1 x.2.2.1&&(!Zx x.2.2.1||(Ww x.2.2.1).isEmpty))=true->Jt Xl Uv 0 (Za XC (Zi (Xx x.1 x.2.1 x.2.2.1))) Xq [] (Yn b8q (encL x)):=by
 rintro⟨b,fs,p,⟨⟩⟩ hp
 simp only[Kh,Bool.and_eq_true,decide_eq_true_eq]at hp
 obtain⟨⟨⟨⟨⟨h1,h2⟩,h3⟩,h4⟩,h5⟩,h6⟩:=hp
 have key:Zj b fs (Zx p) (Yw p)=0->Uv 0 ⟨Z4 77 0 [(5,.ptr 0 0),(6,.ptr 1 0),(7,.ptr 2 0),(9,.ptr 3 0),(10,.ptr 4 0),(11,.ptr 5 0),(13,.undef),(14,.undef),(15,.undef),(32,(.fn 177 [] [(.ptr 6 0),(.ptr 7 0)])),(34,.undef),(35,.undef),(36,.undef),(37,.undef),(38,.undef),(39,.undef),(40,.undef),(41,.undef),(42,.undef),(43,.undef),(44,.undef)],
   hN p++[(.obj (.box [(.pv (.sl 1 false (List.map enc b.v))),(.pv (.int .i64 b.m))])),(.obj (.box [(.pv (.sl 3 false (List.map enc fs)))]))]⟩ (fun x S'=>KZ Xl Uv 0 (Za XC (Zi (Xx b fs p))) Xq 0 x S'):=by
  intro h0
  obtain⟨hv,_⟩:=Xh _ _ _ _ h0
  have h20:=Lb (fs:=fs) hv
  refine⟨rfl,[6,7],[[enc b.v,.int .i64 b.m],[enc fs]],[5,6,7,9,10,11],[],⟨Z4 77 0 [(5,.ptr 0 0),(6,.ptr 1 0),(7,.ptr 2 0),(9,.ptr 3 0),(10,.ptr 4 0),(11,.ptr 5 0)],hN p⟩,gsI b fs p,gsX b fs p,rfl,by simp,rfl,?_,by kernel_rfl,DU hv h2 h4,⟨[],rfl,.inl ⟨rfl,rfl⟩⟩,?_,?_,?_⟩
  ·intro j l' ps hl hps
   match j with
   | 0=>cases hl;cases hps;rfl
   | 1=>cases hl;cases hps;rfl
   | j+2=>simp at hl
  ·intro k x σ hx hI
   rw[CK,List.getElem?_map]at hx
   obtain⟨q,hq,rfl⟩:=Option.map_eq_some_iff.1 hx
   have e:Sr [(13,34)] (C8 [33,34] ((QC (q,Zf b.v q)).map .pv) (Z4 77 0 [(5,.ptr 0 0),(6,.ptr 1 0),(7,.ptr 2 0),(9,.ptr 3 0),(10,.ptr 4 0),(11,.ptr 5 0)]))=Z4 77 0 [(5,.ptr 0 0),(6,.ptr 1 0),(7,.ptr 2 0),(9,.ptr 3 0),(10,.ptr 4 0),(11,.ptr 5 0),(13,.pv (enc (Zf b.v q))),(33,.pv (enc q)),(34,.pv (enc (Zf b.v q)))]:=by kernel_rfl
   have:=b5a b fs p h5 hv h4 k q σ hq hI
   rw[<- e]at this
   exact this
  ·intro σ hI
   rw[CK,List.length_map]at hI
   obtain⟨l,hl,hσ⟩:=hI
   rw[List.take_length]at hl
   have hT:Xx b fs p=Xr l:=by unfold Xx;rw[if_pos h0,hl]
   have hlen:=UK hl
   rcases hσ with ⟨e0,rfl⟩|⟨_,_,rfl⟩
   ·refine b4c (G:=Zi (Xx b fs p)) Uv b fs p ?_
    refine b2g (G:=Zi (Xx b fs p)) Uv b fs p (Zg ([0,0],[2147483648,1],()) rfl ?_)
    have:l=[]:=List.length_eq_zero_iff.1 (by omega)
    rw[hT,this]
    exact ZC (x:=((0:Int),(0:Int))) rfl
   ·refine b2w (G:=Zi (Xx b fs p)) Uv b fs p _ _ _ ?_
    have:=b8r b fs p l (by omega) (Cx hl) (Xx b fs p) hT l.length 0 (by omega)
    rw[hlen]at this
    exact this
  ·intro σ hX
   obtain⟨hn,hσ⟩:=hX
   have hT:Xx b fs p=(0,2):=by unfold Xx;rw[if_pos h0,hn]
   rcases hσ with rfl|⟨n,xs,ys,rfl⟩
   ·exact a4z (G:=Zi (Xx b fs p)) Uv b fs p (by rw[hT];exact ZC (x:=((0:Int),(2:Int))) rfl)
   ·exact a4h (G:=Zi (Xx b fs p)) Uv b fs p n xs ys (by rw[hT];exact ZC (x:=((0:Int),(2:Int))) rfl)
 have hbad:Zj b fs (Zx p) (Yw p)≠0->Zi (Xx b fs p) (.tup [.int .i64 0,.int .i64 (Zj b fs (Zx p) (Yw p))]):=by
  intro h0
  unfold Xx
  rw[if_neg h0]
  exact ZC (x:=((0:Int),Zj b fs (Zx p) (Yw p))) rfl
 have hn:Zj b fs (Zx p) (Yw p)=Zj b fs (Zx p) []:=by
  cases hv:Zx p
  ·unfold Zj;simp
  ·rw[hv]at h6
   rw[b1q (by simpa using h6)]
 rw[hn]at key hbad
 refine d1t Uv b fs p ⟨Zk (p,()) rfl h5,Zg (p,()) rfl ⟨?_,Zk (b,fs,Zx p,⟨⟩,()) rfl (by simp[h1,h2,h3]),Zg (b,fs,Zx p,⟨⟩,()) rfl ?_⟩⟩
 ·show(WN (List Mono) (enc p)&&YD (dec (enc p:PV))&&(!Zx (dec (enc p:PV))||(Ww (dec (enc p:PV))).isEmpty))=true
  rw[ZR,Enc.dec_enc,h5,h6];rfl
 ·show if (Zj b fs (Zx p) [] != 0)=true then _ else _
  by_cases h0:Zj b fs (Zx p) []=0
  ·rw[if_neg (by simp[h0])]
   refine⟨?_,key h0⟩
   show(WN (List Str) (enc b.v)&&WN (List Fact) (enc fs))=true
   rw[ZR,ZR];rfl
  ·rw[if_pos (by simpa using h0)]
   exact hbad h0
def UC:YN:=fun n st q=>n=0∧H9 Xk 0 (.t 32) 177 [33,34] [(13,34)] Qo QC Qd De st q
theorem b1t(b:BoxT)(fs:List Fact)(p:List Mono)(hp:YD p=true)(hv:Xd b=true)(hb:b.v.length<=1000)(k:Nat)(q:List Int)(σ:ZE)(hq:(Zv b fs)[k]? = some q)(h:gsI b fs p k σ):
  ZF Xk (fun n S' _=>n=99∧gsI b fs p (k+1) S'.heap) σ.length (fun st=>gsX b fs p st.heap) (.inl Qo) [.seq (.ext 99 [])]
   ⟨Z4 77 0 [(5,.ptr 0 0),(6,.ptr 1 0),(7,.ptr 2 0),(9,.ptr 3 0),(10,.ptr 4 0),(11,.ptr 5 0),(13,.pv (enc (Zf b.v q))),(33,.pv (enc q)),(34,.pv (enc (Zf b.v q)))],σ⟩:=by
 have hk:=(List.getElem?_eq_some_iff.1 hq).1
 have hkp:=(List.getElem?_eq_some_iff.1 hq).2
 have h20:=Lb (fs:=fs) hv
 have ht:(Zv b fs).take (k+1)=(Zv b fs).take k++[q]:=by rw[List.take_succ_eq_append_getElem hk,hkp]
 have hvl:(Zf b.v q).length<=9223372036854775807:=by unfold Zf;rw[List.length_zipWith];omega
 have hpre:preT (fun x:List Mono×List Coef×Unit=>YD x.1&&Zr x.2.1) (encL (p,Zf b.v q,()))=true:=Zk (p,Zf b.v q,()) rfl (by rw[hp,Zz.2 hvl];rfl)
 obtain⟨l,hl,hσ⟩:=h
 have hlen:=UK hl
 rw[List.length_take]at hlen
 rcases hσ with ⟨rfl,rfl⟩|⟨h0,h1,rfl⟩
 ·apply c4a (G:=gsX b fs p) (fun n S' _=>n=99∧gsI b fs p (0+1) S'.heap) p q (Zf b.v q)
  refine⟨hpre,Zg (p,Zf b.v q,()) rfl ?_⟩
  refine WP (fun he=> ?_) fun he=> ?_
  ·have he:(Yq p (Zf b.v q)).2≠0:=by simpa using he
   exact⟨Gc hq he,.inl rfl⟩
  ·have he:(Yq p (Zf b.v q)).2=0:=by simpa using he
   have hs:=U0 he hl
   rw[<- ht]at hs
   have hnil:l=[]:=List.length_eq_zero_iff.1 (by omega)
   subst hnil
   exact⟨rfl,_,hs,.inr ⟨by omega,by omega,rfl⟩⟩
 ·have hlk:l.length=k:=by omega
  apply c8n (G:=gsX b fs p) (fun n S' _=>n=99∧gsI b fs p (k+1) S'.heap) p q (Zf b.v q) k (l.map WI) (l.map Wh)
  refine⟨hpre,Zg (p,Zf b.v q,()) rfl ?_⟩
  refine WP (fun he=> ?_) fun he=> ?_
  ·have he:(Yq p (Zf b.v q)).2≠0:=by simpa using he
   exact⟨Gc hq he,.inr ⟨k,_,_,rfl⟩⟩
  ·have he:(Yq p (Zf b.v q)).2=0:=by simpa using he
   have hs:=U0 he hl
   rw[<- ht]at hs
   refine⟨?_,rfl,_,hs,.inr ⟨by omega,by omega,?_⟩⟩
   ·show(k==k&&k==k&&k==k&&3==3&&3==3&&((l.map WI).map (enc:Int->PV)).length==k&&((l.map Wh).map (enc:Int->PV)).length==k&&decide (k<=1000000))=true
    rw[List.length_map,List.length_map,List.length_map,List.length_map,hlk,decide_eq_true (by omega)];simp
   ·unfold hR
    rw[List.map_append,List.map_append,List.map_append,List.map_append]
    rfl
theorem c5b(b:BoxT)(fs:List Fact)(p:List Mono)(l:List Int)(hl:l.length<=20000)(hr : ∀ x∈l,YR x=true)(R:Int×Int)(hR:R=Xr l): ∀ (d i:Nat),d+i=l.length ->
  AtM Xk UC 0 (Za XG (Zi R)) XD 0 77 [(6,.ptr 0 0),(7,.ptr 1 0),(9,.ptr 2 0),(10,.ptr 3 0),(16,.pv (.int .i64 ((l.map WI).take i).sum)),(17,.pv (.int .i64 ((l.map Wh).take i).sum)),(47,.pv (.int .i64 l.length)),(48,.pv (.int .i64 i))]
   [.obj (.box [.pv (.int .i64 0)]),.obj (.box [.pv (.int .i64 0)]),.obj (.box [.row 4 l.length 0 l.length]),.obj (.box [.row 5 l.length 0 l.length]),.obj (.row false 3 1 ((l.map WI).map enc)),.obj (.row false 3 1 ((l.map Wh).map enc))]:=by
 have hb1 : ∀ i,((l.map WI).take i).length*(-2147483648:Int)<=((l.map WI).take i).sum∧((l.map WI).take i).sum<=((l.map WI).take i).length*(2147483648:Int):=fun i=>JU (by
  intro x hx
  obtain⟨n,hn,rfl⟩:=List.mem_map.1 (List.mem_of_mem_take hx)
  exact EW (hr n hn))
 have hb2 : ∀ i,((l.map Wh).take i).length*(0:Int)<=((l.map Wh).take i).sum∧((l.map Wh).take i).sum<=((l.map Wh).take i).length*(2147483647:Int):=fun i=>JU (by
  intro x hx
  obtain⟨n,hn,rfl⟩:=List.mem_map.1 (List.mem_of_mem_take hx)
  exact a2w n)
 have hc1 : ∀ i,((l.map WI).take i).length<=20000:=fun i=>by rw[List.length_take,List.length_map];omega
 have hc2 : ∀ i,((l.map Wh).take i).length<=20000:=fun i=>by rw[List.length_take,List.length_map];omega
 intro d
 induction d with
 | zero=>
  intro i hi
  apply MP (G:=Zi R) UC b fs p
  refine ZG (Yt (by omega)) ?_
  have e1:(l.map WI).take i=l.map WI:=List.take_of_length_le (by rw[List.length_map];omega)
  have e2:(l.map Wh).take i=l.map Wh:=List.take_of_length_le (by rw[List.length_map];omega)
  have a1:=hb1 i
  have a2:=hb2 i
  have a3:=hc1 i
  have a4:=hc2 i
  rw[e1]at a1 a3
  rw[e2]at a2 a4
  rw[e1,e2,c9n,b1f]
  have hh:WI (l.map Wh).sum=(l.map Wh).sum / 2147483648:=rfl
  have hw:IntKind.i64.wrap ((l.map WI).sum+WI (l.map Wh).sum)=(l.map WI).sum+WI (l.map Wh).sum:=WX (by rw[hh];omega) (by rw[hh];omega)
  rw[hw]
  refine Zg ([(l.map WI).sum+WI (l.map Wh).sum,Wh (l.map Wh).sum],[2147483648,1],()) rfl ?_
  rw[hR,<- Rj hl hr (H:=(l.map WI).sum+WI (l.map Wh).sum) (L:=Wh (l.map Wh).sum) rfl rfl]
  exact ZC rfl
 | succ d ih=>
  intro i hi
  have hlt:i<l.length:=by omega
  have hl1:i<(l.map WI).length:=by rw[List.length_map];omega
  have hl2:i<(l.map Wh).length:=by rw[List.length_map];omega
  apply MP (G:=Zi R) UC b fs p
  apply ZA (Yi hlt)
  rw[Jm hl1,Jm hl2]
  refine⟨by simp;omega,by simp;omega,rfl,by simp;omega,by simp;omega,rfl,?_⟩
  rw[next (by omega)]
  show AtM Xk _ _ _ _ _ _ [_,_,_,_,(16,.pv (.int .i64 (IntKind.i64.wrap (((l.map WI).take i).sum+(l.map WI)[i])))),(17,.pv (.int .i64 (IntKind.i64.wrap (((l.map Wh).take i).sum+(l.map Wh)[i])))),_,_] _
  have s1:((l.map WI).take i).sum+(l.map WI)[i]=((l.map WI).take (i+1)).sum:=by rw[List.take_succ_eq_append_getElem hl1,List.sum_append];simp
  have s2:((l.map Wh).take i).sum+(l.map Wh)[i]=((l.map Wh).take (i+1)).sum:=by rw[List.take_succ_eq_append_getElem hl2,List.sum_append];simp
  have a1:=hb1 (i+1)
  have a2:=hb2 (i+1)
  have a3:=hc1 (i+1)
  have a4:=hc2 (i+1)
  rw[s1,s2,WX (by omega) (by omega),WX (by omega) (by omega)]
  exact ih (i+1) (by omega)
theorem b3g: ∀ x:BoxT×List Fact×List Mono×Unit,(Kh x.1 x.2.1 x.2.2.1&&(Zx x.2.2.1&& !(Ww x.2.2.1).isEmpty))=true->Jt Xk UC 0 (Za XG (Zi (Xx x.1 x.2.1 x.2.2.1))) XD [] (Yn c3r (encL x)):=by
 rintro⟨b,fs,p,⟨⟩⟩ hp
 simp only[Kh,Bool.and_eq_true,decide_eq_true_eq]at hp
 obtain⟨⟨⟨⟨⟨h1,h2⟩,h3⟩,h4⟩,h5⟩,h6⟩:=hp
 have key:Zj b fs (Zx p) (Yw p)=0->UC 0 ⟨Z4 77 0 [(5,.ptr 0 0),(6,.ptr 1 0),(7,.ptr 2 0),(9,.ptr 3 0),(10,.ptr 4 0),(11,.ptr 5 0),(13,.undef),(14,.undef),(15,.undef),(32,(.fn 177 [] [(.ptr 6 0),(.ptr 7 0)])),(34,.undef),(35,.undef),(36,.undef),(37,.undef),(38,.undef),(39,.undef),(40,.undef),(41,.undef),(42,.undef),(43,.undef),(44,.undef)],
   hN p++[(.obj (.box [(.pv (.sl 1 false (List.map enc b.v))),(.pv (.int .i64 b.m))])),(.obj (.box [(.pv (.sl 3 false (List.map enc fs)))]))]⟩ (fun x S'=>KZ Xk UC 0 (Za XG (Zi (Xx b fs p))) XD 0 x S'):=by
  intro h0
  obtain⟨hv,_⟩:=Xh _ _ _ _ h0
  have h20:=Lb (fs:=fs) hv
  refine⟨rfl,[6,7],[[enc b.v,.int .i64 b.m],[enc fs]],[5,6,7,9,10,11],[],⟨Z4 77 0 [(5,.ptr 0 0),(6,.ptr 1 0),(7,.ptr 2 0),(9,.ptr 3 0),(10,.ptr 4 0),(11,.ptr 5 0)],hN p⟩,gsI b fs p,gsX b fs p,rfl,by simp,rfl,?_,by kernel_rfl,DU hv h2 h4,⟨[],rfl,.inl ⟨rfl,rfl⟩⟩,?_,?_,?_⟩
  ·intro j l' ps hl hps
   match j with
   | 0=>cases hl;cases hps;rfl
   | 1=>cases hl;cases hps;rfl
   | j+2=>simp at hl
  ·intro k x σ hx hI
   rw[CK,List.getElem?_map]at hx
   obtain⟨q,hq,rfl⟩:=Option.map_eq_some_iff.1 hx
   have e:Sr [(13,34)] (C8 [33,34] ((QC (q,Zf b.v q)).map .pv) (Z4 77 0 [(5,.ptr 0 0),(6,.ptr 1 0),(7,.ptr 2 0),(9,.ptr 3 0),(10,.ptr 4 0),(11,.ptr 5 0)]))=Z4 77 0 [(5,.ptr 0 0),(6,.ptr 1 0),(7,.ptr 2 0),(9,.ptr 3 0),(10,.ptr 4 0),(11,.ptr 5 0),(13,.pv (enc (Zf b.v q))),(33,.pv (enc q)),(34,.pv (enc (Zf b.v q)))]:=by kernel_rfl
   have:=b1t b fs p h5 hv h4 k q σ hq hI
   rw[<- e]at this
   exact this
  ·intro σ hI
   rw[CK,List.length_map]at hI
   obtain⟨l,hl,hσ⟩:=hI
   rw[List.take_length]at hl
   have hT:Xx b fs p=Xr l:=by unfold Xx;rw[if_pos h0,hl]
   have hlen:=UK hl
   rcases hσ with ⟨e0,rfl⟩|⟨_,_,rfl⟩
   ·refine b2i (G:=Zi (Xx b fs p)) UC b fs p ?_
    refine b3w (G:=Zi (Xx b fs p)) UC b fs p (Zg ([0,0],[2147483648,1],()) rfl ?_)
    have:l=[]:=List.length_eq_zero_iff.1 (by omega)
    rw[hT,this]
    exact ZC (x:=((0:Int),(0:Int))) rfl
   ·refine b4u (G:=Zi (Xx b fs p)) UC b fs p _ _ _ ?_
    have:=c5b b fs p l (by omega) (Cx hl) (Xx b fs p) hT l.length 0 (by omega)
    rw[hlen]at this
    exact this
  ·intro σ hX
   obtain⟨hn,hσ⟩:=hX
   have hT:Xx b fs p=(0,2):=by unfold Xx;rw[if_pos h0,hn]
   rcases hσ with rfl|⟨n,xs,ys,rfl⟩
   ·exact a7z (G:=Zi (Xx b fs p)) UC b fs p (by rw[hT];exact ZC (x:=((0:Int),(2:Int))) rfl)
   ·exact a5r (G:=Zi (Xx b fs p)) UC b fs p n xs ys (by rw[hT];exact ZC (x:=((0:Int),(2:Int))) rfl)
 have hbad:Zj b fs (Zx p) (Yw p)≠0->Zi (Xx b fs p) (.tup [.int .i64 0,.int .i64 (Zj b fs (Zx p) (Yw p))]):=by
  intro h0
  unfold Xx
  rw[if_neg h0]
  exact ZC (x:=((0:Int),Zj b fs (Zx p) (Yw p))) rfl
 have hpv:Zx p=true:=by simp at h6;exact h6.1
 have hne:(Ww p).isEmpty=false:=by simp only[Bool.and_eq_true,Bool.not_eq_true']at h6;exact h6.2
 refine d4j UC b fs p ⟨Zk (p,()) rfl h5,Zg (p,()) rfl ⟨?_,?_⟩⟩
 ·show(WN (List Mono) (enc p)&&YD (dec (enc p:PV))&&Zx (dec (enc p:PV))&& !(Ww (dec (enc p:PV))).isEmpty)=true
  rw[ZR,Enc.dec_enc,h5,hpv,hne];rfl
 ·have hmd:Qu (enc p)=p:=Enc.dec_enc p
  rw[hmd,Fe,Rk,Qr]
  have hnl:(Yw p).length<=480:=by
   have a:=b7f p
   have c:=M6 p (CV hpv).2 p.length (Nat.le_refl _)
   unfold Q9 at c
   rw[List.take_length]at c
   have:=(CV hpv).1
   unfold Ww at a
   omega
  refine⟨?_,?_⟩
  ·show(WN BoxT (enc b)&&WN (List Fact) (enc fs)&&9==9&&Px (Yw p).length (Yw p).length ((Yw p).map enc)&&decide ((Yw p).length<=1000)&& !((Yw p).map (enc:Str->PV)).isEmpty&&ZJ (dec (enc b:PV))&&Zl (dec (enc fs:PV))&&decide ((dec (enc fs:PV):List Fact).length<=100)&&decide (((Yw p).map (enc:Str->PV)).length<=1000))=true
   rw[List.length_map,ZR,ZR,Enc.dec_enc,Enc.dec_enc,Bd rfl (by omega),h1,h2,decide_eq_true h3,decide_eq_true (show(Yw p).length<=1000 by omega)]
   have:((Yw p).map (enc:Str->PV)).isEmpty=false:=by
    have:=c0i hne
    rw[List.isEmpty_eq_false_iff]at this ⊢
    intro h
    exact this (List.map_eq_nil_iff.1 h)
   rw[this];simp
  ·show if (Zj b fs (Zx p) (Yw p) != 0)=true then _ else _
   by_cases h0:Zj b fs (Zx p) (Yw p)=0
   ·rw[if_neg (by simp[h0])]
    refine⟨?_,key h0⟩
    show(WN (List Str) (enc b.v)&&WN (List Fact) (enc fs))=true
    rw[ZR,ZR];rfl
   ·rw[if_pos (by simpa using h0)]
    exact hbad h0
def xN:Str:=⟨[110]⟩
def xM:Str:=⟨[109]⟩
def Hr(a b c:Int):Fact:=⟨false,Wu (Wu ⟨c,[]⟩ xN a) xM b⟩
end Go.Pl
namespace Go.Pl
open Go.RowKit
open Enc (enc dec is)
open EncL (encL decL isL)
set_option maxRecDepth 100000
noncomputable def DI:IC:=Wn Proofs.Tryz.f115
def Dm:List IRes:=[(.cell true 3 6)]
abbrev a3m:Nat:=14
def Ah:ZU:=Xe [(91,.pure (preT (fun _:Int×Unit=>true)) (Zw (fun x:Int×Unit=>(⟨x.1,[]⟩:Lin)))),(89,.pure (preT (fun x:Lin×Str×Int×Unit=>decide (x.1.t.length<=1000000))) (Zw (fun x:Lin×Str×Int×Unit=>Wu x.1 x.2.1 x.2.2.1)))]
theorem b4n{G:PV->Prop}(a b c:Int)(h:Yk (fun(x:Int×Unit)=>Lin.mk x.1 []) [(.int .i64 c)] fun y0:Lin=>(Go.Pl.preT (fun(x:Lin×Str×Int×Unit)=>decide (List.length x.1.t<=1000000)) [(.agg [(.int .i64 y0.k),(.sl 2 false (List.map enc y0.t))]),(.str [(110:UInt8)]),(.int .i64 a)])=true∧(Yk (fun(x:Lin×Str×Int×Unit)=>Wu x.1 x.2.1 x.2.2.1) [(.agg [(.int .i64 y0.k),(.sl 2 false (List.map enc y0.t))]),(.str [(110:UInt8)]),(.int .i64 a)] fun y1:Lin=>(Go.Pl.preT (fun(x:Lin×Str×Int×Unit)=>decide (List.length x.1.t<=1000000)) [(.agg [(.int .i64 y1.k),(.sl 2 false (List.map enc y1.t))]),(.str [(109:UInt8)]),(.int .i64 b)])=true∧(Yk (fun(x:Lin×Str×Int×Unit)=>Wu x.1 x.2.1 x.2.2.1) [(.agg [(.int .i64 y1.k),(.sl 2 false (List.map enc y1.t))]),(.str [(109:UInt8)]),(.int .i64 b)] fun y2:Lin=>G ((.agg [(.bool false),(.int .i64 y2.k),(.sl 2 false (List.map enc y2.t))]))))):Ze Ah 0 (Za Dm G) DI [] (Yn 14 [enc a,enc b,enc c]):=Ze.tp (.lit (Yj (Lin) (.req (Yj (Lin) (.req (Yj (Lin) (.nil))))))) h (by kernel_rfl)
noncomputable def Cq:IC:=Wn Proofs.Tryz.f43
def Dr:List IRes:=[(.tmp 0)]
abbrev a3i:Nat:=62
def Ay:ZU:=Xe [(115,.pure (preT (fun _:Int×Int×Int×Unit=>true)) (Zw (fun x:Int×Int×Int×Unit=>Hr x.1 x.2.1 x.2.2.1))),(47,.pure (preT (fun x:BoxT×List Fact×Unit=>ZJ x.1&&Zl x.2.1&&decide (x.2.1.length<=100)&&decide (x.1.v.length<=1000))) (Zw (fun x:BoxT×List Fact×Unit=>Ak x.1 x.2.1))),(58,.pure (preT (fun x:BoxT×List Fact×Lin×Unit=>Yh x.1 x.2.1 x.2.2.1)) (Zw (fun x:BoxT×List Fact×Lin×Unit=>YM lessB x.1 x.2.1 x.2.2.1))),(57,.pure (preT (fun x:BoxT×List Fact×List Mono×Unit=>Kh x.1 x.2.1 x.2.2.1)) (Zw (fun x:BoxT×List Fact×List Mono×Unit=>Xx x.1 x.2.1 x.2.2.1))),(50,.pure (preT (fun x:BoxT×Unit=>ZJ x.1)) (Zw (fun x:BoxT×Unit=>Xd x.1)))]
theorem b2a{G:PV->Prop}(h:Yk (fun(x:Int×Int×Int×Unit)=>Hr x.1 x.2.1 x.2.2.1) [(.int .i64 1),(.int .i64 (-1)),(.int .i64 (-1))] fun y0:Fact=>(Go.Pl.preT (fun(x:BoxT×List Fact×Unit)=>ZJ x.1&&Zl x.2.1&&decide (List.length x.2.1<=100)&&decide (List.length x.1.v<=1000)) [(.agg [(.sl 1 false [(.str [(110:UInt8)]),(.str [(109:UInt8)])]),(.int .i64 3)]),(.sl 3 false [(.agg [(.bool y0.eq),(.int .i64 (Lin.k y0.l)),(.sl 2 false (List.map enc (Lin.t y0.l)))])])])=true∧(Yk (fun(x:BoxT×List Fact×Unit)=>Ak x.1 x.2.1) [(.agg [(.sl 1 false [(.str [(110:UInt8)]),(.str [(109:UInt8)])]),(.int .i64 3)]),(.sl 3 false [(.agg [(.bool y0.eq),(.int .i64 (Lin.k y0.l)),(.sl 2 false (List.map enc (Lin.t y0.l)))])])] fun y1:Int×Int=>Yk (fun(x:Int×Int×Int×Unit)=>Hr x.1 x.2.1 x.2.2.1) [(.int .i64 2),(.int .i64 1),(.int .i64 0)] fun y2:Fact=>(Go.Pl.preT (fun(x:BoxT×List Fact×Lin×Unit)=>Yh x.1 x.2.1 x.2.2.1) [(.agg [(.sl 1 false [(.str [(110:UInt8)]),(.str [(109:UInt8)])]),(.int .i64 3)]),(.sl 3 false [(.agg [(.bool y0.eq),(.int .i64 (Lin.k y0.l)),(.sl 2 false (List.map enc (Lin.t y0.l)))])]),(.agg [(.int .i64 (Lin.k y2.l)),(.sl 2 false (List.map enc (Lin.t y2.l)))])])=true∧(Yk (fun(x:BoxT×List Fact×Lin×Unit)=>YM lessB x.1 x.2.1 x.2.2.1) [(.agg [(.sl 1 false [(.str [(110:UInt8)]),(.str [(109:UInt8)])]),(.int .i64 3)]),(.sl 3 false [(.agg [(.bool y0.eq),(.int .i64 (Lin.k y0.l)),(.sl 2 false (List.map enc (Lin.t y0.l)))])]),(.agg [(.int .i64 (Lin.k y2.l)),(.sl 2 false (List.map enc (Lin.t y2.l)))])] fun y3:Int×Int=>(Go.Pl.preT (fun(x:BoxT×List Fact×List Mono×Unit)=>Kh x.1 x.2.1 x.2.2.1) [(.agg [(.sl 1 false [(.str [(110:UInt8)]),(.str [(109:UInt8)])]),(.int .i64 3)]),(.sl 3 false [(.agg [(.bool y0.eq),(.int .i64 (Lin.k y0.l)),(.sl 2 false (List.map enc (Lin.t y0.l)))])]),(.sl 2 false [(.agg [(.int .i64 1),(.sl 1 false [(.str [(109:UInt8)]),(.str [(110:UInt8)])])])])])=true∧(Yk (fun(x:BoxT×List Fact×List Mono×Unit)=>Xx x.1 x.2.1 x.2.2.1) [(.agg [(.sl 1 false [(.str [(110:UInt8)]),(.str [(109:UInt8)])]),(.int .i64 3)]),(.sl 3 false [(.agg [(.bool y0.eq),(.int .i64 (Lin.k y0.l)),(.sl 2 false (List.map enc (Lin.t y0.l)))])]),(.sl 2 false [(.agg [(.int .i64 1),(.sl 1 false [(.str [(109:UInt8)]),(.str [(110:UInt8)])])])])] fun y4:Int×Int=>if (y1.1==6)=true then if (y3.1==2)=true then if (y4.1==11)=true then if (y1.2==0)=true then if (y3.2==0)=true then if (y4.2==0)=true then Yk (fun(x:BoxT×Unit)=>Xd x.1) [(.agg [(.sl 1 false [(.str [(110:UInt8)]),(.str [(109:UInt8)])]),(.int .i64 3)])] fun y5:Bool=>G ((.bool y5))else(G ((.bool false)))else(G ((.bool false)))else(G ((.bool false)))else(G ((.bool false)))else(G ((.bool false)))else(G ((.bool false))))))):Ze Ay 0 (Za Dr G) Cq [] (Yn 62 []):=Ze.tp (ZK 2 (Yj (Fact) (ZK 3 (.req (Yj (Int×Int) (.lit (Yj (Fact) (ZK 2 (.req (Yj (Int×Int) (ZK 6 (.req (Yj (Int×Int) (.lit (.ask (ZK 3 (.ask (ZK 3 (.ask (ZK 3 (.ask (ZK 3 (.ask (ZK 3 (.ask (ZK 3 (Yj (Bool) (.lit (.nil)))) (Yo 2))) (Yo 5))) (Yo 8))) (Yo 11))) (Yo 14))) (Yo 17)))))))))))))))) h (by kernel_rfl)
end Go.Pl
namespace Go.Pl
open Go.RowKit
open Enc (enc dec is)
open EncL (encL decL isL)
theorem a2l: ∀ x:Int×Int×Int×Unit,(fun _:Int×Int×Int×Unit=>true) x=true->Ze Ah 0 (Za Dm (Zi (Hr x.1 x.2.1 x.2.2.1))) DI [] (Yn a3m (encL x)):=by
 rintro⟨a,b,c,⟨⟩⟩ -
 have h1:=Ro ⟨c,[]⟩ xN a
 refine b4n a b c (Zg (c,()) rfl ⟨Zk ((⟨c,[]⟩:Lin),xN,a,()) rfl rfl,Zg ((⟨c,[]⟩:Lin),xN,a,()) rfl ⟨Zk (Wu ⟨c,[]⟩ xN a,xM,b,()) rfl ?_,Zg (Wu ⟨c,[]⟩ xN a,xM,b,()) rfl ?_⟩⟩)
 ·exact decide_eq_true (Nat.le_trans h1 (show 0+1<=1000000 by decide))
 ·exact ZC (x:=Hr a b c) rfl
def BX:BoxT:=⟨[xN,xM],3⟩
def Bp:Fact:=⟨false,⟨-1,[⟨xM,-1⟩,⟨xN,1⟩]⟩⟩
def b4k:Lin:=⟨0,[⟨xM,1⟩,⟨xN,2⟩]⟩
def b7z:List Mono:=[⟨1,[xM,xN]⟩]
theorem d1z:Hr 1 (-1) (-1)=Bp:=by decide
theorem d7r:(Hr 2 1 0).l=b4k:=by decide
theorem a4q:Zv BX [Bp]=[[1,0],[2,0],[2,1],[3,0],[3,1],[3,2]]:=by kernel_rfl
theorem b9g:Zj BX [Bp] true [xM,xN]=0:=by kernel_rfl
theorem d2z:Zj BX [Bp] true []=0:=by kernel_rfl
theorem c3j:Ak BX [Bp]=(6,0):=by
 unfold Ak YQ
 rw[if_pos d2z,a4q];rfl
theorem b7n:YM lessB BX [Bp] b4k=(2,0):=by
 have h1:Zh b4k=true:=by kernel_rfl
 have h2:Zd b4k=[xM,xN]:=rfl
 unfold YM ZB
 rw[h1,h2,if_pos b9g,a4q]
 decide +kernel
theorem d6d:Xx BX [Bp] b7z=(11,0):=by
 have h1:Zx b7z=true:=by kernel_rfl
 have h2:Yw b7z=[xM,xN]:=by rw[Aa];kernel_rfl
 unfold Xx
 rw[h1,h2,if_pos b9g,a4q]
 decide +kernel
theorem a0e: ∀ a:Unit,(fun _:Unit=>true) a=true->Ze Ay 0 (Za Dr (Zi true)) Cq [] (Yn a3i (encL a)):=by
 rintro⟨⟩ -
 refine b2a (Zg ((1:Int),(-1:Int),(-1:Int),()) rfl ?_)
 simp only[d1z]
 refine⟨Zk (BX,[Bp],()) rfl (by decide),Zg (BX,[Bp],()) rfl (Zg ((2:Int),(1:Int),(0:Int),()) rfl ?_)⟩
 simp only[c3j,d7r]
 refine⟨Zk (BX,[Bp],b4k,()) rfl (by decide),Zg (BX,[Bp],b4k,()) rfl ?_⟩
 simp only[b7n]
 refine⟨Zk (BX,[Bp],b7z,()) rfl (by decide),Zg (BX,[Bp],b7z,()) rfl ?_⟩
 simp only[d6d]
 refine ZA rfl (ZA rfl (ZA rfl (ZA rfl (ZA rfl (ZA rfl (Zg (BX,()) rfl (ZW ?_)))))))
 kernel_rfl
end Go.Pl
namespace Go.Pl
open Go.RowKit
open Enc (enc dec is)
open EncL (encL decL isL)
set_option maxRecDepth 100000
end Go.Pl
namespace Go.Pl
open Go.RowKit
open Enc (enc dec is)
open EncL (encL decL isL)
theorem a8l{l:Lin}{n:Int}(h:JK l n=true)(hn:n<=1000):Z0 l=true∧(l.t.length:Int)<=n:=by
 unfold JK at h
 simp only[Bool.and_eq_true,decide_eq_true_eq]at h
 refine⟨?_,h.2⟩
 unfold Z0 Z9
 rw[Bool.and_eq_true]
 refine⟨decide_eq_true (by omega),List.all_eq_true.2 fun t ht=> ?_⟩
 have:=List.all_eq_true.1 h.1 t ht
 have:=of_decide_eq_true this
 exact decide_eq_true (by omega)
theorem NR{b:BoxT}{fs:List Fact}(h:QA b fs=true):b.v.length<=5∧fs.length<=6∧Zl fs=true∧(∀ f∈fs,JK f.l 8=true):=by
 unfold QA Sn at h
 simp only[Bool.and_eq_true,decide_eq_true_eq]at h
 obtain⟨⟨⟨h1,h2⟩,h3⟩,h4,h5⟩:=h
 have h4:=List.all_eq_true.1 h4
 refine⟨h1,h3,?_,h4⟩
 unfold Zl
 rw[Bool.and_eq_true]
 exact⟨decide_eq_true (by omega),List.all_eq_true.2 fun f hf=>(a8l (h4 f hf) (by omega)).1⟩
theorem b3k{b:BoxT}{fs:List Fact}(hb:ZJ b=true)(h:QA b fs=true):(ZJ b&&Zl fs&&decide (fs.length<=100)&&decide (b.v.length<=1000))=true:=by
 obtain⟨h1,h2,h3,_⟩:=NR h
 rw[hb,h3,decide_eq_true (by omega),decide_eq_true (by omega)];rfl
theorem d1p{b:BoxT}{fs:List Fact}(hv:Xd b=true){p:List Int}:p∈Zv b fs ↔ (p.length=b.v.length∧XV b.v fs p=true)∧ ∀ x∈p,0<=x∧x<=b.m:=by
 unfold Zv
 rw[V7 hv,List.mem_filter,CF]
 have:0<=b.m:=(VG.1 hv).2.2.2.1
 have e:(b.m.toNat:Int)=b.m:=by omega
 rw[e]
 exact⟨fun h=>⟨⟨h.1.1,h.2⟩,h.1.2⟩,fun h=>⟨⟨h.1.1,h.2⟩,h.1.2⟩⟩
end Go.Pl
namespace Go.Pl
open Go.RowKit
theorem a1m{l:Lin}(h:Zh l=true)(s:List UInt8): -1000000<=Yl l.t s∧Yl l.t s<=1000000:=by
 unfold Yl
 cases hf:l.t.find? fun t=>t.v.s==s with
 | none=>exact⟨by decide,by decide⟩
 | some t=>
  have:=(JX h (List.mem_of_find?_eq_some hf)).2.2
  exact this
theorem PE{n:Int}(h1 : -4000000000000<=n)(h2:n<=4000000000000):XI n=n:=Y2 (by omega) (by omega)
theorem AB(k:Int)(s:List UInt8): ∀ (x:List Coef) (l:Lin),Qt x->Qt l.t->XI (Yl l.t s)=Yl l.t s->Yl (x.foldl (fun o t=>Wu o t.v (XI (k*t.c))) l).t s=XI (Yl l.t s+XI (k*Yl x s))
 | [],l,_,_,h=>by
  rw[List.foldl_nil,QT,Int.mul_zero]
  have:XI 0=0:=by decide
  rw[this,Int.add_zero,h]
 | t::x,l,hx,hl,h=>by
  obtain⟨h1,h2⟩:=Wp.1 hx
  rw[List.foldl_cons,ZY]
  have e:=Nn (l:=l) t.v (Al (k*t.c)) hl s
  by_cases hs:t.v.s=s
  ·rw[if_pos hs]at e ⊢
   rw[hs]at e
   rw[AB k s x _ h2 (CP _ _ hl) (by rw[e,Al]),e,Ql (ts:=x) (fun u hu=>hs▸h1 u hu),Int.mul_zero]
   have:XI 0=0:=by decide
   rw[this,Int.add_zero,Al]
  ·rw[if_neg hs]at e ⊢
   rw[AB k s x _ h2 (CP _ _ hl) (by rw[e,h]),e]
theorem Ev(k:Int): ∀ (x:List Coef) (l:Lin),Qt l.t->Qt (x.foldl (fun o t=>Wu o t.v (XI (k*t.c))) l).t
 | [],l,h=>h
 | t::x,l,h=>Ev k x _ (CP _ _ h)
theorem b1o{k c:Int}(h1 : -1000001<=k)(h2:k<=1000001)(h3 : -1000000<=c)(h4:c<=1000000): -1000001000000<=k*c∧k*c<=1000001000000:=by
 have a:k*c<=1000001000000:=by
  rcases Int.le_total 0 c with h|h
  ·have:=Int.mul_le_mul_of_nonneg_right h2 h
   omega
  ·have:=Int.mul_le_mul_of_nonpos_right h1 h
   omega
 have b : -1000001000000<=k*c:=by
  rcases Int.le_total 0 c with h|h
  ·have:=Int.mul_le_mul_of_nonneg_right h1 h
   omega
  ·have:=Int.mul_le_mul_of_nonpos_right h2 h
   omega
 exact⟨b,a⟩
theorem a3f{a b:Lin}{k:Int}(ha:Zh a=true)(hb:Zh b=true)(h1 : -1000001<=k)(h2:k<=1000001)(s:List UInt8):Yl (Uy a b k).t s=Yl a.t s+k*Yl b.t s:=by
 have ra:=a1m ha s
 have rb:=a1m hb s
 have rm:=b1o h1 h2 rb.1 rb.2
 have e:Yl (Uy a b k).t s=XI (Yl a.t s+XI (k*Yl b.t s)):=AB k s b.t ⟨XI (a.k+XI (k*b.k)),a.t⟩ (BD hb) (show Qt a.t from BD ha) (show XI (Yl a.t s)=Yl a.t s from PE (by omega) (by omega))
 rw[e,PE (n:=k*Yl b.t s) (by omega) (by omega),PE (by omega) (by omega)]
theorem OW{a b:Lin}{k:Int}(ha:Zh a=true)(hb:Zh b=true)(h1 : -1000001<=k)(h2:k<=1000001):(Uy a b k).k=a.k+k*b.k:=by
 have ra:=Tj ha
 have rb:=Tj hb
 have rm:=b1o h1 h2 rb.1 rb.2
 rw[d2w,PE (n:=k*b.k) (by omega) (by omega),PE (by omega) (by omega)]
end Go.Pl
namespace Go.Pl
open Go.RowKit
open Enc (enc dec is)
open EncL (encL decL isL)
def ngT(t:Coef):Coef:=⟨t.v,-t.c⟩
def ngL(l:Lin):Lin:=⟨-l.k,l.t.map ngT⟩
theorem b1p(s:List UInt8): ∀ ts:List Coef,Yl (ts.map ngT) s = - Yl ts s
 | []=>rfl
 | t::ts=>by
  have ih:=b1p s ts
  rw[List.map_cons,ZY,ZY,ih]
  show(if t.v.s=s then -t.c else _)=_
  split <;> rfl
theorem a8j: ∀ ts:List Coef,G5 (ts.map ngT)=G5 ts
 | []=>rfl
 | [_]=>rfl
 | a::b::l=>by
  have ih:=a8j (b::l)
  show(decide (a.v.s<b.v.s)&&G5 ((b::l).map ngT))=_
  rw[ih];rfl
theorem RZ{l:Lin}(h:Zh l=true):Zh (ngL l)=true:=by
 have h1:=Tj h
 have h2:=GJ h
 have h3:= @JX l h
 simp only[Zh,Bool.and_eq_true,decide_eq_true_eq]at h ⊢
 refine⟨⟨⟨?_,?_⟩,?_⟩,?_⟩
 ·refine List.all_eq_true.2 fun t ht=> ?_
  obtain⟨u,hu,rfl⟩:=List.mem_map.1 ht
  obtain⟨a,b,c,d⟩:=h3 hu
  have e:YT (ngT u).c=true:=by
   show(decide (-1000000 <= -u.c)&&decide (-u.c<=1000000))=true
   rw[decide_eq_true (by omega),decide_eq_true (by omega)];rfl
  have e2:(ngT u).c≠0:=by show -u.c≠0;omega
  rw[e,decide_eq_true e2]
  show(ZH u.v&&true&&true)=true
  rw[a];rfl
 ·show G5 (l.t.map ngT)=true
  rw[a8j];exact h.1.1.2
 ·show(decide (-1000000 <= -l.k)&&decide (-l.k<=1000000))=true
  rw[decide_eq_true (by omega),decide_eq_true (by omega)];rfl
 ·show(l.t.map ngT).length<=12
  rw[List.length_map];exact h2
theorem c4w{l:Lin}(h:Zh l=true):Uy ⟨0,[]⟩ l (-1)=ngL l:=by
 have h0:Zh ⟨0,[]⟩=true:=by decide
 have hk:=OW (k:= -1) h0 h (by decide) (by decide)
 have ht:(Uy ⟨0,[]⟩ l (-1)).t=(ngL l).t:=by
  have hg:=RZ h
  refine Mc (Ev (-1) l.t _ .nil) (c3a fun t ht=>by cases ht) (BD hg) (c4e hg) fun s=> ?_
  rw[a3f h0 h (by decide) (by decide)]
  show Yl [] s + -1*Yl l.t s=Yl (l.t.map ngT) s
  rw[b1p,QT];omega
 have hk:(Uy ⟨0,[]⟩ l (-1)).k=(ngL l).k:=by
  rw[hk];show(0:Int) + -1*l.k = -l.k;omega
 cases hx:Uy ⟨0,[]⟩ l (-1)
 rw[hx]at hk ht
 cases hy:ngL l
 rw[hy]at hk ht
 exact congr (congrArg Lin.mk hk) ht
theorem b8t(l:Lin):Zd (ngL l)=Zd l:=by
 show(l.t.map ngT).map (·.v)=l.t.map (·.v)
 rw[List.map_map];rfl
theorem a2z(v:List Coef): ∀ (ts:List Coef) (n:Int),(∀ t∈ts,-1000000<=t.c∧t.c<=1000000)->n.natAbs+ts.length*1000000000000000<=9000000000000000000->(UF v n ts).2=0 ->
  UF v (-n) (ts.map ngT)=(-(UF v n ts).1,0)∧(UF v n ts).1.natAbs<=n.natAbs+ts.length*1000000000000000
 | [],n,_,_,_=>⟨rfl,by show n.natAbs<=_;simp⟩
 | t::r,n,h,hn,he=>by
  have ht:=h t (by simp)
  rw[List.length_cons]at hn ⊢
  rw[List.map_cons]
  rw[UF]at he ⊢
  rw[UF]
  show(match Wj v t.v with|none=>_|some x=>_:Int×Int)=_∧_
  cases hl:Wj v t.v with
  | none=>rw[hl]at he;cases he
  | some x=>
   rw[hl]at he
   simp only at he ⊢
   by_cases h1:x < -1000000000
   ·rw[if_pos h1]at he;cases he
   rw[if_neg h1]at he ⊢
   rw[if_neg h1]
   by_cases h2:x>1000000000
   ·rw[if_pos h2]at he;cases he
   rw[if_neg h2]at he ⊢
   rw[if_neg h2]
   have hp:(t.c*x).natAbs<=1000000*1000000000:=by rw[Int.natAbs_mul];exact Nat.mul_le_mul (by omega) (by omega)
   have e1:XI (t.c*x)=t.c*x:=WX (by omega) (by omega)
   have e2:XI (n+t.c*x)=n+t.c*x:=WX (by omega) (by omega)
   have e3:XI ((ngT t).c*x) = -(t.c*x):=by
    show XI (-t.c*x)=_
    rw[Int.neg_mul]
    exact WX (by omega) (by omega)
   have e4:XI (-n + -(t.c*x)) = -(n+t.c*x):=by
    have : -n + -(t.c*x) = -(n+t.c*x):=by omega
    rw[this]
    exact WX (by omega) (by omega)
   rw[e1,e2]at he ⊢
   rw[e3,e4]
   obtain⟨a,b⟩:=a2z v r (n+t.c*x) (fun u hu=>h u (by simp[hu])) (by omega) he
   exact⟨a,by omega⟩
theorem b0y{l:Lin}{v:List Coef}(h:Zh l=true)(he:(ZZ l v).2=0):(ZZ (ngL l) v).1 = -(ZZ l v).1∧(ZZ l v).1.natAbs<=20000000000000000:=by
 have h1:=Tj h
 have h2:=GJ h
 unfold ZZ at he ⊢
 rw[if_pos h]at he ⊢
 rw[if_pos (RZ h)]
 obtain⟨a,b⟩:=a2z v l.t l.k (fun t ht=>(JX h ht).2.2) (by omega) he
 refine⟨?_,by omega⟩
 show(UF v (-l.k) (l.t.map ngT)).1=_
 rw[a]
theorem b7g: ∀ {l:List Int} {z:Int},Vz lessB l=some z->z∈l∧ ∀ n∈l,z<=n:=by
 have key : ∀ (l:List Int) (x:Int),(l.foldl (fun z n=>if lessB n z then n else z) x=x∨l.foldl (fun z n=>if lessB n z then n else z) x∈l)∧l.foldl (fun z n=>if lessB n z then n else z) x<=x∧ ∀ n∈l,l.foldl (fun z n=>if lessB n z then n else z) x<=n:=by
  intro l
  induction l with
  | nil=>intro x;exact⟨.inl rfl,by simp,by simp⟩
  | cons y l ih=>
   intro x
   rw[List.foldl_cons]
   by_cases h:y<x
   ·have e:(if lessB y x=true then y else x)=y:=if_pos (decide_eq_true h)
    rw[e]
    obtain⟨a,b,c⟩:=ih y
    refine⟨.inr ?_,by omega,fun n hn=> ?_⟩
    ·rcases a with a|a
     ·rw[a];simp
     ·exact List.mem_cons_of_mem _ a
    ·rcases List.mem_cons.1 hn with rfl|hn
     ·exact b
     ·exact c n hn
   ·have e:(if lessB y x=true then y else x)=x:=if_neg (by simpa [lessB]using h)
    rw[e]
    obtain⟨a,b,c⟩:=ih x
    refine⟨?_,b,fun n hn=> ?_⟩
    ·rcases a with a|a
     ·exact .inl a
     ·exact .inr (List.mem_cons_of_mem _ a)
    ·rcases List.mem_cons.1 hn with rfl|hn
     ·omega
     ·exact c n hn
 intro l z h
 cases l with
 | nil=>cases h
 | cons x l=>
  have h:l.foldl (fun z n=>if lessB n z then n else z) x=z:=by simpa [Vz]using h
  obtain⟨a,b,c⟩:=key l x
  rw[h]at a b c
  refine⟨?_,fun n hn=> ?_⟩
  ·rcases a with a|a
   ·simp[a]
   ·exact List.mem_cons_of_mem _ a
  ·rcases List.mem_cons.1 hn with rfl|hn
   ·exact b
   ·exact c n hn
theorem a8t: ∀ (l:List Int),Vz lessB (l.map fun n=> -n)=(Vz moreB l).map fun n=> -n
 | []=>rfl
 | x::l=>by
  show some _=some _
  congr 1
  induction l generalizing x with
  | nil=>rfl
  | cons y l ih=>
   rw[List.map_cons,List.foldl_cons,List.foldl_cons]
   have e:(if lessB (-y) (-x)=true then -y else -x) = -(if moreB y x=true then y else x):=by
    by_cases h:y>x
    ·rw[if_pos (show lessB (-y) (-x)=true from decide_eq_true (by omega)),if_pos (show moreB y x=true from decide_eq_true h)]
    ·rw[if_neg (by simp[lessB];omega),if_neg (by simp[moreB];omega)]
   rw[e]
   exact ih _
theorem b2x{l:List Int}{z:Int}(h:Vz moreB l=some z):z∈l∧ ∀ n∈l,n<=z:=by
 have h1:Vz lessB (l.map fun n=> -n)=some (-z):=by rw[a8t,h];rfl
 obtain⟨a,b⟩:=b7g h1
 refine⟨?_,fun n hn=> ?_⟩
 ·obtain⟨y,hy,e⟩:=List.mem_map.1 a
  have:y=z:=by omega
  rwa [<- this]
 ·have : -z <= -n:=b (-n) (List.mem_map.2 ⟨n,hn,rfl⟩)
  omega
theorem c9s{b:BoxT}{fs:List Fact}{l:Lin}{i:Nat}(h:i<(Zv b fs).length)(h2:i<(ZB b fs l).length):(ZZ l (Zf b.v (Zv b fs)[i])).1=(ZB b fs l)[i]:=by
 have:(ZB b fs l)[i]? = some (ZZ l (Zf b.v (Zv b fs)[i])).1:=by unfold ZB;rw[List.getElem?_map,List.getElem?_eq_getElem h];rfl
 exact(List.getElem?_eq_some_iff.1 this).2.symm
theorem d4c{b:BoxT}{fs:List Fact}{l:Lin}(hr:Zj b fs (Zh l) (Zd l)=0):ZB b fs (ngL l)=(ZB b fs l).map fun n=> -n:=by
 have hl:=(Xh _ _ _ _ hr).2.2.1
 unfold ZB
 rw[List.map_map]
 refine List.map_congr_left fun p hp=> ?_
 exact(b0y hl (Ji hr hp)).1
theorem c0c{x y:Str}(h1 : ¬ x.s<y.s)(h2 : ¬ y.s<x.s):x=y:=by
 have:x.s=y.s:=by
  rcases List.le_iff_lt_or_eq.1 (List.not_lt.1 h2)with h|h
  ·exact absurd h h1
  ·exact h
 cases x;cases y;cases this;rfl
def a7u(a b:Int):Int×Int:=if YR a&&YR b&&YR (a+b)then(a+b,0)else(0,2)
def J3(b:BoxT)(fs:List Fact)(p:List Mono):Bool:=ZJ b&&Zl fs&&decide (fs.length<=100)&&decide (b.v.length<=1000)&&Ya p&&(!Xd b||decide ((Zv b fs).length<=10000))
end Go.Pl
namespace Go.Pl
open Go.RowKit
open Enc (enc dec is)
open EncL (encL decL isL)
set_option maxRecDepth 100000
noncomputable def UN:IC:=Wn Proofs.Tryz.f195
def U4:List IRes:=[(.tmp 4)]
abbrev b2n:Nat:=41
def Kg:ZU:=Xe []
theorem c6v{G:PV->Prop}(a b:List Str)(h:At Kg 0 (Za U4 G) UN 0 41 [(0,(Y3 a)),(1,(Y3 b)),(5,(Zc 0))] []):Ze Kg 0 (Za U4 G) UN [] (Yn 41 [enc a,enc b]):=Ze.tp (.nil) h (by kernel_rfl)
theorem BB{G:PV->Prop}(a b:List Str)(i:Int)(h:if (Rx a i)=true then if (Rx b i)=true then Vt a i 1∧(Xc a i fun y0:Str=>Vt b i 1∧(Xc b i fun y1:Str=>if (Op.bytesLess (PV.asStr (Yp y0)) (PV.asStr (Yp y1)))=true then G ((.int .i64 (-1)))else(Vt a i 1∧(Xc a i fun y2:Str=>Vt b i 1∧(Xc b i fun y3:Str=>if (!(Op.bytesLess (PV.asStr (Yp y2)) (PV.asStr (Yp y3))||PV.asStr (Yp y2)==PV.asStr (Yp y3)))=true then G ((.int .i64 1))else(At Kg 0 (Za U4 G) UN 0 41 [(0,(Y3 a)),(1,(Y3 b)),(5,(Zc (IntKind.wrap IntKind.i64 (i+1))))] []))))))else(G ((.int .i64 (IntKind.wrap IntKind.i64 ((↑(List.length (List.map enc a)):Int) - (↑(List.length (List.map enc b)):Int))))))else(G ((.int .i64 (IntKind.wrap IntKind.i64 ((↑(List.length (List.map enc a)):Int) - (↑(List.length (List.map enc b)):Int))))))):At Kg 0 (Za U4 G) UN 0 41 [(0,.pv (enc a)),(1,.pv (enc b)),(5,.pv (.int .i64 i))] []:=At.tp (.lit (.ask (ZK 5 (.ask (.req (Xa (Str) (.lit (.req (Xa (Str) (ZK 2 (.ask (.nil) (.req (Xa (Str) (.lit (.req (Xa (Str) (ZK 2 (.ask (.nil) (.lit (.nil)))))))))))))))) (.lit (.nil)))) (Yo 6))) h (by kernel_rfl)
noncomputable def UB:IC:=Wn Proofs.Tryz.f131
def VZ:List IRes:=[(.tmp 2)]
abbrev d7n:Nat:=86
def Kq:ZU:=Xe [(195,.pure (preT (fun x:List Str×List Str×Unit=>Zr x.1&&Zr x.2.1)) (Zw (fun x:List Str×List Str×Unit=>Wi x.1 x.2.1))),(84,.pure (preT (fun _:Str×Unit=>true)) (Zw (fun x:Str×Unit=>ZH x.1)))]
theorem e1f{G:PV->Prop}(p:List Mono)(h:if (decide ((↑(List.length (List.map enc p)):Int)>60))=true then G ((.bool false))else(At Kq 0 (Za VZ G) UB 0 86 [(0,(ZM p)),(3,(Zc 0))] [])):Ze Kq 0 (Za VZ G) UB [] (Yn 86 [enc p]):=Ze.tp (.lit (.ask (.nil) (.nil))) h (by kernel_rfl)
theorem c6e{G:PV->Prop}(p:List Mono)(i:Int)(h:if (Rx p i)=true then Vt p i 2∧(Xc p i fun y0:Mono=>if (PV.asInt (Yp y0)==0)=true then G ((.bool false))else(if (decide (PV.asInt (Yp y0)<(-1099511627776:Int)))=true then G ((.bool false))else(if (decide (PV.asInt (Yp y0)>1099511627776))=true then G ((.bool false))else(if (decide ((↑(List.length (PV.asXs (X9 y0))):Int)>8))=true then G ((.bool false))else(if (decide (i>0))=true then(decide (0<=IntKind.wrap IntKind.i64 (i - 1))&&decide (Int.toNat (IntKind.wrap IntKind.i64 (i - 1))<List.length (List.map enc p))&&Enc.sz Mono==2)=true∧(Xc p (IntKind.wrap IntKind.i64 (i - 1)) fun y1:Mono=>(Go.Pl.preT (fun(x:List Str×List Str×Unit)=>Zr x.1&&Zr x.2.1) [(.sl 1 false (SA y1)),(.sl 1 false (PV.asXs (X9 y0)))])=true∧(Yk (fun(x:List Str×List Str×Unit)=>Wi x.1 x.2.1) [(.sl 1 false (SA y1)),(.sl 1 false (PV.asXs (X9 y0)))] fun y2:Int=>if (decide (y2 ≥ 0))=true then G ((.bool false))else(At Kq 0 (Za VZ G) UB 1 86 [(0,(ZM p)),(3,(Zc i)),(4,(.ptr 0 0)),(5,(Zc 0))] [(.obj (.box [(Zc (PV.asInt (Yp y0))),(.pv (.sl 1 false (PV.asXs (X9 y0))))]))])))else(At Kq 0 (Za VZ G) UB 1 86 [(0,(ZM p)),(3,(Zc i)),(4,(.ptr 0 0)),(5,(Zc 0))] [(.obj (.box [(Zc (PV.asInt (Yp y0))),(.pv (.sl 1 false (PV.asXs (X9 y0))))]))]))))))else(G ((.bool true)))):At Kq 0 (Za VZ G) UB 0 86 [(0,.pv (enc p)),(3,.pv (.int .i64 i))] []:=At.tp (.lit (.ask (.req (Xa (Mono) (ZK 2 (.ask (Yo 18) (ZK 4 (.ask (Yo 14) (ZK 4 (.ask (Yo 10) (ZK 5 (.ask (Yo 5) (ZK 3 (.ask (ZK 4 (.req (Xa (Mono) (ZK 6 (.req (Yj (Int) (ZK 5 (.ask (.nil) (.nil))))))))) (Yo 13))))))))))))) (.nil))) h (by kernel_rfl)
theorem b8e{G:PV->Prop}(p:List Mono)(m:Mono)(i k:Int)(h:if (decide (k<(↑(List.length (List.map enc m.v)):Int)))=true then(decide (0<=k)&&decide (Int.toNat k<List.length (List.map enc m.v))&&Enc.sz Str==1)=true∧(Xc m.v k fun y0:Str=>Yk (fun(x:Str×Unit)=>ZH x.1) [(.str (PV.asStr (Yp y0)))] fun y1:Bool=>if (!y1)=true then G ((.bool false))else(if (decide (k>0))=true then(decide (0<=IntKind.wrap IntKind.i64 (k - 1))&&decide (Int.toNat (IntKind.wrap IntKind.i64 (k - 1))<List.length (List.map enc m.v))&&Enc.sz Str==1)=true∧(Xc m.v (IntKind.wrap IntKind.i64 (k - 1)) fun y2:Str=>(decide (0<=k)&&decide (Int.toNat k<List.length (List.map enc m.v))&&Enc.sz Str==1)=true∧(Xc m.v k fun y3:Str=>if (!(Op.bytesLess (PV.asStr (Yp y2)) (PV.asStr (Yp y3))||PV.asStr (Yp y2)==PV.asStr (Yp y3)))=true then G ((.bool false))else(At Kq 0 (Za VZ G) UB 1 86 [(0,(ZM p)),(3,(Zc i)),(4,(.ptr 0 0)),(5,(Zc (IntKind.wrap IntKind.i64 (k+1))))] [(.obj (.box [(Zc m.c),(Y3 m.v)]))])))else(At Kq 0 (Za VZ G) UB 1 86 [(0,(ZM p)),(3,(Zc i)),(4,(.ptr 0 0)),(5,(Zc (IntKind.wrap IntKind.i64 (k+1))))] [(.obj (.box [(Zc m.c),(Y3 m.v)]))])))else(At Kq 0 (Za VZ G) UB 0 86 [(0,(ZM p)),(3,(Zc (IntKind.wrap IntKind.i64 (i+1))))] [])):At Kq 0 (Za VZ G) UB 1 86 [(0,.pv (enc p)),(3,.pv (.int .i64 i)),(4,.ptr 0 0),(5,.pv (.int .i64 k))] [.obj (.box [.pv (.int .i64 m.c),.pv (enc m.v)])]:=At.tp (.lit (.ask (.req (Xa (Str) (ZK 2 (Yj (Bool) (.ask (Yo 5) (ZK 3 (.ask (ZK 5 (.req (Xa (Str) (ZK 6 (.req (Xa (Str) (ZK 7 (.ask (.nil) (.lit (.nil)))))))))) (Yo 16)))))))) (.lit (.nil)))) h (by kernel_rfl)
noncomputable def Yd:IC:=Wn Proofs.Tryz.f181
def Ye:List IRes:=[(.tmp 2)]
abbrev d1c:Nat:=86
def YL:ZU:=Xe [(131,.pure (preT (fun x:List Mono×Unit=>Ya x.1)) (Zw (fun x:List Mono×Unit=>Zx x.1)))]
theorem d6w{G:PV->Prop}(p:List Mono)(h:(Go.Pl.preT (fun(x:List Mono×Unit)=>Ya x.1) [(.sl 2 false (List.map enc p))])=true∧(Yk (fun(x:List Mono×Unit)=>Zx x.1) [(.sl 2 false (List.map enc p))] fun y0:Bool=>if (!y0)=true then G ((.sl 0 true []))else(At YL 0 (Za Ye G) Yd 0 86 [(0,(ZM p)),(3,(.pv (.sl 0 true []))),(4,(Zc 0))] []))):Ze YL 0 (Za Ye G) Yd [] (Yn 86 [enc p]):=Ze.tp (.req (Yj (Bool) (.ask (.nil) (.nil)))) h (by kernel_rfl)
theorem Ox{G:PV->Prop}(p:List Mono)(i:Int)(h:if (Rx p i)=true then At YL 0 (Za Ye G) Yd 1 86 [(0,(ZM p)),(3,(.pv (.sl 0 true []))),(4,(Zc i)),(5,(Zc 0))] []else(G ((.sl 0 true [])))):At YL 0 (Za Ye G) Yd 0 86 [(0,.pv (enc p)),(3,.pv (.sl 0 true [])),(4,.pv (.int .i64 i))] []:=At.tp (.lit (.ask (.nil) (.nil))) h (by kernel_rfl)
theorem a2p{G:PV->Prop}(p:List Mono)(i:Int)(n:Nat)(xs:List Str)(h:if (Rx p i)=true then At YL 0 (Za Ye G) Yd 1 86 [(0,(ZM p)),(3,(.row 0 n 0 n)),(4,(Zc i)),(5,(Zc 0))] [(.obj (.row false 9 1 (List.map enc xs)))]else((List.length (List.map enc xs)==n)=true∧(G ((.sl 1 false (List.drop 0 (List.take n (List.map enc xs)))))))):At YL 0 (Za Ye G) Yd 0 86 [(0,.pv (enc p)),(3,.row 0 n 0 n),(4,.pv (.int .i64 i))] [.obj (.row false 9 1 (xs.map enc))]:=At.tp (.lit (.ask (.nil) (.req (.nil)))) h (by kernel_rfl)
theorem a0i{G:PV->Prop}(p:List Mono)(i k:Int)(h:Vt p i 2∧(Xc p i fun y0:Mono=>if (decide (k<(↑(List.length (SA y0)):Int)))=true then At YL 0 (Za Ye G) Yd 2 86 [(0,(ZM p)),(3,(.pv (.sl 0 true []))),(4,(Zc i)),(5,(Zc k)),(6,(Zc 0))] []else(At YL 0 (Za Ye G) Yd 0 86 [(0,(ZM p)),(3,(.pv (.sl 0 true []))),(4,(Zc (IntKind.wrap IntKind.i64 (i+1))))] []))):At YL 0 (Za Ye G) Yd 1 86 [(0,.pv (enc p)),(3,.pv (.sl 0 true [])),(4,.pv (.int .i64 i)),(5,.pv (.int .i64 k))] []:=At.tp (.req (Xa (Mono) (ZK 2 (.ask (.nil) (.lit (.nil)))))) h (by kernel_rfl)
theorem a1g{G:PV->Prop}(p:List Mono)(i k:Int)(n:Nat)(xs:List Str)(h:Vt p i 2∧(Xc p i fun y0:Mono=>if (decide (k<(↑(List.length (SA y0)):Int)))=true then At YL 0 (Za Ye G) Yd 2 86 [(0,(ZM p)),(3,(.row 0 n 0 n)),(4,(Zc i)),(5,(Zc k)),(6,(Zc 0))] [(.obj (.row false 9 1 (List.map enc xs)))]else(At YL 0 (Za Ye G) Yd 0 86 [(0,(ZM p)),(3,(.row 0 n 0 n)),(4,(Zc (IntKind.wrap IntKind.i64 (i+1))))] [(.obj (.row false 9 1 (List.map enc xs)))]))):At YL 0 (Za Ye G) Yd 1 86 [(0,.pv (enc p)),(3,.row 0 n 0 n),(4,.pv (.int .i64 i)),(5,.pv (.int .i64 k))] [.obj (.row false 9 1 (xs.map enc))]:=At.tp (.req (Xa (Mono) (ZK 2 (.ask (.nil) (.lit (.nil)))))) h (by kernel_rfl)
theorem c0h{G:PV->Prop}(p:List Mono)(i k:Int)(h:Vt p i 2∧(Xc p i fun y0:Mono=>(decide (0<=k)&&decide (Int.toNat k<List.length (SA y0))&&1==1)=true∧((Jz [Sh.str] (PV.cells (Vs y0 k)))=true∧(At YL 0 (Za Ye G) Yd 1 86 [(0,(ZM p)),(3,(.row 0 1 0 1)),(4,(Zc i)),(5,(Zc (IntKind.wrap IntKind.i64 (k+1))))] [(.obj (.row false 9 1 [(.str (PV.asStr (List.getD (PV.cells (Vs y0 k)) 0 default)))]))])))):At YL 0 (Za Ye G) Yd 2 86 [(0,.pv (enc p)),(3,.pv (.sl 0 true [])),(4,.pv (.int .i64 i)),(5,.pv (.int .i64 k)),(6,.pv (.int .i64 0))] []:=At.tp (ZK 36 (.req (Xa (Mono) (.lit (.req (.keep (.req (Yo 7)))))))) h (by kernel_rfl)
theorem ER{G:PV->Prop}(p:List Mono)(i k j:Int)(n:Nat)(xs:List Str)(h:if (decide (j<(↑(n - 0):Int)))=true then(decide (0<=j)&&decide (0+Int.toNat j<n)&&List.length (List.map enc xs)==n)=true∧((List.length (List.map enc xs)==n&&decide (0+Int.toNat j<List.length (List.map enc xs)))=true∧((Jz [Sh.str] (PV.cells (List.getD (List.map enc xs) (0+Int.toNat j) default)))=true∧(Vt p i 2∧(Xc p i fun y0:Mono=>(decide (0<=k)&&decide (Int.toNat k<List.length (SA y0))&&1==1)=true∧((Jz [Sh.str] (PV.cells (Vs y0 k)))=true∧(if (Op.bytesLess (PV.asStr (List.getD (PV.cells (List.getD (List.map enc xs) (0+Int.toNat j) default)) 0 default)) (PV.asStr (List.getD (PV.cells (Vs y0 k)) 0 default)))=true then At YL 0 (Za Ye G) Yd 2 86 [(0,(ZM p)),(3,(.row 0 n 0 n)),(4,(Zc i)),(5,(Zc k)),(6,(Zc (IntKind.wrap IntKind.i64 (j+1))))] [(.obj (.row false 9 1 (List.map enc xs)))]else(if (j==(↑(n - 0):Int))=true then(true&&decide (0<=j)&&decide (0<=Int.toNat j)&&decide (0+Int.toNat j<=n)&&List.length (List.map enc xs)==n)=true∧((List.length (List.map enc xs)==n)=true∧((List.length ([]:List PV)==0&&0==0&&decide ((0+List.length (List.drop (0+0) (List.take (0+Int.toNat j) (List.map enc xs))))*16<=1099511627776)&&decide (0+List.length (List.drop (0+0) (List.take (0+Int.toNat j) (List.map enc xs)))<=1099511627776))=true∧(Vt p i 2∧(Xc p i fun y1:Mono=>(decide (0<=k)&&decide (Int.toNat k<List.length (SA y1))&&1==1)=true∧((Jz [Sh.str] (PV.cells (Vs y1 k)))=true∧((List.length (([]:List PV)++List.drop (0+0) (List.take (0+Int.toNat j) (List.map enc xs)))==0+List.length (List.drop (0+0) (List.take (0+Int.toNat j) (List.map enc xs)))&&0+List.length (List.drop (0+0) (List.take (0+Int.toNat j) (List.map enc xs)))==0+List.length (List.drop (0+0) (List.take (0+Int.toNat j) (List.map enc xs)))&&decide ((0+List.length (List.drop (0+0) (List.take (0+Int.toNat j) (List.map enc xs)))+List.length (List.drop 0 (List.take 1 [Sh.co Sh.str (List.getD (PV.cells (Vs y1 k)) 0 default)])))*16<=1099511627776)&&decide (0+List.length (List.drop (0+0) (List.take (0+Int.toNat j) (List.map enc xs)))+List.length (List.drop 0 (List.take 1 [Sh.co Sh.str (List.getD (PV.cells (Vs y1 k)) 0 default)]))<=1099511627776))=true∧((decide (0<=j)&&true&&decide (Int.toNat j<=n - 0)&&decide (0+(n - 0)<=n)&&List.length (List.map enc xs)==n)=true∧((List.length (List.map enc xs)==n)=true∧((List.length (([]:List PV)++List.drop (0+0) (List.take (0+Int.toNat j) (List.map enc xs))++List.drop 0 (List.take 1 [Sh.co Sh.str (List.getD (PV.cells (Vs y1 k)) 0 default)]))==0+List.length (List.drop (0+0) (List.take (0+Int.toNat j) (List.map enc xs)))+List.length (List.drop 0 (List.take 1 [Sh.co Sh.str (List.getD (PV.cells (Vs y1 k)) 0 default)]))&&0+List.length (List.drop (0+0) (List.take (0+Int.toNat j) (List.map enc xs)))+List.length (List.drop 0 (List.take 1 [Sh.co Sh.str (List.getD (PV.cells (Vs y1 k)) 0 default)]))==0+List.length (List.drop (0+0) (List.take (0+Int.toNat j) (List.map enc xs)))+List.length (List.drop 0 (List.take 1 [Sh.co Sh.str (List.getD (PV.cells (Vs y1 k)) 0 default)]))&&decide ((0+List.length (List.drop (0+0) (List.take (0+Int.toNat j) (List.map enc xs)))+List.length (List.drop 0 (List.take 1 [Sh.co Sh.str (List.getD (PV.cells (Vs y1 k)) 0 default)]))+List.length (List.drop (0+Int.toNat j) (List.take (0+(n - 0)) (List.map enc xs))))*16<=1099511627776)&&decide (0+List.length (List.drop (0+0) (List.take (0+Int.toNat j) (List.map enc xs)))+List.length (List.drop 0 (List.take 1 [Sh.co Sh.str (List.getD (PV.cells (Vs y1 k)) 0 default)]))+List.length (List.drop (0+Int.toNat j) (List.take (0+(n - 0)) (List.map enc xs)))<=1099511627776))=true∧(At YL 0 (Za Ye G) Yd 1 86 [(0,(ZM p)),(3,(.row 0 (0+List.length (List.drop (0+0) (List.take (0+Int.toNat j) (List.map enc xs)))+List.length (List.drop 0 (List.take 1 [Sh.co Sh.str (List.getD (PV.cells (Vs y1 k)) 0 default)]))+List.length (List.drop (0+Int.toNat j) (List.take (0+(n - 0)) (List.map enc xs)))) 0 (0+List.length (List.drop (0+0) (List.take (0+Int.toNat j) (List.map enc xs)))+List.length (List.drop 0 (List.take 1 [Sh.co Sh.str (List.getD (PV.cells (Vs y1 k)) 0 default)]))+List.length (List.drop (0+Int.toNat j) (List.take (0+(n - 0)) (List.map enc xs)))))),(4,(Zc i)),(5,(Zc (IntKind.wrap IntKind.i64 (k+1))))] [(.obj (.row false 9 1 (([]:List PV)++List.drop (0+0) (List.take (0+Int.toNat j) (List.map enc xs))++List.drop 0 (List.take 1 [Sh.co Sh.str (List.getD (PV.cells (Vs y1 k)) 0 default)])++List.drop (0+Int.toNat j) (List.take (0+(n - 0)) (List.map enc xs)))))]))))))))))else((decide (0<=j)&&decide (0+Int.toNat j<n)&&List.length (List.map enc xs)==n)=true∧((List.length (List.map enc xs)==n&&decide (0+Int.toNat j<List.length (List.map enc xs)))=true∧((Jz [Sh.str] (PV.cells (List.getD (List.map enc xs) (0+Int.toNat j) default)))=true∧(Vt p i 2∧(Xc p i fun y2:Mono=>(decide (0<=k)&&decide (Int.toNat k<List.length (SA y2))&&1==1)=true∧((Jz [Sh.str] (PV.cells (Vs y2 k)))=true∧(if (!PV.asStr (List.getD (PV.cells (List.getD (List.map enc xs) (0+Int.toNat j) default)) 0 default)==PV.asStr (List.getD (PV.cells (Vs y2 k)) 0 default))=true then(true&&decide (0<=j)&&decide (0<=Int.toNat j)&&decide (0+Int.toNat j<=n)&&List.length (List.map enc xs)==n)=true∧((List.length (List.map enc xs)==n)=true∧((List.length ([]:List PV)==0&&0==0&&decide ((0+List.length (List.drop (0+0) (List.take (0+Int.toNat j) (List.map enc xs))))*16<=1099511627776)&&decide (0+List.length (List.drop (0+0) (List.take (0+Int.toNat j) (List.map enc xs)))<=1099511627776))=true∧(Vt p i 2∧(Xc p i fun y3:Mono=>(decide (0<=k)&&decide (Int.toNat k<List.length (SA y3))&&1==1)=true∧((Jz [Sh.str] (PV.cells (Vs y3 k)))=true∧((List.length (([]:List PV)++List.drop (0+0) (List.take (0+Int.toNat j) (List.map enc xs)))==0+List.length (List.drop (0+0) (List.take (0+Int.toNat j) (List.map enc xs)))&&0+List.length (List.drop (0+0) (List.take (0+Int.toNat j) (List.map enc xs)))==0+List.length (List.drop (0+0) (List.take (0+Int.toNat j) (List.map enc xs)))&&decide ((0+List.length (List.drop (0+0) (List.take (0+Int.toNat j) (List.map enc xs)))+List.length (List.drop 0 (List.take 1 [Sh.co Sh.str (List.getD (PV.cells (Vs y3 k)) 0 default)])))*16<=1099511627776)&&decide (0+List.length (List.drop (0+0) (List.take (0+Int.toNat j) (List.map enc xs)))+List.length (List.drop 0 (List.take 1 [Sh.co Sh.str (List.getD (PV.cells (Vs y3 k)) 0 default)]))<=1099511627776))=true∧((decide (0<=j)&&true&&decide (Int.toNat j<=n - 0)&&decide (0+(n - 0)<=n)&&List.length (List.map enc xs)==n)=true∧((List.length (List.map enc xs)==n)=true∧((List.length (([]:List PV)++List.drop (0+0) (List.take (0+Int.toNat j) (List.map enc xs))++List.drop 0 (List.take 1 [Sh.co Sh.str (List.getD (PV.cells (Vs y3 k)) 0 default)]))==0+List.length (List.drop (0+0) (List.take (0+Int.toNat j) (List.map enc xs)))+List.length (List.drop 0 (List.take 1 [Sh.co Sh.str (List.getD (PV.cells (Vs y3 k)) 0 default)]))&&0+List.length (List.drop (0+0) (List.take (0+Int.toNat j) (List.map enc xs)))+List.length (List.drop 0 (List.take 1 [Sh.co Sh.str (List.getD (PV.cells (Vs y3 k)) 0 default)]))==0+List.length (List.drop (0+0) (List.take (0+Int.toNat j) (List.map enc xs)))+List.length (List.drop 0 (List.take 1 [Sh.co Sh.str (List.getD (PV.cells (Vs y3 k)) 0 default)]))&&decide ((0+List.length (List.drop (0+0) (List.take (0+Int.toNat j) (List.map enc xs)))+List.length (List.drop 0 (List.take 1 [Sh.co Sh.str (List.getD (PV.cells (Vs y3 k)) 0 default)]))+List.length (List.drop (0+Int.toNat j) (List.take (0+(n - 0)) (List.map enc xs))))*16<=1099511627776)&&decide (0+List.length (List.drop (0+0) (List.take (0+Int.toNat j) (List.map enc xs)))+List.length (List.drop 0 (List.take 1 [Sh.co Sh.str (List.getD (PV.cells (Vs y3 k)) 0 default)]))+List.length (List.drop (0+Int.toNat j) (List.take (0+(n - 0)) (List.map enc xs)))<=1099511627776))=true∧(At YL 0 (Za Ye G) Yd 1 86 [(0,(ZM p)),(3,(.row 0 (0+List.length (List.drop (0+0) (List.take (0+Int.toNat j) (List.map enc xs)))+List.length (List.drop 0 (List.take 1 [Sh.co Sh.str (List.getD (PV.cells (Vs y3 k)) 0 default)]))+List.length (List.drop (0+Int.toNat j) (List.take (0+(n - 0)) (List.map enc xs)))) 0 (0+List.length (List.drop (0+0) (List.take (0+Int.toNat j) (List.map enc xs)))+List.length (List.drop 0 (List.take 1 [Sh.co Sh.str (List.getD (PV.cells (Vs y3 k)) 0 default)]))+List.length (List.drop (0+Int.toNat j) (List.take (0+(n - 0)) (List.map enc xs)))))),(4,(Zc i)),(5,(Zc (IntKind.wrap IntKind.i64 (k+1))))] [(.obj (.row false 9 1 (([]:List PV)++List.drop (0+0) (List.take (0+Int.toNat j) (List.map enc xs))++List.drop 0 (List.take 1 [Sh.co Sh.str (List.getD (PV.cells (Vs y3 k)) 0 default)])++List.drop (0+Int.toNat j) (List.take (0+(n - 0)) (List.map enc xs)))))]))))))))))else(At YL 0 (Za Ye G) Yd 1 86 [(0,(ZM p)),(3,(.row 0 n 0 n)),(4,(Zc i)),(5,(Zc (IntKind.wrap IntKind.i64 (k+1))))] [(.obj (.row false 9 1 (List.map enc xs)))])))))))))))))))else(if (j==(↑(n - 0):Int))=true then(true&&decide (0<=j)&&decide (0<=Int.toNat j)&&decide (0+Int.toNat j<=n)&&List.length (List.map enc xs)==n)=true∧((List.length (List.map enc xs)==n)=true∧((List.length ([]:List PV)==0&&0==0&&decide ((0+List.length (List.drop (0+0) (List.take (0+Int.toNat j) (List.map enc xs))))*16<=1099511627776)&&decide (0+List.length (List.drop (0+0) (List.take (0+Int.toNat j) (List.map enc xs)))<=1099511627776))=true∧(Vt p i 2∧(Xc p i fun y4:Mono=>(decide (0<=k)&&decide (Int.toNat k<List.length (SA y4))&&1==1)=true∧((Jz [Sh.str] (PV.cells (Vs y4 k)))=true∧((List.length (([]:List PV)++List.drop (0+0) (List.take (0+Int.toNat j) (List.map enc xs)))==0+List.length (List.drop (0+0) (List.take (0+Int.toNat j) (List.map enc xs)))&&0+List.length (List.drop (0+0) (List.take (0+Int.toNat j) (List.map enc xs)))==0+List.length (List.drop (0+0) (List.take (0+Int.toNat j) (List.map enc xs)))&&decide ((0+List.length (List.drop (0+0) (List.take (0+Int.toNat j) (List.map enc xs)))+List.length (List.drop 0 (List.take 1 [Sh.co Sh.str (List.getD (PV.cells (Vs y4 k)) 0 default)])))*16<=1099511627776)&&decide (0+List.length (List.drop (0+0) (List.take (0+Int.toNat j) (List.map enc xs)))+List.length (List.drop 0 (List.take 1 [Sh.co Sh.str (List.getD (PV.cells (Vs y4 k)) 0 default)]))<=1099511627776))=true∧((decide (0<=j)&&true&&decide (Int.toNat j<=n - 0)&&decide (0+(n - 0)<=n)&&List.length (List.map enc xs)==n)=true∧((List.length (List.map enc xs)==n)=true∧((List.length (([]:List PV)++List.drop (0+0) (List.take (0+Int.toNat j) (List.map enc xs))++List.drop 0 (List.take 1 [Sh.co Sh.str (List.getD (PV.cells (Vs y4 k)) 0 default)]))==0+List.length (List.drop (0+0) (List.take (0+Int.toNat j) (List.map enc xs)))+List.length (List.drop 0 (List.take 1 [Sh.co Sh.str (List.getD (PV.cells (Vs y4 k)) 0 default)]))&&0+List.length (List.drop (0+0) (List.take (0+Int.toNat j) (List.map enc xs)))+List.length (List.drop 0 (List.take 1 [Sh.co Sh.str (List.getD (PV.cells (Vs y4 k)) 0 default)]))==0+List.length (List.drop (0+0) (List.take (0+Int.toNat j) (List.map enc xs)))+List.length (List.drop 0 (List.take 1 [Sh.co Sh.str (List.getD (PV.cells (Vs y4 k)) 0 default)]))&&decide ((0+List.length (List.drop (0+0) (List.take (0+Int.toNat j) (List.map enc xs)))+List.length (List.drop 0 (List.take 1 [Sh.co Sh.str (List.getD (PV.cells (Vs y4 k)) 0 default)]))+List.length (List.drop (0+Int.toNat j) (List.take (0+(n - 0)) (List.map enc xs))))*16<=1099511627776)&&decide (0+List.length (List.drop (0+0) (List.take (0+Int.toNat j) (List.map enc xs)))+List.length (List.drop 0 (List.take 1 [Sh.co Sh.str (List.getD (PV.cells (Vs y4 k)) 0 default)]))+List.length (List.drop (0+Int.toNat j) (List.take (0+(n - 0)) (List.map enc xs)))<=1099511627776))=true∧(At YL 0 (Za Ye G) Yd 1 86 [(0,(ZM p)),(3,(.row 0 (0+List.length (List.drop (0+0) (List.take (0+Int.toNat j) (List.map enc xs)))+List.length (List.drop 0 (List.take 1 [Sh.co Sh.str (List.getD (PV.cells (Vs y4 k)) 0 default)]))+List.length (List.drop (0+Int.toNat j) (List.take (0+(n - 0)) (List.map enc xs)))) 0 (0+List.length (List.drop (0+0) (List.take (0+Int.toNat j) (List.map enc xs)))+List.length (List.drop 0 (List.take 1 [Sh.co Sh.str (List.getD (PV.cells (Vs y4 k)) 0 default)]))+List.length (List.drop (0+Int.toNat j) (List.take (0+(n - 0)) (List.map enc xs)))))),(4,(Zc i)),(5,(Zc (IntKind.wrap IntKind.i64 (k+1))))] [(.obj (.row false 9 1 (([]:List PV)++List.drop (0+0) (List.take (0+Int.toNat j) (List.map enc xs))++List.drop 0 (List.take 1 [Sh.co Sh.str (List.getD (PV.cells (Vs y4 k)) 0 default)])++List.drop (0+Int.toNat j) (List.take (0+(n - 0)) (List.map enc xs)))))]))))))))))else((decide (0<=j)&&decide (0+Int.toNat j<n)&&List.length (List.map enc xs)==n)=true∧((List.length (List.map enc xs)==n&&decide (0+Int.toNat j<List.length (List.map enc xs)))=true∧((Jz [Sh.str] (PV.cells (List.getD (List.map enc xs) (0+Int.toNat j) default)))=true∧(Vt p i 2∧(Xc p i fun y5:Mono=>(decide (0<=k)&&decide (Int.toNat k<List.length (SA y5))&&1==1)=true∧((Jz [Sh.str] (PV.cells (Vs y5 k)))=true∧(if (!PV.asStr (List.getD (PV.cells (List.getD (List.map enc xs) (0+Int.toNat j) default)) 0 default)==PV.asStr (List.getD (PV.cells (Vs y5 k)) 0 default))=true then(true&&decide (0<=j)&&decide (0<=Int.toNat j)&&decide (0+Int.toNat j<=n)&&List.length (List.map enc xs)==n)=true∧((List.length (List.map enc xs)==n)=true∧((List.length ([]:List PV)==0&&0==0&&decide ((0+List.length (List.drop (0+0) (List.take (0+Int.toNat j) (List.map enc xs))))*16<=1099511627776)&&decide (0+List.length (List.drop (0+0) (List.take (0+Int.toNat j) (List.map enc xs)))<=1099511627776))=true∧(Vt p i 2∧(Xc p i fun y6:Mono=>(decide (0<=k)&&decide (Int.toNat k<List.length (SA y6))&&1==1)=true∧((Jz [Sh.str] (PV.cells (Vs y6 k)))=true∧((List.length (([]:List PV)++List.drop (0+0) (List.take (0+Int.toNat j) (List.map enc xs)))==0+List.length (List.drop (0+0) (List.take (0+Int.toNat j) (List.map enc xs)))&&0+List.length (List.drop (0+0) (List.take (0+Int.toNat j) (List.map enc xs)))==0+List.length (List.drop (0+0) (List.take (0+Int.toNat j) (List.map enc xs)))&&decide ((0+List.length (List.drop (0+0) (List.take (0+Int.toNat j) (List.map enc xs)))+List.length (List.drop 0 (List.take 1 [Sh.co Sh.str (List.getD (PV.cells (Vs y6 k)) 0 default)])))*16<=1099511627776)&&decide (0+List.length (List.drop (0+0) (List.take (0+Int.toNat j) (List.map enc xs)))+List.length (List.drop 0 (List.take 1 [Sh.co Sh.str (List.getD (PV.cells (Vs y6 k)) 0 default)]))<=1099511627776))=true∧((decide (0<=j)&&true&&decide (Int.toNat j<=n - 0)&&decide (0+(n - 0)<=n)&&List.length (List.map enc xs)==n)=true∧((List.length (List.map enc xs)==n)=true∧((List.length (([]:List PV)++List.drop (0+0) (List.take (0+Int.toNat j) (List.map enc xs))++List.drop 0 (List.take 1 [Sh.co Sh.str (List.getD (PV.cells (Vs y6 k)) 0 default)]))==0+List.length (List.drop (0+0) (List.take (0+Int.toNat j) (List.map enc xs)))+List.length (List.drop 0 (List.take 1 [Sh.co Sh.str (List.getD (PV.cells (Vs y6 k)) 0 default)]))&&0+List.length (List.drop (0+0) (List.take (0+Int.toNat j) (List.map enc xs)))+List.length (List.drop 0 (List.take 1 [Sh.co Sh.str (List.getD (PV.cells (Vs y6 k)) 0 default)]))==0+List.length (List.drop (0+0) (List.take (0+Int.toNat j) (List.map enc xs)))+List.length (List.drop 0 (List.take 1 [Sh.co Sh.str (List.getD (PV.cells (Vs y6 k)) 0 default)]))&&decide ((0+List.length (List.drop (0+0) (List.take (0+Int.toNat j) (List.map enc xs)))+List.length (List.drop 0 (List.take 1 [Sh.co Sh.str (List.getD (PV.cells (Vs y6 k)) 0 default)]))+List.length (List.drop (0+Int.toNat j) (List.take (0+(n - 0)) (List.map enc xs))))*16<=1099511627776)&&decide (0+List.length (List.drop (0+0) (List.take (0+Int.toNat j) (List.map enc xs)))+List.length (List.drop 0 (List.take 1 [Sh.co Sh.str (List.getD (PV.cells (Vs y6 k)) 0 default)]))+List.length (List.drop (0+Int.toNat j) (List.take (0+(n - 0)) (List.map enc xs)))<=1099511627776))=true∧(At YL 0 (Za Ye G) Yd 1 86 [(0,(ZM p)),(3,(.row 0 (0+List.length (List.drop (0+0) (List.take (0+Int.toNat j) (List.map enc xs)))+List.length (List.drop 0 (List.take 1 [Sh.co Sh.str (List.getD (PV.cells (Vs y6 k)) 0 default)]))+List.length (List.drop (0+Int.toNat j) (List.take (0+(n - 0)) (List.map enc xs)))) 0 (0+List.length (List.drop (0+0) (List.take (0+Int.toNat j) (List.map enc xs)))+List.length (List.drop 0 (List.take 1 [Sh.co Sh.str (List.getD (PV.cells (Vs y6 k)) 0 default)]))+List.length (List.drop (0+Int.toNat j) (List.take (0+(n - 0)) (List.map enc xs)))))),(4,(Zc i)),(5,(Zc (IntKind.wrap IntKind.i64 (k+1))))] [(.obj (.row false 9 1 (([]:List PV)++List.drop (0+0) (List.take (0+Int.toNat j) (List.map enc xs))++List.drop 0 (List.take 1 [Sh.co Sh.str (List.getD (PV.cells (Vs y6 k)) 0 default)])++List.drop (0+Int.toNat j) (List.take (0+(n - 0)) (List.map enc xs)))))]))))))))))else(At YL 0 (Za Ye G) Yd 1 86 [(0,(ZM p)),(3,(.row 0 n 0 n)),(4,(Zc i)),(5,(Zc (IntKind.wrap IntKind.i64 (k+1))))] [(.obj (.row false 9 1 (List.map enc xs)))])))))))))):At YL 0 (Za Ye G) Yd 2 86 [(0,.pv (enc p)),(3,.row 0 n 0 n),(4,.pv (.int .i64 i)),(5,.pv (.int .i64 k)),(6,.pv (.int .i64 j))] [.obj (.row false 9 1 (xs.map enc))]:=At.tp (.lit (.ask (ZK 2 (.req (.keep (.lit (.req (.req (ZK 3 (.req (Xa (Mono) (ZK 5 (.req (.keep (.lit (.req (ZK 3 (.ask (.lit (.nil)) (.lit (.ask (ZK 15 (.req (.req (.req (.req (Xa (Mono) (.lit (.req (.keep (.req (ZK 2 (.req (.req (.req (.req (.lit (.nil))))))))))))))))) (ZK 2 (.req (.keep (.lit (.req (.req (ZK 3 (.req (Xa (Mono) (ZK 5 (.req (.keep (.lit (.req (ZK 3 (.ask (.lit (.req (.req (.req (.req (Xa (Mono) (.lit (.req (.keep (.req (ZK 2 (.req (.req (.req (.req (.lit (.nil))))))))))))))))) (.lit (.nil)))))))))))))))))))))))))))))))))))) (ZK 15 (.ask (ZK 15 (.req (.req (.req (.req (Xa (Mono) (.lit (.req (.keep (.req (ZK 2 (.req (.req (.req (.req (.lit (.nil))))))))))))))))) (ZK 2 (.req (.keep (.lit (.req (.req (ZK 3 (.req (Xa (Mono) (ZK 5 (.req (.keep (.lit (.req (ZK 3 (.ask (.lit (.req (.req (.req (.req (Xa (Mono) (.lit (.req (.keep (.req (ZK 2 (.req (.req (.req (.req (.lit (.nil))))))))))))))))) (.lit (.nil)))))))))))))))))))))) h (by kernel_rfl)
noncomputable def ZQ:IC:=Wn Proofs.Tryz.f134
def ZP:List IRes:=[(.tmp 4),(.tmp 5)]
abbrev d2n:Nat:=100
def Z8:ZU:=Xe [(131,.pure (preT (fun x:List Mono×Unit=>Ya x.1)) (Zw (fun x:List Mono×Unit=>Zx x.1))),(196,.pure (preT (fun _:Int×Unit=>true)) (Zw (fun x:Int×Unit=>YR x.1))),(197,.pure (preT (fun _:Int×Int×Unit=>true)) (Zw (fun x:Int×Int×Unit=>X3 x.1 x.2.1))),(198,.pure (preT (fun x:List Int×Unit=>decide (x.1.length<=60))) (Zw (fun x:List Int×Unit=>Xr x.1)))]
theorem d8y{G:PV->Prop}(p:List Mono)(v:List Coef)(h:(Go.Pl.preT (fun(x:List Mono×Unit)=>Ya x.1) [(.sl 2 false (List.map enc p))])=true∧(Yk (fun(x:List Mono×Unit)=>Zx x.1) [(.sl 2 false (List.map enc p))] fun y0:Bool=>if (!y0)=true then G ((.tup [(.int .i64 0),(.int .i64 1)]))else(At Z8 0 (Za ZP G) ZQ 0 100 [(0,(ZM p)),(1,(ZM v)),(6,(.pv (.sl 0 true []))),(7,(.pv (.bool false))),(8,(Zc 0))] []))):Ze Z8 0 (Za ZP G) ZQ [] (Yn 100 [enc p,enc v]):=Ze.tp (.req (Yj (Bool) (.ask (.nil) (.nil)))) h (by kernel_rfl)
theorem EL{G:PV->Prop}(p:List Mono)(v:List Coef)(bad:Bool)(i:Int)(h:if (Rx p i)=true then Vt p i 2∧(Xc p i fun y0:Mono=>At Z8 0 (Za ZP G) ZQ 1 100 [(0,(ZM p)),(1,(ZM v)),(6,(.pv (.sl 0 true []))),(7,(.pv (.bool bad))),(8,(Zc i)),(9,(Zc (PV.asInt (List.getD (List.drop 0 (PV.cells (enc y0))) 0 default)))),(10,(.pv (.bool false))),(11,(.pv (.bool false))),(12,(Zc 0))] [])else(if (bad)=true then G ((.tup [(.int .i64 0),(.int .i64 2)]))else(Yk (fun(x:List Int×Unit)=>Xr x.1) [(.sl 0 true [])] fun y1:Int×Int=>G ((.tup [(.int .i64 y1.1),(.int .i64 y1.2)]))))):At Z8 0 (Za ZP G) ZQ 0 100 [(0,.pv (enc p)),(1,.pv (enc v)),(6,.pv (.sl 0 true [])),(7,.pv (.bool bad)),(8,.pv (.int .i64 i))] []:=At.tp (.lit (.ask (.req (Xa (Mono) (.lit (.nil)))) (.ask (.nil) (.lit (Yj (Int×Int) (.nil)))))) h (by kernel_rfl)
theorem E5{G:PV->Prop}(p:List Mono)(v:List Coef)(bad:Bool)(i:Int)(n:Nat)(xs:List Int)(h:if (Rx p i)=true then Vt p i 2∧(Xc p i fun y0:Mono=>At Z8 0 (Za ZP G) ZQ 1 100 [(0,(ZM p)),(1,(ZM v)),(6,(.row 0 n 0 n)),(7,(.pv (.bool bad))),(8,(Zc i)),(9,(Zc (PV.asInt (List.getD (List.drop 0 (PV.cells (enc y0))) 0 default)))),(10,(.pv (.bool false))),(11,(.pv (.bool false))),(12,(Zc 0))] [(.obj (.row false 3 1 (List.map enc xs)))])else(if (bad)=true then G ((.tup [(.int .i64 0),(.int .i64 2)]))else((List.length (List.map enc xs)==n)=true∧((Go.Pl.preT (fun(x:List Int×Unit)=>decide (List.length x.1<=60)) [(.sl 1 false (List.drop 0 (List.take n (List.map enc xs))))])=true∧(Yk (fun(x:List Int×Unit)=>Xr x.1) [(.sl 1 false (List.drop 0 (List.take n (List.map enc xs))))] fun y1:Int×Int=>G ((.tup [(.int .i64 y1.1),(.int .i64 y1.2)]))))))):At Z8 0 (Za ZP G) ZQ 0 100 [(0,.pv (enc p)),(1,.pv (enc v)),(6,.row 0 n 0 n),(7,.pv (.bool bad)),(8,.pv (.int .i64 i))] [.obj (.row false 3 1 (xs.map enc))]:=At.tp (.lit (.ask (.req (Xa (Mono) (.lit (.nil)))) (.ask (.nil) (.req (.req (Yj (Int×Int) (.nil))))))) h (by kernel_rfl)
theorem a2o{G:PV->Prop}(p:List Mono)(v:List Coef)(bad:Bool)(i c:Int)(zero big:Bool)(k:Int)(h:Vt p i 2∧(Xc p i fun y0:Mono=>if (decide (k<(↑(List.length (SA y0)):Int)))=true then At Z8 0 (Za ZP G) ZQ 2 100 [(0,(ZM p)),(1,(ZM v)),(6,(.pv (.sl 0 true []))),(7,(.pv (.bool bad))),(8,(Zc i)),(9,(Zc c)),(10,(.pv (.bool zero))),(11,(.pv (.bool big))),(12,(Zc k)),(13,(Zc 0))] []else(if (zero)=true then At Z8 0 (Za ZP G) ZQ 0 100 [(0,(ZM p)),(1,(ZM v)),(6,(.row 0 1 0 1)),(7,(.pv (.bool bad))),(8,(Zc (IntKind.wrap IntKind.i64 (i+1))))] [(.obj (.row false 3 1 [(.int .i64 0)]))]else(if (bad)=true then At Z8 0 (Za ZP G) ZQ 0 100 [(0,(ZM p)),(1,(ZM v)),(6,(.row 0 1 0 1)),(7,(.pv (.bool true))),(8,(Zc (IntKind.wrap IntKind.i64 (i+1))))] [(.obj (.row false 3 1 [(.int .i64 c)]))]else(At Z8 0 (Za ZP G) ZQ 0 100 [(0,(ZM p)),(1,(ZM v)),(6,(.row 0 1 0 1)),(7,(.pv (.bool big))),(8,(Zc (IntKind.wrap IntKind.i64 (i+1))))] [(.obj (.row false 3 1 [(.int .i64 c)]))]))))):At Z8 0 (Za ZP G) ZQ 1 100 [(0,.pv (enc p)),(1,.pv (enc v)),(6,.pv (.sl 0 true [])),(7,.pv (.bool bad)),(8,.pv (.int .i64 i)),(9,.pv (.int .i64 c)),(10,.pv (.bool zero)),(11,.pv (.bool big)),(12,.pv (.int .i64 k))] []:=At.tp (.req (Xa (Mono) (ZK 2 (.ask (.nil) (.ask (Yo 6) (.ask (Yo 7) (Yo 7))))))) h (by kernel_rfl)
theorem O9{G:PV->Prop}(p:List Mono)(v:List Coef)(bad:Bool)(i c:Int)(zero big:Bool)(k:Int)(n:Nat)(xs:List Int)(h:Vt p i 2∧(Xc p i fun y0:Mono=>if (decide (k<(↑(List.length (SA y0)):Int)))=true then At Z8 0 (Za ZP G) ZQ 2 100 [(0,(ZM p)),(1,(ZM v)),(6,(.row 0 n 0 n)),(7,(.pv (.bool bad))),(8,(Zc i)),(9,(Zc c)),(10,(.pv (.bool zero))),(11,(.pv (.bool big))),(12,(Zc k)),(13,(Zc 0))] [(.obj (.row false 3 1 (List.map enc xs)))]else(if (zero)=true then(List.length (List.map enc xs)==n&&n==n&&decide ((n+List.length (List.drop 0 (List.take 1 [PV.int .i64 0])))*8<=1099511627776)&&decide (n+List.length (List.drop 0 (List.take 1 [PV.int .i64 0]))<=1099511627776))=true∧(At Z8 0 (Za ZP G) ZQ 0 100 [(0,(ZM p)),(1,(ZM v)),(6,(.row 0 (n+List.length (List.drop 0 (List.take 1 [PV.int .i64 0]))) 0 (n+List.length (List.drop 0 (List.take 1 [PV.int .i64 0]))))),(7,(.pv (.bool bad))),(8,(Zc (IntKind.wrap IntKind.i64 (i+1))))] [(.obj (.row false 3 1 (List.map enc xs++List.drop 0 (List.take 1 [PV.int .i64 0]))))])else(if (bad)=true then(List.length (List.map enc xs)==n&&n==n&&decide ((n+List.length (List.drop 0 (List.take 1 [PV.int .i64 c])))*8<=1099511627776)&&decide (n+List.length (List.drop 0 (List.take 1 [PV.int .i64 c]))<=1099511627776))=true∧(At Z8 0 (Za ZP G) ZQ 0 100 [(0,(ZM p)),(1,(ZM v)),(6,(.row 0 (n+List.length (List.drop 0 (List.take 1 [PV.int .i64 c]))) 0 (n+List.length (List.drop 0 (List.take 1 [PV.int .i64 c]))))),(7,(.pv (.bool true))),(8,(Zc (IntKind.wrap IntKind.i64 (i+1))))] [(.obj (.row false 3 1 (List.map enc xs++List.drop 0 (List.take 1 [PV.int .i64 c]))))])else((List.length (List.map enc xs)==n&&n==n&&decide ((n+List.length (List.drop 0 (List.take 1 [PV.int .i64 c])))*8<=1099511627776)&&decide (n+List.length (List.drop 0 (List.take 1 [PV.int .i64 c]))<=1099511627776))=true∧(At Z8 0 (Za ZP G) ZQ 0 100 [(0,(ZM p)),(1,(ZM v)),(6,(.row 0 (n+List.length (List.drop 0 (List.take 1 [PV.int .i64 c]))) 0 (n+List.length (List.drop 0 (List.take 1 [PV.int .i64 c]))))),(7,(.pv (.bool big))),(8,(Zc (IntKind.wrap IntKind.i64 (i+1))))] [(.obj (.row false 3 1 (List.map enc xs++List.drop 0 (List.take 1 [PV.int .i64 c]))))])))))):At Z8 0 (Za ZP G) ZQ 1 100 [(0,.pv (enc p)),(1,.pv (enc v)),(6,.row 0 n 0 n),(7,.pv (.bool bad)),(8,.pv (.int .i64 i)),(9,.pv (.int .i64 c)),(10,.pv (.bool zero)),(11,.pv (.bool big)),(12,.pv (.int .i64 k))] [.obj (.row false 3 1 (xs.map enc))]:=At.tp (.req (Xa (Mono) (ZK 2 (.ask (.nil) (.ask (ZK 2 (.req (.lit (.nil)))) (.ask (ZK 3 (.req (.lit (.nil)))) (ZK 3 (.req (.lit (.nil)))))))))) h (by kernel_rfl)
theorem Ry{G:PV->Prop}(p:List Mono)(v:List Coef)(bad:Bool)(i c:Int)(zero big:Bool)(k j:Int)(h:if (Rx v j)=true then Vt v j 2∧(Xc v j fun y0:Coef=>Vt p i 2∧(Xc p i fun y1:Mono=>(decide (0<=k)&&decide (Int.toNat k<List.length (SA y1))&&1==1)=true∧((Jz [Sh.str] (PV.cells (Vs y1 k)))=true∧(if (!PV.asStr (List.getD (List.drop 0 (PV.cells (enc y0))) 0 default)==PV.asStr (List.getD (PV.cells (Vs y1 k)) 0 default))=true then At Z8 0 (Za ZP G) ZQ 2 100 [(0,(ZM p)),(1,(ZM v)),(6,(.pv (.sl 0 true []))),(7,(.pv (.bool bad))),(8,(Zc i)),(9,(Zc c)),(10,(.pv (.bool zero))),(11,(.pv (.bool big))),(12,(Zc k)),(13,(Zc (IntKind.wrap IntKind.i64 (j+1))))] []else(if (j==(↑(List.length (List.map enc v)):Int))=true then G ((.tup [(.int .i64 0),(.int .i64 7)]))else(Vt v j 2∧(Xc v j fun y2:Coef=>Yk (fun(x:Int×Unit)=>YR x.1) [(.int .i64 (PV.asInt (WY y2)))] fun y3:Bool=>if (!y3)=true then At Z8 0 (Za ZP G) ZQ 1 100 [(0,(ZM p)),(1,(ZM v)),(6,(.pv (.sl 0 true []))),(7,(.pv (.bool true))),(8,(Zc i)),(9,(Zc c)),(10,(.pv (.bool zero))),(11,(.pv (.bool big))),(12,(Zc (IntKind.wrap IntKind.i64 (k+1))))] []else(if (PV.asInt (WY y2)==0)=true then At Z8 0 (Za ZP G) ZQ 1 100 [(0,(ZM p)),(1,(ZM v)),(6,(.pv (.sl 0 true []))),(7,(.pv (.bool bad))),(8,(Zc i)),(9,(Zc c)),(10,(.pv (.bool true))),(11,(.pv (.bool big))),(12,(Zc (IntKind.wrap IntKind.i64 (k+1))))] []else(Yk (fun(x:Int×Int×Unit)=>X3 x.1 x.2.1) [(.int .i64 c),(.int .i64 (PV.asInt (WY y2)))] fun y4:Int×Int=>if (y4.2 != 0)=true then At Z8 0 (Za ZP G) ZQ 1 100 [(0,(ZM p)),(1,(ZM v)),(6,(.pv (.sl 0 true []))),(7,(.pv (.bool bad))),(8,(Zc i)),(9,(Zc c)),(10,(.pv (.bool zero))),(11,(.pv (.bool true))),(12,(Zc (IntKind.wrap IntKind.i64 (k+1))))] []else(At Z8 0 (Za ZP G) ZQ 1 100 [(0,(ZM p)),(1,(ZM v)),(6,(.pv (.sl 0 true []))),(7,(.pv (.bool bad))),(8,(Zc i)),(9,(Zc y4.1)),(10,(.pv (.bool zero))),(11,(.pv (.bool big))),(12,(Zc (IntKind.wrap IntKind.i64 (k+1))))] []))))))))))else(if (j==(↑(List.length (List.map enc v)):Int))=true then G ((.tup [(.int .i64 0),(.int .i64 7)]))else(Vt v j 2∧(Xc v j fun y5:Coef=>Yk (fun(x:Int×Unit)=>YR x.1) [(.int .i64 (PV.asInt (WY y5)))] fun y6:Bool=>if (!y6)=true then At Z8 0 (Za ZP G) ZQ 1 100 [(0,(ZM p)),(1,(ZM v)),(6,(.pv (.sl 0 true []))),(7,(.pv (.bool true))),(8,(Zc i)),(9,(Zc c)),(10,(.pv (.bool zero))),(11,(.pv (.bool big))),(12,(Zc (IntKind.wrap IntKind.i64 (k+1))))] []else(if (PV.asInt (WY y5)==0)=true then At Z8 0 (Za ZP G) ZQ 1 100 [(0,(ZM p)),(1,(ZM v)),(6,(.pv (.sl 0 true []))),(7,(.pv (.bool bad))),(8,(Zc i)),(9,(Zc c)),(10,(.pv (.bool true))),(11,(.pv (.bool big))),(12,(Zc (IntKind.wrap IntKind.i64 (k+1))))] []else(Yk (fun(x:Int×Int×Unit)=>X3 x.1 x.2.1) [(.int .i64 c),(.int .i64 (PV.asInt (WY y5)))] fun y7:Int×Int=>if (y7.2 != 0)=true then At Z8 0 (Za ZP G) ZQ 1 100 [(0,(ZM p)),(1,(ZM v)),(6,(.pv (.sl 0 true []))),(7,(.pv (.bool bad))),(8,(Zc i)),(9,(Zc c)),(10,(.pv (.bool zero))),(11,(.pv (.bool true))),(12,(Zc (IntKind.wrap IntKind.i64 (k+1))))] []else(At Z8 0 (Za ZP G) ZQ 1 100 [(0,(ZM p)),(1,(ZM v)),(6,(.pv (.sl 0 true []))),(7,(.pv (.bool bad))),(8,(Zc i)),(9,(Zc y7.1)),(10,(.pv (.bool zero))),(11,(.pv (.bool big))),(12,(Zc (IntKind.wrap IntKind.i64 (k+1))))] []))))))):At Z8 0 (Za ZP G) ZQ 2 100 [(0,.pv (enc p)),(1,.pv (enc v)),(6,.pv (.sl 0 true [])),(7,.pv (.bool bad)),(8,.pv (.int .i64 i)),(9,.pv (.int .i64 c)),(10,.pv (.bool zero)),(11,.pv (.bool big)),(12,.pv (.int .i64 k)),(13,.pv (.int .i64 j))] []:=At.tp (.lit (.ask (ZK 2 (.req (Xa (Coef) (ZK 6 (.req (Xa (Mono) (ZK 5 (.req (.keep (.lit (.req (ZK 3 (.ask (.lit (.nil)) (.lit (.ask (.nil) (.req (Xa (Coef) (ZK 2 (Yj (Bool) (.ask (.lit (.nil)) (.lit (.ask (.lit (.nil)) (.lit (Yj (Int×Int) (.lit (.ask (.lit (.nil)) (.lit (.nil)))))))))))))))))))))))))))) (ZK 16 (.ask (.nil) (.req (Xa (Coef) (ZK 2 (Yj (Bool) (.ask (.lit (.nil)) (.lit (.ask (.lit (.nil)) (.lit (Yj (Int×Int) (.lit (.ask (.lit (.nil)) (.lit (.nil))))))))))))))))) h (by kernel_rfl)
theorem Rc{G:PV->Prop}(p:List Mono)(v:List Coef)(bad:Bool)(i c:Int)(zero big:Bool)(k j:Int)(n:Nat)(xs:List Int)(h:if (Rx v j)=true then Vt v j 2∧(Xc v j fun y0:Coef=>Vt p i 2∧(Xc p i fun y1:Mono=>(decide (0<=k)&&decide (Int.toNat k<List.length (SA y1))&&1==1)=true∧((Jz [Sh.str] (PV.cells (Vs y1 k)))=true∧(if (!PV.asStr (List.getD (List.drop 0 (PV.cells (enc y0))) 0 default)==PV.asStr (List.getD (PV.cells (Vs y1 k)) 0 default))=true then At Z8 0 (Za ZP G) ZQ 2 100 [(0,(ZM p)),(1,(ZM v)),(6,(.row 0 n 0 n)),(7,(.pv (.bool bad))),(8,(Zc i)),(9,(Zc c)),(10,(.pv (.bool zero))),(11,(.pv (.bool big))),(12,(Zc k)),(13,(Zc (IntKind.wrap IntKind.i64 (j+1))))] [(.obj (.row false 3 1 (List.map enc xs)))]else(if (j==(↑(List.length (List.map enc v)):Int))=true then G ((.tup [(.int .i64 0),(.int .i64 7)]))else(Vt v j 2∧(Xc v j fun y2:Coef=>Yk (fun(x:Int×Unit)=>YR x.1) [(.int .i64 (PV.asInt (WY y2)))] fun y3:Bool=>if (!y3)=true then At Z8 0 (Za ZP G) ZQ 1 100 [(0,(ZM p)),(1,(ZM v)),(6,(.row 0 n 0 n)),(7,(.pv (.bool true))),(8,(Zc i)),(9,(Zc c)),(10,(.pv (.bool zero))),(11,(.pv (.bool big))),(12,(Zc (IntKind.wrap IntKind.i64 (k+1))))] [(.obj (.row false 3 1 (List.map enc xs)))]else(if (PV.asInt (WY y2)==0)=true then At Z8 0 (Za ZP G) ZQ 1 100 [(0,(ZM p)),(1,(ZM v)),(6,(.row 0 n 0 n)),(7,(.pv (.bool bad))),(8,(Zc i)),(9,(Zc c)),(10,(.pv (.bool true))),(11,(.pv (.bool big))),(12,(Zc (IntKind.wrap IntKind.i64 (k+1))))] [(.obj (.row false 3 1 (List.map enc xs)))]else(Yk (fun(x:Int×Int×Unit)=>X3 x.1 x.2.1) [(.int .i64 c),(.int .i64 (PV.asInt (WY y2)))] fun y4:Int×Int=>if (y4.2 != 0)=true then At Z8 0 (Za ZP G) ZQ 1 100 [(0,(ZM p)),(1,(ZM v)),(6,(.row 0 n 0 n)),(7,(.pv (.bool bad))),(8,(Zc i)),(9,(Zc c)),(10,(.pv (.bool zero))),(11,(.pv (.bool true))),(12,(Zc (IntKind.wrap IntKind.i64 (k+1))))] [(.obj (.row false 3 1 (List.map enc xs)))]else(At Z8 0 (Za ZP G) ZQ 1 100 [(0,(ZM p)),(1,(ZM v)),(6,(.row 0 n 0 n)),(7,(.pv (.bool bad))),(8,(Zc i)),(9,(Zc y4.1)),(10,(.pv (.bool zero))),(11,(.pv (.bool big))),(12,(Zc (IntKind.wrap IntKind.i64 (k+1))))] [(.obj (.row false 3 1 (List.map enc xs)))]))))))))))else(if (j==(↑(List.length (List.map enc v)):Int))=true then G ((.tup [(.int .i64 0),(.int .i64 7)]))else(Vt v j 2∧(Xc v j fun y5:Coef=>Yk (fun(x:Int×Unit)=>YR x.1) [(.int .i64 (PV.asInt (WY y5)))] fun y6:Bool=>if (!y6)=true then At Z8 0 (Za ZP G) ZQ 1 100 [(0,(ZM p)),(1,(ZM v)),(6,(.row 0 n 0 n)),(7,(.pv (.bool true))),(8,(Zc i)),(9,(Zc c)),(10,(.pv (.bool zero))),(11,(.pv (.bool big))),(12,(Zc (IntKind.wrap IntKind.i64 (k+1))))] [(.obj (.row false 3 1 (List.map enc xs)))]else(if (PV.asInt (WY y5)==0)=true then At Z8 0 (Za ZP G) ZQ 1 100 [(0,(ZM p)),(1,(ZM v)),(6,(.row 0 n 0 n)),(7,(.pv (.bool bad))),(8,(Zc i)),(9,(Zc c)),(10,(.pv (.bool true))),(11,(.pv (.bool big))),(12,(Zc (IntKind.wrap IntKind.i64 (k+1))))] [(.obj (.row false 3 1 (List.map enc xs)))]else(Yk (fun(x:Int×Int×Unit)=>X3 x.1 x.2.1) [(.int .i64 c),(.int .i64 (PV.asInt (WY y5)))] fun y7:Int×Int=>if (y7.2 != 0)=true then At Z8 0 (Za ZP G) ZQ 1 100 [(0,(ZM p)),(1,(ZM v)),(6,(.row 0 n 0 n)),(7,(.pv (.bool bad))),(8,(Zc i)),(9,(Zc c)),(10,(.pv (.bool zero))),(11,(.pv (.bool true))),(12,(Zc (IntKind.wrap IntKind.i64 (k+1))))] [(.obj (.row false 3 1 (List.map enc xs)))]else(At Z8 0 (Za ZP G) ZQ 1 100 [(0,(ZM p)),(1,(ZM v)),(6,(.row 0 n 0 n)),(7,(.pv (.bool bad))),(8,(Zc i)),(9,(Zc y7.1)),(10,(.pv (.bool zero))),(11,(.pv (.bool big))),(12,(Zc (IntKind.wrap IntKind.i64 (k+1))))] [(.obj (.row false 3 1 (List.map enc xs)))]))))))):At Z8 0 (Za ZP G) ZQ 2 100 [(0,.pv (enc p)),(1,.pv (enc v)),(6,.row 0 n 0 n),(7,.pv (.bool bad)),(8,.pv (.int .i64 i)),(9,.pv (.int .i64 c)),(10,.pv (.bool zero)),(11,.pv (.bool big)),(12,.pv (.int .i64 k)),(13,.pv (.int .i64 j))] [.obj (.row false 3 1 (xs.map enc))]:=At.tp (.lit (.ask (ZK 2 (.req (Xa (Coef) (ZK 6 (.req (Xa (Mono) (ZK 5 (.req (.keep (.lit (.req (ZK 3 (.ask (.lit (.nil)) (.lit (.ask (.nil) (.req (Xa (Coef) (ZK 2 (Yj (Bool) (.ask (.lit (.nil)) (.lit (.ask (.lit (.nil)) (.lit (Yj (Int×Int) (.lit (.ask (.lit (.nil)) (.lit (.nil)))))))))))))))))))))))))))) (ZK 16 (.ask (.nil) (.req (Xa (Coef) (ZK 2 (Yj (Bool) (.ask (.lit (.nil)) (.lit (.ask (.lit (.nil)) (.lit (Yj (Int×Int) (.lit (.ask (.lit (.nil)) (.lit (.nil))))))))))))))))) h (by kernel_rfl)
noncomputable def QJ:IC:=Wn Proofs.Tryz.f135
def QK:List IRes:=[(.tmp 4),(.tmp 5)]
abbrev d3b:Nat:=71
def JP:ZU:=Xe [(199,.pure (preT (fun _:Int×Int×Unit=>true)) (Zw (fun x:Int×Int×Unit=>DN x.1 x.2.1))),(197,.pure (preT (fun _:Int×Int×Unit=>true)) (Zw (fun x:Int×Int×Unit=>X3 x.1 x.2.1))),(200,.pure (preT (fun _:Int×Int×Unit=>true)) (Zw (fun x:Int×Int×Unit=>a7u x.1 x.2.1)))]
theorem d7d{G:PV->Prop}(a b:List Int)(h:(List.isEmpty (List.map enc a)||Enc.sz Int==1)=true∧((List.length ([]:List PV)==0&&0==0&&decide ((0+List.length (List.map enc a))*8<=1099511627776)&&decide (0+List.length (List.map enc a)<=1099511627776))=true∧((List.isEmpty (List.map enc b)||Enc.sz Int==1)=true∧((List.length (([]:List PV)++List.map enc a)==0+List.length (List.map enc a)&&0+List.length (List.map enc a)==0+List.length (List.map enc a)&&decide ((0+List.length (List.map enc a)+List.length (List.map enc b))*8<=1099511627776)&&decide (0+List.length (List.map enc a)+List.length (List.map enc b)<=1099511627776))=true∧(At JP 0 (Za QK G) QJ 0 71 [(6,(.row 0 (0+List.length (List.map enc a)+List.length (List.map enc b)) 0 (0+List.length (List.map enc a)+List.length (List.map enc b)))),(7,(Zc 0)),(8,(Zc 0)),(9,(Zc 0))] [(.obj (.row false 3 1 (([]:List PV)++List.map enc a++List.map enc b)))]))))):Ze JP 0 (Za QK G) QJ [] (Yn 71 [enc a,enc b]):=Ze.tp (.lit (.req (.req (.req (.req (.nil)))))) h (by kernel_rfl)
theorem b0e{G:PV->Prop}(a b:List Int)(n:Nat)(l:List Int)(hi lo i:Int)(h:if (decide (i<(↑(n - 0):Int)))=true then(decide (0<=i)&&decide (0+Int.toNat i<n)&&List.length (List.map enc l)==n)=true∧((List.length (List.map enc l)==n&&decide (0+Int.toNat i<List.length (List.map enc l)))=true∧((Jz [Sh.int .i64] (PV.cells (List.getD (List.map enc l) (0+Int.toNat i) default)))=true∧(Yk (fun(x:Int×Int×Unit)=>DN x.1 x.2.1) [(.int .i64 (PV.asInt (List.getD (PV.cells (List.getD (List.map enc l) (0+Int.toNat i) default)) 0 default))),(.int .i64 2147483648)] fun y0:Int×Int=>(decide (0<=i)&&decide (0+Int.toNat i<n)&&List.length (List.map enc l)==n)=true∧((List.length (List.map enc l)==n&&decide (0+Int.toNat i<List.length (List.map enc l)))=true∧((Jz [Sh.int .i64] (PV.cells (List.getD (List.map enc l) (0+Int.toNat i) default)))=true∧(At JP 0 (Za QK G) QJ 0 71 [(6,(.row 0 n 0 n)),(7,(Zc (IntKind.wrap IntKind.i64 (hi+y0.1)))),(8,(Zc (IntKind.wrap IntKind.i64 (lo+IntKind.wrap IntKind.i64 (PV.asInt (List.getD (PV.cells (List.getD (List.map enc l) (0+Int.toNat i) default)) 0 default) - IntKind.wrap IntKind.i64 (y0.1*2147483648)))))),(9,(Zc (IntKind.wrap IntKind.i64 (i+1))))] [(.obj (.row false 3 1 (List.map enc l)))]))))))else(Yk (fun(x:Int×Int×Unit)=>DN x.1 x.2.1) [(.int .i64 lo),(.int .i64 2147483648)] fun y1:Int×Int=>Yk (fun(x:Int×Int×Unit)=>X3 x.1 x.2.1) [(.int .i64 (IntKind.wrap IntKind.i64 (hi+y1.1))),(.int .i64 2147483648)] fun y2:Int×Int=>if (y2.2 != 0)=true then G ((.tup [(.int .i64 0),(.int .i64 2)]))else(Yk (fun(x:Int×Int×Unit)=>a7u x.1 x.2.1) [(.int .i64 y2.1),(.int .i64 (IntKind.wrap IntKind.i64 (lo - IntKind.wrap IntKind.i64 (y1.1*2147483648))))] fun y3:Int×Int=>G ((.tup [(.int .i64 y3.1),(.int .i64 y3.2)]))))):At JP 0 (Za QK G) QJ 0 71 [(6,.row 0 n 0 n),(7,.pv (.int .i64 hi)),(8,.pv (.int .i64 lo)),(9,.pv (.int .i64 i))] [.obj (.row false 3 1 (l.map enc))]:=At.tp (.lit (.ask (.req (.keep (.req (.req (.lit (Yj (Int×Int) (.lit (.req (.keep (.req (.req (Yo 4)))))))))))) (.lit (Yj (Int×Int) (ZK 4 (Yj (Int×Int) (.lit (.ask (.nil) (.lit (Yj (Int×Int) (.nil))))))))))) h (by kernel_rfl)
noncomputable def Vm:IC:=Wn Proofs.Tryz.f61
def WB:List IRes:=[(.tmp 6),(.tmp 7)]
abbrev b2l:Nat:=57
def VC:ZU:=Xe [(118,.pure (preT (fun x:BoxT×List Fact×Lin×List Mono×Unit=>ZJ x.1&&Zl x.2.1&&decide (x.2.1.length<=100)&&Z9 x.2.2.1&&Ya x.2.2.2.1)) (Zw (fun x:BoxT×List Fact×Lin×List Mono×Unit=>Zj x.1 x.2.1 (Zh x.2.2.1&&Zx x.2.2.2.1) (Zd x.2.2.1++Y9 x.2.2.2.1)))),(46,.pure (preT (fun x:BoxT×List Fact×Unit=>ZJ x.1&&Zl x.2.1&&decide (x.2.1.length<=100)&&decide (x.1.v.length<=1000))) (Zw (fun x:BoxT×List Fact×Unit=>YQ x.1 x.2.1))),(49,.pure (preT (fun x:BoxT×List Int×Unit=>decide (x.1.v.length<=1000)&&Zr x.2.1)) (Zw (fun x:BoxT×List Int×Unit=>Zf x.1.v x.2.1))),(65,.pure (preT (fun x:Lin×List Coef×Unit=>Z9 x.1&&decide (x.2.1.length<=9223372036854775807))) (Zw (fun x:Lin×List Coef×Unit=>ZZ x.1 x.2.1)))]
theorem c0d{G:PV->Prop}(b:BoxT)(fs:List Fact)(l:Lin)(h:(Go.Pl.preT (fun(x:BoxT×List Fact×Lin×List Mono×Unit)=>ZJ x.1&&Zl x.2.1&&decide (List.length x.2.1<=100)&&Z9 x.2.2.1&&Ya x.2.2.2.1) [(.agg [(.sl 1 false (List.map enc b.v)),(.int .i64 b.m)]),(.sl 3 false (List.map enc fs)),(.agg [(.int .i64 l.k),(.sl 2 false (List.map enc l.t))]),(.sl 0 true [])])=true∧(Yk (fun(x:BoxT×List Fact×Lin×List Mono×Unit)=>Zj x.1 x.2.1 (Zh x.2.2.1&&Zx x.2.2.2.1) (Zd x.2.2.1++Y9 x.2.2.2.1)) [(.agg [(.sl 1 false (List.map enc b.v)),(.int .i64 b.m)]),(.sl 3 false (List.map enc fs)),(.agg [(.int .i64 l.k),(.sl 2 false (List.map enc l.t))]),(.sl 0 true [])] fun y0:Int=>if (y0 != 0)=true then G ((.tup [(.int .i64 0),(.int .i64 y0)]))else((Go.Pl.preT (fun(x:BoxT×List Fact×Unit)=>ZJ x.1&&Zl x.2.1&&decide (List.length x.2.1<=100)&&decide (List.length x.1.v<=1000)) [(.agg [(.sl 1 false (List.map enc b.v)),(.int .i64 b.m)]),(.sl 3 false (List.map enc fs))])=true∧(Yk (fun(x:BoxT×List Fact×Unit)=>YQ x.1 x.2.1) [(.agg [(.sl 1 false (List.map enc b.v)),(.int .i64 b.m)]),(.sl 3 false (List.map enc fs))] fun y1:List (List Int)×Int=>if ((↑(List.length (List.map enc y1.1)):Int)==0)=true then G ((.tup [(.int .i64 0),(.int .i64 9)]))else(At VC 0 (Za WB G) Vm 0 57 [(3,(.ptr 0 0)),(5,(.ptr 1 0)),(9,(Y3 y1.1)),(11,(Zc 0)),(12,(Zc 0))] [(.obj (.box [(Y3 b.v),(Zc b.m)])),(.obj (.box [(Zc l.k),(ZM l.t)]))]))))):Ze VC 0 (Za WB G) Vm [] (Yn 57 [enc b,enc fs,.agg [enc l.k,enc l.t]]):=Ze.tp (.req (Yj (Int) (.lit (.ask (.nil) (.req (Yj (List (List Int)×Int) (.lit (.ask (.nil) (.nil))))))))) h (by kernel_rfl)
theorem Nl{G:PV->Prop}(b:BoxT)(fs:List Fact)(l:Lin)(x:List (List Int))(z i:Int)(h:if (Rx x i)=true then Vt x i 1∧(Xc x i fun y0:List Int=>(Go.Pl.preT (fun(x:BoxT×List Int×Unit)=>decide (List.length x.1.v<=1000)&&Zr x.2.1) [(.agg [(.sl 1 false (List.map enc b.v)),(.int .i64 b.m)]),(.sl 1 false (PV.asXs (Yp y0)))])=true∧(Yk (fun(x:BoxT×List Int×Unit)=>Zf x.1.v x.2.1) [(.agg [(.sl 1 false (List.map enc b.v)),(.int .i64 b.m)]),(.sl 1 false (PV.asXs (Yp y0)))] fun y1:List Coef=>(Go.Pl.preT (fun(x:Lin×List Coef×Unit)=>Z9 x.1&&decide (List.length x.2.1<=9223372036854775807)) [(.agg [(.int .i64 l.k),(.sl 2 false (List.map enc l.t))]),(.sl 2 false (List.map enc y1))])=true∧(Yk (fun(x:Lin×List Coef×Unit)=>ZZ x.1 x.2.1) [(.agg [(.int .i64 l.k),(.sl 2 false (List.map enc l.t))]),(.sl 2 false (List.map enc y1))] fun y2:Int×Int=>if (i==0)=true then At VC 0 (Za WB G) Vm 0 57 [(3,(.ptr 0 0)),(5,(.ptr 1 0)),(9,(Y3 x)),(11,(Zc y2.1)),(12,(Zc (IntKind.wrap IntKind.i64 (i+1))))] [(.obj (.box [(Y3 b.v),(Zc b.m)])),(.obj (.box [(Zc l.k),(ZM l.t)]))]else(if (decide (y2.1<z))=true then At VC 0 (Za WB G) Vm 0 57 [(3,(.ptr 0 0)),(5,(.ptr 1 0)),(9,(Y3 x)),(11,(Zc y2.1)),(12,(Zc (IntKind.wrap IntKind.i64 (i+1))))] [(.obj (.box [(Y3 b.v),(Zc b.m)])),(.obj (.box [(Zc l.k),(ZM l.t)]))]else(At VC 0 (Za WB G) Vm 0 57 [(3,(.ptr 0 0)),(5,(.ptr 1 0)),(9,(Y3 x)),(11,(Zc z)),(12,(Zc (IntKind.wrap IntKind.i64 (i+1))))] [(.obj (.box [(Y3 b.v),(Zc b.m)])),(.obj (.box [(Zc l.k),(ZM l.t)]))])))))else(G ((.tup [(.int .i64 z),(.int .i64 0)])))):At VC 0 (Za WB G) Vm 0 57 [(3,.ptr 0 0),(5,.ptr 1 0),(9,.pv (enc x)),(11,.pv (.int .i64 z)),(12,.pv (.int .i64 i))] [.obj (.box [.pv (enc b.v),.pv (.int .i64 b.m)]),.obj (.box [.pv (.int .i64 l.k),.pv (enc l.t)])]:=At.tp (.lit (.ask (.req (Xa (List Int) (.lit (.req (Yj (List Coef) (.req (Yj (Int×Int) (.lit (.ask (Yo 5) (ZK 4 (.ask (.lit (.nil)) (.lit (.nil))))))))))))) (.nil))) h (by kernel_rfl)
noncomputable def Av:IC:=Wn Proofs.Tryz.f63
def Bv:List IRes:=[(.tmp 6),(.tmp 7)]
abbrev b1r:Nat:=30
def Pz:ZU:=Xe [(118,.pure (preT (fun x:BoxT×List Fact×Lin×List Mono×Unit=>ZJ x.1&&Zl x.2.1&&decide (x.2.1.length<=100)&&Z9 x.2.2.1&&Ya x.2.2.2.1)) (Zw (fun x:BoxT×List Fact×Lin×List Mono×Unit=>Zj x.1 x.2.1 (Zh x.2.2.1&&Zx x.2.2.2.1) (Zd x.2.2.1++Y9 x.2.2.2.1)))),(66,.pure (preT (fun x:Lin×Lin×Int×Unit=>decide (x.1.t.length<=500000)&&decide (x.2.1.t.length<=500000))) (Zw (fun x:Lin×Lin×Int×Unit=>Uy x.1 x.2.1 x.2.2.1))),(61,.pure (preT (fun x:BoxT×List Fact×Lin×Unit=>Yh x.1 x.2.1 x.2.2.1)) (Zw (fun x:BoxT×List Fact×Lin×Unit=>YM lessB x.1 x.2.1 x.2.2.1)))]
theorem c5m{G:PV->Prop}(b:BoxT)(fs:List Fact)(l:Lin)(h:(Go.Pl.preT (fun(x:BoxT×List Fact×Lin×List Mono×Unit)=>ZJ x.1&&Zl x.2.1&&decide (List.length x.2.1<=100)&&Z9 x.2.2.1&&Ya x.2.2.2.1) [(.agg [(.sl 1 false (List.map enc b.v)),(.int .i64 b.m)]),(.sl 3 false (List.map enc fs)),(.agg [(.int .i64 l.k),(.sl 2 false (List.map enc l.t))]),(.sl 0 true [])])=true∧(Yk (fun(x:BoxT×List Fact×Lin×List Mono×Unit)=>Zj x.1 x.2.1 (Zh x.2.2.1&&Zx x.2.2.2.1) (Zd x.2.2.1++Y9 x.2.2.2.1)) [(.agg [(.sl 1 false (List.map enc b.v)),(.int .i64 b.m)]),(.sl 3 false (List.map enc fs)),(.agg [(.int .i64 l.k),(.sl 2 false (List.map enc l.t))]),(.sl 0 true [])] fun y0:Int=>if (y0 != 0)=true then G ((.tup [(.int .i64 0),(.int .i64 y0)]))else((Go.Pl.preT (fun(x:Lin×Lin×Int×Unit)=>decide (List.length x.1.t<=500000)&&decide (List.length x.2.1.t<=500000)) [(.agg [(.int .i64 0),(.sl 0 true [])]),(.agg [(.int .i64 l.k),(.sl 2 false (List.map enc l.t))]),(.int .i64 (-1))])=true∧(Yk (fun(x:Lin×Lin×Int×Unit)=>Uy x.1 x.2.1 x.2.2.1) [(.agg [(.int .i64 0),(.sl 0 true [])]),(.agg [(.int .i64 l.k),(.sl 2 false (List.map enc l.t))]),(.int .i64 (-1))] fun y1:Lin=>(Go.Pl.preT (fun(x:BoxT×List Fact×Lin×Unit)=>Yh x.1 x.2.1 x.2.2.1) [(.agg [(.sl 1 false (List.map enc b.v)),(.int .i64 b.m)]),(.sl 3 false (List.map enc fs)),(.agg [(.int .i64 y1.k),(.sl 2 false (List.map enc y1.t))])])=true∧(Yk (fun(x:BoxT×List Fact×Lin×Unit)=>YM lessB x.1 x.2.1 x.2.2.1) [(.agg [(.sl 1 false (List.map enc b.v)),(.int .i64 b.m)]),(.sl 3 false (List.map enc fs)),(.agg [(.int .i64 y1.k),(.sl 2 false (List.map enc y1.t))])] fun y2:Int×Int=>G ((.tup [(.int .i64 (IntKind.wrap IntKind.i64 (-Prod.fst y2))),(.int .i64 y2.2)]))))))):Ze Pz 0 (Za Bv G) Av [] (Yn 30 [enc b,enc fs,.agg [enc l.k,enc l.t]]):=Ze.tp (.req (Yj (Int) (.lit (.ask (.nil) (.req (Yj (Lin) (.req (Yj (Int×Int) (.nil))))))))) h (by kernel_rfl)
noncomputable def Vb:IC:=Wn Proofs.Tryz.f64
def Va:List IRes:=[(.tmp 6),(.tmp 7)]
abbrev c9o:Nat:=67
def U5:ZU:=Xe [(118,.pure (preT (fun x:BoxT×List Fact×Lin×List Mono×Unit=>ZJ x.1&&Zl x.2.1&&decide (x.2.1.length<=100)&&Z9 x.2.2.1&&Ya x.2.2.2.1)) (Zw (fun x:BoxT×List Fact×Lin×List Mono×Unit=>Zj x.1 x.2.1 (Zh x.2.2.1&&Zx x.2.2.2.1) (Zd x.2.2.1++Y9 x.2.2.2.1)))),(46,.pure (preT (fun x:BoxT×List Fact×Unit=>ZJ x.1&&Zl x.2.1&&decide (x.2.1.length<=100)&&decide (x.1.v.length<=1000))) (Zw (fun x:BoxT×List Fact×Unit=>YQ x.1 x.2.1))),(49,.pure (preT (fun x:BoxT×List Int×Unit=>decide (x.1.v.length<=1000)&&Zr x.2.1)) (Zw (fun x:BoxT×List Int×Unit=>Zf x.1.v x.2.1))),(134,.pure (preT (fun x:List Mono×List Coef×Unit=>Ya x.1&&Zr x.2.1)) (Zw (fun x:List Mono×List Coef×Unit=>Yq x.1 x.2.1))),(135,.pure (preT (fun x:List Int×List Int×Unit=>decide (x.1.length<=10000)&&decide (x.2.1.length<=10000)&&x.1.all YR&&x.2.1.all YR)) (Zw (fun x:List Int×List Int×Unit=>Xr (x.1++x.2.1))))]
theorem d8b{G:PV->Prop}(b:BoxT)(fs:List Fact)(p:List Mono)(h:(Go.Pl.preT (fun(x:BoxT×List Fact×Lin×List Mono×Unit)=>ZJ x.1&&Zl x.2.1&&decide (List.length x.2.1<=100)&&Z9 x.2.2.1&&Ya x.2.2.2.1) [(.agg [(.sl 1 false (List.map enc b.v)),(.int .i64 b.m)]),(.sl 3 false (List.map enc fs)),(.agg [(.int .i64 0),(.sl 0 true [])]),(.sl 2 false (List.map enc p))])=true∧(Yk (fun(x:BoxT×List Fact×Lin×List Mono×Unit)=>Zj x.1 x.2.1 (Zh x.2.2.1&&Zx x.2.2.2.1) (Zd x.2.2.1++Y9 x.2.2.2.1)) [(.agg [(.sl 1 false (List.map enc b.v)),(.int .i64 b.m)]),(.sl 3 false (List.map enc fs)),(.agg [(.int .i64 0),(.sl 0 true [])]),(.sl 2 false (List.map enc p))] fun y0:Int=>if (y0 != 0)=true then G ((.tup [(.int .i64 0),(.int .i64 y0)]))else((Go.Pl.preT (fun(x:BoxT×List Fact×Unit)=>ZJ x.1&&Zl x.2.1&&decide (List.length x.2.1<=100)&&decide (List.length x.1.v<=1000)) [(.agg [(.sl 1 false (List.map enc b.v)),(.int .i64 b.m)]),(.sl 3 false (List.map enc fs))])=true∧(Yk (fun(x:BoxT×List Fact×Unit)=>YQ x.1 x.2.1) [(.agg [(.sl 1 false (List.map enc b.v)),(.int .i64 b.m)]),(.sl 3 false (List.map enc fs))] fun y1:List (List Int)×Int=>At U5 0 (Za Va G) Vb 0 67 [(2,(ZM p)),(3,(.ptr 0 0)),(9,(Y3 y1.1)),(11,(.ptr 1 0)),(12,(Zc 0))] [(.obj (.box [(Y3 b.v),(Zc b.m)])),(.obj (.box [(.pv (.sl 0 true [])),(.pv (.sl 0 true []))]))])))):Ze U5 0 (Za Va G) Vb [] (Yn 67 [enc b,enc fs,enc p]):=Ze.tp (.req (Yj (Int) (.lit (.ask (.nil) (.req (Yj (List (List Int)×Int) (.nil))))))) h (by kernel_rfl)
theorem Ez{G:PV->Prop}(b:BoxT)(fs:List Fact)(p:List Mono)(x:List (List Int))(i:Int)(h:if (Rx x i)=true then Vt x i 1∧(Xc x i fun y0:List Int=>(Go.Pl.preT (fun(x:BoxT×List Int×Unit)=>decide (List.length x.1.v<=1000)&&Zr x.2.1) [(.agg [(.sl 1 false (List.map enc b.v)),(.int .i64 b.m)]),(.sl 1 false (PV.asXs (Yp y0)))])=true∧(Yk (fun(x:BoxT×List Int×Unit)=>Zf x.1.v x.2.1) [(.agg [(.sl 1 false (List.map enc b.v)),(.int .i64 b.m)]),(.sl 1 false (PV.asXs (Yp y0)))] fun y1:List Coef=>(Go.Pl.preT (fun(x:List Mono×List Coef×Unit)=>Ya x.1&&Zr x.2.1) [(.sl 2 false (List.map enc p)),(.sl 2 false (List.map enc y1))])=true∧(Yk (fun(x:List Mono×List Coef×Unit)=>Yq x.1 x.2.1) [(.sl 2 false (List.map enc p)),(.sl 2 false (List.map enc y1))] fun y2:Int×Int=>if (y2.2 != 0)=true then G ((.tup [(.int .i64 0),(.int .i64 y2.2)]))else(if (decide (i ≥ 10000))=true then At U5 0 (Za Va G) Vb 0 67 [(2,(ZM p)),(3,(.ptr 0 0)),(9,(Y3 x)),(11,(.ptr 1 0)),(12,(Zc (IntKind.wrap IntKind.i64 (i+1))))] [(.obj (.box [(Y3 b.v),(Zc b.m)])),(.obj (.box [(.pv (.sl 0 true [])),(.row 2 1 0 1)])),(.obj (.row false 3 1 [(.int .i64 y2.1)]))]else(At U5 0 (Za Va G) Vb 0 67 [(2,(ZM p)),(3,(.ptr 0 0)),(9,(Y3 x)),(11,(.ptr 1 0)),(12,(Zc (IntKind.wrap IntKind.i64 (i+1))))] [(.obj (.box [(Y3 b.v),(Zc b.m)])),(.obj (.box [(.row 2 1 0 1),(.pv (.sl 0 true []))])),(.obj (.row false 3 1 [(.int .i64 y2.1)]))])))))else(Yk (fun(x:List Int×List Int×Unit)=>Xr (x.1++x.2.1)) [(.sl 0 true []),(.sl 0 true [])] fun y3:Int×Int=>G ((.tup [(.int .i64 y3.1),(.int .i64 y3.2)])))):At U5 0 (Za Va G) Vb 0 67 [(2,.pv (enc p)),(3,.ptr 0 0),(9,.pv (enc x)),(11,.ptr 1 0),(12,.pv (.int .i64 i))] [.obj (.box [.pv (enc b.v),.pv (.int .i64 b.m)]),.obj (.box [.pv (.sl 0 true []),.pv (.sl 0 true [])])]:=At.tp (.lit (.ask (.req (Xa (List Int) (.lit (.req (Yj (List Coef) (.req (Yj (Int×Int) (.lit (.ask (.nil) (.lit (.ask (Yo 8) (Yo 8)))))))))))) (.lit (Yj (Int×Int) (.nil))))) h (by kernel_rfl)
theorem OC{G:PV->Prop}(b:BoxT)(fs:List Fact)(p:List Mono)(x:List (List Int))(i:Int)(n:Nat)(xs:List Int)(h:if (Rx x i)=true then Vt x i 1∧(Xc x i fun y0:List Int=>(Go.Pl.preT (fun(x:BoxT×List Int×Unit)=>decide (List.length x.1.v<=1000)&&Zr x.2.1) [(.agg [(.sl 1 false (List.map enc b.v)),(.int .i64 b.m)]),(.sl 1 false (PV.asXs (Yp y0)))])=true∧(Yk (fun(x:BoxT×List Int×Unit)=>Zf x.1.v x.2.1) [(.agg [(.sl 1 false (List.map enc b.v)),(.int .i64 b.m)]),(.sl 1 false (PV.asXs (Yp y0)))] fun y1:List Coef=>(Go.Pl.preT (fun(x:List Mono×List Coef×Unit)=>Ya x.1&&Zr x.2.1) [(.sl 2 false (List.map enc p)),(.sl 2 false (List.map enc y1))])=true∧(Yk (fun(x:List Mono×List Coef×Unit)=>Yq x.1 x.2.1) [(.sl 2 false (List.map enc p)),(.sl 2 false (List.map enc y1))] fun y2:Int×Int=>if (y2.2 != 0)=true then G ((.tup [(.int .i64 0),(.int .i64 y2.2)]))else(if (decide (i ≥ 10000))=true then At U5 0 (Za Va G) Vb 0 67 [(2,(ZM p)),(3,(.ptr 0 0)),(9,(Y3 x)),(11,(.ptr 1 0)),(12,(Zc (IntKind.wrap IntKind.i64 (i+1))))] [(.obj (.box [(Y3 b.v),(Zc b.m)])),(.obj (.box [(.row 2 n 0 n),(.row 3 1 0 1)])),(.obj (.row false 3 1 (List.map enc xs))),(.obj (.row false 3 1 [(.int .i64 y2.1)]))]else((List.length (List.map enc xs)==n&&n==n&&decide ((n+List.length (List.drop 0 (List.take 1 [enc y2.1])))*8<=1099511627776)&&decide (n+List.length (List.drop 0 (List.take 1 [enc y2.1]))<=1099511627776))=true∧(At U5 0 (Za Va G) Vb 0 67 [(2,(ZM p)),(3,(.ptr 0 0)),(9,(Y3 x)),(11,(.ptr 1 0)),(12,(Zc (IntKind.wrap IntKind.i64 (i+1))))] [(.obj (.box [(Y3 b.v),(Zc b.m)])),(.obj (.box [(.row 2 (n+List.length (List.drop 0 (List.take 1 [enc y2.1]))) 0 (n+List.length (List.drop 0 (List.take 1 [enc y2.1])))),(.pv (.sl 0 true []))])),(.obj (.row false 3 1 (List.map enc xs++List.drop 0 (List.take 1 [enc y2.1]))))]))))))else((List.length (List.map enc xs)==n)=true∧((Go.Pl.preT (fun(x:List Int×List Int×Unit)=>decide (List.length x.1<=10000)&&decide (List.length x.2.1<=10000)&&List.all x.1 YR&&List.all x.2.1 YR) [(.sl 1 false (List.drop 0 (List.take n (List.map enc xs)))),(.sl 0 true [])])=true∧(Yk (fun(x:List Int×List Int×Unit)=>Xr (x.1++x.2.1)) [(.sl 1 false (List.drop 0 (List.take n (List.map enc xs)))),(.sl 0 true [])] fun y3:Int×Int=>G ((.tup [(.int .i64 y3.1),(.int .i64 y3.2)])))))):At U5 0 (Za Va G) Vb 0 67 [(2,.pv (enc p)),(3,.ptr 0 0),(9,.pv (enc x)),(11,.ptr 1 0),(12,.pv (.int .i64 i))] [.obj (.box [.pv (enc b.v),.pv (.int .i64 b.m)]),.obj (.box [.row 2 n 0 n,.pv (.sl 0 true [])]),.obj (.row false 3 1 (xs.map enc))]:=At.tp (.lit (.ask (.req (Xa (List Int) (.lit (.req (Yj (List Coef) (.req (Yj (Int×Int) (.lit (.ask (.nil) (.lit (.ask (Yo 8) (ZK 3 (.req (Yo 2)))))))))))))) (.req (.req (Yj (Int×Int) (.nil)))))) h (by kernel_rfl)
end Go.Pl
namespace Go.Pl
open Go.RowKit
open Enc (enc dec is)
open EncL (encL decL isL)
theorem d8k{p:List Mono}(h:Ya p=true){m:Mono}(hm:m∈p):XW m.v=true:=by
 unfold Ya at h
 rw[Bool.and_eq_true]at h
 exact List.all_eq_true.1 h.2 m hm
theorem d0d{l:List Str}(h:XW l=true):l.length<=9223372036854775807:=by
 unfold XW at h
 rw[Bool.and_eq_true]at h
 exact Zz.1 h.1
theorem c7i{p:List Mono}(h:Ya p=true){m:Mono}(hm:m∈p):m.v.length<=9223372036854775807:=d0d (d8k h hm)
theorem d4x{i:Nat}(h:i<9223372036854775807):IntKind.i64.wrap (((i+1:Nat):Int) - 1)=(i:Int):=by rw[WX (by omega) (by omega)];omega
theorem Oy(a b:List Str)(ha:a.length<=9223372036854775807)(hb:b.length<=9223372036854775807): ∀ (d i:Nat),d+i=a.length->i<=b.length ->
  At Kg 0 (Za U4 (Zi (Wi (a.drop i) (b.drop i)))) UN 0 41 [(0,.pv (enc a)),(1,.pv (enc b)),(5,.pv (.int .i64 i))] []:=by
 have hw:IntKind.i64.wrap ((a.length:Int) - (b.length:Int))=(a.length:Int) - (b.length:Int):=WX (by omega) (by omega)
 intro d
 induction d with
 | zero=>
  intro i hi hib
  refine BB a b i (ZG (YY (by omega)) (Ut ?_))
  rw[List.length_map,List.length_map,hw,List.drop_of_length_le (show a.length<=i by omega),Wi,List.length_drop]
  omega
 | succ d ih=>
  intro i hi hib
  have hlt:i<a.length:=by omega
  rw[List.drop_eq_getElem_cons hlt]
  by_cases hlb:i<b.length
  ·have ih:=ih (i+1) (by omega) (by omega)
   rw[List.drop_eq_getElem_cons hlb,Wi]
   refine BB a b i (ZA (Yy hlt) (ZA (Yy hlb) ⟨Zn hlt rfl,Zu hlt ⟨Zn hlb rfl,Zu hlb ?_⟩⟩))
   show if Op.bytesLess a[i].s b[i].s=true then _ else _
   rw[YH]
   refine XJ (fun h=> ?_) fun h=>⟨Zn hlt rfl,Zu hlt ⟨Zn hlb rfl,Zu hlb ?_⟩⟩
   ·rw[if_pos h];exact Ut rfl
   ·rw[if_neg h]
    show if (!(Op.bytesLess a[i].s b[i].s||a[i].s==b[i].s))=true then _ else _
    rw[YH,decide_eq_false h,Bool.false_or]
    refine Xt (fun h2=> ?_) fun h2=> ?_
    ·have h2:a[i].s≠b[i].s:=by simpa using h2
     have h3:b[i].s<a[i].s:=Decidable.byContradiction fun h3=>h2 (by rw[c0c h h3])
     rw[if_pos h3];exact Ut rfl
    ·have h2:a[i].s=b[i].s:=by simpa using h2
     rw[if_neg (by rw[h2];exact List.lt_irrefl _),next (by omega)]
     exact ih
  ·refine BB a b i (ZA (Yy hlt) (ZG (YY hlb) (Ut ?_)))
   rw[List.length_map,List.length_map,hw,List.drop_of_length_le (show b.length<=i by omega),Wi,List.length_cons,List.length_drop]
   omega
   intro h;cases h
theorem a6b: ∀ x:List Str×List Str×Unit,(Zr x.1&&Zr x.2.1)=true->Ze Kg 0 (Za U4 (Zi (Wi x.1 x.2.1))) UN [] (Yn b2n (encL x)):=by
 rintro⟨a,b,⟨⟩⟩ h
 rw[Bool.and_eq_true]at h
 exact c6v a b (Oy a b (Zz.1 h.1) (Zz.1 h.2) a.length 0 rfl (by omega))
theorem b4j{l:List Str}{k:Nat}(h:k+1<l.length):Jn (l.drop k)=(!decide (l[k+1].s<(l[k]'(by omega)).s)&&Jn (l.drop (k+1))):=by
 rw[List.drop_eq_getElem_cons (show k<l.length by omega),List.drop_eq_getElem_cons h,Jn]
theorem b2h{l:List Mono}{k:Nat}(h:k+1<l.length):Sm (l.drop k)=(decide (Wi (l[k]'(by omega)).v l[k+1].v<0)&&Sm (l.drop (k+1))):=by
 rw[List.drop_eq_getElem_cons (show k<l.length by omega),List.drop_eq_getElem_cons h,Sm]
theorem b7q{l:List Str}{k:Nat}(h:l.length<=k+1):Jn (l.drop k)=true:=by
 by_cases hk:k<l.length
 ·rw[List.drop_eq_getElem_cons hk,List.drop_of_length_le h];rfl
 ·rw[List.drop_of_length_le (by omega)];rfl
theorem c2j{l:List Mono}{k:Nat}(h:l.length<=k+1):Sm (l.drop k)=true:=by
 by_cases hk:k<l.length
 ·rw[List.drop_eq_getElem_cons hk,List.drop_of_length_le h];rfl
 ·rw[List.drop_of_length_le (by omega)];rfl
theorem d8p(p:List Mono)(m:Mono)(hm:m.v.length<=9223372036854775807)(i:Nat)(hi:i<9223372036854775807)(R:Bool)
  (hK:At Kq 0 (Za VZ (Zi R)) UB 0 86 [(0,.pv (enc p)),(3,.pv (.int .i64 ((i+1:Nat):Int)))] []) : ∀ (d k:Nat),d+k=m.v.length ->
  At Kq 0 (Za VZ (Zi ((m.v.drop k).all ZH&&Jn (m.v.drop (k - 1))&&R))) UB 1 86 [(0,.pv (enc p)),(3,.pv (.int .i64 i)),(4,.ptr 0 0),(5,.pv (.int .i64 k))] [.obj (.box [.pv (.int .i64 m.c),.pv (enc m.v)])]:=by
 intro d
 induction d with
 | zero=>
  intro k hk
  rw[List.drop_of_length_le (show m.v.length<=k by omega),b7q (by omega)]
  refine b8e p m i k (ZG (YY (by omega)) ?_)
  rw[next hi]
  exact hK
 | succ d ih=>
  intro k hk
  have hlt:k<m.v.length:=by omega
  have ih:=ih (k+1) (by omega)
  rw[show k+1 - 1=k from rfl]at ih
  have ed:(m.v.drop k).all ZH=(ZH m.v[k]&&(m.v.drop (k+1)).all ZH):=by rw[List.drop_eq_getElem_cons hlt,List.all_cons]
  refine b8e p m i k (ZA (Yy hlt) ⟨Zn hlt rfl,Zu hlt (Zg (m.v[k],()) rfl ?_)⟩)
  rw[ed]
  refine Xt (fun hn=> ?_) fun hn=> ?_
  ·have hn:ZH m.v[k]=false:=hn
   rw[hn];exact ZW rfl
  ·have hn:ZH m.v[k]=true:=hn
   rw[hn,Bool.true_and]
   refine XJ (fun h0=> ?_) fun h0=> ?_
   ·obtain⟨j,rfl⟩ : ∃ j,k=j+1:=⟨k - 1,by omega⟩
    have hj:j<m.v.length:=by omega
    rw[d4x (by omega),show j+1 - 1=j from rfl,b4j hlt]
    refine⟨Zn hj rfl,Zu hj ⟨Zn hlt rfl,Zu hlt ?_⟩⟩
    show if (!(Op.bytesLess m.v[j].s m.v[j+1].s||m.v[j].s==m.v[j+1].s))=true then _ else _
    rw[YH]
    refine Xt (fun h=> ?_) fun h=> ?_
    ·have h : ¬ m.v[j].s<m.v[j+1].s∧m.v[j].s≠m.v[j+1].s:=by simpa using h
     have h3:m.v[j+1].s<m.v[j].s:=Decidable.byContradiction fun h3=>h.2 (by rw[c0c h.1 h3])
     rw[decide_eq_true h3]
     refine ZW ?_
     simp
    ·have h:m.v[j].s<m.v[j+1].s∨m.v[j].s=m.v[j+1].s:=by simpa using h
     have h3 : ¬ m.v[j+1].s<m.v[j].s:=by
      rcases h with h|h
      ·exact fun h'=>List.lt_irrefl _ (List.lt_trans h h')
      ·rw[h];exact List.lt_irrefl _
     rw[decide_eq_false h3,Bool.not_false,Bool.true_and,next (by omega)]
     exact ih
   ·have:k=0:=by omega
    subst this
    rw[next (by omega)]
    exact ih
theorem c7d(p:List Mono)(hp:p.length<=60)(hv : ∀ m∈p,m.v.length<=9223372036854775807): ∀ (d i:Nat),d+i=p.length ->
  At Kq 0 (Za VZ (Zi ((p.drop i).all Xg&&Sm (p.drop (i - 1))))) UB 0 86 [(0,.pv (enc p)),(3,.pv (.int .i64 i))] []:=by
 intro d
 induction d with
 | zero=>
  intro i hi
  rw[List.drop_of_length_le (show p.length<=i by omega),c2j (by omega)]
  exact c6e p i (ZG (YY (by omega)) (ZW rfl))
 | succ d ih=>
  intro i hi
  have hlt:i<p.length:=by omega
  have ih:=ih (i+1) (by omega)
  rw[show i+1 - 1=i from rfl]at ih
  have hm:=hv _ (List.getElem_mem hlt)
  have ed:(p.drop i).all Xg=(Xg p[i]&&(p.drop (i+1)).all Xg):=by rw[List.drop_eq_getElem_cons hlt,List.all_cons]
  rw[ed]
  refine c6e p i (ZA (Yy hlt) ⟨Zn hlt rfl,Zu hlt ?_⟩)
  generalize hmi:p[i]=m at hm ih ⊢
  have bad:Xg m=false->Zi (Xg m&&(p.drop (i+1)).all Xg&&Sm (p.drop (i - 1))) (.bool false):=fun h=>by rw[h];exact ZW rfl
  refine Ko (fun h=>bad ?_) fun h1=>XJ (fun h=>bad ?_) fun h2=>XJ (fun h=>bad ?_) fun h3=>XJ (fun h=>bad ?_) fun h4=> ?_
  ·have h:m.c=0:=h
   unfold Xg;rw[decide_eq_false (by simpa using h)];rfl
  ·have h:m.c < -1099511627776:=h
   unfold Xg;rw[decide_eq_false (p:= -1099511627776<=m.c) (by omega),Bool.and_false];rfl
  ·have h:m.c>1099511627776:=h
   unfold Xg;rw[decide_eq_false (p:=m.c<=1099511627776) (by omega),Bool.and_false];rfl
  ·have h:((m.v.map (enc:Str->PV)).length:Int)>8:=h
   rw[List.length_map]at h
   unfold Xg;rw[decide_eq_false (p:=m.v.length<=8) (by omega),Bool.and_false];rfl
  ·have h1:m.c≠0:=h1
   have h2 : ¬ m.c < -1099511627776:=h2
   have h3 : ¬ m.c>1099511627776:=h3
   have h4 : ¬ ((m.v.map (enc:Str->PV)).length:Int)>8:=h4
   rw[List.length_map]at h4
   have em:Xg m=((m.v.drop 0).all ZH&&Jn (m.v.drop (0 - 1))):=by
    unfold Xg
    rw[decide_eq_true h1,decide_eq_true (p:= -1099511627776<=m.c) (by omega),decide_eq_true (p:=m.c<=1099511627776) (by omega),decide_eq_true (p:=m.v.length<=8) (by omega),List.drop_zero];simp only[Bool.true_and];exact Bool.and_comm _ _
   have inner:=fun R hK=>d8p p m hm i (by omega) R hK m.v.length 0 rfl
   refine XJ (fun h0=> ?_) fun h0=> ?_
   ·obtain⟨j,rfl⟩ : ∃ j,i=j+1:=⟨i - 1,by omega⟩
    have hj:j<p.length:=by omega
    have hvj:=hv _ (List.getElem_mem hj)
    rw[d4x (by omega),show j+1 - 1=j from rfl,b2h hlt,hmi]
    refine⟨Zn hj rfl,Zu hj ⟨Zk (p[j].v,m.v,()) rfl (by show(Zr p[j].v&&Zr m.v)=true;rw[Zz.2 hvj,Zz.2 hm];rfl),Zg (p[j].v,m.v,()) rfl ?_⟩⟩
    show if decide (Wi p[j].v m.v ≥ 0)=true then _ else _
    refine XJ (fun h=> ?_) fun h=> ?_
    ·rw[decide_eq_false (p:=Wi p[j].v m.v<0) (by omega),Bool.false_and,Bool.and_false]
     exact ZW rfl
    ·rw[decide_eq_true (p:=Wi p[j].v m.v<0) (by omega),Bool.true_and,em,Bool.and_assoc]
     exact inner _ ih
   ·have:i=0:=by omega
    subst this
    rw[em,Bool.and_assoc]
    exact inner _ ih
theorem d1o: ∀ x:List Mono×Unit,Ya x.1=true->Ze Kq 0 (Za VZ (Zi (Zx x.1))) UB [] (Yn d7n (encL x)):=by
 rintro⟨p,⟨⟩⟩ h
 refine e1f p ?_
 rw[List.length_map]
 show if decide ((p.length:Int)>60)=true then _ else At Kq 0 (Za VZ (Zi (Zx p))) _ _ _ _ _
 unfold Zx
 refine XJ (fun h1=> ?_) fun h1=> ?_
 ·rw[decide_eq_false (p:=p.length<=60) (by omega)];exact ZW rfl
 ·rw[decide_eq_true (p:=p.length<=60) (by omega),Bool.true_and]
  exact c7d p (by omega) (fun m hm=>c7i h hm) p.length 0 rfl
theorem ixS{m:Mono}{k:Nat}(h:k<m.v.length):(decide (0<=(k:Int))&&decide (Int.toNat (k:Int)<List.length (PV.asXs (List.getD (List.drop 1 (PV.cells (enc m))) 0 default)))&&1==1)=true:=by
 show(decide (0<=(k:Int))&&decide (Int.toNat (k:Int)<List.length (m.v.map (enc:Str->PV)))&&1==1)=true
 simp[h]
theorem P6{m:Mono}{k:Nat}(h:k<m.v.length):(decide (0+List.length [Sh.str]<=List.length (PV.cells (List.getD (PV.asXs (List.getD (List.drop 1 (PV.cells (enc m))) 0 default)) (Int.toNat (k:Int)) default)))&&Ga (PV.cells (List.getD (PV.asXs (List.getD (List.drop 1 (PV.cells (enc m))) 0 default)) (Int.toNat (k:Int)) default)) 0 [Sh.str])=true:=by
 show(decide (0+List.length [Sh.str]<=List.length (PV.cells (List.getD (m.v.map (enc:Str->PV)) (Int.toNat (k:Int)) default)))&&Ga (PV.cells (List.getD (m.v.map (enc:Str->PV)) (Int.toNat (k:Int)) default)) 0 [Sh.str])=true
 rw[HV enc h];rfl
theorem a2b{m:Mono}{k:Nat}(h:k<m.v.length):PV.asStr (List.getD (PV.cells (List.getD (PV.asXs (List.getD (List.drop 1 (PV.cells (enc m))) 0 default)) (Int.toNat (k:Int)) default)) 0 default)=m.v[k].s:=by
 show PV.asStr (List.getD (PV.cells (List.getD (m.v.map (enc:Str->PV)) (Int.toNat (k:Int)) default)) 0 default)=m.v[k].s
 rw[HV enc h];rfl
theorem coS{m:Mono}{k:Nat}(h:k<m.v.length):Sh.co Sh.str (List.getD (PV.cells (List.getD (PV.asXs (List.getD (List.drop 1 (PV.cells (enc m))) 0 default)) (Int.toNat (k:Int)) default)) 0 default)=enc m.v[k]:=by
 show Sh.co Sh.str (List.getD (PV.cells (List.getD (m.v.map (enc:Str->PV)) (Int.toNat (k:Int)) default)) 0 default)=enc m.v[k]
 rw[HV enc h];rfl
theorem e0j(xs:List Str)(j:Nat)(v:Str):([]:List PV)++List.drop (0+0) (List.take (0+Int.toNat (j:Int)) (List.map enc xs))++List.drop 0 (List.take 1 [enc v])++List.drop (0+Int.toNat (j:Int)) (List.take (0+(xs.length - 0)) (List.map enc xs))=(xs.take j++v::xs.drop j).map enc:=by
 have:List.take (0+(xs.length - 0)) (List.map (enc:Str->PV) xs)=List.map enc xs:=List.take_of_length_le (by simp)
 rw[this]
 simp[List.map_take,List.map_drop]
theorem a0r{m:Mono}:(List.length (PV.asXs (List.getD (List.drop 1 (PV.cells (enc m))) 0 default)):Nat)=m.v.length:=by
 show(m.v.map (enc:Str->PV)).length=_
 rw[List.length_map]
def va1(p:List Mono)(R:List Str)(i k:Nat):List Str->Prop
 | []=>At YL 0 (Za Ye (Zi R)) Yd 1 86 [(0,.pv (enc p)),(3,.pv (.sl 0 true [])),(4,.pv (.int .i64 i)),(5,.pv (.int .i64 k))] []
 | x::r=>At YL 0 (Za Ye (Zi R)) Yd 1 86 [(0,.pv (enc p)),(3,.row 0 (r.length+1) 0 (r.length+1)),(4,.pv (.int .i64 i)),(5,.pv (.int .i64 k))] [.obj (.row false 9 1 ((x::r).map enc))]
theorem LQ{p:List Mono}{R:List Str}{i k n:Nat}{ys:List Str}{qs:List PV}(h:va1 p R i k ys)(h0:ys≠[])(hn:n=ys.length)(hy:qs=ys.map enc):
  At YL 0 (Za Ye (Zi R)) Yd 1 86 [(0,.pv (enc p)),(3,.row 0 n 0 n),(4,.pv (.int .i64 i)),(5,.pv (.int .i64 k))] [.obj (.row false 9 1 qs)]:=by
 subst hn hy
 cases ys with
 | nil=>exact absurd rfl h0
 | cons x r=>exact h
theorem e1h(p:List Mono)(R:List Str)(i k:Nat)(hi:i<p.length)(hk:k<p[i].v.length)(hk2:k<9223372036854775807)(xs:List Str)(hx:xs≠[])(hl:xs.length<=1000000)(hK:va1 p R i (k+1) (Ue xs p[i].v[k])): ∀ (d j:Nat),d+j=xs.length->xs.take j++Ue (xs.drop j) p[i].v[k]=Ue xs p[i].v[k] ->
  At YL 0 (Za Ye (Zi R)) Yd 2 86 [(0,.pv (enc p)),(3,.row 0 xs.length 0 xs.length),(4,.pv (.int .i64 i)),(5,.pv (.int .i64 k)),(6,.pv (.int .i64 j))] [.obj (.row false 9 1 (xs.map enc))]:=by
 have leaf : ∀ (j:Nat),j<=xs.length->Ue xs p[i].v[k]=xs.take j++p[i].v[k]::xs.drop j-> ∀ (n:Nat) (qs:List PV),n=xs.length+1->qs=(xs.take j++p[i].v[k]::xs.drop j).map enc->At YL 0 (Za Ye (Zi R)) Yd 1 86 [(0,.pv (enc p)),(3,.row 0 n 0 n),(4,.pv (.int .i64 i)),(5,.pv (.int .i64 ((k+1:Nat):Int)))] [.obj (.row false 9 1 qs)]:=by
  intro j hj hp n qs hn hq
  rw[hp]at hK
  refine LQ hK (by simp) ?_ hq
  rw[hn];simp;omega
 intro d
 induction d with
 | zero=>
  intro j hj hR
  have hjl:j=xs.length:=by omega
  refine ER p i k j xs.length xs (ZG (by simp;omega) (ZA (by simp;omega) ⟨by simp;omega,by simp,by simp;omega,Zn hi rfl,Zu hi ⟨ixS hk,P6 hk,by simp;omega,by simp;omega,by simp,by simp;omega,?_⟩⟩))
  rw[List.drop_of_length_le (show xs.length<=j by omega),Ue]at hR
  rw[next hk2,coS hk]
  refine leaf j (by omega) ?_ _ _ (by simp;omega) ?_
  ·rw[List.drop_of_length_le (show xs.length<=j by omega)];exact hR.symm
  ·exact e0j xs j _
 | succ d ih=>
  intro j hj hR
  have hlt:j<xs.length:=by omega
  have hd:xs.drop j=xs[j]::xs.drop (j+1):=List.drop_eq_getElem_cons hlt
  rw[hd,Ue]at hR
  refine ER p i k j xs.length xs (ZA (by simp;omega) ⟨by simp;omega,by simp;omega,by rw[Bl enc hlt];rfl,Zn hi rfl,Zu hi ⟨ixS hk,P6 hk,?_⟩⟩)
  rw[Bl enc hlt,a2b hk]
  show if Op.bytesLess xs[j].s p[i].v[k].s=true then _ else _
  rw[YH]
  refine XJ (fun h=> ?_) fun h=>ZG (by simp;omega) ⟨by simp;omega,by simp;omega,rfl,Zn hi rfl,Zu hi ⟨ixS hk,P6 hk,?_⟩⟩
  ·rw[if_pos h]at hR
   rw[next (by omega)]
   refine ih (j+1) (by omega) ?_
   rw[List.take_succ_eq_append_getElem hlt,List.append_assoc]
   exact hR
  ·rw[if_neg h]at hR
   rw[a2b hk]
   show if (!(xs[j].s==p[i].v[k].s))=true then _ else _
   refine Xt (fun he=> ?_) fun he=> ?_
   ·have he:xs[j]≠p[i].v[k]:=fun e=>by rw[e]at he;simp at he
    rw[if_neg he]at hR
    refine⟨by simp;omega,by simp,by simp;omega,Zn hi rfl,Zu hi ⟨ixS hk,P6 hk,by simp;omega,by simp;omega,by simp,by simp;omega,?_⟩⟩
    rw[next hk2,coS hk]
    refine leaf j (by omega) ?_ _ _ (by simp;omega) ?_
    ·rw[hd];exact hR.symm
    ·exact e0j xs j _
   ·have he:xs[j].s=p[i].v[k].s:=by simpa using he
    have he:xs[j]=p[i].v[k]:=by
     generalize xs[j]=a at he ⊢
     generalize p[i].v[k]=b at he ⊢
     cases a;cases b;cases he;rfl
    rw[if_pos he,<- hd,List.take_append_drop]at hR
    rw[next hk2]
    rw[<- hR]at hK
    exact LQ hK hx rfl rfl
theorem c8v(p:List Mono)(R:List Str)(i:Nat)(hi:i<p.length)(h8:p[i].v.length<=8)(hil:p.length<=60)(hK : ∀ ys:List Str,ys.length<=8*(i+1)->R=(((p.drop (i+1)).flatMap (·.v)).foldl Ue ys) ->
  match ys with
  | []=>At YL 0 (Za Ye (Zi R)) Yd 0 86 [(0,.pv (enc p)),(3,.pv (.sl 0 true [])),(4,.pv (.int .i64 ((i+1:Nat):Int)))] []
  | x::r=>At YL 0 (Za Ye (Zi R)) Yd 0 86 [(0,.pv (enc p)),(3,.row 0 (r.length+1) 0 (r.length+1)),(4,.pv (.int .i64 ((i+1:Nat):Int)))] [.obj (.row false 9 1 ((x::r).map enc))]) :
  ∀ (d k:Nat) (xs:List Str),d+k=p[i].v.length->xs.length<=8*i+k->R=(p[i].v.drop k++(p.drop (i+1)).flatMap (·.v)).foldl Ue xs->va1 p R i k xs:=by
 intro d
 induction d with
 | zero=>
  intro k xs hk hx hR
  rw[List.drop_of_length_le (show p[i].v.length<=k by omega),List.nil_append]at hR
  have hK:=hK xs (by omega) hR
  cases xs with
  | nil=>
   refine a0i p i k ⟨Zn hi rfl,Zu hi (ZG (by rw[a0r];simp;omega) ?_)⟩
   rw[next (by omega)];exact hK
  | cons x r=>
   refine a1g p i k (r.length+1) (x::r) ⟨Zn hi rfl,Zu hi (ZG (by rw[a0r];simp;omega) ?_)⟩
   rw[next (by omega)];exact hK
 | succ d ih=>
  intro k xs hk hx hR
  have hlt:k<p[i].v.length:=by omega
  have hpl:=Pp p[i].v[k] xs
  rw[List.drop_eq_getElem_cons hlt,List.cons_append,List.foldl_cons]at hR
  have ih:=ih (k+1) (Ue xs p[i].v[k]) (by omega) (by omega) hR
  cases xs with
  | nil=>
   refine a0i p i k ⟨Zn hi rfl,Zu hi (ZA (by rw[a0r];simp;omega) ?_)⟩
   refine c0h p i k ⟨Zn hi rfl,Zu hi ⟨ixS hlt,P6 hlt,?_⟩⟩
   rw[next (by omega),a2b hlt]
   exact LQ ih (by simp[Ue]) rfl rfl
  | cons x r=>
   refine a1g p i k (r.length+1) (x::r) ⟨Zn hi rfl,Zu hi (ZA (by rw[a0r];simp;omega) ?_)⟩
   rw[List.length_cons]at hx
   exact e1h p R i k hi hlt (by omega) (x::r) (by simp) (by simp;omega) ih (x::r).length 0 rfl rfl
theorem d0x(p:List Mono)(R:List Str)(h8 : ∀ m∈p,m.v.length<=8)(hil:p.length<=60): ∀ (d i:Nat) (ys:List Str),d+i=p.length->ys.length<=8*i->R=((p.drop i).flatMap (·.v)).foldl Ue ys ->
  match ys with
  | []=>At YL 0 (Za Ye (Zi R)) Yd 0 86 [(0,.pv (enc p)),(3,.pv (.sl 0 true [])),(4,.pv (.int .i64 i))] []
  | x::r=>At YL 0 (Za Ye (Zi R)) Yd 0 86 [(0,.pv (enc p)),(3,.row 0 (r.length+1) 0 (r.length+1)),(4,.pv (.int .i64 i))] [.obj (.row false 9 1 ((x::r).map enc))]:=by
 intro d
 induction d with
 | zero=>
  intro i ys hi hy hR
  rw[List.drop_of_length_le (show p.length<=i by omega)]at hR
  have hR:R=ys:=hR
  cases ys with
  | nil=>
   rw[hR]
   exact Ox p i (ZG (YY (by omega)) ⟨rfl,rfl⟩)
  | cons x r=>
   refine a2p p i (r.length+1) (x::r) (ZG (YY (by omega)) ⟨by simp,?_⟩)
   rw[List.drop_zero,List.take_of_length_le (by simp),hR]
   exact ZC (x:=x::r) rfl
 | succ d ih=>
  intro i ys hi hy hR
  have hlt:i<p.length:=by omega
  rw[List.drop_eq_getElem_cons hlt,List.flatMap_cons]at hR
  have h:=c8v p R i hlt (h8 _ (List.getElem_mem hlt)) hil (fun ys h1 h2=>ih (i+1) ys (by omega) h1 h2) p[i].v.length 0 ys rfl (by omega) hR
  cases ys with
  | nil=>exact Ox p i (ZA (Yy hlt) h)
  | cons x r=>exact a2p p i (r.length+1) (x::r) (ZA (Yy hlt) h)
theorem b9s: ∀ x:List Mono×Unit,Ya x.1=true->Ze YL 0 (Za Ye (Zi (Y9 x.1))) Yd [] (Yn d1c (encL x)):=by
 rintro⟨p,⟨⟩⟩ h
 refine d6w p ⟨Zk (p,()) rfl h,Zg (p,()) rfl ?_⟩
 show if (!(Zx p))=true then Zi (Y9 p) _ else _
 refine Xt (fun hv=> ?_) fun hv=> ?_
 ·unfold Y9;rw[if_neg (by rw[hv];simp)]
  exact⟨rfl,rfl⟩
 ·obtain⟨h1,h2⟩:=Rf hv
  exact d0x p (Y9 p) h2 h1 p.length 0 [] rfl (by simp) (by unfold Y9;rw[if_pos hv];rfl)
def evS(v:List Coef)(s:Str)(st:Bool×Int×Bool×Bool):Option (Bool×Int×Bool×Bool):=
 match Wj v s with
 | none=>none
 | some n=>some (if YR n=false then(true,st.2.1,st.2.2.1,st.2.2.2)else if n=0 then(st.1,st.2.1,true,st.2.2.2)else if (X3 st.2.1 n).2≠0 then(st.1,st.2.1,st.2.2.1,true)else(st.1,(X3 st.2.1 n).1,st.2.2.1,st.2.2.2))
def a8c(v:List Coef):List Str->Bool×Int×Bool×Bool->Option (Bool×Int×Bool×Bool)
 | [],st=>some st
 | s::r,st=>match evS v s st with|none=>none|some st=>a8c v r st
def a1i(v:List Coef):List Mono->Bool×List Int->Option (Bool×List Int)
 | [],q=>some q
 | m::r,q=>match a8c v m.v (q.1,m.c,false,false)with
  | none=>none
  | some st=>a1i v r (if st.2.2.1 then(st.1,q.2++[0])else(st.1||st.2.2.2,q.2++[st.2.1]))
def Eh:Option (Bool×List Int)->Int×Int
 | none=>(0,7)
 | some q=>if q.1 then(0,2)else Xr q.2
def ev0(p:List Mono)(v:List Coef)(R:Int×Int)(i:Nat)(bad:Bool):List Int->Prop
 | []=>At Z8 0 (Za ZP (Zi R)) ZQ 0 100 [(0,.pv (enc p)),(1,.pv (enc v)),(6,.pv (.sl 0 true [])),(7,.pv (.bool bad)),(8,.pv (.int .i64 i))] []
 | x::r=>At Z8 0 (Za ZP (Zi R)) ZQ 0 100 [(0,.pv (enc p)),(1,.pv (enc v)),(6,.row 0 (r.length+1) 0 (r.length+1)),(7,.pv (.bool bad)),(8,.pv (.int .i64 i))] [.obj (.row false 3 1 ((x::r).map enc))]
theorem Gz{p:List Mono}{v:List Coef}{R:Int×Int}{i n:Nat}{bad:Bool}{ys:List Int}{qs:List PV}(h:ev0 p v R i bad ys)(h0:ys≠[])(hn:n=ys.length)(hy:qs=ys.map enc):
  At Z8 0 (Za ZP (Zi R)) ZQ 0 100 [(0,.pv (enc p)),(1,.pv (enc v)),(6,.row 0 n 0 n),(7,.pv (.bool bad)),(8,.pv (.int .i64 i))] [.obj (.row false 3 1 qs)]:=by
 subst hn hy
 cases ys with
 | nil=>exact absurd rfl h0
 | cons x r=>exact h
def ev1(p:List Mono)(v:List Coef)(R:Int×Int)(i k:Nat)(st:Bool×Int×Bool×Bool):List Int->Prop
 | []=>At Z8 0 (Za ZP (Zi R)) ZQ 1 100 [(0,.pv (enc p)),(1,.pv (enc v)),(6,.pv (.sl 0 true [])),(7,.pv (.bool st.1)),(8,.pv (.int .i64 i)),(9,.pv (.int .i64 st.2.1)),(10,.pv (.bool st.2.2.1)),(11,.pv (.bool st.2.2.2)),(12,.pv (.int .i64 k))] []
 | x::r=>At Z8 0 (Za ZP (Zi R)) ZQ 1 100 [(0,.pv (enc p)),(1,.pv (enc v)),(6,.row 0 (r.length+1) 0 (r.length+1)),(7,.pv (.bool st.1)),(8,.pv (.int .i64 i)),(9,.pv (.int .i64 st.2.1)),(10,.pv (.bool st.2.2.1)),(11,.pv (.bool st.2.2.2)),(12,.pv (.int .i64 k))] [.obj (.row false 3 1 ((x::r).map enc))]
def ev2(p:List Mono)(v:List Coef)(R:Int×Int)(i k j:Nat)(st:Bool×Int×Bool×Bool):List Int->Prop
 | []=>At Z8 0 (Za ZP (Zi R)) ZQ 2 100 [(0,.pv (enc p)),(1,.pv (enc v)),(6,.pv (.sl 0 true [])),(7,.pv (.bool st.1)),(8,.pv (.int .i64 i)),(9,.pv (.int .i64 st.2.1)),(10,.pv (.bool st.2.2.1)),(11,.pv (.bool st.2.2.2)),(12,.pv (.int .i64 k)),(13,.pv (.int .i64 j))] []
 | x::r=>At Z8 0 (Za ZP (Zi R)) ZQ 2 100 [(0,.pv (enc p)),(1,.pv (enc v)),(6,.row 0 (r.length+1) 0 (r.length+1)),(7,.pv (.bool st.1)),(8,.pv (.int .i64 i)),(9,.pv (.int .i64 st.2.1)),(10,.pv (.bool st.2.2.1)),(11,.pv (.bool st.2.2.2)),(12,.pv (.int .i64 k)),(13,.pv (.int .i64 j))] [.obj (.row false 3 1 ((x::r).map enc))]
theorem e0o(p:List Mono)(v:List Coef)(hv:v.length<=9223372036854775807)(R:Int×Int)(i k:Nat)(hi:i<p.length)(hk:k<p[i].v.length)(hk2:k<9223372036854775807)(st:Bool×Int×Bool×Bool)(xs:List Int)
  (h7:evS v p[i].v[k] st=none->R=(0,7)) (hK : ∀ st',evS v p[i].v[k] st=some st'->ev1 p v R i (k+1) st' xs) : ∀ (d j:Nat),d+j=v.length->Wj (v.drop j) p[i].v[k]=Wj v p[i].v[k]->ev2 p v R i k j st xs:=by
 obtain⟨bad,c,zero,big⟩:=st
 intro d
 induction d with
 | zero=>
  intro j hj hlook
  rw[List.drop_of_length_le (show v.length<=j by omega)]at hlook
  have hR:R=(0,7):=h7 (by unfold evS;rw[<- hlook];rfl)
  rw[hR]
  cases xs with
  | nil=>exact Ry p v bad i c zero big k j (ZG (YY (by omega)) (ZA (by simp;omega) ⟨rfl,rfl⟩))
  | cons x r=>exact Rc p v bad i c zero big k j (r.length+1) (x::r) (ZG (YY (by omega)) (ZA (by simp;omega) ⟨rfl,rfl⟩))
 | succ d ih=>
  intro j hj hlook
  have hlt:j<v.length:=by omega
  have ih:=ih (j+1) (by omega)
  by_cases he:v[j].v=p[i].v[k]
  ·have hl:Wj v p[i].v[k]=some v[j].c:=by
    rw[<- hlook,List.drop_eq_getElem_cons hlt,Wj,List.find?_cons_of_pos (by simpa using he)];rfl
   have hs:(v[j].v.s==p[i].v[k].s)=true:=by rw[he];simp
   have e1 : ∀ st',evS v p[i].v[k] (bad,c,zero,big)=some st' ↔ st'=(if YR v[j].c=false then(true,c,zero,big)else if v[j].c=0 then(bad,c,true,big)else if (X3 c v[j].c).2≠0 then(bad,c,zero,true)else(bad,(X3 c v[j].c).1,zero,big)):=by
    intro st'
    unfold evS
    rw[hl]
    exact⟨fun h=>(Option.some.inj h).symm,fun h=>by rw[h]⟩
   have hK:=hK _ ((e1 _).2 rfl)
   cases xs with
   | nil=>
    refine Ry p v bad i c zero big k j (ZA (Yy hlt) ⟨Zn hlt rfl,Zu hlt ⟨Zn hi rfl,Zu hi ⟨ixS hk,P6 hk,?_⟩⟩⟩)
    rw[a2b hk]
    refine ZG (by show ¬ (!(v[j].v.s==p[i].v[k].s))=true;rw[hs];decide) (ZG (by simp;omega) ⟨Zn hlt rfl,Zu hlt (Zg (v[j].c,()) rfl (Xt (fun hr=> ?_) fun hr=> ?_))⟩)
    ·have hr:YR v[j].c=false:=hr
     rw[if_pos hr]at hK
     rw[next hk2];exact hK
    ·have hr:YR v[j].c=true:=hr
     rw[if_neg (by rw[hr];simp)]at hK
     refine Ko (fun hz=> ?_) fun hz=>Zg (c,v[j].c,()) rfl (Ht (fun hm=> ?_) fun hm=> ?_)
     ·have hz:v[j].c=0:=hz
      rw[if_pos hz]at hK
      rw[next hk2];exact hK
     ·have hz:v[j].c≠0:=hz
      have hm:(X3 c v[j].c).2≠0:=by simpa using (show((X3 c v[j].c).2 != 0)=true from hm)
      rw[if_neg hz,if_pos hm]at hK
      rw[next hk2];exact hK
     ·have hz:v[j].c≠0:=hz
      have hm : ¬ (X3 c v[j].c).2≠0:=by simpa using (show ¬ ((X3 c v[j].c).2 != 0)=true from hm)
      rw[if_neg hz,if_neg hm]at hK
      rw[next hk2];exact hK
   | cons x r=>
    refine Rc p v bad i c zero big k j (r.length+1) (x::r) (ZA (Yy hlt) ⟨Zn hlt rfl,Zu hlt ⟨Zn hi rfl,Zu hi ⟨ixS hk,P6 hk,?_⟩⟩⟩)
    rw[a2b hk]
    refine ZG (by show ¬ (!(v[j].v.s==p[i].v[k].s))=true;rw[hs];decide) (ZG (by simp;omega) ⟨Zn hlt rfl,Zu hlt (Zg (v[j].c,()) rfl (Xt (fun hr=> ?_) fun hr=> ?_))⟩)
    ·have hr:YR v[j].c=false:=hr
     rw[if_pos hr]at hK
     rw[next hk2];exact hK
    ·have hr:YR v[j].c=true:=hr
     rw[if_neg (by rw[hr];simp)]at hK
     refine Ko (fun hz=> ?_) fun hz=>Zg (c,v[j].c,()) rfl (Ht (fun hm=> ?_) fun hm=> ?_)
     ·have hz:v[j].c=0:=hz
      rw[if_pos hz]at hK
      rw[next hk2];exact hK
     ·have hz:v[j].c≠0:=hz
      have hm:(X3 c v[j].c).2≠0:=by simpa using (show((X3 c v[j].c).2 != 0)=true from hm)
      rw[if_neg hz,if_pos hm]at hK
      rw[next hk2];exact hK
     ·have hz:v[j].c≠0:=hz
      have hm : ¬ (X3 c v[j].c).2≠0:=by simpa using (show ¬ ((X3 c v[j].c).2 != 0)=true from hm)
      rw[if_neg hz,if_neg hm]at hK
      rw[next hk2];exact hK
  ·have hs:(v[j].v.s==p[i].v[k].s)=false:=by
    rw[beq_eq_false_iff_ne]
    intro e
    refine he ?_
    generalize v[j].v=a at e ⊢
    generalize p[i].v[k]=b at e ⊢
    cases a;cases b;cases e;rfl
   have hlook':Wj (v.drop (j+1)) p[i].v[k]=Wj v p[i].v[k]:=by
    rw[<- hlook,List.drop_eq_getElem_cons hlt,Wj,Wj,List.find?_cons_of_neg (by simpa using he)]
   have ih:=ih hlook'
   cases xs with
   | nil=>
    refine Ry p v bad i c zero big k j (ZA (Yy hlt) ⟨Zn hlt rfl,Zu hlt ⟨Zn hi rfl,Zu hi ⟨ixS hk,P6 hk,?_⟩⟩⟩)
    rw[a2b hk]
    refine ZA (by show(!(v[j].v.s==p[i].v[k].s))=true;rw[hs];rfl) ?_
    rw[next (by omega)];exact ih
   | cons x r=>
    refine Rc p v bad i c zero big k j (r.length+1) (x::r) (ZA (Yy hlt) ⟨Zn hlt rfl,Zu hlt ⟨Zn hi rfl,Zu hi ⟨ixS hk,P6 hk,?_⟩⟩⟩)
    rw[a2b hk]
    refine ZA (by show(!(v[j].v.s==p[i].v[k].s))=true;rw[hs];rfl) ?_
    rw[next (by omega)];exact ih
theorem d3m(p:List Mono)(v:List Coef)(hv:v.length<=9223372036854775807)(R:Int×Int)(i:Nat)(hi:i<p.length)(h8:p[i].v.length<=8)(hil:p.length<=60)(xs:List Int)(hxs:xs.length=i)
  (hK : ∀ bad x,R=Eh (a1i v (p.drop (i+1)) (bad,xs++[x]))->ev0 p v R (i+1) bad (xs++[x])) :
  ∀ (d k:Nat) (st:Bool×Int×Bool×Bool),d+k=p[i].v.length->R=Eh (match a8c v (p[i].v.drop k) st with|none=>none|some st=>a1i v (p.drop (i+1)) (if st.2.2.1 then(st.1,xs++[0])else(st.1||st.2.2.2,xs++[st.2.1])))->ev1 p v R i k st xs:=by
 intro d
 induction d with
 | zero=>
  rintro k ⟨bad,c,zero,big⟩ hk hR
  rw[List.drop_of_length_le (show p[i].v.length<=k by omega)]at hR
  have hR:R=Eh (a1i v (p.drop (i+1)) (if zero=true then(bad,xs++[0])else(bad||big,xs++[c]))):=hR
  cases xs with
  | nil=>
   refine a2o p v bad i c zero big k ⟨Zn hi rfl,Zu hi (ZG (by rw[a0r];simp;omega) (Ht (fun hz=> ?_) fun hz=>Ht (fun hb=> ?_) fun hb=> ?_))⟩
   ·rw[if_pos hz]at hR
    rw[next (by omega)]
    exact Gz (hK bad 0 hR) (by simp) rfl rfl
   ·subst hb
    rw[if_neg hz]at hR
    rw[next (by omega)]
    exact Gz (hK true c hR) (by simp) rfl rfl
   ·obtain rfl:bad=false:=by simpa using hb
    rw[if_neg hz]at hR
    rw[next (by omega)]
    exact Gz (hK big c hR) (by simp) rfl rfl
  | cons x r=>
   refine O9 p v bad i c zero big k (r.length+1) (x::r) ⟨Zn hi rfl,Zu hi (ZG (by rw[a0r];simp;omega) (Ht (fun hz=> ?_) fun hz=>Ht (fun hb=> ?_) fun hb=> ?_))⟩
   ·rw[if_pos hz]at hR
    refine⟨J7 (m:=1) (by simp) (by rw[List.length_cons]at hxs;omega) (by rw[List.length_cons]at hxs;omega),?_⟩
    rw[next (by omega)]
    exact Gz (hK bad 0 hR) (by simp) (by simp) (by rw[List.map_append];rfl)
   ·subst hb
    rw[if_neg hz]at hR
    refine⟨J7 (m:=1) (by simp) (by rw[List.length_cons]at hxs;omega) (by rw[List.length_cons]at hxs;omega),?_⟩
    rw[next (by omega)]
    exact Gz (hK true c hR) (by simp) (by simp) (by rw[List.map_append];rfl)
   ·obtain rfl:bad=false:=by simpa using hb
    rw[if_neg hz]at hR
    refine⟨J7 (m:=1) (by simp) (by rw[List.length_cons]at hxs;omega) (by rw[List.length_cons]at hxs;omega),?_⟩
    rw[next (by omega)]
    exact Gz (hK big c hR) (by simp) (by simp) (by rw[List.map_append];rfl)
 | succ d ih=>
  intro k st hk hR
  have hlt:k<p[i].v.length:=by omega
  rw[List.drop_eq_getElem_cons hlt]at hR
  have h2:ev2 p v R i k 0 st xs:=by
   refine e0o p v hv R i k hi hlt (by omega) st xs (fun h=> ?_) (fun st' h=> ?_) v.length 0 rfl rfl
   ·rw[hR,a8c,h];rfl
   ·refine ih (k+1) st' (by omega) ?_
    rw[hR,a8c,h]
  obtain⟨bad,c,zero,big⟩:=st
  cases xs with
  | nil=>exact a2o p v bad i c zero big k ⟨Zn hi rfl,Zu hi (ZA (by rw[a0r];simp;omega) h2)⟩
  | cons x r=>exact O9 p v bad i c zero big k (r.length+1) (x::r) ⟨Zn hi rfl,Zu hi (ZA (by rw[a0r];simp;omega) h2)⟩
theorem d0z(p:List Mono)(v:List Coef)(hv:v.length<=9223372036854775807)(h8 : ∀ m∈p,m.v.length<=8)(hil:p.length<=60)(R:Int×Int): ∀ (d i:Nat) (bad:Bool) (xs:List Int),d+i=p.length->xs.length=i->R=Eh (a1i v (p.drop i) (bad,xs))->ev0 p v R i bad xs:=by
 intro d
 induction d with
 | zero=>
  intro i bad xs hi hx hR
  rw[List.drop_of_length_le (show p.length<=i by omega)]at hR
  have hR:R=(if bad=true then(0,2)else Xr xs):=hR
  cases xs with
  | nil=>
   refine EL p v bad i (ZG (YY (by omega)) (Ht (fun h=> ?_) fun h=> ?_))
   ·rw[hR,if_pos h];exact⟨rfl,rfl⟩
   ·rw[hR,if_neg h]
    exact UV (([]:List Int),()) rfl (ZC (x:=Xr []) rfl)
  | cons x r=>
   refine E5 p v bad i (r.length+1) (x::r) (ZG (YY (by omega)) (Ht (fun h=> ?_) fun h=> ?_))
   ·rw[hR,if_pos h];exact⟨rfl,rfl⟩
   ·rw[hR,if_neg h]
    have e:List.drop 0 (List.take (r.length+1) (List.map (enc:Int->PV) (x::r)))=(x::r).map enc:=by rw[List.drop_zero,List.take_of_length_le (by simp)]
    refine⟨by simp,?_⟩
    rw[e]
    exact⟨Zk ((x::r),()) rfl (by show decide ((x::r).length<=60)=true;exact decide_eq_true (by omega)),Zg ((x::r),()) rfl (ZC (x:=Xr (x::r)) rfl)⟩
 | succ d ih=>
  intro i bad xs hi hx hR
  have hlt:i<p.length:=by omega
  rw[List.drop_eq_getElem_cons hlt]at hR
  have h1:ev1 p v R i 0 (bad,p[i].c,false,false) xs:=d3m p v hv R i hlt (h8 _ (List.getElem_mem hlt)) hil xs hx (fun b x h=>ih (i+1) b _ (by omega) (by simp[hx]) h) p[i].v.length 0 _ rfl hR
  cases xs with
  | nil=>exact EL p v bad i (ZA (Yy hlt) ⟨Zn hlt rfl,Zu hlt h1⟩)
  | cons x r=>exact E5 p v bad i (r.length+1) (x::r) (ZA (Yy hlt) ⟨Zn hlt rfl,Zu hlt h1⟩)
theorem PO{n:Int}(h1 : -4611686018427387904<=n)(h2:n<=4611686018427387904):YR n=true:=by
 unfold YR;rw[decide_eq_true h1,decide_eq_true h2];rfl
theorem a5u{n:Int}(h:YR n=true): -4611686018427387904<=n∧n<=4611686018427387904:=by
 unfold YR at h
 simpa using h
abbrev EvT:=Bool×Int×Bool×Bool
def GI(st:EvT)(n:Int):EvT:=if YR n=false then(true,st.2.1,st.2.2.1,st.2.2.2)else if n=0 then(st.1,st.2.1,true,st.2.2.2)else if (X3 st.2.1 n).2≠0 then(st.1,st.2.1,st.2.2.1,true)else(st.1,(X3 st.2.1 n).1,st.2.2.1,st.2.2.2)
theorem EE(v:List Coef): ∀ (ss:List Str) (st:EvT),a8c v ss st=(D5 v ss).map fun l=>l.foldl GI st
 | [],st=>rfl
 | s::r,st=>by
  rw[Gx,a8c]
  unfold evS
  cases hl:Wj v s with
  | none=>rfl
  | some n=>
   simp only
   rw[EE v r,Option.map_map]
   rfl
theorem b8v: ∀ (l:List Int) (st:EvT),(l.foldl GI st).1=(st.1||l.any fun x=> !YR x)
 | [],st=>by simp
 | n::r,st=>by
  rw[List.foldl_cons,b8v r,List.any_cons]
  unfold GI
  by_cases h1:YR n=false
  ·rw[if_pos h1,h1];simp
  ·rw[if_neg h1]
   have h1:YR n=true:=by simpa using h1
   rw[h1]
   by_cases h2:n=0
   ·rw[if_pos h2];simp
   ·rw[if_neg h2]
    split <;> simp
theorem d5b: ∀ (l:List Int) (st:EvT),(l.any fun x=> !YR x)=false->(l.foldl GI st).2.2.1=(st.2.2.1||l.contains 0)
 | [],st,_=>by simp
 | n::r,st,h=>by
  rw[List.any_cons,Bool.or_eq_false_iff]at h
  have h1 : ¬ YR n=false:=by simpa using h.1
  rw[List.foldl_cons,d5b r _ h.2,List.contains_cons]
  unfold GI
  rw[if_neg h1]
  by_cases h2:n=0
  ·rw[if_pos h2,h2];simp
  ·rw[if_neg h2]
   have:((0:Int)==n)=false:=by simpa using fun e:0=n=>h2 e.symm
   rw[this]
   split <;> simp
theorem d5e: ∀ (l:List Int) (b:Bool) (c:Int) (z:Bool),(l.any fun x=> !YR x)=false->l.contains 0=false->(l.foldl GI (b,c,z,true)).2.2.2=true
 | [],b,c,z,_,_=>rfl
 | n::r,b,c,z,h,h0=>by
  rw[List.any_cons,Bool.or_eq_false_iff]at h
  rw[List.contains_cons,Bool.or_eq_false_iff]at h0
  have h1 : ¬ YR n=false:=by simpa using h.1
  have h2 : ¬ n=0:=fun e=>by subst e;simp at h0
  rw[List.foldl_cons]
  have e:GI (b,c,z,true) n=(b,(if (X3 c n).2≠0 then c else(X3 c n).1),z,true):=by
   unfold GI
   rw[if_neg h1,if_neg h2]
   split <;> rfl
  rw[e]
  exact d5e r _ _ _ h.2 h0.2
theorem d5g: ∀ (l:List Int) (b:Bool) (c:Int) (z:Bool),(l.any fun x=> !YR x)=false->l.contains 0=false ->
  ((Q3 c l).2=0->(l.foldl GI (b,c,z,false)).2.2.2=false∧(l.foldl GI (b,c,z,false)).2.1=(Q3 c l).1)∧((Q3 c l).2≠0->(l.foldl GI (b,c,z,false)).2.2.2=true)
 | [],b,c,z,_,_=>⟨fun _=>⟨rfl,rfl⟩,fun h=>absurd rfl h⟩
 | n::r,b,c,z,h,h0=>by
  rw[List.any_cons,Bool.or_eq_false_iff]at h
  rw[List.contains_cons,Bool.or_eq_false_iff]at h0
  have h1 : ¬ YR n=false:=by simpa using h.1
  have h2 : ¬ n=0:=fun e=>by subst e;simp at h0
  rw[List.foldl_cons,Q3]
  by_cases h3:(X3 c n).2=0
  ·have e:GI (b,c,z,false) n=(b,(X3 c n).1,z,false):=by
    unfold GI
    rw[if_neg h1,if_neg h2,if_neg (by simpa using h3)]
   rw[if_neg (by simpa using h3),e]
   exact d5g r _ _ _ h.2 h0.2
  ·have e:GI (b,c,z,false) n=(b,c,z,true):=by
    unfold GI
    rw[if_neg h1,if_neg h2,if_pos h3]
   rw[if_pos h3,e]
   exact⟨fun h=>absurd h h3,fun _=>d5e r _ _ _ h.2 h0.2⟩
def P7(q:Bool×List Int)(f:List Int):Bool×List Int:=
 if (f.tail.foldl GI (q.1,f.headD 0,false,false)).2.2.1 then((f.tail.foldl GI (q.1,f.headD 0,false,false)).1,q.2++[0])
 else((f.tail.foldl GI (q.1,f.headD 0,false,false)).1||(f.tail.foldl GI (q.1,f.headD 0,false,false)).2.2.2,q.2++[(f.tail.foldl GI (q.1,f.headD 0,false,false)).2.1])
theorem a0a(v:List Coef): ∀ (p:List Mono) (q:Bool×List Int),a1i v p q=(G6 v p).map fun fs=>fs.foldl P7 q
 | [],q=>rfl
 | m::r,q=>by
  rw[a1i,G6,EE]
  cases D5 v m.v with
  | none=>rfl
  | some l=>
   simp only[Option.map_some]
   rw[a0a v r,Option.map_map]
   rfl
theorem CQ: ∀ (fs:List (List Int)) (xs:List Int),(fs.foldl P7 (true,xs)).1=true
 | [],_=>rfl
 | f::r,xs=>by
  rw[List.foldl_cons]
  have:(P7 (true,xs) f).1=true:=by
   unfold P7
   have h:=b8v f.tail (true,f.headD 0,false,false)
   split
   ·rw[h];rfl
   ·show(_||_)=true
    rw[h];rfl
  have e:P7 (true,xs) f=(true,(P7 (true,xs) f).2):=Prod.ext this rfl
  rw[e]
  exact CQ r _
theorem b0s{c:Int}{l:List Int}(hc:c≠0)(hi:YR c=true):Xn (c::l)=if l.contains 0 then(0,0)else Q3 c l:=by
 unfold Xn
 have:((0:Int)==c)=false:=by simpa using fun e:0=c=>hc e.symm
 rw[List.contains_cons,this,Bool.false_or,Q3]
 have e:X3 1 c=(c,0):=by
  unfold X3
  rw[Int.one_mul,hi];rfl
 rw[e];rfl
theorem Om: ∀ (fs:List (List Int)) (xs:List Int),(∀ f∈fs,∃ c l,f=c::l∧c≠0∧YR c=true) ->
  (badF fs=true->(fs.foldl P7 (false,xs)).1=true)∧(badF fs=false->match Yr fs with|none=>(fs.foldl P7 (false,xs)).1=true|some ys=>fs.foldl P7 (false,xs)=(false,xs++ys))
 | [],xs,_=>⟨fun h=>(by cases h),fun _=>(by simp[Yr])⟩
 | f::r,xs,h=>by
  obtain⟨c,l,rfl,hc,hi⟩:=h f (by simp)
  have hr : ∀ f∈r,∃ c l,f=c::l∧c≠0∧YR c=true:=fun g hg=>h g (by simp[hg])
  have h1:=b8v l (false,c,false,false)
  have eb:badF ((c::l)::r)=((l.any fun x=> !YR x)||badF r):=rfl
  rw[eb,List.foldl_cons]
  cases hl:l.any fun x=> !YR x with
  | true=>
   rw[hl]at h1
   have:(P7 (false,xs) (c::l)).1=true:=by
    unfold P7
    show(if (l.foldl GI (false,c,false,false)).2.2.1=true then((l.foldl GI (false,c,false,false)).1,_)else((l.foldl GI (false,c,false,false)).1||_,_):Bool×List Int).1=true
    rw[h1]
    split <;> rfl
   have e:P7 (false,xs) (c::l)=(true,(P7 (false,xs) (c::l)).2):=Prod.ext this rfl
   rw[e]
   exact⟨fun _=>CQ _ _,fun h=>(by cases h)⟩
  | false=>
   rw[hl]at h1
   have hz:=d5b l (false,c,false,false) hl
   rw[Bool.false_or]
   cases h0:l.contains 0 with
   | true=>
    rw[h0]at hz
    have e:P7 (false,xs) (c::l)=(false,xs++[0]):=by
     unfold P7
     show(if (l.foldl GI (false,c,false,false)).2.2.1=true then((l.foldl GI (false,c,false,false)).1,xs++[0])else _:Bool×List Int)=_
     rw[hz,h1];rfl
    rw[e]
    obtain⟨i1,i2⟩:=Om r (xs++[0]) hr
    refine⟨i1,fun hb=> ?_⟩
    have i2:=i2 hb
    have hP:Xn (c::l)=(0,0):=by rw[b0s hc hi,h0];rfl
    rw[Yr,hP,if_neg (show ¬ ((0,0):Int×Int).2≠0 from fun h=>h rfl)]
    cases hp:Yr r with
    | none=>rw[hp]at i2;exact i2
    | some ys=>rw[hp]at i2;simpa using i2
   | false=>
    rw[h0]at hz
    obtain⟨p1,p2⟩:=d5g l false c false hl h0
    have hP:Xn (c::l)=Q3 c l:=by rw[b0s hc hi,h0];rfl
    rw[Yr,hP]
    by_cases hg:(Q3 c l).2=0
    ·obtain⟨p3,p4⟩:=p1 hg
     have e:P7 (false,xs) (c::l)=(false,xs++[(Q3 c l).1]):=by
      unfold P7
      show(if (l.foldl GI (false,c,false,false)).2.2.1=true then _ else((l.foldl GI (false,c,false,false)).1||(l.foldl GI (false,c,false,false)).2.2.2,xs++[(l.foldl GI (false,c,false,false)).2.1]):Bool×List Int)=_
      rw[hz,h1,p3,p4];rfl
     rw[e]
     obtain⟨i1,i2⟩:=Om r (xs++[(Q3 c l).1]) hr
     refine⟨i1,fun hb=> ?_⟩
     have i2:=i2 hb
     rw[if_neg (show ¬ (Q3 c l).2≠0 from fun h=>h hg)]
     cases hp:Yr r with
     | none=>rw[hp]at i2;exact i2
     | some ys=>rw[hp]at i2;simpa using i2
    ·have e:P7 (false,xs) (c::l)=(true,xs++[(l.foldl GI (false,c,false,false)).2.1]):=by
      unfold P7
      show(if (l.foldl GI (false,c,false,false)).2.2.1=true then _ else((l.foldl GI (false,c,false,false)).1||(l.foldl GI (false,c,false,false)).2.2.2,xs++[(l.foldl GI (false,c,false,false)).2.1]):Bool×List Int)=_
      rw[hz,h1,p2 hg];rfl
     rw[e,if_pos hg]
     exact⟨fun _=>CQ _ _,fun _=>CQ _ _⟩
theorem PP{v:List Coef}: ∀ {p:List Mono} {fs:List (List Int)},(∀ m∈p,m.c≠0∧YR m.c=true)->G6 v p=some fs-> ∀ f∈fs,∃ c l,f=c::l∧c≠0∧YR c=true
 | [],fs,_,h=>by cases h;intro f hf;cases hf
 | m::r,fs,hm,h=>by
  rw[G6]at h
  cases hv:D5 v m.v with
  | none=>rw[hv]at h;cases h
  | some l=>
   rw[hv]at h
   obtain⟨gs,hg,rfl⟩:=Option.map_eq_some_iff.1 h
   intro f hf
   rcases List.mem_cons.1 hf with rfl|hf
   ·exact⟨m.c,l,rfl,hm m (by simp)⟩
   ·exact PP (fun m hm'=>hm m (by simp[hm'])) hg f hf
theorem d8g{p:List Mono}(h:Zx p=true): ∀ m∈p,m.c≠0∧YR m.c=true:=by
 unfold Zx at h
 simp only[Bool.and_eq_true,decide_eq_true_eq,List.all_eq_true]at h
 intro m hm
 have:=h.1.2 m hm
 unfold Xg at this
 simp only[Bool.and_eq_true,decide_eq_true_eq]at this
 exact⟨this.1.1.1.1.1,PO (by omega) (by omega)⟩
theorem b3c{p:List Mono}(v:List Coef)(h:Zx p=true):Eh (a1i v p (false,[]))=Yq p v:=by
 rw[a0a]
 unfold Yq
 rw[if_pos h]
 cases hf:G6 v p with
 | none=>rfl
 | some fs=>
  obtain⟨h1,h2⟩:=Om fs [] (PP (d8g h) hf)
  show(if (fs.foldl P7 (false,[])).1=true then((0:Int),(2:Int))else Xr (fs.foldl P7 (false,[])).2)=if badF fs=true then(0,2)else match Yr fs with|none=>(0,2)|some l=>Xr l
  by_cases hb:badF fs=true
  ·rw[if_pos hb,if_pos (h1 hb)]
  ·have h2:=h2 (by simpa using hb)
   rw[if_neg hb]
   cases hp:Yr fs with
   | none=>rw[hp]at h2;rw[if_pos h2]
   | some ys=>
    rw[hp]at h2
    rw[h2];rfl
theorem c4i: ∀ x:List Mono×List Coef×Unit,(Ya x.1&&Zr x.2.1)=true->Ze Z8 0 (Za ZP (Zi (Yq x.1 x.2.1))) ZQ [] (Yn d2n (encL x)):=by
 rintro⟨p,v,⟨⟩⟩ h
 rw[Bool.and_eq_true]at h
 refine d8y p v ⟨Zk (p,()) rfl h.1,Zg (p,()) rfl ?_⟩
 show if (!(Zx p))=true then Zi (Yq p v) _ else _
 refine Xt (fun hv=> ?_) fun hv=> ?_
 ·unfold Yq;rw[if_neg (by rw[hv];simp)]
  exact⟨rfl,rfl⟩
 ·obtain⟨h1,h2⟩:=Rf hv
  exact d0z p v (Zz.1 h.2) h2 h1 (Yq p v) p.length 0 false [] rfl rfl (b3c v hv).symm
theorem NJ{n:Int}(h:YR n=true):DN n 2147483648=(n / 2147483648,0):=by
 obtain⟨h1,h2⟩:=a5u h
 have e1:Et n 2147483648=0:=by
  unfold Et
  rw[h];rfl
 unfold DN
 rw[e1,if_neg (by simp)]
 congr 1
 have hf:=a8d (a:=n) (b:=2147483648) (by decide) h1 h2
 omega
theorem b7k{l:List Int}(hr:l.all YR=true)(hl:l.length<=20000)(i:Nat):((l.take i).map WI).sum.natAbs<=20000*2147483648∧0<=((l.take i).map Wh).sum∧((l.take i).map Wh).sum<=20000*2147483648:=by
 have hr:=List.all_eq_true.1 hr
 have h1:=JU (l:=(l.take i).map WI) (a:= -2147483648) (b:=2147483648) (by
  intro x hx
  obtain⟨n,hn,rfl⟩:=List.mem_map.1 hx
  exact EW (hr n (List.mem_of_mem_take hn)))
 have h2:=JU (l:=(l.take i).map Wh) (a:=0) (b:=2147483647) (by
  intro x hx
  obtain⟨n,hn,rfl⟩:=List.mem_map.1 hx
  exact a2w n)
 rw[List.length_map,List.length_take]at h1 h2
 omega
theorem b2e(a b l:List Int)(hl:l.length<=20000)(hr:l.all YR=true): ∀ (d i:Nat) (hi lo:Int),d+i=l.length->hi=((l.take i).map WI).sum->lo=((l.take i).map Wh).sum ->
  At JP 0 (Za QK (Zi (Xr l))) QJ 0 71 [(6,.row 0 l.length 0 l.length),(7,.pv (.int .i64 hi)),(8,.pv (.int .i64 lo)),(9,.pv (.int .i64 i))] [.obj (.row false 3 1 (l.map enc))]:=by
 intro d
 induction d with
 | zero=>
  intro i hi lo hd e1 e2
  have hb:=b7k hr hl i
  have hs:=Cn (l.take i)
  rw[<- e1,<- e2]at hb hs
  rw[List.take_of_length_le (show l.length<=i by omega)]at hs
  have hlo:YR lo=true:=PO (by omega) (by omega)
  have hhi:XI (hi+lo / 2147483648)=hi+lo / 2147483648:=Y2 (by omega) (by omega)
  have hlo2:IntKind.i64.wrap (lo - IntKind.i64.wrap (lo / 2147483648*2147483648))=lo % 2147483648:=by
   show XI (lo - XI (lo / 2147483648*2147483648))=_
   rw[Y2 (n:=lo / 2147483648*2147483648) (by omega) (by omega),Y2 (by omega) (by omega)]
   omega
  refine b0e a b l.length l hi lo i (ZG (by simp;omega) (Zg (lo,2147483648,()) rfl ?_))
  simp only[NJ hlo]
  refine Zg (XI (hi+lo / 2147483648),2147483648,()) rfl ?_
  rw[hhi,hlo2]
  unfold Xr
  rw[hr]
  have hsum:l.sum=(hi+lo / 2147483648)*2147483648+lo % 2147483648:=by omega
  have hH:YR (hi+lo / 2147483648)=true:=PO (by omega) (by omega)
  show if ((X3 (hi+lo / 2147483648) 2147483648).2 != 0)=true then _ else _
  unfold X3
  rw[hH,Bool.true_and]
  by_cases hm:YR ((hi+lo / 2147483648)*2147483648)=true
  ·have hc:(YR 2147483648&&YR ((hi+lo / 2147483648)*2147483648))=true:=by rw[hm];decide
   rw[if_pos hc]
   refine ZG (by simp) (Zg ((hi+lo / 2147483648)*2147483648,lo % 2147483648,()) rfl ?_)
   have hq:YR (lo % 2147483648)=true:=PO (by omega) (by omega)
   have:a7u ((hi+lo / 2147483648)*2147483648) (lo % 2147483648)=if (true&&YR l.sum)=true then(l.sum,0)else(0,2):=by
    unfold a7u
    rw[hm,hq,hsum];rfl
   rw[this]
   exact ZC (x:=if (true&&YR l.sum)=true then(l.sum,(0:Int))else(0,2)) rfl
  ·have hc : ¬ (YR 2147483648&&YR ((hi+lo / 2147483648)*2147483648))=true:=by
    rw[Bool.and_eq_true];exact fun h=>hm h.2
   rw[if_neg hc]
   refine ZA (by simp) ?_
   have : ¬ YR l.sum=true:=by
    intro h
    have h:=a5u h
    refine hm (PO ?_ ?_) <;> omega
   rw[Bool.true_and,if_neg this]
   exact⟨rfl,rfl⟩
 | succ d ih=>
  intro i hi lo hd e1 e2
  have hlt:i<l.length:=by omega
  have hb:=b7k hr hl i
  rw[<- e1,<- e2]at hb
  have hri:YR l[i]=true:=List.all_eq_true.1 hr _ (List.getElem_mem hlt)
  have hrb:=a5u hri
  have ht:l.take (i+1)=l.take i++[l[i]]:=List.take_succ_eq_append_getElem hlt
  have ih:=ih (i+1) (hi+WI l[i]) (lo+Wh l[i]) (by omega) (by rw[ht,List.map_append,List.sum_append,e1];simp) (by rw[ht,List.map_append,List.sum_append,e2];simp)
  refine b0e a b l.length l hi lo i (ZA (by simp;omega) ⟨by simp;omega,by simp;omega,by rw[Bl enc hlt];rfl,?_⟩)
  rw[Bl enc hlt]
  refine Zg (l[i],2147483648,()) rfl ?_
  simp only[NJ hri]
  refine⟨by simp;omega,by simp;omega,rfl,?_⟩
  have w1:XI (hi+l[i] / 2147483648)=hi+WI l[i]:=by
   show XI (hi+WI l[i])=_
   have:=EW hri
   exact Y2 (by omega) (by omega)
  have w2:XI (lo+XI (l[i] - XI (l[i] / 2147483648*2147483648)))=lo+Wh l[i]:=by
   have:=a2w l[i]
   have e:l[i] - l[i] / 2147483648*2147483648=Wh l[i]:=by unfold Wh;omega
   rw[Y2 (n:=l[i] / 2147483648*2147483648) (by omega) (by omega),e,Y2 (n:=Wh l[i]) (by omega) (by omega)]
   exact Y2 (by omega) (by omega)
  show At JP 0 (Za QK (Zi (Xr l))) QJ 0 71 [(6,.row 0 l.length 0 l.length),(7,.pv (.int .i64 (XI (hi+l[i] / 2147483648)))),(8,.pv (.int .i64 (XI (lo+XI (l[i] - XI (l[i] / 2147483648*2147483648)))))),(9,.pv (.int .i64 (XI (i+1))))] _
  rw[w1,w2]
  show At JP 0 (Za QK (Zi (Xr l))) QJ 0 71 [_,_,_,(9,.pv (.int .i64 (IntKind.i64.wrap (i+1))))] _
  rw[next (by omega)]
  exact ih
theorem c6u: ∀ x:List Int×List Int×Unit,(decide (x.1.length<=10000)&&decide (x.2.1.length<=10000)&&x.1.all YR&&x.2.1.all YR)=true->Ze JP 0 (Za QK (Zi (Xr (x.1++x.2.1)))) QJ [] (Yn d3b (encL x)):=by
 rintro⟨a,b,⟨⟩⟩ h
 simp only[Bool.and_eq_true,decide_eq_true_eq]at h
 obtain⟨⟨⟨h1,h2⟩,h3⟩,h4⟩:=h
 have h:=b2e a b (a++b) (by rw[List.length_append];omega) (by rw[List.all_append,h3,h4];rfl) (a++b).length 0 0 0 rfl rfl rfl
 refine d7d a b ⟨by simp[Enc.sz],by simp;omega,by simp[Enc.sz],by simp;omega,?_⟩
 have e1:0+List.length (List.map (enc:Int->PV) a)+List.length (List.map (enc:Int->PV) b)=(a++b).length:=by simp
 have e2:([]:List PV)++List.map enc a++List.map enc b=List.map enc (a++b):=by simp
 rw[e1,e2]
 exact h
theorem b1b{b:BoxT}{fs:List Fact}{l:Lin}(h:Yh b fs l=true):ZJ b=true∧Zl fs=true∧fs.length<=100∧b.v.length<=1000∧Z0 l=true∧l.t.length<=1000:=by
 simp only[Yh,Bool.and_eq_true,decide_eq_true_eq]at h
 obtain⟨⟨⟨⟨⟨h1,h2⟩,h3⟩,h4⟩,h5⟩,h6⟩:=h
 exact⟨h1,h2,h3,h4,h5,h6⟩
theorem Eo{b:BoxT}{fs:List Fact}{l:Lin}:Zj b fs (Zh l&&Zx []) (Zd l++Y9 [])=Zj b fs (Zh l) (Zd l):=by
 have e1:Zx []=true:=rfl
 have e2:Y9 []=[]:=rfl
 rw[e1,e2,Bool.and_true,List.append_nil]
theorem Nh{b:BoxT}{fs:List Fact}{ok:Bool}{ns:List Str}(h:Zj b fs ok ns=0):YQ b fs=(Zv b fs,0):=by
 obtain⟨h1,h2,h3,h4⟩:=Xh _ _ _ _ h
 have:Zj b fs true []=0:=by
  unfold Zj
  rw[h1,h2]
  rw[QO,Bool.and_eq_true]at h4
  rw[List.nil_append,h4.2];rfl
 unfold YQ
 rw[if_pos this]
theorem a1s(b:BoxT)(fs:List Fact)(l:Lin)(hb:b.v.length<=1000)(hl:Z0 l=true)(hp:(Zv b fs).length<=20000)(hpl : ∀ q∈Zv b fs,q.length<=1000): ∀ (d i:Nat) (z:Int),d+i=(Zv b fs).length->(i≠0->Vz lessB ((ZB b fs l).take i)=some z)->(d+i≠0) ->
  At VC 0 (Za WB (Zi (match Vz lessB (ZB b fs l)with|none=>((0:Int),(9:Int))|some z=>(z,0)))) Vm 0 57 [(3,.ptr 0 0),(5,.ptr 1 0),(9,.pv (enc (Zv b fs))),(11,.pv (.int .i64 z)),(12,.pv (.int .i64 i))] [.obj (.box [.pv (enc b.v),.pv (.int .i64 b.m)]),.obj (.box [.pv (.int .i64 l.k),.pv (enc l.t)])]:=by
 have hn:(ZB b fs l).length=(Zv b fs).length:=by unfold ZB;rw[List.length_map]
 intro d
 induction d with
 | zero=>
  intro i z hi hz h0
  have hz:=hz (by omega)
  rw[List.take_of_length_le (by omega)]at hz
  rw[hz]
  exact Nl b fs l (Zv b fs) z i (ZG (YY (by omega)) (ZC (x:=(z,(0:Int))) rfl))
 | succ d ih=>
  intro i z hi hz h0
  have hlt:i<(Zv b fs).length:=by omega
  have hlv:i<(ZB b fs l).length:=by omega
  have hq:=hpl _ (List.getElem_mem hlt)
  have hok:Z9 l=true:=by
   unfold Z0 at hl
   rw[Bool.and_eq_true]at hl;exact hl.1
  have ev:(ZZ l (Zf b.v (Zv b fs)[i])).1=(ZB b fs l)[i]:=c9s hlt hlv
  have ht:(ZB b fs l).take (i+1)=(ZB b fs l).take i++[(ZB b fs l)[i]]:=List.take_succ_eq_append_getElem hlv
  have p1:(decide (b.v.length<=1000)&&Zr (Zv b fs)[i])=true:=by rw[decide_eq_true hb,Zz.2 (by omega)];rfl
  have p2:(Z9 l&&decide ((Zf b.v (Zv b fs)[i]).length<=9223372036854775807))=true:=by
   rw[hok,decide_eq_true (by unfold Zf;rw[List.length_zipWith];omega)];rfl
  refine Nl b fs l (Zv b fs) z i (ZA (Yy hlt) ⟨Zn hlt rfl,Zu hlt ⟨Zk (b,(Zv b fs)[i],()) rfl p1,Zg (b,(Zv b fs)[i],()) rfl ⟨Zk (l,Zf b.v (Zv b fs)[i],()) rfl p2,Zg (l,Zf b.v (Zv b fs)[i],()) rfl ?_⟩⟩⟩)
  show if ((i:Int)==0)=true then _ else if decide ((ZZ l (Zf b.v (Zv b fs)[i])).1<z)=true then _ else _
  rw[next (by omega)]
  refine Ht (fun h1=> ?_) fun h1=> ?_
  ·have h1:i=0:=by simpa using h1
   refine ih (i+1) _ (by omega) (fun _=> ?_) (by omega)
   rw[ht]
   subst h1
   show Vz lessB ([]++[(ZB b fs l)[0]])=some (ZZ l (Zf b.v (Zv b fs)[0])).1
   rw[List.nil_append,ev];rfl
  ·have h1:i≠0:=by simpa using h1
   have hz:=hz h1
   have hbest:Vz lessB ((ZB b fs l).take (i+1))=some (if lessB (ZB b fs l)[i] z=true then(ZB b fs l)[i]else z):=by
    rw[ht,Nf,hz]
   refine XJ (fun h2=> ?_) fun h2=> ?_
   ·refine ih (i+1) _ (by omega) (fun _=> ?_) (by omega)
    rw[hbest,<- ev]
    rw[if_pos (show lessB _ z=true from decide_eq_true h2)]
   ·refine ih (i+1) _ (by omega) (fun _=> ?_) (by omega)
    rw[hbest,<- ev]
    rw[if_neg (by simpa [lessB]using h2)]
theorem c6i{b:BoxT}{fs:List Fact}(hv:Xd b=true)(hb:b.v.length<=1000):(Zv b fs).length<=20000∧ ∀ q∈Zv b fs,q.length<=1000:=by
 constructor
 ·unfold Zv
  refine Nat.le_trans (List.length_filter_le _ _) ?_
  rw[V7 hv,Hw]
  exact Te hv
 ·intro q hq
  have:=((d1p hv).1 hq).1.1
  omega
theorem a6d: ∀ x:BoxT×List Fact×Lin×Unit,Yh x.1 x.2.1 x.2.2.1=true->Ze VC 0 (Za WB (Zi (YM lessB x.1 x.2.1 x.2.2.1))) Vm [] (Yn b2l (encL x)):=by
 rintro⟨b,fs,l,⟨⟩⟩ h
 obtain⟨h1,h2,h3,h4,h5,h6⟩:=b1b h
 have hok:Z9 l=true:=by
  unfold Z0 at h5
  rw[Bool.and_eq_true]at h5;exact h5.1
 have p1:(ZJ b&&Zl fs&&decide (fs.length<=100)&&Z9 l&&Ya [])=true:=by rw[h1,h2,decide_eq_true h3,hok];rfl
 have p2:(ZJ b&&Zl fs&&decide (fs.length<=100)&&decide (b.v.length<=1000))=true:=by rw[h1,h2,decide_eq_true h3,decide_eq_true h4];rfl
 have d1:(decL [.agg [.sl 1 false (List.map enc b.v),.int .i64 b.m],.sl 3 false (List.map enc fs),.agg [.int .i64 l.k,.sl 2 false (List.map enc l.t)],.sl 0 true []]:BoxT×List Fact×Lin×List Mono×Unit)=(b,fs,l,[],()):=by
  show((dec (enc b):BoxT),(dec (enc fs):List Fact),(dec (enc l):Lin),([]:List Mono),())=_
  rw[Enc.dec_enc,Enc.dec_enc,Enc.dec_enc]
 have i1:isL (BoxT×List Fact×Lin×List Mono×Unit) [.agg [.sl 1 false (List.map enc b.v),.int .i64 b.m],.sl 3 false (List.map enc fs),.agg [.int .i64 l.k,.sl 2 false (List.map enc l.t)],.sl 0 true []]=true:=by
  show(is BoxT (enc b)&&(is (List Fact) (enc fs)&&(is Lin (enc l)&&true)))=true
  rw[Enc.is_enc,Enc.is_enc,Enc.is_enc];rfl
 refine c0d b fs l ⟨QE (b,fs,l,[],()) i1 d1 p1,UV (b,fs,l,[],()) d1 ?_⟩
 simp only[Eo]
 show if (Zj b fs (Zh l) (Zd l) != 0)=true then Zi (YM lessB b fs l) _ else _
 refine Ht (fun h0=> ?_) fun h0=> ?_
 ·have h0:Zj b fs (Zh l) (Zd l)≠0:=by simpa using h0
  unfold YM
  rw[if_neg h0]
  exact ZC (x:=((0:Int),Zj b fs (Zh l) (Zd l))) rfl
 ·have h0:Zj b fs (Zh l) (Zd l)=0:=by simpa using h0
  have hv:=(Xh _ _ _ _ h0).1
  obtain⟨q1,q2⟩:=c6i (fs:=fs) hv h4
  refine⟨Zk (b,fs,()) rfl p2,Zg (b,fs,()) rfl ?_⟩
  simp only[Nh h0]
  rw[List.length_map]
  show if (((Zv b fs).length:Int)==0)=true then Zi (YM lessB b fs l) _ else At VC 0 (Za WB (Zi (YM lessB b fs l))) _ _ _ _ _
  unfold YM
  rw[if_pos h0]
  refine Ht (fun hz=> ?_) fun hz=> ?_
  ·have hz:Zv b fs=[]:=by simpa using hz
   have:ZB b fs l=[]:=by unfold ZB;rw[hz];rfl
   rw[this]
   exact⟨rfl,rfl⟩
  ·have hz:Zv b fs≠[]:=by simpa using hz
   have hz:(Zv b fs).length≠0:=fun e=>hz (List.length_eq_zero_iff.1 e)
   exact a1s b fs l h4 h5 q1 q2 (Zv b fs).length 0 0 rfl (fun h=>absurd rfl h) (by omega)
theorem d5w{l:Lin}(h:Z0 l=true):Z0 (ngL l)=true:=by
 unfold Z0 Z9 at h ⊢
 rw[Bool.and_eq_true]at h ⊢
 refine⟨?_,?_⟩
 ·show decide ((l.t.map ngT).length<=_)=true
  rw[List.length_map];exact h.1
 ·show((l.t.map ngT).all _)=true
  rw[List.all_map];exact h.2
theorem c0q{b:BoxT}{fs:List Fact}{l:Lin}(h0:Zj b fs (Zh l) (Zd l)=0):(IntKind.i64.wrap (-(YM lessB b fs (ngL l)).1),(YM lessB b fs (ngL l)).2)=YM moreB b fs l:=by
 obtain⟨_,_,hvl,_⟩:=Xh _ _ _ _ h0
 unfold YM
 rw[RZ hvl,b8t]
 have h1:=h0
 rw[hvl]at h1
 rw[if_pos h0,if_pos h1,d4c h0,a8t]
 cases hz:Vz moreB (ZB b fs l)with
 | none=>rfl
 | some z=>
  have hm:=(b2x hz).1
  unfold ZB at hm
  obtain⟨p,hp,e⟩:=List.mem_map.1 hm
  have hb:=(b0y hvl (Ji h0 hp)).2
  rw[e]at hb
  show(IntKind.i64.wrap (-(-z)),(0:Int))=(z,0)
  rw[Int.neg_neg,WX (by omega) (by omega)]
theorem a3k: ∀ x:BoxT×List Fact×Lin×Unit,Yh x.1 x.2.1 x.2.2.1=true->Ze Pz 0 (Za Bv (Zi (YM moreB x.1 x.2.1 x.2.2.1))) Av [] (Yn b1r (encL x)):=by
 rintro⟨b,fs,l,⟨⟩⟩ h
 obtain⟨h1,h2,h3,h4,h5,h6⟩:=b1b h
 have h6:l.t.length<=1000:=h6
 have hok:Z9 l=true:=by
  unfold Z0 at h5
  rw[Bool.and_eq_true]at h5;exact h5.1
 have p1:(ZJ b&&Zl fs&&decide (fs.length<=100)&&Z9 l&&Ya [])=true:=by rw[h1,h2,decide_eq_true h3,hok];rfl
 have d1:(decL [.agg [.sl 1 false (List.map enc b.v),.int .i64 b.m],.sl 3 false (List.map enc fs),.agg [.int .i64 l.k,.sl 2 false (List.map enc l.t)],.sl 0 true []]:BoxT×List Fact×Lin×List Mono×Unit)=(b,fs,l,[],()):=by
  show((dec (enc b):BoxT),(dec (enc fs):List Fact),(dec (enc l):Lin),([]:List Mono),())=_
  rw[Enc.dec_enc,Enc.dec_enc,Enc.dec_enc]
 have i1:isL (BoxT×List Fact×Lin×List Mono×Unit) [.agg [.sl 1 false (List.map enc b.v),.int .i64 b.m],.sl 3 false (List.map enc fs),.agg [.int .i64 l.k,.sl 2 false (List.map enc l.t)],.sl 0 true []]=true:=by
  show(is BoxT (enc b)&&(is (List Fact) (enc fs)&&(is Lin (enc l)&&true)))=true
  rw[Enc.is_enc,Enc.is_enc,Enc.is_enc];rfl
 refine c5m b fs l ⟨QE (b,fs,l,[],()) i1 d1 p1,UV (b,fs,l,[],()) d1 ?_⟩
 simp only[Eo]
 show if (Zj b fs (Zh l) (Zd l) != 0)=true then Zi (YM moreB b fs l) _ else _
 refine Ht (fun h0=> ?_) fun h0=> ?_
 ·have h0:Zj b fs (Zh l) (Zd l)≠0:=by simpa using h0
  unfold YM
  rw[if_neg h0]
  exact ZC (x:=((0:Int),Zj b fs (Zh l) (Zd l))) rfl
 ·have h0:Zj b fs (Zh l) (Zd l)=0:=by simpa using h0
  obtain⟨_,_,hvl,_⟩:=Xh _ _ _ _ h0
  have hex:Yh b fs (ngL l)=true:=by
   unfold Yh
   have:(ngL l).t.length<=1000:=by show(l.t.map ngT).length<=_;rw[List.length_map];exact h6
   rw[h1,h2,d5w h5,decide_eq_true h3,decide_eq_true h4,decide_eq_true this];rfl
  have i2:isL (Lin×Lin×Int×Unit) [.agg [.int .i64 0,.sl 0 true []],enc l,.int .i64 (-1)]=true:=by
   show(is Lin (.agg [.int .i64 0,.sl 0 true []])&&(is Lin (enc l)&&true))=true
   rw[Enc.is_enc];rfl
  have d2:(decL [.agg [.int .i64 0,.sl 0 true []],enc l,.int .i64 (-1)]:Lin×Lin×Int×Unit)=(⟨0,[]⟩,l,-1,()):=by
   show((dec (.agg [.int .i64 0,.sl 0 true []]):Lin),(dec (enc l):Lin),(-1:Int),())=_
   rw[Enc.dec_enc];rfl
  refine⟨QE ((⟨0,[]⟩:Lin),l,-1,()) i2 d2 (by show(decide (0<=500000)&&decide (l.t.length<=500000))=true;rw[decide_eq_true (show l.t.length<=500000 by omega)];rfl),UV ((⟨0,[]⟩:Lin),l,-1,()) d2 ?_⟩
  simp only[c4w hvl]
  refine⟨Zk (b,fs,ngL l,()) rfl hex,Zg (b,fs,ngL l,()) rfl ?_⟩
  rw[<- c0q h0]
  exact ZC (x:=(IntKind.i64.wrap (-(YM lessB b fs (ngL l)).1),(YM lessB b fs (ngL l)).2)) rfl
theorem Mg{vs:List Str}{q:List Int}(hl:q.length=vs.length): ∀ ss:List Str,(∀ s∈ss,s∈vs)->D5 (Zf vs q) ss≠none
 | [],_=>by simp[D5]
 | s::r,h=>by
  obtain⟨x,_,hx⟩:=BZ (h s (by simp)) hl
  have:=Mg hl r fun t ht=>h t (by simp[ht])
  rw[D5,hx]
  simpa using this
theorem MJ{vs:List Str}{q:List Int}(hl:q.length=vs.length): ∀ p:List Mono,(∀ m∈p,∀ s∈m.v,s∈vs)->G6 (Zf vs q) p≠none
 | [],_=>by simp[G6]
 | m::r,h=>by
  have h1:=Mg hl m.v (h m (by simp))
  have h2:=MJ hl r fun x hx=>h x (by simp[hx])
  rw[G6]
  cases hv:D5 (Zf vs q) m.v with
  | none=>exact absurd hv h1
  | some l=>simpa using h2
theorem b7m{b:BoxT}{fs:List Fact}{p:List Mono}{q:List Int}(hr:Zj b fs (Zx p) (Yw p)=0)(hq:q∈Zv b fs)(h:(Yq p (Zf b.v q)).2≠0):(Yq p (Zf b.v q)).2=2:=by
 obtain⟨hv,_,hp,hin⟩:=Xh _ _ _ _ hr
 obtain⟨h1,_⟩:=FX hv hq
 rw[QO,Bool.and_eq_true]at hin
 have hs : ∀ m∈p,∀ s∈m.v,s∈b.v:=by
  intro m hm s hs
  have:s∈Yw p:=(Bz p s).2 (List.mem_flatMap.2 ⟨m,hm,hs⟩)
  simpa using List.all_eq_true.1 hin.1 s this
 unfold Yq at h ⊢
 rw[if_pos hp]at h ⊢
 cases hf:G6 (Zf b.v q) p with
 | none=>exact absurd hf (MJ h1 p hs)
 | some gs=>
  rw[hf]at h
  simp only at h ⊢
  by_cases hb:badF gs=true
  ·rw[if_pos hb]
  ·rw[if_neg hb]at h ⊢
   cases hp:Yr gs with
   | none=>rfl
   | some l=>
    rw[hp]at h
    simp only at h ⊢
    unfold Xr at h ⊢
    by_cases hc:(l.all YR&&YR l.sum)=true
    ·rw[if_pos hc]at h;exact absurd rfl h
    ·rw[if_neg hc]
def rs0(b:BoxT)(fs:List Fact)(p:List Mono)(R:Int×Int)(i:Nat):List Int->Prop
 | []=>At U5 0 (Za Va (Zi R)) Vb 0 67 [(2,.pv (enc p)),(3,.ptr 0 0),(9,.pv (enc (Zv b fs))),(11,.ptr 1 0),(12,.pv (.int .i64 i))] [.obj (.box [.pv (enc b.v),.pv (.int .i64 b.m)]),.obj (.box [.pv (.sl 0 true []),.pv (.sl 0 true [])])]
 | x::r=>At U5 0 (Za Va (Zi R)) Vb 0 67 [(2,.pv (enc p)),(3,.ptr 0 0),(9,.pv (enc (Zv b fs))),(11,.ptr 1 0),(12,.pv (.int .i64 i))] [.obj (.box [.pv (enc b.v),.pv (.int .i64 b.m)]),.obj (.box [.row 2 (r.length+1) 0 (r.length+1),.pv (.sl 0 true [])]),.obj (.row false 3 1 ((x::r).map enc))]
theorem a8x{b:BoxT}{fs:List Fact}{p:List Mono}{R:Int×Int}{i n:Nat}{ys:List Int}{qs:List PV}(h:rs0 b fs p R i ys)(h0:ys≠[])(hn:n=ys.length)(hy:qs=ys.map enc):
  At U5 0 (Za Va (Zi R)) Vb 0 67 [(2,.pv (enc p)),(3,.ptr 0 0),(9,.pv (enc (Zv b fs))),(11,.ptr 1 0),(12,.pv (.int .i64 i))] [.obj (.box [.pv (enc b.v),.pv (.int .i64 b.m)]),.obj (.box [.row 2 n 0 n,.pv (.sl 0 true [])]),.obj (.row false 3 1 qs)]:=by
 subst hn hy
 cases ys with
 | nil=>exact absurd rfl h0
 | cons x r=>exact h
theorem b4e(b:BoxT)(fs:List Fact)(p:List Mono)(hb:b.v.length<=1000)(hp:Ya p=true)(hr:Zj b fs (Zx p) (Yw p)=0)(hl:(Zv b fs).length<=10000): ∀ (d i:Nat) (xs:List Int),d+i=(Zv b fs).length->UE p b.v ((Zv b fs).take i)=some xs->rs0 b fs p (Xx b fs p) i xs:=by
 obtain⟨hv,_,_,_⟩:=Xh _ _ _ _ hr
 intro d
 induction d with
 | zero=>
  intro i xs hi hxs
  rw[List.take_of_length_le (by omega)]at hxs
  have hR:Xx b fs p=Xr xs:=by unfold Xx;rw[if_pos hr,hxs]
  have hlen:=UK hxs
  have hin:=Cx hxs
  rw[hR]
  cases xs with
  | nil=>
   exact Ez b fs p (Zv b fs) i (ZG (YY (by omega)) (UV (([]:List Int),([]:List Int),()) rfl (ZC (x:=Xr []) rfl)))
  | cons x r=>
   have e:List.drop 0 (List.take (r.length+1) (List.map (enc:Int->PV) (x::r)))=(x::r).map enc:=by rw[List.drop_zero,List.take_of_length_le (by simp)]
   refine OC b fs p (Zv b fs) i (r.length+1) (x::r) (ZG (YY (by omega)) ⟨by simp,?_⟩)
   rw[e]
   have i1:isL (List Int×List Int×Unit) [.sl 1 false (List.map enc (x::r)),.sl 0 true []]=true:=by
    show(is (List Int) (enc (x::r))&&true)=true
    rw[Enc.is_enc];rfl
   have d1:(decL [.sl 1 false (List.map enc (x::r)),.sl 0 true []]:List Int×List Int×Unit)=(x::r,[],()):=by
    show((dec (enc (x::r)):List Int),([]:List Int),())=_
    rw[Enc.dec_enc]
   have p1:(decide ((x::r).length<=10000)&&decide (([]:List Int).length<=10000)&&(x::r).all YR&&([]:List Int).all YR)=true:=by
    rw[decide_eq_true (by omega),List.all_eq_true.2 hin];rfl
   refine⟨QE (x::r,[],()) i1 d1 p1,UV (x::r,[],()) d1 ?_⟩
   simp only[List.append_nil]
   exact ZC (x:=Xr (x::r)) rfl
 | succ d ih=>
  intro i xs hi hxs
  have hlt:i<(Zv b fs).length:=by omega
  have hm:=List.getElem_mem hlt
  have hql:=(FX hv hm).1
  have ht:(Zv b fs).take (i+1)=(Zv b fs).take i++[(Zv b fs)[i]]:=List.take_succ_eq_append_getElem hlt
  have hlen:=UK hxs
  rw[List.length_take]at hlen
  have p1:(decide (b.v.length<=1000)&&Zr (Zv b fs)[i])=true:=by rw[decide_eq_true hb,Zz.2 (by omega)];rfl
  have p2:(Ya p&&Zr (Zf b.v (Zv b fs)[i]))=true:=by
   rw[hp,Zz.2 (by unfold Zf;rw[List.length_zipWith];omega)];rfl
  have bad:(Yq p (Zf b.v (Zv b fs)[i])).2≠0->Zi (Xx b fs p) (.tup [.int .i64 0,.int .i64 (Yq p (Zf b.v (Zv b fs)[i])).2]):=by
   intro he
   have hR:Xx b fs p=(0,2):=by
    unfold Xx
    rw[if_pos hr,Gc (List.getElem?_eq_getElem hlt) he]
   rw[hR,b7m hr hm he]
   exact ZC (x:=((0:Int),(2:Int))) rfl
  have good:(Yq p (Zf b.v (Zv b fs)[i])).2=0->rs0 b fs p (Xx b fs p) (i+1) (xs++[(Yq p (Zf b.v (Zv b fs)[i])).1]):=by
   intro he
   refine ih (i+1) _ (by omega) ?_
   rw[ht]
   exact U0 he hxs
  cases xs with
  | nil=>
   refine Ez b fs p (Zv b fs) i (ZA (Yy hlt) ⟨Zn hlt rfl,Zu hlt ⟨Zk (b,(Zv b fs)[i],()) rfl p1,Zg (b,(Zv b fs)[i],()) rfl ⟨Zk (p,Zf b.v (Zv b fs)[i],()) rfl p2,Zg (p,Zf b.v (Zv b fs)[i],()) rfl ?_⟩⟩⟩)
   refine Ht (fun he=>bad (by simpa using he)) fun he=> ?_
   have he:(Yq p (Zf b.v (Zv b fs)[i])).2=0:=by simpa using he
   refine ZG (by simp;omega) ?_
   rw[next (by omega)]
   exact a8x (good he) (by simp) rfl rfl
  | cons x r=>
   rw[List.length_cons]at hlen
   refine OC b fs p (Zv b fs) i (r.length+1) (x::r) (ZA (Yy hlt) ⟨Zn hlt rfl,Zu hlt ⟨Zk (b,(Zv b fs)[i],()) rfl p1,Zg (b,(Zv b fs)[i],()) rfl ⟨Zk (p,Zf b.v (Zv b fs)[i],()) rfl p2,Zg (p,Zf b.v (Zv b fs)[i],()) rfl ?_⟩⟩⟩)
   refine Ht (fun he=>bad (by simpa using he)) fun he=> ?_
   have he:(Yq p (Zf b.v (Zv b fs)[i])).2=0:=by simpa using he
   refine ZG (by simp;omega) ⟨J7 (m:=1) (by simp) (by omega) (by omega),?_⟩
   rw[next (by omega)]
   exact a8x (good he) (by simp) (by simp) (by rw[List.map_append];rfl)
theorem c7u(b:BoxT)(fs:List Fact)(p:List Mono):Zj b fs (Zh ⟨0,[]⟩&&Zx p) (Zd ⟨0,[]⟩++Y9 p)=Zj b fs (Zx p) (Yw p):=by
 have e1:Zh ⟨0,[]⟩=true:=by decide
 have e2:Zd ⟨0,[]⟩=[]:=rfl
 rw[e1,e2,Bool.true_and,List.nil_append]
 cases hp:Zx p with
 | true=>rw[d3q hp]
 | false=>unfold Zj;simp
theorem c3q: ∀ x:BoxT×List Fact×List Mono×Unit,J3 x.1 x.2.1 x.2.2.1=true->Ze U5 0 (Za Va (Zi (Xx x.1 x.2.1 x.2.2.1))) Vb [] (Yn c9o (encL x)):=by
 rintro⟨b,fs,p,⟨⟩⟩ h
 simp only[J3,Bool.and_eq_true,decide_eq_true_eq]at h
 obtain⟨⟨⟨⟨⟨h1,h2⟩,h3⟩,h4⟩,h5⟩,h6⟩:=h
 have p1:(ZJ b&&Zl fs&&decide (fs.length<=100)&&Z9 ⟨0,[]⟩&&Ya p)=true:=by rw[h1,h2,decide_eq_true h3,h5];rfl
 have p2:(ZJ b&&Zl fs&&decide (fs.length<=100)&&decide (b.v.length<=1000))=true:=by rw[h1,h2,decide_eq_true h3,decide_eq_true h4];rfl
 have d1:(decL [.agg [.sl 1 false (List.map enc b.v),.int .i64 b.m],.sl 3 false (List.map enc fs),.agg [.int .i64 0,.sl 0 true []],.sl 2 false (List.map enc p)]:BoxT×List Fact×Lin×List Mono×Unit)=(b,fs,⟨0,[]⟩,p,()):=by
  show((dec (enc b):BoxT),(dec (enc fs):List Fact),(dec (.agg [.int .i64 0,.sl 0 true []]):Lin),(dec (enc p):List Mono),())=_
  rw[Enc.dec_enc,Enc.dec_enc,Enc.dec_enc];rfl
 have i1:isL (BoxT×List Fact×Lin×List Mono×Unit) [.agg [.sl 1 false (List.map enc b.v),.int .i64 b.m],.sl 3 false (List.map enc fs),.agg [.int .i64 0,.sl 0 true []],.sl 2 false (List.map enc p)]=true:=by
  show(is BoxT (enc b)&&(is (List Fact) (enc fs)&&(is Lin (.agg [.int .i64 0,.sl 0 true []])&&(is (List Mono) (enc p)&&true))))=true
  rw[Enc.is_enc,Enc.is_enc,Enc.is_enc];rfl
 refine d8b b fs p ⟨QE (b,fs,⟨0,[]⟩,p,()) i1 d1 p1,UV (b,fs,⟨0,[]⟩,p,()) d1 ?_⟩
 simp only[c7u]
 show if (Zj b fs (Zx p) (Yw p) != 0)=true then Zi (Xx b fs p) _ else _
 refine Ht (fun h0=> ?_) fun h0=> ?_
 ·have h0:Zj b fs (Zx p) (Yw p)≠0:=by simpa using h0
  unfold Xx
  rw[if_neg h0]
  exact ZC (x:=((0:Int),Zj b fs (Zx p) (Yw p))) rfl
 ·have h0:Zj b fs (Zx p) (Yw p)=0:=by simpa using h0
  have hv:=(Xh _ _ _ _ h0).1
  rw[hv]at h6
  refine⟨Zk (b,fs,()) rfl p2,Zg (b,fs,()) rfl ?_⟩
  simp only[Nh h0]
  have:=b4e b fs p h4 h5 h0 (by simpa using h6) (Zv b fs).length 0 [] rfl rfl
  exact this
structure Asked where
 l:Lin
 p:List Mono
 deriving DecidableEq
instance:Enc Asked where
 sz:=3
 enc x:=.agg [enc x.l.k,enc x.l.t,enc x.p]
 dec | .agg [a,b,c]=>⟨⟨dec a,dec b⟩,dec c⟩|_=>⟨⟨0,[]⟩,[]⟩
 is | .agg [a,b,c]=>is Int a&&is (List Coef) b&&is (List Mono) c|_=>false
 is_enc v:=by simp
 dec_enc v:=by simp
 sub p h:=by
  cases p with
  | agg xs=>
   match xs,h with
   | [a,b,c],h=>
    simp only[Bool.and_eq_true]at h
    exact .agg (.cons (Enc.sub a h.1.1).2 (.cons (Enc.sub b h.1.2).2 (.cons (Enc.sub c h.2).2 .nil)))
  | _=>cases h
@[simp] theorem e0z (a b c : PV) : is Asked (.agg [a, b, c]) = (is Int a && is (List Coef) b && is (List Mono) c) := rfl
@[simp] theorem e0b (a b c : PV) : (dec (.agg [a, b, c]) : Asked) = ⟨⟨dec a, dec b⟩, dec c⟩ := rfl
def Bn(p:List Mono)(n:Int):Bool:=p.all (fun m=>decide (m.v.length<=10)&&m.v.all fun s=>decide (s.s.length<=40))&&decide ((p.length:Int)<=n)
def Ky(p:List Mono):Bool:=Zr p&&p.all fun m=>Zr m.v
def KD(a:Asked):Bool:=JK a.l 6&&Bn a.p 6
def Hq(a:Asked):Bool:=Z9 a.l&&Ky a.p
end Go.Pl
namespace Go.Pl
open Go.RowKit
open Enc (enc dec is)
open EncL (encL decL isL)
set_option maxRecDepth 100000
noncomputable def VT:IC:=Wn Proofs.Tryz.f121
def VJ:List IRes:=[(.tmp 4)]
abbrev d4l:Nat:=44
def Qv:ZU:=Xe []
theorem d5x{G:PV->Prop}(p:List Mono)(n:Int)(h:At Qv 0 (Za VJ G) VT 0 44 [(0,(ZM p)),(1,(Zc n)),(5,(Zc 0))] []):Ze Qv 0 (Za VJ G) VT [] (Yn 44 [enc p,enc n]):=Ze.tp (.nil) h (by kernel_rfl)
theorem b0m{G:PV->Prop}(p:List Mono)(n:Int)(i:Int)(h:if (Rx p i)=true then Vt p i 2∧(Xc p i fun y0:Mono=>if (decide ((↑(List.length (SA y0)):Int)>10))=true then G ((.bool false))else(At Qv 0 (Za VJ G) VT 1 44 [(0,(ZM p)),(1,(Zc n)),(5,(Zc i)),(6,(Zc 0))] []))else(G ((.bool (decide ((↑(List.length (List.map enc p)):Int)<=n)))))):At Qv 0 (Za VJ G) VT 0 44 [(0,.pv (enc p)),(1,.pv (enc n)),(5,.pv (.int .i64 i))] []:=At.tp (.lit (.ask (.req (Xa (Mono) (ZK 2 (.ask (.nil) (.nil))))) (.lit (.nil)))) h (by kernel_rfl)
theorem a8r{G:PV->Prop}(p:List Mono)(n:Int)(i k:Int)(h:Vt p i 2∧(Xc p i fun y0:Mono=>if (decide (k<(↑(List.length (SA y0)):Int)))=true then Vt p i 2∧(Xc p i fun y1:Mono=>(decide (0<=k)&&decide (Int.toNat k<List.length (SA y1))&&1==1)=true∧((Jz [Sh.str] (PV.cells (Vs y1 k)))=true∧(if (decide ((↑(List.length (PV.asStr (List.getD (PV.cells (Vs y1 k)) 0 default))):Int)>40))=true then G ((.bool false))else(At Qv 0 (Za VJ G) VT 1 44 [(0,(ZM p)),(1,(Zc n)),(5,(Zc i)),(6,(Zc (IntKind.wrap IntKind.i64 (k+1))))] []))))else(At Qv 0 (Za VJ G) VT 0 44 [(0,(ZM p)),(1,(Zc n)),(5,(Zc (IntKind.wrap IntKind.i64 (i+1))))] []))):At Qv 0 (Za VJ G) VT 1 44 [(0,.pv (enc p)),(1,.pv (enc n)),(5,.pv (.int .i64 i)),(6,.pv (.int .i64 k))] []:=At.tp (.req (Xa (Mono) (ZK 2 (.ask (.req (Xa (Mono) (.lit (.req (.keep (.req (.lit (.ask (.nil) (.lit (.nil)))))))))) (.lit (.nil)))))) h (by kernel_rfl)
noncomputable def BG:IC:=Wn Proofs.Tryz.f55
def Ai:List IRes:=[(.tmp 2)]
abbrev b4d:Nat:=11
def PH:ZU:=Xe [(16,.pure (preT (fun x:Lin×Int×Unit=>Z9 x.1)) (Zw (fun x:Lin×Int×Unit=>JK x.1 x.2.1))),(121,.pure (preT (fun x:List Mono×Int×Unit=>Ky x.1)) (Zw (fun x:List Mono×Int×Unit=>Bn x.1 x.2.1)))]
theorem c7n{G:PV->Prop}(l:Lin)(p:List Mono)(h:(Go.Pl.preT (fun(x:Lin×Int×Unit)=>Z9 x.1) [(.agg [(.int .i64 l.k),(.sl 2 false (List.map enc l.t))]),(.int .i64 6)])=true∧(Yk (fun(x:Lin×Int×Unit)=>JK x.1 x.2.1) [(.agg [(.int .i64 l.k),(.sl 2 false (List.map enc l.t))]),(.int .i64 6)] fun y0:Bool=>if (y0)=true then(Go.Pl.preT (fun(x:List Mono×Int×Unit)=>Ky x.1) [(.sl 2 false (List.map enc p)),(.int .i64 6)])=true∧(Yk (fun(x:List Mono×Int×Unit)=>Bn x.1 x.2.1) [(.sl 2 false (List.map enc p)),(.int .i64 6)] fun y1:Bool=>G ((.bool y1)))else(G ((.bool false))))):Ze PH 0 (Za Ai G) BG [] (Yn 11 [.agg [enc l.k,enc l.t,enc p]]):=Ze.tp (.req (Yj (Bool) (.ask (ZK 2 (.req (Yj (Bool) (.lit (.nil))))) (Yo 3)))) h (by kernel_rfl)
end Go.Pl
namespace Go.Pl
open Go.RowKit
open Enc (enc dec is)
open EncL (encL decL isL)
theorem d9s{p:List Mono}{i:Nat}(h:i<p.length):(List.length (PV.asXs (List.getD (List.drop 1 (PV.cells (enc p[i]))) 0 default)):Nat)=p[i].v.length:=by
 show(p[i].v.map (enc:Str->PV)).length=_
 rw[List.length_map]
theorem d2o{p:List Mono}{n:Int}(h:Bn p n=true)(hn:n<=1000):Ya p=true:=by
 unfold Bn at h
 simp only[Bool.and_eq_true,decide_eq_true_eq,List.all_eq_true]at h
 unfold Ya XW
 simp only[Bool.and_eq_true,decide_eq_true_eq,List.all_eq_true]
 refine⟨Zz.2 (by omega),fun m hm=>⟨Zz.2 (by have:=(h.1 m hm).1;omega),fun s hs=>by have:=(h.1 m hm).2 s hs;omega⟩⟩
end Go.Pl
namespace Go.Pl
open Go.RowKit
open Enc (enc dec is)
open EncL (encL decL isL)
set_option maxRecDepth 100000
noncomputable def Ar:IC:=Wn Proofs.Tryz.f11
def Az:List IRes:=[(.tmp 6)]
abbrev b5t:Nat:=108
def TH:ZU:=Xe [(43,.pure (preT (fun _:Unit=>true)) (Zw (fun _:Unit=>true))),(44,.pure (preT (fun x:BoxT×List Fact×Unit=>ZJ x.1&&Xu x.2.1)) (Zw (fun x:BoxT×List Fact×Unit=>QA x.1 x.2.1))),(55,.pure (preT (fun x:Asked×Unit=>Hq x.1)) (Zw (fun x:Asked×Unit=>KD x.1))),(58,.pure (preT (fun x:BoxT×List Fact×Lin×Unit=>Yh x.1 x.2.1 x.2.2.1)) (Zw (fun x:BoxT×List Fact×Lin×Unit=>YM lessB x.1 x.2.1 x.2.2.1))),(61,.pure (preT (fun x:BoxT×List Fact×Lin×Unit=>Yh x.1 x.2.1 x.2.2.1)) (Zw (fun x:BoxT×List Fact×Lin×Unit=>YM lessB x.1 x.2.1 x.2.2.1))),(62,.pure (preT (fun x:BoxT×List Fact×Lin×Unit=>Yh x.1 x.2.1 x.2.2.1)) (Zw (fun x:BoxT×List Fact×Lin×Unit=>YM moreB x.1 x.2.1 x.2.2.1))),(63,.pure (preT (fun x:BoxT×List Fact×Lin×Unit=>Yh x.1 x.2.1 x.2.2.1)) (Zw (fun x:BoxT×List Fact×Lin×Unit=>YM moreB x.1 x.2.1 x.2.2.1))),(57,.pure (preT (fun x:BoxT×List Fact×List Mono×Unit=>Kh x.1 x.2.1 x.2.2.1)) (Zw (fun x:BoxT×List Fact×List Mono×Unit=>Xx x.1 x.2.1 x.2.2.1))),(64,.pure (preT (fun x:BoxT×List Fact×List Mono×Unit=>J3 x.1 x.2.1 x.2.2.1)) (Zw (fun x:BoxT×List Fact×List Mono×Unit=>Xx x.1 x.2.1 x.2.2.1)))]
theorem b7v{G:PV->Prop}(b:BoxT)(fs:List Fact)(l:Lin)(p:List Mono)(h:Yk (fun(x:Unit)=>true) [] fun y0:Bool=>if (!y0)=true then G ((.bool false))else((Go.Pl.preT (fun(x:BoxT×List Fact×Unit)=>ZJ x.1&&Xu x.2.1) [(.agg [(.sl 1 false (List.map enc b.v)),(.int .i64 b.m)]),(.sl 3 false (List.map enc fs))])=true∧(Yk (fun(x:BoxT×List Fact×Unit)=>QA x.1 x.2.1) [(.agg [(.sl 1 false (List.map enc b.v)),(.int .i64 b.m)]),(.sl 3 false (List.map enc fs))] fun y1:Bool=>if (!y1)=true then G ((.bool true))else((Go.Pl.preT (fun(x:Asked×Unit)=>Hq x.1) [(.agg [(.int .i64 l.k),(.sl 2 false (List.map enc l.t)),(.sl 2 false (List.map enc p))])])=true∧(Yk (fun(x:Asked×Unit)=>KD x.1) [(.agg [(.int .i64 l.k),(.sl 2 false (List.map enc l.t)),(.sl 2 false (List.map enc p))])] fun y2:Bool=>if (!y2)=true then G ((.bool true))else((Go.Pl.preT (fun(x:BoxT×List Fact×Lin×Unit)=>Yh x.1 x.2.1 x.2.2.1) [(.agg [(.sl 1 false (List.map enc b.v)),(.int .i64 b.m)]),(.sl 3 false (List.map enc fs)),(.agg [(.int .i64 l.k),(.sl 2 false (List.map enc l.t))])])=true∧(Yk (fun(x:BoxT×List Fact×Lin×Unit)=>YM lessB x.1 x.2.1 x.2.2.1) [(.agg [(.sl 1 false (List.map enc b.v)),(.int .i64 b.m)]),(.sl 3 false (List.map enc fs)),(.agg [(.int .i64 l.k),(.sl 2 false (List.map enc l.t))])] fun y3:Int×Int=>(Go.Pl.preT (fun(x:BoxT×List Fact×Lin×Unit)=>Yh x.1 x.2.1 x.2.2.1) [(.agg [(.sl 1 false (List.map enc b.v)),(.int .i64 b.m)]),(.sl 3 false (List.map enc fs)),(.agg [(.int .i64 l.k),(.sl 2 false (List.map enc l.t))])])=true∧(Yk (fun(x:BoxT×List Fact×Lin×Unit)=>YM lessB x.1 x.2.1 x.2.2.1) [(.agg [(.sl 1 false (List.map enc b.v)),(.int .i64 b.m)]),(.sl 3 false (List.map enc fs)),(.agg [(.int .i64 l.k),(.sl 2 false (List.map enc l.t))])] fun y4:Int×Int=>(Go.Pl.preT (fun(x:BoxT×List Fact×Lin×Unit)=>Yh x.1 x.2.1 x.2.2.1) [(.agg [(.sl 1 false (List.map enc b.v)),(.int .i64 b.m)]),(.sl 3 false (List.map enc fs)),(.agg [(.int .i64 l.k),(.sl 2 false (List.map enc l.t))])])=true∧(Yk (fun(x:BoxT×List Fact×Lin×Unit)=>YM moreB x.1 x.2.1 x.2.2.1) [(.agg [(.sl 1 false (List.map enc b.v)),(.int .i64 b.m)]),(.sl 3 false (List.map enc fs)),(.agg [(.int .i64 l.k),(.sl 2 false (List.map enc l.t))])] fun y5:Int×Int=>(Go.Pl.preT (fun(x:BoxT×List Fact×Lin×Unit)=>Yh x.1 x.2.1 x.2.2.1) [(.agg [(.sl 1 false (List.map enc b.v)),(.int .i64 b.m)]),(.sl 3 false (List.map enc fs)),(.agg [(.int .i64 l.k),(.sl 2 false (List.map enc l.t))])])=true∧(Yk (fun(x:BoxT×List Fact×Lin×Unit)=>YM moreB x.1 x.2.1 x.2.2.1) [(.agg [(.sl 1 false (List.map enc b.v)),(.int .i64 b.m)]),(.sl 3 false (List.map enc fs)),(.agg [(.int .i64 l.k),(.sl 2 false (List.map enc l.t))])] fun y6:Int×Int=>(Go.Pl.preT (fun(x:BoxT×List Fact×List Mono×Unit)=>Kh x.1 x.2.1 x.2.2.1) [(.agg [(.sl 1 false (List.map enc b.v)),(.int .i64 b.m)]),(.sl 3 false (List.map enc fs)),(.sl 2 false (List.map enc p))])=true∧(Yk (fun(x:BoxT×List Fact×List Mono×Unit)=>Xx x.1 x.2.1 x.2.2.1) [(.agg [(.sl 1 false (List.map enc b.v)),(.int .i64 b.m)]),(.sl 3 false (List.map enc fs)),(.sl 2 false (List.map enc p))] fun y7:Int×Int=>(Go.Pl.preT (fun(x:BoxT×List Fact×List Mono×Unit)=>J3 x.1 x.2.1 x.2.2.1) [(.agg [(.sl 1 false (List.map enc b.v)),(.int .i64 b.m)]),(.sl 3 false (List.map enc fs)),(.sl 2 false (List.map enc p))])=true∧(Yk (fun(x:BoxT×List Fact×List Mono×Unit)=>Xx x.1 x.2.1 x.2.2.1) [(.agg [(.sl 1 false (List.map enc b.v)),(.int .i64 b.m)]),(.sl 3 false (List.map enc fs)),(.sl 2 false (List.map enc p))] fun y8:Int×Int=>if (y3.1==y4.1)=true then if (y3.2==y4.2)=true then if (y5.1==y6.1)=true then if (y5.2==y6.2)=true then if (y7.1==y8.1)=true then G ((.bool (y7.2==y8.2)))else(G ((.bool false)))else(G ((.bool false)))else(G ((.bool false)))else(G ((.bool false)))else(G ((.bool false))))))))))))))):Ze TH 0 (Za Az G) Ar [] (Yn 108 [enc b,enc fs,.agg [enc l.k,enc l.t,enc p]]):=Ze.tp (.lit (Yj (Bool) (.ask (.nil) (.req (Yj (Bool) (.ask (Yo 4) (.lit (.req (Yj (Bool) (ZK 2 (.ask (.nil) (.req (Yj (Int×Int) (.req (Yj (Int×Int) (.req (Yj (Int×Int) (.req (Yj (Int×Int) (.req (Yj (Int×Int) (.req (Yj (Int×Int) (.lit (.ask (ZK 4 (.ask (ZK 4 (.ask (ZK 4 (.ask (ZK 4 (.ask (Yo 4) (Yo 3))) (Yo 7))) (Yo 11))) (Yo 15))) (Yo 19)))))))))))))))))))))))))) h (by kernel_rfl)
end Go.Pl
namespace Go.Pl
open Go.RowKit
open Enc (enc dec is)
open EncL (encL decL isL)
theorem e0y{l:List Str}{k:Nat}(h:k<l.length):(l.drop k).all (fun s=>decide (s.s.length<=40))=(decide (l[k].s.length<=40)&&(l.drop (k+1)).all fun s=>decide (s.s.length<=40)):=by
 rw[List.drop_eq_getElem_cons h,List.all_cons]
theorem d0w(p:List Mono)(n:Int)(i:Nat)(hi:i<p.length)(hil:i<9223372036854775807)(h10:p[i].v.length<=10)(R:Bool)
  (hK:(p[i].v.all fun s=>decide (s.s.length<=40))=true->At Qv 0 (Za VJ (Zi R)) VT 0 44 [(0,.pv (enc p)),(1,.pv (enc n)),(5,.pv (.int .i64 ((i+1:Nat):Int)))] [])
  (hB:(p[i].v.all fun s=>decide (s.s.length<=40))=false->R=false) : ∀ (d k:Nat),d+k=p[i].v.length->(p[i].v.all fun s=>decide (s.s.length<=40))=((p[i].v.drop k).all fun s=>decide (s.s.length<=40)) ->
  At Qv 0 (Za VJ (Zi R)) VT 1 44 [(0,.pv (enc p)),(1,.pv (enc n)),(5,.pv (.int .i64 i)),(6,.pv (.int .i64 k))] []:=by
 intro d
 induction d with
 | zero=>
  intro k hk ha
  rw[List.drop_of_length_le (by omega)]at ha
  refine a8r p n i k ⟨Zn hi rfl,Zu hi ?_⟩
  rw[d9s hi]
  refine ZG (by simp;omega) ?_
  rw[next (by omega)]
  exact hK ha
 | succ d ih=>
  intro k hk ha
  have hkl:k<p[i].v.length:=by omega
  refine a8r p n i k ⟨Zn hi rfl,Zu hi ?_⟩
  rw[d9s hi]
  refine ZA (by simp;omega) ⟨Zn hi rfl,Zu hi ⟨ixS hkl,P6 hkl,?_⟩⟩
  rw[a2b hkl]
  rw[e0y hkl]at ha
  refine XJ (fun h=> ?_) fun h=> ?_
  ·rw[decide_eq_false (show ¬ p[i].v[k].s.length<=40 by omega),Bool.false_and]at ha
   exact ZW (hB ha).symm
  ·rw[decide_eq_true (show p[i].v[k].s.length<=40 by omega),Bool.true_and]at ha
   rw[next (by omega)]
   exact ih (k+1) (by omega) ha
def b4s(m:Mono):Bool:=decide (m.v.length<=10)&&m.v.all fun s=>decide (s.s.length<=40)
theorem d9t(p:List Mono)(n:Int):Bn p n=(p.all b4s&&decide ((p.length:Int)<=n)):=rfl
theorem b6a(p:List Mono)(n:Int)(hp:p.length<=9223372036854775807): ∀ (d i:Nat),d+i=p.length->Bn p n=((p.drop i).all b4s&&decide ((p.length:Int)<=n)) ->
  At Qv 0 (Za VJ (Zi (Bn p n))) VT 0 44 [(0,.pv (enc p)),(1,.pv (enc n)),(5,.pv (.int .i64 i))] []:=by
 intro d
 induction d with
 | zero=>
  intro i hi hR
  rw[List.drop_of_length_le (by omega)]at hR
  refine b0m p n i (ZG (YY (by omega)) (ZW ?_))
  rw[hR]
  simp
 | succ d ih=>
  intro i hi hR
  have hlt:i<p.length:=by omega
  rw[List.drop_eq_getElem_cons hlt,List.all_cons]at hR
  refine b0m p n i (ZA (Yy hlt) ⟨Zn hlt rfl,Zu hlt ?_⟩)
  rw[d9s hlt]
  refine XJ (fun h=> ?_) fun h=> ?_
  ·have:b4s p[i]=false:=by unfold b4s;rw[decide_eq_false (by omega),Bool.false_and]
   rw[this,Bool.false_and,Bool.false_and]at hR
   exact ZW hR.symm
  ·have hm:b4s p[i]=p[i].v.all fun s=>decide (s.s.length<=40):=by unfold b4s;rw[decide_eq_true (by omega),Bool.true_and]
   refine d0w p n i hlt (by omega) (by omega) (Bn p n) (fun ha=> ?_) (fun ha=> ?_) p[i].v.length 0 rfl rfl
   ·rw[hm,ha,Bool.true_and]at hR
    exact ih (i+1) (by omega) hR
   ·rw[hm,ha,Bool.false_and,Bool.false_and]at hR
    exact hR
theorem c1i: ∀ x:List Mono×Int×Unit,Ky x.1=true->Ze Qv 0 (Za VJ (Zi (Bn x.1 x.2.1))) VT [] (Yn d4l (encL x)):=by
 rintro⟨p,n,⟨⟩⟩ h
 unfold Ky at h
 rw[Bool.and_eq_true]at h
 exact d5x p n (b6a p n (Zz.1 h.1) p.length 0 rfl (d9t p n))
theorem a7b: ∀ x:Asked×Unit,Hq x.1=true->Ze PH 0 (Za Ai (Zi (KD x.1))) BG [] (Yn b4d (encL x)):=by
 rintro⟨⟨l,p⟩,⟨⟩⟩ h
 unfold Hq at h
 rw[Bool.and_eq_true]at h
 refine c7n l p ⟨Zk (l,(6:Int),()) rfl h.1,Zg (l,(6:Int),()) rfl ?_⟩
 show if JK l 6=true then _ else _
 refine WP (fun h4=>⟨Zk (p,(6:Int),()) rfl h.2,Zg (p,(6:Int),()) rfl (ZW ?_)⟩) fun h4=>ZW ?_
 ·show Bn p 6=KD ⟨l,p⟩
  unfold KD
  rw[h4,Bool.true_and]
 ·show false=KD ⟨l,p⟩
  unfold KD
  rw[h4,Bool.false_and]
theorem NP(m:Nat): ∀ (v:List Str) (n:Int),RJ (m:Int) v n=n*(((m+1) ^ v.length:Nat):Int)
 | [],n=>by simp[RJ]
 | _::r,n=>by
  rw[RJ,NP m r,List.length_cons,Nat.pow_succ,Int.mul_assoc]
  congr 1
  rw[Nat.mul_comm,Int.natCast_mul]
  rfl
theorem d2e{b:BoxT}{fs:List Fact}(h:QA b fs=true):(!Xd b||decide ((Zv b fs).length<=10000))=true:=by
 cases hv:Xd b with
 | false=>rfl
 | true=>
  obtain⟨_,_,_,h4,_⟩:=VG.1 hv
  unfold QA at h
  simp only[Bool.and_eq_true,decide_eq_true_eq,hv,if_true]at h
  have h2:=h.1.1.2
  have e:b.m=((b.m.toNat:Nat):Int):=by omega
  rw[e,NP,Int.one_mul]at h2
  have hl:(Zv b fs).length<=(b.m.toNat+1) ^ b.v.length:=by
   unfold Zv
   rw[<- Hw,<- V7 hv]
   exact List.length_filter_le _ _
  exact decide_eq_true (by omega)
theorem a7l: ∀ x:BoxT×List Fact×Asked×Unit,(ZJ x.1&&Xu x.2.1&&Hq x.2.2.1)=true->Ze TH 0 (Za Az (Zi true)) Ar [] (Yn b5t (encL x)):=by
 rintro⟨b,fs,⟨l,p⟩,⟨⟩⟩ hp
 simp only[Bool.and_eq_true]at hp
 obtain⟨⟨h1,h2⟩,h3⟩:=hp
 refine b7v b fs l p (Zg () rfl (ZG (by simp) ⟨Zk (b,fs,()) rfl (by rw[h1,h2];rfl),Zg (b,fs,()) rfl ?_⟩))
 refine Xt (fun _=>ZW rfl) fun hf=> ?_
 have hf:QA b fs=true:=hf
 have hP:=b3k h1 hf
 obtain⟨h5,h6,hfs,_⟩:=NR hf
 refine⟨Zk ((⟨l,p⟩:Asked),()) rfl h3,Zg ((⟨l,p⟩:Asked),()) rfl ?_⟩
 refine Xt (fun _=>ZW rfl) fun hs=> ?_
 have hs:(JK l 6&&Bn p 6)=true:=hs
 rw[Bool.and_eq_true]at hs
 obtain⟨hls,hll⟩:=a8l hs.1 (by decide)
 have hpo:=d2o hs.2 (by decide)
 have hps:YD p=true:=hpo
 have ex:Yh b fs l=true:=by
  unfold Yh
  rw[h1,hfs,hls,decide_eq_true (show fs.length<=100 by omega),decide_eq_true (show b.v.length<=1000 by omega),decide_eq_true (show l.t.length<=1000 by omega)];rfl
 have sp:Kh b fs p=true:=by unfold Kh;rw[hP,hps];rfl
 have spr:J3 b fs p=true:=by
  unfold J3
  rw[h1,hfs,hpo,decide_eq_true (show fs.length<=100 by omega),decide_eq_true (show b.v.length<=1000 by omega),d2e hf];rfl
 refine⟨Zk (b,fs,l,()) rfl ex,Zg (b,fs,l,()) rfl ⟨Zk (b,fs,l,()) rfl ex,Zg (b,fs,l,()) rfl ⟨Zk (b,fs,l,()) rfl ex,Zg (b,fs,l,()) rfl ⟨Zk (b,fs,l,()) rfl ex,Zg (b,fs,l,()) rfl ⟨Zk (b,fs,p,()) rfl sp,Zg (b,fs,p,()) rfl ⟨Zk (b,fs,p,()) rfl spr,Zg (b,fs,p,()) rfl ?_⟩⟩⟩⟩⟩⟩
 exact ZA (by simp) (ZA (by simp) (ZA (by simp) (ZA (by simp) (ZA (by simp) (ZW (by simp))))))
end Go.Pl
namespace Go.Pl
open Go.RowKit
open Enc (enc dec is)
open EncL (encL decL isL)
set_option maxRecDepth 100000
end Go.Pl
namespace Go.Pl
open Go.RowKit
open Enc (enc dec is)
open EncL (encL decL isL)
end Go.Pl
