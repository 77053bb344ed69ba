/-
  Texts of mine that belong together (packed by pack.py), for every input: QPw, GPs, TyPs, QPs, TyAw, GAw, QAw, GLp10, QRh, QRi, QRk, QRj, TyRe, TyRf, GRq, QRl, QRm, GSa, QRo.
-/
import Derived.Test.YtjfgiaooglnomaaGreatDoorKE2
import Derived.Test.YtjfgiaooglnomaaGreatDoorKE3
import Derived.Test.YtjfgiaooglnomaaGreatDoorKE4
import Derived.KernelRfl
import Derived.Lib.SlicesCompact
set_option linter.unusedVariables false
set_option linter.unusedSimpArgs false
namespace Go.Pl
open Go.RowKit
open Enc (enc dec is)
open EncL (encL decL isL)
def U5(p:List Mono)(i:Nat):List Str:=(p.take i).flatMap (·.v)
theorem LZ(p:List Mono){i:Nat}(h:i<p.length):U5 p (i+1)=U5 p i++p[i].v:=by
 unfold U5
 rw[List.take_succ_eq_append_getElem h,List.flatMap_append]
 simp
theorem NV(p:List Mono)(hp : ∀ m∈p,m.v.length<=8): ∀ i,i<=p.length->(U5 p i).length<=8*i:=by
 intro i
 induction i with
 | zero=>intro _;simp[U5]
 | succ i ih=>
  intro hi
  have:=ih (by omega)
  rw[LZ p (by omega),List.length_append]
  have:=hp _ (List.getElem_mem (show i<p.length by omega))
  omega
theorem GD{p:List Mono}(h:ZJ p=true):p.length<=60∧ ∀ m∈p,m.v.length<=8:=by
 unfold ZJ at h
 simp only[Bool.and_eq_true,decide_eq_true_eq]at h
 refine⟨h.1.1,fun m hm=> ?_⟩
 have:=List.all_eq_true.1 h.1.2 m hm
 unfold Y0 at this
 simp only[Bool.and_eq_true,decide_eq_true_eq]at this
 exact this.1.1.2
theorem b5a(l:List Str):List.map U9 (List.map (enc:Str->PV) l)=l.map (·.s):=by
 rw[List.map_map];rfl
theorem b9z(l:List (List UInt8)):List.map U9 (List.map PV.str l)=l:=by
 rw[List.map_map];exact(List.map_congr_left (fun _ _=>rfl)).trans (List.map_id _)
theorem Lj(l:List (List UInt8)):(WR l).length=l.length:=(List.mergeSort_perm l _).length_eq
def pvW(p:List Mono):AV×List AObj×List AObj:=if (X4 p).isEmpty then(.pv (.sl 0 true []),[],[])else PL [.pv (enc p)] []
theorem Ef(p:List Mono)(hp:ZJ p=true): ∀ (k i:Nat),k+i=p.length ->
  if (U5 p i).isEmpty then At Wl 0 (Zt 0 Xy fun r=>r=pvW p) XC 0 24 [(3,.pv (.sl 0 true [])),(9,.pv (enc p)),(10,.pv (.int .i64 p.length)),(11,.pv (.int .i64 i))] []
  else At Wl 0 (Zt 0 Xy fun r=>r=pvW p) XC 0 24 [(3,.row 0 (U5 p i).length 0 (U5 p i).length),(9,.pv (enc p)),(10,.pv (.int .i64 p.length)),(11,.pv (.int .i64 i))] [.obj (.row false 9 1 ((U5 p i).map enc))]:=by
 obtain⟨hl,hm⟩:=GD hp
 intro k
 induction k with
 | zero=>
  intro i hi
  obtain rfl:i=p.length:=by omega
  have e:U5 p p.length=X4 p:=by unfold U5 X4;rw[List.take_length]
  rw[e]
  cases hc:(X4 p).isEmpty
  ·rw[if_neg (by simp)]
   have hlen:(X4 p).length<=480:=by have:=NV p hm p.length (Nat.le_refl _);rw[e]at this;omega
   refine R6 p p.length _ (X4 p) (ZR (Yd (by omega)) ⟨?_,?_,?_⟩)
   ·show((X4 p).length==((X4 p).map (enc:Str->PV)).length&&(X4 p).length==(X4 p).length&&((X4 p).map (enc:Str->PV)).all H8&&decide ((X4 p).length<4611686018427387904))=true
    have:((X4 p).map (enc:Str->PV)).all H8=true:=by rw[List.all_map];exact List.all_eq_true.2 fun _ _=>rfl
    rw[this,List.length_map,decide_eq_true (by omega)];simp
   ·rw[b5a]
    show((X4 p).length==((WR ((X4 p).map (·.s))).map PV.str).length&&(X4 p).length==(X4 p).length&&((WR ((X4 p).map (·.s))).map PV.str).all H8&&decide ((X4 p).length<4611686018427387904))=true
    have:((WR ((X4 p).map (·.s))).map PV.str).all H8=true:=by rw[List.all_map];exact List.all_eq_true.2 fun _ _=>rfl
    rw[this,List.length_map,Lj,List.length_map,decide_eq_true (by omega)];simp
   ·rw[b5a,b9z]
    unfold pvW
    rw[hc,if_neg (by simp)]
    show _=(AV.row 0 (XA (dec (enc p:PV))).length 0 (Lib.compact (XA (dec (enc p:PV)))).length,[],[AObj.row false 9 1 ((VW (XA (dec (enc p:PV)))).map .str)])
    rw[Enc.dec_enc]
    have:(XA p).length=(X4 p).length:=by unfold XA;rw[Lj,List.length_map]
    rw[this]
    rfl
  ·rw[if_pos rfl]
   refine RB p p.length (ZR (Yd (by omega)) ?_)
   unfold pvW
   rw[hc,if_pos rfl]
 | succ k ih=>
  intro i hi
  have hlt:i<p.length:=by omega
  have h1:=ih (i+1) (by omega)
  have hmi:=hm _ (List.getElem_mem hlt)
  have hoi:=NV p hm i (by omega)
  rw[LZ p hlt]at h1
  cases hc:(U5 p i).isEmpty
  ·rw[if_neg (by simp)]
   have hc2:(U5 p i++p[i].v).isEmpty=false:=by
    rw[List.isEmpty_eq_false_iff]at hc ⊢
    simp[hc]
   rw[hc2,if_neg (by simp)]at h1
   refine R6 p i _ (U5 p i) (ZN (Z8 hlt) ⟨Zu hlt rfl,ZB hlt ⟨by simp,?_,?_⟩⟩)
   ·show(((U5 p i).map (enc:Str->PV)).length==(U5 p i).length&&(U5 p i).length==(U5 p i).length&&decide (((U5 p i).length+(p[i].v.map (enc:Str->PV)).length)*16<=1099511627776)&&decide ((U5 p i).length+(p[i].v.map (enc:Str->PV)).length<=1099511627776))=true
    rw[List.length_map,List.length_map,decide_eq_true (by omega),decide_eq_true (by omega)];simp
   ·rw[next (by omega)]
    rw[List.length_append,List.map_append]at h1
    have e:(PV.asXs (List.getD (PV.cells (enc p[i])) (0+1) default)).length=p[i].v.length:=by
     show(p[i].v.map (enc:Str->PV)).length=_
     rw[List.length_map]
    rw[e]
    exact h1
  ·rw[if_pos rfl]
   have hnil:U5 p i=[]:=List.isEmpty_iff.1 hc
   rw[hnil,List.nil_append]at h1
   refine RB p i (ZN (Z8 hlt) ⟨Zu hlt rfl,ZB hlt ⟨by simp,?_⟩⟩)
   show if (p[i].v.map (enc:Str->PV)).isEmpty=true then _ else _
   rw[List.isEmpty_map]
   cases hv:p[i].v.isEmpty
   ·rw[hv,if_neg (by simp)]at h1
    refine ZR (by simp) ⟨?_,?_⟩
    ·show((List.isEmpty ([]:List PV)||0==1)&&decide ((List.length ([]:List PV)+(p[i].v.map (enc:Str->PV)).length)*16<=1099511627776)&&decide (List.length ([]:List PV)+(p[i].v.map (enc:Str->PV)).length<=1099511627776))=true
     rw[List.length_map,decide_eq_true (by simp;omega),decide_eq_true (by simp;omega)];rfl
    ·rw[next (by omega)]
     have e:List.length ([]:List PV)+(PV.asXs (List.getD (PV.cells (enc p[i])) (0+1) default)).length=p[i].v.length:=by
      show 0+(p[i].v.map (enc:Str->PV)).length=_
      rw[List.length_map,Nat.zero_add]
     rw[e]
     exact h1
   ·rw[hv,if_pos rfl]at h1
    refine ZN rfl ?_
    rw[next (by omega)]
    exact h1
theorem RH(p:List Mono)(hs:Yo p=true)(hp:ZJ p=true):Ze Wl 0 (Zt 0 Xy fun r=>r=pvW p) XC [] (YV Sk [.pv (enc p)] []):=by
 refine a4u p ⟨Zl (p,()) rfl hs,Zk (p,()) rfl (ZR (by simp[hp]) ?_)⟩
 rw[List.length_map]
 have:=Ef p hp p.length 0 (by omega)
 rw[show(U5 p 0).isEmpty=true from rfl,if_pos rfl]at this
 exact this
theorem OY: ∀ args os,QD args os=true->Ze Wl os.length (Zt os.length Xy fun r=>r=PL args os) XC [] (YV Sk args os):=by
 intro args os h
 unfold QD at h
 split at h
 ·rename_i a
  simp only[Bool.and_eq_true,Bool.not_eq_true']at h
  obtain⟨⟨⟨h1,h2⟩,h3⟩,h4⟩:=h
  obtain⟨p,rfl⟩:=YB h1
  rw[Enc.dec_enc]at h2 h3 h4
  have:=RH p h2 h3
  unfold pvW at this
  rw[h4,if_neg (by simp)]at this
  exact this
 ·cases h
theorem a1s: ∀ args os,Jr args os=true->Ze Wl os.length (Zt os.length Xy fun r=>r=Bh args os) XC [] (YV Sk args os):=by
 intro args os h
 unfold Jr at h
 split at h
 ·rename_i a
  simp only[Bool.and_eq_true]at h
  obtain⟨⟨h1,h2⟩,h3⟩:=h
  obtain⟨p,rfl⟩:=YB h1
  rw[Enc.dec_enc]at h2 h3
  cases hv:ZJ p
  ·exact a4u p ⟨Zl (p,()) rfl h2,Zk (p,()) rfl (ZN (by simp[hv]) rfl)⟩
  ·rw[hv]at h3
   have h3:(X4 p).isEmpty=true:=by simpa using h3
   have:=RH p h2 hv
   unfold pvW at this
   rw[h3,if_pos rfl]at this
   exact this
 ·cases h
theorem c4s: ∀ args os,Gv args os=true->Ze b3s os.length (Zt os.length OZ fun r=>r=Be args os) a0m [] (YV c6i args os):=by
 intro args os h
 unfold Gv at h
 split at h
 ·rename_i x v
  obtain⟨x,rfl⟩:=YB h
  refine d1l x v ?_
  simp only[Be,Enc.dec_enc]
 ·cases h
theorem b1o(l:List Coef)(v:List UInt8)(hl:l.length<=9223372036854775807)(R:AV×List AObj×List AObj)(hR:R=(.pv (.int .i64 (ZI (fun t:Coef=>t.v.s==v) l)),[.box [.pv (.str v)]],[])): ∀ (m i:Nat),m+i=l.length->(∀ j (h:j<l.length),j<i->(l[j].v.s==v)=false) ->
  At SX 1 (Zt 1 HV fun r=>r=R) J4 0 19 [(0,.pv (enc l)),(1,.fn 188 [] [.ptr 0 0]),(7,.pv (.int .i64 l.length)),(8,.pv (.int .i64 i))] [.obj (.box [.pv (.str v)])]:=by
 intro m
 induction m with
 | zero=>
  intro i hi hno
  refine b4x l v i (ZR (Yd (by omega)) ?_)
  rw[hR,Qz _ _ (fun j hj=>hno j hj (by omega))]
 | succ m ih=>
  intro i hi hno
  have hlt:i<l.length:=by omega
  have ed:(dec (PV.agg (VT (PV.cells (enc l[i])) 0 [Sh.str,Sh.int .i64])):Coef)=l[i]:=Enc.dec_enc l[i]
  refine b4x l v i (ZN (Z8 hlt) ⟨Zu hlt rfl,ZB hlt ⟨Yb l[i],?_⟩⟩)
  rw[ed]
  refine XT (fun hb=> ?_) fun hb=> ?_
  ·rw[hR,QC (fun t:Coef=>t.v.s==v) l i hlt hno hb]
  ·rw[next (by omega)]
   refine ih (i+1) (by omega) fun j hj hji=> ?_
   by_cases e:j=i
   ·subst e;exact hb
   ·exact hno j hj (by omega)
theorem c0m: ∀ args os,Uv 188 args os=true->Ze SX os.length (Zt os.length HV fun r=>r=CW args os) J4 [] (YV c9o args os):=by
 intro args os h
 unfold Uv at h
 split at h
 ·rename_i l g v
  simp only[Bool.and_eq_true,beq_iff_eq,decide_eq_true_eq]at h
  obtain⟨⟨rfl,h1⟩,h2⟩:=h
  obtain⟨l,rfl⟩:=YB h1
  rw[Enc.dec_enc]at h2
  refine d1s l v ?_
  rw[List.length_map]
  exact b1o l v h2 _ (by simp only[CW,KM,Enc.dec_enc]) l.length 0 (by omega) (fun j hj h=>by omega)
 ·cases h
theorem a5w(l:List Int)(n:Int)(hl:l.length<=9223372036854775807): ∀ (m i:Nat),m+i=l.length->(∀ j (h:j<l.length),j<i->decide (n=l[j])=false) ->
  At Hg 0 (Zb Kr (Zi (ZI (fun x:Int=>decide (n=x)) l))) Kn 0 19 [(0,.pv (enc l)),(1,.pv (enc n)),(7,.pv (.int .i64 l.length)),(8,.pv (.int .i64 i))] []:=by
 intro m
 induction m with
 | zero=>
  intro i hi hno
  refine a4t l n i (ZR (Yd (by omega)) (VQ ?_))
  rw[Qz _ _ (fun j hj=>hno j hj (by omega))]
 | succ m ih=>
  intro i hi hno
  have hlt:i<l.length:=by omega
  refine a4t l n i (ZN (Z8 hlt) ⟨Zu hlt rfl,ZB hlt (Kb (fun hb=> ?_) fun hb=> ?_)⟩)
  ·have hb:n=l[i]:=hb
   exact VQ (QC (fun x:Int=>decide (n=x)) l i hlt hno (by simp[hb])).symm
  ·have hb : ¬ n=l[i]:=hb
   rw[next (by omega)]
   refine ih (i+1) (by omega) fun j hj hji=> ?_
   by_cases e:j=i
   ·subst e;simp[hb]
   ·exact hno j hj (by omega)
theorem b2z: ∀ a:List Int×Int×Unit,Zr a.1=true->Ze Hg 0 (Zb Kr (Zi (ZI (fun x:Int=>decide (a.2.1=x)) a.1))) Kn [] (Yk c3e (encL a)):=by
 rintro⟨l,n,⟨⟩⟩ h
 refine c8k l n ?_
 rw[List.length_map]
 exact a5w l n (ZF.1 h) l.length 0 (by omega) (fun j hj h=>by omega)
theorem a1w: ∀ a:List Int×Int×Unit,Zr a.1=true->Ze AO 0 (Zb D9 (Zi (a.1.contains a.2.1))) D5 [] (Yk a6h (encL a)):=by
 rintro⟨l,n,⟨⟩⟩ h
 refine b8d l n ⟨Zl (l,n,()) rfl h,Zk (l,n,()) rfl (ZL ?_)⟩
 show decide (ZI (fun x:Int=>decide (n=x)) l ≥ 0)=_
 rw[Wi,Bool.eq_iff_iff]
 simp[List.any_eq_true]
theorem a0y(l:List Int)(hl:l.length<=9223372036854775807): ∀ (m i:Nat) (o:Int),m+i=l.length ->
  At Qy 0 (Zb UD (Zi (a3u o (l.drop i)))) Qb 0 29 [(4,.pv (.int .i64 o)),(11,.pv (enc l)),(12,.pv (.int .i64 l.length)),(13,.pv (.int .i64 i))] []:=by
 intro m
 induction m with
 | zero=>
  intro i o hi
  rw[List.drop_of_length_le (by omega)]
  exact MB l o i (ZR (Yd (by omega)) (Z0 (x:=(o,(0:Int))) rfl))
 | succ m ih=>
  intro i o hi
  have hlt:i<l.length:=by omega
  rw[List.drop_eq_getElem_cons hlt]
  refine MB l o i (ZN (Z8 hlt) ⟨Zu hlt rfl,ZB hlt (Zk (o,l[i],()) rfl ?_)⟩)
  show if ((Ac o l[i]).2 != 0)=true then _ else _
  rw[a3u]
  by_cases h:(Ac o l[i]).2=0
  ·rw[if_neg (by simp[h]),if_neg (by simp[h]),next (by omega)]
   exact ih (i+1) _ (by omega)
  ·rw[if_pos (by simp[h]),if_pos h]
   exact Z0 (x:=((0:Int),(Ac o l[i]).2)) rfl
theorem a8y: ∀ a:List Int×Unit,Zr a.1=true->Ze Qy 0 (Zb UD (Zi (Xp a.1))) Qb [] (Yk b5u (encL a)):=by
 rintro⟨l,⟨⟩⟩ h
 refine c0y l ⟨Zl (l,0,()) rfl h,Zk (l,0,()) rfl (XT (fun hc=> ?_) fun hc=> ?_)⟩
 ·have hc:l.contains 0=true:=hc
  show Zi (Xp l) _
  unfold Xp
  rw[hc,if_pos rfl]
  exact Z0 (x:=((0:Int),(0:Int))) rfl
 ·have hc:l.contains 0=false:=hc
  show At Qy 0 (Zb UD (Zi (Xp l))) _ _ _ _ _
  unfold Xp
  rw[hc,if_neg (by simp),List.length_map]
  exact a0y l (ZF.1 h) l.length 0 1 (by omega)
theorem Q5{α:Type}[Enc α]{l:List α}{i:Nat}(h:i<l.length):List.getD (List.map (enc:α->PV) l) (0+Int.toNat (i:Int)) default=enc l[i]:=by simp[List.getD,h]
def QH(ps:List Int)(o:Option (List Int)):Int×Int:=match o with|none=>(0,2)|some l=>Ub (ps++l)
theorem a9w(p:List Mono)(vs:List Coef)(fs:List (List Int))(hf:fs.length<=60)(hl : ∀ l∈fs,Zr l=true): ∀ (d i:Nat) (ps:List Int),d+i=fs.length->ps.length=i->1<=i ->
  At ZZ 0 (Zb ZP (Zi (QH ps (YN (fs.drop i))))) ZQ 2 91 [(15,.row 0 i 0 i),(69,.row 1 fs.length 0 fs.length),(70,.pv (.int .i64 fs.length)),(71,.pv (.int .i64 i))] [.obj (.row false 3 1 (ps.map enc)),.obj (.row false 34 1 (fs.map enc))]:=by
 intro d
 induction d with
 | zero=>
  intro i ps hi hps h1
  rw[List.drop_of_length_le (by omega)]
  have hr:QH ps (YN [])=Ub ps:=by show Ub (ps++[])=_;rw[List.append_nil]
  rw[hr]
  have et:List.drop 0 (List.take i (List.map (enc:Int->PV) ps))=ps.map enc:=by rw[List.drop_zero,List.take_of_length_le (by simp[hps])]
  apply Re (G:=Zi (Ub ps)) p vs i fs.length fs i ps
  refine ZR (Yd (by omega)) ⟨by simp[hps],?_⟩
  rw[et]
  exact⟨Zl (ps,()) rfl (by simp;omega),Zk (ps,()) rfl (Z0 (x:=Ub ps) rfl)⟩
 | succ d ih=>
  intro i ps hi hps h1
  have hlt:i<fs.length:=by omega
  have e:=Q5 hlt
  rw[List.drop_eq_getElem_cons hlt,YN]
  apply Re (G:=Zi (QH ps (if (Xp fs[i]).2≠0 then none else(YN (fs.drop (i+1))).map ((Xp fs[i]).1:: ·)))) p vs i fs.length fs i ps
  apply ZN (Z8 hlt)
  rw[e]
  refine⟨by simp;omega,by simp;omega,rfl,Zl (fs[i],()) rfl (hl _ (List.getElem_mem hlt)),Zk (fs[i],()) rfl ?_⟩
  show if ((Xp fs[i]).2 != 0)=true then _ else _
  by_cases h:(Xp fs[i]).2=0
  ·rw[if_neg (by simp[h])]
   have hr:QH ps (if (Xp fs[i]).2≠0 then none else(YN (fs.drop (i+1))).map ((Xp fs[i]).1:: ·))=QH (ps++[(Xp fs[i]).1]) (YN (fs.drop (i+1))):=by
    rw[if_neg (by simp[h])]
    cases YN (fs.drop (i+1))with
    | none=>rfl
    | some l=>show Ub (ps++_::l)=Ub (ps++[_]++l);rw[List.append_assoc];rfl
   rw[hr]
   refine⟨?_,?_⟩
   ·rw[List.length_map,hps]
    show((i==i)&&(i==i)&&decide ((i+1)*8<=1099511627776)&&decide (i+1<=1099511627776))=true
    rw[decide_eq_true (by omega),decide_eq_true (by omega)];simp
   ·rw[next (by omega)]
    have:=ih (i+1) (ps++[(Xp fs[i]).1]) (by omega) (by simp[hps]) (by omega)
    rw[List.map_append]at this
    exact this
  ·rw[if_pos (by simp[h])]
   have hr:QH ps (if (Xp fs[i]).2≠0 then none else(YN (fs.drop (i+1))).map ((Xp fs[i]).1:: ·))=((0:Int),(2:Int)):=by rw[if_pos h];rfl
   rw[hr]
   exact Z0 (x:=((0:Int),(2:Int))) rfl
theorem d3c(p:List Mono)(vs:List Coef)(fs:List (List Int))(hne:0<fs.length)(hf:fs.length<=60)(hl : ∀ l∈fs,Zr l=true):
  At ZZ 0 (Zb ZP (Zi (QH [] (YN fs)))) ZQ 2 91 [(15,.pv (.sl 0 true [])),(69,.row 0 fs.length 0 fs.length),(70,.pv (.int .i64 fs.length)),(71,.pv (.int .i64 0))] [.obj (.row false 34 1 (fs.map enc))]:=by
 have e:=Q5 hne
 have hr:YN fs=if (Xp fs[0]).2≠0 then none else(YN (fs.drop 1)).map ((Xp fs[0]).1:: ·):=by
  cases fs with
  | nil=>simp at hne
  | cons l r=>rfl
 rw[hr]
 apply a7g (G:=Zi (QH [] (if (Xp fs[0]).2≠0 then none else(YN (fs.drop 1)).map ((Xp fs[0]).1:: ·)))) p vs ((0:Nat):Int) fs.length fs
 apply ZN (Z8 hne)
 rw[e]
 refine⟨by simp;omega,by simp;omega,rfl,Zl (fs[0],()) rfl (hl _ (List.getElem_mem hne)),Zk (fs[0],()) rfl ?_⟩
 show if ((Xp fs[0]).2 != 0)=true then _ else _
 by_cases h:(Xp fs[0]).2=0
 ·rw[if_neg (by simp[h]),if_neg (by simp[h])]
  have hr:QH [] ((YN (fs.drop 1)).map ((Xp fs[0]).1:: ·))=QH [(Xp fs[0]).1] (YN (fs.drop 1)):=by
   cases YN (fs.drop 1)with
   | none=>rfl
   | some l=>rfl
  rw[hr,next (by omega)]
  exact a9w p vs fs hf hl (fs.length - 1) 1 [(Xp fs[0]).1] (by omega) rfl (by omega)
 ·rw[if_pos (by simp[h]),if_pos h]
  exact Z0 (x:=((0:Int),(2:Int))) rfl
theorem d2y(p:List Mono)(vs:List Coef):At ZZ 0 (Zb ZP (Zi (QH [] (YN [])))) ZQ 2 91 [(15,.pv (.sl 0 true [])),(69,.pv (.sl 0 true [])),(70,.pv (.int .i64 0)),(71,.pv (.int .i64 0))] []:=by
 have hr:QH [] (YN [])=Ub []:=rfl
 rw[hr]
 apply a8p (G:=Zi (Ub [])) p vs
 exact DC ([],()) rfl (Z0 (x:=Ub []) rfl)
def P5(vs:List Coef)(fs:List (List Int))(bd:Bool)(r:List Mono):Int×Int:=match Ee vs r with
 | none=>(0,7)
 | some gs=>if bd||badF gs then(0,2)else QH [] (YN (fs++gs))
def evH(vs:List Coef)(fs:List (List Int))(bd:Bool)(l:List Int)(ns:List Str)(r:List Mono):Int×Int:=match LJ vs ns with
 | none=>(0,7)
 | some xs=>P5 vs (fs++[l++xs]) (bd||xs.any fun x=> !Qr x) r
theorem M4(vs:List Coef)(fs:List (List Int))(bd:Bool)(m:Mono)(r:List Mono):P5 vs fs bd (m::r)=evH vs fs bd [m.c] m.v r:=by
 unfold P5 evH Ee
 cases LJ vs m.v with
 | none=>rfl
 | some xs=>
  show(match (Ee vs r).map ((m.c::xs):: ·)with|none=>_|some gs=>_)=P5 vs (fs++[[m.c]++xs]) _ r
  unfold P5
  cases Ee vs r with
  | none=>rfl
  | some gs=>
   show(if bd||badF ((m.c::xs)::gs)then _ else QH [] (YN (fs++(m.c::xs)::gs)))=(if (bd||xs.any fun x=> !Qr x)||badF gs then _ else QH [] (YN (fs++[[m.c]++xs]++gs)))
   have e1:badF ((m.c::xs)::gs)=((xs.any fun x=> !Qr x)||badF gs):=rfl
   rw[e1,List.append_assoc,Bool.or_assoc]
   rfl
theorem DU(vs:List Coef)(s:Str)(r:List Str):LJ vs (s::r)=match QA vs s with|none=>none|some x=>(LJ vs r).map (x:: ·):=rfl
theorem Lt(vs:List Coef)(fs:List (List Int))(bd:Bool)(l:List Int)(s:Str)(ns:List Str)(r:List Mono)(x:Int)(h:QA vs s=some x):evH vs fs bd l (s::ns) r=evH vs fs (bd || !Qr x) (l++[x]) ns r:=by
 unfold evH
 rw[DU,h]
 show(match (LJ vs ns).map (x:: ·)with|none=>_|some xs=>_)=_
 cases LJ vs ns with
 | none=>rfl
 | some xs=>
  show P5 vs (fs++[l++x::xs]) (bd||(x::xs).any fun x=> !Qr x) r=P5 vs (fs++[l++[x]++xs]) ((bd || !Qr x)||xs.any fun x=> !Qr x) r
  rw[List.append_assoc,List.any_cons,Bool.or_assoc]
  rfl
theorem Bf(x:Int):(!Qr x)=(decide (x < -4611686018427387904)||decide (x>4611686018427387904)):=by
 unfold Qr
 by_cases h1:x < -4611686018427387904
 ·rw[decide_eq_true h1,decide_eq_false (show ¬ -4611686018427387904<=x by omega)];rfl
 ·rw[decide_eq_false h1,decide_eq_true (show -4611686018427387904<=x by omega)]
  by_cases h2:x>4611686018427387904
  ·rw[decide_eq_true h2,decide_eq_false (show ¬ x<=4611686018427387904 by omega)];rfl
  ·rw[decide_eq_false h2,decide_eq_true (show x<=4611686018427387904 by omega)];rfl
theorem d3i(p:List Mono)(vs:List Coef)(hv:vs.length<=9223372036854775807)(i:Nat)(hi:i<60)(hip:i<p.length)(ns:List Str)(hn:ns.length<=8)(R:Int×Int)
  (hnext : ∀ (l:List Int) (bd:Bool),l.length<=100->R=P5 vs ([]++[l]) bd (p.drop (i+1))->At ZZ 0 (Zb ZP (Zi R)) ZQ 0 91 [(6,.row 0 1 0 1),(1,.pv (enc vs)),(7,.pv (.bool bd)),(23,.pv (enc p)),(24,.pv (.int .i64 p.length)),(25,.pv (.int .i64 ((i+1:Nat):Int)))] [.obj (.row false 34 1 (([]++[l]).map enc))]) :
  ∀ (d j:Nat) (l:List Int) (bd:Bool),d+j=ns.length->l.length=j+1->R=evH vs [] bd l (ns.drop j) (p.drop (i+1)) ->
  At ZZ 0 (Zb ZP (Zi R)) ZQ 1 91 [(6,.pv (.sl 0 true [])),(1,.pv (enc vs)),(7,.pv (.bool bd)),(23,.pv (enc p)),(24,.pv (.int .i64 p.length)),(25,.pv (.int .i64 i)),(33,.pv (enc ns)),(34,.pv (.int .i64 ns.length)),(35,.pv (.int .i64 j)),(10,.row 0 (j+1) 0 (j+1))] [.obj (.row false 3 1 (l.map enc))]:=by
 intro d
 induction d with
 | zero=>
  intro j l bd hd hl hR
  rw[List.drop_of_length_le (by omega)]at hR
  have hR2:R=P5 vs ([]++[l]) bd (p.drop (i+1)):=by
   rw[hR]
   show P5 vs ([]++[l++[]]) (bd||false) _=_
   rw[List.append_nil,Bool.or_false]
  have hn0:=hnext l bd (by omega) hR2
  have et:(PV.sl 1 false (List.drop 0 (List.take (j+1) (List.map (enc:Int->PV) l))))=enc l:=by rw[List.drop_zero,List.take_of_length_le (by simp[hl])];rfl
  apply Pk (G:=Zi R) p vs bd i j ns (j+1) l
  apply ZR (Yd (by omega))
  refine⟨by simp[hl],?_⟩
  rw[et,next (by omega)]
  exact hn0
 | succ d ih=>
  intro j l bd hd hl hR
  have hlt:j<ns.length:=by omega
  rw[List.drop_eq_getElem_cons hlt]at hR
  have ecd:KM (enc vs)=vs:=Enc.dec_enc vs
  apply Pk (G:=Zi R) p vs bd i j ns (j+1) l
  apply ZN (Z8 hlt)
  refine⟨Zu hlt rfl,ZB hlt ?_⟩
  have e0:PV.asStr (List.getD (PV.cells (enc ns[j])) 0 default)=ns[j].s:=rfl
  rw[e0,ecd]
  refine⟨by show Uv _ [.pv (enc vs),_] _=true;simp[Uv,hv],?_⟩
  rcases Mt vs ns[j]with ⟨h1,h2⟩|⟨k,hk,h1,h2⟩
  ·have:R=(0,7):=by rw[hR];unfold evH;rw[DU,h2]
   rw[this]
   exact ZN (by simpa using h1) (Z0 (x:=((0:Int),(7:Int))) rfl)
  ·rw[h1]
   rw[Lt vs _ _ _ _ _ _ _ h2]at hR
   have hq : ∀ bd',(bd || !Qr vs[k].c)=bd'->At ZZ 0 (Zb ZP (Zi R)) ZQ 1 91 [(6,.pv (.sl 0 true [])),(1,.pv (enc vs)),(7,.pv (.bool bd')),(23,.pv (enc p)),(24,.pv (.int .i64 p.length)),(25,.pv (.int .i64 i)),(33,.pv (enc ns)),(34,.pv (.int .i64 ns.length)),(35,.pv (.int .i64 ((j+1:Nat):Int))),(10,.row 0 (j+1+1) 0 (j+1+1))] [.obj (.row false 3 1 ((l++[vs[k].c]).map enc))]:=fun bd' hb=>ih (j+1) (l++[vs[k].c]) bd' (by omega) (by simp[hl]) (by rw[<- hb];exact hR)
   have hap:(List.length (List.map (enc:Int->PV) l)==j+1&&(j+1==j+1)&&decide (((j+1)+List.length (List.drop 0 (List.take 1 [PV.int .i64 vs[k].c])))*8<=1099511627776)&&decide ((j+1)+List.length (List.drop 0 (List.take 1 [PV.int .i64 vs[k].c]))<=1099511627776))=true:=by
    rw[List.length_map,hl]
    show((j+1==j+1)&&(j+1==j+1)&&decide (((j+1)+1)*8<=1099511627776)&&decide ((j+1)+1<=1099511627776))=true
    rw[decide_eq_true (by omega),decide_eq_true (by omega)];simp
   refine ZR (by simp) ⟨Zu hk rfl,ZB hk ?_⟩
   rw[next (by omega)]
   rw[List.map_append]at hq
   refine XT (fun hb=>⟨hap,hq true (by rw[hb];rfl)⟩) fun hb=>XQ (fun h3=>⟨hap,hq true ?_⟩) fun h3=>⟨hap,hq _ ?_⟩
   ·have h3:vs[k].c < -4611686018427387904:=h3
    rw[Bf,decide_eq_true h3,hb];rfl
   ·have h3 : ¬ vs[k].c < -4611686018427387904:=h3
    rw[Bf,decide_eq_false h3,hb];rfl
theorem d2z(p:List Mono)(vs:List Coef)(hv:vs.length<=9223372036854775807)(fs:List (List Int))(hfl:fs.length<=60)(i:Nat)(hi:i<60)(hip:i<p.length)(ns:List Str)(hn:ns.length<=8)(R:Int×Int)
  (hnext : ∀ (l:List Int) (bd:Bool),l.length<=100->R=P5 vs (fs++[l]) bd (p.drop (i+1))->At ZZ 0 (Zb ZP (Zi R)) ZQ 0 91 [(6,.row 0 (fs.length+1) 0 (fs.length+1)),(1,.pv (enc vs)),(7,.pv (.bool bd)),(23,.pv (enc p)),(24,.pv (.int .i64 p.length)),(25,.pv (.int .i64 ((i+1:Nat):Int)))] [.obj (.row false 34 1 ((fs++[l]).map enc))]) :
  ∀ (d j:Nat) (l:List Int) (bd:Bool),d+j=ns.length->l.length=j+1->R=evH vs fs bd l (ns.drop j) (p.drop (i+1)) ->
  At ZZ 0 (Zb ZP (Zi R)) ZQ 1 91 [(6,.row 0 fs.length 0 fs.length),(1,.pv (enc vs)),(7,.pv (.bool bd)),(23,.pv (enc p)),(24,.pv (.int .i64 p.length)),(25,.pv (.int .i64 i)),(33,.pv (enc ns)),(34,.pv (.int .i64 ns.length)),(35,.pv (.int .i64 j)),(10,.row 1 (j+1) 0 (j+1))] [.obj (.row false 34 1 (fs.map enc)),.obj (.row false 3 1 (l.map enc))]:=by
 intro d
 induction d with
 | zero=>
  intro j l bd hd hl hR
  rw[List.drop_of_length_le (by omega)]at hR
  have hR2:R=P5 vs (fs++[l]) bd (p.drop (i+1)):=by
   rw[hR]
   show P5 vs (fs++[l++[]]) (bd||false) _=_
   rw[List.append_nil,Bool.or_false]
  have hn0:=hnext l bd (by omega) hR2
  have et:(PV.sl 1 false (List.drop 0 (List.take (j+1) (List.map (enc:Int->PV) l))))=enc l:=by rw[List.drop_zero,List.take_of_length_le (by simp[hl])];rfl
  apply Rz (G:=Zi R) p vs bd i j ns (j+1) l fs.length fs
  apply ZR (Yd (by omega))
  refine⟨by simp[hl],?_,?_⟩
  ·rw[et,List.length_map]
   show((fs.length==fs.length)&&(fs.length==fs.length)&&decide ((fs.length+1)*24<=1099511627776)&&decide (fs.length+1<=1099511627776))=true
   rw[decide_eq_true (by omega),decide_eq_true (by omega)];simp
  ·rw[et,next (by omega)]
   rw[List.map_append]at hn0
   exact hn0
 | succ d ih=>
  intro j l bd hd hl hR
  have hlt:j<ns.length:=by omega
  rw[List.drop_eq_getElem_cons hlt]at hR
  have ecd:KM (enc vs)=vs:=Enc.dec_enc vs
  apply Rz (G:=Zi R) p vs bd i j ns (j+1) l fs.length fs
  apply ZN (Z8 hlt)
  refine⟨Zu hlt rfl,ZB hlt ?_⟩
  have e0:PV.asStr (List.getD (PV.cells (enc ns[j])) 0 default)=ns[j].s:=rfl
  rw[e0,ecd]
  refine⟨by show Uv _ [.pv (enc vs),_] _=true;simp[Uv,hv],?_⟩
  rcases Mt vs ns[j]with ⟨h1,h2⟩|⟨k,hk,h1,h2⟩
  ·have:R=(0,7):=by rw[hR];unfold evH;rw[DU,h2]
   rw[this]
   exact ZN (by simpa using h1) (Z0 (x:=((0:Int),(7:Int))) rfl)
  ·rw[h1]
   rw[Lt vs _ _ _ _ _ _ _ h2]at hR
   have hq : ∀ bd',(bd || !Qr vs[k].c)=bd'->At ZZ 0 (Zb ZP (Zi R)) ZQ 1 91 [(6,.row 0 fs.length 0 fs.length),(1,.pv (enc vs)),(7,.pv (.bool bd')),(23,.pv (enc p)),(24,.pv (.int .i64 p.length)),(25,.pv (.int .i64 i)),(33,.pv (enc ns)),(34,.pv (.int .i64 ns.length)),(35,.pv (.int .i64 ((j+1:Nat):Int))),(10,.row 1 (j+1+1) 0 (j+1+1))] [.obj (.row false 34 1 (fs.map enc)),.obj (.row false 3 1 ((l++[vs[k].c]).map enc))]:=fun bd' hb=>ih (j+1) (l++[vs[k].c]) bd' (by omega) (by simp[hl]) (by rw[<- hb];exact hR)
   have hap:(List.length (List.map (enc:Int->PV) l)==j+1&&(j+1==j+1)&&decide (((j+1)+List.length (List.drop 0 (List.take 1 [PV.int .i64 vs[k].c])))*8<=1099511627776)&&decide ((j+1)+List.length (List.drop 0 (List.take 1 [PV.int .i64 vs[k].c]))<=1099511627776))=true:=by
    rw[List.length_map,hl]
    show((j+1==j+1)&&(j+1==j+1)&&decide (((j+1)+1)*8<=1099511627776)&&decide ((j+1)+1<=1099511627776))=true
    rw[decide_eq_true (by omega),decide_eq_true (by omega)];simp
   refine ZR (by simp) ⟨Zu hk rfl,ZB hk ?_⟩
   rw[next (by omega)]
   rw[List.map_append]at hq
   refine XT (fun hb=>⟨hap,hq true (by rw[hb];rfl)⟩) fun hb=>XQ (fun h3=>⟨hap,hq true ?_⟩) fun h3=>⟨hap,hq _ ?_⟩
   ·have h3:vs[k].c < -4611686018427387904:=h3
    rw[Bf,decide_eq_true h3,hb];rfl
   ·have h3 : ¬ vs[k].c < -4611686018427387904:=h3
    rw[Bf,decide_eq_false h3,hb];rfl
theorem b8c(vs:List Coef)(fs:List (List Int))(bd:Bool):P5 vs fs bd []=if bd then(0,2)else QH [] (YN fs):=by
 show(if bd||badF []then _ else QH [] (YN (fs++[])))=_
 have:badF []=false:=rfl
 rw[this,Bool.or_false,List.append_nil]
theorem Ec(p:List Mono)(vs:List Coef)(hp:ZJ p=true)(hv:vs.length<=9223372036854775807): ∀ (d i:Nat) (fs:List (List Int)) (bd:Bool),d+i=p.length->fs.length=i->1<=i->(∀ l∈fs,l.length<=100) ->
  At ZZ 0 (Zb ZP (Zi (P5 vs fs bd (p.drop i)))) ZQ 0 91 [(6,.row 0 fs.length 0 fs.length),(1,.pv (enc vs)),(7,.pv (.bool bd)),(23,.pv (enc p)),(24,.pv (.int .i64 p.length)),(25,.pv (.int .i64 i))] [.obj (.row false 34 1 (fs.map enc))]:=by
 obtain⟨hpl,hpm⟩:=GD hp
 intro d
 induction d with
 | zero=>
  intro i fs bd hi hfi h1 hls
  rw[List.drop_of_length_le (by omega),b8c]
  apply TZ (G:=Zi (if bd then((0:Int),(2:Int))else QH [] (YN fs))) p vs bd i fs.length fs
  apply ZR (Yd (by omega))
  refine XT (fun hb=> ?_) fun hb=> ?_
  ·rw[hb,if_pos rfl]
   exact Z0 (x:=((0:Int),(2:Int))) rfl
  ·rw[hb,if_neg (by simp),Nat.sub_zero]
   exact d3c p vs fs (by omega) (by omega) fun l hl=>ZF.2 (by have:=hls l hl;omega)
 | succ d ih=>
  intro i fs bd hi hfi h1 hls
  have hlt:i<p.length:=by omega
  have hm:=hpm _ (List.getElem_mem hlt)
  rw[List.drop_eq_getElem_cons hlt,M4]
  apply TZ (G:=Zi (evH vs fs bd [p[i].c] p[i].v (p.drop (i+1)))) p vs bd i fs.length fs
  apply ZN (Z8 hlt)
  refine⟨Zu hlt rfl,ZB hlt ?_⟩
  have:=d2z p vs hv fs (by omega) i (by omega) hlt p[i].v hm (evH vs fs bd [p[i].c] p[i].v (p.drop (i+1))) (fun l bd' hl hR=>by
   rw[hR]
   have:=ih (i+1) (fs++[l]) bd' (by omega) (by simp[hfi]) (by omega) (fun x hx=>by
    rcases List.mem_append.1 hx with hx|hx
    ·exact hls x hx
    ·rw[List.mem_singleton.1 hx];exact hl)
   rw[List.length_append]at this
   exact this) p[i].v.length 0 [p[i].c] bd (by omega) rfl rfl
  have eL:(((PV.asXs (List.getD (PV.cells (enc p[i])) (0+1) default)).length:Nat):Int)=(p[i].v.length:Int):=by
   show(((p[i].v.map (enc:Str->PV)).length:Nat):Int)=_
   rw[List.length_map]
  rw[eL]
  exact this
theorem b4r{p:List Mono}{vs:List Coef}(h:ZJ p=true):P5 vs [] false p=Xa p vs:=by
 unfold P5 Xa
 rw[h,if_pos rfl]
 cases Ee vs p with
 | none=>rfl
 | some fs=>
  show(if false||badF fs then _ else QH [] (YN ([]++fs)))=_
  rw[Bool.false_or,List.nil_append]
  show _=if badF fs then _ else _
  by_cases hb:badF fs=true
  ·rw[if_pos hb,if_pos hb]
  ·rw[if_neg hb,if_neg hb]
   cases YN fs with
   | none=>rfl
   | some l=>rfl
theorem a5k: ∀ x:List Mono×List Coef×Unit,(Yo x.1&&Zr x.2.1)=true->Ze ZZ 0 (Zb ZP (Zi (Xa x.1 x.2.1))) ZQ [] (Yk b6d (encL x)):=by
 rintro⟨p,vs,⟨⟩⟩ h
 simp only[Bool.and_eq_true]at h
 obtain⟨hs,hv⟩:=h
 have hv:=ZF.1 hv
 refine c1l p vs ⟨Zl (p,()) rfl hs,Zk (p,()) rfl ?_⟩
 show if (!(ZJ p))=true then _ else _
 cases hp:ZJ p
 ·rw[if_pos (by rfl)]
  have:Xa p vs=(0,1):=by unfold Xa;rw[hp,if_neg (by simp)]
  show Zi (Xa p vs) _
  rw[this]
  exact Z0 (x:=((0:Int),(1:Int))) rfl
 ·rw[if_neg (by simp)]
  obtain⟨hpl,hpm⟩:=GD hp
  show At ZZ 0 (Zb ZP (Zi (Xa p vs))) _ _ _ _ _
  rw[<- b4r hp,List.length_map]
  cases hpc:p with
  | nil=>
   have e:P5 vs [] false []=QH [] (YN []):=by rw[b8c];rfl
   rw[e]
   apply Rq (G:=Zi (QH [] (YN []))) [] vs false ((0:Nat):Int)
   apply ZR (Yd (by simp))
   exact ZR (by simp) (d2y [] vs)
  | cons m r=>
   have hlt:0<p.length:=by rw[hpc];simp
   have e0:p[0]=m:=by simp[hpc]
   rw[<- hpc]
   have hm:=hpm _ (List.getElem_mem hlt)
   have ed:p=p[0]::p.drop 1:=(List.drop_eq_getElem_cons hlt).symm▸rfl
   have eg:P5 vs [] false p=evH vs [] false [p[0].c] p[0].v (p.drop 1):=by
    rw[<- M4]
    have:=List.drop_eq_getElem_cons hlt
    rw[List.drop_zero]at this
    rw[<- this]
   rw[eg]
   apply Rq (G:=Zi (evH vs [] false [p[0].c] p[0].v (p.drop 1))) p vs false ((0:Nat):Int)
   apply ZN (Z8 hlt)
   refine⟨Zu hlt rfl,ZB hlt ?_⟩
   have:=d3i p vs hv 0 (by omega) hlt p[0].v hm (evH vs [] false [p[0].c] p[0].v (p.drop 1)) (fun l bd' hl hR=>by
    rw[hR]
    exact Ec p vs hp hv (p.length - 1) 1 ([]++[l]) bd' (by omega) (by simp) (by omega) (fun x hx=>by
     rw[List.nil_append]at hx
     rw[List.mem_singleton.1 hx];exact hl)) p[0].v.length 0 [p[0].c] false (by omega) rfl rfl
   have eL:(((PV.asXs (List.getD (PV.cells (enc p[0])) (0+1) default)).length:Nat):Int)=(p[0].v.length:Int):=by
    show(((p[0].v.map (enc:Str->PV)).length:Nat):Int)=_
    rw[List.length_map]
   rw[eL]
   exact this
end Go.Pl
namespace Go.Pl
open Go.RowKit
open Enc (enc dec is)
open EncL (encL decL isL)
set_option maxRecDepth 100000
def Y5:IC:=(Zh [Za 3 (.box 2 (.t 0)) 0,Za 5 (.box 1 (.t 2)) 1,Za 6 (.alloc (.int .i64 0)) 2,Za 7 (.alloc (.int .i64 0)) 3] (.seq (.seq (.reg [Za 19 (.load true [(.sl 1),(.int .i64)] (.t 3)) 0,Za 20 (Zc 1) 0,Za 21 (Yl [(.sl 2)] (.t 5)) 0,Za 22 (YT 122 [(.t 21)]) 0,Za 23 (Yl [(.sl 2)] (.t 5)) 2,Za 24 (YT 123 [(.t 23)]) 2,Za 25 (YT 116 [(.t 19),(.t 20),(.t 22),(.t 24)]) 4,Za 8 (Zc 25) 6] (some [[],[],[],[2],[],[4,3,2],[0,1,3,5,2,4],[6,0,1,2,3,4,5]])) (Zh [Za 26 (Zc 8) 0,Za 27 (ZA .neq (.t 26) (Zy 0)) 0] (.cond (.t 27) (Zh [Za 28 (Zc 8) 0,Ui (.store 1 (.t 6) (Zy 0)) 0,Ui (.store 1 (.t 7) (.t 28)) 0] .ret) .skip))) (Zh [Za 9 (.alloc (.sl 0 true [])) 0,Za 10 (.alloc (.sl 0 true [])) 1] (Zh [Za 29 (.mkfn 124 [] [(.t 9),(.t 10)]) 0,Za 11 (.alloc .nilfn) 0,Ui (.store 1 (.t 11) (.t 29)) 1] (.seq (Zh [Za 30 (.load true [(.sl 1),(.int .i64)] (.t 3)) 0,Za 31 (Zc 1) 0,Za 32 (YT 117 [(.t 30),(.t 31)]) 0] (.block 0 (.ext 0 [32,34,5,13,36,37,38,35,39,40,15,41,42,6,7,11,14,43,44,9,10]))) (Zh [Za 16 (.mv (Zy 0)) 0,Za 17 (.mv (Zy 0)) 0] (.seq (Zh [Za 46 (Yl [(.sl 1)] (.t 9)) 0,Za 47 (.len 1 (.t 46)) 0,Za 48 (.mv (Zy 0)) 0] (.block 2 (.loop [48,47,16,9,17,10,6,7] (Zh [Za 49 (ZA .lss (.t 48) (.t 47)) 0] (.seq (.cond (.t 49) .skip (.exit 2)) (.seq (.block 3 (Zh [Za 50 (Zc 48) 0,Za 18 (Zc 50) 0] (.reg [Za 51 (Zc 16) 0,Za 52 (Yl [(.sl 1)] (.t 9)) 0,Za 53 (Zc 18) 0,Za 54 (.iaddr 1 (.t 52) (.t 53)) 0,Za 55 (Yl [(.int .i64)] (.t 54)) 0,Za 56 (ZA .add (.t 51) (.t 55)) 0,Za 57 (Zc 17) 0,Za 58 (Yl [(.sl 1)] (.t 10)) 0,Za 59 (Zc 18) 0,Za 60 (.iaddr 1 (.t 58) (.t 59)) 0,Za 61 (Yl [(.int .i64)] (.t 60)) 0,Za 62 (ZA .add (.t 57) (.t 61)) 0,Za 16 (Zc 56) 0,Za 17 (Zc 62) 0] (some [[],[],[],[1,2],[3,1,2],[0,4,3,1,2],[],[],[],[7,8],[9,7,8],[6,10,9,7,8],[5,0,1,2,3,4],[11,12,0,1,2,3,4,5,6,7,8,9,10]])))) (.reg [Za 63 (ZA .add (.t 48) (Zy 1)) 0,Za 48 (Zc 63) 0] none))))))) (Zh [Za 64 (Zc 16) 0,Za 65 (Zc 17) 0,Za 66 (ZA .shr (.t 65) (.c (.int .u64 31))) 0,Za 67 (ZA .add (.t 64) (.t 66)) 0,Za 68 (Zc 17) 0,Za 69 (ZA .and (.t 68) (Zy 2147483647)) 0,Za 16 (Zc 67) 0,Za 17 (Zc 69) 0] (Zh [Za 70 (Zc 16) 0,Za 71 (Zc 17) 0,Za 72 (.bslice 3 1 2 (.int .i64 0) [(0,(.t 70)),(1,(.t 71))]) 0,Za 73 (.bslice 3 1 2 (.int .i64 0) [(0,(Zy 2147483648)),(1,(Zy 1))]) 1,Za 74 (YT 126 [(.t 72),(.t 73)]) 2,Za 75 (.extract (.t 74) 0) 4,Za 76 (.extract (.t 74) 1) 4,Ui (.store 1 (.t 6) (.t 75)) 4,Ui (.store 1 (.t 7) (.t 76)) 4] .ret)))))))))
def Xl:List IRes:=[(.cell false 1 6),(.cell false 1 7)]
abbrev b4z:Nat:=77
def Y2:ZO:=Xc [(122,.pure (preT (fun x:List Mono×Unit=>Yo x.1)) (Zj (fun x:List Mono×Unit=>ZJ x.1))),(123,.own Jr Bh),(116,.pure (preT (fun x:BoxT×List Fact×Bool×NilS×Unit=>ZH x.1&&Zf x.2.1&&decide (x.2.1.length<=100))) (Zj (fun x:BoxT×List Fact×Bool×NilS×Unit=>Zv x.1 x.2.1 x.2.2.1 []))),(117,.own Xn Vd),(125,.pure (preT (fun x:List Mono×List Coef×Unit=>Yo x.1&&Zr x.2.1)) (Zj (fun x:List Mono×List Coef×Unit=>Xa x.1 x.2.1))),(124,.own UN Qu),(126,.pure (preT (fun x:List Int×List Int×Unit=>decide (x.1.length<=10000)&&decide (x.2.1.length<=10000))) (Zj (fun x:List Int×List Int×Unit=>DV x.1 x.2.1)))]
theorem c0q{G:PV->Prop}(E:YL)(b:BoxT)(fs:List Fact)(p:List Mono)(h:(Go.Pl.preT (fun(x:List Mono×Unit)=>Yo x.1) [(.sl 2 false (List.map enc p))])=true∧(∃ y0:Bool,AV.pv (Zj (fun(x:List Mono×Unit)=>ZJ x.1) [(.sl 2 false (List.map enc p))])=AV.pv (enc y0)∧((Jr [(.pv (.sl 2 false (List.map enc p)))] [])=true∧((Go.Pl.preT (fun(x:BoxT×List Fact×Bool×NilS×Unit)=>ZH x.1&&Zf x.2.1&&decide (List.length x.2.1<=100)) [(.agg [(.sl 1 false (List.map enc b.v)),(.int .i64 b.m)]),(.sl 3 false (List.map enc fs)),(.bool y0),(.sl 0 true [])])=true∧(∃ y1:Int,AV.pv (Zj (fun(x:BoxT×List Fact×Bool×NilS×Unit)=>Zv x.1 x.2.1 x.2.2.1 []) [(.agg [(.sl 1 false (List.map enc b.v)),(.int .i64 b.m)]),(.sl 3 false (List.map enc fs)),(.bool y0),(.sl 0 true [])])=AV.pv (enc y1)∧(if (y1 != 0)=true then G ((.tup [(.int .i64 0),(.int .i64 y1)]))else((Xn [(.pv (.agg [(.sl 1 false (List.map enc b.v)),(.int .i64 b.m)])),(.pv (.sl 3 false (List.map enc fs)))] [])=true∧(E 0 ⟨Z4 77 0 [(5,(.ptr 0 0)),(6,(.ptr 1 0)),(7,(.ptr 2 0)),(9,(.ptr 3 0)),(10,(.ptr 4 0)),(11,(.ptr 5 0)),(13,.undef),(14,.undef),(15,.undef),(32,(.fn 177 [] [(.ptr 6 0),(.ptr 7 0)])),(34,.undef),(35,.undef),(36,.undef),(37,.undef),(38,.undef),(39,.undef),(40,.undef),(41,.undef),(42,.undef),(43,.undef),(44,.undef)],[(.obj (.box [(.pv (.sl 2 false (List.map enc p)))])),(.obj (.box [(.pv (.int .i64 0))])),(.obj (.box [(.pv (.int .i64 0))])),(.obj (.box [(.pv (.sl 0 true []))])),(.obj (.box [(.pv (.sl 0 true []))])),(.obj (.box [(.fn 124 [] [(.ptr 3 0),(.ptr 4 0)])])),(.obj (.box [(.pv (.sl 1 false (List.map enc b.v))),(.pv (.int .i64 b.m))])),(.obj (.box [(.pv (.sl 3 false (List.map enc fs)))]))]⟩ (fun x S'=>JP Y2 E 0 (Zb Xl G) Y5 0 x S'))))))))):ZM Y2 E 0 (Zb Xl G) (.inl Y5) [] (Yk 77 [enc b,enc fs,enc p]):=ZM.mp (.req (.abs (Bool) (fun YY=>AV.pv (enc YY)) (.req (.keep (.req (.abs (Int) (fun YY=>AV.pv (enc YY)) (.lit (.ask (.nil) (.req (.keep (.nil))))))))))) h (by kernel_rfl)
theorem a6m{G:PV->Prop}(E:YL)(b:BoxT)(fs:List Fact)(p:List Mono)(h : ∃ y0:Int×Int,AV.pv (Zj (fun(x:List Int×List Int×Unit)=>DV x.1 x.2.1) [(.sl 1 false [(.int .i64 0),(.int .i64 0)]),(.sl 1 false [(.int .i64 2147483648),(.int .i64 1)])])=AV.pv (enc y0)∧(G ((.tup [(.int .i64 y0.1),(.int .i64 y0.2)])))):AtM Y2 E 0 (Zb Xl G) Y5 0 77 [(6,.ptr 0 0),(7,.ptr 1 0),(9,.ptr 2 0),(10,.ptr 3 0),(16,.pv (.int .i64 0)),(17,.pv (.int .i64 0)),(47,.pv (.int .i64 0)),(48,.pv (.int .i64 0))] [.obj (.box [.pv (.int .i64 0)]),.obj (.box [.pv (.int .i64 0)]),.obj (.box [.pv (.sl 0 true [])]),.obj (.box [.pv (.sl 0 true [])])]:=ZM.mp (.lit (.lit (.lit (.lit (.lit (.lit (.lit (.lit (.lit (.lit (.abs (Int×Int) (fun YY=>AV.pv (enc YY)) (.nil)))))))))))) h (by kernel_rfl)
theorem RY{G:PV->Prop}(E:YL)(b:BoxT)(fs:List Fact)(p:List Mono)(u z i:Int)(n:Nat)(xs ys:List Int)(h:if (decide (i<(↑n:Int)))=true then(decide (0<=i)&&decide (0+Int.toNat i<n)&&List.length (List.map enc xs)==n)=true∧((List.length (List.map enc xs)==n&&decide (0+Int.toNat i<List.length (List.map enc xs)))=true∧((decide (0+List.length [Sh.int .i64]<=List.length (PV.cells (List.getD (List.map enc xs) (0+Int.toNat i) default)))&&Yx (PV.cells (List.getD (List.map enc xs) (0+Int.toNat i) default)) 0 [Sh.int .i64])=true∧((decide (0<=i)&&decide (0+Int.toNat i<n)&&List.length (List.map enc ys)==n)=true∧((List.length (List.map enc ys)==n&&decide (0+Int.toNat i<List.length (List.map enc ys)))=true∧((decide (0+List.length [Sh.int .i64]<=List.length (PV.cells (List.getD (List.map enc ys) (0+Int.toNat i) default)))&&Yx (PV.cells (List.getD (List.map enc ys) (0+Int.toNat i) default)) 0 [Sh.int .i64])=true∧(AtM Y2 E 0 (Zb Xl G) Y5 0 77 [(6,(.ptr 0 0)),(7,(.ptr 1 0)),(9,(.ptr 2 0)),(10,(.ptr 3 0)),(16,(.pv (.int .i64 (IntKind.wrap IntKind.i64 (u+PV.asInt (List.getD (PV.cells (List.getD (List.map enc xs) (0+Int.toNat i) default)) 0 default)))))),(17,(.pv (.int .i64 (IntKind.wrap IntKind.i64 (z+PV.asInt (List.getD (PV.cells (List.getD (List.map enc ys) (0+Int.toNat i) default)) 0 default)))))),(47,(.pv (.int .i64 (↑n:Int)))),(48,(.pv (.int .i64 (IntKind.wrap IntKind.i64 (i+1)))))] [(.obj (.box [(.pv (.int .i64 0))])),(.obj (.box [(.pv (.int .i64 0))])),(.obj (.box [(.row 4 n 0 n)])),(.obj (.box [(.row 5 n 0 n)])),(.obj (.row false 3 1 (List.map enc xs))),(.obj (.row false 3 1 (List.map enc ys)))]))))))else(∃ y0:Int×Int,AV.pv (Zj (fun(x:List Int×List Int×Unit)=>DV x.1 x.2.1) [(.sl 1 false [(.int .i64 (IntKind.wrap IntKind.i64 (u+Int.fdiv z (2 ^ min (Int.toNat 31) (IntKind.bits IntKind.i64))))),(.int .i64 (IntKind.wrap IntKind.i64 (↑(BitVec.toNat (BitVec.ofInt (IntKind.bits IntKind.i64) z &&& BitVec.ofInt (IntKind.bits IntKind.i64) 2147483647)):Int)))]),(.sl 1 false [(.int .i64 2147483648),(.int .i64 1)])])=AV.pv (enc y0)∧(G ((.tup [(.int .i64 y0.1),(.int .i64 y0.2)]))))):AtM Y2 E 0 (Zb Xl G) Y5 0 77 [(6,.ptr 0 0),(7,.ptr 1 0),(9,.ptr 2 0),(10,.ptr 3 0),(16,.pv (.int .i64 u)),(17,.pv (.int .i64 z)),(47,.pv (.int .i64 n)),(48,.pv (.int .i64 i))] [.obj (.box [.pv (.int .i64 0)]),.obj (.box [.pv (.int .i64 0)]),.obj (.box [.row 4 n 0 n]),.obj (.box [.row 5 n 0 n]),.obj (.row false 3 1 (xs.map enc)),.obj (.row false 3 1 (ys.map enc))]:=ZM.mp (.lit (.ask (.req (.keep (.req (.req (.lit (.req (.keep (.req (.req (.lit (.lit (.nil)))))))))))) (.lit (.lit (.lit (.lit (.lit (.lit (.lit (.lit (.abs (Int×Int) (fun YY=>AV.pv (enc YY)) (.nil)))))))))))) h (by kernel_rfl)
theorem a8c{G:PV->Prop}(E:YL)(b:BoxT)(fs:List Fact)(p:List Mono)(h:AtM Y2 E 0 (Zb Xl G) Y5 0 77 [(6,(.ptr 0 0)),(7,(.ptr 1 0)),(9,(.ptr 2 0)),(10,(.ptr 3 0)),(16,(.pv (.int .i64 0))),(17,(.pv (.int .i64 0))),(47,(.pv (.int .i64 0))),(48,(.pv (.int .i64 0)))] [(.obj (.box [(.pv (.int .i64 0))])),(.obj (.box [(.pv (.int .i64 0))])),(.obj (.box [(.pv (.sl 0 true []))])),(.obj (.box [(.pv (.sl 0 true []))]))]):JP Y2 E 0 (Zb Xl G) Y5 0 .normal ⟨Z4 77 0 [(5,.ptr 0 0),(6,.ptr 1 0),(7,.ptr 2 0),(9,.ptr 3 0),(10,.ptr 4 0),(11,.ptr 5 0)],[.obj (.box [.pv (enc p)]),.obj (.box [.pv (.int .i64 0)]),.obj (.box [.pv (.int .i64 0)]),.obj (.box [.pv (.sl 0 true [])]),.obj (.box [.pv (.sl 0 true [])]),.obj (.box [.fn 124 [] [.ptr 3 0,.ptr 4 0]])]⟩:=ZM.mp (.nil) h (by kernel_rfl)
theorem a9f{G:PV->Prop}(E:YL)(b:BoxT)(fs:List Fact)(p:List Mono)(n:Nat)(xs ys:List Int)(h:AtM Y2 E 0 (Zb Xl G) Y5 0 77 [(6,(.ptr 0 0)),(7,(.ptr 1 0)),(9,(.ptr 2 0)),(10,(.ptr 3 0)),(16,(.pv (.int .i64 0))),(17,(.pv (.int .i64 0))),(47,(.pv (.int .i64 (↑(n - 0):Int)))),(48,(.pv (.int .i64 0)))] [(.obj (.box [(.pv (.int .i64 0))])),(.obj (.box [(.pv (.int .i64 0))])),(.obj (.box [(.row 4 n 0 n)])),(.obj (.box [(.row 5 n 0 n)])),(.obj (.row false 3 1 (List.map enc xs))),(.obj (.row false 3 1 (List.map enc ys)))]):JP Y2 E 0 (Zb Xl G) Y5 0 .normal ⟨Z4 77 0 [(5,.ptr 0 0),(6,.ptr 1 0),(7,.ptr 2 0),(9,.ptr 3 0),(10,.ptr 4 0),(11,.ptr 5 0)],[.obj (.box [.pv (enc p)]),.obj (.box [.pv (.int .i64 0)]),.obj (.box [.pv (.int .i64 0)]),.obj (.box [.row 6 n 0 n]),.obj (.box [.row 7 n 0 n]),.obj (.box [.fn 124 [] [.ptr 3 0,.ptr 4 0]]),.obj (.row false 3 1 (xs.map enc)),.obj (.row false 3 1 (ys.map enc))]⟩:=ZM.mp (.nil) h (by kernel_rfl)
theorem a1b{G:PV->Prop}(E:YL)(b:BoxT)(fs:List Fact)(p:List Mono)(h:G ((.tup [(.int .i64 0),(.int .i64 2)]))):JP Y2 E 0 (Zb Xl G) Y5 0 .ret ⟨Z4 77 0 [(5,.ptr 0 0),(6,.ptr 1 0),(7,.ptr 2 0),(9,.ptr 3 0),(10,.ptr 4 0),(11,.ptr 5 0)],[.obj (.box [.pv (enc p)]),.obj (.box [.pv (.int .i64 0)]),.obj (.box [.pv (.int .i64 2)]),.obj (.box [.pv (.sl 0 true [])]),.obj (.box [.pv (.sl 0 true [])]),.obj (.box [.fn 124 [] [.ptr 3 0,.ptr 4 0]]),.fresh,.fresh]⟩:=ZM.mp (.nil) h (by kernel_rfl)
theorem Eo{G:PV->Prop}(E:YL)(b:BoxT)(fs:List Fact)(p:List Mono)(n:Nat)(xs ys:List Int)(h:G ((.tup [(.int .i64 0),(.int .i64 2)]))):JP Y2 E 0 (Zb Xl G) Y5 0 .ret ⟨Z4 77 0 [(5,.ptr 0 0),(6,.ptr 1 0),(7,.ptr 2 0),(9,.ptr 3 0),(10,.ptr 4 0),(11,.ptr 5 0)],[.obj (.box [.pv (enc p)]),.obj (.box [.pv (.int .i64 0)]),.obj (.box [.pv (.int .i64 2)]),.obj (.box [.row 6 n 0 n]),.obj (.box [.row 7 n 0 n]),.obj (.box [.fn 124 [] [.ptr 3 0,.ptr 4 0]]),.obj (.row false 3 1 (xs.map enc)),.obj (.row false 3 1 (ys.map enc)),.fresh,.fresh]⟩:=ZM.mp (.nil) h (by kernel_rfl)
def VH:IC:=(.block 1 (Zh [Za 36 (Yl [(.sl 2)] (.t 5)) 0,Za 37 (Zc 13) 0,Za 38 (YT 125 [(.t 36),(.t 37)]) 0,Za 35 (Zc 38) 2,Za 39 (.extract (.t 35) 0) 2,Za 40 (.extract (.t 35) 1) 2,Za 14 (Zc 39) 2,Za 15 (Zc 40) 2] (.seq (Zh [Za 41 (Zc 15) 0,Za 42 (ZA .neq (.t 41) (Zy 0)) 0] (.cond (.t 42) (Zh [Ui (.store 1 (.t 6) (Zy 0)) 0,Ui (.store 1 (.t 7) (Zy 2)) 0] .ret) .skip)) (.reg [Za 43 (.load false [.any] (.t 11)) 0,Za 44 (Zc 14) 0,Za 45 (.call (.t 43) [(.t 44)]) 0] none))))
def Bb:ZO:=Xc [(122,.pure (preT (fun x:List Mono×Unit=>Yo x.1)) (Zj (fun x:List Mono×Unit=>ZJ x.1))),(123,.own Jr Bh),(116,.pure (preT (fun x:BoxT×List Fact×Bool×NilS×Unit=>ZH x.1&&Zf x.2.1&&decide (x.2.1.length<=100))) (Zj (fun x:BoxT×List Fact×Bool×NilS×Unit=>Zv x.1 x.2.1 x.2.2.1 []))),(117,.own Xn Vd),(125,.pure (preT (fun x:List Mono×List Coef×Unit=>Yo x.1&&Zr x.2.1)) (Zj (fun x:List Mono×List Coef×Unit=>Xa x.1 x.2.1))),(124,.own UN Qu),(126,.pure (preT (fun x:List Int×List Int×Unit=>decide (x.1.length<=10000)&&decide (x.2.1.length<=10000))) (Zj (fun x:List Int×List Int×Unit=>DV x.1 x.2.1)))]
theorem b7z{G:ZC->Prop}(E:YL)(p:List Mono)(q:List Int)(vs:List Coef)(h:(Go.Pl.preT (fun(x:List Mono×List Coef×Unit)=>Yo x.1&&Zr x.2.1) [(.sl 2 false (List.map enc p)),(.sl 2 false (List.map enc vs))])=true∧(∃ y0:Int×Int,AV.pv (Zj (fun(x:List Mono×List Coef×Unit)=>Xa x.1 x.2.1) [(.sl 2 false (List.map enc p)),(.sl 2 false (List.map enc vs))])=AV.pv (enc y0)∧(if (y0.2 != 0)=true then G ([(.obj (.box [(.pv (.sl 2 false (List.map enc p)))])),(.obj (.box [(.pv (.int .i64 0))])),(.obj (.box [(.pv (.int .i64 2))])),(.obj (.box [(.pv (.sl 0 true []))])),(.obj (.box [(.pv (.sl 0 true []))])),(.obj (.box [(.fn 124 [] [(.ptr 3 0),(.ptr 4 0)])])),.fresh,.fresh])else(E 99 ⟨Z4 77 0 [],[(.obj (.box [(.pv (.sl 2 false (List.map enc p)))])),(.obj (.box [(.pv (.int .i64 0))])),(.obj (.box [(.pv (.int .i64 0))])),(.obj (.box [(.row 6 1 0 1)])),(.obj (.box [(.row 7 1 0 1)])),(.obj (.box [(.fn 124 [] [(.ptr 3 0),(.ptr 4 0)])])),(.obj (.row false 3 1 [(.int .i64 (WS y0.1))])),(.obj (.row false 3 1 [(.int .i64 (Ws y0.1))]))]⟩ (fun x S'=>JP Bb E 6 (fun st=>G st.heap) VH 99 x S'))))):ZM Bb E 6 (fun st=>G st.heap) (.inl VH) [.seq (.ext 99 [])] ⟨Z4 77 0 [(5,.ptr 0 0),(6,.ptr 1 0),(7,.ptr 2 0),(9,.ptr 3 0),(10,.ptr 4 0),(11,.ptr 5 0),(13,.pv (enc vs)),(33,.pv (enc q)),(34,.pv (enc vs))],[.obj (.box [.pv (enc p)]),.obj (.box [.pv (.int .i64 0)]),.obj (.box [.pv (.int .i64 0)]),.obj (.box [.pv (.sl 0 true [])]),.obj (.box [.pv (.sl 0 true [])]),.obj (.box [.fn 124 [] [.ptr 3 0,.ptr 4 0]])]⟩:=ZM.mh (.req (.abs (Int×Int) (fun YY=>AV.pv (enc YY)) (.lit (.ask (.nil) (.lit (.keep (.nil))))))) h (by kernel_rfl)
theorem b8r{G:ZC->Prop}(E:YL)(p:List Mono)(q:List Int)(vs:List Coef)(n:Nat)(xs ys:List Int)(h:(Go.Pl.preT (fun(x:List Mono×List Coef×Unit)=>Yo x.1&&Zr x.2.1) [(.sl 2 false (List.map enc p)),(.sl 2 false (List.map enc vs))])=true∧(∃ y0:Int×Int,AV.pv (Zj (fun(x:List Mono×List Coef×Unit)=>Xa x.1 x.2.1) [(.sl 2 false (List.map enc p)),(.sl 2 false (List.map enc vs))])=AV.pv (enc y0)∧(if (y0.2 != 0)=true then G ([(.obj (.box [(.pv (.sl 2 false (List.map enc p)))])),(.obj (.box [(.pv (.int .i64 0))])),(.obj (.box [(.pv (.int .i64 2))])),(.obj (.box [(.row 6 n 0 n)])),(.obj (.box [(.row 7 n 0 n)])),(.obj (.box [(.fn 124 [] [(.ptr 3 0),(.ptr 4 0)])])),(.obj (.row false 3 1 (List.map enc xs))),(.obj (.row false 3 1 (List.map enc ys))),.fresh,.fresh])else((UN [(.pv (.int .i64 y0.1)),(.ptr 0 0),(.ptr 1 0)] [(.box [(.row 2 n 0 n)]),(.box [(.row 3 n 0 n)]),(.row false 3 1 (List.map enc xs)),(.row false 3 1 (List.map enc ys))])=true∧(E 99 ⟨Z4 77 0 [],[(.obj (.box [(.pv (.sl 2 false (List.map enc p)))])),(.obj (.box [(.pv (.int .i64 0))])),(.obj (.box [(.pv (.int .i64 0))])),(.obj (.box [(.row 6 (n+1) 0 (n+1))])),(.obj (.box [(.row 7 (n+1) 0 (n+1))])),(.obj (.box [(.fn 124 [] [(.ptr 3 0),(.ptr 4 0)])])),(.obj (.row false 3 1 (List.map enc xs++[PV.int .i64 (WS y0.1)]))),(.obj (.row false 3 1 (List.map enc ys++[PV.int .i64 (Ws y0.1)])))]⟩ (fun x S'=>JP Bb E 8 (fun st=>G st.heap) VH 99 x S')))))):ZM Bb E 8 (fun st=>G st.heap) (.inl VH) [.seq (.ext 99 [])] ⟨Z4 77 0 [(5,.ptr 0 0),(6,.ptr 1 0),(7,.ptr 2 0),(9,.ptr 3 0),(10,.ptr 4 0),(11,.ptr 5 0),(13,.pv (enc vs)),(33,.pv (enc q)),(34,.pv (enc vs))],[.obj (.box [.pv (enc p)]),.obj (.box [.pv (.int .i64 0)]),.obj (.box [.pv (.int .i64 0)]),.obj (.box [.row 6 n 0 n]),.obj (.box [.row 7 n 0 n]),.obj (.box [.fn 124 [] [.ptr 3 0,.ptr 4 0]]),.obj (.row false 3 1 (xs.map enc)),.obj (.row false 3 1 (ys.map enc))]⟩:=ZM.mh (.req (.abs (Int×Int) (fun YY=>AV.pv (enc YY)) (.lit (.ask (.nil) (.req (.keep (.nil))))))) h (by kernel_rfl)
def Xj:IC:=Y5
def Xg:List IRes:=[(.cell false 1 6),(.cell false 1 7)]
abbrev b1a:Nat:=77
def YZ:ZO:=Xc [(122,.pure (preT (fun x:List Mono×Unit=>Yo x.1)) (Zj (fun x:List Mono×Unit=>ZJ x.1))),(123,.own QD PG),(116,.own UM KE),(117,.own Xn Vd),(125,.pure (preT (fun x:List Mono×List Coef×Unit=>Yo x.1&&Zr x.2.1)) (Zj (fun x:List Mono×List Coef×Unit=>Xa x.1 x.2.1))),(124,.own UN Qu),(126,.pure (preT (fun x:List Int×List Int×Unit=>decide (x.1.length<=10000)&&decide (x.2.1.length<=10000))) (Zj (fun x:List Int×List Int×Unit=>DV x.1 x.2.1)))]
theorem c4f{G:PV->Prop}(E:YL)(b:BoxT)(fs:List Fact)(p:List Mono)(h:(Go.Pl.preT (fun(x:List Mono×Unit)=>Yo x.1) [(.sl 2 false (List.map enc p))])=true∧(∃ y0:Bool,AV.pv (Zj (fun(x:List Mono×Unit)=>ZJ x.1) [(.sl 2 false (List.map enc p))])=AV.pv (enc y0)∧((QD [(.pv (.sl 2 false (List.map enc p)))] [])=true∧((UM [(.pv (.agg [(.sl 1 false (List.map enc b.v)),(.int .i64 b.m)])),(.pv (.sl 3 false (List.map enc fs))),(.pv (.bool y0)),(.row 0 (List.length (YK (Uw (enc p)))) 0 (List.length (YK (Uw (enc p)))))] [(.row false 9 1 (List.map enc (YK (Uw (enc p)))))])=true∧(if (Zv (a1g (PV.agg [enc b.v,enc b.m])) (BX (enc fs)) y0 (KS (List.map enc (YK (Uw (enc p))))) != 0)=true then G ((.tup [(.int .i64 0),(.int .i64 (Zv (a1g (PV.agg [enc b.v,enc b.m])) (BX (enc fs)) y0 (KS (List.map enc (YK (Uw (enc p)))))))]))else((Xn [(.pv (.agg [(.sl 1 false (List.map enc b.v)),(.int .i64 b.m)])),(.pv (.sl 3 false (List.map enc fs)))] [])=true∧(E 0 ⟨Z4 77 0 [(5,(.ptr 0 0)),(6,(.ptr 1 0)),(7,(.ptr 2 0)),(9,(.ptr 3 0)),(10,(.ptr 4 0)),(11,(.ptr 5 0)),(13,.undef),(14,.undef),(15,.undef),(32,(.fn 177 [] [(.ptr 6 0),(.ptr 7 0)])),(34,.undef),(35,.undef),(36,.undef),(37,.undef),(38,.undef),(39,.undef),(40,.undef),(41,.undef),(42,.undef),(43,.undef),(44,.undef)],[(.obj (.box [(.pv (.sl 2 false (List.map enc p)))])),(.obj (.box [(.pv (.int .i64 0))])),(.obj (.box [(.pv (.int .i64 0))])),(.obj (.box [(.pv (.sl 0 true []))])),(.obj (.box [(.pv (.sl 0 true []))])),(.obj (.box [(.fn 124 [] [(.ptr 3 0),(.ptr 4 0)])])),(.obj (.box [(.pv (.sl 1 false (List.map enc b.v))),(.pv (.int .i64 b.m))])),(.obj (.box [(.pv (.sl 3 false (List.map enc fs)))]))]⟩ (fun x S'=>JP YZ E 0 (Zb Xg G) Xj 0 x S')))))))):ZM YZ E 0 (Zb Xg G) (.inl Xj) [] (Yk 77 [enc b,enc fs,enc p]):=ZM.mp (.req (.abs (Bool) (fun YY=>AV.pv (enc YY)) (.req (.keep (.req (.keep (.lit (.ask (.nil) (.req (.keep (.nil))))))))))) h (by kernel_rfl)
theorem a9h{G:PV->Prop}(E:YL)(b:BoxT)(fs:List Fact)(p:List Mono)(h : ∃ y0:Int×Int,AV.pv (Zj (fun(x:List Int×List Int×Unit)=>DV x.1 x.2.1) [(.sl 1 false [(.int .i64 0),(.int .i64 0)]),(.sl 1 false [(.int .i64 2147483648),(.int .i64 1)])])=AV.pv (enc y0)∧(G ((.tup [(.int .i64 y0.1),(.int .i64 y0.2)])))):AtM YZ E 0 (Zb Xg G) Xj 0 77 [(6,.ptr 0 0),(7,.ptr 1 0),(9,.ptr 2 0),(10,.ptr 3 0),(16,.pv (.int .i64 0)),(17,.pv (.int .i64 0)),(47,.pv (.int .i64 0)),(48,.pv (.int .i64 0))] [.obj (.box [.pv (.int .i64 0)]),.obj (.box [.pv (.int .i64 0)]),.obj (.box [.pv (.sl 0 true [])]),.obj (.box [.pv (.sl 0 true [])])]:=ZM.mp (.lit (.lit (.lit (.lit (.lit (.lit (.lit (.lit (.lit (.lit (.abs (Int×Int) (fun YY=>AV.pv (enc YY)) (.nil)))))))))))) h (by kernel_rfl)
theorem R9{G:PV->Prop}(E:YL)(b:BoxT)(fs:List Fact)(p:List Mono)(u z i:Int)(n:Nat)(xs ys:List Int)(h:if (decide (i<(↑n:Int)))=true then(decide (0<=i)&&decide (0+Int.toNat i<n)&&List.length (List.map enc xs)==n)=true∧((List.length (List.map enc xs)==n&&decide (0+Int.toNat i<List.length (List.map enc xs)))=true∧((decide (0+List.length [Sh.int .i64]<=List.length (PV.cells (List.getD (List.map enc xs) (0+Int.toNat i) default)))&&Yx (PV.cells (List.getD (List.map enc xs) (0+Int.toNat i) default)) 0 [Sh.int .i64])=true∧((decide (0<=i)&&decide (0+Int.toNat i<n)&&List.length (List.map enc ys)==n)=true∧((List.length (List.map enc ys)==n&&decide (0+Int.toNat i<List.length (List.map enc ys)))=true∧((decide (0+List.length [Sh.int .i64]<=List.length (PV.cells (List.getD (List.map enc ys) (0+Int.toNat i) default)))&&Yx (PV.cells (List.getD (List.map enc ys) (0+Int.toNat i) default)) 0 [Sh.int .i64])=true∧(AtM YZ E 0 (Zb Xg G) Xj 0 77 [(6,(.ptr 0 0)),(7,(.ptr 1 0)),(9,(.ptr 2 0)),(10,(.ptr 3 0)),(16,(.pv (.int .i64 (IntKind.wrap IntKind.i64 (u+PV.asInt (List.getD (PV.cells (List.getD (List.map enc xs) (0+Int.toNat i) default)) 0 default)))))),(17,(.pv (.int .i64 (IntKind.wrap IntKind.i64 (z+PV.asInt (List.getD (PV.cells (List.getD (List.map enc ys) (0+Int.toNat i) default)) 0 default)))))),(47,(.pv (.int .i64 (↑n:Int)))),(48,(.pv (.int .i64 (IntKind.wrap IntKind.i64 (i+1)))))] [(.obj (.box [(.pv (.int .i64 0))])),(.obj (.box [(.pv (.int .i64 0))])),(.obj (.box [(.row 4 n 0 n)])),(.obj (.box [(.row 5 n 0 n)])),(.obj (.row false 3 1 (List.map enc xs))),(.obj (.row false 3 1 (List.map enc ys)))]))))))else(∃ y0:Int×Int,AV.pv (Zj (fun(x:List Int×List Int×Unit)=>DV x.1 x.2.1) [(.sl 1 false [(.int .i64 (IntKind.wrap IntKind.i64 (u+Int.fdiv z (2 ^ min (Int.toNat 31) (IntKind.bits IntKind.i64))))),(.int .i64 (IntKind.wrap IntKind.i64 (↑(BitVec.toNat (BitVec.ofInt (IntKind.bits IntKind.i64) z &&& BitVec.ofInt (IntKind.bits IntKind.i64) 2147483647)):Int)))]),(.sl 1 false [(.int .i64 2147483648),(.int .i64 1)])])=AV.pv (enc y0)∧(G ((.tup [(.int .i64 y0.1),(.int .i64 y0.2)]))))):AtM YZ E 0 (Zb Xg G) Xj 0 77 [(6,.ptr 0 0),(7,.ptr 1 0),(9,.ptr 2 0),(10,.ptr 3 0),(16,.pv (.int .i64 u)),(17,.pv (.int .i64 z)),(47,.pv (.int .i64 n)),(48,.pv (.int .i64 i))] [.obj (.box [.pv (.int .i64 0)]),.obj (.box [.pv (.int .i64 0)]),.obj (.box [.row 4 n 0 n]),.obj (.box [.row 5 n 0 n]),.obj (.row false 3 1 (xs.map enc)),.obj (.row false 3 1 (ys.map enc))]:=ZM.mp (.lit (.ask (.req (.keep (.req (.req (.lit (.req (.keep (.req (.req (.lit (.lit (.nil)))))))))))) (.lit (.lit (.lit (.lit (.lit (.lit (.lit (.lit (.abs (Int×Int) (fun YY=>AV.pv (enc YY)) (.nil)))))))))))) h (by kernel_rfl)
theorem a7d{G:PV->Prop}(E:YL)(b:BoxT)(fs:List Fact)(p:List Mono)(h:AtM YZ E 0 (Zb Xg G) Xj 0 77 [(6,(.ptr 0 0)),(7,(.ptr 1 0)),(9,(.ptr 2 0)),(10,(.ptr 3 0)),(16,(.pv (.int .i64 0))),(17,(.pv (.int .i64 0))),(47,(.pv (.int .i64 0))),(48,(.pv (.int .i64 0)))] [(.obj (.box [(.pv (.int .i64 0))])),(.obj (.box [(.pv (.int .i64 0))])),(.obj (.box [(.pv (.sl 0 true []))])),(.obj (.box [(.pv (.sl 0 true []))]))]):JP YZ E 0 (Zb Xg G) Xj 0 .normal ⟨Z4 77 0 [(5,.ptr 0 0),(6,.ptr 1 0),(7,.ptr 2 0),(9,.ptr 3 0),(10,.ptr 4 0),(11,.ptr 5 0)],[.obj (.box [.pv (enc p)]),.obj (.box [.pv (.int .i64 0)]),.obj (.box [.pv (.int .i64 0)]),.obj (.box [.pv (.sl 0 true [])]),.obj (.box [.pv (.sl 0 true [])]),.obj (.box [.fn 124 [] [.ptr 3 0,.ptr 4 0]])]⟩:=ZM.mp (.nil) h (by kernel_rfl)
theorem a5s{G:PV->Prop}(E:YL)(b:BoxT)(fs:List Fact)(p:List Mono)(n:Nat)(xs ys:List Int)(h:AtM YZ E 0 (Zb Xg G) Xj 0 77 [(6,(.ptr 0 0)),(7,(.ptr 1 0)),(9,(.ptr 2 0)),(10,(.ptr 3 0)),(16,(.pv (.int .i64 0))),(17,(.pv (.int .i64 0))),(47,(.pv (.int .i64 (↑(n - 0):Int)))),(48,(.pv (.int .i64 0)))] [(.obj (.box [(.pv (.int .i64 0))])),(.obj (.box [(.pv (.int .i64 0))])),(.obj (.box [(.row 4 n 0 n)])),(.obj (.box [(.row 5 n 0 n)])),(.obj (.row false 3 1 (List.map enc xs))),(.obj (.row false 3 1 (List.map enc ys)))]):JP YZ E 0 (Zb Xg G) Xj 0 .normal ⟨Z4 77 0 [(5,.ptr 0 0),(6,.ptr 1 0),(7,.ptr 2 0),(9,.ptr 3 0),(10,.ptr 4 0),(11,.ptr 5 0)],[.obj (.box [.pv (enc p)]),.obj (.box [.pv (.int .i64 0)]),.obj (.box [.pv (.int .i64 0)]),.obj (.box [.row 6 n 0 n]),.obj (.box [.row 7 n 0 n]),.obj (.box [.fn 124 [] [.ptr 3 0,.ptr 4 0]]),.obj (.row false 3 1 (xs.map enc)),.obj (.row false 3 1 (ys.map enc))]⟩:=ZM.mp (.nil) h (by kernel_rfl)
theorem EI{G:PV->Prop}(E:YL)(b:BoxT)(fs:List Fact)(p:List Mono)(h:G ((.tup [(.int .i64 0),(.int .i64 2)]))):JP YZ E 0 (Zb Xg G) Xj 0 .ret ⟨Z4 77 0 [(5,.ptr 0 0),(6,.ptr 1 0),(7,.ptr 2 0),(9,.ptr 3 0),(10,.ptr 4 0),(11,.ptr 5 0)],[.obj (.box [.pv (enc p)]),.obj (.box [.pv (.int .i64 0)]),.obj (.box [.pv (.int .i64 2)]),.obj (.box [.pv (.sl 0 true [])]),.obj (.box [.pv (.sl 0 true [])]),.obj (.box [.fn 124 [] [.ptr 3 0,.ptr 4 0]]),.fresh,.fresh]⟩:=ZM.mp (.nil) h (by kernel_rfl)
theorem a1y{G:PV->Prop}(E:YL)(b:BoxT)(fs:List Fact)(p:List Mono)(n:Nat)(xs ys:List Int)(h:G ((.tup [(.int .i64 0),(.int .i64 2)]))):JP YZ E 0 (Zb Xg G) Xj 0 .ret ⟨Z4 77 0 [(5,.ptr 0 0),(6,.ptr 1 0),(7,.ptr 2 0),(9,.ptr 3 0),(10,.ptr 4 0),(11,.ptr 5 0)],[.obj (.box [.pv (enc p)]),.obj (.box [.pv (.int .i64 0)]),.obj (.box [.pv (.int .i64 2)]),.obj (.box [.row 6 n 0 n]),.obj (.box [.row 7 n 0 n]),.obj (.box [.fn 124 [] [.ptr 3 0,.ptr 4 0]]),.obj (.row false 3 1 (xs.map enc)),.obj (.row false 3 1 (ys.map enc)),.fresh,.fresh]⟩:=ZM.mp (.nil) h (by kernel_rfl)
def Uz:IC:=VH
def Bu:ZO:=Xc [(122,.pure (preT (fun x:List Mono×Unit=>Yo x.1)) (Zj (fun x:List Mono×Unit=>ZJ x.1))),(123,.own QD PG),(116,.own UM KE),(117,.own Xn Vd),(125,.pure (preT (fun x:List Mono×List Coef×Unit=>Yo x.1&&Zr x.2.1)) (Zj (fun x:List Mono×List Coef×Unit=>Xa x.1 x.2.1))),(124,.own UN Qu),(126,.pure (preT (fun x:List Int×List Int×Unit=>decide (x.1.length<=10000)&&decide (x.2.1.length<=10000))) (Zj (fun x:List Int×List Int×Unit=>DV x.1 x.2.1)))]
theorem b8s{G:ZC->Prop}(E:YL)(p:List Mono)(q:List Int)(vs:List Coef)(h:(Go.Pl.preT (fun(x:List Mono×List Coef×Unit)=>Yo x.1&&Zr x.2.1) [(.sl 2 false (List.map enc p)),(.sl 2 false (List.map enc vs))])=true∧(∃ y0:Int×Int,AV.pv (Zj (fun(x:List Mono×List Coef×Unit)=>Xa x.1 x.2.1) [(.sl 2 false (List.map enc p)),(.sl 2 false (List.map enc vs))])=AV.pv (enc y0)∧(if (y0.2 != 0)=true then G ([(.obj (.box [(.pv (.sl 2 false (List.map enc p)))])),(.obj (.box [(.pv (.int .i64 0))])),(.obj (.box [(.pv (.int .i64 2))])),(.obj (.box [(.pv (.sl 0 true []))])),(.obj (.box [(.pv (.sl 0 true []))])),(.obj (.box [(.fn 124 [] [(.ptr 3 0),(.ptr 4 0)])])),.fresh,.fresh])else(E 99 ⟨Z4 77 0 [],[(.obj (.box [(.pv (.sl 2 false (List.map enc p)))])),(.obj (.box [(.pv (.int .i64 0))])),(.obj (.box [(.pv (.int .i64 0))])),(.obj (.box [(.row 6 1 0 1)])),(.obj (.box [(.row 7 1 0 1)])),(.obj (.box [(.fn 124 [] [(.ptr 3 0),(.ptr 4 0)])])),(.obj (.row false 3 1 [(.int .i64 (WS y0.1))])),(.obj (.row false 3 1 [(.int .i64 (Ws y0.1))]))]⟩ (fun x S'=>JP Bu E 6 (fun st=>G st.heap) Uz 99 x S'))))):ZM Bu E 6 (fun st=>G st.heap) (.inl Uz) [.seq (.ext 99 [])] ⟨Z4 77 0 [(5,.ptr 0 0),(6,.ptr 1 0),(7,.ptr 2 0),(9,.ptr 3 0),(10,.ptr 4 0),(11,.ptr 5 0),(13,.pv (enc vs)),(33,.pv (enc q)),(34,.pv (enc vs))],[.obj (.box [.pv (enc p)]),.obj (.box [.pv (.int .i64 0)]),.obj (.box [.pv (.int .i64 0)]),.obj (.box [.pv (.sl 0 true [])]),.obj (.box [.pv (.sl 0 true [])]),.obj (.box [.fn 124 [] [.ptr 3 0,.ptr 4 0]])]⟩:=ZM.mh (.req (.abs (Int×Int) (fun YY=>AV.pv (enc YY)) (.lit (.ask (.nil) (.lit (.keep (.nil))))))) h (by kernel_rfl)
theorem b4f{G:ZC->Prop}(E:YL)(p:List Mono)(q:List Int)(vs:List Coef)(n:Nat)(xs ys:List Int)(h:(Go.Pl.preT (fun(x:List Mono×List Coef×Unit)=>Yo x.1&&Zr x.2.1) [(.sl 2 false (List.map enc p)),(.sl 2 false (List.map enc vs))])=true∧(∃ y0:Int×Int,AV.pv (Zj (fun(x:List Mono×List Coef×Unit)=>Xa x.1 x.2.1) [(.sl 2 false (List.map enc p)),(.sl 2 false (List.map enc vs))])=AV.pv (enc y0)∧(if (y0.2 != 0)=true then G ([(.obj (.box [(.pv (.sl 2 false (List.map enc p)))])),(.obj (.box [(.pv (.int .i64 0))])),(.obj (.box [(.pv (.int .i64 2))])),(.obj (.box [(.row 6 n 0 n)])),(.obj (.box [(.row 7 n 0 n)])),(.obj (.box [(.fn 124 [] [(.ptr 3 0),(.ptr 4 0)])])),(.obj (.row false 3 1 (List.map enc xs))),(.obj (.row false 3 1 (List.map enc ys))),.fresh,.fresh])else((UN [(.pv (.int .i64 y0.1)),(.ptr 0 0),(.ptr 1 0)] [(.box [(.row 2 n 0 n)]),(.box [(.row 3 n 0 n)]),(.row false 3 1 (List.map enc xs)),(.row false 3 1 (List.map enc ys))])=true∧(E 99 ⟨Z4 77 0 [],[(.obj (.box [(.pv (.sl 2 false (List.map enc p)))])),(.obj (.box [(.pv (.int .i64 0))])),(.obj (.box [(.pv (.int .i64 0))])),(.obj (.box [(.row 6 (n+1) 0 (n+1))])),(.obj (.box [(.row 7 (n+1) 0 (n+1))])),(.obj (.box [(.fn 124 [] [(.ptr 3 0),(.ptr 4 0)])])),(.obj (.row false 3 1 (List.map enc xs++[PV.int .i64 (WS y0.1)]))),(.obj (.row false 3 1 (List.map enc ys++[PV.int .i64 (Ws y0.1)])))]⟩ (fun x S'=>JP Bu E 8 (fun st=>G st.heap) Uz 99 x S')))))):ZM Bu E 8 (fun st=>G st.heap) (.inl Uz) [.seq (.ext 99 [])] ⟨Z4 77 0 [(5,.ptr 0 0),(6,.ptr 1 0),(7,.ptr 2 0),(9,.ptr 3 0),(10,.ptr 4 0),(11,.ptr 5 0),(13,.pv (enc vs)),(33,.pv (enc q)),(34,.pv (enc vs))],[.obj (.box [.pv (enc p)]),.obj (.box [.pv (.int .i64 0)]),.obj (.box [.pv (.int .i64 0)]),.obj (.box [.row 6 n 0 n]),.obj (.box [.row 7 n 0 n]),.obj (.box [.fn 124 [] [.ptr 3 0,.ptr 4 0]]),.obj (.row false 3 1 (xs.map enc)),.obj (.row false 3 1 (ys.map enc))]⟩:=ZM.mh (.req (.abs (Int×Int) (fun YY=>AV.pv (enc YY)) (.lit (.ask (.nil) (.req (.keep (.nil))))))) h (by kernel_rfl)
end Go.Pl
namespace Go.Pl
open Go.RowKit
open Enc (enc dec is)
open EncL (encL decL isL)
theorem Gb{a b:Int}: ∀ {l:List Int},(∀ x∈l,a<=x∧x<=b)->l.length*a<=l.sum∧l.sum<=l.length*b
 | [],_=>by simp
 | x::l,h=>by
  have h1:=h x (by simp)
  have h2:=Gb (l:=l) fun y hy=>h y (by simp[hy])
  rw[List.length_cons,List.sum_cons,Int.natCast_add,Int.add_mul,Int.add_mul]
  simp only[Int.natCast_one,Int.one_mul]
  omega
theorem c8y(n:Int):WS n*2147483648+Ws n=n:=by unfold WS Ws;omega
theorem b0a{n:Int}(h:Qr n=true): -2147483648<=WS n∧WS n<=2147483648:=by
 unfold Qr at h
 simp only[Bool.and_eq_true,decide_eq_true_eq]at h
 unfold WS;omega
theorem b4w(n:Int):0<=Ws n∧Ws n<=2147483647:=by unfold Ws;omega
theorem Ad: ∀ l:List Int,(l.map WS).sum*2147483648+(l.map Ws).sum=l.sum
 | []=>rfl
 | n::l=>by
  have h1:=c8y n
  have h2:=Ad l
  simp only[List.map_cons,List.sum_cons,Int.add_mul]
  omega
theorem Sn{l:List Int}(hl:l.length<=20000)(hr : ∀ x∈l,Qr x=true){H L:Int}(hH:H=(l.map WS).sum+(l.map Ws).sum / 2147483648)(hL:L=(l.map Ws).sum % 2147483648):
  DV [H,L] [2147483648,1]=Ub l:=by
 have h1:=Gb (l:=l.map WS) (a:= -2147483648) (b:=2147483648) (by
  intro x hx
  obtain⟨n,hn,rfl⟩:=List.mem_map.1 hx
  exact b0a (hr n hn))
 have h2:=Gb (l:=l.map Ws) (a:=0) (b:=2147483647) (by
  intro x hx
  obtain⟨n,hn,rfl⟩:=List.mem_map.1 hx
  exact b4w n)
 have h3:=Ad l
 rw[List.length_map]at h1 h2
 have hd:Ew [H,L] [2147483648,1]=l.sum:=by
  show H*2147483648+(L*1+0)=_
  omega
 have ha:l.all Qr=true:=List.all_eq_true.2 hr
 have e1:Qr H=true:=by
  unfold Qr
  rw[decide_eq_true (by omega),decide_eq_true (by omega)];rfl
 have e2:Qr L=true:=by
  unfold Qr
  rw[decide_eq_true (by omega),decide_eq_true (by omega)];rfl
 unfold DV Ub
 rw[hd,ha,if_pos (by rfl)]
 have:(List.all [H,L] Qr&&List.all [(2147483648:Int),1] Qr)=true:=by
  simp only[List.all_cons,List.all_nil,Bool.and_true,e1,e2,Bool.and_eq_true]
  decide
 rw[this]
theorem c3d{l:List Int}:Qr (Ub l).1=true:=by
 unfold Ub
 split
 ·rename_i h
  simp only[Bool.and_eq_true]at h
  exact h.2
 ·decide
theorem b5d(p:List Mono)(vs:List Coef):Qr (Xa p vs).1=true:=by
 unfold Xa
 split
 ·split
  ·decide
  ·split
   ·decide
   ·split
    ·decide
    ·exact c3d
 ·decide
theorem Q0{p:List Mono}{vs:List Str}: ∀ {qs:List (List Int)} {l:List Int},UB p vs qs=some l->l.length=qs.length
 | [],_,h=>by cases h;rfl
 | q::r,l,h=>by
  rw[UB]at h
  split at h
  ·cases h
  ·obtain⟨m,hm,rfl⟩:=Option.map_eq_some_iff.1 h
   simp[Q0 hm]
theorem Az{p:List Mono}{vs:List Str}: ∀ {qs:List (List Int)} {l:List Int},UB p vs qs=some l-> ∀ x∈l,Qr x=true
 | [],_,h=>by cases h;simp
 | q::r,l,h=>by
  rw[UB]at h
  split at h
  ·cases h
  ·obtain⟨m,hm,rfl⟩:=Option.map_eq_some_iff.1 h
   intro x hx
   rcases List.mem_cons.1 hx with rfl|hx
   ·exact b5d _ _
   ·exact Az hm x hx
theorem U1{p:List Mono}{vs:List Str}{q:List Int}(hq:(Xa p (Zq vs q)).2=0): ∀ {qs:List (List Int)} {l:List Int},UB p vs qs=some l->UB p vs (qs++[q])=some (l++[(Xa p (Zq vs q)).1])
 | [],_,h=>by cases h;rw[List.nil_append,UB,if_neg (by simp[hq])];rfl
 | q'::r,l,h=>by
  rw[UB]at h
  split at h
  ·cases h
  ·rename_i h2
   obtain⟨m,hm,rfl⟩:=Option.map_eq_some_iff.1 h
   rw[List.cons_append,UB,if_neg h2,U1 hq hm];rfl
theorem Td{p:List Mono}{vs:List Str}{q:List Int}(hq:(Xa p (Zq vs q)).2≠0){r:List (List Int)}: ∀ (qs:List (List Int)),UB p vs (qs++q::r)=none
 | []=>by rw[List.nil_append,UB,if_pos hq]
 | q'::qs=>by
  rw[List.cons_append,UB,Td hq qs]
  split <;> rfl
section
variable {α:Type} [Inhabited α] [DecidableEq α]
theorem Ml{d:Array α}{x:α}: ∀ {m:Nat},m<=d.size->x∈Lib.compactUpTo d m-> ∃ j,j<m∧x=d[j]!
 | 0,_,h=>by simp[Lib.compactUpTo]at h
 | m+1,hm,h=>by
  rw[Lib.compactUpTo_succ,List.mem_append]at h
  rcases h with h|h
  ·obtain⟨j,h1,h2⟩:=Ml (by omega) h;exact⟨j,by omega,h2⟩
  ·split at h
   ·exact⟨m,by omega,by simpa using h⟩
   ·simp at h
theorem Me{d:Array α}: ∀ {m:Nat},m<=d.size-> ∀ j,j<m->d[j]! ∈ Lib.compactUpTo d m
 | 0,_,j,h=>by omega
 | m+1,hm,j,h=>by
  rw[Lib.compactUpTo_succ,List.mem_append]
  by_cases hj:j<m
  ·exact .inl (Me (by omega) j hj)
  ·have:j=m:=by omega
   subst this
   cases hk:Lib.keeps d j
   ·refine .inl ?_
    have h0:j≠0∧d[j]! = d[j - 1]! :=by
     unfold Lib.keeps at hk
     simpa [not_or]using hk
    rw[h0.2]
    exact Me (by omega) (j - 1) (by omega)
   ·right;simp
theorem FV{zs:List α}{x:α}:x∈Lib.compact zs ↔ x∈zs:=by
 unfold Lib.compact
 constructor
 ·intro h
  obtain⟨j,h1,rfl⟩:=Ml (by simp) h
  simp[getElem!_pos,h1]
 ·intro h
  obtain⟨j,hj,rfl⟩:=List.getElem_of_mem h
  have:=Me (d:=zs.toArray) (m:=zs.length) (by simp) j hj
  simpa [getElem!_pos,hj]using this
end
theorem a2d{d:Array (List UInt8)}(hs : ∀ i j,i<j->j<d.size->d[i]! <= d[j]!): ∀ {m:Nat},m<=d.size->(Lib.compactUpTo d m).Pairwise (· < ·)
 | 0,_=>by simp[Lib.compactUpTo]
 | m+1,hm=>by
  rw[Lib.compactUpTo_succ,List.pairwise_append]
  refine⟨a2d hs (by omega),by split <;> simp,?_⟩
  intro x hx y hy
  split at hy
  ·rename_i hk
   have hy:y=d[m]! :=by simpa using hy
   subst hy
   obtain⟨j,hj,rfl⟩:=Ml (by omega) hx
   have h0:m≠0:=by omega
   have hne:d[m]! ≠ d[m - 1]! :=by
    unfold Lib.keeps at hk
    simpa [h0]using hk
   have h1:d[m - 1]! <= d[m]! :=hs _ _ (by omega) (by omega)
   have h2:d[j]! <= d[m - 1]! :=by
    by_cases e:j=m - 1
    ·rw[e];exact List.le_refl _
    ·exact hs _ _ (by omega) (by omega)
   have h3:d[m - 1]! < d[m]! :=by
    rcases List.le_iff_lt_or_eq.1 h1 with h|h
    ·exact h
    ·exact absurd h.symm hne
   exact Std.lt_of_le_of_lt h2 h3
  ·simp at hy
theorem b0m(ss:List (List UInt8)):(WR ss).Pairwise (· <= ·):=by
 have:=List.pairwise_mergeSort (le:=fun x y:List UInt8=>decide (x<=y)) (fun a b c h1 h2=>by
  simp only[decide_eq_true_eq]at *;exact List.le_trans h1 h2) (fun a b=>by
  simp only[Bool.or_eq_true,decide_eq_true_eq];exact List.le_total a b) ss
 exact this.imp fun h=>by simpa using h
theorem b0u(ss:List (List UInt8)):(Lib.compact (WR ss)).Pairwise (· < ·):=by
 unfold Lib.compact
 refine a2d ?_ (by simp)
 intro i j hij hj
 have hj:j<(WR ss).length:=by simpa using hj
 have:=List.pairwise_iff_getElem.1 (b0m ss) i j (by omega) hj hij
 simpa [getElem!_pos,hj,show i<(WR ss).length by omega]using this
theorem Pj(p:List Mono)(x:Str):x∈YK p ↔ x∈X4 p:=by
 unfold YK
 rw[List.mem_map]
 constructor
 ·rintro⟨s,hs,rfl⟩
  have:=(List.mergeSort_perm _ _).mem_iff.1 (FV.1 hs)
  obtain⟨y,hy,e⟩:=List.mem_map.1 this
  cases y;cases e;exact hy
 ·intro h
  exact⟨x.s,FV.2 ((List.mergeSort_perm _ _).mem_iff.2 (List.mem_map.2 ⟨x,h,rfl⟩)),rfl⟩
theorem a7o(p:List Mono):(YK p).Pairwise fun x y:Str=>x.s<y.s:=by
 unfold YK XA
 rw[List.pairwise_map]
 exact b0u _
theorem Aq{s x:Str}: ∀ {l:List Str},x∈Vt l s ↔ x=s∨x∈l
 | []=>by simp[Vt]
 | t::r=>by
  rw[Vt]
  split
  ·rw[List.mem_cons,Aq,List.mem_cons]
   constructor
   ·rintro(h|h|h) <;> simp[h]
   ·rintro(h|h|h) <;> simp[h]
  ·split
   ·rename_i h;subst h
    simp
   ·simp
theorem Fa{s:Str}: ∀ {l:List Str},(l.Pairwise fun x y:Str=>x.s<y.s)->(Vt l s).Pairwise fun x y:Str=>x.s<y.s
 | [],_=>by simp[Vt]
 | t::r,h=>by
  have ht:=List.pairwise_cons.1 h
  rw[Vt]
  split
  ·rename_i h1
   refine List.pairwise_cons.2 ⟨fun y hy=> ?_,Fa ht.2⟩
   rcases Aq.1 hy with rfl|hy
   ·exact h1
   ·exact ht.1 y hy
  ·split
   ·exact h
   ·rename_i h1 h2
    have h3:s.s<t.s:=by
     rcases List.le_iff_lt_or_eq.1 (List.not_lt.1 h1)with h|h
     ·exact h
     ·exact absurd (by cases s;cases t;simpa using h.symm) h2
    refine List.pairwise_cons.2 ⟨fun y hy=> ?_,h⟩
    rcases List.mem_cons.1 hy with rfl|hy
    ·exact h3
    ·exact List.lt_trans h3 (ht.1 y hy)
theorem ME: ∀ (l o:List Str),(o.Pairwise fun x y:Str=>x.s<y.s)->((l.foldl Vt o).Pairwise fun x y:Str=>x.s<y.s)∧ ∀ x,x∈l.foldl Vt o ↔ x∈l∨x∈o
 | [],o,h=>⟨h,by simp⟩
 | s::l,o,h=>by
  obtain⟨h1,h2⟩:=ME l (Vt o s) (Fa h)
  refine⟨h1,fun x=> ?_⟩
  show x∈l.foldl Vt (Vt o s) ↔ _
  rw[h2,Aq,List.mem_cons]
  constructor
  ·rintro(h|h|h) <;> simp[h]
  ·rintro((h|h)|h) <;> simp[h]
theorem a3m: ∀ {a b:List Str},(a.Pairwise fun x y:Str=>x.s<y.s)->(b.Pairwise fun x y:Str=>x.s<y.s)->(∀ x,x∈a ↔ x∈b)->a=b
 | [],[],_,_,_=>rfl
 | [],y::b,_,_,h=>absurd ((h y).2 (by simp)) (by simp)
 | x::a,[],_,_,h=>absurd ((h x).1 (by simp)) (by simp)
 | x::a,y::b,ha,hb,h=>by
  have ha':=List.pairwise_cons.1 ha
  have hb':=List.pairwise_cons.1 hb
  have e:x=y:=by
   rcases List.mem_cons.1 ((h x).1 (by simp))with e|h1
   ·exact e
   ·rcases List.mem_cons.1 ((h y).2 (by simp))with e|h2
    ·exact e.symm
    ·exact absurd (List.lt_trans (hb'.1 x h1) (ha'.1 y h2)) (List.lt_irrefl _)
  subst e
  rw[a3m ha'.2 hb'.2 fun z=> ?_]
  constructor
  ·intro hz
   rcases List.mem_cons.1 ((h z).1 (by simp[hz]))with e|h1
   ·subst e;exact absurd (ha'.1 z hz) (List.lt_irrefl _)
   ·exact h1
  ·intro hz
   rcases List.mem_cons.1 ((h z).2 (by simp[hz]))with e|h1
   ·subst e;exact absurd (hb'.1 z hz) (List.lt_irrefl _)
   ·exact h1
theorem Rw(p:List Mono):YK p=(X4 p).foldl Vt []:=by
 obtain⟨h1,h2⟩:=ME (X4 p) [] .nil
 exact a3m (a7o p) h1 fun x=>by rw[Pj,h2];simp
theorem a7z{p:List Mono}(h:(X4 p).isEmpty=true):YK p=[]:=by
 rw[Rw,List.isEmpty_iff.1 h];rfl
theorem b9j{p:List Mono}(h:(X4 p).isEmpty=false):(YK p).isEmpty=false:=by
 rw[List.isEmpty_eq_false_iff]at h ⊢
 intro e
 obtain⟨x,hx⟩:=List.exists_mem_of_ne_nil _ h
 have:=(Pj p x).2 hx
 rw[e]at this;cases this
theorem a5g(p:List Mono):(YK p).length<=(X4 p).length:=by
 unfold YK
 rw[List.length_map]
 refine Nat.le_trans (Gq _) ?_
 unfold XA WR
 rw[(List.mergeSort_perm _ _).length_eq,List.length_map];exact Nat.le_refl _
end Go.Pl
namespace Go.Pl
open Go.RowKit
open Enc (enc dec is)
open EncL (encL decL isL)
theorem c0g(n:Int):Int.fdiv n (2 ^ min (Int.toNat 31) (IntKind.bits .i64))=WS n:=by
 show Int.fdiv n 2147483648=n / 2147483648
 exact Int.fdiv_eq_ediv_of_nonneg n (by decide)
theorem a3l(n:Int):IntKind.i64.wrap ((BitVec.toNat (BitVec.ofInt (IntKind.bits .i64) n &&& BitVec.ofInt (IntKind.bits .i64) 2147483647):Nat):Int)=Ws n:=by
 have e:BitVec.toNat (BitVec.ofInt (IntKind.bits .i64) n &&& BitVec.ofInt (IntKind.bits .i64) 2147483647)=(n % 2147483648).toNat:=by
  rw[BitVec.toNat_and]
  have e2:(BitVec.ofInt (IntKind.bits .i64) 2147483647).toNat=2 ^ 31 - 1:=rfl
  rw[e2,Nat.and_two_pow_sub_one_eq_mod,BitVec.toNat_ofInt]
  show(n % 18446744073709551616).toNat % 2147483648=_
  omega
 rw[e,UI (by omega) (by omega)]
 unfold Ws
 omega
theorem c1q: ∀ args os,UN args os=true->Ze P6 os.length (Zt os.length CU fun r=>r=Qu args os) Bp [] (YV c0e args os):=by
 intro args os h
 unfold UN at h
 split at h
 ·rename_i n
  apply c9v (G:=fun r=>r=Qu _ _) n
  rw[c0g,a3l]
  rfl
 ·rename_i n q q' r r' ty xs ty' ys
  simp only[Bool.and_eq_true,beq_iff_eq,decide_eq_true_eq]at h
  obtain⟨⟨⟨⟨⟨⟨⟨h1,h2⟩,h3⟩,h4⟩,h5⟩,h6⟩,h7⟩,h8⟩:=h
  subst h1 h2 h3 h4 h5
  apply c7l (G:=fun r=>r=Qu _ _) n r' xs ys
  rw[c0g,a3l,h6,h7]
  have hd:((r'==r')&&(r'==r')&&decide ((r'+1)*8<=1099511627776)&&decide (r'+1<=1099511627776))=true:=by
   rw[decide_eq_true (by omega),decide_eq_true (by omega)];simp
  exact⟨hd,hd,rfl⟩
 ·cases h
def hN(p:List Mono):ZC:=[.obj (.box [.pv (enc p)]),.obj (.box [.pv (.int .i64 0)]),.obj (.box [.pv (.int .i64 0)]),.obj (.box [.pv (.sl 0 true [])]),.obj (.box [.pv (.sl 0 true [])]),.obj (.box [.fn 124 [] [.ptr 3 0,.ptr 4 0]])]
def hR(p:List Mono)(n:Nat)(xs ys:List Int):ZC:=[.obj (.box [.pv (enc p)]),.obj (.box [.pv (.int .i64 0)]),.obj (.box [.pv (.int .i64 0)]),.obj (.box [.row 6 n 0 n]),.obj (.box [.row 7 n 0 n]),.obj (.box [.fn 124 [] [.ptr 3 0,.ptr 4 0]]),.obj (.row false 3 1 (xs.map enc)),.obj (.row false 3 1 (ys.map enc))]
def hNX(p:List Mono):ZC:=[.obj (.box [.pv (enc p)]),.obj (.box [.pv (.int .i64 0)]),.obj (.box [.pv (.int .i64 2)]),.obj (.box [.pv (.sl 0 true [])]),.obj (.box [.pv (.sl 0 true [])]),.obj (.box [.fn 124 [] [.ptr 3 0,.ptr 4 0]]),.fresh,.fresh]
def hRX(p:List Mono)(n:Nat)(xs ys:List Int):ZC:=[.obj (.box [.pv (enc p)]),.obj (.box [.pv (.int .i64 0)]),.obj (.box [.pv (.int .i64 2)]),.obj (.box [.row 6 n 0 n]),.obj (.box [.row 7 n 0 n]),.obj (.box [.fn 124 [] [.ptr 3 0,.ptr 4 0]]),.obj (.row false 3 1 (xs.map enc)),.obj (.row false 3 1 (ys.map enc)),.fresh,.fresh]
def gsI(b:BoxT)(fs:List Fact)(p:List Mono)(k:Nat)(σ:ZC):Prop:=
 ∃ l,UB p b.v ((ZY b fs).take k)=some l∧((k=0∧σ=hN p)∨(0<k∧k<=(ZY b fs).length∧σ=hR p k (l.map WS) (l.map Ws)))
def gsX(b:BoxT)(fs:List Fact)(p:List Mono)(σ:ZC):Prop:=UB p b.v (ZY b fs)=none∧(σ=hNX p ∨ ∃ n xs ys,σ=hRX p n xs ys)
theorem N7{b:BoxT}{fs:List Fact}(hv:Y4 b=true):(ZY b fs).length<=20000:=by
 unfold ZY
 refine Nat.le_trans (List.length_filter_le _ _) ?_
 rw[Um hv,GG]
 exact Bi hv
theorem Gt{b:BoxT}{fs:List Fact}{p:List Mono}{k:Nat}{q:List Int}(hq:(ZY b fs)[k]? = some q)(h:(Xa p (Zq b.v q)).2≠0):UB p b.v (ZY b fs)=none:=by
 have hk:=(List.getElem?_eq_some_iff.1 hq).1
 have hkp:=(List.getElem?_eq_some_iff.1 hq).2
 have e:ZY b fs=(ZY b fs).take k++q::(ZY b fs).drop (k+1):=by
  rw[<- hkp,<- List.drop_eq_getElem_cons hk,List.take_append_drop]
 rw[e]
 exact Td h _
def VB:YL:=fun n st q=>n=0∧DL Y2 0 (.t 32) 177 [33,34] [(13,34)] VH KJ Qw Cw st q
theorem a9z(b:BoxT)(fs:List Fact)(p:List Mono)(hp:Yo p=true)(hv:Y4 b=true)(hb:b.v.length<=1000)(k:Nat)(q:List Int)(σ:ZC)(hq:(ZY b fs)[k]? = some q)(h:gsI b fs p k σ):
  ZM Y2 (fun n S' _=>n=99∧gsI b fs p (k+1) S'.heap) σ.length (fun st=>gsX b fs p st.heap) (.inl VH) [.seq (.ext 99 [])]
   ⟨Z4 77 0 [(5,.ptr 0 0),(6,.ptr 1 0),(7,.ptr 2 0),(9,.ptr 3 0),(10,.ptr 4 0),(11,.ptr 5 0),(13,.pv (enc (Zq b.v q))),(33,.pv (enc q)),(34,.pv (enc (Zq b.v q)))],σ⟩:=by
 have hk:=(List.getElem?_eq_some_iff.1 hq).1
 have hkp:=(List.getElem?_eq_some_iff.1 hq).2
 have h20:=N7 (fs:=fs) hv
 have ht:(ZY b fs).take (k+1)=(ZY b fs).take k++[q]:=by rw[List.take_succ_eq_append_getElem hk,hkp]
 have hvl:(Zq b.v q).length<=9223372036854775807:=by unfold Zq;rw[List.length_zipWith];omega
 have hpre:preT (fun x:List Mono×List Coef×Unit=>Yo x.1&&Zr x.2.1) (encL (p,Zq b.v q,()))=true:=Zl (p,Zq b.v q,()) rfl (by rw[hp,ZF.2 hvl];rfl)
 obtain⟨l,hl,hσ⟩:=h
 have hlen:=Q0 hl
 rw[List.length_take]at hlen
 rcases hσ with ⟨rfl,rfl⟩|⟨h0,h1,rfl⟩
 ·apply b7z (G:=gsX b fs p) (fun n S' _=>n=99∧gsI b fs p (0+1) S'.heap) p q (Zq b.v q)
  refine⟨hpre,Zk (p,Zq b.v q,()) rfl ?_⟩
  refine XT (fun he=> ?_) fun he=> ?_
  ·have he:(Xa p (Zq b.v q)).2≠0:=by simpa using he
   exact⟨Gt hq he,.inl rfl⟩
  ·have he:(Xa p (Zq b.v q)).2=0:=by simpa using he
   have hs:=U1 he hl
   rw[<- ht]at hs
   have hnil:l=[]:=List.length_eq_zero_iff.1 (by omega)
   subst hnil
   exact⟨rfl,_,hs,.inr ⟨by omega,by omega,rfl⟩⟩
 ·have hlk:l.length=k:=by omega
  apply b8r (G:=gsX b fs p) (fun n S' _=>n=99∧gsI b fs p (k+1) S'.heap) p q (Zq b.v q) k (l.map WS) (l.map Ws)
  refine⟨hpre,Zk (p,Zq b.v q,()) rfl ?_⟩
  refine XT (fun he=> ?_) fun he=> ?_
  ·have he:(Xa p (Zq b.v q)).2≠0:=by simpa using he
   exact⟨Gt hq he,.inr ⟨k,_,_,rfl⟩⟩
  ·have he:(Xa p (Zq b.v q)).2=0:=by simpa using he
   have hs:=U1 he hl
   rw[<- ht]at hs
   refine⟨?_,rfl,_,hs,.inr ⟨by omega,by omega,?_⟩⟩
   ·show(k==k&&k==k&&k==k&&3==3&&3==3&&((l.map WS).map (enc:Int->PV)).length==k&&((l.map Ws).map (enc:Int->PV)).length==k&&decide (k<=1000000))=true
    rw[List.length_map,List.length_map,List.length_map,List.length_map,hlk,decide_eq_true (by omega)];simp
   ·unfold hR
    rw[List.map_append,List.map_append,List.map_append,List.map_append]
    rfl
theorem b9i(b:BoxT)(fs:List Fact)(p:List Mono)(l:List Int)(hl:l.length<=20000)(hr : ∀ x∈l,Qr x=true)(R:Int×Int)(hR:R=Ub l): ∀ (d i:Nat),d+i=l.length ->
  AtM Y2 VB 0 (Zb Xl (Zi R)) Y5 0 77 [(6,.ptr 0 0),(7,.ptr 1 0),(9,.ptr 2 0),(10,.ptr 3 0),(16,.pv (.int .i64 ((l.map WS).take i).sum)),(17,.pv (.int .i64 ((l.map Ws).take i).sum)),(47,.pv (.int .i64 l.length)),(48,.pv (.int .i64 i))]
   [.obj (.box [.pv (.int .i64 0)]),.obj (.box [.pv (.int .i64 0)]),.obj (.box [.row 4 l.length 0 l.length]),.obj (.box [.row 5 l.length 0 l.length]),.obj (.row false 3 1 ((l.map WS).map enc)),.obj (.row false 3 1 ((l.map Ws).map enc))]:=by
 have hb1 : ∀ i,((l.map WS).take i).length*(-2147483648:Int)<=((l.map WS).take i).sum∧((l.map WS).take i).sum<=((l.map WS).take i).length*(2147483648:Int):=fun i=>Gb (by
  intro x hx
  obtain⟨n,hn,rfl⟩:=List.mem_map.1 (List.mem_of_mem_take hx)
  exact b0a (hr n hn))
 have hb2 : ∀ i,((l.map Ws).take i).length*(0:Int)<=((l.map Ws).take i).sum∧((l.map Ws).take i).sum<=((l.map Ws).take i).length*(2147483647:Int):=fun i=>Gb (by
  intro x hx
  obtain⟨n,hn,rfl⟩:=List.mem_map.1 (List.mem_of_mem_take hx)
  exact b4w n)
 have hc1 : ∀ i,((l.map WS).take i).length<=20000:=fun i=>by rw[List.length_take,List.length_map];omega
 have hc2 : ∀ i,((l.map Ws).take i).length<=20000:=fun i=>by rw[List.length_take,List.length_map];omega
 intro d
 induction d with
 | zero=>
  intro i hi
  apply RY (G:=Zi R) VB b fs p
  refine ZR (Yd (by omega)) ?_
  have e1:(l.map WS).take i=l.map WS:=List.take_of_length_le (by rw[List.length_map];omega)
  have e2:(l.map Ws).take i=l.map Ws:=List.take_of_length_le (by rw[List.length_map];omega)
  have a1:=hb1 i
  have a2:=hb2 i
  have a3:=hc1 i
  have a4:=hc2 i
  rw[e1]at a1 a3
  rw[e2]at a2 a4
  rw[e1,e2,c0g,a3l]
  have hh:WS (l.map Ws).sum=(l.map Ws).sum / 2147483648:=rfl
  have hw:IntKind.i64.wrap ((l.map WS).sum+WS (l.map Ws).sum)=(l.map WS).sum+WS (l.map Ws).sum:=UI (by rw[hh];omega) (by rw[hh];omega)
  rw[hw]
  refine Zk ([(l.map WS).sum+WS (l.map Ws).sum,Ws (l.map Ws).sum],[2147483648,1],()) rfl ?_
  rw[hR,<- Sn hl hr (H:=(l.map WS).sum+WS (l.map Ws).sum) (L:=Ws (l.map Ws).sum) rfl rfl]
  exact Z0 rfl
 | succ d ih=>
  intro i hi
  have hlt:i<l.length:=by omega
  have hl1:i<(l.map WS).length:=by rw[List.length_map];omega
  have hl2:i<(l.map Ws).length:=by rw[List.length_map];omega
  apply RY (G:=Zi R) VB b fs p
  apply ZN (Z8 hlt)
  rw[Q5 hl1,Q5 hl2]
  refine⟨by simp;omega,by simp;omega,rfl,by simp;omega,by simp;omega,rfl,?_⟩
  rw[next (by omega)]
  show AtM Y2 _ _ _ _ _ _ [_,_,_,_,(16,.pv (.int .i64 (IntKind.i64.wrap (((l.map WS).take i).sum+(l.map WS)[i])))),(17,.pv (.int .i64 (IntKind.i64.wrap (((l.map Ws).take i).sum+(l.map Ws)[i])))),_,_] _
  have s1:((l.map WS).take i).sum+(l.map WS)[i]=((l.map WS).take (i+1)).sum:=by rw[List.take_succ_eq_append_getElem hl1,List.sum_append];simp
  have s2:((l.map Ws).take i).sum+(l.map Ws)[i]=((l.map Ws).take (i+1)).sum:=by rw[List.take_succ_eq_append_getElem hl2,List.sum_append];simp
  have a1:=hb1 (i+1)
  have a2:=hb2 (i+1)
  have a3:=hc1 (i+1)
  have a4:=hc2 (i+1)
  rw[s1,s2,UI (by omega) (by omega),UI (by omega) (by omega)]
  exact ih (i+1) (by omega)
theorem a7v: ∀ x:BoxT×List Fact×List Mono×Unit,(J5 x.1 x.2.1 x.2.2.1&&(!ZJ x.2.2.1||(X4 x.2.2.1).isEmpty))=true->KL Y2 VB 0 (Zb Xl (Zi (WV x.1 x.2.1 x.2.2.1))) Y5 [] (Yk b4z (encL x)):=by
 rintro⟨b,fs,p,⟨⟩⟩ hp
 simp only[J5,Bool.and_eq_true,decide_eq_true_eq]at hp
 obtain⟨⟨⟨⟨⟨h1,h2⟩,h3⟩,h4⟩,h5⟩,h6⟩:=hp
 have key:Zv b fs (ZJ p) (YK p)=0->VB 0 ⟨Z4 77 0 [(5,.ptr 0 0),(6,.ptr 1 0),(7,.ptr 2 0),(9,.ptr 3 0),(10,.ptr 4 0),(11,.ptr 5 0),(13,.undef),(14,.undef),(15,.undef),(32,(.fn 177 [] [(.ptr 6 0),(.ptr 7 0)])),(34,.undef),(35,.undef),(36,.undef),(37,.undef),(38,.undef),(39,.undef),(40,.undef),(41,.undef),(42,.undef),(43,.undef),(44,.undef)],
   hN p++[(.obj (.box [(.pv (.sl 1 false (List.map enc b.v))),(.pv (.int .i64 b.m))])),(.obj (.box [(.pv (.sl 3 false (List.map enc fs)))]))]⟩ (fun x S'=>JP Y2 VB 0 (Zb Xl (Zi (WV b fs p))) Y5 0 x S'):=by
  intro h0
  obtain⟨hv,_⟩:=Uy _ _ _ _ h0
  have h20:=N7 (fs:=fs) hv
  refine⟨rfl,[6,7],[[enc b.v,.int .i64 b.m],[enc fs]],[5,6,7,9,10,11],[],⟨Z4 77 0 [(5,.ptr 0 0),(6,.ptr 1 0),(7,.ptr 2 0),(9,.ptr 3 0),(10,.ptr 4 0),(11,.ptr 5 0)],hN p⟩,gsI b fs p,gsX b fs p,rfl,by simp,rfl,?_,by kernel_rfl,Af hv h2 h4,⟨[],rfl,.inl ⟨rfl,rfl⟩⟩,?_,?_,?_⟩
  ·intro j l' ps hl hps
   match j with
   | 0=>cases hl;cases hps;rfl
   | 1=>cases hl;cases hps;rfl
   | j+2=>simp at hl
  ·intro k x σ hx hI
   rw[Tw,List.getElem?_map]at hx
   obtain⟨q,hq,rfl⟩:=Option.map_eq_some_iff.1 hx
   have e:TC [(13,34)] (CQ [33,34] ((KJ (q,Zq b.v q)).map .pv) (Z4 77 0 [(5,.ptr 0 0),(6,.ptr 1 0),(7,.ptr 2 0),(9,.ptr 3 0),(10,.ptr 4 0),(11,.ptr 5 0)]))=Z4 77 0 [(5,.ptr 0 0),(6,.ptr 1 0),(7,.ptr 2 0),(9,.ptr 3 0),(10,.ptr 4 0),(11,.ptr 5 0),(13,.pv (enc (Zq b.v q))),(33,.pv (enc q)),(34,.pv (enc (Zq b.v q)))]:=by kernel_rfl
   have:=a9z b fs p h5 hv h4 k q σ hq hI
   rw[<- e]at this
   exact this
  ·intro σ hI
   rw[Tw,List.length_map]at hI
   obtain⟨l,hl,hσ⟩:=hI
   rw[List.take_length]at hl
   have hT:WV b fs p=Ub l:=by unfold WV;rw[if_pos h0,hl]
   have hlen:=Q0 hl
   rcases hσ with ⟨e0,rfl⟩|⟨_,_,rfl⟩
   ·refine a8c (G:=Zi (WV b fs p)) VB b fs p ?_
    refine a6m (G:=Zi (WV b fs p)) VB b fs p (Zk ([0,0],[2147483648,1],()) rfl ?_)
    have:l=[]:=List.length_eq_zero_iff.1 (by omega)
    rw[hT,this]
    exact Z0 (x:=((0:Int),(0:Int))) rfl
   ·refine a9f (G:=Zi (WV b fs p)) VB b fs p _ _ _ ?_
    have:=b9i b fs p l (by omega) (Az hl) (WV b fs p) hT l.length 0 (by omega)
    rw[hlen]at this
    exact this
  ·intro σ hX
   obtain⟨hn,hσ⟩:=hX
   have hT:WV b fs p=(0,2):=by unfold WV;rw[if_pos h0,hn]
   rcases hσ with rfl|⟨n,xs,ys,rfl⟩
   ·exact a1b (G:=Zi (WV b fs p)) VB b fs p (by rw[hT];exact Z0 (x:=((0:Int),(2:Int))) rfl)
   ·exact Eo (G:=Zi (WV b fs p)) VB b fs p n xs ys (by rw[hT];exact Z0 (x:=((0:Int),(2:Int))) rfl)
 have hbad:Zv b fs (ZJ p) (YK p)≠0->Zi (WV b fs p) (.tup [.int .i64 0,.int .i64 (Zv b fs (ZJ p) (YK p))]):=by
  intro h0
  unfold WV
  rw[if_neg h0]
  exact Z0 (x:=((0:Int),Zv b fs (ZJ p) (YK p))) rfl
 have hn:Zv b fs (ZJ p) (YK p)=Zv b fs (ZJ p) []:=by
  cases hv:ZJ p
  ·unfold Zv;simp
  ·rw[hv]at h6
   rw[a7z (by simpa using h6)]
 rw[hn]at key hbad
 refine c0q VB b fs p ⟨Zl (p,()) rfl h5,Zk (p,()) rfl ⟨?_,Zl (b,fs,ZJ p,⟨⟩,()) rfl (by simp[h1,h2,h3]),Zk (b,fs,ZJ p,⟨⟩,()) rfl ?_⟩⟩
 ·show(VV (List Mono) (enc p)&&Yo (dec (enc p:PV))&&(!ZJ (dec (enc p:PV))||(X4 (dec (enc p:PV))).isEmpty))=true
  rw[Yb,Enc.dec_enc,h5,h6];rfl
 ·show if (Zv b fs (ZJ p) [] != 0)=true then _ else _
  by_cases h0:Zv b fs (ZJ p) []=0
  ·rw[if_neg (by simp[h0])]
   refine⟨?_,key h0⟩
   show(VV (List Str) (enc b.v)&&VV (List Fact) (enc fs))=true
   rw[Yb,Yb];rfl
  ·rw[if_pos (by simpa using h0)]
   exact hbad h0
def VJ:YL:=fun n st q=>n=0∧DL YZ 0 (.t 32) 177 [33,34] [(13,34)] Uz KJ Qw Cw st q
theorem a4y(b:BoxT)(fs:List Fact)(p:List Mono)(hp:Yo p=true)(hv:Y4 b=true)(hb:b.v.length<=1000)(k:Nat)(q:List Int)(σ:ZC)(hq:(ZY b fs)[k]? = some q)(h:gsI b fs p k σ):
  ZM YZ (fun n S' _=>n=99∧gsI b fs p (k+1) S'.heap) σ.length (fun st=>gsX b fs p st.heap) (.inl Uz) [.seq (.ext 99 [])]
   ⟨Z4 77 0 [(5,.ptr 0 0),(6,.ptr 1 0),(7,.ptr 2 0),(9,.ptr 3 0),(10,.ptr 4 0),(11,.ptr 5 0),(13,.pv (enc (Zq b.v q))),(33,.pv (enc q)),(34,.pv (enc (Zq b.v q)))],σ⟩:=by
 have hk:=(List.getElem?_eq_some_iff.1 hq).1
 have hkp:=(List.getElem?_eq_some_iff.1 hq).2
 have h20:=N7 (fs:=fs) hv
 have ht:(ZY b fs).take (k+1)=(ZY b fs).take k++[q]:=by rw[List.take_succ_eq_append_getElem hk,hkp]
 have hvl:(Zq b.v q).length<=9223372036854775807:=by unfold Zq;rw[List.length_zipWith];omega
 have hpre:preT (fun x:List Mono×List Coef×Unit=>Yo x.1&&Zr x.2.1) (encL (p,Zq b.v q,()))=true:=Zl (p,Zq b.v q,()) rfl (by rw[hp,ZF.2 hvl];rfl)
 obtain⟨l,hl,hσ⟩:=h
 have hlen:=Q0 hl
 rw[List.length_take]at hlen
 rcases hσ with ⟨rfl,rfl⟩|⟨h0,h1,rfl⟩
 ·apply b8s (G:=gsX b fs p) (fun n S' _=>n=99∧gsI b fs p (0+1) S'.heap) p q (Zq b.v q)
  refine⟨hpre,Zk (p,Zq b.v q,()) rfl ?_⟩
  refine XT (fun he=> ?_) fun he=> ?_
  ·have he:(Xa p (Zq b.v q)).2≠0:=by simpa using he
   exact⟨Gt hq he,.inl rfl⟩
  ·have he:(Xa p (Zq b.v q)).2=0:=by simpa using he
   have hs:=U1 he hl
   rw[<- ht]at hs
   have hnil:l=[]:=List.length_eq_zero_iff.1 (by omega)
   subst hnil
   exact⟨rfl,_,hs,.inr ⟨by omega,by omega,rfl⟩⟩
 ·have hlk:l.length=k:=by omega
  apply b4f (G:=gsX b fs p) (fun n S' _=>n=99∧gsI b fs p (k+1) S'.heap) p q (Zq b.v q) k (l.map WS) (l.map Ws)
  refine⟨hpre,Zk (p,Zq b.v q,()) rfl ?_⟩
  refine XT (fun he=> ?_) fun he=> ?_
  ·have he:(Xa p (Zq b.v q)).2≠0:=by simpa using he
   exact⟨Gt hq he,.inr ⟨k,_,_,rfl⟩⟩
  ·have he:(Xa p (Zq b.v q)).2=0:=by simpa using he
   have hs:=U1 he hl
   rw[<- ht]at hs
   refine⟨?_,rfl,_,hs,.inr ⟨by omega,by omega,?_⟩⟩
   ·show(k==k&&k==k&&k==k&&3==3&&3==3&&((l.map WS).map (enc:Int->PV)).length==k&&((l.map Ws).map (enc:Int->PV)).length==k&&decide (k<=1000000))=true
    rw[List.length_map,List.length_map,List.length_map,List.length_map,hlk,decide_eq_true (by omega)];simp
   ·unfold hR
    rw[List.map_append,List.map_append,List.map_append,List.map_append]
    rfl
theorem b5k(b:BoxT)(fs:List Fact)(p:List Mono)(l:List Int)(hl:l.length<=20000)(hr : ∀ x∈l,Qr x=true)(R:Int×Int)(hR:R=Ub l): ∀ (d i:Nat),d+i=l.length ->
  AtM YZ VJ 0 (Zb Xg (Zi R)) Xj 0 77 [(6,.ptr 0 0),(7,.ptr 1 0),(9,.ptr 2 0),(10,.ptr 3 0),(16,.pv (.int .i64 ((l.map WS).take i).sum)),(17,.pv (.int .i64 ((l.map Ws).take i).sum)),(47,.pv (.int .i64 l.length)),(48,.pv (.int .i64 i))]
   [.obj (.box [.pv (.int .i64 0)]),.obj (.box [.pv (.int .i64 0)]),.obj (.box [.row 4 l.length 0 l.length]),.obj (.box [.row 5 l.length 0 l.length]),.obj (.row false 3 1 ((l.map WS).map enc)),.obj (.row false 3 1 ((l.map Ws).map enc))]:=by
 have hb1 : ∀ i,((l.map WS).take i).length*(-2147483648:Int)<=((l.map WS).take i).sum∧((l.map WS).take i).sum<=((l.map WS).take i).length*(2147483648:Int):=fun i=>Gb (by
  intro x hx
  obtain⟨n,hn,rfl⟩:=List.mem_map.1 (List.mem_of_mem_take hx)
  exact b0a (hr n hn))
 have hb2 : ∀ i,((l.map Ws).take i).length*(0:Int)<=((l.map Ws).take i).sum∧((l.map Ws).take i).sum<=((l.map Ws).take i).length*(2147483647:Int):=fun i=>Gb (by
  intro x hx
  obtain⟨n,hn,rfl⟩:=List.mem_map.1 (List.mem_of_mem_take hx)
  exact b4w n)
 have hc1 : ∀ i,((l.map WS).take i).length<=20000:=fun i=>by rw[List.length_take,List.length_map];omega
 have hc2 : ∀ i,((l.map Ws).take i).length<=20000:=fun i=>by rw[List.length_take,List.length_map];omega
 intro d
 induction d with
 | zero=>
  intro i hi
  apply R9 (G:=Zi R) VJ b fs p
  refine ZR (Yd (by omega)) ?_
  have e1:(l.map WS).take i=l.map WS:=List.take_of_length_le (by rw[List.length_map];omega)
  have e2:(l.map Ws).take i=l.map Ws:=List.take_of_length_le (by rw[List.length_map];omega)
  have a1:=hb1 i
  have a2:=hb2 i
  have a3:=hc1 i
  have a4:=hc2 i
  rw[e1]at a1 a3
  rw[e2]at a2 a4
  rw[e1,e2,c0g,a3l]
  have hh:WS (l.map Ws).sum=(l.map Ws).sum / 2147483648:=rfl
  have hw:IntKind.i64.wrap ((l.map WS).sum+WS (l.map Ws).sum)=(l.map WS).sum+WS (l.map Ws).sum:=UI (by rw[hh];omega) (by rw[hh];omega)
  rw[hw]
  refine Zk ([(l.map WS).sum+WS (l.map Ws).sum,Ws (l.map Ws).sum],[2147483648,1],()) rfl ?_
  rw[hR,<- Sn hl hr (H:=(l.map WS).sum+WS (l.map Ws).sum) (L:=Ws (l.map Ws).sum) rfl rfl]
  exact Z0 rfl
 | succ d ih=>
  intro i hi
  have hlt:i<l.length:=by omega
  have hl1:i<(l.map WS).length:=by rw[List.length_map];omega
  have hl2:i<(l.map Ws).length:=by rw[List.length_map];omega
  apply R9 (G:=Zi R) VJ b fs p
  apply ZN (Z8 hlt)
  rw[Q5 hl1,Q5 hl2]
  refine⟨by simp;omega,by simp;omega,rfl,by simp;omega,by simp;omega,rfl,?_⟩
  rw[next (by omega)]
  show AtM YZ _ _ _ _ _ _ [_,_,_,_,(16,.pv (.int .i64 (IntKind.i64.wrap (((l.map WS).take i).sum+(l.map WS)[i])))),(17,.pv (.int .i64 (IntKind.i64.wrap (((l.map Ws).take i).sum+(l.map Ws)[i])))),_,_] _
  have s1:((l.map WS).take i).sum+(l.map WS)[i]=((l.map WS).take (i+1)).sum:=by rw[List.take_succ_eq_append_getElem hl1,List.sum_append];simp
  have s2:((l.map Ws).take i).sum+(l.map Ws)[i]=((l.map Ws).take (i+1)).sum:=by rw[List.take_succ_eq_append_getElem hl2,List.sum_append];simp
  have a1:=hb1 (i+1)
  have a2:=hb2 (i+1)
  have a3:=hc1 (i+1)
  have a4:=hc2 (i+1)
  rw[s1,s2,UI (by omega) (by omega),UI (by omega) (by omega)]
  exact ih (i+1) (by omega)
theorem a9i: ∀ x:BoxT×List Fact×List Mono×Unit,(J5 x.1 x.2.1 x.2.2.1&&(ZJ x.2.2.1&& !(X4 x.2.2.1).isEmpty))=true->KL YZ VJ 0 (Zb Xg (Zi (WV x.1 x.2.1 x.2.2.1))) Xj [] (Yk b1a (encL x)):=by
 rintro⟨b,fs,p,⟨⟩⟩ hp
 simp only[J5,Bool.and_eq_true,decide_eq_true_eq]at hp
 obtain⟨⟨⟨⟨⟨h1,h2⟩,h3⟩,h4⟩,h5⟩,h6⟩:=hp
 have key:Zv b fs (ZJ p) (YK p)=0->VJ 0 ⟨Z4 77 0 [(5,.ptr 0 0),(6,.ptr 1 0),(7,.ptr 2 0),(9,.ptr 3 0),(10,.ptr 4 0),(11,.ptr 5 0),(13,.undef),(14,.undef),(15,.undef),(32,(.fn 177 [] [(.ptr 6 0),(.ptr 7 0)])),(34,.undef),(35,.undef),(36,.undef),(37,.undef),(38,.undef),(39,.undef),(40,.undef),(41,.undef),(42,.undef),(43,.undef),(44,.undef)],
   hN p++[(.obj (.box [(.pv (.sl 1 false (List.map enc b.v))),(.pv (.int .i64 b.m))])),(.obj (.box [(.pv (.sl 3 false (List.map enc fs)))]))]⟩ (fun x S'=>JP YZ VJ 0 (Zb Xg (Zi (WV b fs p))) Xj 0 x S'):=by
  intro h0
  obtain⟨hv,_⟩:=Uy _ _ _ _ h0
  have h20:=N7 (fs:=fs) hv
  refine⟨rfl,[6,7],[[enc b.v,.int .i64 b.m],[enc fs]],[5,6,7,9,10,11],[],⟨Z4 77 0 [(5,.ptr 0 0),(6,.ptr 1 0),(7,.ptr 2 0),(9,.ptr 3 0),(10,.ptr 4 0),(11,.ptr 5 0)],hN p⟩,gsI b fs p,gsX b fs p,rfl,by simp,rfl,?_,by kernel_rfl,Af hv h2 h4,⟨[],rfl,.inl ⟨rfl,rfl⟩⟩,?_,?_,?_⟩
  ·intro j l' ps hl hps
   match j with
   | 0=>cases hl;cases hps;rfl
   | 1=>cases hl;cases hps;rfl
   | j+2=>simp at hl
  ·intro k x σ hx hI
   rw[Tw,List.getElem?_map]at hx
   obtain⟨q,hq,rfl⟩:=Option.map_eq_some_iff.1 hx
   have e:TC [(13,34)] (CQ [33,34] ((KJ (q,Zq b.v q)).map .pv) (Z4 77 0 [(5,.ptr 0 0),(6,.ptr 1 0),(7,.ptr 2 0),(9,.ptr 3 0),(10,.ptr 4 0),(11,.ptr 5 0)]))=Z4 77 0 [(5,.ptr 0 0),(6,.ptr 1 0),(7,.ptr 2 0),(9,.ptr 3 0),(10,.ptr 4 0),(11,.ptr 5 0),(13,.pv (enc (Zq b.v q))),(33,.pv (enc q)),(34,.pv (enc (Zq b.v q)))]:=by kernel_rfl
   have:=a4y b fs p h5 hv h4 k q σ hq hI
   rw[<- e]at this
   exact this
  ·intro σ hI
   rw[Tw,List.length_map]at hI
   obtain⟨l,hl,hσ⟩:=hI
   rw[List.take_length]at hl
   have hT:WV b fs p=Ub l:=by unfold WV;rw[if_pos h0,hl]
   have hlen:=Q0 hl
   rcases hσ with ⟨e0,rfl⟩|⟨_,_,rfl⟩
   ·refine a7d (G:=Zi (WV b fs p)) VJ b fs p ?_
    refine a9h (G:=Zi (WV b fs p)) VJ b fs p (Zk ([0,0],[2147483648,1],()) rfl ?_)
    have:l=[]:=List.length_eq_zero_iff.1 (by omega)
    rw[hT,this]
    exact Z0 (x:=((0:Int),(0:Int))) rfl
   ·refine a5s (G:=Zi (WV b fs p)) VJ b fs p _ _ _ ?_
    have:=b5k b fs p l (by omega) (Az hl) (WV b fs p) hT l.length 0 (by omega)
    rw[hlen]at this
    exact this
  ·intro σ hX
   obtain⟨hn,hσ⟩:=hX
   have hT:WV b fs p=(0,2):=by unfold WV;rw[if_pos h0,hn]
   rcases hσ with rfl|⟨n,xs,ys,rfl⟩
   ·exact EI (G:=Zi (WV b fs p)) VJ b fs p (by rw[hT];exact Z0 (x:=((0:Int),(2:Int))) rfl)
   ·exact a1y (G:=Zi (WV b fs p)) VJ b fs p n xs ys (by rw[hT];exact Z0 (x:=((0:Int),(2:Int))) rfl)
 have hbad:Zv b fs (ZJ p) (YK p)≠0->Zi (WV b fs p) (.tup [.int .i64 0,.int .i64 (Zv b fs (ZJ p) (YK p))]):=by
  intro h0
  unfold WV
  rw[if_neg h0]
  exact Z0 (x:=((0:Int),Zv b fs (ZJ p) (YK p))) rfl
 have hpv:ZJ p=true:=by simp at h6;exact h6.1
 have hne:(X4 p).isEmpty=false:=by simp only[Bool.and_eq_true,Bool.not_eq_true']at h6;exact h6.2
 refine c4f VJ b fs p ⟨Zl (p,()) rfl h5,Zk (p,()) rfl ⟨?_,?_⟩⟩
 ·show(VV (List Mono) (enc p)&&Yo (dec (enc p:PV))&&ZJ (dec (enc p:PV))&& !(X4 (dec (enc p:PV))).isEmpty)=true
  rw[Yb,Enc.dec_enc,h5,hpv,hne];rfl
 ·have hmd:Uw (enc p)=p:=Enc.dec_enc p
  rw[hmd,a4s,OA,Qc]
  have hnl:(YK p).length<=480:=by
   have a:=a5g p
   have c:=NV p (GD hpv).2 p.length (Nat.le_refl _)
   unfold U5 at c
   rw[List.take_length]at c
   have:=(GD hpv).1
   unfold X4 at a
   omega
  refine⟨?_,?_⟩
  ·show(VV BoxT (enc b)&&VV (List Fact) (enc fs)&&9==9&&TF (YK p).length (YK p).length ((YK p).map enc)&&decide ((YK p).length<=1000)&& !((YK p).map (enc:Str->PV)).isEmpty&&ZH (dec (enc b:PV))&&Zf (dec (enc fs:PV))&&decide ((dec (enc fs:PV):List Fact).length<=100)&&decide (((YK p).map (enc:Str->PV)).length<=1000))=true
   rw[List.length_map,Yb,Yb,Enc.dec_enc,Enc.dec_enc,Br rfl (by omega),h1,h2,decide_eq_true h3,decide_eq_true (show(YK p).length<=1000 by omega)]
   have:((YK p).map (enc:Str->PV)).isEmpty=false:=by
    have:=b9j hne
    rw[List.isEmpty_eq_false_iff]at this ⊢
    intro h
    exact this (List.map_eq_nil_iff.1 h)
   rw[this];simp
  ·show if (Zv b fs (ZJ p) (YK p) != 0)=true then _ else _
   by_cases h0:Zv b fs (ZJ p) (YK p)=0
   ·rw[if_neg (by simp[h0])]
    refine⟨?_,key h0⟩
    show(VV (List Str) (enc b.v)&&VV (List Fact) (enc fs))=true
    rw[Yb,Yb];rfl
   ·rw[if_pos (by simpa using h0)]
    exact hbad h0
def xN:Str:=⟨[110]⟩
def xM:Str:=⟨[109]⟩
def Jg(a b c:Int):Fact:=⟨false,VD (VD ⟨c,[]⟩ xN a) xM b⟩
end Go.Pl
namespace Go.Pl
open Go.RowKit
open Enc (enc dec is)
open EncL (encL decL isL)
set_option maxRecDepth 100000
def Hr:IC:=(Zh [Za 6 (.alloc (.agg [(.bool false),(.int .i64 0),(.sl 0 true [])])) 0] (Zh [Za 7 (Zc 2) 0,Za 8 (YT 91 [(.t 7)]) 0,Za 9 (Zc 0) 2,Za 10 (YT 89 [(.t 8),(.c (.str [110])),(.t 9)]) 2,Za 11 (Zc 1) 4,Za 12 (YT 89 [(.t 10),(.c (.str [109])),(.t 11)]) 4,Za 13 (.build [(.bool false),(.int .i64 0),(.sl 0 true [])] [(1,(2,(.t 12)))]) 6,Ui (.store 3 (.t 6) (.t 13)) 6] .ret))
def Gj:List IRes:=[(.cell true 3 6)]
abbrev EQ:Nat:=14
def DD:ZO:=Xc [(91,.pure (preT (fun _:Int×Unit=>true)) (Zj (fun x:Int×Unit=>(⟨x.1,[]⟩:Lin)))),(89,.pure (preT (fun x:Lin×Str×Int×Unit=>decide (x.1.t.length<=1000000))) (Zj (fun x:Lin×Str×Int×Unit=>VD x.1 x.2.1 x.2.2.1)))]
theorem a6y{G:PV->Prop}(a b c:Int)(h : ∃ y0:Lin,AV.pv (Zj (fun(x:Int×Unit)=>Lin.mk x.1 []) [(.int .i64 c)])=AV.pv (enc y0)∧((Go.Pl.preT (fun(x:Lin×Str×Int×Unit)=>decide (List.length x.1.t<=1000000)) [(.agg [(.int .i64 y0.k),(.sl 2 false (List.map enc y0.t))]),(.str [(110:UInt8)]),(.int .i64 a)])=true∧(∃ y1:Lin,AV.pv (Zj (fun(x:Lin×Str×Int×Unit)=>VD x.1 x.2.1 x.2.2.1) [(.agg [(.int .i64 y0.k),(.sl 2 false (List.map enc y0.t))]),(.str [(110:UInt8)]),(.int .i64 a)])=AV.pv (enc y1)∧((Go.Pl.preT (fun(x:Lin×Str×Int×Unit)=>decide (List.length x.1.t<=1000000)) [(.agg [(.int .i64 y1.k),(.sl 2 false (List.map enc y1.t))]),(.str [(109:UInt8)]),(.int .i64 b)])=true∧(∃ y2:Lin,AV.pv (Zj (fun(x:Lin×Str×Int×Unit)=>VD x.1 x.2.1 x.2.2.1) [(.agg [(.int .i64 y1.k),(.sl 2 false (List.map enc y1.t))]),(.str [(109:UInt8)]),(.int .i64 b)])=AV.pv (enc y2)∧(G ((.agg [(.bool false),(.int .i64 y2.k),(.sl 2 false (List.map enc y2.t))])))))))):Ze DD 0 (Zb Gj G) Hr [] (Yk 14 [enc a,enc b,enc c]):=Ze.tp (.lit (.abs (Lin) (fun YY=>AV.pv (enc YY)) (.req (.abs (Lin) (fun YY=>AV.pv (enc YY)) (.req (.abs (Lin) (fun YY=>AV.pv (enc YY)) (.nil))))))) h (by kernel_rfl)
def Hu:IC:=(Zh [Za 0 (Xo false) 0] (Zh [Za 9 (.bslice 9 1 2 (.str []) [(0,(.c (.str [110]))),(1,(.c (.str [109])))]) 0,Za 10 (.build [(.sl 0 true []),(.int .i64 0)] [(0,(1,(.t 9))),(1,(1,(Zy 3)))]) 1,Za 1 (.alloc (.agg [(.sl 0 true []),(.int .i64 0)])) 1,Ui (.store 2 (.t 1) (.t 10)) 2] (Zh [Za 11 (YT 115 [(Zy 1),(.c (.int .i64 (-1))),(.c (.int .i64 (-1)))]) 0,Za 12 (.bslice 100 3 1 (.agg [(.bool false),(.int .i64 0),(.sl 0 true [])]) [(0,(.t 11))]) 2,Za 2 (Zc 12) 3] (Zh [Za 14 (.load true [(.sl 1),(.int .i64)] (.t 1)) 0,Za 15 (Zc 2) 0,Za 16 (YT 47 [(.t 14),(.t 15)]) 0,Za 13 (Zc 16) 2,Za 17 (.extract (.t 13) 0) 2,Za 18 (.extract (.t 13) 1) 2,Za 3 (Zc 17) 2,Za 4 (Zc 18) 2] (.seq (.reg [Za 20 (.load true [(.sl 1),(.int .i64)] (.t 1)) 0,Za 21 (Zc 2) 0,Za 22 (YT 115 [(Zy 2),(Zy 1),(Zy 0)]) 0,Za 23 (.field true 1 2 (.t 22)) 2,Za 24 (YT 58 [(.t 20),(.t 21),(.t 23)]) 2,Za 19 (Zc 24) 4,Za 25 (.extract (.t 19) 0) 4,Za 26 (.extract (.t 19) 1) 4,Za 5 (Zc 25) 4,Za 6 (Zc 26) 4] (some [[],[],[],[2],[0,1,3,2],[4,0,1,3,2],[5,4,0,1,3,2],[5,4,0,1,3,2],[6,4,0,1,2,3,5],[7,8,0,1,2,3,4,5,6]])) (Zh [Za 28 (.load true [(.sl 1),(.int .i64)] (.t 1)) 0,Za 29 (Zc 2) 0,Za 30 (.bslice 9 1 2 (.str []) [(0,(.c (.str [109]))),(1,(.c (.str [110])))]) 0,Za 31 (.build [(.int .i64 0),(.sl 0 true [])] [(0,(1,(Zy 1))),(1,(1,(.t 30)))]) 1,Za 32 (.bslice 104 2 1 (.agg [(.int .i64 0),(.sl 0 true [])]) [(0,(.t 31))]) 1,Za 33 (YT 57 [(.t 28),(.t 29),(.t 32)]) 2,Za 27 (Zc 33) 4,Za 34 (.extract (.t 27) 0) 4,Za 35 (.extract (.t 27) 1) 4,Za 7 (Zc 34) 4,Za 8 (Zc 35) 4] (Zh [Za 36 (Zc 3) 0,Za 37 (ZA .eql (.t 36) (Zy 6)) 0,Za 38 (Zc 37) 0,Z6 39 (Zc 5) 0 38,Z6 40 (ZA .eql (.t 39) (Zy 2)) 0 38,Za 41 (.pick (.t 38) (.t 40) (.c (.bool false))) 0,Za 42 (Zc 41) 0,Z6 43 (Zc 7) 0 42,Z6 44 (ZA .eql (.t 43) (Zy 11)) 0 42,Za 45 (.pick (.t 42) (.t 44) (.c (.bool false))) 0,Za 46 (Zc 45) 0,Z6 47 (Zc 4) 0 46,Z6 48 (ZA .eql (.t 47) (Zy 0)) 0 46,Za 49 (.pick (.t 46) (.t 48) (.c (.bool false))) 0,Za 50 (Zc 49) 0,Z6 51 (Zc 6) 0 50,Z6 52 (ZA .eql (.t 51) (Zy 0)) 0 50,Za 53 (.pick (.t 50) (.t 52) (.c (.bool false))) 0,Za 54 (Zc 53) 0,Z6 55 (Zc 8) 0 54,Z6 56 (ZA .eql (.t 55) (Zy 0)) 0 54,Za 57 (.pick (.t 54) (.t 56) (.c (.bool false))) 0,Za 58 (Zc 57) 0,Z6 59 (.load true [(.sl 1),(.int .i64)] (.t 1)) 0 58,Z6 60 (YT 50 [(.t 59)]) 0 58,Za 61 (.pick (.t 58) (.t 60) (.c (.bool false))) 2,Za 0 (Zc 61) 2] .ret)))))))
def He:List IRes:=[(.tmp 0)]
abbrev Ex:Nat:=62
def Ca:ZO:=Xc [(115,.pure (preT (fun _:Int×Int×Int×Unit=>true)) (Zj (fun x:Int×Int×Int×Unit=>Jg x.1 x.2.1 x.2.2.1))),(47,.pure (preT (fun x:BoxT×List Fact×Unit=>ZH x.1&&Zf x.2.1&&decide (x.2.1.length<=100)&&decide (x.1.v.length<=1000))) (Zj (fun x:BoxT×List Fact×Unit=>D8 x.1 x.2.1))),(58,.pure (preT (fun x:BoxT×List Fact×Lin×Unit=>Qd x.1 x.2.1 x.2.2.1)) (Zj (fun x:BoxT×List Fact×Lin×Unit=>Qs lessB x.1 x.2.1 x.2.2.1))),(57,.pure (preT (fun x:BoxT×List Fact×List Mono×Unit=>J5 x.1 x.2.1 x.2.2.1)) (Zj (fun x:BoxT×List Fact×List Mono×Unit=>WV x.1 x.2.1 x.2.2.1))),(50,.pure (preT (fun x:BoxT×Unit=>ZH x.1)) (Zj (fun x:BoxT×Unit=>Y4 x.1)))]
theorem a7u{G:PV->Prop}(h : ∃ y0:Fact,AV.pv (Zj (fun(x:Int×Int×Int×Unit)=>Jg x.1 x.2.1 x.2.2.1) [(.int .i64 1),(.int .i64 (-1)),(.int .i64 (-1))])=AV.pv (enc y0)∧((Go.Pl.preT (fun(x:BoxT×List Fact×Unit)=>ZH x.1&&Zf x.2.1&&decide (List.length x.2.1<=100)&&decide (List.length x.1.v<=1000)) [(.agg [(.sl 1 false [(.str [(110:UInt8)]),(.str [(109:UInt8)])]),(.int .i64 3)]),(.sl 3 false [(.agg [(.bool y0.eq),(.int .i64 (Lin.k y0.l)),(.sl 2 false (List.map enc (Lin.t y0.l)))])])])=true∧(∃ y1:Int×Int,AV.pv (Zj (fun(x:BoxT×List Fact×Unit)=>D8 x.1 x.2.1) [(.agg [(.sl 1 false [(.str [(110:UInt8)]),(.str [(109:UInt8)])]),(.int .i64 3)]),(.sl 3 false [(.agg [(.bool y0.eq),(.int .i64 (Lin.k y0.l)),(.sl 2 false (List.map enc (Lin.t y0.l)))])])])=AV.pv (enc y1)∧(∃ y2:Fact,AV.pv (Zj (fun(x:Int×Int×Int×Unit)=>Jg x.1 x.2.1 x.2.2.1) [(.int .i64 2),(.int .i64 1),(.int .i64 0)])=AV.pv (enc y2)∧((Go.Pl.preT (fun(x:BoxT×List Fact×Lin×Unit)=>Qd x.1 x.2.1 x.2.2.1) [(.agg [(.sl 1 false [(.str [(110:UInt8)]),(.str [(109:UInt8)])]),(.int .i64 3)]),(.sl 3 false [(.agg [(.bool y0.eq),(.int .i64 (Lin.k y0.l)),(.sl 2 false (List.map enc (Lin.t y0.l)))])]),(.agg [(.int .i64 (Lin.k y2.l)),(.sl 2 false (List.map enc (Lin.t y2.l)))])])=true∧(∃ y3:Int×Int,AV.pv (Zj (fun(x:BoxT×List Fact×Lin×Unit)=>Qs lessB x.1 x.2.1 x.2.2.1) [(.agg [(.sl 1 false [(.str [(110:UInt8)]),(.str [(109:UInt8)])]),(.int .i64 3)]),(.sl 3 false [(.agg [(.bool y0.eq),(.int .i64 (Lin.k y0.l)),(.sl 2 false (List.map enc (Lin.t y0.l)))])]),(.agg [(.int .i64 (Lin.k y2.l)),(.sl 2 false (List.map enc (Lin.t y2.l)))])])=AV.pv (enc y3)∧((Go.Pl.preT (fun(x:BoxT×List Fact×List Mono×Unit)=>J5 x.1 x.2.1 x.2.2.1) [(.agg [(.sl 1 false [(.str [(110:UInt8)]),(.str [(109:UInt8)])]),(.int .i64 3)]),(.sl 3 false [(.agg [(.bool y0.eq),(.int .i64 (Lin.k y0.l)),(.sl 2 false (List.map enc (Lin.t y0.l)))])]),(.sl 2 false [(.agg [(.int .i64 1),(.sl 1 false [(.str [(109:UInt8)]),(.str [(110:UInt8)])])])])])=true∧(∃ y4:Int×Int,AV.pv (Zj (fun(x:BoxT×List Fact×List Mono×Unit)=>WV x.1 x.2.1 x.2.2.1) [(.agg [(.sl 1 false [(.str [(110:UInt8)]),(.str [(109:UInt8)])]),(.int .i64 3)]),(.sl 3 false [(.agg [(.bool y0.eq),(.int .i64 (Lin.k y0.l)),(.sl 2 false (List.map enc (Lin.t y0.l)))])]),(.sl 2 false [(.agg [(.int .i64 1),(.sl 1 false [(.str [(109:UInt8)]),(.str [(110:UInt8)])])])])])=AV.pv (enc y4)∧(if (y1.1==6)=true then if (y3.1==2)=true then if (y4.1==11)=true then if (y1.2==0)=true then if (y3.2==0)=true then if (y4.2==0)=true then ∃ y5:Bool,AV.pv (Zj (fun(x:BoxT×Unit)=>Y4 x.1) [(.agg [(.sl 1 false [(.str [(110:UInt8)]),(.str [(109:UInt8)])]),(.int .i64 3)])])=AV.pv (enc y5)∧(G ((.bool y5)))else(G ((.bool false)))else(G ((.bool false)))else(G ((.bool false)))else(G ((.bool false)))else(G ((.bool false)))else(G ((.bool false)))))))))))):Ze Ca 0 (Zb He G) Hu [] (Yk 62 []):=Ze.tp (.lit (.lit (.abs (Fact) (fun YY=>AV.pv (enc YY)) (.lit (.lit (.lit (.req (.abs (Int×Int) (fun YY=>AV.pv (enc YY)) (.lit (.abs (Fact) (fun YY=>AV.pv (enc YY)) (.lit (.lit (.req (.abs (Int×Int) (fun YY=>AV.pv (enc YY)) (.lit (.lit (.lit (.lit (.lit (.lit (.req (.abs (Int×Int) (fun YY=>AV.pv (enc YY)) (.lit (.ask (.lit (.lit (.lit (.ask (.lit (.lit (.lit (.ask (.lit (.lit (.lit (.ask (.lit (.lit (.lit (.ask (.lit (.lit (.lit (.ask (.lit (.lit (.lit (.abs (Bool) (fun YY=>AV.pv (enc YY)) (.lit (.nil)))))) (.lit (.lit (.nil))))))) (.lit (.lit (.lit (.lit (.lit (.nil)))))))))) (.lit (.lit (.lit (.lit (.lit (.lit (.lit (.lit (.nil))))))))))))) (.lit (.lit (.lit (.lit (.lit (.lit (.lit (.lit (.lit (.lit (.lit (.nil)))))))))))))))) (.lit (.lit (.lit (.lit (.lit (.lit (.lit (.lit (.lit (.lit (.lit (.lit (.lit (.lit (.nil))))))))))))))))))) (.lit (.lit (.lit (.lit (.lit (.lit (.lit (.lit (.lit (.lit (.lit (.lit (.lit (.lit (.lit (.lit (.lit (.nil)))))))))))))))))))))))))))))))))))))))))) h (by kernel_rfl)
end Go.Pl
namespace Go.Pl
open Go.RowKit
open Enc (enc dec is)
open EncL (encL decL isL)
theorem F8: ∀ x:Int×Int×Int×Unit,(fun _:Int×Int×Int×Unit=>true) x=true->Ze DD 0 (Zb Gj (Zi (Jg x.1 x.2.1 x.2.2.1))) Hr [] (Yk EQ (encL x)):=by
 rintro⟨a,b,c,⟨⟩⟩ -
 have h1:=AL ⟨c,[]⟩ xN a
 refine a6y a b c (Zk (c,()) rfl ⟨Zl ((⟨c,[]⟩:Lin),xN,a,()) rfl rfl,Zk ((⟨c,[]⟩:Lin),xN,a,()) rfl ⟨Zl (VD ⟨c,[]⟩ xN a,xM,b,()) rfl ?_,Zk (VD ⟨c,[]⟩ xN a,xM,b,()) rfl ?_⟩⟩)
 ·exact decide_eq_true (Nat.le_trans h1 (show 0+1<=1000000 by decide))
 ·exact Z0 (x:=Jg a b c) rfl
def Cb:BoxT:=⟨[xN,xM],3⟩
def DR:Fact:=⟨false,⟨-1,[⟨xM,-1⟩,⟨xN,1⟩]⟩⟩
def a5n:Lin:=⟨0,[⟨xM,1⟩,⟨xN,2⟩]⟩
def b7b:List Mono:=[⟨1,[xM,xN]⟩]
theorem c1d:Jg 1 (-1) (-1)=DR:=by decide
theorem c8w:(Jg 2 1 0).l=a5n:=by decide
theorem OW:ZY Cb [DR]=[[1,0],[2,0],[2,1],[3,0],[3,1],[3,2]]:=by kernel_rfl
theorem b7g:Zv Cb [DR] true [xM,xN]=0:=by kernel_rfl
theorem c2k:Zv Cb [DR] true []=0:=by kernel_rfl
theorem b3y:D8 Cb [DR]=(6,0):=by
 unfold D8 Zo
 rw[if_pos c2k,OW];rfl
theorem b1e:Qs lessB Cb [DR] a5n=(2,0):=by
 have h1:Zw a5n=true:=by kernel_rfl
 have h2:Zg a5n=[xM,xN]:=rfl
 unfold Qs YR
 rw[h1,h2,if_pos b7g,OW]
 decide +kernel
theorem c6u:WV Cb [DR] b7b=(11,0):=by
 have h1:ZJ b7b=true:=by kernel_rfl
 have h2:YK b7b=[xM,xN]:=by rw[Rw];kernel_rfl
 unfold WV
 rw[h1,h2,if_pos b7g,OW]
 decide +kernel
theorem LD: ∀ a:Unit,(fun _:Unit=>true) a=true->Ze Ca 0 (Zb He (Zi true)) Hu [] (Yk Ex (encL a)):=by
 rintro⟨⟩ -
 refine a7u (Zk ((1:Int),(-1:Int),(-1:Int),()) rfl ?_)
 simp only[c1d]
 refine⟨Zl (Cb,[DR],()) rfl (by decide),Zk (Cb,[DR],()) rfl (Zk ((2:Int),(1:Int),(0:Int),()) rfl ?_)⟩
 simp only[b3y,c8w]
 refine⟨Zl (Cb,[DR],a5n,()) rfl (by decide),Zk (Cb,[DR],a5n,()) rfl ?_⟩
 simp only[b1e]
 refine⟨Zl (Cb,[DR],b7b,()) rfl (by decide),Zk (Cb,[DR],b7b,()) rfl ?_⟩
 simp only[c6u]
 refine ZN rfl (ZN rfl (ZN rfl (ZN rfl (ZN rfl (ZN rfl (Zk (Cb,()) rfl (ZL ?_)))))))
 kernel_rfl
end Go.Pl
namespace Go.Pl
open Go.RowKit
open Enc (enc dec is)
open EncL (encL decL isL)
set_option maxRecDepth 100000
def Vh:IC:=(Zh [Za 3 (.box 2 (.t 0)) 0,Za 6 (Xo false) 1] (Zh [Za 13 (.load true [(.sl 1),(.int .i64)] (.t 3)) 0,Za 14 (Zc 1) 0,Za 15 (YT 46 [(.t 13),(.t 14)]) 0,Za 12 (Zc 15) 2,Za 16 (.extract (.t 12) 0) 2,Za 17 (.extract (.t 12) 1) 2,Za 7 (Zc 16) 2,Za 8 (Zc 17) 2] (Zh [Za 19 (.load true [(.sl 1),(.int .i64)] (.t 3)) 0,Za 20 (Zc 2) 0,Za 21 (YT 46 [(.t 19),(.t 20)]) 0,Za 18 (Zc 21) 2,Za 22 (.extract (.t 18) 0) 2,Za 23 (.extract (.t 18) 1) 2,Za 9 (Zc 22) 2,Za 10 (Zc 23) 2] (.seq (Zh [Za 24 (Zc 8) 0,Za 25 (ZA .neq (.t 24) (Zy 0)) 0,Za 26 (Zc 25) 0,ZX 27 (Zc 10) 0 26,ZX 28 (ZA .neq (.t 27) (Zy 0)) 0 26,Za 29 (.pick (.t 26) (.c (.bool true)) (.t 28)) 0,Za 30 (Zc 29) 0,ZX 31 (Zc 7) 0 30,ZX 32 (.len 1 (.t 31)) 0 30,ZX 33 (Zc 9) 0 30,ZX 34 (.len 1 (.t 33)) 0 30,ZX 35 (ZA .neq (.t 32) (.t 34)) 0 30,Za 36 (.pick (.t 30) (.c (.bool true)) (.t 35)) 0] (.cond (.t 36) (Zh [Za 6 (Xo false) 0] .ret) .skip)) (.seq (Zh [Za 11 (.mv (Zy 0)) 0] (.block 0 (.loop [11,7,9] (.seq (Zh [Za 37 (Zc 11) 0,Za 38 (Zc 7) 0,Za 39 (.len 1 (.t 38)) 0,Za 40 (ZA .lss (.t 37) (.t 39)) 0] (.cond (.t 40) .skip (.exit 0))) (.seq (.block 1 (.seq (.reg [Za 43 (Zc 7) 0,Za 44 (Zc 11) 0,Za 45 (.iaddr 1 (.t 43) (.t 44)) 0,Za 46 (Yl [(.sl 1)] (.t 45)) 0,Za 47 (Zc 9) 0,Za 48 (Zc 11) 0,Za 49 (.iaddr 1 (.t 47) (.t 48)) 0,Za 50 (Yl [(.sl 1)] (.t 49)) 0,Za 51 (YT 54 [(.t 46),(.t 50)]) 0,Za 52 (.un .not (.t 51)) 2] (some [[],[],[0,1],[2,0,1],[],[],[4,5],[6,4,5],[3,7,2,0,1,6,4,5],[8,3,7,2,0,1,6,4,5]])) (.cond (.t 52) (Zh [Za 6 (Xo false) 0] .ret) .skip))) (.reg [Za 41 (Zc 11) 0,Za 42 (ZA .add (.t 41) (Zy 1)) 0,Za 11 (Zc 42) 0] none)))))) (Zh [Za 6 (Xo true) 0] .ret))))))
def Ww:List IRes:=[(.tmp 6)]
abbrev a1k:Nat:=53
def Vo:ZO:=Xc [(46,.pure (preT (fun x:BoxT×List Fact×Unit=>ZH x.1&&Zf x.2.1&&decide (x.2.1.length<=100)&&decide (x.1.v.length<=1000))) (Zj (fun x:BoxT×List Fact×Unit=>Zo x.1 x.2.1))),(54,.pure (preT (fun x:List Int×List Int×Unit=>Zr x.1)) (Zj (fun x:List Int×List Int×Unit=>decide (x.1=x.2.1))))]
theorem a9b{G:PV->Prop}(b:BoxT)(fs gs:List Fact)(h:(Go.Pl.preT (fun(x:BoxT×List Fact×Unit)=>ZH x.1&&Zf x.2.1&&decide (List.length x.2.1<=100)&&decide (List.length x.1.v<=1000)) [(.agg [(.sl 1 false (List.map enc b.v)),(.int .i64 b.m)]),(.sl 3 false (List.map enc fs))])=true∧(∃ y0:List (List Int)×Int,AV.pv (Zj (fun(x:BoxT×List Fact×Unit)=>Zo x.1 x.2.1) [(.agg [(.sl 1 false (List.map enc b.v)),(.int .i64 b.m)]),(.sl 3 false (List.map enc fs))])=AV.pv (enc y0)∧((Go.Pl.preT (fun(x:BoxT×List Fact×Unit)=>ZH x.1&&Zf x.2.1&&decide (List.length x.2.1<=100)&&decide (List.length x.1.v<=1000)) [(.agg [(.sl 1 false (List.map enc b.v)),(.int .i64 b.m)]),(.sl 3 false (List.map enc gs))])=true∧(∃ y1:List (List Int)×Int,AV.pv (Zj (fun(x:BoxT×List Fact×Unit)=>Zo x.1 x.2.1) [(.agg [(.sl 1 false (List.map enc b.v)),(.int .i64 b.m)]),(.sl 3 false (List.map enc gs))])=AV.pv (enc y1)∧(if (y0.2 != 0)=true then G ((.bool false))else(if (y1.2 != 0)=true then G ((.bool false))else(if ((↑(List.length (List.map enc y0.1)):Int) != (↑(List.length (List.map enc y1.1)):Int))=true then G ((.bool false))else(At Vo 0 (Zb Ww G) Vh 0 53 [(7,(.pv (.sl 1 false (List.map enc y0.1)))),(9,(.pv (.sl 1 false (List.map enc y1.1)))),(11,(.pv (.int .i64 0)))] [])))))))):Ze Vo 0 (Zb Ww G) Vh [] (Yk 53 [enc b,enc fs,enc gs]):=Ze.tp (.req (.abs (List (List Int)×Int) (fun YY=>AV.pv (enc YY)) (.req (.abs (List (List Int)×Int) (fun YY=>AV.pv (enc YY)) (.lit (.ask (.lit (.lit (.lit (.lit (.lit (.lit (.lit (.lit (.lit (.nil)))))))))) (.lit (.lit (.lit (.ask (.lit (.lit (.lit (.lit (.lit (.lit (.nil))))))) (.lit (.lit (.lit (.lit (.lit (.lit (.ask (.nil) (.nil)))))))))))))))))) h (by kernel_rfl)
theorem SF{G:PV->Prop}(b:BoxT)(fs gs:List Fact)(x y:List (List Int))(i:Int)(h:if (decide (i<(↑(List.length (List.map enc x)):Int)))=true then(decide (0<=i)&&decide (Int.toNat i<List.length (List.map enc x))&&Enc.sz (List Int)==1)=true∧(∃ y0:List Int,AV.pv (PV.rptr (PV.cells (List.getD (List.map enc x) (Int.toNat i) default)))=AV.pv (PV.rptr (PV.cells ((enc) y0)))∧((decide (0<=i)&&decide (Int.toNat i<List.length (List.map enc y))&&Enc.sz (List Int)==1)=true∧(∃ y1:List Int,AV.pv (PV.rptr (PV.cells (List.getD (List.map enc y) (Int.toNat i) default)))=AV.pv (PV.rptr (PV.cells ((enc) y1)))∧((Go.Pl.preT (fun(x:List Int×List Int×Unit)=>Zr x.1) [(.sl 1 false (PV.asXs (List.getD (PV.cells (enc y0)) 0 default))),(.sl 1 false (PV.asXs (List.getD (PV.cells (enc y1)) 0 default)))])=true∧(∃ y2:Bool,AV.pv (Zj (fun(x:List Int×List Int×Unit)=>decide (x.1=x.2.1)) [(.sl 1 false (PV.asXs (List.getD (PV.cells (enc y0)) 0 default))),(.sl 1 false (PV.asXs (List.getD (PV.cells (enc y1)) 0 default)))])=AV.pv (enc y2)∧(if (!y2)=true then G ((.bool false))else(At Vo 0 (Zb Ww G) Vh 0 53 [(7,(.pv (.sl 1 false (List.map enc x)))),(9,(.pv (.sl 1 false (List.map enc y)))),(11,(.pv (.int .i64 (IntKind.wrap IntKind.i64 (i+1)))))] [])))))))else(G ((.bool true)))):At Vo 0 (Zb Ww G) Vh 0 53 [(7,.pv (enc x)),(9,.pv (enc y)),(11,.pv (.int .i64 i))] []:=At.tp (.lit (.ask (.req (.abs (List Int) (fun YY=>AV.pv (PV.rptr (PV.cells ((enc) YY)))) (.lit (.req (.abs (List Int) (fun YY=>AV.pv (PV.rptr (PV.cells ((enc) YY)))) (.lit (.req (.abs (Bool) (fun YY=>AV.pv (enc YY)) (.ask (.nil) (.lit (.nil))))))))))) (.nil))) h (by kernel_rfl)
def Hq:IC:=(Zh [Za 3 (.box 2 (.t 0)) 0,Za 6 (Xo false) 1] (Zh [Za 12 (.load true [(.sl 1),(.int .i64)] (.t 3)) 0,Za 13 (Zc 1) 0,Za 14 (YT 45 [(.t 12),(.t 13)]) 0,Za 11 (Zc 14) 2,Za 15 (.extract (.t 11) 0) 2,Za 16 (.extract (.t 11) 1) 2,Za 7 (Zc 15) 2,Za 8 (Zc 16) 2] (Zh [Za 18 (.load true [(.sl 1),(.int .i64)] (.t 3)) 0,Za 19 (Zc 2) 0,Za 20 (YT 45 [(.t 18),(.t 19)]) 0,Za 17 (Zc 20) 2,Za 21 (.extract (.t 17) 0) 2,Za 22 (.extract (.t 17) 1) 2,Za 9 (Zc 21) 2,Za 10 (Zc 22) 2] (Zh [Za 23 (Zc 8) 0,Za 24 (ZA .eql (.t 23) (Zy 0)) 0,Za 25 (Zc 24) 0,Z6 26 (Zc 10) 0 25,Z6 27 (ZA .eql (.t 26) (Zy 0)) 0 25,Za 28 (.pick (.t 25) (.t 27) (.c (.bool false))) 0,Za 29 (Zc 28) 0,Z6 30 (Zc 7) 0 29,Z6 31 (Zc 9) 0 29,Z6 32 (YT 136 [(.t 30),(.t 31),(.c (.fn 106))]) 0 29,Za 33 (.pick (.t 29) (.t 32) (.c (.bool false))) 2,Za 6 (Zc 33) 2] .ret))))
def Ho:List IRes:=[(.tmp 6)]
abbrev a0v:Nat:=34
def Dw:ZO:=Xc [(45,.pure (preT (fun x:BoxT×List Fact×Unit=>ZH x.1&&Zf x.2.1&&decide (x.2.1.length<=100)&&decide (x.1.v.length<=1000))) (Zj (fun x:BoxT×List Fact×Unit=>Zo x.1 x.2.1))),(136,.pure (preT (fun x:List (List Int)×List (List Int)×FnV 106×Unit=>Zr x.1&&x.1.all Zr)) (Zj (fun x:List (List Int)×List (List Int)×FnV 106×Unit=>decide (x.1=x.2.1))))]
theorem a5z{G:PV->Prop}(b:BoxT)(fs gs:List Fact)(h:(Go.Pl.preT (fun(x:BoxT×List Fact×Unit)=>ZH x.1&&Zf x.2.1&&decide (List.length x.2.1<=100)&&decide (List.length x.1.v<=1000)) [(.agg [(.sl 1 false (List.map enc b.v)),(.int .i64 b.m)]),(.sl 3 false (List.map enc fs))])=true∧(∃ y0:List (List Int)×Int,AV.pv (Zj (fun(x:BoxT×List Fact×Unit)=>Zo x.1 x.2.1) [(.agg [(.sl 1 false (List.map enc b.v)),(.int .i64 b.m)]),(.sl 3 false (List.map enc fs))])=AV.pv (enc y0)∧((Go.Pl.preT (fun(x:BoxT×List Fact×Unit)=>ZH x.1&&Zf x.2.1&&decide (List.length x.2.1<=100)&&decide (List.length x.1.v<=1000)) [(.agg [(.sl 1 false (List.map enc b.v)),(.int .i64 b.m)]),(.sl 3 false (List.map enc gs))])=true∧(∃ y1:List (List Int)×Int,AV.pv (Zj (fun(x:BoxT×List Fact×Unit)=>Zo x.1 x.2.1) [(.agg [(.sl 1 false (List.map enc b.v)),(.int .i64 b.m)]),(.sl 3 false (List.map enc gs))])=AV.pv (enc y1)∧(if (y0.2==0)=true then if (y1.2==0)=true then(Go.Pl.preT (fun(x:List (List Int)×List (List Int)×FnV 106×Unit)=>Zr x.1&&List.all x.1 Zr) [(.sl 1 false (List.map enc y0.1)),(.sl 1 false (List.map enc y1.1)),(.fn 106)])=true∧(∃ y2:Bool,AV.pv (Zj (fun(x:List (List Int)×List (List Int)×FnV 106×Unit)=>decide (x.1=x.2.1)) [(.sl 1 false (List.map enc y0.1)),(.sl 1 false (List.map enc y1.1)),(.fn 106)])=AV.pv (enc y2)∧(G ((.bool y2))))else(G ((.bool false)))else(G ((.bool false)))))))):Ze Dw 0 (Zb Ho G) Hq [] (Yk 34 [enc b,enc fs,enc gs]):=Ze.tp (.req (.abs (List (List Int)×Int) (fun YY=>AV.pv (enc YY)) (.req (.abs (List (List Int)×Int) (fun YY=>AV.pv (enc YY)) (.lit (.ask (.lit (.lit (.lit (.ask (.lit (.lit (.req (.abs (Bool) (fun YY=>AV.pv (enc YY)) (.lit (.nil)))))) (.lit (.lit (.lit (.nil)))))))) (.lit (.lit (.lit (.lit (.lit (.lit (.nil))))))))))))) h (by kernel_rfl)
def DI:IC:=(Zh [Za 3 (.box 2 (.t 0)) 0,Za 6 (Xo false) 1] (.seq (Zh [Za 7 (YT 43 []) 0,Za 8 (.un .not (.t 7)) 2] (.cond (.t 8) (Zh [Za 6 (Xo false) 0] .ret) .skip)) (.seq (.reg [Za 9 (.load true [(.sl 1),(.int .i64)] (.t 3)) 0,Za 10 (Zc 1) 0,Za 11 (YT 44 [(.t 9),(.t 10)]) 0,Za 12 (.un .not (.t 11)) 2,Za 13 (Zc 12) 2,ZX 14 (.load true [(.sl 1),(.int .i64)] (.t 3)) 2 13,ZX 15 (Zc 2) 2 13,ZX 16 (YT 44 [(.t 14),(.t 15)]) 2 13,ZX 17 (.un .not (.t 16)) 4 13,Za 18 (.pick (.t 13) (.c (.bool true)) (.t 17)) 4,Za 19 (Zc 18) 4,ZX 20 (.load true [(.sl 1),(.int .i64)] (.t 3)) 4 19,ZX 21 (Zc 1) 4 19,ZX 22 (Zc 2) 4 19,ZX 23 (YT 67 [(.t 20),(.t 21),(.t 22)]) 4 19,ZX 24 (.load true [(.sl 1),(.int .i64)] (.t 3)) 6 19,ZX 25 (Zc 1) 6 19,ZX 26 (Zc 2) 6 19,ZX 27 (YT 68 [(.t 24),(.t 25),(.t 26)]) 6 19,ZX 28 (.bin .bool .eql (.t 23) (.t 27)) 8 19,Za 29 (.pick (.t 19) (.c (.bool true)) (.t 28)) 8,Za 6 (Zc 29) 8] (some [[],[],[0,1],[2,0,1],[3,2,0,1],[4,3,2,0,1],[4,3,2,0,1],[5,6,4,3,2,0,1],[7,4,5,6,3,2,0,1],[4,8,3,2,0,1,7,5,6],[9,7,4,8,3,2,0,1,5,6],[10,9,7,4,8,3,2,0,1,5,6],[10,9,7,4,8,3,2,0,1,5,6],[10,9,7,4,8,3,2,0,1,5,6],[11,12,13,10,9,7,4,8,3,2,0,1,5,6],[10,9,7,4,8,3,2,0,1,5,6],[10,9,7,4,8,3,2,0,1,5,6],[10,9,7,4,8,3,2,0,1,5,6],[15,16,17,14,10,9,7,4,8,3,2,0,1,5,6,11,12,13],[14,18,10,11,12,13,9,7,4,8,3,2,0,1,5,6,15,16,17],[10,19,9,7,4,8,3,2,0,1,5,6,14,18,11,12,13,15,16,17],[20,18,0,1,2,3,4,5,6,7,8,9,10,11,12,13,14,15,16,17,19]])) .ret)))
def DW:List IRes:=[(.tmp 6)]
abbrev a9s:Nat:=30
def SQ:ZO:=Xc [(43,.pure (preT (fun _:Unit=>true)) (Zj (fun _:Unit=>true))),(44,.pure (preT (fun x:BoxT×List Fact×Unit=>ZH x.1&&YJ x.2.1)) (Zj (fun x:BoxT×List Fact×Unit=>QX x.1 x.2.1))),(67,.pure (preT (fun x:BoxT×List Fact×List Fact×Unit=>ZH x.1&&Zf x.2.1&&decide (x.2.1.length<=100)&&Zf x.2.2.1&&decide (x.2.2.1.length<=100)&&decide (x.1.v.length<=1000))) (Zj (fun x:BoxT×List Fact×List Fact×Unit=>decide ((Zo x.1 x.2.1).2=0)&&decide ((Zo x.1 x.2.2.1).2=0)&&decide ((Zo x.1 x.2.1).1=(Zo x.1 x.2.2.1).1)))),(68,.pure (preT (fun x:BoxT×List Fact×List Fact×Unit=>ZH x.1&&Zf x.2.1&&decide (x.2.1.length<=100)&&Zf x.2.2.1&&decide (x.2.2.1.length<=100)&&decide (x.1.v.length<=1000))) (Zj (fun x:BoxT×List Fact×List Fact×Unit=>decide ((Zo x.1 x.2.1).2=0)&&decide ((Zo x.1 x.2.2.1).2=0)&&decide ((Zo x.1 x.2.1).1=(Zo x.1 x.2.2.1).1))))]
theorem b3h{G:PV->Prop}(b:BoxT)(fs gs:List Fact)(h : ∃ y0:Bool,AV.pv (Zj (fun(x:Unit)=>true) [])=AV.pv (enc y0)∧(if (!y0)=true then G ((.bool false))else((Go.Pl.preT (fun(x:BoxT×List Fact×Unit)=>ZH x.1&&YJ x.2.1) [(.agg [(.sl 1 false (List.map enc b.v)),(.int .i64 b.m)]),(.sl 3 false (List.map enc fs))])=true∧(∃ y1:Bool,AV.pv (Zj (fun(x:BoxT×List Fact×Unit)=>QX x.1 x.2.1) [(.agg [(.sl 1 false (List.map enc b.v)),(.int .i64 b.m)]),(.sl 3 false (List.map enc fs))])=AV.pv (enc y1)∧(if (!y1)=true then G ((.bool true))else((Go.Pl.preT (fun(x:BoxT×List Fact×Unit)=>ZH x.1&&YJ x.2.1) [(.agg [(.sl 1 false (List.map enc b.v)),(.int .i64 b.m)]),(.sl 3 false (List.map enc gs))])=true∧(∃ y2:Bool,AV.pv (Zj (fun(x:BoxT×List Fact×Unit)=>QX x.1 x.2.1) [(.agg [(.sl 1 false (List.map enc b.v)),(.int .i64 b.m)]),(.sl 3 false (List.map enc gs))])=AV.pv (enc y2)∧(if (!y2)=true then G ((.bool true))else((Go.Pl.preT (fun(x:BoxT×List Fact×List Fact×Unit)=>ZH x.1&&Zf x.2.1&&decide (List.length x.2.1<=100)&&Zf x.2.2.1&&decide (List.length x.2.2.1<=100)&&decide (List.length x.1.v<=1000)) [(.agg [(.sl 1 false (List.map enc b.v)),(.int .i64 b.m)]),(.sl 3 false (List.map enc fs)),(.sl 3 false (List.map enc gs))])=true∧(∃ y3:Bool,AV.pv (Zj (fun(x:BoxT×List Fact×List Fact×Unit)=>decide (Prod.snd (Zo x.1 x.2.1)=0)&&decide (Prod.snd (Zo x.1 x.2.2.1)=0)&&decide (Prod.fst (Zo x.1 x.2.1)=Prod.fst (Zo x.1 x.2.2.1))) [(.agg [(.sl 1 false (List.map enc b.v)),(.int .i64 b.m)]),(.sl 3 false (List.map enc fs)),(.sl 3 false (List.map enc gs))])=AV.pv (enc y3)∧((Go.Pl.preT (fun(x:BoxT×List Fact×List Fact×Unit)=>ZH x.1&&Zf x.2.1&&decide (List.length x.2.1<=100)&&Zf x.2.2.1&&decide (List.length x.2.2.1<=100)&&decide (List.length x.1.v<=1000)) [(.agg [(.sl 1 false (List.map enc b.v)),(.int .i64 b.m)]),(.sl 3 false (List.map enc fs)),(.sl 3 false (List.map enc gs))])=true∧(∃ y4:Bool,AV.pv (Zj (fun(x:BoxT×List Fact×List Fact×Unit)=>decide (Prod.snd (Zo x.1 x.2.1)=0)&&decide (Prod.snd (Zo x.1 x.2.2.1)=0)&&decide (Prod.fst (Zo x.1 x.2.1)=Prod.fst (Zo x.1 x.2.2.1))) [(.agg [(.sl 1 false (List.map enc b.v)),(.int .i64 b.m)]),(.sl 3 false (List.map enc fs)),(.sl 3 false (List.map enc gs))])=AV.pv (enc y4)∧(G ((.bool (y3==y4)))))))))))))))):Ze SQ 0 (Zb DW G) DI [] (Yk 30 [enc b,enc fs,enc gs]):=Ze.tp (.lit (.abs (Bool) (fun YY=>AV.pv (enc YY)) (.ask (.nil) (.req (.abs (Bool) (fun YY=>AV.pv (enc YY)) (.ask (.lit (.lit (.lit (.lit (.lit (.lit (.lit (.lit (.lit (.lit (.lit (.lit (.lit (.lit (.nil))))))))))))))) (.lit (.lit (.req (.abs (Bool) (fun YY=>AV.pv (enc YY)) (.lit (.lit (.ask (.lit (.lit (.lit (.lit (.lit (.lit (.lit (.lit (.lit (.nil)))))))))) (.lit (.lit (.lit (.req (.abs (Bool) (fun YY=>AV.pv (enc YY)) (.lit (.lit (.lit (.lit (.req (.abs (Bool) (fun YY=>AV.pv (enc YY)) (.lit (.lit (.lit (.nil)))))))))))))))))))))))))))) h (by kernel_rfl)
end Go.Pl
namespace Go.Pl
open Go.RowKit
open Enc (enc dec is)
open EncL (encL decL isL)
theorem c4e{l:Lin}{n:Int}(h:GK l n=true)(hn:n<=1000):Yz l=true∧(l.t.length:Int)<=n:=by
 unfold GK at h
 simp only[Bool.and_eq_true,decide_eq_true_eq]at h
 refine⟨?_,h.2⟩
 unfold Yz YF
 rw[Bool.and_eq_true]
 refine⟨decide_eq_true (by omega),List.all_eq_true.2 fun t ht=> ?_⟩
 have:=List.all_eq_true.1 h.1 t ht
 have:=of_decide_eq_true this
 exact decide_eq_true (by omega)
theorem Ry{b:BoxT}{fs:List Fact}(h:QX b fs=true):b.v.length<=5∧fs.length<=6∧Zf fs=true∧(∀ f∈fs,GK f.l 8=true):=by
 unfold QX CK at h
 simp only[Bool.and_eq_true,decide_eq_true_eq]at h
 obtain⟨⟨⟨h1,h2⟩,h3⟩,h4,h5⟩:=h
 have h4:=List.all_eq_true.1 h4
 refine⟨h1,h3,?_,h4⟩
 unfold Zf
 rw[Bool.and_eq_true]
 exact⟨decide_eq_true (by omega),List.all_eq_true.2 fun f hf=>(c4e (h4 f hf) (by omega)).1⟩
theorem c6e{b:BoxT}{fs:List Fact}(hr:(Zo b fs).1≠[]):Y4 b=true∧(Zo b fs).1=ZY b fs:=by
 unfold Zo at hr ⊢
 split at hr
 ·rename_i h0
  exact⟨(Uy _ _ _ _ h0).1,by rw[if_pos h0]⟩
 ·exact absurd rfl hr
theorem Ra{b:BoxT}{fs:List Fact}(hb:b.v.length<=1000):(Zo b fs).1.length<=20000∧(Zo b fs).1.all Zr=true:=by
 by_cases h:(Zo b fs).1=[]
 ·rw[h];exact⟨by simp,rfl⟩
 ·obtain⟨hv,e⟩:=c6e h
  rw[e]
  constructor
  ·unfold ZY
   refine Nat.le_trans (List.length_filter_le _ _) ?_
   rw[Um hv,GG]
   exact Bi hv
  ·refine List.all_eq_true.2 fun p hp=>ZF.2 ?_
   unfold ZY at hp
   rw[Um hv]at hp
   have:=(Gn.1 (List.mem_filter.1 hp).1).1
   omega
end Go.Pl
namespace Go.Pl
open Go.RowKit
end Go.Pl
namespace Go.Pl
open Go.RowKit
open Enc (enc dec is)
open EncL (encL decL isL)
theorem b5z{x y:Str}(h1 : ¬ x.s<y.s)(h2 : ¬ y.s<x.s):x=y:=by
 have:x.s=y.s:=by
  rcases List.le_iff_lt_or_eq.1 (List.not_lt.1 h2)with h|h
  ·exact absurd h h1
  ·exact h
 cases x;cases y;cases this;rfl
def GU(m:Mono):Bool->List Mono->List Mono
 | put,[]=>if put then []else [m]
 | put,x::r=>
  if !put&&decide (Xz x.v m.v>0)then m::(if x.c≠0 then x::GU m true r else GU m true r)
  else if !put&&decide (Xz x.v m.v=0)then(if Db (x.c+m.c)≠0 then⟨Db (x.c+m.c),x.v⟩::GU m true r else GU m true r)
  else if x.c≠0 then x::GU m put r else GU m put r
end Go.Pl
namespace Go.Pl
open Go.RowKit
open Enc (enc dec is)
open EncL (encL decL isL)
set_option maxRecDepth 100000
def V7:IC:=(Zh [Za 4 (.mv (Zy 0)) 0] (.seq (Zh [Za 5 (.mv (Zy 0)) 0] (.block 0 (.loop [5,0,1] (.seq (Zh [Za 6 (Zc 5) 0,Za 7 (Zc 0) 0,Za 8 (.len 1 (.t 7)) 0,Za 9 (ZA .lss (.t 6) (.t 8)) 0,Za 10 (Zc 9) 0,Z6 11 (Zc 5) 0 10,Z6 12 (Zc 1) 0 10,Z6 13 (.len 1 (.t 12)) 0 10,Z6 14 (ZA .lss (.t 11) (.t 13)) 0 10,Za 15 (.pick (.t 10) (.t 14) (.c (.bool false))) 0] (.cond (.t 15) .skip (.exit 0))) (.seq (.block 1 (.seq (.seq (.reg [Za 18 (Zc 0) 0,Za 19 (Zc 5) 0,Za 20 (.iaddr 1 (.t 18) (.t 19)) 0,Za 21 (.load false [.str] (.t 20)) 0,Za 22 (Zc 1) 0,Za 23 (Zc 5) 0,Za 24 (.iaddr 1 (.t 22) (.t 23)) 0,Za 25 (.load false [.str] (.t 24)) 0,Za 26 (ZA .lss (.t 21) (.t 25)) 0] (some [[],[],[0,1],[2,0,1],[],[],[4,5],[6,4,5],[3,7,2,0,1,6,4,5]])) (.cond (.t 26) (Zh [Za 4 (.mv (.c (.int .i64 (-1)))) 0] .ret) .skip)) (.seq (.reg [Za 27 (Zc 0) 0,Za 28 (Zc 5) 0,Za 29 (.iaddr 1 (.t 27) (.t 28)) 0,Za 30 (.load false [.str] (.t 29)) 0,Za 31 (Zc 1) 0,Za 32 (Zc 5) 0,Za 33 (.iaddr 1 (.t 31) (.t 32)) 0,Za 34 (.load false [.str] (.t 33)) 0,Za 35 (ZA .gtr (.t 30) (.t 34)) 0] (some [[],[],[0,1],[2,0,1],[],[],[4,5],[6,4,5],[3,7,2,0,1,6,4,5]])) (.cond (.t 35) (Zh [Za 4 (.mv (Zy 1)) 0] .ret) .skip)))) (.reg [Za 16 (Zc 5) 0,Za 17 (ZA .add (.t 16) (Zy 1)) 0,Za 5 (Zc 17) 0] none)))))) (Zh [Za 36 (Zc 0) 0,Za 37 (.len 1 (.t 36)) 0,Za 38 (Zc 1) 0,Za 39 (.len 1 (.t 38)) 0,Za 40 (ZA .sub (.t 37) (.t 39)) 0,Za 4 (Zc 40) 0] .ret)))
def Ul:List IRes:=[(.tmp 4)]
abbrev a7s:Nat:=41
def U6:ZO:=Xc []
theorem b9c{G:PV->Prop}(a b:List Str)(h:At U6 0 (Zb Ul G) V7 0 41 [(0,(.pv (.sl 1 false (List.map enc a)))),(1,(.pv (.sl 1 false (List.map enc b)))),(5,(.pv (.int .i64 0)))] []):Ze U6 0 (Zb Ul G) V7 [] (Yk 41 [enc a,enc b]):=Ze.tp (.nil) h (by kernel_rfl)
theorem Dx{G:PV->Prop}(a b:List Str)(i:Int)(h:if (decide (i<(↑(List.length (List.map enc a)):Int)))=true then if (decide (i<(↑(List.length (List.map enc b)):Int)))=true then(decide (0<=i)&&decide (Int.toNat i<List.length (List.map enc a))&&Enc.sz Str==1)=true∧(∃ y0:Str,AV.pv (PV.rptr (PV.cells (List.getD (List.map enc a) (Int.toNat i) default)))=AV.pv (PV.rptr (PV.cells ((enc) y0)))∧((decide (0<=i)&&decide (Int.toNat i<List.length (List.map enc b))&&Enc.sz Str==1)=true∧(∃ y1:Str,AV.pv (PV.rptr (PV.cells (List.getD (List.map enc b) (Int.toNat i) default)))=AV.pv (PV.rptr (PV.cells ((enc) y1)))∧(if (Op.bytesLess (PV.asStr (List.getD (PV.cells (enc y0)) 0 default)) (PV.asStr (List.getD (PV.cells (enc y1)) 0 default)))=true then G ((.int .i64 (-1)))else((decide (0<=i)&&decide (Int.toNat i<List.length (List.map enc a))&&Enc.sz Str==1)=true∧(∃ y2:Str,AV.pv (PV.rptr (PV.cells (List.getD (List.map enc a) (Int.toNat i) default)))=AV.pv (PV.rptr (PV.cells ((enc) y2)))∧((decide (0<=i)&&decide (Int.toNat i<List.length (List.map enc b))&&Enc.sz Str==1)=true∧(∃ y3:Str,AV.pv (PV.rptr (PV.cells (List.getD (List.map enc b) (Int.toNat i) default)))=AV.pv (PV.rptr (PV.cells ((enc) y3)))∧(if (!(Op.bytesLess (PV.asStr (List.getD (PV.cells (enc y2)) 0 default)) (PV.asStr (List.getD (PV.cells (enc y3)) 0 default))||PV.asStr (List.getD (PV.cells (enc y2)) 0 default)==PV.asStr (List.getD (PV.cells (enc y3)) 0 default)))=true then G ((.int .i64 1))else(At U6 0 (Zb Ul G) V7 0 41 [(0,(.pv (.sl 1 false (List.map enc a)))),(1,(.pv (.sl 1 false (List.map enc b)))),(5,(.pv (.int .i64 (IntKind.wrap IntKind.i64 (i+1)))))] []))))))))))else(G ((.int .i64 (IntKind.wrap IntKind.i64 ((↑(List.length (List.map enc a)):Int) - (↑(List.length (List.map enc b)):Int))))))else(G ((.int .i64 (IntKind.wrap IntKind.i64 ((↑(List.length (List.map enc a)):Int) - (↑(List.length (List.map enc b)):Int))))))):At U6 0 (Zb Ul G) V7 0 41 [(0,.pv (enc a)),(1,.pv (enc b)),(5,.pv (.int .i64 i))] []:=At.tp (.lit (.ask (.lit (.lit (.lit (.lit (.lit (.ask (.req (.abs (Str) (fun YY=>AV.pv (PV.rptr (PV.cells ((enc) YY)))) (.lit (.req (.abs (Str) (fun YY=>AV.pv (PV.rptr (PV.cells ((enc) YY)))) (.lit (.lit (.ask (.nil) (.req (.abs (Str) (fun YY=>AV.pv (PV.rptr (PV.cells ((enc) YY)))) (.lit (.req (.abs (Str) (fun YY=>AV.pv (PV.rptr (PV.cells ((enc) YY)))) (.lit (.lit (.ask (.nil) (.lit (.nil)))))))))))))))))) (.lit (.nil)))))))) (.lit (.lit (.lit (.lit (.lit (.lit (.nil))))))))) h (by kernel_rfl)
def VA:IC:=(Zh [Za 2 (Xo false) 0] (.seq (Zh [Za 6 (Zc 0) 0,Za 7 (.len 1 (.t 6)) 0,Za 8 (ZA .gtr (.t 7) (Zy 60)) 0] (.cond (.t 8) (Zh [Za 2 (Xo false) 0] .ret) .skip)) (.seq (Zh [Za 3 (.mv (Zy 0)) 0] (.block 0 (.loop [3,0] (.seq (Zh [Za 9 (Zc 3) 0,Za 10 (Zc 0) 0,Za 11 (.len 1 (.t 10)) 0,Za 12 (ZA .lss (.t 9) (.t 11)) 0] (.cond (.t 12) .skip (.exit 0))) (.seq (.block 1 (Zh [Za 15 (Zc 0) 0,Za 16 (Zc 3) 0,Za 17 (.iaddr 2 (.t 15) (.t 16)) 0,Za 18 (.load true [(.int .i64),(.sl 1)] (.t 17)) 0,Za 4 (.alloc (.agg [(.int .i64 0),(.sl 0 true [])])) 0,Ui (.store 2 (.t 4) (.t 18)) 1] (.seq (.seq (.reg [Za 19 (.faddr 0 (.t 4)) 0,Za 20 (Yl [(.int .i64)] (.t 19)) 0,Za 21 (ZA .eql (.t 20) (Zy 0)) 0,Za 22 (Zc 21) 0,ZX 23 (.faddr 0 (.t 4)) 0 22,ZX 24 (Yl [(.int .i64)] (.t 23)) 0 22,ZX 25 (ZA .lss (.t 24) (.c (.int .i64 (-1099511627776)))) 0 22,Za 26 (.pick (.t 22) (.c (.bool true)) (.t 25)) 0,Za 27 (Zc 26) 0,ZX 28 (.faddr 0 (.t 4)) 0 27,ZX 29 (Yl [(.int .i64)] (.t 28)) 0 27,ZX 30 (ZA .gtr (.t 29) (Zy 1099511627776)) 0 27,Za 31 (.pick (.t 27) (.c (.bool true)) (.t 30)) 0,Za 32 (Zc 31) 0,ZX 33 (.faddr 1 (.t 4)) 0 32,ZX 34 (Yl [(.sl 1)] (.t 33)) 0 32,ZX 35 (.len 1 (.t 34)) 0 32,ZX 36 (ZA .gtr (.t 35) (Zy 8)) 0 32,Za 37 (.pick (.t 32) (.c (.bool true)) (.t 36)) 0,Za 38 (Zc 37) 0,ZX 39 (Zc 3) 0 38,ZX 40 (ZA .gtr (.t 39) (Zy 0)) 0 38,ZX 41 (Zc 40) 0 38,Z6 42 (Zc 0) 0 41,Z6 43 (Zc 3) 0 41,Z6 44 (ZA .sub (.t 43) (Zy 1)) 0 41,Z6 45 (.iaddr 2 (.t 42) (.t 44)) 0 41,Z6 46 (.faddr 1 (.t 45)) 0 41,Z6 47 (Yl [(.sl 1)] (.t 46)) 0 41,Z6 48 (.faddr 1 (.t 4)) 0 41,Z6 49 (Yl [(.sl 1)] (.t 48)) 0 41,Z6 50 (YT 195 [(.t 47),(.t 49)]) 0 41,Z6 51 (ZA .geq (.t 50) (Zy 0)) 2 41,ZX 52 (.pick (.t 41) (.t 51) (.c (.bool false))) 2 38,Za 53 (.pick (.t 38) (.c (.bool true)) (.t 52)) 2] (some [[],[0],[1,0],[2,1,0],[3,2,1,0],[4,3,2,1,0],[5,3,4,2,1,0],[3,6,2,1,0,5,4],[7,3,6,2,1,0,5,4],[8,7,3,6,2,1,0,5,4],[9,8,7,3,6,2,1,0,5,4],[10,8,9,7,3,6,2,1,0,5,4],[8,11,7,3,6,2,1,0,5,4,10,9],[12,8,11,7,3,6,2,1,0,5,4,10,9],[13,12,8,11,7,3,6,2,1,0,5,4,10,9],[14,13,12,8,11,7,3,6,2,1,0,5,4,10,9],[15,13,14,12,8,11,7,3,6,2,1,0,5,4,10,9],[16,13,15,14,12,8,11,7,3,6,2,1,0,5,4,10,9],[13,17,12,8,11,7,3,6,2,1,0,5,4,10,9,16,15,14],[18,13,17,12,8,11,7,3,6,2,1,0,5,4,10,9,16,15,14],[19,18,13,17,12,8,11,7,3,6,2,1,0,5,4,10,9,16,15,14],[20,19,18,13,17,12,8,11,7,3,6,2,1,0,5,4,10,9,16,15,14],[21,19,20,18,13,17,12,8,11,7,3,6,2,1,0,5,4,10,9,16,15,14],[22,21,19,20,18,13,17,12,8,11,7,3,6,2,1,0,5,4,10,9,16,15,14],[22,21,19,20,18,13,17,12,8,11,7,3,6,2,1,0,5,4,10,9,16,15,14],[24,22,21,19,20,18,13,17,12,8,11,7,3,6,2,1,0,5,4,10,9,16,15,14],[23,25,22,21,19,20,18,13,17,12,8,11,7,3,6,2,1,0,5,4,10,9,16,15,14,24],[26,22,23,25,21,19,20,18,13,17,12,8,11,7,3,6,2,1,0,5,4,10,9,16,15,14,24],[27,22,26,23,25,21,19,20,18,13,17,12,8,11,7,3,6,2,1,0,5,4,10,9,16,15,14,24],[22,21,19,20,18,13,17,12,8,11,7,3,6,2,1,0,5,4,10,9,16,15,14],[29,22,21,19,20,18,13,17,12,8,11,7,3,6,2,1,0,5,4,10,9,16,15,14],[28,30,22,27,26,23,25,21,19,20,18,13,17,12,8,11,7,3,6,2,1,0,5,4,10,9,16,15,14,24,29],[31,22,28,30,27,26,23,25,21,19,20,18,13,17,12,8,11,7,3,6,2,1,0,5,4,10,9,16,15,14,24,29],[22,32,19,21,20,18,13,17,12,8,11,7,3,6,2,1,0,5,4,10,9,16,15,14,31,28,30,27,26,23,25,24,29],[19,33,18,13,17,12,8,11,7,3,6,2,1,0,5,4,10,9,16,15,14,22,32,21,20,31,28,30,27,26,23,25,24,29]])) (.cond (.t 53) (Zh [Za 2 (Xo false) 0] .ret) .skip)) (Zh [Za 5 (.mv (Zy 0)) 0] (.block 2 (.loop [5,4,3,0] (.seq (Zh [Za 54 (Zc 5) 0,Za 55 (.faddr 1 (.t 4)) 0,Za 56 (Yl [(.sl 1)] (.t 55)) 0,Za 57 (.len 1 (.t 56)) 0,Za 58 (ZA .lss (.t 54) (.t 57)) 0] (.cond (.t 58) .skip (.exit 2))) (.seq (.block 3 (.seq (.reg [Za 61 (.faddr 1 (.t 4)) 0,Za 62 (Yl [(.sl 1)] (.t 61)) 0,Za 63 (Zc 5) 0,Za 64 (.iaddr 1 (.t 62) (.t 63)) 0,Za 65 (.load false [.str] (.t 64)) 0,Za 66 (YT 84 [(.t 65)]) 0,Za 67 (.un .not (.t 66)) 2,Za 68 (Zc 67) 2,ZX 69 (Zc 5) 2 68,ZX 70 (ZA .gtr (.t 69) (Zy 0)) 2 68,ZX 71 (Zc 70) 2 68,Z6 72 (.faddr 1 (.t 4)) 2 71,Z6 73 (Yl [(.sl 1)] (.t 72)) 2 71,Z6 74 (Zc 5) 2 71,Z6 75 (ZA .sub (.t 74) (Zy 1)) 2 71,Z6 76 (.iaddr 1 (.t 73) (.t 75)) 2 71,Z6 77 (.load false [.str] (.t 76)) 2 71,Z6 78 (.faddr 1 (.t 4)) 2 71,Z6 79 (Yl [(.sl 1)] (.t 78)) 2 71,Z6 80 (Zc 5) 2 71,Z6 81 (.iaddr 1 (.t 79) (.t 80)) 2 71,Z6 82 (.load false [.str] (.t 81)) 2 71,Z6 83 (ZA .gtr (.t 77) (.t 82)) 2 71,ZX 84 (.pick (.t 71) (.t 83) (.c (.bool false))) 2 68,Za 85 (.pick (.t 68) (.c (.bool true)) (.t 84)) 2] (some [[],[0],[],[1,2,0],[3,1,2,0],[4,3,1,2,0],[5,4,3,1,2,0],[6,5,4,3,1,2,0],[7,6,5,4,3,1,2,0],[8,7,6,5,4,3,1,2,0],[9,7,8,6,5,4,3,1,2,0],[10,9,7,8,6,5,4,3,1,2,0],[11,10,9,7,8,6,5,4,3,1,2,0],[10,9,7,8,6,5,4,3,1,2,0],[13,10,9,7,8,6,5,4,3,1,2,0],[12,14,10,11,9,7,8,6,5,4,3,1,2,0,13],[15,10,12,14,11,9,7,8,6,5,4,3,1,2,0,13],[10,9,7,8,6,5,4,3,1,2,0],[17,10,9,7,8,6,5,4,3,1,2,0],[10,9,7,8,6,5,4,3,1,2,0],[18,19,10,17,9,7,8,6,5,4,3,1,2,0],[20,10,18,19,17,9,7,8,6,5,4,3,1,2,0],[16,21,10,15,12,14,11,9,7,8,6,5,4,3,1,2,0,13,20,18,19,17],[10,22,7,9,8,6,5,4,3,1,2,0,16,21,15,12,14,11,13,20,18,19,17],[7,23,6,5,4,3,1,2,0,10,22,9,8,16,21,15,12,14,11,13,20,18,19,17]])) (.cond (.t 85) (Zh [Za 2 (Xo false) 0] .ret) .skip))) (.reg [Za 59 (Zc 5) 0,Za 60 (ZA .add (.t 59) (Zy 1)) 0,Za 5 (Zc 60) 0] none))))))))) (.reg [Za 13 (Zc 3) 0,Za 14 (ZA .add (.t 13) (Zy 1)) 0,Za 3 (Zc 14) 0] none)))))) (Zh [Za 2 (Xo true) 0] .ret))))
def Vj:List IRes:=[(.tmp 2)]
abbrev d0a:Nat:=86
def UZ:ZO:=Xc [(195,.pure (preT (fun x:List Str×List Str×Unit=>Zr x.1&&Zr x.2.1)) (Zj (fun x:List Str×List Str×Unit=>Xz x.1 x.2.1))),(84,.pure (preT (fun _:Str×Unit=>true)) (Zj (fun x:Str×Unit=>ZG x.1)))]
theorem d1j{G:PV->Prop}(p:List Mono)(h:if (decide ((↑(List.length (List.map enc p)):Int)>60))=true then G ((.bool false))else(At UZ 0 (Zb Vj G) VA 0 86 [(0,(.pv (.sl 2 false (List.map enc p)))),(3,(.pv (.int .i64 0)))] [])):Ze UZ 0 (Zb Vj G) VA [] (Yk 86 [enc p]):=Ze.tp (.lit (.ask (.nil) (.nil))) h (by kernel_rfl)
theorem b5r{G:PV->Prop}(p:List Mono)(i:Int)(h:if (decide (i<(↑(List.length (List.map enc p)):Int)))=true then(decide (0<=i)&&decide (Int.toNat i<List.length (List.map enc p))&&Enc.sz Mono==2)=true∧(∃ y0:Mono,AV.pv (PV.rptr (PV.cells (List.getD (List.map enc p) (Int.toNat i) default)))=AV.pv (PV.rptr (PV.cells ((enc) y0)))∧(if (PV.asInt (List.getD (PV.cells (enc y0)) 0 default)==0)=true then G ((.bool false))else(if (decide (PV.asInt (List.getD (PV.cells (enc y0)) 0 default)<(-1099511627776:Int)))=true then G ((.bool false))else(if (decide (PV.asInt (List.getD (PV.cells (enc y0)) 0 default)>1099511627776))=true then G ((.bool false))else(if (decide ((↑(List.length (PV.asXs (List.getD (PV.cells (enc y0)) (0+1) default))):Int)>8))=true then G ((.bool false))else(if (decide (i>0))=true then(decide (0<=IntKind.wrap IntKind.i64 (i - 1))&&decide (Int.toNat (IntKind.wrap IntKind.i64 (i - 1))<List.length (List.map enc p))&&Enc.sz Mono==2)=true∧(∃ y1:Mono,AV.pv (PV.rptr (PV.cells (List.getD (List.map enc p) (Int.toNat (IntKind.wrap IntKind.i64 (i - 1))) default)))=AV.pv (PV.rptr (PV.cells ((enc) y1)))∧((Go.Pl.preT (fun(x:List Str×List Str×Unit)=>Zr x.1&&Zr x.2.1) [(.sl 1 false (PV.asXs (List.getD (List.drop 1 (PV.cells (enc y1))) 0 default))),(.sl 1 false (PV.asXs (List.getD (PV.cells (enc y0)) (0+1) default)))])=true∧(∃ y2:Int,AV.pv (Zj (fun(x:List Str×List Str×Unit)=>Xz x.1 x.2.1) [(.sl 1 false (PV.asXs (List.getD (List.drop 1 (PV.cells (enc y1))) 0 default))),(.sl 1 false (PV.asXs (List.getD (PV.cells (enc y0)) (0+1) default)))])=AV.pv (enc y2)∧(if (decide (y2 ≥ 0))=true then G ((.bool false))else(At UZ 0 (Zb Vj G) VA 1 86 [(0,(.pv (.sl 2 false (List.map enc p)))),(3,(.pv (.int .i64 i))),(4,(.ptr 0 0)),(5,(.pv (.int .i64 0)))] [(.obj (.box [(.pv (.int .i64 (PV.asInt (List.getD (PV.cells (enc y0)) 0 default)))),(.pv (.sl 1 false (PV.asXs (List.getD (PV.cells (enc y0)) (0+1) default))))]))])))))else(At UZ 0 (Zb Vj G) VA 1 86 [(0,(.pv (.sl 2 false (List.map enc p)))),(3,(.pv (.int .i64 i))),(4,(.ptr 0 0)),(5,(.pv (.int .i64 0)))] [(.obj (.box [(.pv (.int .i64 (PV.asInt (List.getD (PV.cells (enc y0)) 0 default)))),(.pv (.sl 1 false (PV.asXs (List.getD (PV.cells (enc y0)) (0+1) default))))]))])))))))else(G ((.bool true)))):At UZ 0 (Zb Vj G) VA 0 86 [(0,.pv (enc p)),(3,.pv (.int .i64 i))] []:=At.tp (.lit (.ask (.req (.abs (Mono) (fun YY=>AV.pv (PV.rptr (PV.cells ((enc) YY)))) (.lit (.lit (.ask (.lit (.lit (.lit (.lit (.lit (.lit (.lit (.lit (.lit (.lit (.lit (.lit (.lit (.lit (.lit (.lit (.lit (.lit (.nil))))))))))))))))))) (.lit (.lit (.lit (.lit (.ask (.lit (.lit (.lit (.lit (.lit (.lit (.lit (.lit (.lit (.lit (.lit (.lit (.lit (.lit (.nil))))))))))))))) (.lit (.lit (.lit (.lit (.ask (.lit (.lit (.lit (.lit (.lit (.lit (.lit (.lit (.lit (.lit (.nil))))))))))) (.lit (.lit (.lit (.lit (.lit (.ask (.lit (.lit (.lit (.lit (.lit (.nil)))))) (.lit (.lit (.lit (.ask (.lit (.lit (.lit (.lit (.req (.abs (Mono) (fun YY=>AV.pv (PV.rptr (PV.cells ((enc) YY)))) (.lit (.lit (.lit (.lit (.lit (.lit (.req (.abs (Int) (fun YY=>AV.pv (enc YY)) (.lit (.lit (.lit (.lit (.lit (.ask (.nil) (.nil))))))))))))))))))))) (.lit (.lit (.lit (.lit (.lit (.lit (.lit (.lit (.lit (.lit (.lit (.lit (.lit (.nil))))))))))))))))))))))))))))))))))))))) (.nil))) h (by kernel_rfl)
theorem b9f{G:PV->Prop}(p:List Mono)(m:Mono)(i k:Int)(h:if (decide (k<(↑(List.length (List.map enc m.v)):Int)))=true then(decide (0<=k)&&decide (Int.toNat k<List.length (List.map enc m.v))&&Enc.sz Str==1)=true∧(∃ y0:Str,AV.pv (PV.rptr (PV.cells (List.getD (List.map enc m.v) (Int.toNat k) default)))=AV.pv (PV.rptr (PV.cells ((enc) y0)))∧(∃ y1:Bool,AV.pv (Zj (fun(x:Str×Unit)=>ZG x.1) [(.str (PV.asStr (List.getD (PV.cells (enc y0)) 0 default)))])=AV.pv (enc y1)∧(if (!y1)=true then G ((.bool false))else(if (decide (k>0))=true then(decide (0<=IntKind.wrap IntKind.i64 (k - 1))&&decide (Int.toNat (IntKind.wrap IntKind.i64 (k - 1))<List.length (List.map enc m.v))&&Enc.sz Str==1)=true∧(∃ y2:Str,AV.pv (PV.rptr (PV.cells (List.getD (List.map enc m.v) (Int.toNat (IntKind.wrap IntKind.i64 (k - 1))) default)))=AV.pv (PV.rptr (PV.cells ((enc) y2)))∧((decide (0<=k)&&decide (Int.toNat k<List.length (List.map enc m.v))&&Enc.sz Str==1)=true∧(∃ y3:Str,AV.pv (PV.rptr (PV.cells (List.getD (List.map enc m.v) (Int.toNat k) default)))=AV.pv (PV.rptr (PV.cells ((enc) y3)))∧(if (!(Op.bytesLess (PV.asStr (List.getD (PV.cells (enc y2)) 0 default)) (PV.asStr (List.getD (PV.cells (enc y3)) 0 default))||PV.asStr (List.getD (PV.cells (enc y2)) 0 default)==PV.asStr (List.getD (PV.cells (enc y3)) 0 default)))=true then G ((.bool false))else(At UZ 0 (Zb Vj G) VA 1 86 [(0,(.pv (.sl 2 false (List.map enc p)))),(3,(.pv (.int .i64 i))),(4,(.ptr 0 0)),(5,(.pv (.int .i64 (IntKind.wrap IntKind.i64 (k+1)))))] [(.obj (.box [(.pv (.int .i64 m.c)),(.pv (.sl 1 false (List.map enc m.v)))]))])))))else(At UZ 0 (Zb Vj G) VA 1 86 [(0,(.pv (.sl 2 false (List.map enc p)))),(3,(.pv (.int .i64 i))),(4,(.ptr 0 0)),(5,(.pv (.int .i64 (IntKind.wrap IntKind.i64 (k+1)))))] [(.obj (.box [(.pv (.int .i64 m.c)),(.pv (.sl 1 false (List.map enc m.v)))]))])))))else(At UZ 0 (Zb Vj G) VA 0 86 [(0,(.pv (.sl 2 false (List.map enc p)))),(3,(.pv (.int .i64 (IntKind.wrap IntKind.i64 (i+1)))))] [])):At UZ 0 (Zb Vj G) VA 1 86 [(0,.pv (enc p)),(3,.pv (.int .i64 i)),(4,.ptr 0 0),(5,.pv (.int .i64 k))] [.obj (.box [.pv (.int .i64 m.c),.pv (enc m.v)])]:=At.tp (.lit (.ask (.req (.abs (Str) (fun YY=>AV.pv (PV.rptr (PV.cells ((enc) YY)))) (.lit (.lit (.abs (Bool) (fun YY=>AV.pv (enc YY)) (.ask (.lit (.lit (.lit (.lit (.lit (.nil)))))) (.lit (.lit (.lit (.ask (.lit (.lit (.lit (.lit (.lit (.req (.abs (Str) (fun YY=>AV.pv (PV.rptr (PV.cells ((enc) YY)))) (.lit (.lit (.lit (.lit (.lit (.lit (.req (.abs (Str) (fun YY=>AV.pv (PV.rptr (PV.cells ((enc) YY)))) (.lit (.lit (.lit (.lit (.lit (.lit (.lit (.ask (.nil) (.lit (.nil))))))))))))))))))))))))) (.lit (.lit (.lit (.lit (.lit (.lit (.lit (.lit (.lit (.lit (.lit (.lit (.lit (.lit (.lit (.lit (.nil))))))))))))))))))))))))))) (.lit (.nil)))) h (by kernel_rfl)
def Z9:IC:=(Zh [Za 2 (.mv (.c (.sl 0 true []))) 0] (Zh [Za 3 (.mv (.c (.sl 0 true []))) 0] (.seq (Zh [Za 7 (Zc 0) 0,Za 8 (YT 131 [(.t 7)]) 0,Za 9 (.un .not (.t 8)) 2] (.cond (.t 9) (Zh [Za 2 (.mv (.c (.sl 0 true []))) 0] .ret) .skip)) (.seq (Zh [Za 4 (.mv (Zy 0)) 0] (.block 0 (.loop [4,0,3] (.seq (Zh [Za 10 (Zc 4) 0,Za 11 (Zc 0) 0,Za 12 (.len 1 (.t 11)) 0,Za 13 (ZA .lss (.t 10) (.t 12)) 0] (.cond (.t 13) .skip (.exit 0))) (.seq (.block 1 (Zh [Za 5 (.mv (Zy 0)) 0] (.block 2 (.loop [5,0,4,3] (.seq (Zh [Za 16 (Zc 5) 0,Za 17 (Zc 0) 0,Za 18 (Zc 4) 0,Za 19 (.iaddr 2 (.t 17) (.t 18)) 0,Za 20 (.faddr 1 (.t 19)) 0,Za 21 (Yl [(.sl 1)] (.t 20)) 0,Za 22 (.len 1 (.t 21)) 0,Za 23 (ZA .lss (.t 16) (.t 22)) 0] (.cond (.t 23) .skip (.exit 2))) (.seq (.block 3 (Zh [Za 6 (.mv (Zy 0)) 0] (.seq (.block 4 (.loop [6,3,0,4,5] (.seq (.seq (.reg [Za 26 (Zc 6) 0,Za 27 (Zc 3) 0,Za 28 (.len 1 (.t 27)) 0,Za 29 (ZA .lss (.t 26) (.t 28)) 0,Za 30 (Zc 29) 0,Z6 31 (Zc 3) 0 30,Z6 32 (Zc 6) 0 30,Z6 33 (.iaddr 1 (.t 31) (.t 32)) 0 30,Z6 34 (.load false [.str] (.t 33)) 0 30,Z6 35 (Zc 0) 0 30,Z6 36 (Zc 4) 0 30,Z6 37 (.iaddr 2 (.t 35) (.t 36)) 0 30,Z6 38 (.faddr 1 (.t 37)) 0 30,Z6 39 (Yl [(.sl 1)] (.t 38)) 0 30,Z6 40 (Zc 5) 0 30,Z6 41 (.iaddr 1 (.t 39) (.t 40)) 0 30,Z6 42 (.load false [.str] (.t 41)) 0 30,Z6 43 (ZA .lss (.t 34) (.t 42)) 0 30,Za 44 (.pick (.t 30) (.t 43) (.c (.bool false))) 0] (some [[],[],[1],[0,2,1],[3,0,2,1],[4,3,0,2,1],[4,3,0,2,1],[5,6,4,3,0,2,1],[7,4,5,6,3,0,2,1],[4,3,0,2,1],[4,3,0,2,1],[9,10,4,3,0,2,1],[11,4,9,10,3,0,2,1],[12,4,11,9,10,3,0,2,1],[4,3,0,2,1],[13,14,4,12,11,9,10,3,0,2,1],[15,4,13,14,12,11,9,10,3,0,2,1],[8,16,4,7,5,6,3,0,2,1,15,13,14,12,11,9,10],[4,17,3,0,2,1,8,16,7,5,6,15,13,14,12,11,9,10]])) (.cond (.t 44) .skip (.exit 4))) (.block 5 (.reg [Za 45 (Zc 6) 0,Za 46 (ZA .add (.t 45) (Zy 1)) 0,Za 6 (Zc 46) 0] none))))) (.seq (.reg [Za 47 (Zc 6) 0,Za 48 (Zc 3) 0,Za 49 (.len 1 (.t 48)) 0,Za 50 (ZA .eql (.t 47) (.t 49)) 0,Za 51 (Zc 50) 0,ZX 52 (Zc 3) 0 51,ZX 53 (Zc 6) 0 51,ZX 54 (.iaddr 1 (.t 52) (.t 53)) 0 51,ZX 55 (.load false [.str] (.t 54)) 0 51,ZX 56 (Zc 0) 0 51,ZX 57 (Zc 4) 0 51,ZX 58 (.iaddr 2 (.t 56) (.t 57)) 0 51,ZX 59 (.faddr 1 (.t 58)) 0 51,ZX 60 (Yl [(.sl 1)] (.t 59)) 0 51,ZX 61 (Zc 5) 0 51,ZX 62 (.iaddr 1 (.t 60) (.t 61)) 0 51,ZX 63 (.load false [.str] (.t 62)) 0 51,ZX 64 (ZA .neq (.t 55) (.t 63)) 0 51,Za 65 (.pick (.t 51) (.c (.bool true)) (.t 64)) 0] (some [[],[],[1],[0,2,1],[3,0,2,1],[4,3,0,2,1],[4,3,0,2,1],[5,6,4,3,0,2,1],[7,4,5,6,3,0,2,1],[4,3,0,2,1],[4,3,0,2,1],[9,10,4,3,0,2,1],[11,4,9,10,3,0,2,1],[12,4,11,9,10,3,0,2,1],[4,3,0,2,1],[13,14,4,12,11,9,10,3,0,2,1],[15,4,13,14,12,11,9,10,3,0,2,1],[8,16,4,7,5,6,3,0,2,1,15,13,14,12,11,9,10],[4,17,3,0,2,1,8,16,7,5,6,15,13,14,12,11,9,10]])) (.cond (.t 65) (.reg [Za 66 (.bslice 9 1 0 (.str []) []) 0,Za 67 (Zc 3) 1,Za 68 (Zc 6) 1,Za 69 (.slc 1 (.t 67) none (some (.t 68)) none) 1,Za 70 (.append 9 1 16 (.t 66) (.t 69)) 1,Za 71 (Zc 0) 2,Za 72 (Zc 4) 2,Za 73 (.iaddr 2 (.t 71) (.t 72)) 2,Za 74 (.faddr 1 (.t 73)) 2,Za 75 (Yl [(.sl 1)] (.t 74)) 2,Za 76 (Zc 5) 2,Za 77 (.iaddr 1 (.t 75) (.t 76)) 2,Za 78 (.load false [.str] (.t 77)) 2,Za 79 (.bslice 9 1 1 (.str []) [(0,(.t 78))]) 2,Za 80 (.append 9 1 16 (.t 70) (.t 79)) 3,Za 81 (Zc 3) 4,Za 82 (Zc 6) 4,Za 83 (.slc 1 (.t 81) (some (.t 82)) none none) 4,Za 84 (.append 9 1 16 (.t 80) (.t 83)) 4,Za 3 (Zc 84) 5] (some [[],[],[],[1,2],[0,3,1,2],[],[],[5,6],[7,5,6],[8,7,5,6],[],[9,10,8,7,5,6],[11,9,10,8,7,5,6],[12,11,9,10,8,7,5,6],[4,13,0,3,1,2,12,11,9,10,8,7,5,6],[],[],[15,16],[14,17,4,13,0,3,1,2,12,11,9,10,8,7,5,6,15,16],[18,0,1,2,3,4,5,6,7,8,9,10,11,12,13,14,15,16,17]])) .skip))))) (.reg [Za 24 (Zc 5) 0,Za 25 (ZA .add (.t 24) (Zy 1)) 0,Za 5 (Zc 25) 0] none))))))) (.reg [Za 14 (Zc 4) 0,Za 15 (ZA .add (.t 14) (Zy 1)) 0,Za 4 (Zc 15) 0] none)))))) (Zh [Za 85 (Zc 3) 0,Za 2 (Zc 85) 0] .ret)))))
def Ya:List IRes:=[(.tmp 2)]
abbrev c2t:Nat:=86
def Yw:ZO:=Xc [(131,.pure (preT (fun x:List Mono×Unit=>Xi x.1)) (Zj (fun x:List Mono×Unit=>ZJ x.1)))]
theorem c9y{G:PV->Prop}(p:List Mono)(h:(Go.Pl.preT (fun(x:List Mono×Unit)=>Xi x.1) [(.sl 2 false (List.map enc p))])=true∧(∃ y0:Bool,AV.pv (Zj (fun(x:List Mono×Unit)=>ZJ x.1) [(.sl 2 false (List.map enc p))])=AV.pv (enc y0)∧(if (!y0)=true then G ((.sl 0 true []))else(At Yw 0 (Zb Ya G) Z9 0 86 [(0,(.pv (.sl 2 false (List.map enc p)))),(3,(.pv (.sl 0 true []))),(4,(.pv (.int .i64 0)))] [])))):Ze Yw 0 (Zb Ya G) Z9 [] (Yk 86 [enc p]):=Ze.tp (.req (.abs (Bool) (fun YY=>AV.pv (enc YY)) (.ask (.nil) (.nil)))) h (by kernel_rfl)
theorem F6{G:PV->Prop}(p:List Mono)(i:Int)(h:if (decide (i<(↑(List.length (List.map enc p)):Int)))=true then At Yw 0 (Zb Ya G) Z9 1 86 [(0,(.pv (.sl 2 false (List.map enc p)))),(3,(.pv (.sl 0 true []))),(4,(.pv (.int .i64 i))),(5,(.pv (.int .i64 0)))] []else(G ((.sl 0 true [])))):At Yw 0 (Zb Ya G) Z9 0 86 [(0,.pv (enc p)),(3,.pv (.sl 0 true [])),(4,.pv (.int .i64 i))] []:=At.tp (.lit (.ask (.nil) (.nil))) h (by kernel_rfl)
theorem MO{G:PV->Prop}(p:List Mono)(i:Int)(n:Nat)(xs:List Str)(h:if (decide (i<(↑(List.length (List.map enc p)):Int)))=true then At Yw 0 (Zb Ya G) Z9 1 86 [(0,(.pv (.sl 2 false (List.map enc p)))),(3,(.row 0 n 0 n)),(4,(.pv (.int .i64 i))),(5,(.pv (.int .i64 0)))] [(.obj (.row false 9 1 (List.map enc xs)))]else((List.length (List.map enc xs)==n)=true∧(G ((.sl 1 false (List.drop 0 (List.take n (List.map enc xs)))))))):At Yw 0 (Zb Ya G) Z9 0 86 [(0,.pv (enc p)),(3,.row 0 n 0 n),(4,.pv (.int .i64 i))] [.obj (.row false 9 1 (xs.map enc))]:=At.tp (.lit (.ask (.nil) (.req (.nil)))) h (by kernel_rfl)
theorem Oc{G:PV->Prop}(p:List Mono)(i k:Int)(h:(decide (0<=i)&&decide (Int.toNat i<List.length (List.map enc p))&&Enc.sz Mono==2)=true∧(∃ y0:Mono,AV.pv (PV.rptr (PV.cells (List.getD (List.map enc p) (Int.toNat i) default)))=AV.pv (PV.rptr (PV.cells ((enc) y0)))∧(if (decide (k<(↑(List.length (PV.asXs (List.getD (List.drop 1 (PV.cells (enc y0))) 0 default))):Int)))=true then At Yw 0 (Zb Ya G) Z9 2 86 [(0,(.pv (.sl 2 false (List.map enc p)))),(3,(.pv (.sl 0 true []))),(4,(.pv (.int .i64 i))),(5,(.pv (.int .i64 k))),(6,(.pv (.int .i64 0)))] []else(At Yw 0 (Zb Ya G) Z9 0 86 [(0,(.pv (.sl 2 false (List.map enc p)))),(3,(.pv (.sl 0 true []))),(4,(.pv (.int .i64 (IntKind.wrap IntKind.i64 (i+1)))))] [])))):At Yw 0 (Zb Ya G) Z9 1 86 [(0,.pv (enc p)),(3,.pv (.sl 0 true [])),(4,.pv (.int .i64 i)),(5,.pv (.int .i64 k))] []:=At.tp (.req (.abs (Mono) (fun YY=>AV.pv (PV.rptr (PV.cells ((enc) YY)))) (.lit (.lit (.ask (.nil) (.lit (.nil))))))) h (by kernel_rfl)
theorem Fp{G:PV->Prop}(p:List Mono)(i k:Int)(n:Nat)(xs:List Str)(h:(decide (0<=i)&&decide (Int.toNat i<List.length (List.map enc p))&&Enc.sz Mono==2)=true∧(∃ y0:Mono,AV.pv (PV.rptr (PV.cells (List.getD (List.map enc p) (Int.toNat i) default)))=AV.pv (PV.rptr (PV.cells ((enc) y0)))∧(if (decide (k<(↑(List.length (PV.asXs (List.getD (List.drop 1 (PV.cells (enc y0))) 0 default))):Int)))=true then At Yw 0 (Zb Ya G) Z9 2 86 [(0,(.pv (.sl 2 false (List.map enc p)))),(3,(.row 0 n 0 n)),(4,(.pv (.int .i64 i))),(5,(.pv (.int .i64 k))),(6,(.pv (.int .i64 0)))] [(.obj (.row false 9 1 (List.map enc xs)))]else(At Yw 0 (Zb Ya G) Z9 0 86 [(0,(.pv (.sl 2 false (List.map enc p)))),(3,(.row 0 n 0 n)),(4,(.pv (.int .i64 (IntKind.wrap IntKind.i64 (i+1)))))] [(.obj (.row false 9 1 (List.map enc xs)))])))):At Yw 0 (Zb Ya G) Z9 1 86 [(0,.pv (enc p)),(3,.row 0 n 0 n),(4,.pv (.int .i64 i)),(5,.pv (.int .i64 k))] [.obj (.row false 9 1 (xs.map enc))]:=At.tp (.req (.abs (Mono) (fun YY=>AV.pv (PV.rptr (PV.cells ((enc) YY)))) (.lit (.lit (.ask (.nil) (.lit (.nil))))))) h (by kernel_rfl)
theorem b6m{G:PV->Prop}(p:List Mono)(i k:Int)(h:(decide (0<=i)&&decide (Int.toNat i<List.length (List.map enc p))&&Enc.sz Mono==2)=true∧(∃ y0:Mono,AV.pv (PV.rptr (PV.cells (List.getD (List.map enc p) (Int.toNat i) default)))=AV.pv (PV.rptr (PV.cells ((enc) y0)))∧((decide (0<=k)&&decide (Int.toNat k<List.length (PV.asXs (List.getD (List.drop 1 (PV.cells (enc y0))) 0 default)))&&1==1)=true∧((decide (0+List.length [Sh.str]<=List.length (PV.cells (List.getD (PV.asXs (List.getD (List.drop 1 (PV.cells (enc y0))) 0 default)) (Int.toNat k) default)))&&Yx (PV.cells (List.getD (PV.asXs (List.getD (List.drop 1 (PV.cells (enc y0))) 0 default)) (Int.toNat k) default)) 0 [Sh.str])=true∧(At Yw 0 (Zb Ya G) Z9 1 86 [(0,(.pv (.sl 2 false (List.map enc p)))),(3,(.row 0 1 0 1)),(4,(.pv (.int .i64 i))),(5,(.pv (.int .i64 (IntKind.wrap IntKind.i64 (k+1)))))] [(.obj (.row false 9 1 [(.str (PV.asStr (List.getD (PV.cells (List.getD (PV.asXs (List.getD (List.drop 1 (PV.cells (enc y0))) 0 default)) (Int.toNat k) default)) 0 default)))]))]))))):At Yw 0 (Zb Ya G) Z9 2 86 [(0,.pv (enc p)),(3,.pv (.sl 0 true [])),(4,.pv (.int .i64 i)),(5,.pv (.int .i64 k)),(6,.pv (.int .i64 0))] []:=At.tp (.lit (.lit (.lit (.lit (.lit (.lit (.lit (.lit (.lit (.lit (.lit (.lit (.lit (.lit (.lit (.lit (.lit (.lit (.lit (.lit (.lit (.lit (.lit (.lit (.lit (.lit (.lit (.lit (.lit (.lit (.lit (.lit (.lit (.lit (.lit (.lit (.req (.abs (Mono) (fun YY=>AV.pv (PV.rptr (PV.cells ((enc) YY)))) (.lit (.req (.keep (.req (.lit (.lit (.lit (.lit (.lit (.lit (.lit (.nil)))))))))))))))))))))))))))))))))))))))))))))))))) h (by kernel_rfl)
theorem FJ{G:PV->Prop}(p:List Mono)(i k j:Int)(n:Nat)(xs:List Str)(h:if (decide (j<(↑(n - 0):Int)))=true then(decide (0<=j)&&decide (0+Int.toNat j<n)&&List.length (List.map enc xs)==n)=true∧((List.length (List.map enc xs)==n&&decide (0+Int.toNat j<List.length (List.map enc xs)))=true∧((decide (0+List.length [Sh.str]<=List.length (PV.cells (List.getD (List.map enc xs) (0+Int.toNat j) default)))&&Yx (PV.cells (List.getD (List.map enc xs) (0+Int.toNat j) default)) 0 [Sh.str])=true∧((decide (0<=i)&&decide (Int.toNat i<List.length (List.map enc p))&&Enc.sz Mono==2)=true∧(∃ y0:Mono,AV.pv (PV.rptr (PV.cells (List.getD (List.map enc p) (Int.toNat i) default)))=AV.pv (PV.rptr (PV.cells ((enc) y0)))∧((decide (0<=k)&&decide (Int.toNat k<List.length (PV.asXs (List.getD (List.drop 1 (PV.cells (enc y0))) 0 default)))&&1==1)=true∧((decide (0+List.length [Sh.str]<=List.length (PV.cells (List.getD (PV.asXs (List.getD (List.drop 1 (PV.cells (enc y0))) 0 default)) (Int.toNat k) default)))&&Yx (PV.cells (List.getD (PV.asXs (List.getD (List.drop 1 (PV.cells (enc y0))) 0 default)) (Int.toNat k) default)) 0 [Sh.str])=true∧(if (Op.bytesLess (PV.asStr (List.getD (PV.cells (List.getD (List.map enc xs) (0+Int.toNat j) default)) 0 default)) (PV.asStr (List.getD (PV.cells (List.getD (PV.asXs (List.getD (List.drop 1 (PV.cells (enc y0))) 0 default)) (Int.toNat k) default)) 0 default)))=true then At Yw 0 (Zb Ya G) Z9 2 86 [(0,(.pv (.sl 2 false (List.map enc p)))),(3,(.row 0 n 0 n)),(4,(.pv (.int .i64 i))),(5,(.pv (.int .i64 k))),(6,(.pv (.int .i64 (IntKind.wrap IntKind.i64 (j+1)))))] [(.obj (.row false 9 1 (List.map enc xs)))]else(if (j==(↑(n - 0):Int))=true then(true&&decide (0<=j)&&decide (0<=Int.toNat j)&&decide (0+Int.toNat j<=n)&&List.length (List.map enc xs)==n)=true∧((List.length (List.map enc xs)==n)=true∧((List.length ([]:List PV)==0&&0==0&&decide ((0+List.length (List.drop (0+0) (List.take (0+Int.toNat j) (List.map enc xs))))*16<=1099511627776)&&decide (0+List.length (List.drop (0+0) (List.take (0+Int.toNat j) (List.map enc xs)))<=1099511627776))=true∧((decide (0<=i)&&decide (Int.toNat i<List.length (List.map enc p))&&Enc.sz Mono==2)=true∧(∃ y1:Mono,AV.pv (PV.rptr (PV.cells (List.getD (List.map enc p) (Int.toNat i) default)))=AV.pv (PV.rptr (PV.cells ((enc) y1)))∧((decide (0<=k)&&decide (Int.toNat k<List.length (PV.asXs (List.getD (List.drop 1 (PV.cells (enc y1))) 0 default)))&&1==1)=true∧((decide (0+List.length [Sh.str]<=List.length (PV.cells (List.getD (PV.asXs (List.getD (List.drop 1 (PV.cells (enc y1))) 0 default)) (Int.toNat k) default)))&&Yx (PV.cells (List.getD (PV.asXs (List.getD (List.drop 1 (PV.cells (enc y1))) 0 default)) (Int.toNat k) default)) 0 [Sh.str])=true∧((List.length (([]:List PV)++List.drop (0+0) (List.take (0+Int.toNat j) (List.map enc xs)))==0+List.length (List.drop (0+0) (List.take (0+Int.toNat j) (List.map enc xs)))&&0+List.length (List.drop (0+0) (List.take (0+Int.toNat j) (List.map enc xs)))==0+List.length (List.drop (0+0) (List.take (0+Int.toNat j) (List.map enc xs)))&&decide ((0+List.length (List.drop (0+0) (List.take (0+Int.toNat j) (List.map enc xs)))+List.length (List.drop 0 (List.take 1 [Sh.co Sh.str (List.getD (PV.cells (List.getD (PV.asXs (List.getD (List.drop 1 (PV.cells (enc y1))) 0 default)) (Int.toNat k) default)) 0 default)])))*16<=1099511627776)&&decide (0+List.length (List.drop (0+0) (List.take (0+Int.toNat j) (List.map enc xs)))+List.length (List.drop 0 (List.take 1 [Sh.co Sh.str (List.getD (PV.cells (List.getD (PV.asXs (List.getD (List.drop 1 (PV.cells (enc y1))) 0 default)) (Int.toNat k) default)) 0 default)]))<=1099511627776))=true∧((decide (0<=j)&&true&&decide (Int.toNat j<=n - 0)&&decide (0+(n - 0)<=n)&&List.length (List.map enc xs)==n)=true∧((List.length (List.map enc xs)==n)=true∧((List.length (([]:List PV)++List.drop (0+0) (List.take (0+Int.toNat j) (List.map enc xs))++List.drop 0 (List.take 1 [Sh.co Sh.str (List.getD (PV.cells (List.getD (PV.asXs (List.getD (List.drop 1 (PV.cells (enc y1))) 0 default)) (Int.toNat k) default)) 0 default)]))==0+List.length (List.drop (0+0) (List.take (0+Int.toNat j) (List.map enc xs)))+List.length (List.drop 0 (List.take 1 [Sh.co Sh.str (List.getD (PV.cells (List.getD (PV.asXs (List.getD (List.drop 1 (PV.cells (enc y1))) 0 default)) (Int.toNat k) default)) 0 default)]))&&0+List.length (List.drop (0+0) (List.take (0+Int.toNat j) (List.map enc xs)))+List.length (List.drop 0 (List.take 1 [Sh.co Sh.str (List.getD (PV.cells (List.getD (PV.asXs (List.getD (List.drop 1 (PV.cells (enc y1))) 0 default)) (Int.toNat k) default)) 0 default)]))==0+List.length (List.drop (0+0) (List.take (0+Int.toNat j) (List.map enc xs)))+List.length (List.drop 0 (List.take 1 [Sh.co Sh.str (List.getD (PV.cells (List.getD (PV.asXs (List.getD (List.drop 1 (PV.cells (enc y1))) 0 default)) (Int.toNat k) default)) 0 default)]))&&decide ((0+List.length (List.drop (0+0) (List.take (0+Int.toNat j) (List.map enc xs)))+List.length (List.drop 0 (List.take 1 [Sh.co Sh.str (List.getD (PV.cells (List.getD (PV.asXs (List.getD (List.drop 1 (PV.cells (enc y1))) 0 default)) (Int.toNat k) default)) 0 default)]))+List.length (List.drop (0+Int.toNat j) (List.take (0+(n - 0)) (List.map enc xs))))*16<=1099511627776)&&decide (0+List.length (List.drop (0+0) (List.take (0+Int.toNat j) (List.map enc xs)))+List.length (List.drop 0 (List.take 1 [Sh.co Sh.str (List.getD (PV.cells (List.getD (PV.asXs (List.getD (List.drop 1 (PV.cells (enc y1))) 0 default)) (Int.toNat k) default)) 0 default)]))+List.length (List.drop (0+Int.toNat j) (List.take (0+(n - 0)) (List.map enc xs)))<=1099511627776))=true∧(At Yw 0 (Zb Ya G) Z9 1 86 [(0,(.pv (.sl 2 false (List.map enc p)))),(3,(.row 0 (0+List.length (List.drop (0+0) (List.take (0+Int.toNat j) (List.map enc xs)))+List.length (List.drop 0 (List.take 1 [Sh.co Sh.str (List.getD (PV.cells (List.getD (PV.asXs (List.getD (List.drop 1 (PV.cells (enc y1))) 0 default)) (Int.toNat k) default)) 0 default)]))+List.length (List.drop (0+Int.toNat j) (List.take (0+(n - 0)) (List.map enc xs)))) 0 (0+List.length (List.drop (0+0) (List.take (0+Int.toNat j) (List.map enc xs)))+List.length (List.drop 0 (List.take 1 [Sh.co Sh.str (List.getD (PV.cells (List.getD (PV.asXs (List.getD (List.drop 1 (PV.cells (enc y1))) 0 default)) (Int.toNat k) default)) 0 default)]))+List.length (List.drop (0+Int.toNat j) (List.take (0+(n - 0)) (List.map enc xs)))))),(4,(.pv (.int .i64 i))),(5,(.pv (.int .i64 (IntKind.wrap IntKind.i64 (k+1)))))] [(.obj (.row false 9 1 (([]:List PV)++List.drop (0+0) (List.take (0+Int.toNat j) (List.map enc xs))++List.drop 0 (List.take 1 [Sh.co Sh.str (List.getD (PV.cells (List.getD (PV.asXs (List.getD (List.drop 1 (PV.cells (enc y1))) 0 default)) (Int.toNat k) default)) 0 default)])++List.drop (0+Int.toNat j) (List.take (0+(n - 0)) (List.map enc xs)))))])))))))))))else((decide (0<=j)&&decide (0+Int.toNat j<n)&&List.length (List.map enc xs)==n)=true∧((List.length (List.map enc xs)==n&&decide (0+Int.toNat j<List.length (List.map enc xs)))=true∧((decide (0+List.length [Sh.str]<=List.length (PV.cells (List.getD (List.map enc xs) (0+Int.toNat j) default)))&&Yx (PV.cells (List.getD (List.map enc xs) (0+Int.toNat j) default)) 0 [Sh.str])=true∧((decide (0<=i)&&decide (Int.toNat i<List.length (List.map enc p))&&Enc.sz Mono==2)=true∧(∃ y2:Mono,AV.pv (PV.rptr (PV.cells (List.getD (List.map enc p) (Int.toNat i) default)))=AV.pv (PV.rptr (PV.cells ((enc) y2)))∧((decide (0<=k)&&decide (Int.toNat k<List.length (PV.asXs (List.getD (List.drop 1 (PV.cells (enc y2))) 0 default)))&&1==1)=true∧((decide (0+List.length [Sh.str]<=List.length (PV.cells (List.getD (PV.asXs (List.getD (List.drop 1 (PV.cells (enc y2))) 0 default)) (Int.toNat k) default)))&&Yx (PV.cells (List.getD (PV.asXs (List.getD (List.drop 1 (PV.cells (enc y2))) 0 default)) (Int.toNat k) default)) 0 [Sh.str])=true∧(if (!PV.asStr (List.getD (PV.cells (List.getD (List.map enc xs) (0+Int.toNat j) default)) 0 default)==PV.asStr (List.getD (PV.cells (List.getD (PV.asXs (List.getD (List.drop 1 (PV.cells (enc y2))) 0 default)) (Int.toNat k) default)) 0 default))=true then(true&&decide (0<=j)&&decide (0<=Int.toNat j)&&decide (0+Int.toNat j<=n)&&List.length (List.map enc xs)==n)=true∧((List.length (List.map enc xs)==n)=true∧((List.length ([]:List PV)==0&&0==0&&decide ((0+List.length (List.drop (0+0) (List.take (0+Int.toNat j) (List.map enc xs))))*16<=1099511627776)&&decide (0+List.length (List.drop (0+0) (List.take (0+Int.toNat j) (List.map enc xs)))<=1099511627776))=true∧((decide (0<=i)&&decide (Int.toNat i<List.length (List.map enc p))&&Enc.sz Mono==2)=true∧(∃ y3:Mono,AV.pv (PV.rptr (PV.cells (List.getD (List.map enc p) (Int.toNat i) default)))=AV.pv (PV.rptr (PV.cells ((enc) y3)))∧((decide (0<=k)&&decide (Int.toNat k<List.length (PV.asXs (List.getD (List.drop 1 (PV.cells (enc y3))) 0 default)))&&1==1)=true∧((decide (0+List.length [Sh.str]<=List.length (PV.cells (List.getD (PV.asXs (List.getD (List.drop 1 (PV.cells (enc y3))) 0 default)) (Int.toNat k) default)))&&Yx (PV.cells (List.getD (PV.asXs (List.getD (List.drop 1 (PV.cells (enc y3))) 0 default)) (Int.toNat k) default)) 0 [Sh.str])=true∧((List.length (([]:List PV)++List.drop (0+0) (List.take (0+Int.toNat j) (List.map enc xs)))==0+List.length (List.drop (0+0) (List.take (0+Int.toNat j) (List.map enc xs)))&&0+List.length (List.drop (0+0) (List.take (0+Int.toNat j) (List.map enc xs)))==0+List.length (List.drop (0+0) (List.take (0+Int.toNat j) (List.map enc xs)))&&decide ((0+List.length (List.drop (0+0) (List.take (0+Int.toNat j) (List.map enc xs)))+List.length (List.drop 0 (List.take 1 [Sh.co Sh.str (List.getD (PV.cells (List.getD (PV.asXs (List.getD (List.drop 1 (PV.cells (enc y3))) 0 default)) (Int.toNat k) default)) 0 default)])))*16<=1099511627776)&&decide (0+List.length (List.drop (0+0) (List.take (0+Int.toNat j) (List.map enc xs)))+List.length (List.drop 0 (List.take 1 [Sh.co Sh.str (List.getD (PV.cells (List.getD (PV.asXs (List.getD (List.drop 1 (PV.cells (enc y3))) 0 default)) (Int.toNat k) default)) 0 default)]))<=1099511627776))=true∧((decide (0<=j)&&true&&decide (Int.toNat j<=n - 0)&&decide (0+(n - 0)<=n)&&List.length (List.map enc xs)==n)=true∧((List.length (List.map enc xs)==n)=true∧((List.length (([]:List PV)++List.drop (0+0) (List.take (0+Int.toNat j) (List.map enc xs))++List.drop 0 (List.take 1 [Sh.co Sh.str (List.getD (PV.cells (List.getD (PV.asXs (List.getD (List.drop 1 (PV.cells (enc y3))) 0 default)) (Int.toNat k) default)) 0 default)]))==0+List.length (List.drop (0+0) (List.take (0+Int.toNat j) (List.map enc xs)))+List.length (List.drop 0 (List.take 1 [Sh.co Sh.str (List.getD (PV.cells (List.getD (PV.asXs (List.getD (List.drop 1 (PV.cells (enc y3))) 0 default)) (Int.toNat k) default)) 0 default)]))&&0+List.length (List.drop (0+0) (List.take (0+Int.toNat j) (List.map enc xs)))+List.length (List.drop 0 (List.take 1 [Sh.co Sh.str (List.getD (PV.cells (List.getD (PV.asXs (List.getD (List.drop 1 (PV.cells (enc y3))) 0 default)) (Int.toNat k) default)) 0 default)]))==0+List.length (List.drop (0+0) (List.take (0+Int.toNat j) (List.map enc xs)))+List.length (List.drop 0 (List.take 1 [Sh.co Sh.str (List.getD (PV.cells (List.getD (PV.asXs (List.getD (List.drop 1 (PV.cells (enc y3))) 0 default)) (Int.toNat k) default)) 0 default)]))&&decide ((0+List.length (List.drop (0+0) (List.take (0+Int.toNat j) (List.map enc xs)))+List.length (List.drop 0 (List.take 1 [Sh.co Sh.str (List.getD (PV.cells (List.getD (PV.asXs (List.getD (List.drop 1 (PV.cells (enc y3))) 0 default)) (Int.toNat k) default)) 0 default)]))+List.length (List.drop (0+Int.toNat j) (List.take (0+(n - 0)) (List.map enc xs))))*16<=1099511627776)&&decide (0+List.length (List.drop (0+0) (List.take (0+Int.toNat j) (List.map enc xs)))+List.length (List.drop 0 (List.take 1 [Sh.co Sh.str (List.getD (PV.cells (List.getD (PV.asXs (List.getD (List.drop 1 (PV.cells (enc y3))) 0 default)) (Int.toNat k) default)) 0 default)]))+List.length (List.drop (0+Int.toNat j) (List.take (0+(n - 0)) (List.map enc xs)))<=1099511627776))=true∧(At Yw 0 (Zb Ya G) Z9 1 86 [(0,(.pv (.sl 2 false (List.map enc p)))),(3,(.row 0 (0+List.length (List.drop (0+0) (List.take (0+Int.toNat j) (List.map enc xs)))+List.length (List.drop 0 (List.take 1 [Sh.co Sh.str (List.getD (PV.cells (List.getD (PV.asXs (List.getD (List.drop 1 (PV.cells (enc y3))) 0 default)) (Int.toNat k) default)) 0 default)]))+List.length (List.drop (0+Int.toNat j) (List.take (0+(n - 0)) (List.map enc xs)))) 0 (0+List.length (List.drop (0+0) (List.take (0+Int.toNat j) (List.map enc xs)))+List.length (List.drop 0 (List.take 1 [Sh.co Sh.str (List.getD (PV.cells (List.getD (PV.asXs (List.getD (List.drop 1 (PV.cells (enc y3))) 0 default)) (Int.toNat k) default)) 0 default)]))+List.length (List.drop (0+Int.toNat j) (List.take (0+(n - 0)) (List.map enc xs)))))),(4,(.pv (.int .i64 i))),(5,(.pv (.int .i64 (IntKind.wrap IntKind.i64 (k+1)))))] [(.obj (.row false 9 1 (([]:List PV)++List.drop (0+0) (List.take (0+Int.toNat j) (List.map enc xs))++List.drop 0 (List.take 1 [Sh.co Sh.str (List.getD (PV.cells (List.getD (PV.asXs (List.getD (List.drop 1 (PV.cells (enc y3))) 0 default)) (Int.toNat k) default)) 0 default)])++List.drop (0+Int.toNat j) (List.take (0+(n - 0)) (List.map enc xs)))))])))))))))))else(At Yw 0 (Zb Ya G) Z9 1 86 [(0,(.pv (.sl 2 false (List.map enc p)))),(3,(.row 0 n 0 n)),(4,(.pv (.int .i64 i))),(5,(.pv (.int .i64 (IntKind.wrap IntKind.i64 (k+1)))))] [(.obj (.row false 9 1 (List.map enc xs)))])))))))))))))))))else(if (j==(↑(n - 0):Int))=true then(true&&decide (0<=j)&&decide (0<=Int.toNat j)&&decide (0+Int.toNat j<=n)&&List.length (List.map enc xs)==n)=true∧((List.length (List.map enc xs)==n)=true∧((List.length ([]:List PV)==0&&0==0&&decide ((0+List.length (List.drop (0+0) (List.take (0+Int.toNat j) (List.map enc xs))))*16<=1099511627776)&&decide (0+List.length (List.drop (0+0) (List.take (0+Int.toNat j) (List.map enc xs)))<=1099511627776))=true∧((decide (0<=i)&&decide (Int.toNat i<List.length (List.map enc p))&&Enc.sz Mono==2)=true∧(∃ y4:Mono,AV.pv (PV.rptr (PV.cells (List.getD (List.map enc p) (Int.toNat i) default)))=AV.pv (PV.rptr (PV.cells ((enc) y4)))∧((decide (0<=k)&&decide (Int.toNat k<List.length (PV.asXs (List.getD (List.drop 1 (PV.cells (enc y4))) 0 default)))&&1==1)=true∧((decide (0+List.length [Sh.str]<=List.length (PV.cells (List.getD (PV.asXs (List.getD (List.drop 1 (PV.cells (enc y4))) 0 default)) (Int.toNat k) default)))&&Yx (PV.cells (List.getD (PV.asXs (List.getD (List.drop 1 (PV.cells (enc y4))) 0 default)) (Int.toNat k) default)) 0 [Sh.str])=true∧((List.length (([]:List PV)++List.drop (0+0) (List.take (0+Int.toNat j) (List.map enc xs)))==0+List.length (List.drop (0+0) (List.take (0+Int.toNat j) (List.map enc xs)))&&0+List.length (List.drop (0+0) (List.take (0+Int.toNat j) (List.map enc xs)))==0+List.length (List.drop (0+0) (List.take (0+Int.toNat j) (List.map enc xs)))&&decide ((0+List.length (List.drop (0+0) (List.take (0+Int.toNat j) (List.map enc xs)))+List.length (List.drop 0 (List.take 1 [Sh.co Sh.str (List.getD (PV.cells (List.getD (PV.asXs (List.getD (List.drop 1 (PV.cells (enc y4))) 0 default)) (Int.toNat k) default)) 0 default)])))*16<=1099511627776)&&decide (0+List.length (List.drop (0+0) (List.take (0+Int.toNat j) (List.map enc xs)))+List.length (List.drop 0 (List.take 1 [Sh.co Sh.str (List.getD (PV.cells (List.getD (PV.asXs (List.getD (List.drop 1 (PV.cells (enc y4))) 0 default)) (Int.toNat k) default)) 0 default)]))<=1099511627776))=true∧((decide (0<=j)&&true&&decide (Int.toNat j<=n - 0)&&decide (0+(n - 0)<=n)&&List.length (List.map enc xs)==n)=true∧((List.length (List.map enc xs)==n)=true∧((List.length (([]:List PV)++List.drop (0+0) (List.take (0+Int.toNat j) (List.map enc xs))++List.drop 0 (List.take 1 [Sh.co Sh.str (List.getD (PV.cells (List.getD (PV.asXs (List.getD (List.drop 1 (PV.cells (enc y4))) 0 default)) (Int.toNat k) default)) 0 default)]))==0+List.length (List.drop (0+0) (List.take (0+Int.toNat j) (List.map enc xs)))+List.length (List.drop 0 (List.take 1 [Sh.co Sh.str (List.getD (PV.cells (List.getD (PV.asXs (List.getD (List.drop 1 (PV.cells (enc y4))) 0 default)) (Int.toNat k) default)) 0 default)]))&&0+List.length (List.drop (0+0) (List.take (0+Int.toNat j) (List.map enc xs)))+List.length (List.drop 0 (List.take 1 [Sh.co Sh.str (List.getD (PV.cells (List.getD (PV.asXs (List.getD (List.drop 1 (PV.cells (enc y4))) 0 default)) (Int.toNat k) default)) 0 default)]))==0+List.length (List.drop (0+0) (List.take (0+Int.toNat j) (List.map enc xs)))+List.length (List.drop 0 (List.take 1 [Sh.co Sh.str (List.getD (PV.cells (List.getD (PV.asXs (List.getD (List.drop 1 (PV.cells (enc y4))) 0 default)) (Int.toNat k) default)) 0 default)]))&&decide ((0+List.length (List.drop (0+0) (List.take (0+Int.toNat j) (List.map enc xs)))+List.length (List.drop 0 (List.take 1 [Sh.co Sh.str (List.getD (PV.cells (List.getD (PV.asXs (List.getD (List.drop 1 (PV.cells (enc y4))) 0 default)) (Int.toNat k) default)) 0 default)]))+List.length (List.drop (0+Int.toNat j) (List.take (0+(n - 0)) (List.map enc xs))))*16<=1099511627776)&&decide (0+List.length (List.drop (0+0) (List.take (0+Int.toNat j) (List.map enc xs)))+List.length (List.drop 0 (List.take 1 [Sh.co Sh.str (List.getD (PV.cells (List.getD (PV.asXs (List.getD (List.drop 1 (PV.cells (enc y4))) 0 default)) (Int.toNat k) default)) 0 default)]))+List.length (List.drop (0+Int.toNat j) (List.take (0+(n - 0)) (List.map enc xs)))<=1099511627776))=true∧(At Yw 0 (Zb Ya G) Z9 1 86 [(0,(.pv (.sl 2 false (List.map enc p)))),(3,(.row 0 (0+List.length (List.drop (0+0) (List.take (0+Int.toNat j) (List.map enc xs)))+List.length (List.drop 0 (List.take 1 [Sh.co Sh.str (List.getD (PV.cells (List.getD (PV.asXs (List.getD (List.drop 1 (PV.cells (enc y4))) 0 default)) (Int.toNat k) default)) 0 default)]))+List.length (List.drop (0+Int.toNat j) (List.take (0+(n - 0)) (List.map enc xs)))) 0 (0+List.length (List.drop (0+0) (List.take (0+Int.toNat j) (List.map enc xs)))+List.length (List.drop 0 (List.take 1 [Sh.co Sh.str (List.getD (PV.cells (List.getD (PV.asXs (List.getD (List.drop 1 (PV.cells (enc y4))) 0 default)) (Int.toNat k) default)) 0 default)]))+List.length (List.drop (0+Int.toNat j) (List.take (0+(n - 0)) (List.map enc xs)))))),(4,(.pv (.int .i64 i))),(5,(.pv (.int .i64 (IntKind.wrap IntKind.i64 (k+1)))))] [(.obj (.row false 9 1 (([]:List PV)++List.drop (0+0) (List.take (0+Int.toNat j) (List.map enc xs))++List.drop 0 (List.take 1 [Sh.co Sh.str (List.getD (PV.cells (List.getD (PV.asXs (List.getD (List.drop 1 (PV.cells (enc y4))) 0 default)) (Int.toNat k) default)) 0 default)])++List.drop (0+Int.toNat j) (List.take (0+(n - 0)) (List.map enc xs)))))])))))))))))else((decide (0<=j)&&decide (0+Int.toNat j<n)&&List.length (List.map enc xs)==n)=true∧((List.length (List.map enc xs)==n&&decide (0+Int.toNat j<List.length (List.map enc xs)))=true∧((decide (0+List.length [Sh.str]<=List.length (PV.cells (List.getD (List.map enc xs) (0+Int.toNat j) default)))&&Yx (PV.cells (List.getD (List.map enc xs) (0+Int.toNat j) default)) 0 [Sh.str])=true∧((decide (0<=i)&&decide (Int.toNat i<List.length (List.map enc p))&&Enc.sz Mono==2)=true∧(∃ y5:Mono,AV.pv (PV.rptr (PV.cells (List.getD (List.map enc p) (Int.toNat i) default)))=AV.pv (PV.rptr (PV.cells ((enc) y5)))∧((decide (0<=k)&&decide (Int.toNat k<List.length (PV.asXs (List.getD (List.drop 1 (PV.cells (enc y5))) 0 default)))&&1==1)=true∧((decide (0+List.length [Sh.str]<=List.length (PV.cells (List.getD (PV.asXs (List.getD (List.drop 1 (PV.cells (enc y5))) 0 default)) (Int.toNat k) default)))&&Yx (PV.cells (List.getD (PV.asXs (List.getD (List.drop 1 (PV.cells (enc y5))) 0 default)) (Int.toNat k) default)) 0 [Sh.str])=true∧(if (!PV.asStr (List.getD (PV.cells (List.getD (List.map enc xs) (0+Int.toNat j) default)) 0 default)==PV.asStr (List.getD (PV.cells (List.getD (PV.asXs (List.getD (List.drop 1 (PV.cells (enc y5))) 0 default)) (Int.toNat k) default)) 0 default))=true then(true&&decide (0<=j)&&decide (0<=Int.toNat j)&&decide (0+Int.toNat j<=n)&&List.length (List.map enc xs)==n)=true∧((List.length (List.map enc xs)==n)=true∧((List.length ([]:List PV)==0&&0==0&&decide ((0+List.length (List.drop (0+0) (List.take (0+Int.toNat j) (List.map enc xs))))*16<=1099511627776)&&decide (0+List.length (List.drop (0+0) (List.take (0+Int.toNat j) (List.map enc xs)))<=1099511627776))=true∧((decide (0<=i)&&decide (Int.toNat i<List.length (List.map enc p))&&Enc.sz Mono==2)=true∧(∃ y6:Mono,AV.pv (PV.rptr (PV.cells (List.getD (List.map enc p) (Int.toNat i) default)))=AV.pv (PV.rptr (PV.cells ((enc) y6)))∧((decide (0<=k)&&decide (Int.toNat k<List.length (PV.asXs (List.getD (List.drop 1 (PV.cells (enc y6))) 0 default)))&&1==1)=true∧((decide (0+List.length [Sh.str]<=List.length (PV.cells (List.getD (PV.asXs (List.getD (List.drop 1 (PV.cells (enc y6))) 0 default)) (Int.toNat k) default)))&&Yx (PV.cells (List.getD (PV.asXs (List.getD (List.drop 1 (PV.cells (enc y6))) 0 default)) (Int.toNat k) default)) 0 [Sh.str])=true∧((List.length (([]:List PV)++List.drop (0+0) (List.take (0+Int.toNat j) (List.map enc xs)))==0+List.length (List.drop (0+0) (List.take (0+Int.toNat j) (List.map enc xs)))&&0+List.length (List.drop (0+0) (List.take (0+Int.toNat j) (List.map enc xs)))==0+List.length (List.drop (0+0) (List.take (0+Int.toNat j) (List.map enc xs)))&&decide ((0+List.length (List.drop (0+0) (List.take (0+Int.toNat j) (List.map enc xs)))+List.length (List.drop 0 (List.take 1 [Sh.co Sh.str (List.getD (PV.cells (List.getD (PV.asXs (List.getD (List.drop 1 (PV.cells (enc y6))) 0 default)) (Int.toNat k) default)) 0 default)])))*16<=1099511627776)&&decide (0+List.length (List.drop (0+0) (List.take (0+Int.toNat j) (List.map enc xs)))+List.length (List.drop 0 (List.take 1 [Sh.co Sh.str (List.getD (PV.cells (List.getD (PV.asXs (List.getD (List.drop 1 (PV.cells (enc y6))) 0 default)) (Int.toNat k) default)) 0 default)]))<=1099511627776))=true∧((decide (0<=j)&&true&&decide (Int.toNat j<=n - 0)&&decide (0+(n - 0)<=n)&&List.length (List.map enc xs)==n)=true∧((List.length (List.map enc xs)==n)=true∧((List.length (([]:List PV)++List.drop (0+0) (List.take (0+Int.toNat j) (List.map enc xs))++List.drop 0 (List.take 1 [Sh.co Sh.str (List.getD (PV.cells (List.getD (PV.asXs (List.getD (List.drop 1 (PV.cells (enc y6))) 0 default)) (Int.toNat k) default)) 0 default)]))==0+List.length (List.drop (0+0) (List.take (0+Int.toNat j) (List.map enc xs)))+List.length (List.drop 0 (List.take 1 [Sh.co Sh.str (List.getD (PV.cells (List.getD (PV.asXs (List.getD (List.drop 1 (PV.cells (enc y6))) 0 default)) (Int.toNat k) default)) 0 default)]))&&0+List.length (List.drop (0+0) (List.take (0+Int.toNat j) (List.map enc xs)))+List.length (List.drop 0 (List.take 1 [Sh.co Sh.str (List.getD (PV.cells (List.getD (PV.asXs (List.getD (List.drop 1 (PV.cells (enc y6))) 0 default)) (Int.toNat k) default)) 0 default)]))==0+List.length (List.drop (0+0) (List.take (0+Int.toNat j) (List.map enc xs)))+List.length (List.drop 0 (List.take 1 [Sh.co Sh.str (List.getD (PV.cells (List.getD (PV.asXs (List.getD (List.drop 1 (PV.cells (enc y6))) 0 default)) (Int.toNat k) default)) 0 default)]))&&decide ((0+List.length (List.drop (0+0) (List.take (0+Int.toNat j) (List.map enc xs)))+List.length (List.drop 0 (List.take 1 [Sh.co Sh.str (List.getD (PV.cells (List.getD (PV.asXs (List.getD (List.drop 1 (PV.cells (enc y6))) 0 default)) (Int.toNat k) default)) 0 default)]))+List.length (List.drop (0+Int.toNat j) (List.take (0+(n - 0)) (List.map enc xs))))*16<=1099511627776)&&decide (0+List.length (List.drop (0+0) (List.take (0+Int.toNat j) (List.map enc xs)))+List.length (List.drop 0 (List.take 1 [Sh.co Sh.str (List.getD (PV.cells (List.getD (PV.asXs (List.getD (List.drop 1 (PV.cells (enc y6))) 0 default)) (Int.toNat k) default)) 0 default)]))+List.length (List.drop (0+Int.toNat j) (List.take (0+(n - 0)) (List.map enc xs)))<=1099511627776))=true∧(At Yw 0 (Zb Ya G) Z9 1 86 [(0,(.pv (.sl 2 false (List.map enc p)))),(3,(.row 0 (0+List.length (List.drop (0+0) (List.take (0+Int.toNat j) (List.map enc xs)))+List.length (List.drop 0 (List.take 1 [Sh.co Sh.str (List.getD (PV.cells (List.getD (PV.asXs (List.getD (List.drop 1 (PV.cells (enc y6))) 0 default)) (Int.toNat k) default)) 0 default)]))+List.length (List.drop (0+Int.toNat j) (List.take (0+(n - 0)) (List.map enc xs)))) 0 (0+List.length (List.drop (0+0) (List.take (0+Int.toNat j) (List.map enc xs)))+List.length (List.drop 0 (List.take 1 [Sh.co Sh.str (List.getD (PV.cells (List.getD (PV.asXs (List.getD (List.drop 1 (PV.cells (enc y6))) 0 default)) (Int.toNat k) default)) 0 default)]))+List.length (List.drop (0+Int.toNat j) (List.take (0+(n - 0)) (List.map enc xs)))))),(4,(.pv (.int .i64 i))),(5,(.pv (.int .i64 (IntKind.wrap IntKind.i64 (k+1)))))] [(.obj (.row false 9 1 (([]:List PV)++List.drop (0+0) (List.take (0+Int.toNat j) (List.map enc xs))++List.drop 0 (List.take 1 [Sh.co Sh.str (List.getD (PV.cells (List.getD (PV.asXs (List.getD (List.drop 1 (PV.cells (enc y6))) 0 default)) (Int.toNat k) default)) 0 default)])++List.drop (0+Int.toNat j) (List.take (0+(n - 0)) (List.map enc xs)))))])))))))))))else(At Yw 0 (Zb Ya G) Z9 1 86 [(0,(.pv (.sl 2 false (List.map enc p)))),(3,(.row 0 n 0 n)),(4,(.pv (.int .i64 i))),(5,(.pv (.int .i64 (IntKind.wrap IntKind.i64 (k+1)))))] [(.obj (.row false 9 1 (List.map enc xs)))]))))))))))):At Yw 0 (Zb Ya G) Z9 2 86 [(0,.pv (enc p)),(3,.row 0 n 0 n),(4,.pv (.int .i64 i)),(5,.pv (.int .i64 k)),(6,.pv (.int .i64 j))] [.obj (.row false 9 1 (xs.map enc))]:=At.tp (.lit (.ask (.lit (.lit (.req (.keep (.lit (.req (.req (.lit (.lit (.lit (.req (.abs (Mono) (fun YY=>AV.pv (PV.rptr (PV.cells ((enc) YY)))) (.lit (.lit (.lit (.lit (.lit (.req (.keep (.lit (.req (.lit (.lit (.lit (.ask (.lit (.nil)) (.lit (.ask (.lit (.lit (.lit (.lit (.lit (.lit (.lit (.lit (.lit (.lit (.lit (.lit (.lit (.lit (.lit (.req (.req (.req (.req (.abs (Mono) (fun YY=>AV.pv (PV.rptr (PV.cells ((enc) YY)))) (.lit (.req (.keep (.req (.lit (.lit (.req (.req (.req (.req (.lit (.nil)))))))))))))))))))))))))))))))) (.lit (.lit (.req (.keep (.lit (.req (.req (.lit (.lit (.lit (.req (.abs (Mono) (fun YY=>AV.pv (PV.rptr (PV.cells ((enc) YY)))) (.lit (.lit (.lit (.lit (.lit (.req (.keep (.lit (.req (.lit (.lit (.lit (.ask (.lit (.req (.req (.req (.req (.abs (Mono) (fun YY=>AV.pv (PV.rptr (PV.cells ((enc) YY)))) (.lit (.req (.keep (.req (.lit (.lit (.req (.req (.req (.req (.lit (.nil)))))))))))))))))) (.lit (.nil)))))))))))))))))))))))))))))))))))))))))))))))))))))) (.lit (.lit (.lit (.lit (.lit (.lit (.lit (.lit (.lit (.lit (.lit (.lit (.lit (.lit (.lit (.ask (.lit (.lit (.lit (.lit (.lit (.lit (.lit (.lit (.lit (.lit (.lit (.lit (.lit (.lit (.lit (.req (.req (.req (.req (.abs (Mono) (fun YY=>AV.pv (PV.rptr (PV.cells ((enc) YY)))) (.lit (.req (.keep (.req (.lit (.lit (.req (.req (.req (.req (.lit (.nil)))))))))))))))))))))))))))))))) (.lit (.lit (.req (.keep (.lit (.req (.req (.lit (.lit (.lit (.req (.abs (Mono) (fun YY=>AV.pv (PV.rptr (PV.cells ((enc) YY)))) (.lit (.lit (.lit (.lit (.lit (.req (.keep (.lit (.req (.lit (.lit (.lit (.ask (.lit (.req (.req (.req (.req (.abs (Mono) (fun YY=>AV.pv (PV.rptr (PV.cells ((enc) YY)))) (.lit (.req (.keep (.req (.lit (.lit (.req (.req (.req (.req (.lit (.nil)))))))))))))))))) (.lit (.nil))))))))))))))))))))))))))))))))))))))))))))) h (by kernel_rfl)
def JG:IC:=(Zh [Za 3 (.box 2 (.t 1)) 0,Za 4 (.mv (.c (.sl 0 true []))) 1] (Zh [Za 5 (.mv (.c (.sl 0 true []))) 0] (Zh [Za 10 (.faddr 0 (.t 3)) 0,Za 11 (Yl [(.int .i64)] (.t 10)) 0,Za 12 (ZA .eql (.t 11) (Zy 0)) 0,Za 6 (Zc 12) 0] (.seq (Zh [Za 7 (.mv (Zy 0)) 0] (.block 0 (.loop [7,0,3,6,5] (.seq (Zh [Za 13 (Zc 7) 0,Za 14 (Zc 0) 0,Za 15 (.len 1 (.t 14)) 0,Za 16 (ZA .lss (.t 13) (.t 15)) 0] (.cond (.t 16) .skip (.exit 0))) (.seq (.block 1 (.seq (.reg [Za 19 (Zc 0) 0,Za 20 (Zc 7) 0,Za 21 (.iaddr 2 (.t 19) (.t 20)) 0,Za 22 (.faddr 1 (.t 21)) 0,Za 23 (Yl [(.sl 1)] (.t 22)) 0,Za 24 (.faddr 1 (.t 3)) 0,Za 25 (Yl [(.sl 1)] (.t 24)) 0,Za 26 (YT 195 [(.t 23),(.t 25)]) 0,Za 8 (Zc 26) 2] (some [[],[],[0,1],[2,0,1],[3,2,0,1],[],[5],[4,6,3,2,0,1,5],[7,0,1,2,3,4,5,6]])) (.seq (Zh [Za 27 (Zc 6) 0,Za 28 (.un .not (.t 27)) 0,Za 29 (Zc 28) 0,Z6 30 (Zc 8) 0 29,Z6 31 (ZA .gtr (.t 30) (Zy 0)) 0 29,Za 32 (.pick (.t 29) (.t 31) (.c (.bool false))) 0] (.cond (.t 32) (Zh [Za 33 (Zc 5) 0,Za 34 (.load true [(.int .i64),(.sl 1)] (.t 3)) 0,Za 35 (.bslice 104 2 1 (.agg [(.int .i64 0),(.sl 0 true [])]) [(0,(.t 34))]) 0,Za 36 (.append 104 2 32 (.t 33) (.t 35)) 1,Za 5 (Zc 36) 2] (.reg [Za 6 (Xo true) 0] none)) .skip)) (Zh [Za 37 (Zc 0) 0,Za 38 (Zc 7) 0,Za 39 (.iaddr 2 (.t 37) (.t 38)) 0,Za 40 (.load true [(.int .i64),(.sl 1)] (.t 39)) 0,Za 9 (.alloc (.agg [(.int .i64 0),(.sl 0 true [])])) 0,Ui (.store 2 (.t 9) (.t 40)) 1] (.seq (Zh [Za 41 (Zc 6) 0,Za 42 (.un .not (.t 41)) 0,Za 43 (Zc 42) 0,Z6 44 (Zc 8) 0 43,Z6 45 (ZA .eql (.t 44) (Zy 0)) 0 43,Za 46 (.pick (.t 43) (.t 45) (.c (.bool false))) 0] (.cond (.t 46) (Zh [Za 47 (.faddr 0 (.t 9)) 0,Za 48 (Yl [(.int .i64)] (.t 47)) 0,Za 49 (.faddr 0 (.t 3)) 0,Za 50 (Yl [(.int .i64)] (.t 49)) 0,Za 51 (ZA .add (.t 48) (.t 50)) 0,Za 52 (.faddr 0 (.t 9)) 0,Ui (.store 1 (.t 52) (.t 51)) 0] (.reg [Za 6 (Xo true) 0] none)) .skip)) (Zh [Za 53 (.faddr 0 (.t 9)) 0,Za 54 (Yl [(.int .i64)] (.t 53)) 0,Za 55 (ZA .neq (.t 54) (Zy 0)) 0] (.cond (.t 55) (.reg [Za 56 (Zc 5) 0,Za 57 (.load true [(.int .i64),(.sl 1)] (.t 9)) 0,Za 58 (.bslice 104 2 1 (.agg [(.int .i64 0),(.sl 0 true [])]) [(0,(.t 57))]) 0,Za 59 (.append 104 2 32 (.t 56) (.t 58)) 1,Za 5 (Zc 59) 2] none) .skip))))))) (.reg [Za 17 (Zc 7) 0,Za 18 (ZA .add (.t 17) (Zy 1)) 0,Za 7 (Zc 18) 0] none)))))) (.seq (Zh [Za 60 (Zc 6) 0,Za 61 (.un .not (.t 60)) 0] (.cond (.t 61) (.reg [Za 62 (Zc 5) 0,Za 63 (.load true [(.int .i64),(.sl 1)] (.t 3)) 0,Za 64 (.bslice 104 2 1 (.agg [(.int .i64 0),(.sl 0 true [])]) [(0,(.t 63))]) 0,Za 65 (.append 104 2 32 (.t 62) (.t 64)) 1,Za 5 (Zc 65) 2] none) .skip)) (Zh [Za 66 (Zc 5) 0,Za 4 (Zc 66) 0] .ret))))))
def JO:List IRes:=[(.tmp 4)]
def Gp:ZO:=Xc [(195,.pure (preT (fun x:List Str×List Str×Unit=>Zr x.1&&Zr x.2.1)) (Zj (fun x:List Str×List Str×Unit=>Xz x.1 x.2.1)))]
end Go.Pl
namespace Go.Pl
open Go.RowKit
open Enc (enc dec is)
open EncL (encL decL isL)
theorem c5z{p:List Mono}(h:Xi p=true){m:Mono}(hm:m∈p):XX m.v=true:=by
 unfold Xi at h
 rw[Bool.and_eq_true]at h
 exact List.all_eq_true.1 h.2 m hm
theorem c0x{l:List Str}(h:XX l=true):l.length<=9223372036854775807:=by
 unfold XX at h
 rw[Bool.and_eq_true]at h
 exact ZF.1 h.1
theorem b6i{p:List Mono}(h:Xi p=true){m:Mono}(hm:m∈p):m.v.length<=9223372036854775807:=c0x (c5z h hm)
theorem c5a{i:Nat}(h:i<9223372036854775807):IntKind.i64.wrap (((i+1:Nat):Int) - 1)=(i:Int):=by rw[UI (by omega) (by omega)];omega
theorem Ox(a b:List Str)(ha:a.length<=9223372036854775807)(hb:b.length<=9223372036854775807): ∀ (d i:Nat),d+i=a.length->i<=b.length ->
  At U6 0 (Zb Ul (Zi (Xz (a.drop i) (b.drop i)))) V7 0 41 [(0,.pv (enc a)),(1,.pv (enc b)),(5,.pv (.int .i64 i))] []:=by
 have hw:IntKind.i64.wrap ((a.length:Int) - (b.length:Int))=(a.length:Int) - (b.length:Int):=UI (by omega) (by omega)
 intro d
 induction d with
 | zero=>
  intro i hi hib
  refine Dx a b i (ZR (Xq (by omega)) (VQ ?_))
  rw[List.length_map,List.length_map,hw,List.drop_of_length_le (show a.length<=i by omega),Xz,List.length_drop]
  omega
 | succ d ih=>
  intro i hi hib
  have hlt:i<a.length:=by omega
  rw[List.drop_eq_getElem_cons hlt]
  by_cases hlb:i<b.length
  ·have ih:=ih (i+1) (by omega) (by omega)
   rw[List.drop_eq_getElem_cons hlb,Xz]
   refine Dx a b i (ZN (Y3 hlt) (ZN (Y3 hlb) ⟨Zu hlt rfl,ZB hlt ⟨Zu hlb rfl,ZB hlb ?_⟩⟩))
   show if Op.bytesLess a[i].s b[i].s=true then _ else _
   rw[Yr]
   refine XQ (fun h=> ?_) fun h=>⟨Zu hlt rfl,ZB hlt ⟨Zu hlb rfl,ZB hlb ?_⟩⟩
   ·rw[if_pos h];exact VQ rfl
   ·rw[if_neg h]
    show if (!(Op.bytesLess a[i].s b[i].s||a[i].s==b[i].s))=true then _ else _
    rw[Yr,decide_eq_false h,Bool.false_or]
    refine XU (fun h2=> ?_) fun h2=> ?_
    ·have h2:a[i].s≠b[i].s:=by simpa using h2
     have h3:b[i].s<a[i].s:=Decidable.byContradiction fun h3=>h2 (by rw[b5z h h3])
     rw[if_pos h3];exact VQ rfl
    ·have h2:a[i].s=b[i].s:=by simpa using h2
     rw[if_neg (by rw[h2];exact List.lt_irrefl _),next (by omega)]
     exact ih
  ·refine Dx a b i (ZN (Y3 hlt) (ZR (Xq hlb) (VQ ?_)))
   rw[List.length_map,List.length_map,hw,List.drop_of_length_le (show b.length<=i by omega),Xz,List.length_cons,List.length_drop]
   omega
   intro h;cases h
theorem Eb: ∀ x:List Str×List Str×Unit,(Zr x.1&&Zr x.2.1)=true->Ze U6 0 (Zb Ul (Zi (Xz x.1 x.2.1))) V7 [] (Yk a7s (encL x)):=by
 rintro⟨a,b,⟨⟩⟩ h
 rw[Bool.and_eq_true]at h
 exact b9c a b (Ox a b (ZF.1 h.1) (ZF.1 h.2) a.length 0 rfl (by omega))
theorem a7y{l:List Str}{k:Nat}(h:k+1<l.length):Q4 (l.drop k)=(!decide (l[k+1].s<(l[k]'(by omega)).s)&&Q4 (l.drop (k+1))):=by
 rw[List.drop_eq_getElem_cons (show k<l.length by omega),List.drop_eq_getElem_cons h,Q4]
theorem a5t{l:List Mono}{k:Nat}(h:k+1<l.length):CR (l.drop k)=(decide (Xz (l[k]'(by omega)).v l[k+1].v<0)&&CR (l.drop (k+1))):=by
 rw[List.drop_eq_getElem_cons (show k<l.length by omega),List.drop_eq_getElem_cons h,CR]
theorem b7e{l:List Str}{k:Nat}(h:l.length<=k+1):Q4 (l.drop k)=true:=by
 by_cases hk:k<l.length
 ·rw[List.drop_eq_getElem_cons hk,List.drop_of_length_le h];rfl
 ·rw[List.drop_of_length_le (by omega)];rfl
theorem b0l{l:List Mono}{k:Nat}(h:l.length<=k+1):CR (l.drop k)=true:=by
 by_cases hk:k<l.length
 ·rw[List.drop_eq_getElem_cons hk,List.drop_of_length_le h];rfl
 ·rw[List.drop_of_length_le (by omega)];rfl
theorem c7z(p:List Mono)(m:Mono)(hm:m.v.length<=9223372036854775807)(i:Nat)(hi:i<9223372036854775807)(R:Bool)
  (hK:At UZ 0 (Zb Vj (Zi R)) VA 0 86 [(0,.pv (enc p)),(3,.pv (.int .i64 ((i+1:Nat):Int)))] []) : ∀ (d k:Nat),d+k=m.v.length ->
  At UZ 0 (Zb Vj (Zi ((m.v.drop k).all ZG&&Q4 (m.v.drop (k - 1))&&R))) VA 1 86 [(0,.pv (enc p)),(3,.pv (.int .i64 i)),(4,.ptr 0 0),(5,.pv (.int .i64 k))] [.obj (.box [.pv (.int .i64 m.c),.pv (enc m.v)])]:=by
 intro d
 induction d with
 | zero=>
  intro k hk
  rw[List.drop_of_length_le (show m.v.length<=k by omega),b7e (by omega)]
  refine b9f p m i k (ZR (Xq (by omega)) ?_)
  rw[next hi]
  exact hK
 | succ d ih=>
  intro k hk
  have hlt:k<m.v.length:=by omega
  have ih:=ih (k+1) (by omega)
  rw[show k+1 - 1=k from rfl]at ih
  have ed:(m.v.drop k).all ZG=(ZG m.v[k]&&(m.v.drop (k+1)).all ZG):=by rw[List.drop_eq_getElem_cons hlt,List.all_cons]
  refine b9f p m i k (ZN (Y3 hlt) ⟨Zu hlt rfl,ZB hlt (Zk (m.v[k],()) rfl ?_)⟩)
  rw[ed]
  refine XU (fun hn=> ?_) fun hn=> ?_
  ·have hn:ZG m.v[k]=false:=hn
   rw[hn];exact ZL rfl
  ·have hn:ZG m.v[k]=true:=hn
   rw[hn,Bool.true_and]
   refine XQ (fun h0=> ?_) fun h0=> ?_
   ·obtain⟨j,rfl⟩ : ∃ j,k=j+1:=⟨k - 1,by omega⟩
    have hj:j<m.v.length:=by omega
    rw[c5a (by omega),show j+1 - 1=j from rfl,a7y hlt]
    refine⟨Zu hj rfl,ZB hj ⟨Zu hlt rfl,ZB hlt ?_⟩⟩
    show if (!(Op.bytesLess m.v[j].s m.v[j+1].s||m.v[j].s==m.v[j+1].s))=true then _ else _
    rw[Yr]
    refine XU (fun h=> ?_) fun h=> ?_
    ·have h : ¬ m.v[j].s<m.v[j+1].s∧m.v[j].s≠m.v[j+1].s:=by simpa using h
     have h3:m.v[j+1].s<m.v[j].s:=Decidable.byContradiction fun h3=>h.2 (by rw[b5z h.1 h3])
     rw[decide_eq_true h3]
     refine ZL ?_
     simp
    ·have h:m.v[j].s<m.v[j+1].s∨m.v[j].s=m.v[j+1].s:=by simpa using h
     have h3 : ¬ m.v[j+1].s<m.v[j].s:=by
      rcases h with h|h
      ·exact fun h'=>List.lt_irrefl _ (List.lt_trans h h')
      ·rw[h];exact List.lt_irrefl _
     rw[decide_eq_false h3,Bool.not_false,Bool.true_and,next (by omega)]
     exact ih
   ·have:k=0:=by omega
    subst this
    rw[next (by omega)]
    exact ih
theorem b5p(p:List Mono)(hp:p.length<=60)(hv : ∀ m∈p,m.v.length<=9223372036854775807): ∀ (d i:Nat),d+i=p.length ->
  At UZ 0 (Zb Vj (Zi ((p.drop i).all Y0&&CR (p.drop (i - 1))))) VA 0 86 [(0,.pv (enc p)),(3,.pv (.int .i64 i))] []:=by
 intro d
 induction d with
 | zero=>
  intro i hi
  rw[List.drop_of_length_le (show p.length<=i by omega),b0l (by omega)]
  exact b5r p i (ZR (Xq (by omega)) (ZL rfl))
 | succ d ih=>
  intro i hi
  have hlt:i<p.length:=by omega
  have ih:=ih (i+1) (by omega)
  rw[show i+1 - 1=i from rfl]at ih
  have hm:=hv _ (List.getElem_mem hlt)
  have ed:(p.drop i).all Y0=(Y0 p[i]&&(p.drop (i+1)).all Y0):=by rw[List.drop_eq_getElem_cons hlt,List.all_cons]
  rw[ed]
  refine b5r p i (ZN (Y3 hlt) ⟨Zu hlt rfl,ZB hlt ?_⟩)
  generalize hmi:p[i]=m at hm ih ⊢
  have bad:Y0 m=false->Zi (Y0 m&&(p.drop (i+1)).all Y0&&CR (p.drop (i - 1))) (.bool false):=fun h=>by rw[h];exact ZL rfl
  refine Kb (fun h=>bad ?_) fun h1=>XQ (fun h=>bad ?_) fun h2=>XQ (fun h=>bad ?_) fun h3=>XQ (fun h=>bad ?_) fun h4=> ?_
  ·have h:m.c=0:=h
   unfold Y0;rw[decide_eq_false (by simpa using h)];rfl
  ·have h:m.c < -1099511627776:=h
   unfold Y0;rw[decide_eq_false (p:= -1099511627776<=m.c) (by omega),Bool.and_false];rfl
  ·have h:m.c>1099511627776:=h
   unfold Y0;rw[decide_eq_false (p:=m.c<=1099511627776) (by omega),Bool.and_false];rfl
  ·have h:((m.v.map (enc:Str->PV)).length:Int)>8:=h
   rw[List.length_map]at h
   unfold Y0;rw[decide_eq_false (p:=m.v.length<=8) (by omega),Bool.and_false];rfl
  ·have h1:m.c≠0:=h1
   have h2 : ¬ m.c < -1099511627776:=h2
   have h3 : ¬ m.c>1099511627776:=h3
   have h4 : ¬ ((m.v.map (enc:Str->PV)).length:Int)>8:=h4
   rw[List.length_map]at h4
   have em:Y0 m=((m.v.drop 0).all ZG&&Q4 (m.v.drop (0 - 1))):=by
    unfold Y0
    rw[decide_eq_true h1,decide_eq_true (p:= -1099511627776<=m.c) (by omega),decide_eq_true (p:=m.c<=1099511627776) (by omega),decide_eq_true (p:=m.v.length<=8) (by omega),List.drop_zero];simp only[Bool.true_and];exact Bool.and_comm _ _
   have inner:=fun R hK=>c7z p m hm i (by omega) R hK m.v.length 0 rfl
   refine XQ (fun h0=> ?_) fun h0=> ?_
   ·obtain⟨j,rfl⟩ : ∃ j,i=j+1:=⟨i - 1,by omega⟩
    have hj:j<p.length:=by omega
    have hvj:=hv _ (List.getElem_mem hj)
    rw[c5a (by omega),show j+1 - 1=j from rfl,a5t hlt,hmi]
    refine⟨Zu hj rfl,ZB hj ⟨Zl (p[j].v,m.v,()) rfl (by show(Zr p[j].v&&Zr m.v)=true;rw[ZF.2 hvj,ZF.2 hm];rfl),Zk (p[j].v,m.v,()) rfl ?_⟩⟩
    show if decide (Xz p[j].v m.v ≥ 0)=true then _ else _
    refine XQ (fun h=> ?_) fun h=> ?_
    ·rw[decide_eq_false (p:=Xz p[j].v m.v<0) (by omega),Bool.false_and,Bool.and_false]
     exact ZL rfl
    ·rw[decide_eq_true (p:=Xz p[j].v m.v<0) (by omega),Bool.true_and,em,Bool.and_assoc]
     exact inner _ ih
   ·have:i=0:=by omega
    subst this
    rw[em,Bool.and_assoc]
    exact inner _ ih
theorem b9t: ∀ x:List Mono×Unit,Xi x.1=true->Ze UZ 0 (Zb Vj (Zi (ZJ x.1))) VA [] (Yk d0a (encL x)):=by
 rintro⟨p,⟨⟩⟩ h
 refine d1j p ?_
 rw[List.length_map]
 show if decide ((p.length:Int)>60)=true then _ else At UZ 0 (Zb Vj (Zi (ZJ p))) _ _ _ _ _
 unfold ZJ
 refine XQ (fun h1=> ?_) fun h1=> ?_
 ·rw[decide_eq_false (p:=p.length<=60) (by omega)];exact ZL rfl
 ·rw[decide_eq_true (p:=p.length<=60) (by omega),Bool.true_and]
  exact b5p p (by omega) (fun m hm=>b6i h hm) p.length 0 rfl
def b9q(p:List Mono)(m:Mono)(put:Bool)(i:Nat)(xs:List Mono):Prop:= ∀ R:List Mono,R=xs++GU m put (p.drop i) ->
 match xs with
 | []=>At Gp 0 (Zb JO (Zi R)) JG 0 67 [(0,.pv (enc p)),(3,.ptr 0 0),(5,.pv (.sl 0 true [])),(6,.pv (.bool put)),(7,.pv (.int .i64 i))] [.obj (.box [.pv (.int .i64 m.c),.pv (enc m.v)])]
 | x::r=>At Gp 0 (Zb JO (Zi R)) JG 0 67 [(0,.pv (enc p)),(3,.ptr 0 0),(5,.row 1 (r.length+1) 0 (r.length+1)),(6,.pv (.bool put)),(7,.pv (.int .i64 i))] [.obj (.box [.pv (.int .i64 m.c),.pv (enc m.v)]),.obj (.row false 104 2 ((x::r).map enc))]
theorem b9q.row{p:List Mono}{m:Mono}{put:Bool}{i n:Nat}{ys:List Mono}{R:List Mono}{qs:List PV}(h:b9q p m put i ys)(h0:ys≠[])(hR:R=ys++GU m put (p.drop i))(hn:n=ys.length)(hy:qs=ys.map enc):
  At Gp 0 (Zb JO (Zi R)) JG 0 67 [(0,.pv (enc p)),(3,.ptr 0 0),(5,.row 1 n 0 n),(6,.pv (.bool put)),(7,.pv (.int .i64 i))] [.obj (.box [.pv (.int .i64 m.c),.pv (enc m.v)]),.obj (.row false 104 2 qs)]:=by
 subst hn hy
 cases ys with
 | nil=>exact absurd rfl h0
 | cons x r=>exact h R hR
theorem b9q.nil{p:List Mono}{m:Mono}{put:Bool}{i:Nat}{R:List Mono}(h:b9q p m put i [])(hR:R=GU m put (p.drop i)):
  At Gp 0 (Zb JO (Zi R)) JG 0 67 [(0,.pv (enc p)),(3,.ptr 0 0),(5,.pv (.sl 0 true [])),(6,.pv (.bool put)),(7,.pv (.int .i64 i))] [.obj (.box [.pv (.int .i64 m.c),.pv (enc m.v)])]:=h R hR
theorem ixS{m:Mono}{k:Nat}(h:k<m.v.length):(decide (0<=(k:Int))&&decide (Int.toNat (k:Int)<List.length (PV.asXs (List.getD (List.drop 1 (PV.cells (enc m))) 0 default)))&&1==1)=true:=by
 show(decide (0<=(k:Int))&&decide (Int.toNat (k:Int)<List.length (m.v.map (enc:Str->PV)))&&1==1)=true
 simp[h]
theorem b6o{m:Mono}{k:Nat}(h:k<m.v.length):(decide (0+List.length [Sh.str]<=List.length (PV.cells (List.getD (PV.asXs (List.getD (List.drop 1 (PV.cells (enc m))) 0 default)) (Int.toNat (k:Int)) default)))&&Yx (PV.cells (List.getD (PV.asXs (List.getD (List.drop 1 (PV.cells (enc m))) 0 default)) (Int.toNat (k:Int)) default)) 0 [Sh.str])=true:=by
 show(decide (0+List.length [Sh.str]<=List.length (PV.cells (List.getD (m.v.map (enc:Str->PV)) (Int.toNat (k:Int)) default)))&&Yx (PV.cells (List.getD (m.v.map (enc:Str->PV)) (Int.toNat (k:Int)) default)) 0 [Sh.str])=true
 rw[Jk enc h];rfl
theorem c6q{m:Mono}{k:Nat}(h:k<m.v.length):PV.asStr (List.getD (PV.cells (List.getD (PV.asXs (List.getD (List.drop 1 (PV.cells (enc m))) 0 default)) (Int.toNat (k:Int)) default)) 0 default)=m.v[k].s:=by
 show PV.asStr (List.getD (PV.cells (List.getD (m.v.map (enc:Str->PV)) (Int.toNat (k:Int)) default)) 0 default)=m.v[k].s
 rw[Jk enc h];rfl
theorem coS{m:Mono}{k:Nat}(h:k<m.v.length):Sh.co Sh.str (List.getD (PV.cells (List.getD (PV.asXs (List.getD (List.drop 1 (PV.cells (enc m))) 0 default)) (Int.toNat (k:Int)) default)) 0 default)=enc m.v[k]:=by
 show Sh.co Sh.str (List.getD (PV.cells (List.getD (m.v.map (enc:Str->PV)) (Int.toNat (k:Int)) default)) 0 default)=enc m.v[k]
 rw[Jk enc h];rfl
theorem d1b(xs:List Str)(j:Nat)(v:Str):([]:List PV)++List.drop (0+0) (List.take (0+Int.toNat (j:Int)) (List.map enc xs))++List.drop 0 (List.take 1 [enc v])++List.drop (0+Int.toNat (j:Int)) (List.take (0+(xs.length - 0)) (List.map enc xs))=(xs.take j++v::xs.drop j).map enc:=by
 have:List.take (0+(xs.length - 0)) (List.map (enc:Str->PV) xs)=List.map enc xs:=List.take_of_length_le (by simp)
 rw[this]
 simp[List.map_take,List.map_drop]
theorem c0t{m:Mono}:(List.length (PV.asXs (List.getD (List.drop 1 (PV.cells (enc m))) 0 default)):Nat)=m.v.length:=by
 show(m.v.map (enc:Str->PV)).length=_
 rw[List.length_map]
def va1(p:List Mono)(R:List Str)(i k:Nat):List Str->Prop
 | []=>At Yw 0 (Zb Ya (Zi R)) Z9 1 86 [(0,.pv (enc p)),(3,.pv (.sl 0 true [])),(4,.pv (.int .i64 i)),(5,.pv (.int .i64 k))] []
 | x::r=>At Yw 0 (Zb Ya (Zi R)) Z9 1 86 [(0,.pv (enc p)),(3,.row 0 (r.length+1) 0 (r.length+1)),(4,.pv (.int .i64 i)),(5,.pv (.int .i64 k))] [.obj (.row false 9 1 ((x::r).map enc))]
theorem Ng{p:List Mono}{R:List Str}{i k n:Nat}{ys:List Str}{qs:List PV}(h:va1 p R i k ys)(h0:ys≠[])(hn:n=ys.length)(hy:qs=ys.map enc):
  At Yw 0 (Zb Ya (Zi R)) Z9 1 86 [(0,.pv (enc p)),(3,.row 0 n 0 n),(4,.pv (.int .i64 i)),(5,.pv (.int .i64 k))] [.obj (.row false 9 1 qs)]:=by
 subst hn hy
 cases ys with
 | nil=>exact absurd rfl h0
 | cons x r=>exact h
theorem d0u(p:List Mono)(R:List Str)(i k:Nat)(hi:i<p.length)(hk:k<p[i].v.length)(hk2:k<9223372036854775807)(xs:List Str)(hx:xs≠[])(hl:xs.length<=1000000)(hK:va1 p R i (k+1) (Vt xs p[i].v[k])): ∀ (d j:Nat),d+j=xs.length->xs.take j++Vt (xs.drop j) p[i].v[k]=Vt xs p[i].v[k] ->
  At Yw 0 (Zb Ya (Zi R)) Z9 2 86 [(0,.pv (enc p)),(3,.row 0 xs.length 0 xs.length),(4,.pv (.int .i64 i)),(5,.pv (.int .i64 k)),(6,.pv (.int .i64 j))] [.obj (.row false 9 1 (xs.map enc))]:=by
 have leaf : ∀ (j:Nat),j<=xs.length->Vt xs p[i].v[k]=xs.take j++p[i].v[k]::xs.drop j-> ∀ (n:Nat) (qs:List PV),n=xs.length+1->qs=(xs.take j++p[i].v[k]::xs.drop j).map enc->At Yw 0 (Zb Ya (Zi R)) Z9 1 86 [(0,.pv (enc p)),(3,.row 0 n 0 n),(4,.pv (.int .i64 i)),(5,.pv (.int .i64 ((k+1:Nat):Int)))] [.obj (.row false 9 1 qs)]:=by
  intro j hj hp n qs hn hq
  rw[hp]at hK
  refine Ng hK (by simp) ?_ hq
  rw[hn];simp;omega
 intro d
 induction d with
 | zero=>
  intro j hj hR
  have hjl:j=xs.length:=by omega
  refine FJ p i k j xs.length xs (ZR (by simp;omega) (ZN (by simp;omega) ⟨by simp;omega,by simp,by simp;omega,Zu hi rfl,ZB hi ⟨ixS hk,b6o hk,by simp;omega,by simp;omega,by simp,by simp;omega,?_⟩⟩))
  rw[List.drop_of_length_le (show xs.length<=j by omega),Vt]at hR
  rw[next hk2,coS hk]
  refine leaf j (by omega) ?_ _ _ (by simp;omega) ?_
  ·rw[List.drop_of_length_le (show xs.length<=j by omega)];exact hR.symm
  ·exact d1b xs j _
 | succ d ih=>
  intro j hj hR
  have hlt:j<xs.length:=by omega
  have hd:xs.drop j=xs[j]::xs.drop (j+1):=List.drop_eq_getElem_cons hlt
  rw[hd,Vt]at hR
  refine FJ p i k j xs.length xs (ZN (by simp;omega) ⟨by simp;omega,by simp;omega,by rw[Ni enc hlt];rfl,Zu hi rfl,ZB hi ⟨ixS hk,b6o hk,?_⟩⟩)
  rw[Ni enc hlt,c6q hk]
  show if Op.bytesLess xs[j].s p[i].v[k].s=true then _ else _
  rw[Yr]
  refine XQ (fun h=> ?_) fun h=>ZR (by simp;omega) ⟨by simp;omega,by simp;omega,rfl,Zu hi rfl,ZB hi ⟨ixS hk,b6o hk,?_⟩⟩
  ·rw[if_pos h]at hR
   rw[next (by omega)]
   refine ih (j+1) (by omega) ?_
   rw[List.take_succ_eq_append_getElem hlt,List.append_assoc]
   exact hR
  ·rw[if_neg h]at hR
   rw[c6q hk]
   show if (!(xs[j].s==p[i].v[k].s))=true then _ else _
   refine XU (fun he=> ?_) fun he=> ?_
   ·have he:xs[j]≠p[i].v[k]:=fun e=>by rw[e]at he;simp at he
    rw[if_neg he]at hR
    refine⟨by simp;omega,by simp,by simp;omega,Zu hi rfl,ZB hi ⟨ixS hk,b6o hk,by simp;omega,by simp;omega,by simp,by simp;omega,?_⟩⟩
    rw[next hk2,coS hk]
    refine leaf j (by omega) ?_ _ _ (by simp;omega) ?_
    ·rw[hd];exact hR.symm
    ·exact d1b xs j _
   ·have he:xs[j].s=p[i].v[k].s:=by simpa using he
    have he:xs[j]=p[i].v[k]:=by
     generalize xs[j]=a at he ⊢
     generalize p[i].v[k]=b at he ⊢
     cases a;cases b;cases he;rfl
    rw[if_pos he,<- hd,List.take_append_drop]at hR
    rw[next hk2]
    rw[<- hR]at hK
    exact Ng hK hx rfl rfl
theorem b9n(p:List Mono)(R:List Str)(i:Nat)(hi:i<p.length)(h8:p[i].v.length<=8)(hil:p.length<=60)(hK : ∀ ys:List Str,ys.length<=8*(i+1)->R=(((p.drop (i+1)).flatMap (·.v)).foldl Vt ys) ->
  match ys with
  | []=>At Yw 0 (Zb Ya (Zi R)) Z9 0 86 [(0,.pv (enc p)),(3,.pv (.sl 0 true [])),(4,.pv (.int .i64 ((i+1:Nat):Int)))] []
  | x::r=>At Yw 0 (Zb Ya (Zi R)) Z9 0 86 [(0,.pv (enc p)),(3,.row 0 (r.length+1) 0 (r.length+1)),(4,.pv (.int .i64 ((i+1:Nat):Int)))] [.obj (.row false 9 1 ((x::r).map enc))]) :
  ∀ (d k:Nat) (xs:List Str),d+k=p[i].v.length->xs.length<=8*i+k->R=(p[i].v.drop k++(p.drop (i+1)).flatMap (·.v)).foldl Vt xs->va1 p R i k xs:=by
 intro d
 induction d with
 | zero=>
  intro k xs hk hx hR
  rw[List.drop_of_length_le (show p[i].v.length<=k by omega),List.nil_append]at hR
  have hK:=hK xs (by omega) hR
  cases xs with
  | nil=>
   refine Oc p i k ⟨Zu hi rfl,ZB hi (ZR (by rw[c0t];simp;omega) ?_)⟩
   rw[next (by omega)];exact hK
  | cons x r=>
   refine Fp p i k (r.length+1) (x::r) ⟨Zu hi rfl,ZB hi (ZR (by rw[c0t];simp;omega) ?_)⟩
   rw[next (by omega)];exact hK
 | succ d ih=>
  intro k xs hk hx hR
  have hlt:k<p[i].v.length:=by omega
  have hpl:=AZ p[i].v[k] xs
  rw[List.drop_eq_getElem_cons hlt,List.cons_append,List.foldl_cons]at hR
  have ih:=ih (k+1) (Vt xs p[i].v[k]) (by omega) (by omega) hR
  cases xs with
  | nil=>
   refine Oc p i k ⟨Zu hi rfl,ZB hi (ZN (by rw[c0t];simp;omega) ?_)⟩
   refine b6m p i k ⟨Zu hi rfl,ZB hi ⟨ixS hlt,b6o hlt,?_⟩⟩
   rw[next (by omega),c6q hlt]
   exact Ng ih (by simp[Vt]) rfl rfl
  | cons x r=>
   refine Fp p i k (r.length+1) (x::r) ⟨Zu hi rfl,ZB hi (ZN (by rw[c0t];simp;omega) ?_)⟩
   rw[List.length_cons]at hx
   exact d0u p R i k hi hlt (by omega) (x::r) (by simp) (by simp;omega) ih (x::r).length 0 rfl rfl
theorem c1w(p:List Mono)(R:List Str)(h8 : ∀ m∈p,m.v.length<=8)(hil:p.length<=60): ∀ (d i:Nat) (ys:List Str),d+i=p.length->ys.length<=8*i->R=((p.drop i).flatMap (·.v)).foldl Vt ys ->
  match ys with
  | []=>At Yw 0 (Zb Ya (Zi R)) Z9 0 86 [(0,.pv (enc p)),(3,.pv (.sl 0 true [])),(4,.pv (.int .i64 i))] []
  | x::r=>At Yw 0 (Zb Ya (Zi R)) Z9 0 86 [(0,.pv (enc p)),(3,.row 0 (r.length+1) 0 (r.length+1)),(4,.pv (.int .i64 i))] [.obj (.row false 9 1 ((x::r).map enc))]:=by
 intro d
 induction d with
 | zero=>
  intro i ys hi hy hR
  rw[List.drop_of_length_le (show p.length<=i by omega)]at hR
  have hR:R=ys:=hR
  cases ys with
  | nil=>
   rw[hR]
   exact F6 p i (ZR (Xq (by omega)) ⟨rfl,rfl⟩)
  | cons x r=>
   refine MO p i (r.length+1) (x::r) (ZR (Xq (by omega)) ⟨by simp,?_⟩)
   rw[List.drop_zero,List.take_of_length_le (by simp),hR]
   exact Z0 (x:=x::r) rfl
 | succ d ih=>
  intro i ys hi hy hR
  have hlt:i<p.length:=by omega
  rw[List.drop_eq_getElem_cons hlt,List.flatMap_cons]at hR
  have h:=b9n p R i hlt (h8 _ (List.getElem_mem hlt)) hil (fun ys h1 h2=>ih (i+1) ys (by omega) h1 h2) p[i].v.length 0 ys rfl (by omega) hR
  cases ys with
  | nil=>exact F6 p i (ZN (Y3 hlt) h)
  | cons x r=>exact MO p i (r.length+1) (x::r) (ZN (Y3 hlt) h)
theorem b5m: ∀ x:List Mono×Unit,Xi x.1=true->Ze Yw 0 (Zb Ya (Zi (XV x.1))) Z9 [] (Yk c2t (encL x)):=by
 rintro⟨p,⟨⟩⟩ h
 refine c9y p ⟨Zl (p,()) rfl h,Zk (p,()) rfl ?_⟩
 show if (!(ZJ p))=true then Zi (XV p) _ else _
 refine XU (fun hv=> ?_) fun hv=> ?_
 ·unfold XV;rw[if_neg (by rw[hv];simp)]
  exact⟨rfl,rfl⟩
 ·obtain⟨h1,h2⟩:=Fx hv
  exact c1w p (XV p) h2 h1 p.length 0 [] rfl (by simp) (by unfold XV;rw[if_pos hv];rfl)
end Go.Pl
namespace Go.Pl
open Go.RowKit
open Enc (enc dec is)
open EncL (encL decL isL)
set_option maxRecDepth 100000
def KD:IC:=(Zh [Za 4 (Xo false) 0] (.seq (Zh [Za 6 (Zc 0) 0,Za 7 (.len 1 (.t 6)) 0,Za 8 (Zc 1) 0,Za 9 (.len 1 (.t 8)) 0,Za 10 (ZA .neq (.t 7) (.t 9)) 0] (.cond (.t 10) (Zh [Za 4 (Xo false) 0] .ret) .skip)) (.seq (Zh [Za 11 (Zc 0) 0,Za 12 (.len 1 (.t 11)) 0,Za 13 (.mv (Zy 0)) 0] (.block 0 (.loop [13,12,0,1] (Zh [Za 14 (ZA .lss (.t 13) (.t 12)) 0] (.seq (.cond (.t 14) .skip (.exit 0)) (.seq (.block 1 (Zh [Za 15 (Zc 13) 0,Za 5 (Zc 15) 0] (.seq (.reg [Za 16 (Zc 0) 0,Za 17 (Zc 5) 0,Za 18 (.iaddr 1 (.t 16) (.t 17)) 0,Za 19 (Yl [(.int .i64)] (.t 18)) 0,Za 20 (Zc 1) 0,Za 21 (Zc 5) 0,Za 22 (.iaddr 1 (.t 20) (.t 21)) 0,Za 23 (Yl [(.int .i64)] (.t 22)) 0,Za 24 (ZA .neq (.t 19) (.t 23)) 0] (some [[],[],[0,1],[2,0,1],[],[],[4,5],[6,4,5],[3,7,2,0,1,6,4,5]])) (.cond (.t 24) (Zh [Za 4 (Xo false) 0] .ret) .skip)))) (.reg [Za 25 (ZA .add (.t 13) (Zy 1)) 0,Za 13 (Zc 25) 0] none))))))) (Zh [Za 4 (Xo true) 0] .ret))))
def Km:List IRes:=[(.tmp 4)]
abbrev c1m:Nat:=26
def Ht:ZO:=Xc []
theorem c8u{G:PV->Prop}(a b:List Int)(h:if ((↑(List.length (List.map enc a)):Int) != (↑(List.length (List.map enc b)):Int))=true then G ((.bool false))else(At Ht 0 (Zb Km G) KD 0 26 [(0,(.pv (.sl 1 false (List.map enc a)))),(1,(.pv (.sl 1 false (List.map enc b)))),(12,(.pv (.int .i64 (↑(List.length (List.map enc a)):Int)))),(13,(.pv (.int .i64 0)))] [])):Ze Ht 0 (Zb Km G) KD [] (Yk 26 [enc a,enc b]):=Ze.tp (.lit (.ask (.nil) (.nil))) h (by kernel_rfl)
theorem a3x{G:PV->Prop}(a b:List Int)(i:Int)(h:if (decide (i<(↑(List.length a):Int)))=true then(decide (0<=i)&&decide (Int.toNat i<List.length (List.map enc a))&&Enc.sz Int==1)=true∧(∃ y0:Int,AV.pv (PV.rptr (PV.cells (List.getD (List.map enc a) (Int.toNat i) default)))=AV.pv (PV.rptr (PV.cells ((enc) y0)))∧((decide (0<=i)&&decide (Int.toNat i<List.length (List.map enc b))&&Enc.sz Int==1)=true∧(∃ y1:Int,AV.pv (PV.rptr (PV.cells (List.getD (List.map enc b) (Int.toNat i) default)))=AV.pv (PV.rptr (PV.cells ((enc) y1)))∧(if (PV.asInt (List.getD (PV.cells (enc y0)) 0 default) != PV.asInt (List.getD (PV.cells (enc y1)) 0 default))=true then G ((.bool false))else(At Ht 0 (Zb Km G) KD 0 26 [(0,(.pv (.sl 1 false (List.map enc a)))),(1,(.pv (.sl 1 false (List.map enc b)))),(12,(.pv (.int .i64 (↑(List.length a):Int)))),(13,(.pv (.int .i64 (IntKind.wrap IntKind.i64 (i+1)))))] [])))))else(G ((.bool true)))):At Ht 0 (Zb Km G) KD 0 26 [(0,.pv (enc a)),(1,.pv (enc b)),(12,.pv (.int .i64 a.length)),(13,.pv (.int .i64 i))] []:=At.tp (.lit (.ask (.req (.abs (Int) (fun YY=>AV.pv (PV.rptr (PV.cells ((enc) YY)))) (.lit (.req (.abs (Int) (fun YY=>AV.pv (PV.rptr (PV.cells ((enc) YY)))) (.lit (.lit (.ask (.nil) (.lit (.nil)))))))))) (.nil))) h (by kernel_rfl)
def Qo:IC:=(Zh [Za 6 (Xo false) 0] (.seq (Zh [Za 10 (Zc 0) 0,Za 11 (.len 1 (.t 10)) 0,Za 12 (Zc 1) 0,Za 13 (.len 1 (.t 12)) 0,Za 14 (ZA .neq (.t 11) (.t 13)) 0] (.cond (.t 14) (Zh [Za 6 (Xo false) 0] .ret) .skip)) (.seq (Zh [Za 15 (Zc 0) 0,Za 16 (.len 1 (.t 15)) 0,Za 17 (.mv (Zy 0)) 0] (.block 0 (.loop [17,16,15,1,2] (Zh [Za 18 (ZA .lss (.t 17) (.t 16)) 0] (.seq (.cond (.t 18) .skip (.exit 0)) (.seq (.block 1 (Zh [Za 19 (Zc 17) 0,Za 20 (.iaddr 1 (.t 15) (.t 17)) 0,Za 21 (Yl [(.sl 1)] (.t 20)) 0,Za 7 (Zc 19) 0,Za 8 (Zc 21) 0] (Zh [Za 22 (Zc 1) 0,Za 23 (Zc 7) 0,Za 24 (.iaddr 1 (.t 22) (.t 23)) 0,Za 25 (Yl [(.sl 1)] (.t 24)) 0,Za 9 (Zc 25) 0] (Zh [Za 26 (Zc 2) 0,Za 27 (Zc 8) 0,Za 28 (Zc 9) 0,Za 29 (.call (.t 26) [(.t 27),(.t 28)]) 0,Za 30 (.un .not (.t 29)) 2] (.cond (.t 30) (Zh [Za 6 (Xo false) 0] .ret) .skip))))) (.reg [Za 31 (ZA .add (.t 17) (Zy 1)) 0,Za 17 (Zc 31) 0] none))))))) (Zh [Za 6 (Xo true) 0] .ret))))
def Qa:List IRes:=[(.tmp 6)]
abbrev b7c:Nat:=32
def Ku:ZO:=Xc [(106,.pure (preT (fun x:List Int×List Int×Unit=>Zr x.1)) (Zj (fun x:List Int×List Int×Unit=>decide (x.1=x.2.1))))]
theorem c3g{G:PV->Prop}(a b:List (List Int))(h:if ((↑(List.length (List.map enc a)):Int) != (↑(List.length (List.map enc b)):Int))=true then G ((.bool false))else(At Ku 0 (Zb Qa G) Qo 0 32 [(1,(.pv (.sl 1 false (List.map enc b)))),(2,(.pv (.fn 106))),(15,(.pv (.sl 1 false (List.map enc a)))),(16,(.pv (.int .i64 (↑(List.length (List.map enc a)):Int)))),(17,(.pv (.int .i64 0)))] [])):Ze Ku 0 (Zb Qa G) Qo [] (Yk 32 [enc a,enc b,.fn 106]):=Ze.tp (.lit (.ask (.nil) (.nil))) h (by kernel_rfl)
theorem FK{G:PV->Prop}(a b:List (List Int))(i:Int)(h:if (decide (i<(↑(List.length a):Int)))=true then(decide (0<=i)&&decide (Int.toNat i<List.length (List.map enc a))&&Enc.sz (List Int)==1)=true∧(∃ y0:List Int,AV.pv (PV.rptr (PV.cells (List.getD (List.map enc a) (Int.toNat i) default)))=AV.pv (PV.rptr (PV.cells ((enc) y0)))∧((decide (0<=i)&&decide (Int.toNat i<List.length (List.map enc b))&&Enc.sz (List Int)==1)=true∧(∃ y1:List Int,AV.pv (PV.rptr (PV.cells (List.getD (List.map enc b) (Int.toNat i) default)))=AV.pv (PV.rptr (PV.cells ((enc) y1)))∧((Go.Pl.preT (fun(x:List Int×List Int×Unit)=>Zr x.1) [(.sl 1 false (PV.asXs (List.getD (PV.cells (enc y0)) 0 default))),(.sl 1 false (PV.asXs (List.getD (PV.cells (enc y1)) 0 default)))])=true∧(∃ y2:Bool,AV.pv (Zj (fun(x:List Int×List Int×Unit)=>decide (x.1=x.2.1)) [(.sl 1 false (PV.asXs (List.getD (PV.cells (enc y0)) 0 default))),(.sl 1 false (PV.asXs (List.getD (PV.cells (enc y1)) 0 default)))])=AV.pv (enc y2)∧(if (!y2)=true then G ((.bool false))else(At Ku 0 (Zb Qa G) Qo 0 32 [(1,(.pv (.sl 1 false (List.map enc b)))),(2,(.pv (.fn 106))),(15,(.pv (.sl 1 false (List.map enc a)))),(16,(.pv (.int .i64 (↑(List.length a):Int)))),(17,(.pv (.int .i64 (IntKind.wrap IntKind.i64 (i+1)))))] [])))))))else(G ((.bool true)))):At Ku 0 (Zb Qa G) Qo 0 32 [(1,.pv (enc b)),(2,.pv (.fn 106)),(15,.pv (enc a)),(16,.pv (.int .i64 a.length)),(17,.pv (.int .i64 i))] []:=At.tp (.lit (.ask (.req (.abs (List Int) (fun YY=>AV.pv (PV.rptr (PV.cells ((enc) YY)))) (.lit (.req (.abs (List Int) (fun YY=>AV.pv (PV.rptr (PV.cells ((enc) YY)))) (.lit (.req (.abs (Bool) (fun YY=>AV.pv (enc YY)) (.ask (.nil) (.lit (.nil))))))))))) (.nil))) h (by kernel_rfl)
end Go.Pl
namespace Go.Pl
open Go.RowKit
open Enc (enc dec is)
open EncL (encL decL isL)
theorem a8l(a b:List Int)(ha:a.length<=9223372036854775807)(hab:a.length=b.length): ∀ (k i:Nat),k+i=a.length ->
  At Ht 0 (Zb Km (Zi (decide (a.drop i=b.drop i)))) KD 0 26 [(0,.pv (enc a)),(1,.pv (enc b)),(12,.pv (.int .i64 a.length)),(13,.pv (.int .i64 i))] []:=by
 intro k
 induction k with
 | zero=>
  intro i hi
  rw[List.drop_of_length_le (by omega),List.drop_of_length_le (by omega)]
  exact a3x a b i (ZR (Yd (by omega)) (ZL rfl))
 | succ k ih=>
  intro i hi
  have hlt:i<a.length:=by omega
  have hlt2:i<b.length:=by omega
  have h:=ih (i+1) (by omega)
  rw[List.drop_eq_getElem_cons hlt,List.drop_eq_getElem_cons hlt2,GR]
  refine a3x a b i (ZN (Z8 hlt) ⟨Zu hlt rfl,ZB hlt ⟨Zu hlt2 rfl,ZB hlt2 ?_⟩⟩)
  show if (a[i] != b[i])=true then _ else _
  by_cases e:a[i]=b[i]
  ·rw[if_neg (by simp[e]),next (by omega),decide_eq_true e,Bool.true_and]
   exact h
  ·rw[if_pos (by simp[e]),decide_eq_false e,Bool.false_and]
   exact ZL rfl
theorem b3u: ∀ x:List Int×List Int×Unit,Zr x.1=true->Ze Ht 0 (Zb Km (Zi (decide (x.1=x.2.1)))) KD [] (Yk c1m (encL x)):=by
 rintro⟨a,b,⟨⟩⟩ h
 refine c8u a b ?_
 simp only[List.length_map]
 by_cases e:a.length=b.length
 ·rw[if_neg (by simp[e])]
  exact a8l a b (ZF.1 h) e a.length 0 (by omega)
 ·rw[if_pos (by simp;omega)]
  exact ZL (by simp;rintro rfl;exact e rfl)
theorem Ej(a b:List (List Int))(ha:a.length<=9223372036854775807)(hl : ∀ x∈a,Zr x=true)(hab:a.length=b.length): ∀ (k i:Nat),k+i=a.length ->
  At Ku 0 (Zb Qa (Zi (decide (a.drop i=b.drop i)))) Qo 0 32 [(1,.pv (enc b)),(2,.pv (.fn 106)),(15,.pv (enc a)),(16,.pv (.int .i64 a.length)),(17,.pv (.int .i64 i))] []:=by
 intro k
 induction k with
 | zero=>
  intro i hi
  rw[List.drop_of_length_le (by omega),List.drop_of_length_le (by omega)]
  exact FK a b i (ZR (Yd (by omega)) (ZL rfl))
 | succ k ih=>
  intro i hi
  have hlt:i<a.length:=by omega
  have hlt2:i<b.length:=by omega
  have h:=ih (i+1) (by omega)
  rw[List.drop_eq_getElem_cons hlt,List.drop_eq_getElem_cons hlt2,GR]
  refine FK a b i (ZN (Z8 hlt) ⟨Zu hlt rfl,ZB hlt ⟨Zu hlt2 rfl,ZB hlt2 ⟨Zl (a[i],b[i],()) rfl (hl _ (List.getElem_mem hlt)),Zk (a[i],b[i],()) rfl ?_⟩⟩⟩)
  show if (!(decide (a[i]=b[i])))=true then _ else _
  by_cases e:a[i]=b[i]
  ·rw[if_neg (by simp[e]),next (by omega),decide_eq_true e,Bool.true_and]
   exact h
  ·rw[if_pos (by simp[e]),decide_eq_false e,Bool.false_and]
   exact ZL rfl
theorem a4x: ∀ x:List (List Int)×List (List Int)×FnV 106×Unit,(Zr x.1&&x.1.all Zr)=true->Ze Ku 0 (Zb Qa (Zi (decide (x.1=x.2.1)))) Qo [] (Yk b7c (encL x)):=by
 rintro⟨a,b,⟨⟩,⟨⟩⟩ h
 simp only[Bool.and_eq_true,List.all_eq_true]at h
 refine c3g a b ?_
 simp only[List.length_map]
 by_cases e:a.length=b.length
 ·rw[if_neg (by simp[e])]
  exact Ej a b (ZF.1 h.1) h.2 e a.length 0 (by omega)
 ·rw[if_pos (by simp;omega)]
  exact ZL (by simp;rintro rfl;exact e rfl)
theorem Na(bx:BoxT)(fs gs:List Fact)(a b:List (List Int))(ha:a.length<=9223372036854775807)(hl : ∀ x∈a,Zr x=true)(hab:a.length=b.length): ∀ (k i:Nat),k+i=a.length ->
  At Vo 0 (Zb Ww (Zi (decide (a.drop i=b.drop i)))) Vh 0 53 [(7,.pv (enc a)),(9,.pv (enc b)),(11,.pv (.int .i64 i))] []:=by
 intro k
 induction k with
 | zero=>
  intro i hi
  rw[List.drop_of_length_le (by omega),List.drop_of_length_le (by omega)]
  exact SF bx fs gs a b i (ZR (Xq (by omega)) (ZL rfl))
 | succ k ih=>
  intro i hi
  have hlt:i<a.length:=by omega
  have hlt2:i<b.length:=by omega
  have h:=ih (i+1) (by omega)
  rw[List.drop_eq_getElem_cons hlt,List.drop_eq_getElem_cons hlt2,GR]
  refine SF bx fs gs a b i (ZN (Y3 hlt) ⟨Zu hlt rfl,ZB hlt ⟨Zu hlt2 rfl,ZB hlt2 ⟨Zl (a[i],b[i],()) rfl (hl _ (List.getElem_mem hlt)),Zk (a[i],b[i],()) rfl ?_⟩⟩⟩)
  show if (!(decide (a[i]=b[i])))=true then _ else _
  by_cases e:a[i]=b[i]
  ·rw[if_neg (by simp[e]),next (by omega),decide_eq_true e,Bool.true_and]
   exact h
  ·rw[if_pos (by simp[e]),decide_eq_false e,Bool.false_and]
   exact ZL rfl
theorem OH{b:BoxT}{fs gs:List Fact}(h:(ZH b&&Zf fs&&decide (fs.length<=100)&&Zf gs&&decide (gs.length<=100)&&decide (b.v.length<=1000))=true):
  (ZH b&&Zf fs&&decide (fs.length<=100)&&decide (b.v.length<=1000))=true∧(ZH b&&Zf gs&&decide (gs.length<=100)&&decide (b.v.length<=1000))=true∧b.v.length<=1000:=by
 simp only[Bool.and_eq_true,decide_eq_true_eq]at h ⊢
 obtain⟨⟨⟨⟨⟨h1,h2⟩,h3⟩,h4⟩,h5⟩,h6⟩:=h
 exact⟨⟨⟨⟨h1,h2⟩,h3⟩,h6⟩,⟨⟨⟨h1,h4⟩,h5⟩,h6⟩,h6⟩
theorem F3: ∀ x:BoxT×List Fact×List Fact×Unit,(ZH x.1&&Zf x.2.1&&decide (x.2.1.length<=100)&&Zf x.2.2.1&&decide (x.2.2.1.length<=100)&&decide (x.1.v.length<=1000))=true ->
  Ze Dw 0 (Zb Ho (Zi (decide ((Zo x.1 x.2.1).2=0)&&decide ((Zo x.1 x.2.2.1).2=0)&&decide ((Zo x.1 x.2.1).1=(Zo x.1 x.2.2.1).1)))) Hq [] (Yk a0v (encL x)):=by
 rintro⟨b,fs,gs,⟨⟩⟩ h
 obtain⟨h1,h2,h3⟩:=OH h
 obtain⟨s1,s2⟩:=Ra (b:=b) (fs:=fs) h3
 refine a5z b fs gs ⟨Zl (b,fs,()) rfl h1,Zk (b,fs,()) rfl ⟨Zl (b,gs,()) rfl h2,Zk (b,gs,()) rfl ?_⟩⟩
 refine XT (fun ha=> ?_) fun ha=> ?_
 ·have ha:(Zo b fs).2=0:=eq_of_beq ha
  refine XT (fun hb=> ?_) fun hb=> ?_
  ·have hb:(Zo b gs).2=0:=eq_of_beq hb
   refine⟨Zl ((Zo b fs).1,(Zo b gs).1,⟨()⟩,()) rfl (by show(Zr (Zo b fs).1&&(Zo b fs).1.all Zr)=true;rw[ZF.2 (by omega),s2];rfl),Zk ((Zo b fs).1,(Zo b gs).1,⟨()⟩,()) rfl (ZL ?_)⟩
   rw[decide_eq_true ha,decide_eq_true hb];rfl
  ·have hb:(Zo b gs).2≠0:=by simpa using hb
   refine ZL ?_
   rw[decide_eq_false hb,Bool.and_false,Bool.false_and]
 ·have ha:(Zo b fs).2≠0:=by simpa using ha
  refine ZL ?_
  rw[decide_eq_false ha,Bool.false_and,Bool.false_and]
theorem Lr: ∀ x:BoxT×List Fact×List Fact×Unit,(ZH x.1&&Zf x.2.1&&decide (x.2.1.length<=100)&&Zf x.2.2.1&&decide (x.2.2.1.length<=100)&&decide (x.1.v.length<=1000))=true ->
  Ze Vo 0 (Zb Ww (Zi (decide ((Zo x.1 x.2.1).2=0)&&decide ((Zo x.1 x.2.2.1).2=0)&&decide ((Zo x.1 x.2.1).1=(Zo x.1 x.2.2.1).1)))) Vh [] (Yk a1k (encL x)):=by
 rintro⟨b,fs,gs,⟨⟩⟩ h
 obtain⟨h1,h2,h3⟩:=OH h
 obtain⟨s1,s2⟩:=Ra (b:=b) (fs:=fs) h3
 refine a9b b fs gs ⟨Zl (b,fs,()) rfl h1,Zk (b,fs,()) rfl ⟨Zl (b,gs,()) rfl h2,Zk (b,gs,()) rfl ?_⟩⟩
 refine XT (fun ha=> ?_) fun ha=> ?_
 ·have ha:(Zo b fs).2≠0:=by simpa using ha
  refine ZL ?_
  rw[decide_eq_false ha,Bool.false_and,Bool.false_and]
 have ha:(Zo b fs).2=0:=by simpa using ha
 refine XT (fun hb=> ?_) fun hb=> ?_
 ·have hb:(Zo b gs).2≠0:=by simpa using hb
  refine ZL ?_
  rw[decide_eq_false hb,Bool.and_false,Bool.false_and]
 have hb:(Zo b gs).2=0:=by simpa using hb
 simp only[List.length_map]
 by_cases e:(Zo b fs).1.length=(Zo b gs).1.length
 ·rw[if_neg (by simp[e])]
  show At Vo 0 (Zb Ww (Zi (decide ((Zo b fs).2=0)&&decide ((Zo b gs).2=0)&&decide ((Zo b fs).1=(Zo b gs).1)))) _ _ _ _ _
  rw[decide_eq_true ha,decide_eq_true hb,Bool.true_and,Bool.true_and]
  exact Na b fs gs _ _ (by omega) (List.all_eq_true.1 s2) e _ 0 (Nat.add_zero _)
 ·rw[if_pos (by simp;omega)]
  refine ZL ?_
  rw[decide_eq_false (p:=(Zo b fs).1=(Zo b gs).1) (fun h=>e (by rw[h])),Bool.and_false]
theorem EO: ∀ x:BoxT×List Fact×List Fact×Unit,(ZH x.1&&YJ x.2.1&&YJ x.2.2.1)=true->Ze SQ 0 (Zb DW (Zi true)) DI [] (Yk a9s (encL x)):=by
 rintro⟨b,fs,gs,⟨⟩⟩ hp
 simp only[Bool.and_eq_true]at hp
 obtain⟨⟨h1,h2⟩,h3⟩:=hp
 refine b3h b fs gs (Zk () rfl (ZR (by simp) ⟨Zl (b,fs,()) rfl (by rw[h1,h2];rfl),Zk (b,fs,()) rfl ?_⟩))
 refine XT (fun _=>ZL rfl) fun hf=> ?_
 refine⟨Zl (b,gs,()) rfl (by rw[h1,h3];rfl),Zk (b,gs,()) rfl ?_⟩
 refine XT (fun _=>ZL rfl) fun hg=> ?_
 obtain⟨a1,a2,a3,_⟩:=Ry (b:=b) (fs:=fs) (by simpa using hf)
 obtain⟨_,c2,c3,_⟩:=Ry (b:=b) (fs:=gs) (by simpa using hg)
 have hpre:(ZH b&&Zf fs&&decide (fs.length<=100)&&Zf gs&&decide (gs.length<=100)&&decide (b.v.length<=1000))=true:=by
  rw[h1,a3,c3,decide_eq_true (show fs.length<=100 by omega),decide_eq_true (show gs.length<=100 by omega),decide_eq_true (show b.v.length<=1000 by omega)];rfl
 exact⟨Zl (b,fs,gs,()) rfl hpre,Zk (b,fs,gs,()) rfl ⟨Zl (b,fs,gs,()) rfl hpre,Zk (b,fs,gs,()) rfl (ZL (by simp))⟩⟩
end Go.Pl
