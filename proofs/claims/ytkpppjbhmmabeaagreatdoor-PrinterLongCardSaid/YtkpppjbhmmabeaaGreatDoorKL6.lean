/-
  Texts of mine that belong together (packed by pack.py), for every input: QQf.
-/
import Derived.Test.YtkpppjbhmmabeaaGreatDoorKL5
set_option linter.unusedVariables false
set_option linter.unusedSimpArgs false
namespace Go.Pl
open Go.RowKit
open Enc (enc dec is)
open EncL (encL decL isL)
def Fw:Nd:=⟨7,0,⟨[]⟩,0,⟨[]⟩,[],[],[],[]⟩
def V9(ks:List PV):PV:=.agg [.int .i64 7,.int .i64 0,.str [],.int .i64 0,.str [],.sl 0 true [],.sl 0 true [],.sl 0 true [],.sl 0 true [],.sl 10 false ks]
def JV(q:List PV):PV:=.agg [.str [102],.int .i64 0,.sl 0 true [],.bool false,.str [],.str [],.sl 0 true [],.int .i64 7,.int .i64 0,.str [],.int .i64 0,.str [],.sl 0 true [],.sl 0 true [],.sl 0 true [],.sl 0 true [],.sl 10 false q]
def a1v(ks:List Tm):Df:=⟨⟨[102]⟩,0,[],false,⟨⟨[]⟩,⟨[]⟩,[]⟩,Fw,ks⟩
def d6c(ds:List Df):Mdu:=⟨⟨[109]⟩,[],[],ds⟩
theorem c9l(n:UInt8)(m:Nat)(hm:0<m):Int.tmod (IntKind.i64.wrap ((n.toNat:Nat):Int)) (m:Int)=((n.toNat % m:Nat):Int):=by
 have:=n.toNat_lt
 rw[WG (by omega) (by omega),Int.tmod_eq_emod_of_nonneg (by omega)]
 omega
theorem d9n(n:UInt8):IntKind.i64.wrap (1+Int.tmod (IntKind.i64.wrap ((n.toNat:Nat):Int)) 16)=((1+n.toNat % 16:Nat):Int):=by
 have h:=c9l n 16 (by decide)
 rw[show((16:Nat):Int)=16 from rfl]at h
 rw[h,WG (by omega) (by omega)]
 omega
theorem d1a{α:Type}[Enc α]{t:Bool}{l:List PV}(h : ∀ p∈l,is α p=true):is (List α) (.sl (Enc.sz α) t l)=true:=by
 show((l.isEmpty||Enc.sz α==Enc.sz α)&&l.all (is α))=true
 rw[beq_self_eq_true,Bool.or_true,Bool.true_and,List.all_eq_true];exact h
theorem b4a{α:Type}[Enc α](s:Nat)(t:Bool)(n:Nat)(p:PV):(dec (.sl s t (List.replicate n p)):List α)=List.replicate n (dec p):=by
 show(List.replicate n p).map dec=_
 rw[List.map_replicate]
theorem d6n{α:Type}[Enc α]{n:Nat}{p:PV}(h:is α p=true): ∀ x∈List.replicate n p,is α x=true:=fun x a=>by rw[(List.mem_replicate.1 a).2];exact h
theorem e1r(ks:List Tm):is Tm (V9 (ks.map enc))=true:=by
 have h:is (List Tm) (.sl 10 false (ks.map (enc:Tm->PV)))=true:=Enc.is_enc ks
 unfold V9
 rw[g3t,h];rfl
theorem c4m(ks:List Tm):(dec (V9 (ks.map enc)):Tm) = .mk Fw ks:=by
 have h:is (List Tm) (.sl 10 false (ks.map (enc:Tm->PV)))=true:=Enc.is_enc ks
 have h2:(dec (.sl 10 false (ks.map (enc:Tm->PV))):List Tm)=ks:=Enc.dec_enc ks
 unfold V9
 rw[d2b _ _ _ _ _ _ _ _ _ _ h,h2];rfl
theorem e2f{q:List PV}(h : ∀ p∈q,is Tm p=true):is Df (JV q)=true:=by
 have h:is (List Tm) (.sl 10 false q)=true:=d1a (α:=Tm) h
 unfold JV
 rw[g1d,h];rfl
theorem c9p(n:Nat)(p:PV):(dec (JV (List.replicate n p)):Df)=a1v (List.replicate n (dec p)):=by
 unfold JV
 rw[f1p,b4a];rfl
theorem a1g(n:Nat)(t:Tm):Vs (List.replicate n t)=n*KC t:=by
 induction n with
 | zero=>simp[Vs]
 | succ n ih=>rw[List.replicate_succ,Vs,ih,Nat.succ_mul];omega
theorem e6q(n a:Nat):(List.replicate n a).sum=n*a:=by
 induction n with
 | zero=>simp
 | succ n ih=>rw[List.replicate_succ,List.sum_cons,ih,Nat.succ_mul];omega
theorem f2u{s:Str}(h:s.s.length<=30){n m:Nat}(hn:n<=16)(hm:m<=25):mW (d6c (List.replicate m (a1v (List.replicate n (.mk Fw (List.replicate 16 (vT s)))))))=true:=by
 have hv:KC (vT s)<=31:=by
  show wNd _+0<=31
  unfold wNd
  show s.s.length+0+0+0+0+0+1+0<=31
  omega
 have a:KC (.mk Fw (List.replicate 16 (vT s)))<=497:=by
  rw[KC,a1g]
  show 1+_<=_
  omega
 have hb:Vs (List.replicate n (.mk Fw (List.replicate 16 (vT s))))<=16*497:=by
  rw[a1g]
  exact Nat.mul_le_mul hn a
 have hd:wDf (a1v (List.replicate n (.mk Fw (List.replicate 16 (vT s)))))<=7960:=by
  show 1+0+1+(1+Vs (List.replicate n (.mk Fw (List.replicate 16 (vT s)))))+1<=_
  omega
 refine decide_eq_true ?_
 show 1+0+0+((List.replicate m (a1v (List.replicate n (.mk Fw (List.replicate 16 (vT s)))))).map wDf).sum+1<=_
 rw[List.map_replicate,e6q]
 have:m*wDf (a1v (List.replicate n (.mk Fw (List.replicate 16 (vT s)))))<=25*7960:=Nat.mul_le_mul hm hd
 omega
theorem c7a(s:Str):(List.all [enc (vT s)] fun(x:PV)=>List.length (PV.cells x)==10&&PV.cellsOk x)=true:=by
 rw[show(enc (vT s):PV)=_ from YZ _ _];rfl
section
variable (s:Str) (n k:UInt8)
theorem f5r(hs:s.s.length<=30)(N K:Nat)(a:N<=16)(b:K<=25):(fun ps:List PV=>isL (Mdu×Unit) ps=true∧mW (decL ps:Mdu×Unit).1=true) [.agg [.str [109],.sl 0 true [],.sl 0 true [],.sl 17 false (List.replicate K (JV (List.replicate N (V9 ((List.replicate 16 (vT s)).map enc)))))]]:=by
 have h1:is (List Df) (.sl 17 false (List.replicate K (JV (List.replicate N (V9 ((List.replicate 16 (vT s)).map enc))))))=true:=d1a (α:=Df) (d6n (e2f (d6n (e1r _))))
 refine⟨?_,?_⟩
 ·show(is Mdu _&&true)=true
  rw[f1d,h1];rfl
 ·show mW (dec (.agg [.str [109],.sl 0 true [],.sl 0 true [],.sl 17 false (List.replicate K (JV (List.replicate N (V9 ((List.replicate 16 (vT s)).map enc)))))]))=true
  rw[e0q,b4a,c9p,c4m]
  exact f2u hs a b
theorem g1a(hs:s.s.length<=30)(N:Nat)(g:N<=16): ∀ (d i:Nat),d+i=k.toNat % 26->1<=i ->
  At YI 0 (Za Yk (Zf true)) Yj 2 78 [(2,.pv (.int .u8 k.toNat)),(9,.row 0 N 0 N),(11,.ptr 1 0),(12,.pv (.int .i64 i))] [.obj (.row true 29 10 (List.replicate N (V9 ((List.replicate 16 (vT s)).map enc)))),.obj (.box [.pv (.str [109]),.pv (.sl 0 true []),.pv (.sl 0 true []),.row 2 i 0 i]),.obj (.row false 41 17 (List.replicate i (JV (List.replicate N (V9 ((List.replicate 16 (vT s)).map enc))))))]:=by
 have hm:=c9l k 26 (by decide)
 rw[show((26:Nat):Int)=26 from rfl]at hm
 intro d
 induction d with
 | zero=>
  intro i hi h1
  have e:List.drop 0 (List.take i (List.replicate i (JV (List.replicate N (V9 ((List.replicate 16 (vT s)).map enc))))))=List.replicate i (JV (List.replicate N (V9 ((List.replicate 16 (vT s)).map enc)))):=by rw[List.drop_zero,List.take_of_length_le (by simp)]
  obtain⟨a,b⟩:=f5r s hs N i g (by omega)
  refine MZ s.s 0 k i N i _ _ (ZV (by rw[hm];simp;omega) ⟨by simp,?_⟩)
  rw[e]
  refine⟨b3i _ a rfl b,DU _ rfl ⟨by simp,b3i _ a rfl b,DU _ rfl (ZN (by simp) (Zl (by simp)))⟩⟩
 | succ d ih=>
  intro i hi h1
  have h:=ih (i+1) (by omega) (by omega)
  rw[List.replicate_succ' (n:=i)]at h
  have e:List.drop 0 (List.take N (List.replicate N (V9 ((List.replicate 16 (vT s)).map enc))))=List.replicate N (V9 ((List.replicate 16 (vT s)).map enc)):=by rw[List.drop_zero,List.take_of_length_le (by simp)]
  refine MZ s.s 0 k i N i _ _ (ZN (by rw[hm];simp;omega) ⟨by simp,?_⟩)
  rw[e]
  refine⟨?_,?_⟩
  ·show(List.length (List.replicate i (JV (List.replicate N (V9 ((List.replicate 16 (vT s)).map enc)))))==i&&i==i&&decide ((i+1)*288<=1099511627776)&&decide (i+1<=1099511627776))=true
   rw[List.length_replicate,decide_eq_true (by omega),decide_eq_true (by omega)];simp
  ·rw[next (by omega)]
   exact h
theorem f8f(hs:s.s.length<=30): ∀ (d i:Nat),d+i=1+n.toNat % 16->1<=i ->
  At YI 0 (Za Yk (Zf true)) Yj 1 78 [(1,.pv (.int .u8 n.toNat)),(2,.pv (.int .u8 k.toNat)),(7,.row 0 16 0 16),(9,.row 1 i 0 i),(10,.pv (.int .i64 i))] [.obj (.row true 29 10 ((List.replicate 16 (vT s)).map enc)),.obj (.row false 29 10 (List.replicate i (V9 ((List.replicate 16 (vT s)).map enc))))]:=by
 have hr:=d9n n
 have hm:=c9l k 26 (by decide)
 rw[show((26:Nat):Int)=26 from rfl]at hm
 have a:List.drop 0 (List.take 16 ((List.replicate 16 (vT s)).map (enc:Tm->PV)))=(List.replicate 16 (vT s)).map enc:=by rw[List.drop_zero,List.take_of_length_le (by simp)]
 intro d
 induction d with
 | zero=>
  intro i hi h1
  refine LF s.s n k i 16 i _ _ (ZV (by rw[hr];simp;omega) ?_)
  show At YI 0 (Za Yk (Zf true)) Yj 2 78 [(2,.pv (.int .u8 k.toNat)),(9,.row 0 i 0 i),(11,.ptr 1 0),(12,.pv (.int .i64 ((0:Nat):Int)))] _
  have e:List.drop 0 (List.take i (List.replicate i (V9 ((List.replicate 16 (vT s)).map enc))))=List.replicate i (V9 ((List.replicate 16 (vT s)).map enc)):=by rw[List.drop_zero,List.take_of_length_le (by simp)]
  by_cases hk:k.toNat % 26=0
  ·refine NI s.s n k ((0:Nat):Int) i _ (ZV (by rw[hm];simp;omega) (DU (d6c [],()) rfl (DU (d6c [],()) rfl (ZN (by simp) (Zl (by simp))))))
  ·refine NI s.s n k ((0:Nat):Int) i _ (ZN (by rw[hm];simp;omega) ⟨by simp,?_⟩)
   rw[e,next (by omega)]
   exact g1a s k hs i (by omega) (k.toNat % 26 - 1) 1 (by omega) (by omega)
 | succ d ih=>
  intro i hi h1
  have h:=ih (i+1) (by omega) (by omega)
  rw[List.replicate_succ' (n:=i)]at h
  refine LF s.s n k i 16 i _ _ (ZN (by rw[hr];simp;omega) ⟨by simp,?_⟩)
  rw[a]
  refine⟨?_,?_⟩
  ·show(List.length (List.replicate i (V9 ((List.replicate 16 (vT s)).map enc)))==i&&i==i&&decide ((i+1)*176<=1099511627776)&&decide (i+1<=1099511627776))=true
   rw[List.length_replicate,decide_eq_true (by omega),decide_eq_true (by omega)];simp
  ·rw[next (by omega)]
   exact h
theorem g3u(hs:s.s.length<=30): ∀ (d i:Nat),d+i=16->1<=i ->
  At YI 0 (Za Yk (Zf true)) Yj 0 78 [(0,.pv (.str s.s)),(1,.pv (.int .u8 n.toNat)),(2,.pv (.int .u8 k.toNat)),(7,.row 0 i 0 i),(8,.pv (.int .i64 i))] [.obj (.row false 29 10 ((List.replicate i (vT s)).map enc))]:=by
 have hr:=d9n n
 intro d
 induction d with
 | zero=>
  intro i hi h1
  obtain rfl:i=16:=by omega
  refine Mi s.s n k (16:Nat) 16 (List.replicate 16 (vT s)) (ZV (by decide) ?_)
  show At YI 0 (Za Yk (Zf true)) Yj 1 78 [(1,.pv (.int .u8 n.toNat)),(2,.pv (.int .u8 k.toNat)),(7,.row 0 16 0 16),(9,.pv (.sl 0 true [])),(10,.pv (.int .i64 ((0:Nat):Int)))] _
  have a:List.drop 0 (List.take 16 ((List.replicate 16 (vT s)).map (enc:Tm->PV)))=(List.replicate 16 (vT s)).map enc:=by rw[List.drop_zero,List.take_of_length_le (by simp)]
  refine b8t s.s n k ((0:Nat):Int) 16 _ (ZN (by rw[hr];simp;omega) ⟨by simp,?_⟩)
  rw[a,next (by omega)]
  exact f8f s n k hs (n.toNat % 16) 1 (by omega) (by omega)
 | succ d ih=>
  intro i hi h1
  have h:=ih (i+1) (by omega) (by omega)
  rw[List.replicate_succ' (n:=i),List.map_append]at h
  refine Mi s.s n k i i (List.replicate i (vT s)) (ZN (by simp;omega) (Zb (s,()) rfl ⟨?_,?_,?_⟩))
  ·exact c7a s
  ·show(List.length (List.map (enc:Tm->PV) (List.replicate i (vT s)))==i&&i==i&&decide ((i+1)*176<=1099511627776)&&decide (i+1<=1099511627776))=true
   rw[List.length_map,List.length_replicate,decide_eq_true (by omega),decide_eq_true (by omega)];simp
  ·rw[next (by omega)]
   exact h
end
theorem c2b: ∀ x:Str×UInt8×UInt8×Unit,true=true->Zd YI 0 (Za Yk (Zf true)) Yj [] (Zx c7t (encL x)):=by
 rintro⟨s,n,k,⟨⟩⟩ _
 refine e7e s.s n k (Zb () rfl (ZV (by simp) (ZU (fun h=>Zl rfl) fun h=> ?_)))
 have hs:s.s.length<=30:=by omega
 show At YI 0 (Za Yk (Zf true)) Yj 0 78 [(0,.pv (.str s.s)),(1,.pv (.int .u8 n.toNat)),(2,.pv (.int .u8 k.toNat)),(7,.pv (.sl 0 true [])),(8,.pv (.int .i64 ((0:Nat):Int)))] []
 refine c0w s.s n k ((0:Nat):Int) (ZN (by decide) (Zb (s,()) rfl ⟨?_,?_⟩))
 ·exact c7a s
 ·rw[next (by omega)]
  exact g3u s n k hs 15 1 (by omega) (by omega)
end Go.Pl
