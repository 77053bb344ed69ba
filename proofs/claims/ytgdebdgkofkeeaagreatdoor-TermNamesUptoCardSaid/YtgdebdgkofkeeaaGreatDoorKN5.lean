/-
  Texts of mine that belong together (packed by pack.py), for every input: QUd, GUi, GUl, QUl, GUm, QUu, VwI, VwJ, VwY, GUt, QUy, VwZ, GUz, QUz, VwH, GUu, VwK, QUw, TyRn, GUw, QUx, GUx1, QUx1, QUx2, QUq.
-/
import Derived.Test.YtgdebdgkofkeeaaGreatDoorChecked
import Derived.Test.YtgdebdgkofkeeaaGreatDoorKN2
import Derived.Test.YtgdebdgkofkeeaaGreatDoorKN3
import Derived.Test.YtgdebdgkofkeeaaGreatDoorKN4
import Derived.KernelRfl
import Derived.Lib.ItoaNum
set_option linter.unusedVariables false
set_option linter.unusedSimpArgs false
namespace Go.Pl
open Go.RowKit
open Enc (enc dec is)
open EncL (encL decL isL)
def d7j:List (Nat×AV):=[(1,.ptr 0 0),(2,.ptr 1 0),(4,.undef),(49,.undef),(50,.undef),(51,.undef),(52,.undef),(53,.undef),(54,.undef),(55,.undef),(56,.undef),(57,.undef),(58,.undef),(59,.undef),(60,.undef),(61,.undef),(62,.undef),(63,.undef),(64,.undef),(65,.undef),(66,.undef)]
def cpZ:List AV:=[.pv (.int .i64 0),.pv (.int .i64 0),.pv (.str []),.pv (.int .i64 0),.pv (.str []),.pv (.sl 0 true []),.pv (.sl 0 true []),.pv (.sl 0 true []),.pv (.sl 0 true []),.pv (.sl 0 true [])]
def b2y(n:Nd)(SZ:AV):List AV:=[.pv (enc n.kind),.pv (enc n.line),.pv (enc n.name),.pv (enc n.num),.pv (enc n.elem),.pv (enc n.dims),.pv (enc n.data),SZ,.pv (enc n.ranks)]
def cpR(n:Nd)(ks:List Tm)(m:Nat)(S:St):Prop:=m=0∧S.env=ZB 67 0 d7j∧ ∃ (SZ KD:AV) (b:Bool) (rest:Zp),S.heap = .obj (.box (b2y n SZ++[KD])):: .obj (.box cpZ)::rest ∧
 ((b=false∧SZ = .pv (enc n.sizes))∨(b=true∧SZ = .row 2 n.sizes.length 0 n.sizes.length∧S.heap[2]? = some (.obj (.row false 62 2 (n.sizes.map enc))))) ∧
 ((ks=[]∧KD = .pv (enc ks))∨(ks≠[]∧KD = .row (if b=true then 3 else 2) ks.length 0 ks.length∧S.heap[if b=true then 3 else 2]? = some (.obj (.row false 28 10 (ks.map enc)))))
theorem RO{α:Type}[Enc α]{l:List α}{s:Nat}(h:l≠[])(hl:l.length<=2000000):Yl s [(.pv (.sl s false (List.map enc l)))] []=true:=by
 simp[Yl,h,hl]
theorem b1n{RR:Nat->St->Prop}{n:Nd}{ks:List Tm}(hne:ks≠[])(hk:ks.length<=2000000)(hl:n.sizes.length<=2000000)(ht : ∀ l∈n.sizes,l.t.length<=2000000){m:Nat}(hm:m=n.sizes.length)(hR : ∀ S,cpR n ks 0 S->RR 0 S): ∀ (d i:Nat),d+i=n.sizes.length ->
  AtM Qq (Vt RR) 0 (fun _=>False) Ws 0 67 [(1,.ptr 0 0),(2,.ptr 1 0),(4,.undef),(28,.pv (.int .i64 m)),(29,.pv (.int .i64 i)),(49,.undef),(50,.undef),(51,.undef),(52,.undef),(53,.undef),(54,.undef),(55,.undef),(56,.undef),(57,.undef),(58,.undef),(59,.undef),(60,.undef),(61,.undef),(62,.undef),(63,.undef),(64,.undef),(65,.undef),(66,.undef)]
   [.obj (.box [.pv (enc n.kind),.pv (enc n.line),.pv (enc n.name),.pv (enc n.num),.pv (enc n.elem),.pv (enc n.dims),.pv (enc n.data),.row 2 m 0 m,.pv (enc n.ranks),.pv (enc ks)]),.obj (.box cpZ),.obj (.row false 62 2 (n.sizes.map enc))]:=by
 subst hm
 intro d
 induction d with
 | zero=>
  intro i hi
  refine a2p (G:=fun _=>False) RR n ks n.sizes.length n.sizes i (Yz (WE (by omega)) ⟨RO hne hk,hR _ ⟨rfl,rfl,_,_,true,_,rfl,.inr ⟨rfl,rfl,rfl⟩,.inr ⟨hne,by simp,rfl⟩⟩⟩)
 | succ d ih=>
  intro i hi
  have h1:i<n.sizes.length:=by omega
  refine a2p (G:=fun _=>False) RR n ks n.sizes.length n.sizes i (Yq (WR h1) ?_)
  have e:List.getD (List.map (enc:Lin->PV) n.sizes) (0+Int.toNat (i:Int)) default=enc n.sizes[i]:=by rw[Nat.zero_add];exact Xz enc h1
  have e2:(enc n.sizes[i]:PV) = .agg [.int .i64 n.sizes[i].k,.sl 2 false (n.sizes[i].t.map enc)]:=rfl
  have e3:List.set (n.sizes.map (enc:Lin->PV)) (0+Int.toNat (i:Int)) (.agg [.int .i64 n.sizes[i].k,.sl 2 false (n.sizes[i].t.map enc)])=n.sizes.map enc:=by
   rw[Nat.zero_add,Int.toNat_natCast,<- e2]
   apply List.ext_getElem?
   intro j
   rw[List.getElem?_set]
   split
   ·rename_i h;subst h;rw[if_pos (by simpa using h1),List.getElem?_map,List.getElem?_eq_getElem h1];rfl
   ·rfl
  have hc:=ht _ (List.getElem_mem h1)
  simp only[e,e2]
  refine⟨by simp[h1],by simp[h1],by simp[PV.cells,ZU,Sh.fit],Ze (n.sizes[i].t,()) rfl (decide_eq_true hc),Zd (n.sizes[i].t,()) rfl ⟨by simp[h1],?_,?_⟩⟩
  ·simp[h1,PV.cells,PV.cellsOk,enc]
  ·show AtM Qq (Vt RR) 0 (fun _=>False) Ws 0 67 _ [_,_,.obj (.row false 62 2 (List.set (n.sizes.map (enc:Lin->PV)) (0+Int.toNat (i:Int)) (.agg [.int .i64 n.sizes[i].k,.sl 2 false (n.sizes[i].t.map enc)])))]
   rw[e3,next (by omega)]
   exact ih (i+1) (by omega)
theorem b0m{RR:Nat->St->Prop}{n:Nd}(hl:n.sizes.length<=2000000)(ht : ∀ l∈n.sizes,l.t.length<=2000000){m:Nat}(hm:m=n.sizes.length)(hR : ∀ S,cpR n [] 0 S->RR 0 S): ∀ (d i:Nat),d+i=n.sizes.length ->
  AtM QB (Vt RR) 0 (fun _=>False) VL 0 67 [(1,.ptr 0 0),(2,.ptr 1 0),(4,.undef),(28,.pv (.int .i64 m)),(29,.pv (.int .i64 i)),(49,.undef),(50,.undef),(51,.undef),(52,.undef),(53,.undef),(54,.undef),(55,.undef),(56,.undef),(57,.undef),(58,.undef),(59,.undef),(60,.undef),(61,.undef),(62,.undef),(63,.undef),(64,.undef),(65,.undef),(66,.undef)]
   [.obj (.box [.pv (enc n.kind),.pv (enc n.line),.pv (enc n.name),.pv (enc n.num),.pv (enc n.elem),.pv (enc n.dims),.pv (enc n.data),.row 2 m 0 m,.pv (enc n.ranks),.pv (enc ([]:List Tm))]),.obj (.box cpZ),.obj (.row false 62 2 (n.sizes.map enc))]:=by
 subst hm
 intro d
 induction d with
 | zero=>
  intro i hi
  refine a0x (G:=fun _=>False) RR n [] n.sizes.length n.sizes i (Yz (WE (by omega)) ⟨Ze (([]:List Tm),()) rfl rfl,Zd (([]:List Tm),()) rfl (hR _ ⟨rfl,rfl,_,_,true,_,rfl,.inr ⟨rfl,rfl,rfl⟩,.inl ⟨rfl,rfl⟩⟩)⟩)
 | succ d ih=>
  intro i hi
  have h1:i<n.sizes.length:=by omega
  refine a0x (G:=fun _=>False) RR n [] n.sizes.length n.sizes i (Yq (WR h1) ?_)
  have e:List.getD (List.map (enc:Lin->PV) n.sizes) (0+Int.toNat (i:Int)) default=enc n.sizes[i]:=by rw[Nat.zero_add];exact Xz enc h1
  have e2:(enc n.sizes[i]:PV) = .agg [.int .i64 n.sizes[i].k,.sl 2 false (n.sizes[i].t.map enc)]:=rfl
  have e3:List.set (n.sizes.map (enc:Lin->PV)) (0+Int.toNat (i:Int)) (.agg [.int .i64 n.sizes[i].k,.sl 2 false (n.sizes[i].t.map enc)])=n.sizes.map enc:=by
   rw[Nat.zero_add,Int.toNat_natCast,<- e2]
   apply List.ext_getElem?
   intro j
   rw[List.getElem?_set]
   split
   ·rename_i h;subst h;rw[if_pos (by simpa using h1),List.getElem?_map,List.getElem?_eq_getElem h1];rfl
   ·rfl
  have hc:=ht _ (List.getElem_mem h1)
  simp only[e,e2]
  refine⟨by simp[h1],by simp[h1],by simp[PV.cells,ZU,Sh.fit],Ze (n.sizes[i].t,()) rfl (decide_eq_true hc),Zd (n.sizes[i].t,()) rfl ⟨by simp[h1],?_,?_⟩⟩
  ·simp[h1,PV.cells,PV.cellsOk,enc]
  ·show AtM QB (Vt RR) 0 (fun _=>False) VL 0 67 _ [_,_,.obj (.row false 62 2 (List.set (n.sizes.map (enc:Lin->PV)) (0+Int.toNat (i:Int)) (.agg [.int .i64 n.sizes[i].k,.sl 2 false (n.sizes[i].t.map enc)])))]
   rw[e3,next (by omega)]
   exact ih (i+1) (by omega)
abbrev Ef(n:Nd)(ks:List Tm):St:=Wh 67 [.pv (.agg [enc n.kind,enc n.line,enc n.name,enc n.num,enc n.elem,enc n.dims,enc n.data,enc n.sizes,enc n.ranks,enc ks])] []
theorem d8d{RR:Nat->St->Prop}{n:Nd}{ks:List Tm}(hw:tW (.mk n ks)=true)(hs:n.sizes≠[])(hne:ks≠[])(hR : ∀ S,cpR n ks 0 S->RR 0 S):Zu Qq (Vt RR) 0 (fun _=>False) (.inl Ws) [] (Ef n ks):=by
 have hb:=PU hw
 have hk:=(Yo hw).1
 have h1:=hb.dims;have h2:=hb.data;have h3:=hb.ranks;have hsz:=hb.sizes
 refine d2h (G:=fun _=>False) RR n ks ⟨Ze (n.dims,()) rfl (decide_eq_true (show n.dims.length<=2000000 by omega)),Zd (n.dims,()) rfl ⟨Ze (n.data,()) rfl (decide_eq_true (show n.data.length<=2000000 by omega)),Zd (n.data,()) rfl
  ⟨Ze (n.ranks,()) rfl (decide_eq_true (show n.ranks.length<=2000000 by omega)),Zd (n.ranks,()) rfl ⟨RO hs (by omega),b1n hne (by omega) (by omega) (fun l hl=>by have:=hb.lens l hl;omega) (List.length_map _) hR n.sizes.length 0 (by omega)⟩⟩⟩⟩
theorem d5b{RR:Nat->St->Prop}{n:Nd}{ks:List Tm}(hw:tW (.mk n ks)=true)(hs:n.sizes≠[])(hz:ks=[])(hR : ∀ S,cpR n ks 0 S->RR 0 S):Zu QB (Vt RR) 0 (fun _=>False) (.inl VL) [] (Ef n ks):=by
 have hb:=PU hw
 have hk:=(Yo hw).1
 have h1:=hb.dims;have h2:=hb.data;have h3:=hb.ranks;have hsz:=hb.sizes
 subst hz
 refine d3l (G:=fun _=>False) RR n [] ⟨Ze (n.dims,()) rfl (decide_eq_true (show n.dims.length<=2000000 by omega)),Zd (n.dims,()) rfl ⟨Ze (n.data,()) rfl (decide_eq_true (show n.data.length<=2000000 by omega)),Zd (n.data,()) rfl
  ⟨Ze (n.ranks,()) rfl (decide_eq_true (show n.ranks.length<=2000000 by omega)),Zd (n.ranks,()) rfl ⟨RO hs (by omega),b0m (by omega) (fun l hl=>by have:=hb.lens l hl;omega) (List.length_map _) hR n.sizes.length 0 (by omega)⟩⟩⟩⟩
theorem d6c{RR:Nat->St->Prop}{n:Nd}{ks:List Tm}(hw:tW (.mk n ks)=true)(hs:n.sizes=[])(hne:ks≠[])(hR : ∀ S,cpR n ks 0 S->RR 0 S):Zu Dj (Vt RR) 0 (fun _=>False) (.inl Ky) [] (Ef n ks):=by
 have hb:=PU hw
 have hk:=(Yo hw).1
 have h1:=hb.dims;have h2:=hb.data;have h3:=hb.ranks;have hsz:=hb.sizes
 refine c9z (G:=fun _=>False) RR n ks ⟨Ze (n.dims,()) rfl (decide_eq_true (show n.dims.length<=2000000 by omega)),Zd (n.dims,()) rfl ⟨Ze (n.data,()) rfl (decide_eq_true (show n.data.length<=2000000 by omega)),Zd (n.data,()) rfl
  ⟨Ze (n.ranks,()) rfl (decide_eq_true (show n.ranks.length<=2000000 by omega)),Zd (n.ranks,()) rfl ⟨Ze (n.sizes,()) rfl (by rw[hs];rfl),Zd (n.sizes,()) rfl (a3s (G:=fun _=>False) RR n ks (List.length (List.map (enc:Lin->PV) n.sizes)) 0 (Yz (by rw[hs];decide) ⟨RO hne (by omega),hR _ ⟨rfl,rfl,_,_,false,_,rfl,.inl ⟨rfl,rfl⟩,.inr ⟨hne,by simp,rfl⟩⟩⟩))⟩⟩⟩⟩
theorem d5s{RR:Nat->St->Prop}{n:Nd}{ks:List Tm}(hw:tW (.mk n ks)=true)(hs:n.sizes=[])(hz:ks=[])(hR : ∀ S,cpR n ks 0 S->RR 0 S):Zu Gw (Vt RR) 0 (fun _=>False) (.inl KY) [] (Ef n ks):=by
 have hb:=PU hw
 have hk:=(Yo hw).1
 have h1:=hb.dims;have h2:=hb.data;have h3:=hb.ranks;have hsz:=hb.sizes
 subst hz
 refine d3h (G:=fun _=>False) RR n [] ⟨Ze (n.dims,()) rfl (decide_eq_true (show n.dims.length<=2000000 by omega)),Zd (n.dims,()) rfl ⟨Ze (n.data,()) rfl (decide_eq_true (show n.data.length<=2000000 by omega)),Zd (n.data,()) rfl
  ⟨Ze (n.ranks,()) rfl (decide_eq_true (show n.ranks.length<=2000000 by omega)),Zd (n.ranks,()) rfl ⟨Ze (n.sizes,()) rfl (by rw[hs];rfl),Zd (n.sizes,()) rfl (a1v (G:=fun _=>False) RR n [] (List.length (List.map (enc:Lin->PV) n.sizes)) 0 (Yz (by rw[hs];decide) ⟨Ze (([]:List Tm),()) rfl rfl,Zd (([]:List Tm),()) rfl (hR _ ⟨rfl,rfl,_,_,false,_,rfl,.inl ⟨rfl,rfl⟩,.inl ⟨rfl,rfl⟩⟩)⟩))⟩⟩⟩⟩
end Go.Pl
namespace Go.Pl
open Go.RowKit
open Enc (enc dec is)
open EncL (encL decL isL)
set_option maxRecDepth 100000
def Ea:IC:=(Vh [ZC 1 (.box 10 (.t 0)) 0,ZC 2 (.alloc (.agg [(.int .i64 0),(.int .i64 0),(.str []),(.int .i64 0),(.str []),(.sl 0 true []),(.sl 0 true []),(.sl 0 true []),(.sl 0 true []),(.sl 0 true [])])) 1] (Vh [ZC 6 (.load true [(.int .i64),(.int .i64),.str,(.int .i64),.str,(.sl 1),(.sl 1),(.sl 2),(.sl 1),(.sl 10)] (.t 1)) 0,ZC 7 (c'' 20 [(.t 6)]) 0,ZC 3 (.alloc (.sl 0 true [])) 2,DW (.store 1 (.t 3) (.t 7)) 3] (Vh [ZC 4 (.alloc (.int .i64 0)) 0,DW (.store 1 (.t 4) (UF 0)) 1] (Vh [ZC 8 (.mkfn 67 [] [(.t 4),(.t 3)]) 0,ZC 5 (WJ 8) 0] (.ext 0 [1,9,5,10,11,12,2,13])))))
def b6y:ZE:=YB [(20,.pure (preT (fun x:Tm×Unit=>tW x.1)) (Zi (fun x:Tm×Unit=>ZX x.1)))]
theorem d8e{G:Zp->Prop}(RR:Nat->St->Prop)(n:Nd)(ks:List Tm)(h:(Go.Pl.preT (fun(x:Tm×Unit)=>tW x.1) (Jg n ks))=true∧(∃ y0:List Str,AV.pv (Zi (fun(x:Tm×Unit)=>ZX x.1) (Jg n ks))=AV.pv (enc y0)∧((Vt RR) 0 ⟨ZB 14 0 [(1,(.ptr 0 0)),(2,(.ptr 1 0)),(5,(.fn 67 [] [(.ptr 2 0),(.ptr 3 0)])),(9,.undef),(10,.undef),(11,.undef),(12,.undef),(13,.undef)],[(.obj (.box (ZM n ks))),(.obj (.box [(.pv (.int .i64 0)),(.pv (.int .i64 0)),(.pv (.str [])),(.pv (.int .i64 0)),(.pv (.str [])),(.pv (.sl 0 true [])),(.pv (.sl 0 true [])),(.pv (.sl 0 true [])),(.pv (.sl 0 true [])),(.pv (.sl 0 true []))])),(.obj (.box [(.pv (.int .i64 0))])),(.obj (.box [(.pv (.sl 1 false (List.map enc y0)))]))]⟩ (fun x S'=>Um b6y (Vt RR) 0 (fun st=>G st.heap) Ea 0 x S')))):Zu b6y (Vt RR) 0 (fun st=>G st.heap) (.inl Ea) [] (Wh 14 [.pv (.agg [enc n.kind,enc n.line,enc n.name,enc n.num,enc n.elem,enc n.dims,enc n.data,enc n.sizes,enc n.ranks,enc ks])] []):=Zu.mh (.req (.abs (List Str) (fun YY=>AV.pv (enc YY)) (.nil))) h
end Go.Pl
namespace Go.Pl
open Go.RowKit
open Enc (enc dec is)
open EncL (encL decL isL)
set_option maxRecDepth 100000
end Go.Pl
namespace Go.Pl
open Go.RowKit
open Enc (enc dec is)
open EncL (encL decL isL)
end Go.Pl
namespace Go.Pl
open Go.RowKit
open Enc (enc dec is)
open EncL (encL decL isL)
set_option maxRecDepth 100000
end Go.Pl
namespace Go.Pl
open Go.RowKit
open Enc (enc dec is)
open EncL (encL decL isL)
theorem SN(o l:List Str):([.sl 1 false (List.map enc o),.sl 1 false (List.map enc l)]:List PV)=encL (o,l,()):=rfl
section
variable (n m:Nd) (ks ls:List Tm) (s:List UInt8)
end
end Go.Pl
namespace Go.Pl
open Go.RowKit
open Enc (enc dec is)
theorem a8m(n:Nd)(s:Str):EJ (Cv n s)+n.name.s.length=EJ n+s.s.length:=by
 unfold EJ Cv
 dsimp only
 omega
theorem a6j{K:Nat}{σ:List (Str×Str)}(h : ∀ p∈σ,p.2.s.length<=K)(s:Str):(VI σ s).s.length<=s.s.length+K:=by
 unfold VI
 split
 ·rename_i p hp
  have:=h p (List.mem_of_find?_eq_some hp)
  omega
 ·omega
mutual
theorem c8o(tk:List Str)(K M:Nat)(hK : ∀ m,m<=M->(vN m).s.length<=K): ∀ (t:Tm) (σ:List (Str×Str)) (c:Nat),(∀ p∈σ,p.2.s.length<=K)->c+Zk t*(tk.length+1)<=M->Qi (Y9 tk σ c t).1<=Qi t+K*Zk t
 | .mk n ks,σ,c,hσ,hc=>by
  rw[Zk]at hc
  have hmul:(Zo ks+1)*(tk.length+1)=Zo ks*(tk.length+1)+(tk.length+1):=by rw[Nat.add_mul,Nat.one_mul]
  rw[hmul]at hc
  rw[Y9]
  split
  ·have hn:=Vv tk c
   have hv:(vN (Z4 tk c)).s.length<=K:=hK _ (by omega)
   have h1:=FV tk K M hK ks σ ((n.name,vN (Z4 tk c))::σ) 0 (Z4 tk c) hσ (fun p hp=>by
    rcases List.mem_cons.1 hp with rfl|hp
    ·exact hv
    ·exact hσ p hp) (by omega)
   have h2:=a8m n (vN (Z4 tk c))
   rw[Qi,Qi,Zk,Nat.mul_add,Nat.mul_one]
   omega
  ·have h1:=FV tk K M hK ks σ σ 0 c hσ hσ (by omega)
   rw[Qi,Qi,Zk,Nat.mul_add,Nat.mul_one]
   have h2:EJ (if n.kind=1 then Cv n (VI σ n.name)else n)<=EJ n+K:=by
    split
    ·have:=a8m n (VI σ n.name)
     have:=a6j hσ n.name
     omega
    ·omega
   omega
theorem FV(tk:List Str)(K M:Nat)(hK : ∀ m,m<=M->(vN m).s.length<=K): ∀ (ks:List Tm) (σ τ:List (Str×Str)) (i c:Nat),(∀ p∈σ,p.2.s.length<=K)->(∀ p∈τ,p.2.s.length<=K)->c+Zo ks*(tk.length+1)<=M->VA (Yr tk σ τ i c ks).1<=VA ks+K*Zo ks
 | [],σ,τ,i,c,_,_,_=>by rw[Yr];simp[VA]
 | k::ks,σ,τ,i,c,hσ,hτ,hc=>by
  rw[Zo,Nat.add_mul]at hc
  rw[Yr]
  have h0:=CZ tk (if i=0 then σ else τ) c k
  have h1:=c8o tk K M hK k (if i=0 then σ else τ) c (by split <;> assumption) (by omega)
  have h2:=FV tk K M hK ks σ τ (i+1) (Y9 tk (if i=0 then σ else τ) c k).2 hσ hτ (by omega)
  rw[VA,VA,Zo,Nat.mul_add]
  omega
end
mutual
theorem LP: ∀ (t:Tm) (b:List Str),(YK b t).length<=Zk t
 | .mk n ks,b=>by
  have:=Tn ks b (Yt n ks.length) n.name 0
  rw[YK,List.length_append,Zk]
  split <;> simp <;> omega
theorem Tn: ∀ (ks:List Tm) (b:List Str) (l:Bool) (s:Str) (i:Nat),(Xw b l s i ks).length<=Zo ks
 | [],b,l,s,i=>by rw[Xw];simp
 | k::ks,b,l,s,i=>by
  have h1:=LP k (if l&&decide (i=1)then s::b else b)
  have h2:=Tn ks b l s (i+1)
  rw[Xw,List.length_append,Zo]
  omega
end
theorem BM(l:List Str):(V6 l).length<=l.length:=by
 unfold V6 YJ
 rw[List.length_map,List.length_mergeSort,List.length_map]
 have:=VV l []
 have e:Y8 l=l.foldl Y2 []:=rfl
 rw[e]
 simpa using this
theorem d5v{m:Nat}(h:m<1000):Lib.nDigits m<=3:=by
 rw[Lib.nDigits]
 split
 ·omega
 ·rw[Lib.nDigits]
  split
  ·omega
  ·rw[Lib.nDigits_small (show m / 10 / 10<10 by omega)];omega
theorem d4h{m:Nat}(h:m<=999):(vN m).s.length<=4:=by
 show(118::Lib.itoa (m:Int)).length<=4
 unfold Lib.itoa
 rw[if_neg (by omega),List.length_cons,Int.toNat_natCast,Lib.decDigits_length]
 have:=d5v (show m<1000 by omega)
 omega
theorem c0h(b:List Str)(t:Tm):(YK b t).length<=Zk t:=LP t b
theorem c9x{t:Tm}(h:Zk t<=31):Qi (YC t)<=Qi t+4*Zk t:=by
 have hf:(ZX t).length<=Zk t:=by
  unfold ZX
  exact Nat.le_trans (BM _) (c0h [] t)
 refine c8o (ZX t) 4 999 (fun m hm=>d4h hm) t [] 0 (fun p hp=>by cases hp) ?_
 have:=Nat.mul_le_mul h (show(ZX t).length+1<=32 by omega)
 omega
theorem c3n{t:Tm}(h:Zk t<=31)(hw:Qi t+4*Zk t<=1048576):tW (YC t)=true:=decide_eq_true (Nat.le_trans (c9x h) hw)
end Go.Pl
namespace Go.Pl
open Go.RowKit
end Go.Pl
namespace Go.Pl
open Go.RowKit
open Enc (enc dec is)
open EncL (encL decL isL)
set_option maxRecDepth 100000
end Go.Pl
namespace Go.Pl
open Go.RowKit
open Enc (enc dec is)
open EncL (encL decL isL)
theorem a8r{t:Tm}{k:Int}(h:Q9 t k=true):(Zk t:Int)<=k:=by
 unfold Q9 at h
 simp only[Bool.and_eq_true,decide_eq_true_eq]at h
 exact h.1.2
theorem a4d(t:Tm):(Vm t).length<=Zk t:=by
 unfold Vm TG X7 OX
 rw[List.length_mergeSort]
 have:=G5 ((ZV t).map fun x=>x.nd.line) []
 unfold Q7
 rw[List.length_map,Wj]at this
 simpa using this
theorem c8k(o l:List Int):([.sl 1 false (List.map enc o),.sl 1 false (List.map enc l)]:List PV)=encL (o,l,()):=rfl
end Go.Pl
namespace Go.Pl
open Go.RowKit
def YL(f g:List Str):List (Str×Str):=(f.zip g).reverse
def Sl(t:Tm)(f g a:List Str)(n:Int):TS×Int:=(K3 (Y9 a (YL f g) (n - 1).toNat t).1,((Y9 a (YL f g) (n - 1).toNat t).2:Int)+1)
theorem a9d{f g:List Str}(h:f.length=g.length)(a b:Str):YL (f++[a]) (g++[b])=(a,b)::YL f g:=by
 unfold YL
 rw[List.zip_append h]
 simp
theorem LC{f g:List Str}(h:f.length=g.length)(s:Str){i:Nat}(hi:i<f.length)(he:f[i]=s)(hn : ∀ j (hj:j<f.length),i<j->f[j]≠s):VI (YL f g) s=g[i]'(by omega):=by
 unfold VI YL
 have e:f.zip g=(f.zip g).take i++(f[i],g[i]'(by omega))::(f.zip g).drop (i+1):=by
  have h1:i<(f.zip g).length:=by rw[List.length_zip];omega
  have h2:(f.zip g)[i]=(f[i],g[i]'(by omega)):=List.getElem_zip
  rw[<- h2,<- List.drop_eq_getElem_cons h1,List.take_append_drop]
 rw[e,List.reverse_append,List.reverse_cons,List.append_assoc,List.find?_append]
 have h0:((f.zip g).drop (i+1)).reverse.find? (fun p=>p.1==s)=none:=by
  rw[List.find?_eq_none]
  intro p hp
  rw[List.mem_reverse]at hp
  obtain⟨j,hj,e2⟩:=List.getElem_of_mem hp
  rw[List.length_drop,List.length_zip]at hj
  rw[List.getElem_drop,List.getElem_zip]at e2
  have:=hn (i+1+j) (by omega) (by omega)
  rw[<- e2]
  simpa using this
 rw[h0]
 simp[he]
theorem Mh{f g:List Str}(h:f.length=g.length)(s:Str)(hn : ∀ j (hj:j<f.length),f[j]≠s):VI (YL f g) s=s:=by
 unfold VI YL
 have h0:(f.zip g).reverse.find? (fun p=>p.1==s)=none:=by
  rw[List.find?_eq_none]
  intro p hp
  rw[List.mem_reverse]at hp
  obtain⟨j,hj,e2⟩:=List.getElem_of_mem hp
  rw[List.length_zip]at hj
  rw[List.getElem_zip]at e2
  have:=hn j (by omega)
  rw[<- e2]
  simpa using this
 rw[h0]
end Go.Pl
namespace Go.Pl
open Go.RowKit
open Enc (enc dec is)
open EncL (encL decL isL)
set_option maxRecDepth 100000
abbrev b8k(ps:List PV)(k:Str->Prop):Prop:=WH (fun(x:Int×Unit)=>decide (0<Prod.fst x)&&decide (Prod.fst x<=4611686018427387904)) (fun(x:Int×Unit)=>vN (Int.toNat (Prod.fst x))) ps k
abbrev d5n(ps:List PV)(k:Bool->Prop):Prop:=WH (fun(x:List Str×Str×Unit)=>decide (List.length (Prod.fst x)<=1048576)) (fun(x:List Str×Str×Unit)=>decide (Prod.fst (Prod.snd x)∈Prod.fst x)) ps k
abbrev Gu(N:Nat)(ps:List PV)(k:TS×Int->Prop):Prop:=WH (fun(x:Tm×List Str×List Str×List Str×Int×Unit)=>tW (Prod.fst x)&&(decide (List.length (Prod.fst (Prod.snd x))=List.length (Prod.fst (Prod.snd (Prod.snd x))))&&(decide (List.length (Prod.fst (Prod.snd x))+ZA (Prod.fst x)<=1048576)&&(decide (List.length (Prod.fst (Prod.snd (Prod.snd (Prod.snd x))))<=1048576)&&(decide (1<=Prod.fst (Prod.snd (Prod.snd (Prod.snd (Prod.snd x)))))&&decide (Prod.fst (Prod.snd (Prod.snd (Prod.snd (Prod.snd x))))+(↑(Zk (Prod.fst x)*(List.length (Prod.fst (Prod.snd (Prod.snd (Prod.snd x))))+1)):Int)<=4611686018427387904)))))&&decide (ZA (Prod.fst x)<N)) (fun(x:Tm×List Str×List Str×List Str×Int×Unit)=>Sl (Prod.fst x) (Prod.fst (Prod.snd x)) (Prod.fst (Prod.snd (Prod.snd x))) (Prod.fst (Prod.snd (Prod.snd (Prod.snd x)))) (Prod.fst (Prod.snd (Prod.snd (Prod.snd (Prod.snd x)))))) ps k
abbrev d6v(ps:List PV)(k:List Str->Prop):Prop:=WH (fun(x:Tm×Unit)=>tW (Prod.fst x)) (fun(x:Tm×Unit)=>ZX (Prod.fst x)) ps k
abbrev d9f(ps:List PV)(k:TS×Int->Prop):Prop:=WH (fun(x:Tm×List Str×List Str×List Str×Int×Unit)=>tW (Prod.fst x)&&(decide (List.length (Prod.fst (Prod.snd x))=List.length (Prod.fst (Prod.snd (Prod.snd x))))&&(decide (List.length (Prod.fst (Prod.snd x))+ZA (Prod.fst x)<=1048576)&&(decide (List.length (Prod.fst (Prod.snd (Prod.snd (Prod.snd x))))<=1048576)&&(decide (1<=Prod.fst (Prod.snd (Prod.snd (Prod.snd (Prod.snd x)))))&&decide (Prod.fst (Prod.snd (Prod.snd (Prod.snd (Prod.snd x))))+(↑(Zk (Prod.fst x)*(List.length (Prod.fst (Prod.snd (Prod.snd (Prod.snd x))))+1)):Int)<=4611686018427387904)))))) (fun(x:Tm×List Str×List Str×List Str×Int×Unit)=>Sl (Prod.fst x) (Prod.fst (Prod.snd x)) (Prod.fst (Prod.snd (Prod.snd x))) (Prod.fst (Prod.snd (Prod.snd (Prod.snd x)))) (Prod.fst (Prod.snd (Prod.snd (Prod.snd (Prod.snd x)))))) ps k
noncomputable def Ye:IC:=X5 Proofs.Tryz.f75
def Yd:List IRes:=[(.cell true 10 10),(.tmp 11)]
abbrev d4e:Nat:=113
noncomputable def YH(N:Nat):ZE:=YB [(75,.pure (preT (fun x:Tm×List Str×List Str×List Str×Int×Unit=>(tW x.1&&(decide (x.2.1.length=x.2.2.1.length)&&(decide (x.2.1.length+ZA x.1<=1048576)&&(decide (x.2.2.2.1.length<=1048576)&&(decide (1<=x.2.2.2.2.1)&&decide (x.2.2.2.2.1+((Zk x.1*(x.2.2.2.1.length+1):Nat):Int)<=4611686018427387904))))))&&decide (ZA x.1<N))) (Zi (fun x:Tm×List Str×List Str×List Str×Int×Unit=>Sl x.1 x.2.1 x.2.2.1 x.2.2.2.1 x.2.2.2.2.1))),(100,.pure (preT (fun x:List Str×Str×Unit=>decide (x.1.length<=1048576))) (Zi (fun x:List Str×Str×Unit=>decide (x.2.1∈x.1)))),(101,.pure (preT (fun x:Int×Unit=>decide (0<x.1)&&decide (x.1<=4611686018427387904))) (Zi (fun x:Int×Unit=>vN x.1.toNat)))]
theorem d8f{G:PV->Prop}(N:Nat)(n:Nd)(ks:List Tm)(f g a:List Str)(c:Int)(h:if (Nd.kind n==1)=true then At (YH N) 0 (Zb Yd G) Ye 0 113 [(1,(.pv (.sl 1 false (List.map enc f)))),(2,(.pv (.sl 1 false (List.map enc g)))),(3,(.pv (.sl 1 false (List.map enc a)))),(4,(.pv (.int .i64 c))),(5,(.ptr 0 0)),(10,(.ptr 1 0)),(12,(.pv (.int .i64 (IntKind.wrap IntKind.i64 ((↑(List.length (List.map enc f)):Int) - 1)))))] [(.obj (.box (ZM n ks))),(.obj (.box [(.pv (.int .i64 0)),(.pv (.int .i64 0)),(.pv (.str [])),(.pv (.int .i64 0)),(.pv (.str [])),(.pv (.sl 0 true [])),(.pv (.sl 0 true [])),(.pv (.sl 0 true [])),(.pv (.sl 0 true [])),(.pv (.sl 0 true []))]))]else(if (Nd.kind n==5)=true then if ((↑(List.length (List.map enc ks)):Int)==2)=true then At (YH N) 0 (Zb Yd G) Ye 1 113 [(1,(.pv (.sl 1 false (List.map enc f)))),(2,(.pv (.sl 1 false (List.map enc g)))),(3,(.pv (.sl 1 false (List.map enc a)))),(4,(.pv (.int .i64 c))),(5,(.ptr 0 0)),(10,(.ptr 1 0)),(13,(.pv (.bool ((↑(List.length (List.map enc ks)):Int)==2)))),(14,(.pv (.str (Str.s (Nd.name n)))))] [(.obj (.box (ZM n ks))),(.obj (.box [(.pv (.int .i64 0)),(.pv (.int .i64 0)),(.pv (.str [])),(.pv (.int .i64 0)),(.pv (.str [])),(.pv (.sl 0 true [])),(.pv (.sl 0 true [])),(.pv (.sl 0 true [])),(.pv (.sl 0 true [])),(.pv (.sl 0 true []))]))]else(At (YH N) 0 (Zb Yd G) Ye 2 113 [(1,(.pv (.sl 1 false (List.map enc f)))),(2,(.pv (.sl 1 false (List.map enc g)))),(3,(.pv (.sl 1 false (List.map enc a)))),(4,(.pv (.int .i64 c))),(5,(.ptr 0 0)),(10,(.ptr 1 0)),(13,(.pv (.bool ((↑(List.length (List.map enc ks)):Int)==2)))),(14,(.pv (.str (Str.s (Nd.name n))))),(15,(.pv (.sl 0 true []))),(16,(.pv (.int .i64 0)))] [(.obj (.box (ZM n ks))),(.obj (.box [(.pv (.int .i64 0)),(.pv (.int .i64 0)),(.pv (.str [])),(.pv (.int .i64 0)),(.pv (.str [])),(.pv (.sl 0 true [])),(.pv (.sl 0 true [])),(.pv (.sl 0 true [])),(.pv (.sl 0 true [])),(.pv (.sl 0 true []))]))])else(At (YH N) 0 (Zb Yd G) Ye 2 113 [(1,(.pv (.sl 1 false (List.map enc f)))),(2,(.pv (.sl 1 false (List.map enc g)))),(3,(.pv (.sl 1 false (List.map enc a)))),(4,(.pv (.int .i64 c))),(5,(.ptr 0 0)),(10,(.ptr 1 0)),(13,(.pv (.bool false))),(14,(.pv (.str (Str.s (Nd.name n))))),(15,(.pv (.sl 0 true []))),(16,(.pv (.int .i64 0)))] [(.obj (.box (ZM n ks))),(.obj (.box [(.pv (.int .i64 0)),(.pv (.int .i64 0)),(.pv (.str [])),(.pv (.int .i64 0)),(.pv (.str [])),(.pv (.sl 0 true [])),(.pv (.sl 0 true [])),(.pv (.sl 0 true [])),(.pv (.sl 0 true [])),(.pv (.sl 0 true []))]))]))):Zc (YH N) 0 (Zb Yd G) Ye [] (ZY 113 [.agg [enc n.kind,enc n.line,enc n.name,enc n.num,enc n.elem,enc n.dims,enc n.data,enc n.sizes,enc n.ranks,enc ks],enc f,enc g,enc a,.int .i64 c]):=Zc.tp (dm [] 30 0x222220000142222200b420200242) h
theorem b5n{G:PV->Prop}(N:Nat)(n:Nd)(ks:List Tm)(f g a:List Str)(c:Int)(i:Int)(h:if (decide (i ≥ 0))=true then(XF f i 1 fun y0=>(if (PV.asStr (List.getD (PV.cells (enc y0)) 0 default)==Str.s (Nd.name n))=true then(XF g i 1 fun y1=>(if (Nd.kind n==5)=true then if ((↑(List.length (List.map enc ks)):Int)==2)=true then At (YH N) 0 (Zb Yd G) Ye 1 113 [(1,(.pv (.sl 1 false (List.map enc f)))),(2,(.pv (.sl 1 false (List.map enc g)))),(3,(.pv (.sl 1 false (List.map enc a)))),(4,(.pv (.int .i64 c))),(5,(.ptr 0 0)),(10,(.ptr 1 0)),(13,(.pv (.bool ((↑(List.length (List.map enc ks)):Int)==2)))),(14,(.pv (.str (PV.asStr (List.getD (PV.cells (enc y1)) 0 default)))))] [(.obj (.box [(.pv (.int .i64 (Nd.kind n))),(.pv (.int .i64 (Nd.line n))),(.pv (.str (PV.asStr (List.getD (PV.cells (enc y1)) 0 default)))),(.pv (.int .i64 (Nd.num n))),(.pv (.str (Str.s (Nd.elem n)))),(.pv (.sl 1 false (List.map enc (Nd.dims n)))),(.pv (.sl 1 false (List.map enc (Nd.data n)))),(.pv (.sl 2 false (List.map enc (Nd.sizes n)))),(.pv (.sl 1 false (List.map enc (Nd.ranks n)))),(.pv (.sl 10 false (List.map enc ks)))])),(.obj (.box [(.pv (.int .i64 0)),(.pv (.int .i64 0)),(.pv (.str [])),(.pv (.int .i64 0)),(.pv (.str [])),(.pv (.sl 0 true [])),(.pv (.sl 0 true [])),(.pv (.sl 0 true [])),(.pv (.sl 0 true [])),(.pv (.sl 0 true []))]))]else(At (YH N) 0 (Zb Yd G) Ye 2 113 [(1,(.pv (.sl 1 false (List.map enc f)))),(2,(.pv (.sl 1 false (List.map enc g)))),(3,(.pv (.sl 1 false (List.map enc a)))),(4,(.pv (.int .i64 c))),(5,(.ptr 0 0)),(10,(.ptr 1 0)),(13,(.pv (.bool ((↑(List.length (List.map enc ks)):Int)==2)))),(14,(.pv (.str (PV.asStr (List.getD (PV.cells (enc y1)) 0 default))))),(15,(.pv (.sl 0 true []))),(16,(.pv (.int .i64 0)))] [(.obj (.box [(.pv (.int .i64 (Nd.kind n))),(.pv (.int .i64 (Nd.line n))),(.pv (.str (PV.asStr (List.getD (PV.cells (enc y1)) 0 default)))),(.pv (.int .i64 (Nd.num n))),(.pv (.str (Str.s (Nd.elem n)))),(.pv (.sl 1 false (List.map enc (Nd.dims n)))),(.pv (.sl 1 false (List.map enc (Nd.data n)))),(.pv (.sl 2 false (List.map enc (Nd.sizes n)))),(.pv (.sl 1 false (List.map enc (Nd.ranks n)))),(.pv (.sl 10 false (List.map enc ks)))])),(.obj (.box [(.pv (.int .i64 0)),(.pv (.int .i64 0)),(.pv (.str [])),(.pv (.int .i64 0)),(.pv (.str [])),(.pv (.sl 0 true [])),(.pv (.sl 0 true [])),(.pv (.sl 0 true [])),(.pv (.sl 0 true [])),(.pv (.sl 0 true []))]))])else(At (YH N) 0 (Zb Yd G) Ye 2 113 [(1,(.pv (.sl 1 false (List.map enc f)))),(2,(.pv (.sl 1 false (List.map enc g)))),(3,(.pv (.sl 1 false (List.map enc a)))),(4,(.pv (.int .i64 c))),(5,(.ptr 0 0)),(10,(.ptr 1 0)),(13,(.pv (.bool false))),(14,(.pv (.str (PV.asStr (List.getD (PV.cells (enc y1)) 0 default))))),(15,(.pv (.sl 0 true []))),(16,(.pv (.int .i64 0)))] [(.obj (.box [(.pv (.int .i64 (Nd.kind n))),(.pv (.int .i64 (Nd.line n))),(.pv (.str (PV.asStr (List.getD (PV.cells (enc y1)) 0 default)))),(.pv (.int .i64 (Nd.num n))),(.pv (.str (Str.s (Nd.elem n)))),(.pv (.sl 1 false (List.map enc (Nd.dims n)))),(.pv (.sl 1 false (List.map enc (Nd.data n)))),(.pv (.sl 2 false (List.map enc (Nd.sizes n)))),(.pv (.sl 1 false (List.map enc (Nd.ranks n)))),(.pv (.sl 10 false (List.map enc ks)))])),(.obj (.box [(.pv (.int .i64 0)),(.pv (.int .i64 0)),(.pv (.str [])),(.pv (.int .i64 0)),(.pv (.str [])),(.pv (.sl 0 true [])),(.pv (.sl 0 true [])),(.pv (.sl 0 true [])),(.pv (.sl 0 true [])),(.pv (.sl 0 true []))]))])))else(At (YH N) 0 (Zb Yd G) Ye 0 113 [(1,(.pv (.sl 1 false (List.map enc f)))),(2,(.pv (.sl 1 false (List.map enc g)))),(3,(.pv (.sl 1 false (List.map enc a)))),(4,(.pv (.int .i64 c))),(5,(.ptr 0 0)),(10,(.ptr 1 0)),(12,(.pv (.int .i64 (IntKind.wrap IntKind.i64 (i - 1)))))] [(.obj (.box (ZM n ks))),(.obj (.box [(.pv (.int .i64 0)),(.pv (.int .i64 0)),(.pv (.str [])),(.pv (.int .i64 0)),(.pv (.str [])),(.pv (.sl 0 true [])),(.pv (.sl 0 true [])),(.pv (.sl 0 true [])),(.pv (.sl 0 true [])),(.pv (.sl 0 true []))]))])))else(if (Nd.kind n==5)=true then if ((↑(List.length (List.map enc ks)):Int)==2)=true then At (YH N) 0 (Zb Yd G) Ye 1 113 [(1,(.pv (.sl 1 false (List.map enc f)))),(2,(.pv (.sl 1 false (List.map enc g)))),(3,(.pv (.sl 1 false (List.map enc a)))),(4,(.pv (.int .i64 c))),(5,(.ptr 0 0)),(10,(.ptr 1 0)),(13,(.pv (.bool ((↑(List.length (List.map enc ks)):Int)==2)))),(14,(.pv (.str (Str.s (Nd.name n)))))] [(.obj (.box (ZM n ks))),(.obj (.box [(.pv (.int .i64 0)),(.pv (.int .i64 0)),(.pv (.str [])),(.pv (.int .i64 0)),(.pv (.str [])),(.pv (.sl 0 true [])),(.pv (.sl 0 true [])),(.pv (.sl 0 true [])),(.pv (.sl 0 true [])),(.pv (.sl 0 true []))]))]else(At (YH N) 0 (Zb Yd G) Ye 2 113 [(1,(.pv (.sl 1 false (List.map enc f)))),(2,(.pv (.sl 1 false (List.map enc g)))),(3,(.pv (.sl 1 false (List.map enc a)))),(4,(.pv (.int .i64 c))),(5,(.ptr 0 0)),(10,(.ptr 1 0)),(13,(.pv (.bool ((↑(List.length (List.map enc ks)):Int)==2)))),(14,(.pv (.str (Str.s (Nd.name n))))),(15,(.pv (.sl 0 true []))),(16,(.pv (.int .i64 0)))] [(.obj (.box (ZM n ks))),(.obj (.box [(.pv (.int .i64 0)),(.pv (.int .i64 0)),(.pv (.str [])),(.pv (.int .i64 0)),(.pv (.str [])),(.pv (.sl 0 true [])),(.pv (.sl 0 true [])),(.pv (.sl 0 true [])),(.pv (.sl 0 true [])),(.pv (.sl 0 true []))]))])else(At (YH N) 0 (Zb Yd G) Ye 2 113 [(1,(.pv (.sl 1 false (List.map enc f)))),(2,(.pv (.sl 1 false (List.map enc g)))),(3,(.pv (.sl 1 false (List.map enc a)))),(4,(.pv (.int .i64 c))),(5,(.ptr 0 0)),(10,(.ptr 1 0)),(13,(.pv (.bool false))),(14,(.pv (.str (Str.s (Nd.name n))))),(15,(.pv (.sl 0 true []))),(16,(.pv (.int .i64 0)))] [(.obj (.box (ZM n ks))),(.obj (.box [(.pv (.int .i64 0)),(.pv (.int .i64 0)),(.pv (.str [])),(.pv (.int .i64 0)),(.pv (.str [])),(.pv (.sl 0 true [])),(.pv (.sl 0 true [])),(.pv (.sl 0 true [])),(.pv (.sl 0 true [])),(.pv (.sl 0 true []))]))]))):At (YH N) 0 (Zb Yd G) Ye 0 113 [(1,.pv (enc f)),(2,.pv (enc g)),(3,.pv (enc a)),(4,.pv (.int .i64 c)),(5,.ptr 0 0),(10,.ptr 1 0),(12,.pv (.int .i64 i))] [.obj (.box [.pv (enc n.kind),.pv (enc n.line),.pv (enc n.name),.pv (enc n.num),.pv (enc n.elem),.pv (enc n.dims),.pv (enc n.data),.pv (enc n.sizes),.pv (enc n.ranks),.pv (enc ks)]),.obj (.box [.pv (.int .i64 0),.pv (.int .i64 0),.pv (.str []),.pv (.int .i64 0),.pv (.str []),.pv (.sl 0 true []),.pv (.sl 0 true []),.pv (.sl 0 true []),.pv (.sl 0 true []),.pv (.sl 0 true [])])]:=At.tp (dm [dr Str] 63 0x222220000142222200b42020222220000142222200b422510194225102342) h
theorem d3d{G:PV->Prop}(N:Nat)(n:Nd)(ks:List Tm)(f g a:List Str)(c:Int)(b:Bool)(t:List UInt8)(h:(b8k [(.int .i64 c)] fun y0=>((d5n [(.sl 1 false (List.map enc a)),(.str (Str.s y0))] fun y1=>(if (y1)=true then At (YH N) 0 (Zb Yd G) Ye 1 113 [(1,(.pv (.sl 1 false (List.map enc f)))),(2,(.pv (.sl 1 false (List.map enc g)))),(3,(.pv (.sl 1 false (List.map enc a)))),(4,(.pv (.int .i64 (IntKind.wrap IntKind.i64 (c+1))))),(5,(.ptr 0 0)),(10,(.ptr 1 0)),(13,(.pv (.bool b))),(14,(.pv (.str t)))] [(.obj (.box (ZM n ks))),(.obj (.box [(.pv (.int .i64 0)),(.pv (.int .i64 0)),(.pv (.str [])),(.pv (.int .i64 0)),(.pv (.str [])),(.pv (.sl 0 true [])),(.pv (.sl 0 true [])),(.pv (.sl 0 true [])),(.pv (.sl 0 true [])),(.pv (.sl 0 true []))]))]else((b8k [(.int .i64 c)] fun y2=>(At (YH N) 0 (Zb Yd G) Ye 2 113 [(1,(.pv (.sl 1 false (List.map enc f)))),(2,(.pv (.sl 1 false (List.map enc g)))),(3,(.pv (.sl 1 false (List.map enc a)))),(4,(.pv (.int .i64 (IntKind.wrap IntKind.i64 (c+1))))),(5,(.ptr 0 0)),(10,(.ptr 1 0)),(13,(.pv (.bool b))),(14,(.pv (.str t))),(15,(.pv (.sl 0 true []))),(16,(.pv (.int .i64 0)))] [(.obj (.box [(.pv (.int .i64 (Nd.kind n))),(.pv (.int .i64 (Nd.line n))),(.pv (.str (Str.s y2))),(.pv (.int .i64 (Nd.num n))),(.pv (.str (Str.s (Nd.elem n)))),(.pv (.sl 1 false (List.map enc (Nd.dims n)))),(.pv (.sl 1 false (List.map enc (Nd.data n)))),(.pv (.sl 2 false (List.map enc (Nd.sizes n)))),(.pv (.sl 1 false (List.map enc (Nd.ranks n)))),(.pv (.sl 10 false (List.map enc ks)))])),(.obj (.box [(.pv (.int .i64 0)),(.pv (.int .i64 0)),(.pv (.str [])),(.pv (.int .i64 0)),(.pv (.str [])),(.pv (.sl 0 true [])),(.pv (.sl 0 true [])),(.pv (.sl 0 true [])),(.pv (.sl 0 true [])),(.pv (.sl 0 true []))]))])))))))):At (YH N) 0 (Zb Yd G) Ye 1 113 [(1,.pv (enc f)),(2,.pv (enc g)),(3,.pv (enc a)),(4,.pv (.int .i64 c)),(5,.ptr 0 0),(10,.ptr 1 0),(13,.pv (.bool b)),(14,.pv (.str t))] [.obj (.box [.pv (enc n.kind),.pv (enc n.line),.pv (enc n.name),.pv (enc n.num),.pv (enc n.elem),.pv (enc n.dims),.pv (enc n.data),.pv (enc n.sizes),.pv (enc n.ranks),.pv (enc ks)]),.obj (.box [.pv (.int .i64 0),.pv (.int .i64 0),.pv (.str []),.pv (.int .i64 0),.pv (.str []),.pv (.sl 0 true []),.pv (.sl 0 true []),.pv (.sl 0 true []),.pv (.sl 0 true []),.pv (.sl 0 true [])])]:=At.tp (dm [dv Str,dv Bool] 15 0x2510200246151) h
theorem a3q{G:PV->Prop}(N:Nat)(n:Nd)(ks:List Tm)(f g a:List Str)(c:Int)(b:Bool)(t s:List UInt8)(i:Int)(h:if (decide (i<(↑(List.length (List.map enc ks)):Int)))=true then if (b)=true then if (i==1)=true then(List.isEmpty (List.map enc f)||Enc.sz Str==1)=true∧((List.length ([]:List PV)==0&&0==0&&decide ((0+List.length (List.map enc f))*16<=1099511627776)&&decide (0+List.length (List.map enc f)<=1099511627776))=true∧((List.length (([]:List PV)++List.map enc f)==0+List.length (List.map enc f)&&0+List.length (List.map enc f)==0+List.length (List.map enc f)&&decide ((0+List.length (List.map enc f)+List.length (List.drop 0 (List.take 1 [PV.str t])))*16<=1099511627776)&&decide (0+List.length (List.map enc f)+List.length (List.drop 0 (List.take 1 [PV.str t]))<=1099511627776))=true∧((List.isEmpty (List.map enc g)||Enc.sz Str==1)=true∧((List.length ([]:List PV)==0&&0==0&&decide ((0+List.length (List.map enc g))*16<=1099511627776)&&decide (0+List.length (List.map enc g)<=1099511627776))=true∧((List.length (([]:List PV)++List.map enc g)==0+List.length (List.map enc g)&&0+List.length (List.map enc g)==0+List.length (List.map enc g)&&decide ((0+List.length (List.map enc g)+List.length (List.drop 0 (List.take 1 [PV.str s])))*16<=1099511627776)&&decide (0+List.length (List.map enc g)+List.length (List.drop 0 (List.take 1 [PV.str s]))<=1099511627776))=true∧((XF ks i 10 fun y0=>(BZ y0=true∧((List.length (([]:List PV)++List.map enc f++List.drop 0 (List.take 1 [PV.str t]))==0+List.length (List.map enc f)+List.length (List.drop 0 (List.take 1 [PV.str t])))=true∧((List.length (([]:List PV)++List.map enc g++List.drop 0 (List.take 1 [PV.str s]))==0+List.length (List.map enc g)+List.length (List.drop 0 (List.take 1 [PV.str s])))=true∧((Gu N [KZ y0,(.sl 1 false (List.drop 0 (List.take (0+List.length (List.map enc f)+List.length (List.drop 0 (List.take 1 [PV.str t]))) (([]:List PV)++List.map enc f++List.drop 0 (List.take 1 [PV.str t]))))),(.sl 1 false (List.drop 0 (List.take (0+List.length (List.map enc g)+List.length (List.drop 0 (List.take 1 [PV.str s]))) (([]:List PV)++List.map enc g++List.drop 0 (List.take 1 [PV.str s]))))),(.sl 1 false (List.map enc a)),(.int .i64 c)] fun y1=>(At (YH N) 0 (Zb Yd G) Ye 2 113 [(1,(.pv (.sl 1 false (List.map enc f)))),(2,(.pv (.sl 1 false (List.map enc g)))),(3,(.pv (.sl 1 false (List.map enc a)))),(4,(.pv (.int .i64 y1.2))),(5,(.ptr 0 0)),(10,(.ptr 1 0)),(13,(.pv (.bool b))),(14,(.pv (.str t))),(15,(.row 2 1 0 1)),(16,(.pv (.int .i64 (IntKind.wrap IntKind.i64 (i+1)))))] [(.obj (.box [(.pv (.int .i64 (Nd.kind n))),(.pv (.int .i64 (Nd.line n))),(.pv (.str s)),(.pv (.int .i64 (Nd.num n))),(.pv (.str (Str.s (Nd.elem n)))),(.pv (.sl 1 false (List.map enc (Nd.dims n)))),(.pv (.sl 1 false (List.map enc (Nd.data n)))),(.pv (.sl 2 false (List.map enc (Nd.sizes n)))),(.pv (.sl 1 false (List.map enc (Nd.ranks n)))),(.pv (.sl 10 false (List.map enc ks)))])),(.obj (.box [(.pv (.int .i64 0)),(.pv (.int .i64 0)),(.pv (.str [])),(.pv (.int .i64 0)),(.pv (.str [])),(.pv (.sl 0 true [])),(.pv (.sl 0 true [])),(.pv (.sl 0 true [])),(.pv (.sl 0 true [])),(.pv (.sl 0 true []))])),(.obj (.row false 28 10 [(eS y1.1)]))])))))))))))))else((XF ks i 10 fun y2=>(BZ y2=true∧((Gu N [KZ y2,(.sl 1 false (List.map enc f)),(.sl 1 false (List.map enc g)),(.sl 1 false (List.map enc a)),(.int .i64 c)] fun y3=>(At (YH N) 0 (Zb Yd G) Ye 2 113 [(1,(.pv (.sl 1 false (List.map enc f)))),(2,(.pv (.sl 1 false (List.map enc g)))),(3,(.pv (.sl 1 false (List.map enc a)))),(4,(.pv (.int .i64 y3.2))),(5,(.ptr 0 0)),(10,(.ptr 1 0)),(13,(.pv (.bool b))),(14,(.pv (.str t))),(15,(.row 2 1 0 1)),(16,(.pv (.int .i64 (IntKind.wrap IntKind.i64 (i+1)))))] [(.obj (.box [(.pv (.int .i64 (Nd.kind n))),(.pv (.int .i64 (Nd.line n))),(.pv (.str s)),(.pv (.int .i64 (Nd.num n))),(.pv (.str (Str.s (Nd.elem n)))),(.pv (.sl 1 false (List.map enc (Nd.dims n)))),(.pv (.sl 1 false (List.map enc (Nd.data n)))),(.pv (.sl 2 false (List.map enc (Nd.sizes n)))),(.pv (.sl 1 false (List.map enc (Nd.ranks n)))),(.pv (.sl 10 false (List.map enc ks)))])),(.obj (.box [(.pv (.int .i64 0)),(.pv (.int .i64 0)),(.pv (.str [])),(.pv (.int .i64 0)),(.pv (.str [])),(.pv (.sl 0 true [])),(.pv (.sl 0 true [])),(.pv (.sl 0 true [])),(.pv (.sl 0 true [])),(.pv (.sl 0 true []))])),(.obj (.row false 28 10 [(eS y3.1)]))]))))))else((XF ks i 10 fun y4=>(BZ y4=true∧((Gu N [KZ y4,(.sl 1 false (List.map enc f)),(.sl 1 false (List.map enc g)),(.sl 1 false (List.map enc a)),(.int .i64 c)] fun y5=>(At (YH N) 0 (Zb Yd G) Ye 2 113 [(1,(.pv (.sl 1 false (List.map enc f)))),(2,(.pv (.sl 1 false (List.map enc g)))),(3,(.pv (.sl 1 false (List.map enc a)))),(4,(.pv (.int .i64 y5.2))),(5,(.ptr 0 0)),(10,(.ptr 1 0)),(13,(.pv (.bool b))),(14,(.pv (.str t))),(15,(.row 2 1 0 1)),(16,(.pv (.int .i64 (IntKind.wrap IntKind.i64 (i+1)))))] [(.obj (.box [(.pv (.int .i64 (Nd.kind n))),(.pv (.int .i64 (Nd.line n))),(.pv (.str s)),(.pv (.int .i64 (Nd.num n))),(.pv (.str (Str.s (Nd.elem n)))),(.pv (.sl 1 false (List.map enc (Nd.dims n)))),(.pv (.sl 1 false (List.map enc (Nd.data n)))),(.pv (.sl 2 false (List.map enc (Nd.sizes n)))),(.pv (.sl 1 false (List.map enc (Nd.ranks n)))),(.pv (.sl 10 false (List.map enc ks)))])),(.obj (.box [(.pv (.int .i64 0)),(.pv (.int .i64 0)),(.pv (.str [])),(.pv (.int .i64 0)),(.pv (.str [])),(.pv (.sl 0 true [])),(.pv (.sl 0 true [])),(.pv (.sl 0 true [])),(.pv (.sl 0 true [])),(.pv (.sl 0 true []))])),(.obj (.row false 28 10 [(eS y5.1)]))]))))))else(G ((.tup [(.agg [(.int .i64 (Nd.kind n)),(.int .i64 (Nd.line n)),(.str s),(.int .i64 (Nd.num n)),(.str (Str.s (Nd.elem n))),(.sl 1 false (List.map enc (Nd.dims n))),(.sl 1 false (List.map enc (Nd.data n))),(.sl 2 false (List.map enc (Nd.sizes n))),(.sl 1 false (List.map enc (Nd.ranks n))),(.sl 0 true [])]),(.int .i64 c)])))):At (YH N) 0 (Zb Yd G) Ye 2 113 [(1,.pv (enc f)),(2,.pv (enc g)),(3,.pv (enc a)),(4,.pv (.int .i64 c)),(5,.ptr 0 0),(10,.ptr 1 0),(13,.pv (.bool b)),(14,.pv (.str t)),(15,.pv (.sl 0 true [])),(16,.pv (.int .i64 i))] [.obj (.box [.pv (enc n.kind),.pv (enc n.line),.pv (.str s),.pv (enc n.num),.pv (enc n.elem),.pv (enc n.dims),.pv (enc n.data),.pv (enc n.sizes),.pv (enc n.ranks),.pv (enc ks)]),.obj (.box [.pv (.int .i64 0),.pv (.int .i64 0),.pv (.str []),.pv (.int .i64 0),.pv (.str []),.pv (.sl 0 true []),.pv (.sl 0 true []),.pv (.sl 0 true []),.pv (.sl 0 true []),.pv (.sl 0 true [])])]:=At.tp (dm [dr Tm,dv (TS×Int)] 71 0x222222611512220222222611510222222611115112211212211201a422202d404042) h
theorem a2u{G:PV->Prop}(N:Nat)(n:Nd)(ks:List Tm)(f g a:List Str)(c:Int)(b:Bool)(t s:List UInt8)(o:List Tm)(L:Nat)(i:Int)(h:if (decide (i<(↑(List.length (List.map enc ks)):Int)))=true then if (b)=true then if (i==1)=true then(List.isEmpty (List.map enc f)||Enc.sz Str==1)=true∧((List.length ([]:List PV)==0&&0==0&&decide ((0+List.length (List.map enc f))*16<=1099511627776)&&decide (0+List.length (List.map enc f)<=1099511627776))=true∧((List.length (([]:List PV)++List.map enc f)==0+List.length (List.map enc f)&&0+List.length (List.map enc f)==0+List.length (List.map enc f)&&decide ((0+List.length (List.map enc f)+List.length (List.drop 0 (List.take 1 [PV.str t])))*16<=1099511627776)&&decide (0+List.length (List.map enc f)+List.length (List.drop 0 (List.take 1 [PV.str t]))<=1099511627776))=true∧((List.isEmpty (List.map enc g)||Enc.sz Str==1)=true∧((List.length ([]:List PV)==0&&0==0&&decide ((0+List.length (List.map enc g))*16<=1099511627776)&&decide (0+List.length (List.map enc g)<=1099511627776))=true∧((List.length (([]:List PV)++List.map enc g)==0+List.length (List.map enc g)&&0+List.length (List.map enc g)==0+List.length (List.map enc g)&&decide ((0+List.length (List.map enc g)+List.length (List.drop 0 (List.take 1 [PV.str s])))*16<=1099511627776)&&decide (0+List.length (List.map enc g)+List.length (List.drop 0 (List.take 1 [PV.str s]))<=1099511627776))=true∧((XF ks i 10 fun y0=>(BZ y0=true∧((List.length (([]:List PV)++List.map enc f++List.drop 0 (List.take 1 [PV.str t]))==0+List.length (List.map enc f)+List.length (List.drop 0 (List.take 1 [PV.str t])))=true∧((List.length (([]:List PV)++List.map enc g++List.drop 0 (List.take 1 [PV.str s]))==0+List.length (List.map enc g)+List.length (List.drop 0 (List.take 1 [PV.str s])))=true∧((Gu N [KZ y0,(.sl 1 false (List.drop 0 (List.take (0+List.length (List.map enc f)+List.length (List.drop 0 (List.take 1 [PV.str t]))) (([]:List PV)++List.map enc f++List.drop 0 (List.take 1 [PV.str t]))))),(.sl 1 false (List.drop 0 (List.take (0+List.length (List.map enc g)+List.length (List.drop 0 (List.take 1 [PV.str s]))) (([]:List PV)++List.map enc g++List.drop 0 (List.take 1 [PV.str s]))))),(.sl 1 false (List.map enc a)),(.int .i64 c)] fun y1=>((List.length (List.map enc o)==L&&L==L&&decide ((L+List.length (List.drop 0 (List.take 1 [PV.agg [enc (Nd.kind (TS.n y1.1)),enc (Nd.line (TS.n y1.1)),enc (Nd.name (TS.n y1.1)),enc (Nd.num (TS.n y1.1)),enc (Nd.elem (TS.n y1.1)),enc (Nd.dims (TS.n y1.1)),enc (Nd.data (TS.n y1.1)),enc (Nd.sizes (TS.n y1.1)),enc (Nd.ranks (TS.n y1.1)),enc (TS.k y1.1)]])))*176<=1099511627776)&&decide (L+List.length (List.drop 0 (List.take 1 [PV.agg [enc (Nd.kind (TS.n y1.1)),enc (Nd.line (TS.n y1.1)),enc (Nd.name (TS.n y1.1)),enc (Nd.num (TS.n y1.1)),enc (Nd.elem (TS.n y1.1)),enc (Nd.dims (TS.n y1.1)),enc (Nd.data (TS.n y1.1)),enc (Nd.sizes (TS.n y1.1)),enc (Nd.ranks (TS.n y1.1)),enc (TS.k y1.1)]]))<=1099511627776))=true∧(At (YH N) 0 (Zb Yd G) Ye 2 113 [(1,(.pv (.sl 1 false (List.map enc f)))),(2,(.pv (.sl 1 false (List.map enc g)))),(3,(.pv (.sl 1 false (List.map enc a)))),(4,(.pv (.int .i64 y1.2))),(5,(.ptr 0 0)),(10,(.ptr 1 0)),(13,(.pv (.bool b))),(14,(.pv (.str t))),(15,(.row 2 (L+List.length (List.drop 0 (List.take 1 [PV.agg [enc (Nd.kind (TS.n y1.1)),enc (Nd.line (TS.n y1.1)),enc (Nd.name (TS.n y1.1)),enc (Nd.num (TS.n y1.1)),enc (Nd.elem (TS.n y1.1)),enc (Nd.dims (TS.n y1.1)),enc (Nd.data (TS.n y1.1)),enc (Nd.sizes (TS.n y1.1)),enc (Nd.ranks (TS.n y1.1)),enc (TS.k y1.1)]]))) 0 (L+List.length (List.drop 0 (List.take 1 [PV.agg [enc (Nd.kind (TS.n y1.1)),enc (Nd.line (TS.n y1.1)),enc (Nd.name (TS.n y1.1)),enc (Nd.num (TS.n y1.1)),enc (Nd.elem (TS.n y1.1)),enc (Nd.dims (TS.n y1.1)),enc (Nd.data (TS.n y1.1)),enc (Nd.sizes (TS.n y1.1)),enc (Nd.ranks (TS.n y1.1)),enc (TS.k y1.1)]]))))),(16,(.pv (.int .i64 (IntKind.wrap IntKind.i64 (i+1)))))] [(.obj (.box [(.pv (.int .i64 (Nd.kind n))),(.pv (.int .i64 (Nd.line n))),(.pv (.str s)),(.pv (.int .i64 (Nd.num n))),(.pv (.str (Str.s (Nd.elem n)))),(.pv (.sl 1 false (List.map enc (Nd.dims n)))),(.pv (.sl 1 false (List.map enc (Nd.data n)))),(.pv (.sl 2 false (List.map enc (Nd.sizes n)))),(.pv (.sl 1 false (List.map enc (Nd.ranks n)))),(.pv (.sl 10 false (List.map enc ks)))])),(.obj (.box [(.pv (.int .i64 0)),(.pv (.int .i64 0)),(.pv (.str [])),(.pv (.int .i64 0)),(.pv (.str [])),(.pv (.sl 0 true [])),(.pv (.sl 0 true [])),(.pv (.sl 0 true [])),(.pv (.sl 0 true [])),(.pv (.sl 0 true []))])),(.obj (.row false 28 10 (List.map enc o++List.drop 0 (List.take 1 [PV.agg [enc (Nd.kind (TS.n y1.1)),enc (Nd.line (TS.n y1.1)),enc (Nd.name (TS.n y1.1)),enc (Nd.num (TS.n y1.1)),enc (Nd.elem (TS.n y1.1)),enc (Nd.dims (TS.n y1.1)),enc (Nd.data (TS.n y1.1)),enc (Nd.sizes (TS.n y1.1)),enc (Nd.ranks (TS.n y1.1)),enc (TS.k y1.1)]]))))]))))))))))))))else((XF ks i 10 fun y2=>(BZ y2=true∧((Gu N [KZ y2,(.sl 1 false (List.map enc f)),(.sl 1 false (List.map enc g)),(.sl 1 false (List.map enc a)),(.int .i64 c)] fun y3=>((List.length (List.map enc o)==L&&L==L&&decide ((L+List.length (List.drop 0 (List.take 1 [PV.agg [enc (Nd.kind (TS.n y3.1)),enc (Nd.line (TS.n y3.1)),enc (Nd.name (TS.n y3.1)),enc (Nd.num (TS.n y3.1)),enc (Nd.elem (TS.n y3.1)),enc (Nd.dims (TS.n y3.1)),enc (Nd.data (TS.n y3.1)),enc (Nd.sizes (TS.n y3.1)),enc (Nd.ranks (TS.n y3.1)),enc (TS.k y3.1)]])))*176<=1099511627776)&&decide (L+List.length (List.drop 0 (List.take 1 [PV.agg [enc (Nd.kind (TS.n y3.1)),enc (Nd.line (TS.n y3.1)),enc (Nd.name (TS.n y3.1)),enc (Nd.num (TS.n y3.1)),enc (Nd.elem (TS.n y3.1)),enc (Nd.dims (TS.n y3.1)),enc (Nd.data (TS.n y3.1)),enc (Nd.sizes (TS.n y3.1)),enc (Nd.ranks (TS.n y3.1)),enc (TS.k y3.1)]]))<=1099511627776))=true∧(At (YH N) 0 (Zb Yd G) Ye 2 113 [(1,(.pv (.sl 1 false (List.map enc f)))),(2,(.pv (.sl 1 false (List.map enc g)))),(3,(.pv (.sl 1 false (List.map enc a)))),(4,(.pv (.int .i64 y3.2))),(5,(.ptr 0 0)),(10,(.ptr 1 0)),(13,(.pv (.bool b))),(14,(.pv (.str t))),(15,(.row 2 (L+List.length (List.drop 0 (List.take 1 [PV.agg [enc (Nd.kind (TS.n y3.1)),enc (Nd.line (TS.n y3.1)),enc (Nd.name (TS.n y3.1)),enc (Nd.num (TS.n y3.1)),enc (Nd.elem (TS.n y3.1)),enc (Nd.dims (TS.n y3.1)),enc (Nd.data (TS.n y3.1)),enc (Nd.sizes (TS.n y3.1)),enc (Nd.ranks (TS.n y3.1)),enc (TS.k y3.1)]]))) 0 (L+List.length (List.drop 0 (List.take 1 [PV.agg [enc (Nd.kind (TS.n y3.1)),enc (Nd.line (TS.n y3.1)),enc (Nd.name (TS.n y3.1)),enc (Nd.num (TS.n y3.1)),enc (Nd.elem (TS.n y3.1)),enc (Nd.dims (TS.n y3.1)),enc (Nd.data (TS.n y3.1)),enc (Nd.sizes (TS.n y3.1)),enc (Nd.ranks (TS.n y3.1)),enc (TS.k y3.1)]]))))),(16,(.pv (.int .i64 (IntKind.wrap IntKind.i64 (i+1)))))] [(.obj (.box [(.pv (.int .i64 (Nd.kind n))),(.pv (.int .i64 (Nd.line n))),(.pv (.str s)),(.pv (.int .i64 (Nd.num n))),(.pv (.str (Str.s (Nd.elem n)))),(.pv (.sl 1 false (List.map enc (Nd.dims n)))),(.pv (.sl 1 false (List.map enc (Nd.data n)))),(.pv (.sl 2 false (List.map enc (Nd.sizes n)))),(.pv (.sl 1 false (List.map enc (Nd.ranks n)))),(.pv (.sl 10 false (List.map enc ks)))])),(.obj (.box [(.pv (.int .i64 0)),(.pv (.int .i64 0)),(.pv (.str [])),(.pv (.int .i64 0)),(.pv (.str [])),(.pv (.sl 0 true [])),(.pv (.sl 0 true [])),(.pv (.sl 0 true [])),(.pv (.sl 0 true [])),(.pv (.sl 0 true []))])),(.obj (.row false 28 10 (List.map enc o++List.drop 0 (List.take 1 [PV.agg [enc (Nd.kind (TS.n y3.1)),enc (Nd.line (TS.n y3.1)),enc (Nd.name (TS.n y3.1)),enc (Nd.num (TS.n y3.1)),enc (Nd.elem (TS.n y3.1)),enc (Nd.dims (TS.n y3.1)),enc (Nd.data (TS.n y3.1)),enc (Nd.sizes (TS.n y3.1)),enc (Nd.ranks (TS.n y3.1)),enc (TS.k y3.1)]]))))])))))))else((XF ks i 10 fun y4=>(BZ y4=true∧((Gu N [KZ y4,(.sl 1 false (List.map enc f)),(.sl 1 false (List.map enc g)),(.sl 1 false (List.map enc a)),(.int .i64 c)] fun y5=>((List.length (List.map enc o)==L&&L==L&&decide ((L+List.length (List.drop 0 (List.take 1 [PV.agg [enc (Nd.kind (TS.n y5.1)),enc (Nd.line (TS.n y5.1)),enc (Nd.name (TS.n y5.1)),enc (Nd.num (TS.n y5.1)),enc (Nd.elem (TS.n y5.1)),enc (Nd.dims (TS.n y5.1)),enc (Nd.data (TS.n y5.1)),enc (Nd.sizes (TS.n y5.1)),enc (Nd.ranks (TS.n y5.1)),enc (TS.k y5.1)]])))*176<=1099511627776)&&decide (L+List.length (List.drop 0 (List.take 1 [PV.agg [enc (Nd.kind (TS.n y5.1)),enc (Nd.line (TS.n y5.1)),enc (Nd.name (TS.n y5.1)),enc (Nd.num (TS.n y5.1)),enc (Nd.elem (TS.n y5.1)),enc (Nd.dims (TS.n y5.1)),enc (Nd.data (TS.n y5.1)),enc (Nd.sizes (TS.n y5.1)),enc (Nd.ranks (TS.n y5.1)),enc (TS.k y5.1)]]))<=1099511627776))=true∧(At (YH N) 0 (Zb Yd G) Ye 2 113 [(1,(.pv (.sl 1 false (List.map enc f)))),(2,(.pv (.sl 1 false (List.map enc g)))),(3,(.pv (.sl 1 false (List.map enc a)))),(4,(.pv (.int .i64 y5.2))),(5,(.ptr 0 0)),(10,(.ptr 1 0)),(13,(.pv (.bool b))),(14,(.pv (.str t))),(15,(.row 2 (L+List.length (List.drop 0 (List.take 1 [PV.agg [enc (Nd.kind (TS.n y5.1)),enc (Nd.line (TS.n y5.1)),enc (Nd.name (TS.n y5.1)),enc (Nd.num (TS.n y5.1)),enc (Nd.elem (TS.n y5.1)),enc (Nd.dims (TS.n y5.1)),enc (Nd.data (TS.n y5.1)),enc (Nd.sizes (TS.n y5.1)),enc (Nd.ranks (TS.n y5.1)),enc (TS.k y5.1)]]))) 0 (L+List.length (List.drop 0 (List.take 1 [PV.agg [enc (Nd.kind (TS.n y5.1)),enc (Nd.line (TS.n y5.1)),enc (Nd.name (TS.n y5.1)),enc (Nd.num (TS.n y5.1)),enc (Nd.elem (TS.n y5.1)),enc (Nd.dims (TS.n y5.1)),enc (Nd.data (TS.n y5.1)),enc (Nd.sizes (TS.n y5.1)),enc (Nd.ranks (TS.n y5.1)),enc (TS.k y5.1)]]))))),(16,(.pv (.int .i64 (IntKind.wrap IntKind.i64 (i+1)))))] [(.obj (.box [(.pv (.int .i64 (Nd.kind n))),(.pv (.int .i64 (Nd.line n))),(.pv (.str s)),(.pv (.int .i64 (Nd.num n))),(.pv (.str (Str.s (Nd.elem n)))),(.pv (.sl 1 false (List.map enc (Nd.dims n)))),(.pv (.sl 1 false (List.map enc (Nd.data n)))),(.pv (.sl 2 false (List.map enc (Nd.sizes n)))),(.pv (.sl 1 false (List.map enc (Nd.ranks n)))),(.pv (.sl 10 false (List.map enc ks)))])),(.obj (.box [(.pv (.int .i64 0)),(.pv (.int .i64 0)),(.pv (.str [])),(.pv (.int .i64 0)),(.pv (.str [])),(.pv (.sl 0 true [])),(.pv (.sl 0 true [])),(.pv (.sl 0 true [])),(.pv (.sl 0 true [])),(.pv (.sl 0 true []))])),(.obj (.row false 28 10 (List.map enc o++List.drop 0 (List.take 1 [PV.agg [enc (Nd.kind (TS.n y5.1)),enc (Nd.line (TS.n y5.1)),enc (Nd.name (TS.n y5.1)),enc (Nd.num (TS.n y5.1)),enc (Nd.elem (TS.n y5.1)),enc (Nd.dims (TS.n y5.1)),enc (Nd.data (TS.n y5.1)),enc (Nd.sizes (TS.n y5.1)),enc (Nd.ranks (TS.n y5.1)),enc (TS.k y5.1)]]))))])))))))else((List.length (List.map enc o)==L)=true∧(G ((.tup [(.agg [(.int .i64 (Nd.kind n)),(.int .i64 (Nd.line n)),(.str s),(.int .i64 (Nd.num n)),(.str (Str.s (Nd.elem n))),(.sl 1 false (List.map enc (Nd.dims n))),(.sl 1 false (List.map enc (Nd.data n))),(.sl 2 false (List.map enc (Nd.sizes n))),(.sl 1 false (List.map enc (Nd.ranks n))),(.sl 10 false (List.drop 0 (List.take L (List.map enc o))))]),(.int .i64 c)]))))):At (YH N) 0 (Zb Yd G) Ye 2 113 [(1,.pv (enc f)),(2,.pv (enc g)),(3,.pv (enc a)),(4,.pv (.int .i64 c)),(5,.ptr 0 0),(10,.ptr 1 0),(13,.pv (.bool b)),(14,.pv (.str t)),(15,.row 2 L 0 L),(16,.pv (.int .i64 i))] [.obj (.box [.pv (enc n.kind),.pv (enc n.line),.pv (.str s),.pv (enc n.num),.pv (enc n.elem),.pv (enc n.dims),.pv (enc n.data),.pv (enc n.sizes),.pv (enc n.ranks),.pv (enc ks)]),.obj (.box [.pv (.int .i64 0),.pv (.int .i64 0),.pv (.str []),.pv (.int .i64 0),.pv (.str []),.pv (.sl 0 true []),.pv (.sl 0 true []),.pv (.sl 0 true []),.pv (.sl 0 true []),.pv (.sl 0 true [])]),.obj (.row false 28 10 (o.map enc))]:=At.tp (dm [dr Tm,dv (TS×Int)] 66 0x1021226115122202122611510212261111511221121221120184222029403a42) h
noncomputable def OJ:IC:=X5 Proofs.Tryz.f46
def EI:List IRes:=[(.cell true 10 2)]
abbrev d2p:Nat:=13
noncomputable def b5k:ZE:=YB [(75,.pure (preT (fun x:Tm×List Str×List Str×List Str×Int×Unit=>tW x.1&&(decide (x.2.1.length=x.2.2.1.length)&&(decide (x.2.1.length+ZA x.1<=1048576)&&(decide (x.2.2.2.1.length<=1048576)&&(decide (1<=x.2.2.2.2.1)&&decide (x.2.2.2.2.1+((Zk x.1*(x.2.2.2.1.length+1):Nat):Int)<=4611686018427387904))))))) (Zi (fun x:Tm×List Str×List Str×List Str×Int×Unit=>Sl x.1 x.2.1 x.2.2.1 x.2.2.2.1 x.2.2.2.2.1))),(40,.pure (preT (fun x:Tm×Unit=>tW x.1)) (Zi (fun x:Tm×Unit=>ZX x.1)))]
theorem d6l{G:PV->Prop}(n:Nd)(ks:List Tm)(h:(d6v (Jg n ks) fun y0=>((d9f [(ndC n ks),(.sl 0 true []),(.sl 0 true []),(.sl 1 false (List.map enc y0)),(.int .i64 1)] fun y1=>(G ((eS y1.1))))))):Zc b5k 0 (Zb EI G) OJ [] (ZY 13 [.agg [enc n.kind,enc n.line,enc n.name,enc n.num,enc n.elem,enc n.dims,enc n.data,enc n.sizes,enc n.ranks,enc ks]]):=Zc.tp (.req (.abs (List Str) (fun YY=>AV.pv (enc YY)) (.req (.abs (TS×Int) (fun YY=>AV.pv (enc YY)) (.nil))))) h
end Go.Pl
namespace Go.Pl
open Go.RowKit
open Enc (enc dec is)
open EncL (encL decL isL)
def sdX(n:Nd)(ks:List Tm)(s:List UInt8):List AV:=[.pv (.int .i64 n.kind),.pv (.int .i64 n.line),.pv (.str s),.pv (.int .i64 n.num),.pv (.str n.elem.s),.pv (.sl 1 false (n.dims.map enc)),.pv (.sl 1 false (n.data.map enc)),.pv (.sl 2 false (n.sizes.map enc)),.pv (.sl 1 false (n.ranks.map enc)),.pv (.sl 10 false (ks.map enc))]
def sdZ:List AV:=[.pv (.int .i64 0),.pv (.int .i64 0),.pv (.str []),.pv (.int .i64 0),.pv (.str []),.pv (.sl 0 true []),.pv (.sl 0 true []),.pv (.sl 0 true []),.pv (.sl 0 true []),.pv (.sl 0 true [])]
theorem b8t(t:Tm)(f g a:List Str)(k:Nat):Sl t f g a ((k:Int)+1)=(K3 (Y9 a (YL f g) k t).1,((Y9 a (YL f g) k t).2:Int)+1):=by
 unfold Sl
 rw[show((k:Int)+1 - 1).toNat=k by omega]
theorem E5{N:Nat}{t:Tm}{f g a:List Str}{k:Nat}{ps:List PV}{K:TS×Int->Prop}(e:ps=encL (t,f,g,a,((k:Int)+1),()))(hw:tW t=true)(hfg:f.length=g.length)(h1:f.length+ZA t<=1048576)(ha:a.length<=1048576)(hc:k+1+Zk t*(a.length+1)<=4611686018427387904)(hd:ZA t<N)
  (h:K (K3 (Y9 a (YL f g) k t).1,((Y9 a (YL f g) k t).2:Int)+1)):Gu N ps K:=by
 refine⟨Ze (t,f,g,a,((k:Int)+1),()) e ?_,Zd (t,f,g,a,((k:Int)+1),()) e ?_⟩
 ·show(tW t&&(decide (f.length=g.length)&&(decide (f.length+ZA t<=1048576)&&(decide (a.length<=1048576)&&(decide (1<=(k:Int)+1)&&decide ((k:Int)+1+((Zk t*(a.length+1):Nat):Int)<=4611686018427387904)))))&&decide (ZA t<N))=true
  rw[hw,decide_eq_true hfg,decide_eq_true h1,decide_eq_true ha,decide_eq_true (show 1<=(k:Int)+1 by omega),decide_eq_true (show(k:Int)+1+((Zk t*(a.length+1):Nat):Int)<=4611686018427387904 by omega),decide_eq_true hd]
  rfl
 ·show K (Sl t f g a ((k:Int)+1))
  rw[b8t]
  exact h
theorem sd5(t:Tm)(f g a:List Str)(c:Int):([KZ t,.sl 1 false (f.map enc),.sl 1 false (g.map enc),.sl 1 false (a.map enc),.int .i64 c]:List PV)=encL (t,f,g,a,c,()):=by rw[BH];rfl
theorem b0h(b:List Str)(s:List UInt8):(PV.sl 1 false (List.drop 0 (List.take (0+List.length (List.map (enc:Str->PV) b)+List.length (List.drop 0 (List.take 1 [PV.str s]))) (([]:List PV)++List.map enc b++List.drop 0 (List.take 1 [PV.str s]))))) = .sl 1 false ((b++[(⟨s⟩:Str)]).map enc):=b7w b ⟨s⟩
theorem d1l(n:Nd)(o:List Tm)(s:List UInt8)(k:Nat):Zm (K3 (Tm.mk (Cv n ⟨s⟩) o),((k:Int)+1)) (.tup [.agg [.int .i64 n.kind,.int .i64 n.line,.str s,.int .i64 n.num,.str n.elem.s,.sl 1 false (n.dims.map enc),.sl 1 false (n.data.map enc),.sl 2 false (n.sizes.map enc),.sl 1 false (n.ranks.map enc),.sl 10 false (o.map enc)],.int .i64 ((k:Int)+1)]):=Y6 (x:=(K3 (Tm.mk (Cv n ⟨s⟩) o),((k:Int)+1))) rfl
theorem c3d(n:Nd)(s:List UInt8)(k:Nat):Zm (K3 (Tm.mk (Cv n ⟨s⟩) []),((k:Int)+1)) (.tup [.agg [.int .i64 n.kind,.int .i64 n.line,.str s,.int .i64 n.num,.str n.elem.s,.sl 1 false (n.dims.map enc),.sl 1 false (n.data.map enc),.sl 2 false (n.sizes.map enc),.sl 1 false (n.ranks.map enc),.sl 0 true []],.int .i64 ((k:Int)+1)]):=by
 have h1:is TS (.agg [enc n.kind,enc n.line,enc (⟨s⟩:Str),enc n.num,enc n.elem,enc n.dims,enc n.data,enc n.sizes,enc n.ranks,.sl 0 true []])=true:=by
  show(is Int (enc n.kind)&&is Int (enc n.line)&&is Str (enc (⟨s⟩:Str))&&is Int (enc n.num)&&is Str (enc n.elem)&&is (List Int) (enc n.dims)&&is (List Int) (enc n.data)&&is (List Lin) (enc n.sizes)&&is (List Int) (enc n.ranks)&&is (List Tm) (.sl 0 true []))=true
  simp only[Enc.is_enc,Bool.true_and]
  rfl
 have h2:(dec (.agg [enc n.kind,enc n.line,enc (⟨s⟩:Str),enc n.num,enc n.elem,enc n.dims,enc n.data,enc n.sizes,enc n.ranks,.sl 0 true []]):TS)=K3 (Tm.mk (Cv n ⟨s⟩) []):=by
  show(⟨⟨dec (enc n.kind),dec (enc n.line),dec (enc (⟨s⟩:Str)),dec (enc n.num),dec (enc n.elem),dec (enc n.dims),dec (enc n.data),dec (enc n.sizes),dec (enc n.ranks)⟩,dec (.sl 0 true [])⟩:TS)=_
  simp only[Enc.dec_enc]
  rfl
 refine⟨?_,?_⟩
 ·show(is TS (.agg [enc n.kind,enc n.line,enc (⟨s⟩:Str),enc n.num,enc n.elem,enc n.dims,enc n.data,enc n.sizes,enc n.ranks,.sl 0 true []])&&is Int (enc ((k:Int)+1)))=true
  rw[h1,Enc.is_enc];rfl
 ·show((dec (.agg [enc n.kind,enc n.line,enc (⟨s⟩:Str),enc n.num,enc n.elem,enc n.dims,enc n.data,enc n.sizes,enc n.ranks,.sl 0 true []]):TS),(dec (enc ((k:Int)+1)):Int))=_
  rw[h2,Enc.dec_enc]
def FC(b:Bool)(t s:List UInt8)(f g:List Str):List (Str×Str):=if b then((⟨t⟩:Str),(⟨s⟩:Str))::YL f g else YL f g
section
variable (N:Nat) (n:Nd) (ks:List Tm) (f g a:List Str)
theorem b8b{N:Nat}{f g a:List Str}{b:Bool}{t s:List UInt8}{k i:Nat}{x:Tm}{K:TS×Int->Prop}(hi:b=true->i<=1)(hfg:f.length=g.length)(hw:tW x=true)(h1:f.length+ZA x+1<=1048576)(ha:a.length<=1048576)(hc:k+1+Zk x*(a.length+1)<=4611686018427387904)(hd:ZA x<N)
  (h:K (K3 (Y9 a (if i=0 then YL f g else FC b t s f g) k x).1,((Y9 a (if i=0 then YL f g else FC b t s f g) k x).2:Int)+1)) :
  ((b=true∧i=1)->Gu N [KZ x,.sl 1 false ((f++[(⟨t⟩:Str)]).map enc),.sl 1 false ((g++[(⟨s⟩:Str)]).map enc),.sl 1 false (a.map enc),.int .i64 ((k:Int)+1)] K)∧(¬ (b=true∧i=1)->Gu N [KZ x,.sl 1 false (f.map enc),.sl 1 false (g.map enc),.sl 1 false (a.map enc),.int .i64 ((k:Int)+1)] K):=by
 refine⟨fun hb=> ?_,fun hb=> ?_⟩
 ·rw[if_neg (by omega)]at h
  unfold FC at h
  rw[if_pos hb.1,<- a9d hfg]at h
  exact E5 (sd5 x (f++[(⟨t⟩:Str)]) (g++[(⟨s⟩:Str)]) a _) hw (by simp[hfg]) (by simp;omega) ha hc hd h
 ·have e:(if i=0 then YL f g else FC b t s f g)=YL f g:=by
   by_cases h0:i=0
   ·rw[if_pos h0]
   ·rw[if_neg h0]
    unfold FC
    by_cases hb1:b=true
    ·have:=hi hb1
     exact absurd ⟨hb1,by omega⟩ hb
    ·rw[if_neg hb1]
  rw[e]at h
  exact E5 (sd5 x f g a _) hw hfg (by omega) ha hc hd h
theorem d0i(hfg:f.length=g.length)(ha:a.length<=1048576)(hw:tW (.mk n ks)=true)(h1:f.length+ZP ks+1<=1048576)(hd:ZP ks<N)(b:Bool)(t s:List UInt8)(hb:b=true->ks.length<=2)(R:TS×Int): ∀ (d i:Nat) (o:List Tm) (L k:Nat),d+i=ks.length->L=o.length->L<=i->k+1+Zo (ks.drop i)*(a.length+1)<=4611686018427387904 ->
  R=(K3 (Tm.mk (Cv n ⟨s⟩) (o++(Yr a (YL f g) (FC b t s f g) i k (ks.drop i)).1)),((Yr a (YL f g) (FC b t s f g) i k (ks.drop i)).2:Int)+1) ->
  At (YH N) 0 (Zb Yd (Zm R)) Ye 2 113 [(1,.pv (enc f)),(2,.pv (enc g)),(3,.pv (enc a)),(4,.pv (.int .i64 ((k:Int)+1))),(5,.ptr 0 0),(10,.ptr 1 0),(13,.pv (.bool b)),(14,.pv (.str t)),(15,.row 2 L 0 L),(16,.pv (.int .i64 i))] [.obj (.box (sdX n ks s)),.obj (.box sdZ),.obj (.row false 28 10 (o.map enc))]:=by
 have hkl:=(Yo hw).1
 intro d
 induction d with
 | zero=>
  intro i o L k hi hL hl hc hR
  rw[List.drop_eq_nil_of_le (by omega),Yr,List.append_nil]at hR
  refine a2u N n ks f g a ((k:Int)+1) b t s o L i (Yz (XA (by omega)) ⟨by simp[hL],?_⟩)
  have e:List.drop 0 (List.take L (List.map (enc:Tm->PV) o))=o.map enc:=by rw[List.drop_zero,List.take_of_length_le (by simp[hL])]
  rw[e,hR]
  exact d1l n o s k
 | succ d ih=>
  intro i o L k hi hL hl hc hR
  have h2:i<ks.length:=by omega
  have hwk:=(Yo hw).2 _ (List.getElem_mem h2)
  have hdk:=Qa (List.getElem_mem h2)
  rw[List.drop_eq_getElem_cons h2,Zo,Nat.add_mul]at hc
  rw[List.drop_eq_getElem_cons h2,Yr]at hR
  have hle:=CZ a (if i=0 then YL f g else FC b t s f g) k ks[i]
  have nx : ∀ l:List PV,l=[enc (Y9 a (if i=0 then YL f g else FC b t s f g) k ks[i]).1] ->
    At (YH N) 0 (Zb Yd (Zm R)) Ye 2 113 [(1,.pv (enc f)),(2,.pv (enc g)),(3,.pv (enc a)),(4,.pv (.int .i64 (((Y9 a (if i=0 then YL f g else FC b t s f g) k ks[i]).2:Int)+1))),(5,.ptr 0 0),(10,.ptr 1 0),(13,.pv (.bool b)),(14,.pv (.str t)),(15,.row 2 (L+l.length) 0 (L+l.length)),(16,.pv (.int .i64 (IntKind.i64.wrap ((i:Int)+1))))] [.obj (.box (sdX n ks s)),.obj (.box sdZ),.obj (.row false 28 10 (o.map enc++l))]:=by
   rintro l rfl
   rw[next (by omega)]
   have h:=ih (i+1) (o++[(Y9 a (if i=0 then YL f g else FC b t s f g) k ks[i]).1]) (L+1) (Y9 a (if i=0 then YL f g else FC b t s f g) k ks[i]).2 (by omega) (by simp;omega) (by omega) (by omega) (by rw[hR];simp)
   rw[List.map_append]at h
   exact h
  have bd : ∀ l:List PV,l.length=1->(List.length (List.map (enc:Tm->PV) o)==L&&L==L&&decide ((L+l.length)*176<=1099511627776)&&decide (L+l.length<=1099511627776))=true:=fun l hl1=>by
   rw[hl1];simp;omega
  have kid:=fun(K:TS×Int->Prop) (h:K (K3 (Y9 a (if i=0 then YL f g else FC b t s f g) k ks[i]).1,((Y9 a (if i=0 then YL f g else FC b t s f g) k ks[i]).2:Int)+1))=>b8b (N:=N) (K:=K) (fun hb1=>by have:=hb hb1;omega) hfg hwk (by omega) ha (by omega) (by omega) h
  refine a2u N n ks f g a ((k:Int)+1) b t s o L i (Yq (Xb h2) (VB (fun hb1=>Y1 (fun k1=> ?_) fun k1=> ?_) fun hb1=> ?_))
  ·refine⟨by simp[show Enc.sz Str=1 from rfl],by simp;omega,by simp;omega,by simp[show Enc.sz Str=1 from rfl],by simp;omega,by simp;omega,Zn h2 rfl,Zw h2 ⟨XL _,by simp,by simp,?_⟩⟩
   rw[b0h,b0h]
   exact(kid _ ⟨bd _ rfl,nx _ (congrArg (fun z=>[z]) (Q3 _))⟩).1 ⟨hb1,by omega⟩
  ·exact⟨Zn h2 rfl,Zw h2 ⟨XL _,(kid _ ⟨bd _ rfl,nx _ (congrArg (fun z=>[z]) (Q3 _))⟩).2 (fun h=>k1 (by omega))⟩⟩
  ·exact⟨Zn h2 rfl,Zw h2 ⟨XL _,(kid _ ⟨bd _ rfl,nx _ (congrArg (fun z=>[z]) (Q3 _))⟩).2 (fun h=>by rw[hb1]at h;cases h.1)⟩⟩
theorem a3h(hfg:f.length=g.length)(ha:a.length<=1048576)(hw:tW (.mk n ks)=true)(h1:f.length+ZP ks+1<=1048576)(hd:ZP ks<N)(b:Bool)(t s:List UInt8)(hb:b=true->ks.length<=2)(R:TS×Int)(k:Nat)(hc:k+1+Zo ks*(a.length+1)<=4611686018427387904)
  (hR:R=(K3 (Tm.mk (Cv n ⟨s⟩) (Yr a (YL f g) (FC b t s f g) 0 k ks).1),((Yr a (YL f g) (FC b t s f g) 0 k ks).2:Int)+1)) :
  At (YH N) 0 (Zb Yd (Zm R)) Ye 2 113 [(1,.pv (enc f)),(2,.pv (enc g)),(3,.pv (enc a)),(4,.pv (.int .i64 ((k:Int)+1))),(5,.ptr 0 0),(10,.ptr 1 0),(13,.pv (.bool b)),(14,.pv (.str t)),(15,.pv (.sl 0 true [])),(16,.pv (.int .i64 0))] [.obj (.box (sdX n ks s)),.obj (.box sdZ)]:=by
 cases ks with
 | nil=>
  refine a3q N n [] f g a ((k:Int)+1) b t s 0 (Yz (by simp) ?_)
  rw[hR,Yr]
  exact c3d n s k
 | cons x ks=>
  have h2:0<(x::ks).length:=by simp
  have hwk:tW x=true:=(Yo hw).2 x (by simp)
  have hdk:=Qa (ks:=x::ks) (k:=x) (by simp)
  rw[Zo,Nat.add_mul]at hc
  have hle:=CZ a (YL f g) k x
  rw[Yr]at hR
  have nx : ∀ l:List PV,l=[enc (Y9 a (YL f g) k x).1] ->
    At (YH N) 0 (Zb Yd (Zm R)) Ye 2 113 [(1,.pv (enc f)),(2,.pv (enc g)),(3,.pv (enc a)),(4,.pv (.int .i64 (((Y9 a (YL f g) k x).2:Int)+1))),(5,.ptr 0 0),(10,.ptr 1 0),(13,.pv (.bool b)),(14,.pv (.str t)),(15,.row 2 1 0 1),(16,.pv (.int .i64 (IntKind.i64.wrap ((0:Int)+1))))] [.obj (.box (sdX n (x::ks) s)),.obj (.box sdZ),.obj (.row false 28 10 l)]:=by
   rintro l rfl
   exact d0i N n (x::ks) f g a hfg ha hw h1 hd b t s hb R ks.length 1 [(Y9 a (YL f g) k x).1] 1 (Y9 a (YL f g) k x).2 (by simp) rfl (by omega) (by rw[show(x::ks).drop 1=ks from rfl];omega) hR
  have kid:=fun(K:TS×Int->Prop) (h:K (K3 (Y9 a (YL f g) k x).1,((Y9 a (YL f g) k x).2:Int)+1))=>b8b (i:=0) (b:=b) (t:=t) (s:=s) (N:=N) (K:=K) (fun hb1=>by omega) hfg hwk (by omega) ha (by omega) (by omega) h
  refine a3q N n (x::ks) f g a ((k:Int)+1) b t s 0 (Yq (Xb (i:=0) h2) (VB (fun hb1=>Y1 (fun k1=>absurd k1 (by decide)) fun k1=> ?_) fun hb1=> ?_))
  ·exact⟨Zn (i:=0) h2 rfl,Zw (i:=0) h2 ⟨XL _,(kid _ (nx _ (congrArg (fun z=>[z]) (Q3 _)))).2 (fun h=>by omega)⟩⟩
  ·exact⟨Zn (i:=0) h2 rfl,Zw (i:=0) h2 ⟨XL _,(kid _ (nx _ (congrArg (fun z=>[z]) (Q3 _)))).2 (fun h=>by omega)⟩⟩
theorem d5l(hfg:f.length=g.length)(ha:a.length<=1048576)(hw:tW (.mk n ks)=true)(h1:f.length+ZP ks+1<=1048576)(hd:ZP ks<N)(hb:ks.length<=2)(R:TS×Int)(M:Nat)(hc:M+1+Zo ks*(a.length+1)<=4611686018427387904)
  (hR:R=(K3 (Tm.mk (Cv n (vN M)) (Yr a (YL f g) ((n.name,vN M)::YL f g) 0 M ks).1),((Yr a (YL f g) ((n.name,vN M)::YL f g) 0 M ks).2:Int)+1)) : ∀ (d k:Nat),d+k=M->Z4 a k=M ->
  At (YH N) 0 (Zb Yd (Zm R)) Ye 1 113 [(1,.pv (enc f)),(2,.pv (enc g)),(3,.pv (enc a)),(4,.pv (.int .i64 ((k:Int)+1))),(5,.ptr 0 0),(10,.ptr 1 0),(13,.pv (.bool true)),(14,.pv (.str n.name.s))] [.obj (.box (ZM n ks)),.obj (.box sdZ)]:=by
 intro d
 induction d with
 | zero=>intro k hk hn;have:=(Vv a k).1;omega
 | succ d ih=>
  intro k hk hn
  have name : ∀ K:Str->Prop,K (vN (k+1))->b8k [.int .i64 ((k:Int)+1)] K:=fun K h=>⟨Ze ((k:Int)+1,()) rfl (by show(decide (0<(k:Int)+1)&&decide ((k:Int)+1<=4611686018427387904))=true;rw[decide_eq_true (show 0<(k:Int)+1 by omega),decide_eq_true (show(k:Int)+1<=4611686018427387904 by omega)];rfl),Zd ((k:Int)+1,()) rfl (by show K (vN ((k:Int)+1).toNat);rw[show((k:Int)+1).toNat=k+1 by omega];exact h)⟩
  refine d3d N n ks f g a ((k:Int)+1) true n.name.s (name _ ⟨Ze (a,vN (k+1),()) rfl (decide_eq_true ha),Zd (a,vN (k+1),()) rfl ?_⟩)
  have e:IntKind.wrap IntKind.i64 ((k:Int)+1+1)=((k+1:Nat):Int)+1:=by rw[Q6 (by omega) (by omega)];omega
  rw[e]
  by_cases hm:vN (k+1)∈a
  ·refine Yq (decide_eq_true hm) ?_
   have hlt:k+1<M:=by
    rcases Nat.lt_or_ge (k+1) M with h|h
    ·exact h
    ·have:M=k+1:=by omega
     exact absurd hm (by rw[<- this,<- hn];exact U3 a k)
   exact ih (k+1) (by omega) (Gr a hlt (by rw[<- hn];exact U3 a k) fun q q1 q2=>BP a _ k q (by omega) (by rw[<- hn]at q2;exact q2))
  ·refine Yz (by simp[hm]) (name _ ?_)
   have hM:M=k+1:=hn.symm.trans (Gr a (by omega) hm (fun q q1 q2=>by omega))
   rw[<- hM]
   exact a3h N n ks f g a hfg ha hw h1 hd true n.name.s (vN M).s (fun _=>hb) R M hc hR
theorem d5t(hfg:f.length=g.length)(ha:a.length<=1048576)(hw:tW (.mk n ks)=true)(h1:f.length+ZP ks+1<=1048576)(hd:ZP ks<N)(hk:n.kind=1)(R:TS×Int)(k:Nat)(hc:k+1+Zo ks*(a.length+1)<=4611686018427387904)
  (hR:R=(K3 (Tm.mk (Cv n (VI (YL f g) n.name)) (Yr a (YL f g) (YL f g) 0 k ks).1),((Yr a (YL f g) (YL f g) 0 k ks).2:Int)+1)) : ∀ m:Nat,m<=f.length->(∀ j (hj:j<f.length),m<=j->f[j]≠n.name) ->
  At (YH N) 0 (Zb Yd (Zm R)) Ye 0 113 [(1,.pv (enc f)),(2,.pv (enc g)),(3,.pv (enc a)),(4,.pv (.int .i64 ((k:Int)+1))),(5,.ptr 0 0),(10,.ptr 1 0),(12,.pv (.int .i64 ((m:Int) - 1)))] [.obj (.box (ZM n ks)),.obj (.box sdZ)]:=by
 intro m
 induction m with
 | zero=>
  intro hm hn
  rw[Mh hfg n.name (fun j hj=>hn j hj (by omega))]at hR
  refine b5n N n ks f g a ((k:Int)+1) (((0:Nat):Int) - 1) (Yz (by simp) (Yz (by simp[hk]) ?_))
  exact a3h N n ks f g a hfg ha hw h1 hd false n.name.s n.name.s (fun h=>by cases h) R k hc hR
 | succ m ih=>
  intro hm hn
  have e:((m+1:Nat):Int) - 1=(m:Int):=by omega
  rw[e]
  have h2:m<f.length:=by omega
  have h3:m<g.length:=by omega
  refine b5n N n ks f g a ((k:Int)+1) (m:Int) (Yq (by simp) ⟨Zn h2 rfl,Zw h2 (Y1 (fun he=> ?_) fun he=> ?_)⟩)
  ·have he:f[m]=n.name:=stt he
   rw[LC hfg n.name h2 he (fun j hj hlt=>hn j hj (by omega))]at hR
   refine⟨Zn h3 rfl,Zw h3 ?_⟩
   refine Yz (by rw[hk];decide) ?_
   generalize g[m]=y at hR ⊢
   obtain⟨y⟩:=y
   have go:=a3h N n ks f g a hfg ha hw h1 hd false y y (fun h=>by cases h) R k hc hR
   exact go
  ·have e2:IntKind.wrap IntKind.i64 ((m:Int) - 1)=(m:Int) - 1:=Q6 (by omega) (by omega)
   rw[e2]
   refine ih (by omega) (fun j hj hj2=> ?_)
   rcases Nat.lt_or_ge m j with h|h
   ·exact hn j hj (by omega)
   ·obtain rfl:j=m:=by omega
    exact fun e=>he (by rw[e];rfl)
end
theorem b9m(N:Nat): ∀ x:Tm×List Str×List Str×List Str×Int×Unit,((tW x.1&&(decide (x.2.1.length=x.2.2.1.length)&&(decide (x.2.1.length+ZA x.1<=1048576)&&(decide (x.2.2.2.1.length<=1048576)&&(decide (1<=x.2.2.2.2.1)&&decide (x.2.2.2.2.1+((Zk x.1*(x.2.2.2.1.length+1):Nat):Int)<=4611686018427387904))))))&&decide (ZA x.1<N+1))=true ->
  Zc (YH N) 0 (Zb Yd (Zm (Sl x.1 x.2.1 x.2.2.1 x.2.2.2.1 x.2.2.2.2.1))) Ye [] (ZY d4e (encL x)):=by
 rintro⟨⟨n,ks⟩,f,g,a,c,⟨⟩⟩ h
 simp only[Bool.and_eq_true,decide_eq_true_eq]at h
 obtain⟨⟨hw,hfg,h1,ha,hc1,hc⟩,hd⟩:=h
 obtain⟨k,rfl⟩ : ∃ k:Nat,c=(k:Int)+1:=⟨(c - 1).toNat,by omega⟩
 have h1:f.length+ZA (.mk n ks)<=1048576:=h1
 have hd:ZA (.mk n ks)<N+1:=hd
 have hc:(k:Int)+1+((Zk (.mk n ks)*(a.length+1):Nat):Int)<=4611686018427387904:=hc
 rw[ZA]at h1 hd
 rw[Zk,Nat.add_mul]at hc
 show Zc (YH N) 0 (Zb Yd (Zm (Sl (.mk n ks) f g a ((k:Int)+1)))) Ye [] _
 rw[b8t,Y9,show encL ((Tm.mk n ks,f,g,a,((k:Int)+1),()):Tm×List Str×List Str×List Str×Int×Unit)=[ndC n ks,enc f,enc g,enc a,.int .i64 ((k:Int)+1)]from by rw[X9];rfl]
 have nolet:Yt n ks.length=false-> ∀ b:Bool,b=false->n.kind≠1->At (YH N) 0 (Zb Yd (Zm (K3 (Tm.mk n (Yr a (YL f g) (YL f g) 0 k ks).1),((Yr a (YL f g) (YL f g) 0 k ks).2:Int)+1))) Ye 2 113 [(1,.pv (enc f)),(2,.pv (enc g)),(3,.pv (enc a)),(4,.pv (.int .i64 ((k:Int)+1))),(5,.ptr 0 0),(10,.ptr 1 0),(13,.pv (.bool b)),(14,.pv (.str n.name.s)),(15,.pv (.sl 0 true [])),(16,.pv (.int .i64 0))] [.obj (.box (ZM n ks)),.obj (.box sdZ)]:=by
  rintro hl b rfl hk
  exact a3h N n ks f g a hfg ha hw (by omega) (by omega) false n.name.s n.name.s (fun h=>by cases h) _ k (by omega) rfl
 refine d8f N n ks f g a ((k:Int)+1) (Y1 (fun hk=> ?_) fun hk=>Y1 (fun k5=>Y1 (fun k2=> ?_) fun k2=> ?_) fun k5=> ?_)
 ·have hl:Yt n ks.length=false:=by unfold Yt;rw[decide_eq_false (show ¬ n.kind=5 by omega)];rfl
  rw[if_neg (by rw[hl];simp)]
  dsimp only
  rw[if_pos hk]
  have e:IntKind.wrap IntKind.i64 (((List.map (enc:Str->PV) f).length:Int) - 1)=(f.length:Int) - 1:=by rw[List.length_map];exact Q6 (by omega) (by omega)
  rw[e]
  exact d5t N n ks f g a hfg ha hw (by omega) (by omega) hk _ k (by omega) rfl f.length (Nat.le_refl _) (fun j hj h=>by omega)
 ·have e2:ks.length=2:=by rw[List.length_map]at k2;omega
  have hl:Yt n ks.length=true:=by unfold Yt;rw[decide_eq_true k5,decide_eq_true e2];rfl
  rw[if_pos hl]
  dsimp only
  have hn:=Vv a k
  have eb:((((List.map (enc:Tm->PV) ks).length:Nat):Int)==2)=true:=by rw[List.length_map,e2];rfl
  rw[eb]
  exact d5l N n ks f g a hfg ha hw (by omega) (by omega) (by omega) _ (Z4 a k) (by omega) rfl (Z4 a k - k) k (by omega) rfl
 ·have e2 : ¬ ks.length=2:=by rw[List.length_map]at k2;omega
  have hl:Yt n ks.length=false:=by unfold Yt;rw[decide_eq_false e2];simp
  rw[if_neg (by rw[hl];simp)]
  dsimp only
  rw[if_neg hk]
  exact nolet hl _ (by simpa using k2) hk
 ·have hl:Yt n ks.length=false:=by unfold Yt;rw[decide_eq_false k5];rfl
  rw[if_neg (by rw[hl];simp)]
  dsimp only
  rw[if_neg hk]
  exact nolet hl _ rfl hk
end Go.Pl
namespace Go.Pl
open Go.RowKit
end Go.Pl
namespace Go.Pl
open Go.RowKit
open Enc (enc dec is)
open EncL (encL decL isL)
set_option maxRecDepth 100000
end Go.Pl
namespace Go.Pl
open Go.RowKit
end Go.Pl
namespace Go.Pl
open Go.RowKit
open Enc (enc dec is)
open EncL (encL decL isL)
structure RnT where
 nm:Str
 n:Nd
 k:List Tm
instance:Enc RnT where
 sz:=11
 enc x:=.agg [enc x.nm,enc x.n.kind,enc x.n.line,enc x.n.name,enc x.n.num,enc x.n.elem,enc x.n.dims,enc x.n.data,enc x.n.sizes,enc x.n.ranks,enc x.k]
 dec | .agg [z,a,b,c,d,e,f,g,h,i,k]=>⟨dec z,⟨dec a,dec b,dec c,dec d,dec e,dec f,dec g,dec h,dec i⟩,dec k⟩|_=>⟨⟨[]⟩,nd0,[]⟩
 is | .agg [z,a,b,c,d,e,f,g,h,i,k]=>is Str z&&is Int a&&is Int b&&is Str c&&is Int d&&is Str e&&is (List Int) f&&is (List Int) g&&is (List Lin) h&&is (List Int) i&&is (List Tm) k|_=>false
 is_enc v:=by simp
 dec_enc v:=by simp
 sub p h:=by
  cases p with
  | agg xs=>
   match xs,h with
   | [z,a,b,c,d,e,f,g,h',i,k],h=>
    simp only[Bool.and_eq_true]at h
    obtain⟨⟨⟨⟨⟨⟨⟨⟨⟨⟨h0,h1⟩,h2⟩,h3⟩,h4⟩,h5⟩,h6⟩,h7⟩,h8⟩,h9⟩,h10⟩:=h
    exact .agg (.cons (Enc.sub z h0).2 (.cons (Enc.sub a h1).2 (.cons (Enc.sub b h2).2 (.cons (Enc.sub c h3).2 (.cons (Enc.sub d h4).2 (.cons (Enc.sub e h5).2 (.cons (Enc.sub f h6).2 (.cons (Enc.sub g h7).2 (.cons (Enc.sub h' h8).2 (.cons (Enc.sub i h9).2 (.cons (Enc.sub k h10).2 .nil)))))))))))
  | _=>cases h
end Go.Pl
namespace Go.Pl
open Go.RowKit
open Enc (enc dec is)
open EncL (encL decL isL)
set_option maxRecDepth 100000
end Go.Pl
namespace Go.Pl
open Go.RowKit
open Enc (enc dec is)
open EncL (encL decL isL)
section
variable (n m p:Nd) (ks ls us:List Tm) (s:List UInt8)
end
end Go.Pl
namespace Go.Pl
open Go.RowKit
open Enc (enc dec is)
open EncL (encL decL isL)
set_option maxRecDepth 100000
abbrev d4r(ps:List PV)(k:Bool->Prop):Prop:=WH (fun(x:Tm×Int×Unit)=>tW (Prod.fst x)) (fun(x:Tm×Int×Unit)=>Q9 (Prod.fst x) (Prod.fst (Prod.snd x))) ps k
abbrev b1y(ps:List PV)(k:List Str->Prop):Prop:=WH (fun(x:Tm×Unit)=>tW (Prod.fst x)) (fun(x:Tm×Unit)=>ZX (Prod.fst x)) ps k
abbrev FT(ps:List PV)(k:Bool->Prop):Prop:=WH (fun(x:List Str×List Str×Unit)=>decide (List.length (Prod.fst x)<=1048576)) (fun(x:List Str×List Str×Unit)=>decide (Prod.fst x=Prod.fst (Prod.snd x))) ps k
abbrev c0c(ps:List PV)(k:List Str->Prop):Prop:=WH (fun(x:Tm×Unit)=>tW (Prod.fst x)) (fun(x:Tm×Unit)=>WP (Prod.fst x)) ps k
abbrev c2a(ps:List PV)(k:List Str->Prop):Prop:=WH (fun(x:Tm×Unit)=>tW (Prod.fst x)) (fun(x:Tm×Unit)=>List.foldl Yk [] (List.flatMap Xm (ZV (Prod.fst x)))) ps k
abbrev c2r(ps:List PV)(k:List Str->Prop):Prop:=WH (fun(x:Tm×Unit)=>tW (Prod.fst x)) (fun(x:Tm×Unit)=>Qf (Prod.fst x)) ps k
abbrev c1t(ps:List PV)(k:List Str->Prop):Prop:=WH (fun(x:Tm×Unit)=>tW (Prod.fst x)) (fun(x:Tm×Unit)=>Cb (Prod.fst x)) ps k
abbrev c0u(ps:List PV)(k:List Int->Prop):Prop:=WH (fun(x:Tm×Unit)=>tW (Prod.fst x)&&Q5 (Prod.fst x)) (fun(x:Tm×Unit)=>Vm (Prod.fst x)) ps k
abbrev c5g(ps:List PV)(k:List Int->Prop):Prop:=WH (fun(x:Tm×Unit)=>tW (Prod.fst x)) (fun(x:Tm×Unit)=>UN (Prod.fst x)) ps k
abbrev c1v(ps:List PV)(k:Bool->Prop):Prop:=WH (fun(x:List Int×List Int×Unit)=>decide (List.length (Prod.fst x)<=1048576)) (fun(x:List Int×List Int×Unit)=>decide (Prod.fst x=Prod.fst (Prod.snd x))) ps k
abbrev EW(ps:List PV)(k:Int->Prop):Prop:=WH (fun(x:Tm×Unit)=>tW (Prod.fst x)) (fun(x:Tm×Unit)=>Vs (Prod.fst x)) ps k
abbrev a3e(ps:List PV)(k:Tm->Prop):Prop:=WH (fun(x:Tm×Unit)=>tW (Prod.fst x)) (fun(x:Tm×Unit)=>YC (Prod.fst x)) ps k
abbrev c2k(ps:List PV)(k:Bool->Prop):Prop:=WH (fun(x:Tm×Tm×Unit)=>tW (Prod.fst x)&&tW (Prod.fst (Prod.snd x))) (fun(x:Tm×Tm×Unit)=>FE (Prod.fst x) (Prod.fst (Prod.snd x))) ps k
noncomputable def EC:IC:=X5 Proofs.Tryz.f10
def F6:List IRes:=[(.tmp 2)]
abbrev d1x:Nat:=50
noncomputable def b0g:ZE:=YB [(12,.pure (preT (fun _:Unit=>true)) (Zi (fun _:Unit=>true))),(13,.pure (preT (fun x:Tm×Int×Unit=>tW x.1)) (Zi (fun x:Tm×Int×Unit=>Q9 x.1 x.2.1))),(20,.pure (preT (fun x:Tm×Unit=>tW x.1)) (Zi (fun x:Tm×Unit=>ZX x.1))),(40,.pure (preT (fun x:Tm×Unit=>tW x.1)) (Zi (fun x:Tm×Unit=>ZX x.1))),(19,.pure (preT (fun x:List Str×List Str×Unit=>decide (x.1.length<=1048576))) (Zi (fun x:List Str×List Str×Unit=>decide (x.1=x.2.1)))),(32,.pure (preT (fun x:Tm×Unit=>tW x.1)) (Zi (fun x:Tm×Unit=>WP x.1))),(41,.pure (preT (fun x:Tm×Unit=>tW x.1)) (Zi (fun x:Tm×Unit=>((ZV x.1).flatMap Xm).foldl Yk []))),(42,.pure (preT (fun x:Tm×Unit=>tW x.1)) (Zi (fun x:Tm×Unit=>Qf x.1))),(43,.pure (preT (fun x:Tm×Unit=>tW x.1)) (Zi (fun x:Tm×Unit=>Cb x.1))),(34,.pure (preT (fun x:Tm×Unit=>tW x.1&&Q5 x.1)) (Zi (fun x:Tm×Unit=>Vm x.1))),(44,.pure (preT (fun x:Tm×Unit=>tW x.1)) (Zi (fun x:Tm×Unit=>UN x.1))),(33,.pure (preT (fun x:List Int×List Int×Unit=>decide (x.1.length<=1048576))) (Zi (fun x:List Int×List Int×Unit=>decide (x.1=x.2.1)))),(37,.pure (preT (fun x:Tm×Unit=>tW x.1)) (Zi (fun x:Tm×Unit=>Vs x.1))),(45,.pure (preT (fun x:Tm×Unit=>tW x.1)) (Zi (fun x:Tm×Unit=>Vs x.1))),(30,.pure (preT (fun x:Tm×Unit=>tW x.1)) (Zi (fun x:Tm×Unit=>YC x.1))),(46,.pure (preT (fun x:Tm×Unit=>tW x.1)) (Zi (fun x:Tm×Unit=>YC x.1))),(31,.pure (preT (fun x:Tm×Tm×Unit=>tW x.1&&tW x.2.1)) (Zi (fun x:Tm×Tm×Unit=>FE x.1 x.2.1)))]
theorem d6u{G:PV->Prop}(n:Nd)(ks:List Tm)(h : ∃ y0:Bool,AV.pv (Zi (fun(x:Unit)=>true) [])=AV.pv (enc y0)∧(if (!y0)=true then G ((.bool false))else((d4r [(ndC n ks),(.int .i64 30)] fun y1=>(if (!y1)=true then G ((.bool true))else((b1y (Jg n ks) fun y2=>((b1y (Jg n ks) fun y3=>((FT [(.sl 1 false (List.map enc y2)),(.sl 1 false (List.map enc y3))] fun y4=>(if (y4)=true then(c0c (Jg n ks) fun y5=>((c2a (Jg n ks) fun y6=>((FT [(.sl 1 false (List.map enc y5)),(.sl 1 false (List.map enc y6))] fun y7=>(if (y7)=true then(c2r (Jg n ks) fun y8=>((c1t (Jg n ks) fun y9=>((FT [(.sl 1 false (List.map enc y8)),(.sl 1 false (List.map enc y9))] fun y10=>(if (y10)=true then(c0u (Jg n ks) fun y11=>((c5g (Jg n ks) fun y12=>((c1v [(.sl 1 false (List.map enc y11)),(.sl 1 false (List.map enc y12))] fun y13=>(if (y13)=true then(EW (Jg n ks) fun y14=>((EW (Jg n ks) fun y15=>(if (y14==y15)=true then(a3e (Jg n ks) fun y16=>((a3e (Jg n ks) fun y17=>((c2k [enc y16,enc y17] fun y18=>(G ((.bool y18))))))))else(G ((.bool false)))))))else(G ((.bool false)))))))))else(G ((.bool false)))))))))else(G ((.bool false)))))))))else(G ((.bool false))))))))))))))):Zc b0g 0 (Zb F6 G) EC [] (ZY 50 [.agg [enc n.kind,enc n.line,enc n.name,enc n.num,enc n.elem,enc n.dims,enc n.data,enc n.sizes,enc n.ranks,enc ks]]):=Zc.tp (dm [dv Bool,dv (List Str),dv (List Int),dv Int,dv Tm] 246 0x222222222222222222222222222222222222222022222222222222222222222222222220222222222222222222222220222222222222222022222220222512912291200e42222281228120264222512712271204742225126122612070422251261226120a142512612261202222222222222220104510001452) h
end Go.Pl
namespace Go.Pl
open Go.RowKit
open Enc (enc dec is)
open EncL (encL decL isL)
theorem c5r(t:Tm):Qf t=Cb t:=J6 (Xp t)
theorem a7a{t:Tm}(h:tW t=true):(Qf t).length<=1048576:=by
 have h1:(Qf t).length<=(Xp t).length:=BM (Xp t)
 have h5:(Xp t).length<=Qi t:=Gn 1 t
 have h6:Qi t<=1048576:=of_decide_eq_true h
 omega
theorem b4w(t:Tm):WP t=((ZV t).flatMap Xm).foldl Yk []:=J6 _
theorem c0e: ∀ x:Tm×Unit,(decide (Qi x.1+9*Zk x.1<=1048576)&&Q5 x.1)=true->Zc b0g 0 (Zb F6 (Zm true)) EC [] (ZY d1x (encL x)):=by
 rintro⟨⟨n,ks⟩,⟨⟩⟩ hw
 simp only[Bool.and_eq_true,decide_eq_true_eq]at hw
 obtain⟨hW,hl⟩:=hw
 have t1:tW (.mk n ks)=true:=decide_eq_true (by omega)
 have hsz:=XZ t1
 rw[<- nd1]
 refine d6u n ks (Zd () rfl (U9 (fun h=>nomatch h) fun _=> ?_))
 refine⟨Ze (Tm.mk n ks,(30:Int),()) (ndT n ks (30:Int)).symm t1,Zd (Tm.mk n ks,(30:Int),()) (ndT n ks (30:Int)).symm (U9 (fun _=>ZI rfl) fun g1=> ?_)⟩
 have h1:=a8r (t:=.mk n ks) (k:=30) g1
 have tS1:tW (YC (.mk n ks))=true:=c3n (by omega) (by omega)
 have p1:preT (fun x:Tm×Unit=>tW x.1) (Jg n ks)=true:=Ze (Tm.mk n ks,()) (ZQ n ks) t1
 have pl:preT (fun x:Tm×Unit=>tW x.1&&Q5 x.1) (Jg n ks)=true:=Ze (Tm.mk n ks,()) (ZQ n ks) (by show(tW (.mk n ks)&&Q5 (.mk n ks))=true;rw[t1,hl];rfl)
 have hf:=L9 (.mk n ks)
 have hc:=Ed (.mk n ks)
 have hd:(Qf (.mk n ks)).length<=1048576:=a7a t1
 have hli:=a4d (.mk n ks)
 refine⟨p1,Zd (Tm.mk n ks,()) (ZQ n ks) ⟨p1,Zd (Tm.mk n ks,()) (ZQ n ks) ⟨Ze (ZX (.mk n ks),ZX (.mk n ks),()) (SN _ _) (decide_eq_true (by show(ZX (.mk n ks)).length<=_;omega)),Zd (ZX (.mk n ks),ZX (.mk n ks),()) (SN _ _) (Yq (decide_eq_true rfl) ?_)⟩⟩⟩
 refine⟨p1,Zd (Tm.mk n ks,()) (ZQ n ks) ⟨p1,Zd (Tm.mk n ks,()) (ZQ n ks) ⟨Ze (WP (.mk n ks),((ZV (.mk n ks)).flatMap Xm).foldl Yk [],()) (SN _ _) (decide_eq_true (by show(WP (.mk n ks)).length<=_;omega)),Zd (WP (.mk n ks),((ZV (.mk n ks)).flatMap Xm).foldl Yk [],()) (SN _ _) (Yq (decide_eq_true (b4w _)) ?_)⟩⟩⟩
 refine⟨p1,Zd (Tm.mk n ks,()) (ZQ n ks) ⟨p1,Zd (Tm.mk n ks,()) (ZQ n ks) ⟨Ze (Qf (.mk n ks),Cb (.mk n ks),()) (SN _ _) (decide_eq_true hd),Zd (Qf (.mk n ks),Cb (.mk n ks),()) (SN _ _) (Yq (decide_eq_true (c5r _)) ?_)⟩⟩⟩
 refine⟨pl,Zd (Tm.mk n ks,()) (ZQ n ks) ⟨p1,Zd (Tm.mk n ks,()) (ZQ n ks) ⟨Ze (Vm (.mk n ks),UN (.mk n ks),()) (c8k _ _) (decide_eq_true (by show(Vm (.mk n ks)).length<=_;omega)),Zd (Vm (.mk n ks),UN (.mk n ks),()) (c8k _ _) (Yq (decide_eq_true (a9y _)) ?_)⟩⟩⟩
 refine⟨p1,Zd (Tm.mk n ks,()) (ZQ n ks) ⟨p1,Zd (Tm.mk n ks,()) (ZQ n ks) (Yq (by simp) ?_)⟩⟩
 refine⟨p1,Zd (Tm.mk n ks,()) (ZQ n ks) ⟨p1,Zd (Tm.mk n ks,()) (ZQ n ks) ?_⟩⟩
 exact⟨Ze (YC (.mk n ks),YC (.mk n ks),()) rfl (by show(tW _&&tW _)=true;rw[tS1];rfl),Zd (YC (.mk n ks),YC (.mk n ks),()) rfl (ZI (Ng _))⟩
theorem c3o: ∀ x:Tm×Unit,tW x.1=true->Zc b5k 0 (Zb EI (Zm (YC x.1))) OJ [] (ZY d2p (encL x)):=by
 rintro⟨⟨n,ks⟩,⟨⟩⟩ t1
 have t1:tW (.mk n ks)=true:=t1
 have hsz:=XZ t1
 have hf:=L9 (.mk n ks)
 have hdp:ZA (.mk n ks)<=Zk (.mk n ks):=Kg _
 have hm:=Nat.mul_le_mul hsz (show(ZX (.mk n ks)).length+1<=1048577 by omega)
 rw[<- nd1]
 have p1:preT (fun x:Tm×Unit=>tW x.1) (Jg n ks)=true:=Ze (Tm.mk n ks,()) (ZQ n ks) t1
 have hd:decL ([ndC n ks,.sl 0 true [],.sl 0 true [],.sl 1 false ((ZX (.mk n ks)).map enc),.int .i64 1]:List PV)=(Tm.mk n ks,([]:List Str),([]:List Str),ZX (.mk n ks),(1:Int),()):=by
  rw[X9]
  show(dec (enc (Tm.mk n ks)),([]:List Str),([]:List Str),dec (enc (ZX (.mk n ks))),(1:Int),())=_
  rw[Enc.dec_enc,Enc.dec_enc]
 have hi:isL (Tm×List Str×List Str×List Str×Int×Unit) ([ndC n ks,.sl 0 true [],.sl 0 true [],.sl 1 false ((ZX (.mk n ks)).map enc),.int .i64 1]:List PV)=true:=by
  rw[X9]
  show(is Tm (enc (Tm.mk n ks))&&(true&&(true&&(is (List Str) (enc (ZX (.mk n ks)))&&true))))=true
  rw[Enc.is_enc,Enc.is_enc];rfl
 refine d6l n ks ⟨p1,Zd (Tm.mk n ks,()) (ZQ n ks) ⟨a0g _ hi hd ?_,JH _ hd ?_⟩⟩
 ·show(tW (.mk n ks)&&(decide (([]:List Str).length=([]:List Str).length)&&(decide (([]:List Str).length+ZA (.mk n ks)<=1048576)&&(decide ((ZX (.mk n ks)).length<=1048576)&&(decide (1<=(1:Int))&&decide ((1:Int)+((Zk (.mk n ks)*((ZX (.mk n ks)).length+1):Nat):Int)<=4611686018427387904))))))=true
  have hm':((Zk (.mk n ks)*((ZX (.mk n ks)).length+1):Nat):Int)<=1048576*1048577:=by omega
  rw[t1,decide_eq_true (show([]:List Str).length+ZA (.mk n ks)<=1048576 by simp;omega),decide_eq_true (show(ZX (.mk n ks)).length<=1048576 by omega),decide_eq_true (show(1:Int)+((Zk (.mk n ks)*((ZX (.mk n ks)).length+1):Nat):Int)<=4611686018427387904 by omega)]
  rfl
 ·show Zm (YC (.mk n ks)) (eS (K3 (YC (.mk n ks))))
  rw[Q3]
  exact Y6 rfl
theorem Pd: ∀ (o:List Int) (s:Int) (j:Nat),j<=o.length->(∀ i (hi:i<o.length),i<j->o[i]<s)->(∀ hj:j<o.length,s<o[j])->Uh o s=o.take j++s::o.drop j
 | [],s,j,hj,_,_=>by
  obtain rfl:j=0:=by simpa using hj
  rfl
 | m::r,s,0,_,_,h2=>by
  have h:=h2 (by simp)
  have h:s<m:=h
  rw[Uh,if_neg (by omega),if_neg (by omega)]
  rfl
 | m::r,s,j+1,hj,h1,h2=>by
  have h:=h1 0 (by simp) (by omega)
  have h:m<s:=h
  rw[Uh,if_pos h,Pd r s j (by simpa using hj) (fun i hi hij=>h1 (i+1) (by simpa using hi) (by omega)) (fun hj=>h2 (by simpa using hj))]
  rfl
theorem a0m: ∀ (o:List Int) (s:Int) (j:Nat) (hj:j<o.length),(∀ i (hi:i<o.length),i<j->o[i]<s)->o[j]=s->Uh o s=o
 | [],s,j,hj,_,_=>by simp at hj
 | m::r,s,0,_,_,h2=>by
  have h2:m=s:=h2
  rw[Uh,if_neg (by omega),if_pos h2]
 | m::r,s,j+1,hj,h1,h2=>by
  have h:=h1 0 (by simp) (by omega)
  have h:m<s:=h
  rw[Uh,if_pos h,a0m r s j (by simpa using hj) (fun i hi hij=>h1 (i+1) (by simpa using hi) (by omega)) h2]
theorem b4n(t:Tm):Sh.co (Sh.int .i64) (List.getD (List.drop 1 (PV.cells (enc t))) 0 default)=enc t.nd.line:=by
 obtain⟨n,ks⟩:=t
 rw[Zx]
 rfl
theorem a6q(l:List Int)(s:Int):(Uh l s).length<=l.length+1:=by
 induction l with
 | nil=>simp[Uh]
 | cons a r ih=>
  rw[Uh]
  split
  ·rw[List.length_cons,List.length_cons];omega
  ·split <;> simp
theorem c4f(n:Nd)(ks:List Tm)(y:List Tm)(R:List Int)(hy:y.length<=1048576)(i:Nat)(hi:i<y.length)(o:List Int)(ho:0<o.length)(hol:o.length<=i)
  (nx : ∀ (Lx:Nat) (l:List PV),Lx=(Uh o y[i].nd.line).length->l=(Uh o y[i].nd.line).map enc->At Y0 0 (Zb Yv (Zm R)) Yu 0 66 [(3,.row 0 Lx 0 Lx),(4,.pv (enc y)),(5,.pv (.int .i64 (IntKind.i64.wrap ((i:Int)+1))))] [.obj (.row false 3 1 l)]) : ∀ d j:Nat,d+j=o.length->(∀ q (hq:q<o.length),q<j->o[q]<y[i].nd.line) ->
  At Y0 0 (Zb Yv (Zm R)) Yu 1 66 [(3,.row 0 o.length 0 o.length),(4,.pv (enc y)),(5,.pv (.int .i64 i)),(6,.pv (.int .i64 j))] [.obj (.row false 3 1 (o.map enc))]:=by
 have hA:List.take o.length (List.map (enc:Int->PV) o)=o.map enc:=List.take_of_length_le (by simp)
 intro d
 induction d with
 | zero=>
  intro j hj hlt
  obtain rfl:j=o.length:=by omega
  have hI:=Pd o y[i].nd.line o.length (Nat.le_refl _) (fun q hq _=>hlt q hq hq) (fun h=>by omega)
  refine La n ks y o o.length i o.length (Yz (by simp) (Yq (by simp) ?_))
  refine⟨by simp,by simp,by simp;omega,Zn hi rfl,Zw hi ⟨Aw _,?_⟩⟩
  rw[b4n]
  refine⟨by simp;omega,by simp,by simp,by simp;omega,nx _ _ ?_ ?_⟩
  ·rw[hI];simp
  ·rw[hI];simp[hA]
 | succ d ih=>
  intro j hj hlt
  have hjl:j<o.length:=by omega
  have hg:List.getD (List.map (enc:Int->PV) o) (0+Int.toNat (j:Int)) default=enc o[j]:=by simp[List.getD,hjl]
  have hq:PV.asInt (List.getD (PV.cells (List.getD (List.map (enc:Int->PV) o) (0+Int.toNat (j:Int)) default)) 0 default)=o[j]:=by rw[hg];rfl
  refine La n ks y o o.length i j (Yq (by simp;omega) ?_)
  rw[hq,hg]
  refine⟨by simp;omega,by simp;omega,rfl,Zn hi rfl,Zw hi ⟨Aw _,?_⟩⟩
  rw[b9h]
  refine WC (fun hl=> ?_) fun hl=> ?_
  ·rw[next (by omega)]
   exact ih (j+1) (by omega) fun q hq hqj=>by
    rcases Nat.lt_or_ge q j with h|h
    ·exact hlt q hq h
    ·obtain rfl:q=j:=by omega
     exact hl
  ·refine Yz (by simp;omega) ⟨by simp;omega,by simp;omega,rfl,Zn hi rfl,Zw hi ⟨Aw _,?_⟩⟩
   rw[b9h]
   by_cases he:o[j]=y[i].nd.line
   ·refine Yz (by simp[he]) ?_
    have hI:=a0m o y[i].nd.line j hjl hlt he
    exact nx _ _ (by rw[hI]) (by rw[hI])
   ·have hI:=Pd o y[i].nd.line j (by omega) hlt (fun _=>by omega)
    refine Yq (by simp[he]) ⟨by simp;omega,by simp,by simp;omega,Zn hi rfl,Zw hi ⟨Aw _,?_⟩⟩
    rw[b4n]
    refine⟨by simp;omega,by simp;omega,by simp,by simp;omega,nx _ _ ?_ ?_⟩
    ·rw[hI];simp;omega
    ·rw[hI];simp[hA]
theorem b0j(n:Nd)(ks:List Tm)(y:List Tm)(hy:y.length<=1048576)(R:List Int): ∀ (d i:Nat) (o:List Int),d+i=y.length->0<o.length->o.length<=i->R=((y.drop i).map fun x=>x.nd.line).foldl Uh o ->
  At Y0 0 (Zb Yv (Zm R)) Yu 0 66 [(3,.row 0 o.length 0 o.length),(4,.pv (enc y)),(5,.pv (.int .i64 i))] [.obj (.row false 3 1 (o.map enc))]:=by
 intro d
 induction d with
 | zero=>
  intro i o hi ho hol hR
  rw[List.drop_eq_nil_of_le (by omega)]at hR
  refine NW n ks y o o.length i (Yz (XA (by omega)) ⟨by simp,?_⟩)
  rw[hR,List.drop_zero,List.take_of_length_le (by simp)]
  exact Y6 rfl
 | succ d ih=>
  intro i o hi ho hol hR
  have hlt:i<y.length:=by omega
  rw[List.drop_eq_getElem_cons hlt,List.map_cons,List.foldl_cons]at hR
  refine NW n ks y o o.length i (Yq (Xb hlt) ?_)
  refine c4f n ks y R hy i hlt o ho hol (fun Lx l h1 h2=> ?_) o.length 0 (Nat.add_zero _) (fun q hq h=>by omega)
  rw[next (by omega),h1,h2]
  have hp:0<(Uh o y[i].nd.line).length:=List.length_pos_of_mem (CP.2 (.inr rfl))
  exact ih (i+1) _ (by omega) hp (Nat.le_trans (a6q o y[i].nd.line) (by omega)) hR
theorem b1g: ∀ x:Tm×Unit,tW x.1=true->Zc Y0 0 (Zb Yv (Zm (UN x.1))) Yu [] (ZY c2o (encL x)):=by
 rintro⟨⟨n,ks⟩,⟨⟩⟩ hw
 have hw:tW (.mk n ks)=true:=hw
 have hl:=Wj (.mk n ks)
 have hsz:=XZ hw
 rw[<- ZQ]
 refine d4j n ks ⟨Ze (Tm.mk n ks,()) (ZQ n ks) hw,Zd (Tm.mk n ks,()) (ZQ n ks) ?_⟩
 have h0:0<(ZV (.mk n ks)).length:=by rw[PS];simp
 show At Y0 0 (Zb Yv (Zm (UN (.mk n ks)))) Yu 0 66 [(3,.pv (.sl 0 true [])),(4,.pv (enc (ZV (.mk n ks)))),(5,.pv (.int .i64 0))] []
 unfold UN
 generalize ZV (.mk n ks)=y at *
 refine a8w n ks y 0 (Yq (Xb (i:=0) h0) ?_)
 refine b1l n ks y 0 0 (Yz (by simp) (Yq (by simp) ?_))
 refine⟨by simp,by simp,by simp,Zn (i:=0) h0 rfl,Zw (i:=0) h0 ⟨Aw _,?_⟩⟩
 rw[b4n]
 refine⟨by simp,by simp,by simp,by simp,?_⟩
 refine b0j n ks y (by omega) _ (y.length - 1) 1 [y[0].nd.line] (by omega) (by simp) (by simp) ?_
 obtain⟨z,r,rfl⟩:=List.exists_cons_of_length_pos h0
 rfl
theorem a6x: ∀ x:Int×Unit,(decide (0<x.1)&&decide (x.1<=4611686018427387904))=true->Zc Q0 0 (Zb UD (Zm (vN x.1.toNat))) Ut [] (ZY ER (encL x)):=by
 rintro⟨n,⟨⟩⟩ h
 simp only[Bool.and_eq_true,decide_eq_true_eq]at h
 have h1:=b5o (n,()) (decide_eq_true ⟨by show 0<=n;omega,by show n<=9223372036854775807;omega⟩)
 have e:nmP n.toNat=vN n.toNat:=by
  unfold nmP vN
  rw[if_neg (by omega)]
  have:=J8 (n:=n.toNat) (by omega)
  unfold itT
  rw[this,Int.natAbs_natCast]
 rw[<- e]
 exact h1
theorem c6b: ∀ x:Tm×Unit,tW x.1=true->Zc a8q 0 (Zb Ei (Zm (ZX x.1))) Om [] (ZY d1c (encL x)):=by
 rintro⟨⟨n,ks⟩,⟨⟩⟩ hw
 have hw:tW (.mk n ks)=true:=hw
 have hsz:=XZ hw
 have hd:=Kg (.mk n ks)
 rw[<- nd1]
 have e0:(is Tm (ndC n ks))=true:=by rw[X9,Enc.is_enc]
 have e1:(dec (ndC n ks):Tm) = .mk n ks:=by rw[X9,Enc.dec_enc]
 have h1:isL (List Str×Tm×List Str×Unit) [(.sl 0 true []),ndC n ks,(.sl 0 true [])]=true:=by
  simp only[P7,EL,e0]
  rfl
 have h2:(decL [(.sl 0 true []),ndC n ks,(.sl 0 true [])]:List Str×Tm×List Str×Unit)=([],.mk n ks,[],()):=by
  simp only[SV,Lu,e1]
  rfl
 refine d9a n ks ⟨a0g ([],.mk n ks,[],()) h1 h2 ?_,JH ([],.mk n ks,[],()) h2 ?_⟩
 ·show(tW (.mk n ks)&&decide (0+Zk (.mk n ks)<=1048576)&&decide (0+ZA (.mk n ks)<=1048576))=true
  rw[hw,decide_eq_true (by omega),decide_eq_true (by omega)]
  rfl
 ·have e : ∀ l:List Str,l=ZX (.mk n ks)->Zm (ZX (.mk n ks)) (.sl 1 false (List.map enc l)):=fun l h=>by rw[h];exact Y6 (β:=List Str) rfl
  exact e _ (by unfold ZX;rw[J6])
end Go.Pl
