/-
  Texts of mine that belong together (packed by pack.py), for every input: OkUa, OkUd.
-/
import Derived.Test.YtgdebdgkofkeeaaGreatDoorKR2
import Derived.Test.YtgdebdgkofkeeaaGreatDoorKR3
import Derived.Test.YtgdebdgkofkeeaaGreatDoorKR4
import Derived.Test.YtgdebdgkofkeeaaGreatDoorKR5
import Derived.KernelRfl
set_option linter.unusedVariables false
set_option linter.unusedSimpArgs false
namespace Go.Proofs.YtgdebdgkofkeeaaGreatDoor
open Go.Pl
open Enc (enc dec is)
open EncL (encL decL isL)
set_option maxRecDepth 100000
theorem Ua:Tryz.prog.follows .mixedOrders=true:=by kernel_rfl
theorem tq{f:Nat}{D:Den}{l:List (Nat×Den)}{fn:Func}(hf:Tryz.prog.funcs[f]? = some fn)(h:a0p Tryz.prog f D)(k:ZV Tryz.prog (YM l))(hb:(fn.body.isSome&& !(fn.name == "runtime.NumGoroutine"))=true:=by kernel_rfl):ZV Tryz.prog (YM ((f,D)::l)):=ZK (H9 hf hb h) k
theorem dq{f nt:Nat}{α β:Type}[EncL α][Enc β]{fn:Func}{T:ZC}{ic:IC}{rs:List IRes}{pre:α->Bool}{F:α->β}(h : ∀ a,pre a=true->Ze T 0 (Zb rs (Zq (F a))) ic [] (Yc nt (encL a)))(hT:ZV Tryz.prog T)(hf:Tryz.prog.funcs[f]? = some fn)(hic:MO Tryz.prog fn=some ic:=by kernel_rfl)(hrs:Y1 (Xf Tryz.prog) fn.results.toList=some rs:=by kernel_rfl)(hnt:fn.ntmps=nt:=by kernel_rfl):Zn Tryz.prog f pre F:=Zn.of hT Ua hf hic hrs hnt h
theorem a3n:Zn Tryz.prog 170 (fun x:Str×Unit=>decide (x.1.s.length<=281474976710656)) (fun x:Str×Unit=>YT x.1):=XI (by
  rintro⟨⟨s⟩,⟨⟩⟩ hps Φ w vs hL hΦ hv
  have hs:s.length<=281474976710656:=by simpa using hps
  obtain⟨v,rfl,h1⟩:=b7a hv
  rw[Ky h1]
  have hsz:(⟨s.toArray⟩:ByteArray).size=s.length:=rfl
  cases h:Lib.atoiAll s
  ·rename_i n
   have e1:YT ⟨s⟩=(n,⟨false⟩):=by simp only[YT,h]
   rw[e1]
   refine(Any.strconv_Atoi_ok Tryz.lays172 ⟨s.toArray⟩ (by rw[hsz];omega) n h w).mono ?_
   rintro e w' ⟨rfl,hw⟩
   refine⟨_,rfl,.tup _ _ rfl ?_,?_⟩
   ·intro j v x hv hx
    match j with
    | 0=>cases hv;cases hx;exact .int _ _
    | 1=>cases hv;cases hx;exact .nili
    | j+2=>simp at hv
   ·rcases hw with rfl|⟨t,rfl⟩
    ·exact .refl _ _
    ·exact Lh _ _ 0 _
  ·skip
   have e1:YT ⟨s⟩=(0,⟨true⟩):=by simp only[YT,h]
   rw[e1]
   obtain⟨cs,hc,ev,he,hev⟩:=hL.syn
   refine(Any.strconv_Atoi_syntax Tryz.lays172 ⟨s.toArray⟩ (by rw[hsz];omega) h ev w (Ht hΦ hc he) hev).mono ?_
   rintro e w' ⟨N,rfl,_,_,hb⟩
   refine⟨_,rfl,.tup _ _ rfl ?_,hb⟩
   intro j v x hv hx
   match j with
   | 0=>cases hv;cases hx;exact .int _ _
   | 1=>cases hv;cases hx;exact .ifc _ _
   | j+2=>simp at hv
  ·skip
   have e1:YT ⟨s⟩=(Lib.atoiSat s,⟨true⟩):=by simp only[YT,h]
   rw[e1]
   obtain⟨cs,hc,ev,he,hev⟩:=hL.rng
   refine(Any.strconv_Atoi_range Tryz.lays172 ⟨s.toArray⟩ (by rw[hsz];omega) h ev w (Ht hΦ hc he) hev).mono ?_
   rintro e w' ⟨N,rfl,_,_,hb⟩
   refine⟨_,rfl,.tup _ _ rfl ?_,hb⟩
   intro j v x hv hx
   match j with
   | 0=>cases hv;cases hx;exact .int _ _
   | 1=>cases hv;cases hx;exact .ifc _ _
   | j+2=>simp at hv)
theorem a2u:Zn Tryz.prog 141 (fun _:Int×Unit=>true) (fun x:Int×Unit=>Y0 x.1):=dq c0s Zi Tryz.func141
theorem Lx:Zn Tryz.prog 140 (fun x:Str×Unit=>decide (x.1.s.length<=281474976710656)) (fun x:Str×Unit=>Yx x.1):=dq Om (tq Tryz.func169 Av (tq Tryz.func170 a3n (tq Tryz.func68 M3 Zi))) Tryz.func140
theorem TA:Zn Tryz.prog 111 (fun x:Lin×Unit=>VK x.1) (fun x:Lin×Unit=>ZJ x.1):=dq a2i (tq Tryz.func141 a2u (tq Tryz.func140 Lx Zi)) Tryz.func111
theorem Jz:Zn Tryz.prog 106 (fun _:UInt8×Unit=>true) (fun x:UInt8×Unit=>lowB x.1):=dq FE Zi Tryz.func106
theorem RI:Zn Tryz.prog 138 (fun _:UInt8×Unit=>true) (fun x:UInt8×Unit=>digB x.1):=dq OT Zi Tryz.func138
theorem Fh:Zn Tryz.prog 107 (fun x:Str×Bool×Unit=>decide (x.1.s.length<=1048576)) (fun x:Str×Bool×Unit=>BF x.1 x.2.1):=dq b2l (tq Tryz.func138 RI (tq Tryz.func106 Jz Zi)) Tryz.func107
theorem Dq:Zn Tryz.prog 108 (fun _:Str×Unit=>true) (fun x:Str×Unit=>Dp.contains x.1.s):=dq b5t Zi Tryz.func108
theorem Uf:Zn Tryz.prog 82 (fun x:Str×Unit=>decide (x.1.s.length<=1048576)) (fun x:Str×Unit=>XJ x.1.s):=dq a2m (tq Tryz.func106 Jz (tq Tryz.func107 Fh (tq Tryz.func108 Dq Zi))) Tryz.func82
theorem Ac:Zn Tryz.prog 115 (fun x:Str×Unit=>decide (x.1.s.length<=1048576)) (fun x:Str×Unit=>fullI x.1.s):=dq a5a (tq Tryz.func145 b1m (tq Tryz.func82 Uf Zi)) Tryz.func115
theorem Qe:Zn Tryz.prog 87 (fun x:Str×Unit=>decide (x.1.s.length<=1048576)) (fun x:Str×Unit=>fnI x.1.s):=dq b2h (tq Tryz.func82 Uf (tq Tryz.func115 Ac Zi)) Tryz.func87
theorem BK:Zn Tryz.prog 84 (fun x:Tm×Unit=>tW x.1) (fun x:Tm×Unit=>KX x.1.nd):=dq a9o Zi Tryz.func84
theorem Ao:Zn Tryz.prog 110 (fun x:Lin×Unit=>VK x.1) (fun x:Lin×Unit=> !(ZJ x.1)):=dq a6n (tq Tryz.func111 TA Zi) Tryz.func110
theorem b7i:Zn Tryz.prog 139 (fun x:List Lin×FnV 110×Unit=>decide (x.1.length<=1048576)&&x.1.all VK) (fun x:List Lin×FnV 110×Unit=>XC (fun l:Lin=> !(ZJ l)) x.1):=dq c0c (tq Tryz.func110 Ao Zi) Tryz.func139
theorem b8r:Zn Tryz.prog 109 (fun x:List Lin×FnV 110×Unit=>decide (x.1.length<=1048576)&&x.1.all VK) (fun x:List Lin×FnV 110×Unit=>x.1.any fun l:Lin=> !(ZJ l)):=dq c2i (tq Tryz.func139 b7i Zi) Tryz.func109
theorem JG:Zn Tryz.prog 83 (fun x:Tm×Int×Int×Unit=>tW x.1) (fun x:Tm×Int×Int×Unit=>Yz x.1.nd x.2.1 x.2.2.1):=dq FL (tq Tryz.func109 b8r Zi) Tryz.func83
theorem Ty:Zn Tryz.prog 114 (fun _:Int×Unit=>true) (fun x:Int×Unit=>Z0 x.1):=dq b2v Zi Tryz.func114
theorem c2x:Zn Tryz.prog 144 (fun x:List Int×FnV 114×Unit=>decide (x.1.length<=1048576)) (fun x:List Int×FnV 114×Unit=>XC Z0 x.1):=dq b9o (tq Tryz.func114 Ty Zi) Tryz.func144
theorem b6y:Zn Tryz.prog 113 (fun x:List Int×FnV 114×Unit=>decide (x.1.length<=1048576)) (fun x:List Int×FnV 114×Unit=>x.1.any Z0):=dq b7p (tq Tryz.func144 c2x Zi) Tryz.func113
theorem Mv:Zn Tryz.prog 86 (fun x:Tm×Unit=>tW x.1) (fun x:Tm×Unit=>Xz x.1.nd x.1.ks.length):=dq a4s (tq Tryz.func87 Qe (tq Tryz.func83 JG (tq Tryz.func113 b6y Zi))) Tryz.func86
theorem b3r:YZ Tryz.prog 193 Z4 Q8:=DR (T:=Vh) (ic:=X6) (rs:=Wi) Zi Ua Tryz.func193 (by kernel_rfl) (by kernel_rfl) (by kernel_rfl) a3d
theorem PM:YZ Tryz.prog 171 Z4 Vg:=DR (T:=KF) (ic:=Ql) (rs:=Qs) (tq Tryz.func193 b3r Zi) Ua Tryz.func171 (by kernel_rfl) (by kernel_rfl) (by kernel_rfl) TI
theorem b9f:YZ Tryz.prog 142 Ch WJ:=DR (T:=Xe) (ic:=YB) (rs:=YC) (tq Tryz.func171 PM Zi) Ua Tryz.func142 (by kernel_rfl) (by kernel_rfl) (by kernel_rfl) a5v
theorem b4w:Zn Tryz.prog 142 (fun _:List Int×Unit=>true) (fun x:List Int×Unit=>Ws x.1):=Zn.ofPure b9f fun⟨l,_⟩ h=>⟨by show(Zp l).all PV.isNum=true;simp,by show Zq _ (.tup [.int .i64 (Ws ((Zp l).map PV.asInt)).1,.int .i64 (Ws ((Zp l).map PV.asInt)).2]);rw[Wx];exact JP (x:=Ws l) rfl⟩
theorem a3a:Zn Tryz.prog 93 (fun x:List Int×Unit=>decide (x.1.length<=2000000)) (fun x:List Int×Unit=>x.1):=Vs (α:=Int) (by decide) (Wu b4h (by decide))
theorem TG:Zn Tryz.prog 173 (fun _:Str×Int×Unit=>true) (fun x:Str×Int×Unit=>Wj x.1 x.2.1):=dq c1j Zi Tryz.func173
theorem c9d:ZZ Tryz.prog 172 DF TF:=C9 (T:=a8l) (ic:=Ou) (rs:=O0) (tq Tryz.func173 TG Zi) Ua Tryz.func172 (by kernel_rfl) (by kernel_rfl) (by kernel_rfl) b9w
theorem c6u:ZZ Tryz.prog 144 X4 DD:=C9 (T:=Cc) (ic:=KQ) (rs:=Kz) (tq Tryz.func172 c9d Zi) Ua Tryz.func144 (by kernel_rfl) (by kernel_rfl) (by kernel_rfl) c1b
theorem c8j:ZZ Tryz.prog 113 X4 Rb:=C9 (T:=b6e) (ic:=LV) (rs:=Fz) (tq Tryz.func144 c6u Zi) Ua Tryz.func113 (by kernel_rfl) (by kernel_rfl) (by kernel_rfl) c2r
theorem PW:Zn Tryz.prog 143 (fun x:Str×List Int×Unit=>decide (x.2.1.length<=2000000)) (fun x:Str×List Int×Unit=>x.2.1.all (Wj x.1)):=dq Rw (tq Tryz.func113 c8j Zi) Tryz.func143
theorem a3s:Zn Tryz.prog 112 (fun x:Str×List Int×List Int×Unit=>decide (x.2.1.length<=2000000)&&decide (x.2.2.1.length<=2000000)) (fun x:Str×List Int×List Int×Unit=>LY x.1 x.2.1 x.2.2.1):=dq b0j (tq Tryz.func142 b4w (tq Tryz.func143 PW (tq Tryz.func93 a3a Zi))) Tryz.func112
theorem TB:Zn Tryz.prog 85 (fun x:Arr×Unit=>a3z x.1) (fun x:Arr×Unit=>RU x.1):=dq c1s (tq Tryz.func112 a3s Zi) Tryz.func85
theorem PX:Zn Tryz.prog 59 (fun x:Tm×Unit=>tW x.1) (fun x:Tm×Unit=>Gp x.1):=dq a3c (tq Tryz.func82 Uf (tq Tryz.func83 JG (tq Tryz.func84 BK (tq Tryz.func85 TB (tq Tryz.func86 Mv (tq Tryz.func87 Qe Zi)))))) Tryz.func59
theorem Oy:ZZ Tryz.prog 58 YX (XY 80):=C9 (T:=FI) (ic:=R9) (rs:=T9) Zi Ua Tryz.func58 (by kernel_rfl) (by kernel_rfl) (by kernel_rfl) b2f
theorem a4n{cd:Code}(h:WI Tryz.prog KM Tryz.f22 0=some cd):Vd Tryz.prog cd=some (.t 7,[8,9],BL,Bo):=by
 have:(WI Tryz.prog KM Tryz.f22 0).bind (Vd Tryz.prog)=some (.t 7,[8,9],BL,Bo):=by kernel_rfl
 rw[h]at this
 exact this
theorem b7r(hT:ZV Tryz.prog Kq): ∀ (B:Nat) (c:Ctx),c.w0.heap.size=B->(∀ i m,0<=i->c.μ0 i m=none)->a2o (KH B 4 hT Ua) (fun n cd=>WI Tryz.prog KM Tryz.f22 n=some cd) tvE c:=by
 rintro B c hB hk n cd hcd st a w q hr ⟨rfl,hE⟩
 exact Gd hT Ua BN (fun x=>by obtain⟨t,l⟩:=x;rfl) (a4n hcd) hB hk hr hE
theorem a0k:ZV Tryz.prog Kq:=(tq Tryz.func58 Oy (tq Tryz.func59 PX Zi))
theorem Pj:Zn Tryz.prog 22 (fun x:Tm×Unit=>tW x.1) (fun x:Tm×Unit=>Vw x.1):=Zn.ofM (T:=Kq) (ic:=J7) (rs:=Kv) (E:=tvE) (sel:=KM) a0k Ua Tryz.func22 (by kernel_rfl) (by kernel_rfl) (by kernel_rfl) (b7r a0k) c1x
theorem a9s:ZZ Tryz.prog 57 U7 (QY 79):=C9 (T:=b1w) (ic:=O5) (rs:=Fu) Zi Ua Tryz.func57 (by kernel_rfl) (by kernel_rfl) (by kernel_rfl) c2s
theorem Sv:Zn Tryz.prog 123 (fun _:Int×Int×Unit=>true) (fun x:Int×Int×Unit=>KS x.1 x.2.1):=dq Fv Zi Tryz.func123
theorem b3t:Zn Tryz.prog 121 (fun _:Coef×Coef×Unit=>true) (fun x:Coef×Coef×Unit=>Gn x.1 x.2.1):=dq a4w (tq Tryz.func122 Nq (tq Tryz.func123 Sv Zi)) Tryz.func121
theorem a9t:Zn Tryz.prog 120 (fun x:List Coef×List Coef×FnV 121×Unit=>decide (x.1.length<=9223372036854775807)&&decide (x.2.1.length<=9223372036854775807)) (fun x:List Coef×List Coef×FnV 121×Unit=>XH x.1 x.2.1):=dq a2s (tq Tryz.func121 b3t Zi) Tryz.func120
theorem Ar:Zn Tryz.prog 89 (fun x:Lin×Lin×Unit=>Z9 x.1&&Z9 x.2.1) (fun x:Lin×Lin×Unit=>Vx x.1 x.2.1):=dq a7d (tq Tryz.func120 a9t (tq Tryz.func123 Sv Zi)) Tryz.func89
theorem NA:Zn Tryz.prog 63 (fun x:Lin×Lin×Unit=>Z9 x.1&&Z9 x.2.1) (fun x:Lin×Lin×Unit=>Vx x.1 x.2.1==0):=dq b6h (tq Tryz.func89 Ar Zi) Tryz.func63
theorem Aj:Zn Tryz.prog 63 (fun x:Lin×Lin×Unit=>Z9 x.1&&Z9 x.2.1) (fun x:Lin×Lin×Unit=>decide (x.1=x.2.1)):=by
 have h:(fun x:Lin×Lin×Unit=>Vx x.1 x.2.1==0)=(fun x:Lin×Lin×Unit=>decide (x.1=x.2.1)):=funext fun x=>Cm.cmpLin_dec x.1 x.2.1
 rw[<- h]
 exact NA
theorem Aq:Zn Tryz.prog 71 (fun x:Tm×Unit=>tW x.1) (fun x:Tm×Unit=>x.1):=LD
theorem Nw:Zn Tryz.prog 71 (fun x:Tm×Unit=>tW x.1) (fun x:Tm×Unit=>Vp x.1):=Aq.encEq fun a=>(GH _).symm
theorem a5p:Zn Tryz.prog 61 (fun x:List Int×List Int×Unit=>Z8 x.1) (fun x:List Int×List Int×Unit=>decide (x.1=x.2.1)):=dq b8t Zi Tryz.func61
theorem b3y:Zn Tryz.prog 62 (fun x:List Lin×List Lin×FnV 63×Unit=>Z8 x.1&&x.1.all Z9&&x.2.1.all Z9) (fun x:List Lin×List Lin×FnV 63×Unit=>decide (x.1=x.2.1)):=dq b6k (tq Tryz.func63 Aj Zi) Tryz.func62
theorem a2k{N:Nat}(hN:Zn Tryz.prog 24 (fun x:Tm×Tm×Unit=>(tW x.1&&tW x.2.1)&&decide (ZO x.1<N)) (fun x:Tm×Tm×Unit=>K5 x.1 x.2.1)):Zn Tryz.prog 64 (fun x:List Tm×List Tm×FnV 24×Unit=>(tsW x.1&&tsW x.2.1)&&decide (ZY x.1<N)) (fun x:List Tm×List Tm×FnV 24×Unit=>VO x.1 x.2.1):=dq (c2l N) (tq Tryz.func24 hN Zi) Tryz.func64
theorem OG:Zn Tryz.prog 24 (fun x:Tm×Tm×Unit=>tW x.1&&tW x.2.1) (fun x:Tm×Tm×Unit=>K5 x.1 x.2.1):=Zn.rec (fun a=>ZO a.1) fun N hN=>dq (b9z N) (tq Tryz.func61 a5p (tq Tryz.func62 b3y (tq Tryz.func64 (a2k hN) Zi))) Tryz.func24
theorem b4u:Zn Tryz.prog 91 (fun x:List Str×Str×Unit=>Z8 x.1) (fun x:List Str×Str×Unit=>b8f x.1 x.2.1):=dq b6x Zi Tryz.func91
theorem b2c:Zn Tryz.prog 69 (fun x:List Str×Str×Unit=>Z8 x.1) (fun x:List Str×Str×Unit=>decide (x.2.1∈x.1)):=dq b6m (tq Tryz.func91 b4u Zi) Tryz.func69
theorem c5n:ZZ Tryz.prog 67 XL VV:=C9 (T:=Cx) (ic:=KR) (rs:=KC) (tq Tryz.func68 M3 (tq Tryz.func69 b2c Zi)) Ua Tryz.func67 (by kernel_rfl) (by kernel_rfl) (by kernel_rfl) b9k
theorem d1t:ZZ Tryz.prog 55 Vk H8:=ZZ.recN b3o fun N hN=>ZZ.congr (C9 (T:=Vv N) (ic:=XP) (rs:=XT) (tq Tryz.func76 c6r (tq Tryz.func55 (hN.congr (fun args os h=>d2f h) (fun _ _ _=>rfl)) Zi)) Ua Tryz.func55 (by kernel_rfl) (by kernel_rfl) (by kernel_rfl) (b8v N)) (fun args os h=>d3e h) (fun _ _ _=>rfl)
theorem a6l:Zn Tryz.prog 20 (fun x:Tm×Unit=>tW x.1) (fun x:Tm×Unit=>X5 x.1):=dq c2g (tq Tryz.func55 d1t (tq Tryz.func57 a9s (tq Tryz.func56 c3y Zi))) Tryz.func20
theorem Je:Zn Tryz.prog 30 (fun x:Tm×Unit=>tW x.1) (fun x:Tm×Unit=>Y5 x.1):=MU c5n c7r a6l
theorem De:Zn Tryz.prog 30 (fun x:Tm×Unit=>tW x.1) (fun x:Tm×Unit=>Y5 x.1):=Je
theorem Rj:Zn Tryz.prog 18 (fun x:Tm×Tm×Unit=>tW x.1&&tW x.2.1&&tW (Y5 x.1)&&tW (Y5 x.2.1)) (fun x:Tm×Tm×Unit=>RX x.1 x.2.1):=dq c1w (tq Tryz.func30 Je (tq Tryz.func24 OG Zi)) Tryz.func18
theorem Fp{cd:Code}(h:WI Tryz.prog KM Tryz.f21 0=some cd):Vd Tryz.prog cd=some (.t 5,[6,7],Js,Jl):=by
 have:(WI Tryz.prog KM Tryz.f21 0).bind (Vd Tryz.prog)=some (.t 5,[6,7],Js,Jl):=by kernel_rfl
 rw[h]at this
 exact this
theorem a7y(hT:ZV Tryz.prog UZ): ∀ (B:Nat) (c:Ctx),c.w0.heap.size=B->(∀ i m,0<=i->c.μ0 i m=none)->a2o (KH B 4 hT Ua) (fun n cd=>WI Tryz.prog KM Tryz.f21 n=some cd) a5j c:=by
 rintro B c hB hk n cd hcd st a w q hr ⟨rfl,hE⟩
 exact Gd hT Ua BN (fun x=>by obtain⟨t,l⟩:=x;rfl) (Fp hcd) hB hk hr hE
theorem PO:ZV Tryz.prog UZ:=(tq Tryz.func58 Oy Zi)
theorem MK:Zn Tryz.prog 21 (fun x:Tm×Unit=>tW x.1) (fun x:Tm×Unit=>G9 x.1):=Zn.ofM (T:=UZ) (ic:=Jj) (rs:=QG) (E:=a5j) (sel:=KM) PO Ua Tryz.func21 (by kernel_rfl) (by kernel_rfl) (by kernel_rfl) (a7y PO) b8m
theorem Oz{cd:Code}(h:WI Tryz.prog KM Tryz.f32 0=some cd):Vd Tryz.prog cd=some (.t 7,[8,9],JF,VQ):=by
 have:(WI Tryz.prog KM Tryz.f32 0).bind (Vd Tryz.prog)=some (.t 7,[8,9],JF,VQ):=by kernel_rfl
 rw[h]at this
 exact this
theorem b5s(hT:ZV Tryz.prog U1): ∀ (B:Nat) (c:Ctx),c.w0.heap.size=B->(∀ i m,0<=i->c.μ0 i m=none)->a2o (KH B 4 hT Ua) (fun n cd=>WI Tryz.prog KM Tryz.f32 n=some cd) a4r c:=by
 rintro B c hB hk n cd hcd st a w q hr ⟨rfl,hE⟩
 exact Gd hT Ua BN (fun x=>by obtain⟨t,l⟩:=x;rfl) (Oz hcd) hB hk hr hE
theorem LC:ZV Tryz.prog U1:=(tq Tryz.func58 Oy (tq Tryz.func57 a9s (tq Tryz.func56 c3y Zi)))
theorem Rf:Zn Tryz.prog 32 (fun x:Tm×Unit=>tW x.1) (fun x:Tm×Unit=>KO x.1):=Zn.ofM (T:=U1) (ic:=JE) (rs:=QT) (E:=a4r) (sel:=KM) LC Ua Tryz.func32 (by kernel_rfl) (by kernel_rfl) (by kernel_rfl) (b5s LC) c1t
theorem a2y:Zn Tryz.prog 38 (fun x:Tm×List Int×Unit=>tW x.1&&decide (x.2.1.length<=1048576)) (fun x:Tm×List Int×Unit=>Wv (Zr x.1 x.2.1)):=dq c0l (tq Tryz.func71 Nw Zi) Tryz.func38
theorem CS:Zn Tryz.prog 38 (fun x:Tm×List Int×Unit=>tW x.1&&decide (x.2.1.length<=1048576)) (fun x:Tm×List Int×Unit=>Kt (Zr x.1 x.2.1)):=a2y.encEq fun a=>Pt _ _
theorem CQ:Zn Tryz.prog 39 (fun x:Tm×List Int×Tm×Unit=>(tW x.1&&decide (x.2.1.length<=1048576))&&tW x.2.2.1) (fun x:Tm×List Int×Tm×Unit=>Uk x.1 x.2.1 x.2.2.1):=OH CS
theorem Du:Zn Tryz.prog 39 (fun x:Tm×List Int×Tm×Unit=>(tW x.1&&decide (x.2.1.length<=1048576))&&tW x.2.2.1) (fun x:Tm×List Int×Tm×Unit=>DX x.1 x.2.1 x.2.2.1):=CQ.encEq fun a=>Pt _ _
theorem a2v:Zn Tryz.prog 65 (fun x:List Int×List Int×Unit=>decide (x.1.length<=1048576)) (fun x:List Int×List Int×Unit=>decide (x.1=x.2.1)):=dq c1p Zi Tryz.func65
theorem a4u:Zn Tryz.prog 66 (fun x:Lin×Lin×Unit=>decide (x.1.t.length<=1048576)) (fun x:Lin×Lin×Unit=>decide (x.1=x.2.1)):=dq c0u Zi Tryz.func66
theorem JO:Zn Tryz.prog 25 (fun x:Tm×Tm×Unit=>tW x.1&&tW x.2.1) (fun x:Tm×Tm×Unit=>K5 x.1 x.2.1):=Zn.rec (fun a=>ZO a.1) fun N hN=>dq (b7h N) (tq Tryz.func65 a2v (tq Tryz.func66 a4u (tq Tryz.func25 hN Zi))) Tryz.func25
theorem Rk:Zn Tryz.prog 31 (fun x:Tm×Tm×Unit=>tW x.1&&tW x.2.1) (fun x:Tm×Tm×Unit=>Sa x.1 x.2.1):=Zn.rec (fun a=>ZO a.1) fun N hN=>dq (b9u N) (tq Tryz.func25 JO (tq Tryz.func31 hN Zi)) Tryz.func31
theorem Rz:Zn Tryz.prog 28 (fun x:Tm×Unit=>tW x.1) (fun x:Tm×Unit=>(ZO x.1:Int)):=Zn.rec (fun a=>ZO a.1) fun N hN=>dq (a8z N) (tq Tryz.func28 hN Zi) Tryz.func28
theorem Lv:Zn Tryz.prog 26 (fun x:Tm×Unit=>tW x.1) (fun x:Tm×Unit=>(Zy x.1:Int)):=Zn.rec (fun a=>ZO a.1) fun N hN=>dq (a3p N) (tq Tryz.func26 hN Zi) Tryz.func26
theorem Dj:Zn Tryz.prog 15 (fun x:Tm×Unit=>tW x.1) (fun x:Tm×Unit=>YG x.1):=Zn.rec (fun a=>ZO a.1) fun N hN=>dq (b5b N) (tq Tryz.func15 hN Zi) Tryz.func15
theorem FH:Zn Tryz.prog 13 (fun x:Tm×Int×Unit=>tW x.1) (fun x:Tm×Int×Unit=>Kg x.1 x.2.1):=dq a8h (tq Tryz.func28 Rz (tq Tryz.func26 Lv (tq Tryz.func15 Dj Zi))) Tryz.func13
theorem M4:Zn Tryz.prog 51 (fun _:Str×Unit=>true) (fun x:Str×Unit=>vT x.1):=dq c7c Zi Tryz.func51
theorem L6:Zn Tryz.prog 16 (fun _:Str×Tm×Tm×Unit=>true) (fun x:Str×Tm×Tm×Unit=>FR x.1 x.2.1 x.2.2.1):=dq b3n Zi Tryz.func16
theorem PH:Zn Tryz.prog 16 (fun _:Str×Tm×Tm×Unit=>true) (fun x:Str×Tm×Tm×Unit=>Vp (FR x.1 x.2.1 x.2.2.1)):=L6.encEq fun a=>(GH _).symm
theorem RV:Zn Tryz.prog 50 (fun _:Str×Unit=>true) (fun x:Str×Unit=>MM x.1):=dq c2k (tq Tryz.func51 M4 Zi) Tryz.func50
theorem Ay:Zn Tryz.prog 50 (fun _:Str×Unit=>true) (fun x:Str×Unit=>Vp (MM x.1)):=RV.encEq fun a=>(GH _).symm
theorem TZ:Zn Tryz.prog 12 (fun _:Unit=>true) (fun _:Unit=>true):=dq b7n (tq Tryz.func51 M4 (tq Tryz.func16 PH (tq Tryz.func50 Ay (tq Tryz.func22 Pj (tq Tryz.func25 JO (tq Tryz.func30 De (tq Tryz.func21 MK (tq Tryz.func18 Rj (tq Tryz.func32 Rf Zi))))))))) Tryz.func12
end Go.Proofs.YtgdebdgkofkeeaaGreatDoor
namespace Go.Proofs.YtgdebdgkofkeeaaGreatDoor
open Go.Pl
open Enc (enc dec is)
open EncL (encL decL isL)
set_option maxRecDepth 100000
theorem BP:Zn Tryz.prog 9 (fun x:Tm×Tm×P2×Unit=>decide (VN x.1+VN x.2.1<=1048576)) (fun _:Tm×Tm×P2×Unit=>true):=Zn.of (T:=Be) (ic:=KA) (rs:=K4) (ZK (H9 Tryz.func12 (by kernel_rfl) TZ) (ZK (H9 Tryz.func13 (by kernel_rfl) FH) (ZK (H9 Tryz.func38 (by kernel_rfl) CS) (ZK (H9 Tryz.func39 (by kernel_rfl) Du) (ZK (H9 Tryz.func31 (by kernel_rfl) Rk) Zi))))) Ua Tryz.func9 (by kernel_rfl) (by kernel_rfl) (by kernel_rfl) b7g
end Go.Proofs.YtgdebdgkofkeeaaGreatDoor
