/-
  Texts of mine that belong together (packed by pack.py), for every input: OkUa, OkUc.
-/
import Derived.Test.YtgdebdgkofkeeaaGreatDoorKV2
import Derived.Test.YtgdebdgkofkeeaaGreatDoorKV3
import Derived.Test.YtgdebdgkofkeeaaGreatDoorKV4
import Derived.Test.YtgdebdgkofkeeaaGreatDoorKV5
import Derived.KernelRfl
set_option linter.unusedVariables false
set_option linter.unusedSimpArgs false
namespace Go.Proofs.YtgdebdgkofkeeaaGreatDoor
open Go.Pl
open Enc (enc dec is)
open EncL (encL decL isL)
set_option maxRecDepth 100000
theorem WF:Tryz.prog.follows .mixedOrders=true:=by kernel_rfl
theorem tq{f:Nat}{D:Den}{l:List (Nat×Den)}{fn:Func}(hf:Tryz.prog.funcs[f]? = some fn)(h:a0a Tryz.prog f D)(k:ZU Tryz.prog (YI l))(hb:(fn.body.isSome&& !(fn.name == "runtime.NumGoroutine"))=true:=by kernel_rfl):ZU Tryz.prog (YI ((f,D)::l)):=ZA (Kk hf hb h) k
theorem dq{f nt:Nat}{α β:Type}[EncL α][Enc β]{fn:Func}{T:ZC}{ic:IC}{rs:List IRes}{pre:α->Bool}{F:α->β}(h : ∀ a,pre a=true->Zd T 0 (Zb rs (Zo (F a))) ic [] (Z9 nt (encL a)))(hT:ZU Tryz.prog T)(hf:Tryz.prog.funcs[f]? = some fn)(hic:N8 Tryz.prog fn=some ic:=by kernel_rfl)(hrs:Y2 (Xg Tryz.prog) fn.results.toList=some rs:=by kernel_rfl)(hnt:fn.ntmps=nt:=by kernel_rfl):Zl Tryz.prog f pre F:=Zl.of hT WF hf hic hrs hnt h
theorem a3d:Zl Tryz.prog 170 (fun x:Str×Unit=>decide (x.1.s.length<=281474976710656)) (fun x:Str×Unit=>YU x.1):=XJ (by
  rintro⟨⟨s⟩,⟨⟩⟩ hps Φ w vs hL hΦ hv
  have hs:s.length<=281474976710656:=by simpa using hps
  obtain⟨v,rfl,h1⟩:=c2g hv
  rw[Jd h1]
  have hsz:(⟨s.toArray⟩:ByteArray).size=s.length:=rfl
  cases h:Lib.atoiAll s
  ·rename_i n
   have e1:YU ⟨s⟩=(n,⟨false⟩):=by simp only[YU,h]
   rw[e1]
   refine(Any.strconv_Atoi_ok Tryz.lays172 ⟨s.toArray⟩ (by rw[hsz];omega) n h w).mono ?_
   rintro e w' ⟨rfl,hw⟩
   refine⟨_,rfl,.tup _ _ rfl ?_,?_⟩
   ·intro j v x hv hx
    match j with
    | 0=>cases hv;cases hx;exact .int _ _
    | 1=>cases hv;cases hx;exact .nili
    | j+2=>simp at hv
   ·rcases hw with rfl|⟨t,rfl⟩
    ·exact .refl _ _
    ·exact NK _ _ 0 _
  ·skip
   have e1:YU ⟨s⟩=(0,⟨true⟩):=by simp only[YU,h]
   rw[e1]
   obtain⟨cs,hc,ev,he,hev⟩:=hL.syn
   refine(Any.strconv_Atoi_syntax Tryz.lays172 ⟨s.toArray⟩ (by rw[hsz];omega) h ev w (H9 hΦ hc he) hev).mono ?_
   rintro e w' ⟨N,rfl,_,_,hb⟩
   refine⟨_,rfl,.tup _ _ rfl ?_,hb⟩
   intro j v x hv hx
   match j with
   | 0=>cases hv;cases hx;exact .int _ _
   | 1=>cases hv;cases hx;exact .ifc _ _
   | j+2=>simp at hv
  ·skip
   have e1:YU ⟨s⟩=(Lib.atoiSat s,⟨true⟩):=by simp only[YU,h]
   rw[e1]
   obtain⟨cs,hc,ev,he,hev⟩:=hL.rng
   refine(Any.strconv_Atoi_range Tryz.lays172 ⟨s.toArray⟩ (by rw[hsz];omega) h ev w (H9 hΦ hc he) hev).mono ?_
   rintro e w' ⟨N,rfl,_,_,hb⟩
   refine⟨_,rfl,.tup _ _ rfl ?_,hb⟩
   intro j v x hv hx
   match j with
   | 0=>cases hv;cases hx;exact .int _ _
   | 1=>cases hv;cases hx;exact .ifc _ _
   | j+2=>simp at hv)
theorem a5f:Zl Tryz.prog 141 (fun _:Int×Unit=>true) (fun x:Int×Unit=>Y1 x.1):=dq c0c Zi Tryz.func141
theorem M9:Zl Tryz.prog 140 (fun x:Str×Unit=>decide (x.1.s.length<=281474976710656)) (fun x:Str×Unit=>Yz x.1):=dq FE (tq Tryz.func169 AJ (tq Tryz.func170 a3d (tq Tryz.func68 Nt Zi))) Tryz.func140
theorem RG:Zl Tryz.prog 111 (fun x:Lin×Unit=>VC x.1) (fun x:Lin×Unit=>ZM x.1):=dq a3p (tq Tryz.func141 a5f (tq Tryz.func140 M9 Zi)) Tryz.func111
theorem Jk:Zl Tryz.prog 106 (fun _:UInt8×Unit=>true) (fun x:UInt8×Unit=>lowB x.1):=dq O3 Zi Tryz.func106
theorem RA:Zl Tryz.prog 138 (fun _:UInt8×Unit=>true) (fun x:UInt8×Unit=>digB x.1):=dq Fy Zi Tryz.func138
theorem Ei:Zl Tryz.prog 107 (fun x:Str×Bool×Unit=>decide (x.1.s.length<=1048576)) (fun x:Str×Bool×Unit=>Bh x.1 x.2.1):=dq a9p (tq Tryz.func138 RA (tq Tryz.func106 Jk Zi)) Tryz.func107
theorem DC:Zl Tryz.prog 108 (fun _:Str×Unit=>true) (fun x:Str×Unit=>DI.contains x.1.s):=dq b2m Zi Tryz.func108
theorem Ug:Zl Tryz.prog 82 (fun x:Str×Unit=>decide (x.1.s.length<=1048576)) (fun x:Str×Unit=>XL x.1.s):=dq a6f (tq Tryz.func106 Jk (tq Tryz.func107 Ei (tq Tryz.func108 DC Zi))) Tryz.func82
theorem Av:Zl Tryz.prog 115 (fun x:Str×Unit=>decide (x.1.s.length<=1048576)) (fun x:Str×Unit=>fullI x.1.s):=dq a4w (tq Tryz.func145 b2q (tq Tryz.func82 Ug Zi)) Tryz.func115
theorem Qr:Zl Tryz.prog 87 (fun x:Str×Unit=>decide (x.1.s.length<=1048576)) (fun x:Str×Unit=>fnI x.1.s):=dq b5h (tq Tryz.func82 Ug (tq Tryz.func115 Av Zi)) Tryz.func87
theorem Bq:Zl Tryz.prog 84 (fun x:Tm×Unit=>tW x.1) (fun x:Tm×Unit=>KQ x.1.nd):=dq a8a Zi Tryz.func84
theorem AX:Zl Tryz.prog 110 (fun x:Lin×Unit=>VC x.1) (fun x:Lin×Unit=> !(ZM x.1)):=dq b4t (tq Tryz.func111 RG Zi) Tryz.func110
theorem b9f:Zl Tryz.prog 139 (fun x:List Lin×FnV 110×Unit=>decide (x.1.length<=1048576)&&x.1.all VC) (fun x:List Lin×FnV 110×Unit=>XD (fun l:Lin=> !(ZM l)) x.1):=dq b9n (tq Tryz.func110 AX Zi) Tryz.func139
theorem b9r:Zl Tryz.prog 109 (fun x:List Lin×FnV 110×Unit=>decide (x.1.length<=1048576)&&x.1.all VC) (fun x:List Lin×FnV 110×Unit=>x.1.any fun l:Lin=> !(ZM l)):=dq c2i (tq Tryz.func139 b9f Zi) Tryz.func109
theorem Jn:Zl Tryz.prog 83 (fun x:Tm×Int×Int×Unit=>tW x.1) (fun x:Tm×Int×Int×Unit=>YC x.1.nd x.2.1 x.2.2.1):=dq Oo (tq Tryz.func109 b9r Zi) Tryz.func83
theorem Rs:Zl Tryz.prog 114 (fun _:Int×Unit=>true) (fun x:Int×Unit=>Z5 x.1):=dq b5p Zi Tryz.func114
theorem c3w:Zl Tryz.prog 144 (fun x:List Int×FnV 114×Unit=>decide (x.1.length<=1048576)) (fun x:List Int×FnV 114×Unit=>XD Z5 x.1):=dq b8o (tq Tryz.func114 Rs Zi) Tryz.func144
theorem b8k:Zl Tryz.prog 113 (fun x:List Int×FnV 114×Unit=>decide (x.1.length<=1048576)) (fun x:List Int×FnV 114×Unit=>x.1.any Z5):=dq b7z (tq Tryz.func144 c3w Zi) Tryz.func113
theorem M6:Zl Tryz.prog 86 (fun x:Tm×Unit=>tW x.1) (fun x:Tm×Unit=>XA x.1.nd x.1.ks.length):=dq a5v (tq Tryz.func87 Qr (tq Tryz.func83 Jn (tq Tryz.func113 b8k Zi))) Tryz.func86
theorem b3r:Y0 Tryz.prog 193 Z6 Q0:=D6 (T:=Vk) (ic:=X6) (rs:=Wh) Zi WF Tryz.func193 (by kernel_rfl) (by kernel_rfl) (by kernel_rfl) a3w
theorem LH:Y0 Tryz.prog 171 Z6 Vg:=D6 (T:=KN) (ic:=QE) (rs:=QC) (tq Tryz.func193 b3r Zi) WF Tryz.func171 (by kernel_rfl) (by kernel_rfl) (by kernel_rfl) Pd
theorem c1u:Y0 Tryz.prog 142 Cv WO:=D6 (T:=Xe) (ic:=YE) (rs:=YF) (tq Tryz.func171 LH Zi) WF Tryz.func142 (by kernel_rfl) (by kernel_rfl) (by kernel_rfl) a7c
theorem b6t:Zl Tryz.prog 142 (fun _:List Int×Unit=>true) (fun x:List Int×Unit=>Ww x.1):=Zl.ofPure c1u fun⟨l,_⟩ h=>⟨by show(Zr l).all PV.isNum=true;simp,by show Zo _ (.tup [.int .i64 (Ww ((Zr l).map PV.asInt)).1,.int .i64 (Ww ((Zr l).map PV.asInt)).2]);rw[WG];exact Ua (x:=Ww l) rfl⟩
theorem a6a:Zl Tryz.prog 93 (fun x:List Int×Unit=>decide (x.1.length<=2000000)) (fun x:List Int×Unit=>x.1):=Vw (α:=Int) (by decide) (WH a7z (by decide))
theorem Po:Zl Tryz.prog 173 (fun _:Str×Int×Unit=>true) (fun x:Str×Int×Unit=>Wt x.1 x.2.1):=dq b7j Zi Tryz.func173
theorem c7u:Z0 Tryz.prog 172 D7 RB:=BL (T:=b1o) (ic:=Es) (rs:=OH) (tq Tryz.func173 Po Zi) WF Tryz.func172 (by kernel_rfl) (by kernel_rfl) (by kernel_rfl) c2p
theorem d1h:Z0 Tryz.prog 144 Wd Ci:=BL (T:=BF) (ic:=KM) (rs:=Jg) (tq Tryz.func172 c7u Zi) WF Tryz.func144 (by kernel_rfl) (by kernel_rfl) (by kernel_rfl) c0d
theorem c6u:Z0 Tryz.prog 113 Wd RJ:=BL (T:=b7i) (ic:=FN) (rs:=OL) (tq Tryz.func144 d1h Zi) WF Tryz.func113 (by kernel_rfl) (by kernel_rfl) (by kernel_rfl) c2m
theorem NF:Zl Tryz.prog 143 (fun x:Str×List Int×Unit=>decide (x.2.1.length<=2000000)) (fun x:Str×List Int×Unit=>x.2.1.all (Wt x.1)):=dq Py (tq Tryz.func113 c6u Zi) Tryz.func143
theorem a3b:Zl Tryz.prog 112 (fun x:Str×List Int×List Int×Unit=>decide (x.2.1.length<=2000000)&&decide (x.2.2.1.length<=2000000)) (fun x:Str×List Int×List Int×Unit=>Fq x.1 x.2.1 x.2.2.1):=dq b3x (tq Tryz.func142 b6t (tq Tryz.func143 NF (tq Tryz.func93 a6a Zi))) Tryz.func112
theorem Pv:Zl Tryz.prog 85 (fun x:Arr×Unit=>a3y x.1) (fun x:Arr×Unit=>Rc x.1):=dq c1r (tq Tryz.func112 a3b Zi) Tryz.func85
theorem NM:Zl Tryz.prog 59 (fun x:Tm×Unit=>tW x.1) (fun x:Tm×Unit=>Gu x.1):=dq a3j (tq Tryz.func82 Ug (tq Tryz.func83 Jn (tq Tryz.func84 Bq (tq Tryz.func85 Pv (tq Tryz.func86 M6 (tq Tryz.func87 Qr Zi)))))) Tryz.func59
theorem Pm:Z0 Tryz.prog 58 Yu (Xh 80):=BL (T:=Oq) (ic:=Rb) (rs:=Rf) Zi WF Tryz.func58 (by kernel_rfl) (by kernel_rfl) (by kernel_rfl) a6z
theorem a4n{cd:Code}(h:XY Tryz.prog Um Tryz.f22 0=some cd):Wp Tryz.prog cd=some (.t 7,[8,9],BQ,CB):=by
 have:(XY Tryz.prog Um Tryz.f22 0).bind (Wp Tryz.prog)=some (.t 7,[8,9],BQ,CB):=by kernel_rfl
 rw[h]at this
 exact this
theorem c2s(hT:ZU Tryz.prog KG): ∀ (B:Nat) (c:Ctx),c.w0.heap.size=B->(∀ i m,0<=i->c.μ0 i m=none)->Eg (QI B 4 hT WF) (fun n cd=>XY Tryz.prog Um Tryz.f22 n=some cd) tvE c:=by
 rintro B c hB hk n cd hcd st a w q hr ⟨rfl,hE⟩
 exact QW hT WF JC (fun x=>by obtain⟨t,l⟩:=x;rfl) (a4n hcd) hB hk hr hE
theorem a0x:ZU Tryz.prog KG:=(tq Tryz.func58 Pm (tq Tryz.func59 NM Zi))
theorem TR:Zl Tryz.prog 22 (fun x:Tm×Unit=>tW x.1) (fun x:Tm×Unit=>VH x.1):=Zl.ofM (T:=KG) (ic:=GU) (rs:=KR) (E:=tvE) (sel:=Um) a0x WF Tryz.func22 (by kernel_rfl) (by kernel_rfl) (by kernel_rfl) (c2s a0x) c1v
theorem b1r:Z0 Tryz.prog 57 U9 (Ke 79):=BL (T:=b6l) (ic:=F5) (rs:=Ev) Zi WF Tryz.func57 (by kernel_rfl) (by kernel_rfl) (by kernel_rfl) b9u
theorem SA:Zl Tryz.prog 123 (fun _:Int×Int×Unit=>true) (fun x:Int×Int×Unit=>Jf x.1 x.2.1):=dq OD Zi Tryz.func123
theorem b0a:Zl Tryz.prog 121 (fun _:Coef×Coef×Unit=>true) (fun x:Coef×Coef×Unit=>GK x.1 x.2.1):=dq a5r (tq Tryz.func122 Mm (tq Tryz.func123 SA Zi)) Tryz.func121
theorem a9l:Zl Tryz.prog 120 (fun x:List Coef×List Coef×FnV 121×Unit=>decide (x.1.length<=9223372036854775807)&&decide (x.2.1.length<=9223372036854775807)) (fun x:List Coef×List Coef×FnV 121×Unit=>XK x.1 x.2.1):=dq a6m (tq Tryz.func121 b0a Zi) Tryz.func120
theorem Au:Zl Tryz.prog 89 (fun x:Lin×Lin×Unit=>Yd x.1&&Yd x.2.1) (fun x:Lin×Lin×Unit=>VG x.1 x.2.1):=dq b3y (tq Tryz.func120 a9l (tq Tryz.func123 SA Zi)) Tryz.func89
theorem Nr:Zl Tryz.prog 63 (fun x:Lin×Lin×Unit=>Yd x.1&&Yd x.2.1) (fun x:Lin×Lin×Unit=>VG x.1 x.2.1==0):=dq b9x (tq Tryz.func89 Au Zi) Tryz.func63
theorem AQ:Zl Tryz.prog 63 (fun x:Lin×Lin×Unit=>Yd x.1&&Yd x.2.1) (fun x:Lin×Lin×Unit=>decide (x.1=x.2.1)):=by
 have h:(fun x:Lin×Lin×Unit=>VG x.1 x.2.1==0)=(fun x:Lin×Lin×Unit=>decide (x.1=x.2.1)):=funext fun x=>Cm.cmpLin_dec x.1 x.2.1
 rw[<- h]
 exact Nr
theorem AB:Zl Tryz.prog 71 (fun x:Tm×Unit=>tW x.1) (fun x:Tm×Unit=>x.1):=MJ
theorem Dk:Zl Tryz.prog 71 (fun x:Tm×Unit=>tW x.1) (fun x:Tm×Unit=>VV x.1):=AB.encEq fun a=>(Gg _).symm
theorem a3c:Zl Tryz.prog 61 (fun x:List Int×List Int×Unit=>Ya x.1) (fun x:List Int×List Int×Unit=>decide (x.1=x.2.1)):=dq c1l Zi Tryz.func61
theorem a7i:Zl Tryz.prog 62 (fun x:List Lin×List Lin×FnV 63×Unit=>Ya x.1&&x.1.all Yd&&x.2.1.all Yd) (fun x:List Lin×List Lin×FnV 63×Unit=>decide (x.1=x.2.1)):=dq c2c (tq Tryz.func63 AQ Zi) Tryz.func62
theorem a3z{N:Nat}(hN:Zl Tryz.prog 24 (fun x:Tm×Tm×Unit=>(tW x.1&&tW x.2.1)&&decide (ZQ x.1<N)) (fun x:Tm×Tm×Unit=>Jb x.1 x.2.1)):Zl Tryz.prog 64 (fun x:List Tm×List Tm×FnV 24×Unit=>(tsW x.1&&tsW x.2.1)&&decide (ZZ x.1<N)) (fun x:List Tm×List Tm×FnV 24×Unit=>VU x.1 x.2.1):=dq (b7w N) (tq Tryz.func24 hN Zi) Tryz.func64
theorem Fv:Zl Tryz.prog 24 (fun x:Tm×Tm×Unit=>tW x.1&&tW x.2.1) (fun x:Tm×Tm×Unit=>Jb x.1 x.2.1):=Zl.rec (fun a=>ZQ a.1) fun N hN=>dq (c0x N) (tq Tryz.func61 a3c (tq Tryz.func62 a7i (tq Tryz.func64 (a3z hN) Zi))) Tryz.func24
theorem a7t:Zl Tryz.prog 91 (fun x:List Str×Str×Unit=>Ya x.1) (fun x:List Str×Str×Unit=>b9h x.1 x.2.1):=dq c0k Zi Tryz.func91
theorem b4v:Zl Tryz.prog 69 (fun x:List Str×Str×Unit=>Ya x.1) (fun x:List Str×Str×Unit=>decide (x.2.1∈x.1)):=dq b9z (tq Tryz.func91 a7t Zi) Tryz.func69
theorem d0a:Z0 Tryz.prog 67 XM V5:=BL (T:=BS) (ic:=K6) (rs:=Jc) (tq Tryz.func68 Nt (tq Tryz.func69 b4v Zi)) WF Tryz.func67 (by kernel_rfl) (by kernel_rfl) (by kernel_rfl) b8r
theorem d5p:Z0 Tryz.prog 55 Vm Gf:=Z0.recN a8p fun N hN=>Z0.congr (BL (T:=Vu N) (ic:=XQ) (rs:=XU) (tq Tryz.func76 c9a (tq Tryz.func55 (hN.congr (fun args os h=>d3d h) (fun _ _ _=>rfl)) Zi)) WF Tryz.func55 (by kernel_rfl) (by kernel_rfl) (by kernel_rfl) (c1m N)) (fun args os h=>d5o h) (fun _ _ _=>rfl)
theorem b3s:Zl Tryz.prog 20 (fun x:Tm×Unit=>tW x.1) (fun x:Tm×Unit=>Wi x.1):=dq b8t (tq Tryz.func55 d5p (tq Tryz.func57 b1r (tq Tryz.func56 c4x Zi))) Tryz.func20
theorem Jq:Zl Tryz.prog 30 (fun x:Tm×Unit=>tW x.1) (fun x:Tm×Unit=>Y4 x.1):=Ml d0a c9q b3s
theorem Dz:Zl Tryz.prog 30 (fun x:Tm×Unit=>tW x.1) (fun x:Tm×Unit=>Y4 x.1):=Jq
theorem Ra:Zl Tryz.prog 18 (fun x:Tm×Tm×Unit=>tW x.1&&tW x.2.1&&tW (Y4 x.1)&&tW (Y4 x.2.1)) (fun x:Tm×Tm×Unit=>R9 x.1 x.2.1):=dq c1t (tq Tryz.func30 Jq (tq Tryz.func24 Fv Zi)) Tryz.func18
theorem Ew{cd:Code}(h:XY Tryz.prog Um Tryz.f21 0=some cd):Wp Tryz.prog cd=some (.t 5,[6,7],Jy,JI):=by
 have:(XY Tryz.prog Um Tryz.f21 0).bind (Wp Tryz.prog)=some (.t 5,[6,7],Jy,JI):=by kernel_rfl
 rw[h]at this
 exact this
theorem a8h(hT:ZU Tryz.prog Qc): ∀ (B:Nat) (c:Ctx),c.w0.heap.size=B->(∀ i m,0<=i->c.μ0 i m=none)->Eg (QI B 4 hT WF) (fun n cd=>XY Tryz.prog Um Tryz.f21 n=some cd) a3v c:=by
 rintro B c hB hk n cd hcd st a w q hr ⟨rfl,hE⟩
 exact QW hT WF JC (fun x=>by obtain⟨t,l⟩:=x;rfl) (Ew hcd) hB hk hr hE
theorem LX:ZU Tryz.prog Qc:=(tq Tryz.func58 Pm Zi)
theorem NB:Zl Tryz.prog 21 (fun x:Tm×Unit=>tW x.1) (fun x:Tm×Unit=>G6 x.1):=Zl.ofM (T:=Qc) (ic:=JF) (rs:=QX) (E:=a3v) (sel:=Um) LX WF Tryz.func21 (by kernel_rfl) (by kernel_rfl) (by kernel_rfl) (a8h LX) c1e
theorem Od{cd:Code}(h:XY Tryz.prog Um Tryz.f32 0=some cd):Wp Tryz.prog cd=some (.t 7,[8,9],Jw,VX):=by
 have:(XY Tryz.prog Um Tryz.f32 0).bind (Wp Tryz.prog)=some (.t 7,[8,9],Jw,VX):=by kernel_rfl
 rw[h]at this
 exact this
theorem b2j(hT:ZU Tryz.prog Qg): ∀ (B:Nat) (c:Ctx),c.w0.heap.size=B->(∀ i m,0<=i->c.μ0 i m=none)->Eg (QI B 4 hT WF) (fun n cd=>XY Tryz.prog Um Tryz.f32 n=some cd) a4t c:=by
 rintro B c hB hk n cd hcd st a w q hr ⟨rfl,hE⟩
 exact QW hT WF JC (fun x=>by obtain⟨t,l⟩:=x;rfl) (Od hcd) hB hk hr hE
theorem NZ:ZU Tryz.prog Qg:=(tq Tryz.func58 Pm (tq Tryz.func57 b1r (tq Tryz.func56 c4x Zi)))
theorem Rn:Zl Tryz.prog 32 (fun x:Tm×Unit=>tW x.1) (fun x:Tm×Unit=>KV x.1):=Zl.ofM (T:=Qg) (ic:=Jj) (rs:=Kn) (E:=a4t) (sel:=Um) NZ WF Tryz.func32 (by kernel_rfl) (by kernel_rfl) (by kernel_rfl) (b2j NZ) b9i
theorem Og{cd:Code}(h:XY Tryz.prog Um Tryz.f35 0=some cd):Wp Tryz.prog cd=some (.t 9,[10,11],JP,JA):=by
 have:(XY Tryz.prog Um Tryz.f35 0).bind (Wp Tryz.prog)=some (.t 9,[10,11],JP,JA):=by kernel_rfl
 rw[h]at this
 exact this
theorem a6x(hT:ZU Tryz.prog Uj): ∀ (B:Nat) (c:Ctx),c.w0.heap.size=B->(∀ i m,0<=i->c.μ0 i m=none)->Eg (QI B 4 hT WF) (fun n cd=>XY Tryz.prog Um Tryz.f35 n=some cd) FO c:=by
 rintro B c hB hk n cd hcd st a w q hr ⟨rfl,hE⟩
 exact QW hT WF JC (fun x=>by obtain⟨t,l⟩:=x;rfl) (Og hcd) hB hk hr hE
theorem Mj:ZU Tryz.prog Uj:=(tq Tryz.func58 Pm (tq Tryz.func71 Dk Zi))
theorem Oz:Zl Tryz.prog 35 (fun x:Tm×Int×Unit=>tW x.1) (fun x:Tm×Int×Unit=>Xo (WJ x.1 x.2.1)):=Zl.ofM (T:=Uj) (ic:=QS) (rs:=U6) (E:=FO) (sel:=Um) Mj WF Tryz.func35 (by kernel_rfl) (by kernel_rfl) (by kernel_rfl) (a6x Mj) b8m
theorem M4:Zl Tryz.prog 35 (fun x:Tm×Int×Unit=>tW x.1) (fun x:Tm×Int×Unit=>VP (WJ x.1 x.2.1)):=Oz.encEq fun a=>VI _ _
theorem a4g:Zl Tryz.prog 38 (fun x:Tm×List Int×Unit=>tW x.1&&decide (x.2.1.length<=1048576)) (fun x:Tm×List Int×Unit=>Xo (ZH x.1 x.2.1)):=dq c3e (tq Tryz.func71 Dk Zi) Tryz.func38
theorem CV:Zl Tryz.prog 38 (fun x:Tm×List Int×Unit=>tW x.1&&decide (x.2.1.length<=1048576)) (fun x:Tm×List Int×Unit=>VP (ZH x.1 x.2.1)):=a4g.encEq fun a=>VI _ _
theorem Bn:Zl Tryz.prog 39 (fun x:Tm×List Int×Tm×Unit=>(tW x.1&&decide (x.2.1.length<=1048576))&&tW x.2.2.1) (fun x:Tm×List Int×Tm×Unit=>UQ x.1 x.2.1 x.2.2.1):=OU CV
theorem DD:Zl Tryz.prog 39 (fun x:Tm×List Int×Tm×Unit=>(tW x.1&&decide (x.2.1.length<=1048576))&&tW x.2.2.1) (fun x:Tm×List Int×Tm×Unit=>Uq x.1 x.2.1 x.2.2.1):=Bn.encEq fun a=>VI _ _
theorem a5m:Zl Tryz.prog 65 (fun x:List Int×List Int×Unit=>decide (x.1.length<=1048576)) (fun x:List Int×List Int×Unit=>decide (x.1=x.2.1)):=dq b8j Zi Tryz.func65
theorem a5j:Zl Tryz.prog 66 (fun x:Lin×Lin×Unit=>decide (x.1.t.length<=1048576)) (fun x:Lin×Lin×Unit=>decide (x.1=x.2.1)):=dq c0j Zi Tryz.func66
theorem JZ:Zl Tryz.prog 25 (fun x:Tm×Tm×Unit=>tW x.1&&tW x.2.1) (fun x:Tm×Tm×Unit=>Jb x.1 x.2.1):=Zl.rec (fun a=>ZQ a.1) fun N hN=>dq (c4g N) (tq Tryz.func65 a5m (tq Tryz.func66 a5j (tq Tryz.func25 hN Zi))) Tryz.func25
theorem R8:Zl Tryz.prog 31 (fun x:Tm×Tm×Unit=>tW x.1&&tW x.2.1) (fun x:Tm×Tm×Unit=>Di x.1 x.2.1):=Zl.rec (fun a=>ZQ a.1) fun N hN=>dq (c3n N) (tq Tryz.func25 JZ (tq Tryz.func31 hN Zi)) Tryz.func31
theorem PE:Zl Tryz.prog 28 (fun x:Tm×Unit=>tW x.1) (fun x:Tm×Unit=>(ZQ x.1:Int)):=Zl.rec (fun a=>ZQ a.1) fun N hN=>dq (b7b N) (tq Tryz.func28 hN Zi) Tryz.func28
theorem M7:Zl Tryz.prog 26 (fun x:Tm×Unit=>tW x.1) (fun x:Tm×Unit=>(Zv x.1:Int)):=Zl.rec (fun a=>ZQ a.1) fun N hN=>dq (a3o N) (tq Tryz.func26 hN Zi) Tryz.func26
theorem Ql:Zl Tryz.prog 15 (fun x:Tm×Unit=>tW x.1) (fun x:Tm×Unit=>Yk x.1):=Zl.rec (fun a=>ZQ a.1) fun N hN=>dq (b6y N) (tq Tryz.func15 hN Zi) Tryz.func15
theorem Eb:Zl Tryz.prog 13 (fun x:Tm×Int×Unit=>tW x.1) (fun x:Tm×Int×Unit=>Kw x.1 x.2.1):=dq a8l (tq Tryz.func28 PE (tq Tryz.func26 M7 (tq Tryz.func15 Ql Zi))) Tryz.func13
theorem PN:Zl Tryz.prog 51 (fun _:Str×Unit=>true) (fun x:Str×Unit=>vT x.1):=dq c8a Zi Tryz.func51
theorem FB:Zl Tryz.prog 16 (fun _:Str×Tm×Tm×Unit=>true) (fun x:Str×Tm×Tm×Unit=>Fs x.1 x.2.1 x.2.2.1):=dq b4c Zi Tryz.func16
theorem Mc:Zl Tryz.prog 16 (fun _:Str×Tm×Tm×Unit=>true) (fun x:Str×Tm×Tm×Unit=>VV (Fs x.1 x.2.1 x.2.2.1)):=FB.encEq fun a=>(Gg _).symm
theorem RV:Zl Tryz.prog 50 (fun _:Str×Unit=>true) (fun x:Str×Unit=>L6 x.1):=dq b8i (tq Tryz.func51 PN Zi) Tryz.func50
theorem Ay:Zl Tryz.prog 50 (fun _:Str×Unit=>true) (fun x:Str×Unit=>VV (L6 x.1)):=RV.encEq fun a=>(Gg _).symm
theorem Rp:Zl Tryz.prog 12 (fun _:Unit=>true) (fun _:Unit=>true):=dq b7p (tq Tryz.func51 PN (tq Tryz.func16 Mc (tq Tryz.func50 Ay (tq Tryz.func22 TR (tq Tryz.func25 JZ (tq Tryz.func30 Dz (tq Tryz.func21 NB (tq Tryz.func18 Ra (tq Tryz.func32 Rn Zi))))))))) Tryz.func12
end Go.Proofs.YtgdebdgkofkeeaaGreatDoor
namespace Go.Proofs.YtgdebdgkofkeeaaGreatDoor
open Go.Pl
open Enc (enc dec is)
open EncL (encL decL isL)
set_option maxRecDepth 100000
theorem Eu:Zl Tryz.prog 47 (fun x:Tm×Int×Unit=>tW x.1) (fun x:Tm×Int×Unit=>Xo (WJ x.1 x.2.1)):=Zl.of (T:=TP) (ic:=Ca) (rs:=DX) (ZA (Kk Tryz.func15 (by kernel_rfl) Ql) Zi) WF Tryz.func47 (by kernel_rfl) (by kernel_rfl) (by kernel_rfl) b4g
theorem a5y:Zl Tryz.prog 48 (fun x:Tm×List Int×Unit=>tW x.1&&decide (x.2.1.length<=1048576)) (fun x:Tm×List Int×Unit=>Xo (ZH x.1 x.2.1)):=Zl.of (T:=Bl) (ic:=K5) (rs:=KO) Zi WF Tryz.func48 (by kernel_rfl) (by kernel_rfl) (by kernel_rfl) (fun x h=>c3t x (by simp only[Bool.and_eq_true]at h;exact h.2))
theorem RN:Zl Tryz.prog 47 (fun x:Tm×Int×Unit=>tW x.1) (fun x:Tm×Int×Unit=>VP (WJ x.1 x.2.1)):=Eu.encEq fun a=>VI _ _
theorem Dq:Zl Tryz.prog 48 (fun x:Tm×List Int×Unit=>tW x.1&&decide (x.2.1.length<=1048576)) (fun x:Tm×List Int×Unit=>VP (ZH x.1 x.2.1)):=a5y.encEq fun a=>VI _ _
theorem BV:Zl Tryz.prog 49 (fun x:Tm×List Int×Tm×Unit=>(tW x.1&&decide (x.2.1.length<=1048576))&&tW x.2.2.1) (fun x:Tm×List Int×Tm×Unit=>UQ x.1 x.2.1 x.2.2.1):=Zl.rec (fun a=>a.2.1.length) fun N hN=>Zl.of (T:=b0g N) (ic:=Oj) (rs:=OW) (ZA (Kk Tryz.func48 (by kernel_rfl) Dq) (ZA (Kk Tryz.func49 (by kernel_rfl) (hN.encEq fun a=>VI _ _)) Zi)) WF Tryz.func49 (by kernel_rfl) (by kernel_rfl) (by kernel_rfl) (c1y N)
theorem GI:Zl Tryz.prog 49 (fun x:Tm×List Int×Tm×Unit=>(tW x.1&&decide (x.2.1.length<=1048576))&&tW x.2.2.1) (fun x:Tm×List Int×Tm×Unit=>Uq x.1 x.2.1 x.2.2.1):=BV.encEq fun a=>VI _ _
theorem Pn:Zl Tryz.prog 11 (fun x:Tm×Tm×List Int×Unit=>decide (Vj x.1+Vj x.2.1<=1048576)&&decide (x.2.2.1.length<=1048576)) (fun _:Tm×Tm×List Int×Unit=>true):=Zl.of (T:=b3p) (ic:=Oi) (rs:=Ee) (ZA (Kk Tryz.func12 (by kernel_rfl) Rp) (ZA (Kk Tryz.func13 (by kernel_rfl) Eb) (ZA (Kk Tryz.func35 (by kernel_rfl) M4) (ZA (Kk Tryz.func47 (by kernel_rfl) RN) (ZA (Kk Tryz.func38 (by kernel_rfl) CV) (ZA (Kk Tryz.func48 (by kernel_rfl) Dq) (ZA (Kk Tryz.func39 (by kernel_rfl) DD) (ZA (Kk Tryz.func49 (by kernel_rfl) GI) (ZA (Kk Tryz.func31 (by kernel_rfl) R8) Zi))))))))) WF Tryz.func11 (by kernel_rfl) (by kernel_rfl) (by kernel_rfl) c3i
end Go.Proofs.YtgdebdgkofkeeaaGreatDoor
