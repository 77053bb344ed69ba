/-
  Lemmas for the law PrinterParens, for every input.
-/
import Derived.Test.YtbpdlcdciffpjaaGreatDoorChecked
import Derived.Test.YtbpdlcdciffpjaaGreatDoorProg
import Derived.Test.YtbpdlcdciffpjaaGreatDoorKQ2
import Derived.Test.YtbpdlcdciffpjaaGreatDoorKQ3
import Derived.KernelRfl
import Derived.Lib.ItoaLen
open And renaming intro->Il
open Array renaming getElem?_append->IR,replicate->aU
open Bool renaming and_eq_true->Ik,true_and->IE,and_true->IZ,and_false->I5,and_eq_false_iff->aC,or_eq_true->aT,false_and->aX,or_eq_false_iff->aY,and_assoc->bF,and_comm->bI,or_true->bQ
open Classical renaming not_not->I4
open Go.Code renaming region->IL,cond->bH,block->bW
open Go.IntKind renaming i64->Ip,wrap->IK,u8->bY
open Go.Lib renaming trimSuffix->IX,itoa_length_le->af,atoiSat->bV
open Go.Op renaming bytesLess->I7
open Go.Pl.At renaming w->aR,to->bN
open Go.Pl.PV renaming cells->Ij,asInt->Iq,asStr->IG,asXs->IP,cellsOk->aO,asT->bE
open Go.Pl.Sh renaming co->aG
open Int renaming toNat->Iu,toNat_natCast->IV,zero_add->bU
open List renaming length->Cm,length_append->Ia,length_cons->Ic,map->Ie,length_nil->Ig,drop->Ih,getD->Ii,length_map->Im,drop_eq_getElem_cons->Ir,take->Iy,getElem_mem->Iz,take_of_length_le->IA,drop_of_length_le->IB,all_eq_true->II,append_assoc->IJ,getElem?_eq_some_iff->IM,append_nil->IQ,mem_cons->IU,drop_zero->IW,not_mem_nil->IY,foldl_cons->I1,lt_irrefl->I8,take_add_one->I9,all->aB,map_append->aF,mem_of_getElem?->aH,flatMap_append->aJ,getElem_of_mem->aK,flatMap_cons->aM,all_eq_false->aN,map_map->aP,getElem?_eq_getElem->aQ,length_eq_one_iff->aV,drop_eq_nil_of_le->aW,map_cons->aZ,all_cons->aa,map_nil->ae,filter_append->ah,getElem?_map->aj,foldl_append->ak,isEmpty_iff->au,flatMap_nil->ax,map_toArray->az,take_length->bA,drop_drop->bG,lt_asymm->bK,map_take->bL,isEmpty->bO
open Nat renaming le_refl->I6,le_trans->aD,zero_add->aI,lt_of_le_of_lt->aL,not_lt->bD,add_comm->bT
open Prod renaming fst->Ib,snd->Iw
open Go.Proofs.Tryz
set_option linter.unusedVariables false
set_option linter.unusedSimpArgs false
set_option linter.defProp false
namespace Go.Pl
open Go.RowKit
open Enc (enc dec is)
open EncL (encL decL isL)
set_option maxRecDepth 100000
abbrev j1w(N:Nat)(ps:List PV)(k:Int->Prop):Prop:=V6 (λ(x:Tm×Unit)=>gW (Ib x)&&decide (Yt (Ib x)<N)) (λ(x:Tm×Unit)=>(↑(Yt (Ib x)):Int)) ps k
abbrev j0i(N:Nat)(ps:List PV)(k:Int->Prop):Prop:=V6 (λ(x:Tm×Unit)=>gW (Ib x)&&decide (Yt (Ib x)<N)) (λ(x:Tm×Unit)=>(↑(Yh (Ib x)):Int)) ps k
abbrev j0d(N:Nat)(ps:List PV)(k:List Tm->Prop):Prop:=V6 (λ(x:Tm×Unit)=>tW (Ib x)&&decide (Yt (Ib x)<N)) (λ(x:Tm×Unit)=>Vl (Ib x)) ps k
abbrev j0p(ps:List PV)(k:Int->Prop):Prop:=V6 (λ(x:Tm×Unit)=>tW (Ib x)) (λ(x:Tm×Unit)=>(↑(Yt (Ib x)):Int)) ps k
abbrev j4c(ps:List PV)(k:Int->Prop):Prop:=V6 (λ(x:Tm×Unit)=>tW (Ib x)) (λ(x:Tm×Unit)=>(↑(Yh (Ib x)):Int)) ps k
abbrev j4p(ps:List PV)(k:List Tm->Prop):Prop:=V6 (λ(x:Tm×Unit)=>tW (Ib x)) (λ(x:Tm×Unit)=>Vl (Ib x)) ps k
abbrev f4j(ps:List PV)(k:Tm->Prop):Prop:=ceP (λ(x:Str×Unit)=>vT (Ib x)) ps k
abbrev j0c(ps:List PV)(k:Tm->Prop):Prop:=ceP (λ(x:Str×List Tm×Unit)=>cT (Ib x) (Ib (Iw x))) ps k
abbrev e0x(ps:List PV)(k:Tm->Prop):Prop:=V6 (λ(x:Str×List Tm×Unit)=>true) (λ(x:Str×List Tm×Unit)=>cT (Ib x) (Ib (Iw x))) ps k
abbrev h8y(ps:List PV)(k:Str×Int->Prop):Prop:=V6 (λ(x:Tm×Unit)=>tW (Ib x)) (λ(x:Tm×Unit)=>Qj (Ib x)) ps k
noncomputable def Sv:IC:=Xx Proofs.Tryz.f15
def SQ:List IRes:=[.tmp 2]
abbrev h2t:Nat:=22
def Fg(N:Nat):ZH:=YT [(15,.pure (preT (λx:Tm×Unit=>gW x.1&&decide (Yt x.1<N))) (Zp (λx:Tm×Unit=>(Yt x.1:Int))))]
def Xc(a:Nd)(Zl:List Tm):Slot:=.obj (.box (Xu a Zl))
def i1g{G:PV->Prop}(N:Nat)(n:Nd)(ks:List Tm):=Vo (At (Fg N) 0 (Za SQ G) Sv 0 22 [(1,.ptr 0 0),(3,Zj),(4,Zj)] [Xc n ks]) G (.nil) (Fg N) SQ Sv (Z7 22 [Ke n ks]) (by delta Zj Xc;exact rfl)
def K5(a:Int)(Zl:List Tm):Bool:=decide (a<(↑(Xw Zl):Int))
def j4n(a:Nd)(Zl:List Tm):AObj:=.box [.pv (enc a.kind),.pv (enc a.line),.pv (enc a.name),.pv (enc a.num),.pv (enc a.elem),.pv (enc a.dims),.pv (enc a.data),.pv (enc a.sizes),.pv (enc a.ranks),.pv (enc Zl)]
def QJ(a:Nd)(Zl:List Tm):Slot:=.obj (j4n a Zl)
def d9b{G:PV->Prop}(N:Nat)(n:Nd)(ks:List Tm)(m i:Int):=VP (if (K5 i ks) then(QU ks i 10 λb=>(shT b∧(j1w N (agT b) λa=>(At (Fg N) 0 (Za SQ G) Sv 0 22 [(1,.ptr 0 0),(3,.pv (.int .i64 (if true then if a>m then a else m else if a<m then a else m))),(4,ZY i)] [Xc n ks]))))else(G (.int .i64 (Yx m)))) G (dm [dr Tm,dv Int] 15 0x2026115100742) (Fg N) SQ Sv 0 22 [(1,.ptr 0 0),(3,Zv m),(4,Zv i)] [QJ n ks] (by delta Xw K5 Yx ZY Xc;exact rfl)
noncomputable def G6:IC:=Xx Proofs.Tryz.f16
def Dl:List IRes:=[.tmp 2]
abbrev f4f:Nat:=21
def Td(N:Nat):ZH:=YT [(16,.pure (preT (λx:Tm×Unit=>gW x.1&&decide (Yt x.1<N))) (Zp (λx:Tm×Unit=>(Yh x.1:Int))))]
def h4w{G:PV->Prop}(N:Nat)(n:Nd)(ks:List Tm):=Vo (At (Td N) 0 (Za Dl G) G6 0 21 [(1,.ptr 0 0),(3,WK),(4,Zj)] [Xc n ks]) G (.nil) (Td N) Dl G6 (Z7 21 [Ke n ks]) (by delta WK Zj Xc;exact rfl)
def c4z{G:PV->Prop}(N:Nat)(n:Nd)(ks:List Tm)(m i:Int):=VP (if (K5 i ks) then(QU ks i 10 λa=>(shT a∧(j0i N (agT a) λb=>(At (Td N) 0 (Za Dl G) G6 0 21 [(1,.ptr 0 0),(3,.pv (.int .i64 (IK Ip (m+b)))),(4,ZY i)] [Xc n ks]))))else(G (.int .i64 m))) G (dm [dr Tm,dv Int] 15 0x226115100842) (Td N) Dl G6 0 21 [(1,.ptr 0 0),(3,Zv m),(4,Zv i)] [QJ n ks] (by delta Xw K5 Yx ZY Xc;exact rfl)
noncomputable def SN:IC:=Xx Proofs.Tryz.f17
def SK:List IRes:=[.tmp 2]
abbrev h2n:Nat:=23
def L6(N:Nat):ZH:=YT [(17,.pure (preT (λx:Tm×Unit=>tW x.1&&decide (Yt x.1<N))) (Zp (λx:Tm×Unit=>Vl x.1)))]
def i0x{G:PV->Prop}(N:Nat)(n:Nd)(ks:List Tm):=Vo (At (L6 N) 0 (Za SK G) SN 0 23 [(1,.ptr 0 0),(3,.row 1 1 0 1),(4,Zj)] [Xc n ks,.obj (.row false 28 10 (ndA n ks))]) G (.lit (.nil)) (L6 N) SK SN (Z7 23 [Ke n ks]) (by delta Zj Xc;exact rfl)
def MO(a:Nat)(Zl:List Tm):PV:=.sl 10 false (Ih 0 (Iy a (Ie enc Zl)))
def c6u(a:List Tm):Slot:=.obj (.row false 28 10 (a.map enc))
def d6o{G:PV->Prop}(N:Nat)(n:Nd)(ks:List Tm)(k:Nat)(i:Int)(o:List Tm):=VP (if (K5 i ks) then(QU ks i 10 λb=>(shT b∧(j0d N (agT b) λa=>((bO (Ie enc a)||Enc.sz Tm==10)∧((Cm (Ie enc o)==k&&k==k&&decide ((k+Cm (Ie enc a))*176<=1099511627776)&&decide (k+Cm (Ie enc a)<=1099511627776))∧(At (L6 N) 0 (Za SK G) SN 0 23 [(1,.ptr 0 0),(3,.row 1 (k+Cm (Ie enc a)) 0 (k+Cm (Ie enc a))),(4,ZY i)] [Xc n ks,.obj (.row false 28 10 (Ie enc o++Ie enc a))]))))))else((Cm (Ie enc o)==k)∧(G (MO k o)))) G (dm [dr Tm,dv (List Tm)] 17 0x102116115100942) (L6 N) SK SN 0 23 [(1,.ptr 0 0),(3,.row 1 k 0 k),(4,Zv i)] [QJ n ks,c6u o] (by delta Xw K5 Yx ZY Xc MO;exact rfl)
noncomputable def Qq:IC:=Xx Proofs.Tryz.f6
def UZ:List IRes:=[.tmp 4]
abbrev g7d:Nat:=91
def K4:ZH:=YT [(15,.pure (preT (λx:Tm×Unit=>tW x.1)) (Zp (λx:Tm×Unit=>(Yt x.1:Int)))),(16,.pure (preT (λx:Tm×Unit=>tW x.1)) (Zp (λx:Tm×Unit=>(Yh x.1:Int)))),(17,.pure (preT (λx:Tm×Unit=>tW x.1)) (Zp (λx:Tm×Unit=>Vl x.1)))]
def i1o{G:PV->Prop}(n:Nd)(ks:List Tm)(m:Int):=Vo ((j0p (ndA n ks) λa=>(if (decide (a>12)) then G (.bool false)else(j4c (ndA n ks) λe=>(if (decide (e>m)) then G (.bool false)else(j4p (ndA n ks) λb=>(At K4 0 (Za UZ G) Qq 0 91 [(5,.pv (Y0 b)),(6,Zj)] []))))))) G (dm [dv Int,dv (List Tm)] 29 0x610001422225120222220064251) K4 UZ Qq (Z7 91 [Ke n ks,.int .i64 m]) (by delta Y0 Zj;exact rfl)
def Vb(a:Tm):List PV:=Ij (enc a)
def a0e(a:Tm):Bool:=decide (0+Cm [Sh.sl 2]<=Cm (Ih 7 (Vb a)))&&XG (Ih 7 (Vb a)) 0 [Sh.sl 2]
def LJ(a:Tm):List PV:=IP (Ii (Ih 7 (Vb a)) 0 default)
def d9k{G:PV->Prop}(n:Nd)(ks:List Tm)(m:Int)(i:Int)(o:List Tm):=VP (if (K5 i o) then(QU o i 10 λe=>((decide (0+Cm [Sh.str]<=Cm (Ih 2 (Vb e)))&&XG (Ih 2 (Vb e)) 0 [Sh.str])∧(if (decide ((↑(Cm (IG (Ii (Ih 2 (Vb e)) 0 default))):Int)>40)) then G (.bool false)else(QU o i 10 λa=>((decide (0+Cm [Sh.sl 1]<=Cm (Ih 2 (Ih 4 (Vb a))))&&XG (Ih 2 (Ih 4 (Vb a))) 0 [Sh.sl 1])∧(if (decide ((↑(Cm (IP (Ii (Ih 2 (Ih 4 (Vb a))) 0 default))):Int)>30)) then G (.bool false)else(QU o i 10 λg=>((decide (0+Cm [Sh.sl 1]<=Cm (Ih 1 (Ih 4 (Vb g))))&&XG (Ih 1 (Ih 4 (Vb g))) 0 [Sh.sl 1])∧(if (decide ((↑(Cm (IP (Ii (Ih 1 (Ih 4 (Vb g))) 0 default))):Int)>8)) then G (.bool false)else(QU o i 10 λh=>((a0e h)∧(if (decide ((↑(Cm (LJ h)):Int)>6)) then G (.bool false)else(QU o i 10 λb=>((decide (0+Cm [Sh.sl 1]<=Cm (Ih 8 (Vb b)))&&XG (Ih 8 (Vb b)) 0 [Sh.sl 1])∧(if (decide ((↑(Cm (IP (Ii (Ih 8 (Vb b)) 0 default))):Int)>10)) then G (.bool false)else(At K4 0 (Za UZ G) Qq 1 91 [(5,.pv (Y0 o)),(6,Zv i),(7,Zj)] []))))))))))))))))else(V3 G)) G (dm [dr Tm] 166 0x14222212251220222222220094222212251220222222222222222201142222122251220222222222222222222222222201a4222212225122022222222222222222222222222222222220234215109f42) K4 UZ Qq 0 91 [(5,.pv (enc o)),(6,Zv i)] [] (by delta Xw K5 Vb a0e LJ Y0 Zv Zj V3;exact rfl)
def b1g(a:Tm)(Zl:Int):List PV:=Ih 1 (Ij (Ii (LJ a) (Iu Zl) default))
def d7i{G:PV->Prop}(n:Nd)(ks:List Tm)(m:Int)(i j:Int)(o:List Tm):=VP ((QU o i 10 λb=>((a0e b)∧(if (decide (j<(↑(Cm (LJ b)):Int))) then(QU o i 10 λa=>((a0e a)∧((decide (0<=j)&&decide (Iu j<Cm (LJ a))&&2==2)∧((decide (0+Cm [Sh.sl 2]<=Cm (b1g a j))&&XG (b1g a j) 0 [Sh.sl 2])∧(if (decide ((↑(Cm (IP (Ii (b1g a j) 0 default))):Int)>6)) then G (.bool false)else(At K4 0 (Za UZ G) Qq 1 91 [(5,.pv (Y0 o)),(6,Zv i),(7,ZY j)] []))))))else(At K4 0 (Za UZ G) Qq 0 91 [(5,.pv (Y0 o)),(6,ZY i)] []))))) G (dm [dr Tm] 25 0x20200014213115100e42151) K4 UZ Qq 1 91 [(5,.pv (enc o)),(6,Zv i),(7,Zv j)] [] (by delta Vb a0e LJ b1g Y0 Zv Yx ZY;exact rfl)
noncomputable def h9c:IC:=Xx Proofs.Tryz.f11
def h9s:List IRes:=[.cell true 10 2]
abbrev j2j:Nat:=5
def j4o:ZH:=YT []
def j6b{G:PV->Prop}(s:List UInt8)(h:G ((.agg [.int .i64 1,.int .i64 0,.str s,.int .i64 0,.str [],.sl 0 true [],.sl 0 true [],.sl 0 true [],.sl 0 true [],.sl 0 true []]))):Zh j4o 0 (Za h9s G) h9c [] (Z7 5 [.str s]):=Zh.tp (.nil) h
noncomputable def c1d:IC:=Xx Proofs.Tryz.f10
def c0o:List IRes:=[.cell true 10 4]
abbrev e9r:Nat:=8
def d9g:ZH:=YT []
def h5t{G:PV->Prop}(s:List UInt8)(l:List Tm):=Vo (G (.agg [.int .i64 6,.int .i64 0,.str s,.int .i64 0,.str [],.sl 0 true [],.sl 0 true [],.sl 0 true [],.sl 0 true [],Y0 l])) G (.nil) d9g c0o c1d (Z7 8 [.str s,enc l]) (by delta Y0;exact rfl)
noncomputable def a7h:IC:=Xx Proofs.Tryz.f4
def a7j:List IRes:=[.tmp 0]
abbrev e6r:Nat:=47
def c3l:ZH:=YT [(11,.pure (preT (λ_:Str×Unit=>true)) (Zp (λx:Str×Unit=>vT x.1))),(10,.pure (preT (λ_:Str×List Tm×Unit=>true)) (Zp (λx:Str×List Tm×Unit=>cT x.1 x.2.1))),(5,.pure (preT (λx:Tm×Unit=>tW x.1)) (Zp (λx:Tm×Unit=>Qj x.1)))]
def GK:PV:=.str [105,110,116]
def b4v(b Zl:Tm):Bool:=aB [enc b,enc Zl] λ(a:PV)=>Cm (Ij a)==10&&aO a
def f7b{G:PV->Prop}:=Vo (∃ b:Tm,(AV.pv (Zp (λ(x:Str×Unit)=>vT x.1) [.str [97]])=AV.pv (enc b))∧(f4j [.str [98]] λh=>(j0c [Am,.sl 10 false [.agg [.int .i64 2,.int .i64 0,GK,.int .i64 5,.str [],.sl 0 true [],.sl 0 true [],.sl 0 true [],.sl 0 true [],.sl 0 true []]]] λk=>((b4v h k)∧(e0x [Rm,.sl 10 false [enc h,enc k]] λj=>((b4v b j)∧(e0x [Rm,.sl 10 false [enc b,enc j]] λq=>(h8y [enc q] λl=>(f4j [.str [97]] λg=>(f4j [.str [98]] λe=>((b4v g e)∧(e0x [.str [97,100,100],.sl 10 false [enc g,enc e]] λi=>((aB [enc i,PV.agg [PV.int .i64 2,PV.int .i64 0,PV.str [105,110,116],PV.int .i64 (-2:Int),PV.str [],PV.sl 0 true [],PV.sl 0 true [],PV.sl 0 true [],PV.sl 0 true [],PV.sl 0 true []]] λ(x:PV)=>Cm (Ij x)==10&&aO x)∧(e0x [.str [109,117,108],.sl 10 false [enc i,.agg [.int .i64 2,.int .i64 0,GK,.int .i64 (-2),.str [],.sl 0 true [],.sl 0 true [],.sl 0 true [],.sl 0 true [],.sl 0 true []]]] λr=>(h8y [enc r] λa=>(if (l.2==0) then if (a.2==0)=true then if (Str.s l.1==[97,32,45,32,40,98,32,45,32,45,40,53,41,41])=true then G (.bool (Str.s a.1==[40,97,32,43,32,98,41,32,42,32,45,50]))else(Zu G)else(Zu G)else(Zu G))))))))))))))))) G (dm [dv Tm,dv (Str×Int)] 74 0x222222220222220220222004422200e422201b4261512151215252615121512152225252) c3l a7j a7h (Z7 47 []) (by delta Am GK b4v Rm Zu;exact rfl)
abbrev OA(N:Nat)(ps:List PV)(k:Str->Prop):Prop:=V6 (λ(x:Tm×Unit)=>tW (Ib x)&&XH (Ib x)&&decide (Yt (Ib x)<N)) (λ(x:Tm×Unit)=>ZV (Ib x)) ps k
abbrev j0w(ps:List PV)(k:Str->Prop):Prop:=V6 (λ(x:List Lin×FnV 34×Unit)=>decide (Cm (Ib x)<=1048576)&&aB (Ib x) Zf) (λ(x:List Lin×FnV 34×Unit)=>WI (Ie XU (Ib x))) ps k
abbrev d9s(ps:List PV)(k:Str->Prop):Prop:=V6 (λ(x:List Int×FnV 52×Unit)=>decide (Cm (Ib x)<=1048576)&&V4 (Ib x)) (λ(x:List Int×FnV 52×Unit)=>WI (Ie Yw (Ib x))) ps k
abbrev Pv(N:Nat)(ps:List PV)(k:Str->Prop):Prop:=V6 (λ(x:List Tm×FnV 14×Unit)=>tsW (Ib x)&&QA (Ib x)&&decide (YO (Ib x)<N)) (λ(x:List Tm×FnV 14×Unit)=>WI (Ie ZV (Ib x))) ps k
abbrev c0k(ps:List PV)(k:Int->Prop):Prop:=V6 (λ(x:Tm×Unit)=>tW (Ib x)) (λ(x:Tm×Unit)=>YX (Ib x)) ps k
abbrev j3y(ps:List PV)(k:Str->Prop):Prop:=V6 (λ(x:Tm×Unit)=>Jn (Tm.nd (Ib x))) (λ(x:Tm×Unit)=>b8n (Tm.nd (Ib x))) ps k
abbrev j2k(N:Nat)(ps:List PV)(k:Str->Prop):Prop:=V6 (λ(x:Tm×Unit)=>tW (Ib x)&&XH (Ib x)&&decide (Nd.kind (Tm.nd (Ib x))=6)&&decide (YO (Tm.ks (Ib x))<N)) (λ(x:Tm×Unit)=>a0n (Ib x)) ps k
abbrev i4o(ps:List PV)(k:Str×Int->Prop):Prop:=V6 (λ(x:Arr×Unit)=>Dr (Ib x)&&Jz (Ib x)) (λ(x:Arr×Unit)=>b5r (Ib x)) ps k
noncomputable def A9:IC:=Xx Proofs.Tryz.f32
def SY:List IRes:=[.tmp 4]
abbrev g6m:Nat:=27
def Lj(N:Nat):ZH:=YT [(14,.pure (preT (λx:Tm×Unit=>(tW x.1&&XH x.1)&&decide (Yt x.1<N))) (Zp (λx:Tm×Unit=>ZV x.1))),(33,.pure (preT (λx:List Str×Unit=>V9 x.1)) (Zp (λx:List Str×Unit=>WI x.1)))]
def b2d(a:List Tm):Nat:=Iu (↑(Xw a):Int)
def i1x{G:PV->Prop}(N:Nat)(l:List Tm):=Vo ((decide (0<=(↑(Xw l):Int))&&(↑(Xw l):Int)==(↑(Xw l):Int)&&decide ((↑(Xw l):Int)*(↑16:Int)<=1099511627776)&&decide ((↑(Xw l):Int)<=1099511627776))∧(At (Lj N) 0 (Za SY G) A9 0 27 [(1,.pv (.fn 14)),(5,.row 0 (b2d l) 0 (b2d l)),(11,.pv (Y0 l)),(12,.pv (.int .i64 (↑(Xw l):Int))),(13,Zj)] [.obj (.row false 9 1 (List.replicate (b2d l) (PV.str [])))])) G (.req (.nil)) (Lj N) SY A9 (Z7 27 [enc l,.fn 14]) (by delta Xw b2d Y0 Zj;exact rfl)
def e2g{G:PV->Prop}(N:Nat)(l:List Tm)(i:Int)(o:List Str):=VP (if (decide (i<(↑(Cm l):Int))) then(QU l i 10 λb=>(shT b∧(OA N (agT b) λa=>((decide (0<=i)&&decide (0+Iu i<Cm l)&&Cm (Ie enc o)==Cm l)∧((Cm (Ie enc o)==Cm l&&decide (0+Iu i<Cm (Ie enc o))&&Cm (Ij (enc a))==1&&decide (0+1<=Cm (Ij (AQ o i)))&&aO (enc a))∧(At (Lj N) 0 (Za SY G) A9 0 27 [(1,.pv (.fn 14)),(5,.row 0 (Cm l) 0 (Cm l)),(11,.pv (Y0 l)),(12,.pv (.int .i64 (↑(Cm l):Int))),(13,ZY i)] (a9l o i a)))))))else((Cm (Ie enc o)==Cm l)∧(a2l [.sl 1 false (Ih 0 (Iy (Cm l) (Ie enc o)))] λe=>(QG G e)))) G (dm [dr Tm,dv Str] 20 0x611021316115100a42) (Lj N) SY A9 0 27 [(1,.pv (.fn 14)),(5,.row 0 l.length 0 l.length),(11,.pv (enc l)),(12,.pv (.int .i64 l.length)),(13,Zv i)] (d4p o) (by delta AQ Y0 Yx ZY a9l QG;exact rfl)
noncomputable def c1u:IC:=Xx Proofs.Tryz.f31
def a4s:List IRes:=[.tmp 2]
abbrev f7x:Nat:=45
def b2t(N:Nat):ZH:=YT [(54,.pure (preT (λx:List Lin×FnV 34×Unit=>decide (x.1.length<=1048576)&&x.1.all Zf)) (Zp (λx:List Lin×FnV 34×Unit=>WI (x.1.map XU)))),(52,.pure (preT (λx:Int×Unit=>decide (-9223372036854775808<=x.1)&&decide (x.1<=9223372036854775807))) (Zp (λx:Int×Unit=>Yw x.1))),(55,.pure (preT (λx:List Int×FnV 52×Unit=>decide (x.1.length<=1048576)&&V4 x.1)) (Zp (λx:List Int×FnV 52×Unit=>WI (x.1.map Yw)))),(32,.pure (preT (λx:List Tm×FnV 14×Unit=>(tsW x.1&&QA x.1)&&decide (YO x.1<N))) (Zp (λx:List Tm×FnV 14×Unit=>WI (x.1.map ZV))))]
def g7g{G:PV->Prop}(N:Nat)(n:Nd)(ks:List Tm):=Vo (if (a1h n) then(j0w [XX n,.fn 34] λa=>(Vm [(91:UInt8)] (Str.s a)∧(Vm ([(91:UInt8)]++Str.s a) [(93:UInt8)]∧(Vm (Str.s (Nd.name n)) ([(91:UInt8)]++Str.s a++[(93:UInt8)])∧(if (Nd.num n != 0) then(Fa [WL n] λe=>(Vm [(123:UInt8)] (Str.s e)∧(Vm ([(123:UInt8)]++Str.s e) [(125:UInt8)]∧(Vm (Str.s (Nd.name n)++([(91:UInt8)]++Str.s a++[(93:UInt8)])) ([(123:UInt8)]++Str.s e++[(125:UInt8)])∧(if (GM n) then(d9s [XL n,.fn 52] λq=>(Vm [(64:UInt8),(40:UInt8)] (Str.s q)∧(Vm ([(64:UInt8),(40:UInt8)]++Str.s q) [(41:UInt8)]∧(Vm (Str.s (Nd.name n)++([(91:UInt8)]++Str.s a++[(93:UInt8)])++([(123:UInt8)]++Str.s e++[(125:UInt8)])) ([(64:UInt8),(40:UInt8)]++Str.s q++[(41:UInt8)])∧(Vm (Str.s (Nd.name n)++([(91:UInt8)]++Str.s a++[(93:UInt8)])++([(123:UInt8)]++Str.s e++[(125:UInt8)])++([(64:UInt8),(40:UInt8)]++Str.s q++[(41:UInt8)])) [(40:UInt8)]∧(Pv N [Y0 ks,.fn 14] λA=>(Vm (Str.s (Nd.name n)++([(91:UInt8)]++Str.s a++[(93:UInt8)])++([(123:UInt8)]++Str.s e++[(125:UInt8)])++([(64:UInt8),(40:UInt8)]++Str.s q++[(41:UInt8)])++[(40:UInt8)]) (Str.s A)∧(Vm (Str.s (Nd.name n)++([(91:UInt8)]++Str.s a++[(93:UInt8)])++([(123:UInt8)]++Str.s e++[(125:UInt8)])++([(64:UInt8),(40:UInt8)]++Str.s q++[(41:UInt8)])++[(40:UInt8)]++Str.s A) [(41:UInt8)]∧(G (.str (Str.s (Nd.name n)++([(91:UInt8)]++Str.s a++[(93:UInt8)])++([(123:UInt8)]++Str.s e++[(125:UInt8)])++([(64:UInt8),(40:UInt8)]++Str.s q++[(41:UInt8)])++[(40:UInt8)]++Str.s A++[(41:UInt8)])))))))))))else(Vm (Str.s (Nd.name n)++([(91:UInt8)]++Str.s a++[(93:UInt8)])++([(123:UInt8)]++Str.s e++[(125:UInt8)])) [(40:UInt8)]∧(Pv N [Y0 ks,.fn 14] λz=>(Vm (Str.s (Nd.name n)++([(91:UInt8)]++Str.s a++[(93:UInt8)])++([(123:UInt8)]++Str.s e++[(125:UInt8)])++[(40:UInt8)]) (Str.s z)∧(Vm (Str.s (Nd.name n)++([(91:UInt8)]++Str.s a++[(93:UInt8)])++([(123:UInt8)]++Str.s e++[(125:UInt8)])++[(40:UInt8)]++Str.s z) [(41:UInt8)]∧(G (.str (Str.s (Nd.name n)++([(91:UInt8)]++Str.s a++[(93:UInt8)])++([(123:UInt8)]++Str.s e++[(125:UInt8)])++[(40:UInt8)]++Str.s z++[(41:UInt8)]))))))))))))else(if (GM n) then(d9s [XL n,.fn 52] λr=>(Vm [(64:UInt8),(40:UInt8)] (Str.s r)∧(Vm ([(64:UInt8),(40:UInt8)]++Str.s r) [(41:UInt8)]∧(Vm (Str.s (Nd.name n)++([(91:UInt8)]++Str.s a++[(93:UInt8)])) ([(64:UInt8),(40:UInt8)]++Str.s r++[(41:UInt8)])∧(Vm (Str.s (Nd.name n)++([(91:UInt8)]++Str.s a++[(93:UInt8)])++([(64:UInt8),(40:UInt8)]++Str.s r++[(41:UInt8)])) [(40:UInt8)]∧(Pv N [Y0 ks,.fn 14] λu=>(Vm (Str.s (Nd.name n)++([(91:UInt8)]++Str.s a++[(93:UInt8)])++([(64:UInt8),(40:UInt8)]++Str.s r++[(41:UInt8)])++[(40:UInt8)]) (Str.s u)∧(Vm (Str.s (Nd.name n)++([(91:UInt8)]++Str.s a++[(93:UInt8)])++([(64:UInt8),(40:UInt8)]++Str.s r++[(41:UInt8)])++[(40:UInt8)]++Str.s u) [(41:UInt8)]∧(G (.str (Str.s (Nd.name n)++([(91:UInt8)]++Str.s a++[(93:UInt8)])++([(64:UInt8),(40:UInt8)]++Str.s r++[(41:UInt8)])++[(40:UInt8)]++Str.s u++[(41:UInt8)])))))))))))else(Vm (Str.s (Nd.name n)++([(91:UInt8)]++Str.s a++[(93:UInt8)])) [(40:UInt8)]∧(Pv N [Y0 ks,.fn 14] λy=>(Vm (Str.s (Nd.name n)++([(91:UInt8)]++Str.s a++[(93:UInt8)])++[(40:UInt8)]) (Str.s y)∧(Vm (Str.s (Nd.name n)++([(91:UInt8)]++Str.s a++[(93:UInt8)])++[(40:UInt8)]++Str.s y) [(41:UInt8)]∧(G (.str (Str.s (Nd.name n)++([(91:UInt8)]++Str.s a++[(93:UInt8)])++[(40:UInt8)]++Str.s y++[(41:UInt8)])))))))))))))else(if (Nd.num n != 0) then(Fa [WL n] λg=>(Vm [(123:UInt8)] (Str.s g)∧(Vm ([(123:UInt8)]++Str.s g) [(125:UInt8)]∧(Vm (Str.s (Nd.name n)) ([(123:UInt8)]++Str.s g++[(125:UInt8)])∧(if (GM n) then(d9s [XL n,.fn 52] λj=>(Vm [(64:UInt8),(40:UInt8)] (Str.s j)∧(Vm ([(64:UInt8),(40:UInt8)]++Str.s j) [(41:UInt8)]∧(Vm (Str.s (Nd.name n)++([(123:UInt8)]++Str.s g++[(125:UInt8)])) ([(64:UInt8),(40:UInt8)]++Str.s j++[(41:UInt8)])∧(Vm (Str.s (Nd.name n)++([(123:UInt8)]++Str.s g++[(125:UInt8)])++([(64:UInt8),(40:UInt8)]++Str.s j++[(41:UInt8)])) [(40:UInt8)]∧(Pv N [Y0 ks,.fn 14] λk=>(Vm (Str.s (Nd.name n)++([(123:UInt8)]++Str.s g++[(125:UInt8)])++([(64:UInt8),(40:UInt8)]++Str.s j++[(41:UInt8)])++[(40:UInt8)]) (Str.s k)∧(Vm (Str.s (Nd.name n)++([(123:UInt8)]++Str.s g++[(125:UInt8)])++([(64:UInt8),(40:UInt8)]++Str.s j++[(41:UInt8)])++[(40:UInt8)]++Str.s k) [(41:UInt8)]∧(G (.str (Str.s (Nd.name n)++([(123:UInt8)]++Str.s g++[(125:UInt8)])++([(64:UInt8),(40:UInt8)]++Str.s j++[(41:UInt8)])++[(40:UInt8)]++Str.s k++[(41:UInt8)])))))))))))else(Vm (Str.s (Nd.name n)++([(123:UInt8)]++Str.s g++[(125:UInt8)])) [(40:UInt8)]∧(Pv N [Y0 ks,.fn 14] λh=>(Vm (Str.s (Nd.name n)++([(123:UInt8)]++Str.s g++[(125:UInt8)])++[(40:UInt8)]) (Str.s h)∧(Vm (Str.s (Nd.name n)++([(123:UInt8)]++Str.s g++[(125:UInt8)])++[(40:UInt8)]++Str.s h) [(41:UInt8)]∧(G (.str (Str.s (Nd.name n)++([(123:UInt8)]++Str.s g++[(125:UInt8)])++[(40:UInt8)]++Str.s h++[(41:UInt8)]))))))))))))else(if (GM n) then(d9s [XL n,.fn 52] λb=>(Vm [(64:UInt8),(40:UInt8)] (Str.s b)∧(Vm ([(64:UInt8),(40:UInt8)]++Str.s b) [(41:UInt8)]∧(Vm (Str.s (Nd.name n)) ([(64:UInt8),(40:UInt8)]++Str.s b++[(41:UInt8)])∧(Vm (Str.s (Nd.name n)++([(64:UInt8),(40:UInt8)]++Str.s b++[(41:UInt8)])) [(40:UInt8)]∧(Pv N [Y0 ks,.fn 14] λi=>(Vm (Str.s (Nd.name n)++([(64:UInt8),(40:UInt8)]++Str.s b++[(41:UInt8)])++[(40:UInt8)]) (Str.s i)∧(Vm (Str.s (Nd.name n)++([(64:UInt8),(40:UInt8)]++Str.s b++[(41:UInt8)])++[(40:UInt8)]++Str.s i) [(41:UInt8)]∧(G (.str (Str.s (Nd.name n)++([(64:UInt8),(40:UInt8)]++Str.s b++[(41:UInt8)])++[(40:UInt8)]++Str.s i++[(41:UInt8)])))))))))))else(Vm (Str.s (Nd.name n)) [(40:UInt8)]∧(Pv N [Y0 ks,.fn 14] λl=>(Vm (Str.s (Nd.name n)++[(40:UInt8)]) (Str.s l)∧(Vm (Str.s (Nd.name n)++[(40:UInt8)]++Str.s l) [(41:UInt8)]∧(G (.str (Str.s (Nd.name n)++[(40:UInt8)]++Str.s l++[(41:UInt8)])))))))))) G (dm [dv Str] 119 0x115110115111115100b420115110115111115100b421115101b420115110115111115100b420115110115111115100b421115101b421115103b42) (b2t N) a4s c1u (Z7 45 [Ke n ks]) (by delta VK VG a1h XX WL Hq GM XL Y0;exact rfl)
noncomputable def b1j:IC:=Xx Proofs.Tryz.f28
def b0i:List IRes:=[.tmp 5]
abbrev h1f:Nat:=21
def d2a(N:Nat):ZH:=YT [(14,.pure (preT (λx:Tm×Unit=>(tW x.1&&XH x.1)&&decide (Yt x.1<N))) (Zp (λx:Tm×Unit=>ZV x.1)))]
def GR(a:Nd)(Zl:List Tm):List AObj:=[.box (Xu a Zl)]
def i3s{G:AV×List AObj×List AObj->Prop}(N:Nat)(n:Nd)(ks:List Tm)(k:Int)(b:Bool):=Mr (A:=if (b)=true then(QU ks k 10 λe=>(shT e∧(OA N (agT e) λi=>(G ((.pv (.str (Str.s i))),((GR n ks),[]))))))else(QU ks k 10 λg=>(shT g∧(OA N (agT g) λa=>(Vm [(40:UInt8)] (Str.s a)∧(Vm ([(40:UInt8)]++Str.s a) [(41:UInt8)]∧(G ((.pv (.str ([(40:UInt8)]++Str.s a++[(41:UInt8)]))),((GR n ks),[]))))))))) (C:=Zh (d2a N) 1 (Z9 1 b0i G) b1j [] (Yr 21 [Zv k,.pv (.bool b),.ptr 0 0] [j4n n ks])) (λh=>Zh.to (dm [dr Tm,dv Str] 19 0x11611510611510064) h) (by delta GR;exact rfl)
noncomputable def c0h:IC:=Xx Proofs.Tryz.f14
def a4n:List IRes:=[.tmp 2]
abbrev g0z:Nat:=179
noncomputable def b7c(N:Nat):ZH:=YT [(27,.pure (preT (λx:Tm×Unit=>tW x.1)) (Zp (λx:Tm×Unit=>BF x.1))),(29,.pure (preT (λx:Tm×Unit=>tW x.1)) (Zp (λx:Tm×Unit=>YX x.1))),(28,.own (Qs N) b4n),(14,.pure (preT (λx:Tm×Unit=>(tW x.1&&XH x.1)&&decide (Yt x.1<N))) (Zp (λx:Tm×Unit=>ZV x.1))),(30,.pure (preT (λx:Tm×Unit=>Jn x.1.nd)) (Zp (λx:Tm×Unit=>b8n x.1.nd))),(31,.pure (preT (λx:Tm×Unit=>(tW x.1&&XH x.1&&decide (x.1.nd.kind=6))&&decide (YO x.1.ks<N))) (Zp (λx:Tm×Unit=>a0n x.1))),(32,.pure (preT (λx:List Tm×FnV 14×Unit=>(tsW x.1&&QA x.1)&&decide (YO x.1<N))) (Zp (λx:List Tm×FnV 14×Unit=>WI (x.1.map ZV)))),(33,.pure (preT (λx:List Str×Unit=>V9 x.1)) (Zp (λx:List Str×Unit=>WI x.1))),(34,.pure (preT (λx:Lin×Unit=>Ye x.1)) (Zp (λx:Lin×Unit=>(⟨YD x.1⟩:Str)))),(35,.pure (preT (λx:Arr×Unit=>Dr x.1&&Jz x.1)) (Zp (λx:Arr×Unit=>b5r x.1)))]
noncomputable def b0y(g:Nat)(Zl a:Int)(b:Nd)(e:List Tm):Bool:=Qs g [WK,.pv (.bool (decide (Zl>a))),.ptr 0 0] (GR b e)
def UR:AV:=.pv (.bool false)
def c7e(g:Nat)(Zl:Nd)(a:List Tm)(b:Str×Int)(e:PV->Prop):Prop:=(Qs g [Zj,UR,.ptr 0 0] [.box (Xu Zl a)])=true∧(Vm (Str.s b.1) (Vz (Xu Zl a) 0 false)∧(e (.str (Str.s b.1++Vz (Xu Zl a) 0 false))))
def d9r(i:Tm)(Zl:Nat)(a:Nd)(b:List Tm)(e:Str×Int)(g:PV->Prop):Prop:=(c0k (agT i) λh=>(if (decide (h ≥ 6)) then(Qs Zl [Zj,XM,.ptr 0 0] (GR a b))=true∧(Vm (Str.s e.1) (Vz (Xu a b) 0 !false)∧(g (.str (Str.s e.1++Vz (Xu a b) 0 !false))))else(c7e Zl a b e g)))
def h6r{G:PV->Prop}(N:Nat)(n:Nd)(ks:List Tm):=Vo ((h8v (ndA n ks) λa=>(c0k (ndA n ks) λb=>(if (a.2==2) then(QU ks 0 10 λL=>(shT L∧(c0k (agT L) λK=>(QU ks 1 10 λJ=>(shT J∧(c0k (agT J) λg=>(if (decide (K ≥ b)) then if (K != 3)=true then(Qs N [Zj,XM,.ptr 0 0] (GR n ks))=true∧(Vm (Vz (Xu n ks) 0 true) [(32:UInt8)]∧(Vm (Vz (Xu n ks) 0 true++[(32:UInt8)]) (Str.s a.1)∧(Vm (Vz (Xu n ks) 0 true++[(32:UInt8)]++Str.s a.1) [(32:UInt8)]∧((b0y N g b n ks)∧(Vm (Vz (Xu n ks) 0 true++[(32:UInt8)]++Str.s a.1++[(32:UInt8)]) (Vz (Xu n ks) 1 (decide (g>b)))∧(G (.str (Vz (Xu n ks) 0 true++[(32:UInt8)]++Str.s a.1++[(32:UInt8)]++Vz (Xu n ks) 1 (decide (g>b))))))))))else((Qs N [Zj,.pv (.bool (b != 3)),.ptr 0 0] (GR n ks))∧(Vm (Vz (Xu n ks) 0 (b != 3)) [(32:UInt8)]∧(Vm (Vz (Xu n ks) 0 (b != 3)++[(32:UInt8)]) (Str.s a.1)∧(Vm (Vz (Xu n ks) 0 (b != 3)++[(32:UInt8)]++Str.s a.1) [(32:UInt8)]∧((b0y N g b n ks)∧(Vm (Vz (Xu n ks) 0 (b != 3)++[(32:UInt8)]++Str.s a.1++[(32:UInt8)]) (Vz (Xu n ks) 1 (decide (g>b)))∧(G (.str (Vz (Xu n ks) 0 (b != 3)++[(32:UInt8)]++Str.s a.1++[(32:UInt8)]++Vz (Xu n ks) 1 (decide (g>b)))))))))))else((Qs N [Zj,UR,.ptr 0 0] (GR n ks))∧(Vm (Vz (Xu n ks) 0 false) [(32:UInt8)]∧(Vm (Vz (Xu n ks) 0 false++[(32:UInt8)]) (Str.s a.1)∧(Vm (Vz (Xu n ks) 0 false++[(32:UInt8)]++Str.s a.1) [(32:UInt8)]∧((b0y N g b n ks)∧(Vm (Vz (Xu n ks) 0 false++[(32:UInt8)]++Str.s a.1++[(32:UInt8)]) (Vz (Xu n ks) 1 (decide (g>b)))∧(G (.str (Vz (Xu n ks) 0 false++[(32:UInt8)]++Str.s a.1++[(32:UInt8)]++Vz (Xu n ks) 1 (decide (g>b))))))))))))))))))else(if (a.2==1) then(QU ks 0 10 λh=>(shT h∧(if (Iq (Ii (Vb h) 0 default)==2) then if (IG (Ii (Vb h) (0+1+1) default)==[105,110,116])=true then if (decide (Iq (Ii (Vb h) (0+1+1+1) default) ≥ 0))=true then(c0k (agT h) λM=>(if (decide (M ≥ 6)) then(Qs N [Zj,.pv (.bool (!Str.s a.1==[45])),.ptr 0 0] (GR n ks))=true∧(Vm (Str.s a.1) (Vz (Xu n ks) 0 !Str.s a.1==[45])∧(G (.str (Str.s a.1++Vz (Xu n ks) 0 !Str.s a.1==[45]))))else(c7e N n ks a G)))else(d9r h N n ks a G)else(d9r h N n ks a G)else(d9r h N n ks a G))))else(if (Nd.kind n==5) then Vm [(108:UInt8),(101:UInt8),(116:UInt8),(32:UInt8)] (Str.s (Nd.name n))∧(Vm ([(108:UInt8),(101:UInt8),(116:UInt8),(32:UInt8)]++Str.s (Nd.name n)) [(32:UInt8),(61:UInt8),(32:UInt8)]∧(QU ks 0 10 λq=>(shT q∧(OA N (agT q) λe=>(Vm ([(108:UInt8),(101:UInt8),(116:UInt8),(32:UInt8)]++Str.s (Nd.name n)++[(32:UInt8),(61:UInt8),(32:UInt8)]) (Str.s e)∧(Vm ([(108:UInt8),(101:UInt8),(116:UInt8),(32:UInt8)]++Str.s (Nd.name n)++[(32:UInt8),(61:UInt8),(32:UInt8)]++Str.s e) [(32:UInt8),(105:UInt8),(110:UInt8),(32:UInt8)]∧(QU ks 1 10 λr=>(shT r∧(OA N (agT r) λA=>(Vm ([(108:UInt8),(101:UInt8),(116:UInt8),(32:UInt8)]++Str.s (Nd.name n)++[(32:UInt8),(61:UInt8),(32:UInt8)]++Str.s e++[(32:UInt8),(105:UInt8),(110:UInt8),(32:UInt8)]) (Str.s A)∧(G (.str ([(108:UInt8),(101:UInt8),(116:UInt8),(32:UInt8)]++Str.s (Nd.name n)++[(32:UInt8),(61:UInt8),(32:UInt8)]++Str.s e++[(32:UInt8),(105:UInt8),(110:UInt8),(32:UInt8)]++Str.s A)))))))))))))else(if (Nd.kind n==2) then(j3y (ndA n ks) λD=>(QG G D))else(if (Nd.kind n==1) then G (YU n)else(if (Nd.kind n==6) then(j2k N (ndA n ks) λE=>(QG G E))else(if (Nd.kind n==7) then(Pv N [Y0 ks,.fn 14] λk=>(Vm [(91:UInt8)] (Str.s k)∧(Vm ([(91:UInt8)]++Str.s k) [(93:UInt8)]∧(G (.str ([(91:UInt8)]++Str.s k++[(93:UInt8)]))))))else(if (Nd.kind n==8) then(QU ks 0 10 λu=>(shT u∧(OA N (agT u) λH=>(QU ks 1 10 λz=>(shT z∧(OA N (agT z) λC=>(a2l [.sl 1 false [YU n,.str (Str.s H),.str (Str.s C)]] λj=>(Vm [(102:UInt8),(111:UInt8),(108:UInt8),(100:UInt8),(40:UInt8)] (Str.s j)∧(Vm ([(102:UInt8),(111:UInt8),(108:UInt8),(100:UInt8),(40:UInt8)]++Str.s j) [(41:UInt8)]∧(G (.str ([(102:UInt8),(111:UInt8),(108:UInt8),(100:UInt8),(40:UInt8)]++Str.s j++[(41:UInt8)]))))))))))))else(if (Nd.kind n==9) then(QU ks 0 10 λy=>(shT y∧(OA N (agT y) λI=>(a2l [.sl 1 false [YU n,.str (Str.s I)]] λl=>(Vm [(115:UInt8),(99:UInt8),(97:UInt8),(110:UInt8),(40:UInt8)] (Str.s l)∧(Vm ([(115:UInt8),(99:UInt8),(97:UInt8),(110:UInt8),(40:UInt8)]++Str.s l) [(41:UInt8)]∧(G (.str ([(115:UInt8),(99:UInt8),(97:UInt8),(110:UInt8),(40:UInt8)]++Str.s l++[(41:UInt8)])))))))))else(if (Nd.kind n==4) then(QU (Nd.sizes n) 0 2 λB=>(h8e [BL B] λi=>(Vm [(115:UInt8),(105:UInt8),(122:UInt8),(101:UInt8),(91:UInt8)] (Str.s i)∧(Vm ([(115:UInt8),(105:UInt8),(122:UInt8),(101:UInt8),(91:UInt8)]++Str.s i) [(93:UInt8)]∧(G (.str ([(115:UInt8),(105:UInt8),(122:UInt8),(101:UInt8),(91:UInt8)]++Str.s i++[(93:UInt8)])))))))else(i4o (a9j n) λF=>(G (.str (Str.s F.1))))))))))))))))) G (dm [dv (Str×Int),dv Int,dr Tm,dv Str,dr Lin] 309 0x51011812910084201181228117100c42011812281171811710114201181005420810034200014208100342018117111811711101042013122013122006426122222222220131220131220064261222222013122013122006426122013122013122006426122201642222033422220544217107942013121113122220131211131222220131211131222200e4222024426117161171041426151) (b7c N) a4n c0h (Z7 179 [Ke n ks]) (by delta Zj XM GR WK b0y UR Vb c7e d9r QG YU Y0 CR BL Wo Wv a4z a9j;exact rfl)
def FM{ks:List Tm}{k:Tm}(h:k∈ks):Yt k<=YO ks:=by
 induction ks with
 | nil=>cases h
 | cons a ks ih=>
  rw[YO];rcases IU.1 h with rfl|h
  ·omega
  ·have:=ih h;omega
def KU{N:Nat}{t:Tm}(h1:tW t)(h2:XH t)(h3:Yt t<N):(λx:Tm×Unit=>(tW x.1&&XH x.1)&&decide (Yt x.1<N)) (t,()):=by show(tW t&&XH t&&decide (Yt t<N))=true;rw[h1,h2,eY h3];rfl
structure TxP (N:Nat) (ks:List Tm):Prop where
 w:Q8 ks<=1048576
 v : ∀ k∈ks,XH k
 d:YO ks<N
def TxP.kid{N:Nat}{ks:List Tm}(h:TxP N ks){k:Tm}(a:k∈ks):tW k∧XH k∧Yt k<N:=⟨eY (aD (c0d a) h.w),h.v k a,aL (FM a) h.d⟩
def TxP.pre{N:Nat}{ks:List Tm}(h:TxP N ks):(λx:List Tm×FnV 14×Unit=>(tsW x.1&&QA x.1)&&decide (YO x.1<N)) (ks,{},()):=by show(tsW ks&&QA ks&&decide (YO ks<N))=true;rw[show tsW ks from eY h.w,Di,II.2 h.v,eY h.d];rfl
def TxP.com{N:Nat}{ks:List Tm}(h:TxP N ks):(Yg (ks.map Zw)).length<=1153433600:=by
 have h1:=WN (ks.map Zw);have h2:=Fj ks (by rw[Di];exact II.2 h.v);have h3:((ks.map Zw).map λs=>s.length+2).sum<=((Yp ks).map λx=>x.2.2.length+4).sum:=by rw[VD,b1q,b1q];exact a4u λx _=>by show(Zw x).length+2<=(Zw x).length+4;omega
 have:=h.w;omega
def TxP.len{N:Nat}{ks:List Tm}(h:TxP N ks){k:Tm}(a:k∈ks):(Zw k).length<=1153433592:=d3j (h.kid a).1 (h.kid a).2.1
def TxP.join{N:Nat}{ks:List Tm}(h:TxP N ks):V9 (ks.map ZV):=by have h1:=h.com;have h2:=NM ks;have h3:=h.w;unfold V9;have e:=Mh ks;unfold WI at e;rw[eY (by rw[Im];omega),IE];exact eY (by rw[show Yg ((ks.map ZV).map (·.s))=Yg (ks.map Zw)from e];omega)
def e5c(N:Nat)(l:List Tm)(hl:l.length<=1048576)(q:TxP N l)(k:V9 (l.map ZV)): ∀ (d i:Nat),d+i=l.length ->
  At (Lj N) 0 (Za SY (Ze (WI (l.map ZV)))) A9 0 27 [(1,.pv (.fn 14)),(5,.row 0 l.length 0 l.length),(11,.pv (enc l)),(12,.pv (.int .i64 l.length)),(13,.pv (.int .i64 i))] [.obj (.row false 9 1 ((Oz (l.map ZV) i).map enc))]:=by
 intro d
 induction d with
 | zero=>
  intro i hi;have g:i=l.length:=by omega
  subst g;have e:Oz (l.map ZV) l.length=l.map ZV:=by have:=b5x (l.map ZV);rw[Im]at this;exact this
  rw[e];have b:=c6t (m:=l.map ZV);rw[Im]at b;refine e2g N l _ _ (Z5 (Xh (by omega)) ⟨by simp,?_⟩);rw[b];exact⟨Zb (l.map ZV,()) rfl k,Zc (l.map ZV,()) rfl (Zt rfl)⟩
 | succ d ih=>
  intro i hi;have a:i<l.length:=by omega
  have j:=q.kid (Iz a);have ho:(Oz (l.map ZV) i).length=l.length:=by rw[b4i _ _ (by rw[Im];omega),Im]
  refine e2g N l _ _ (ZZ (Xd a) ⟨ZT a rfl,Ym a ⟨Uh _,Zb (l[i],()) (YL _) (KU j.1 j.2.1 j.2.2),Zc (l[i],()) (YL _) ⟨c9o a ho,c5l a ho,?_⟩⟩⟩);have e:(Oz (l.map ZV) i).set i (ZV l[i])=Oz (l.map ZV) (i+1):=by have:=b3w (m:=l.map ZV) (i:=i) (by rw[Im];exact a);rw[List.getElem_map]at this;exact this
  have b:=c6j (o:=Oz (l.map ZV) i) (i:=i) (by omega) (ZV l[i]);rw[e]at b;rw[next (by omega)];have h:=ih (i+1) (by omega);rw[<- b]at h;exact h
def f8y(N:Nat): ∀ x:List Tm×FnV 14×Unit,((tsW x.1&&QA x.1)&&decide (YO x.1<N))->Zh (Lj N) 0 (Za SY (Ze (WI (x.1.map ZV)))) A9 [] (Z7 g6m (encL x)):=by
 rintro⟨l,g,⟨⟩⟩ h;have a:=h;simp only[Ik,fu,Di,II]at a;have b:TxP N l:=⟨fZ a.1.1,a.1.2,a.2⟩
 have e:l.length<=1048576:=aD (NM l) b.w;refine i1x N l ⟨by rw[Im];exact g2s _ e,?_⟩
 have:=e5c N l e b b.join l.length 0 (by omega);rw[a0t,List.map_replicate,Im]at this;rw[Im,IV];exact this
def Ku{α:Type}[Enc α]{l:List α}:(((Cm (Ie (enc:α->PV) l):Nat):Int)>0) ↔ l≠[]:=by cases l <;> simp
def f4q{x y:Int}{P Q:Prop}(h1:x≠y->P)(h2:x=y->Q):if (x != y) then P else Q:=by
 by_cases hxy:x=y
 ·rw[fo (by simpa using hxy)];exact h2 hxy
 ·rw[fw (by simpa using hxy)];exact h1 hxy
def Yj{a b:Nat}(h:a+b<=1099511627776):decide (a+b<=1099511627776):=eY h
def YW{a b A B:Nat}(ha:a<=A)(hb:b<=B)(h:A+B<=1099511627776):decide (a+b<=1099511627776):=eY (by omega)
def Y5{a b:List UInt8}{A B:Nat}(ha:a.length<=A)(hb:b.length<=B):(a++b).length<=A+B:=by rw[Ia];omega
def c9g{n:Nd}{k:Nat}(h:callB n k):n.name.s.length<=61∧(n.num.natAbs<=64∧0<=n.num)∧n.sizes.length<=4∧n.ranks.length<=8∧n.sizes.all Zf∧V4 n.ranks:=by
 unfold callB at h;simp only[Ik,fu,aT]at h;refine⟨(P7 h.1.1.1.1.1.1.1).2.2,⟨by omega,by omega⟩,by omega,?_,h.1.2,h.2⟩;rcases h.1.1.1.2 with hr|hr
 ·rw[au.1 hr];simp
 ·omega
def e2l(N:Nat): ∀ x:Tm×Unit,(((tW x.1&&XH x.1)&&decide (x.1.nd.kind=6))&&decide (YO x.1.ks<N))->Zh (b2t N) 0 (Za a4s (Ze (a0n x.1))) c1u [] (Z7 f7x (encL x)):=by
 rintro⟨⟨n,ks⟩,⟨⟩⟩ h;have z:=h;simp only[Ik,fu]at z;obtain⟨⟨⟨q,i⟩,k⟩,hd⟩:=z;have k:n.kind=6:=k;have q:tW (.mk n ks):=q;have i:=BV i;have r:Q8 ks<=1048576:=by have h1:QV (.mk n ks)<=1048576:=fZ q;rw[QV]at h1;omega
 have a:TxP N ks:=⟨r,i.2,hd⟩
 have hc:callB n ks.length:=by have h1:=i.1;unfold Ux XO at h1;rw[k]at h1;simp at h1;exact h1.2.2
 obtain⟨c1,c2,c3,c4,B,u⟩:=c9g hc;have C:=a.com;rw[<- Mh]at C;have l0:(WI (n.sizes.map XU)).s.length<=4008:=by
  rw[b0a];have h1:=WN (n.sizes.map YD);rw[aP]at h1;have h2:=MS (f:=(λs:List UInt8=>s.length+2) ∘ YD) (c:=1002) (l:=n.sizes) λx _=>by have:=Dy x;show(YD x).length+2<=_;omega
  omega
 have l1:(Yw n.num).s.length<=21:=GU (by omega);have l2:(WI (n.ranks.map Yw)).s.length<=184:=by
  rw[f8c];have h1:=WN (n.ranks.map Hy);rw[aP]at h1;have h2:=MS (f:=(λs:List UInt8=>s.length+2) ∘ Hy) (c:=23) (l:=n.ranks) λx D=>by
   have E:=II.1 u x D;simp only[Ik,fu]at E
   have:=GU (n:=x) (by omega);show(Hy x).length+2<=_;omega
  omega
 have g:=b0a n.sizes;have b:=f8c n.ranks;have e:=Mh ks;have fin : ∀ s,s=QE n (ks.map Zw)->Ze (a0n (.mk n ks)) (.str s):=λs hs=>Zt (x:=(⟨s⟩:Str)) (by rw[hs];rfl)
 have A:(λx:List Lin×FnV 34×Unit=>decide (x.1.length<=1048576)&&x.1.all Zf) (n.sizes,{},()):=by show(decide (n.sizes.length<=1048576)&&n.sizes.all Zf)=true;rw[B,eY (by omega)];rfl
 have y:(λx:Int×Unit=>decide (-9223372036854775808<=x.1)&&decide (x.1<=9223372036854775807)) (n.num,()):=by show(decide _&&decide _)=true;rw[eY (by omega),eY (by omega)];rfl
 have j:(λx:List Int×FnV 52×Unit=>decide (x.1.length<=1048576)&&V4 x.1) (n.ranks,{},()):=by show(decide (n.ranks.length<=1048576)&&V4 n.ranks)=true;rw[u,eY (by omega)];rfl
 rw[<- YA];show Zh (b2t N) 0 (Za a4s (Ze (a0n (.mk n ks)))) _ _ _;have s0:(WI (Ie XU ((n.sizes,({}:FnV 34),()):List Lin×FnV 34×Unit).1)).s=(WI (n.sizes.map XU)).s:=rfl;refine g7g N n ks (YH (λhs=> ?_) λhs=> ?_)
 ·rw[Ku]at hs;refine⟨Zb (n.sizes,{},()) rfl A,Zc (n.sizes,{},()) rfl ⟨Yj (by simp only[Ia,Ic,Ig];omega),Yj (by simp only[Ia,Ic,Ig];omega),Yj (by simp only[Ia,Ic,Ig];omega),?_⟩⟩;refine f4q (λhm=> ?_) λhm=> ?_
  ·refine⟨Zb (n.num,()) rfl y,Zc (n.num,()) rfl ⟨Yj (by simp only[Ia,Ic,Ig];omega),Yj (by simp only[Ia,Ic,Ig];omega),Yj (by simp only[Ia,Ic,Ig];omega),?_⟩⟩;refine YH (λhr=> ?_) λhr=> ?_
   ·rw[Ku]at hr;refine⟨Zb (n.ranks,{},()) rfl j,Zc (n.ranks,{},()) rfl ⟨Yj (by simp only[Ia,Ic,Ig];omega),Yj (by simp only[Ia,Ic,Ig];omega),Yj (by simp only[Ia,Ic,Ig];omega),?_⟩⟩;exact⟨Yj (by simp only[Ia,Ic,Ig];omega),Zb (ks,{},()) rfl a.pre,Zc (ks,{},()) rfl ⟨Yj (by simp only[Ia,Ic,Ig];omega),Yj (by simp only[Ia,Ic,Ig];omega),fin _ (by simp[QE,g,b,e,Hy,IJ,hs,hm,hr])⟩⟩
   ·rw[Ku,I4]at hr;exact⟨Yj (by simp only[Ia,Ic,Ig];omega),Zb (ks,{},()) rfl a.pre,Zc (ks,{},()) rfl ⟨Yj (by simp only[Ia,Ic,Ig];omega),Yj (by simp only[Ia,Ic,Ig];omega),fin _ (by simp[QE,g,b,e,Hy,IJ,hs,hm,hr])⟩⟩
  ·refine YH (λhr=> ?_) λhr=> ?_
   ·rw[Ku]at hr;refine⟨Zb (n.ranks,{},()) rfl j,Zc (n.ranks,{},()) rfl ⟨Yj (by simp only[Ia,Ic,Ig];omega),Yj (by simp only[Ia,Ic,Ig];omega),Yj (by simp only[Ia,Ic,Ig];omega),?_⟩⟩;exact⟨Yj (by simp only[Ia,Ic,Ig];omega),Zb (ks,{},()) rfl a.pre,Zc (ks,{},()) rfl ⟨Yj (by simp only[Ia,Ic,Ig];omega),Yj (by simp only[Ia,Ic,Ig];omega),fin _ (by simp[QE,g,b,e,Hy,IJ,hs,hm,hr])⟩⟩
   ·rw[Ku,I4]at hr;exact⟨Yj (by simp only[Ia,Ic,Ig];omega),Zb (ks,{},()) rfl a.pre,Zc (ks,{},()) rfl ⟨Yj (by simp only[Ia,Ic,Ig];omega),Yj (by simp only[Ia,Ic,Ig];omega),fin _ (by simp[QE,g,b,e,Hy,IJ,hs,hm,hr])⟩⟩
 ·rw[Ku,I4]at hs;refine f4q (λhm=> ?_) λhm=> ?_
  ·refine⟨Zb (n.num,()) rfl y,Zc (n.num,()) rfl ⟨Yj (by simp only[Ia,Ic,Ig];omega),Yj (by simp only[Ia,Ic,Ig];omega),Yj (by simp only[Ia,Ic,Ig];omega),?_⟩⟩;refine YH (λhr=> ?_) λhr=> ?_
   ·rw[Ku]at hr;refine⟨Zb (n.ranks,{},()) rfl j,Zc (n.ranks,{},()) rfl ⟨Yj (by simp only[Ia,Ic,Ig];omega),Yj (by simp only[Ia,Ic,Ig];omega),Yj (by simp only[Ia,Ic,Ig];omega),?_⟩⟩;exact⟨Yj (by simp only[Ia,Ic,Ig];omega),Zb (ks,{},()) rfl a.pre,Zc (ks,{},()) rfl ⟨Yj (by simp only[Ia,Ic,Ig];omega),Yj (by simp only[Ia,Ic,Ig];omega),fin _ (by simp[QE,g,b,e,Hy,IJ,hs,hm,hr])⟩⟩
   ·rw[Ku,I4]at hr;exact⟨Yj (by simp only[Ia,Ic,Ig];omega),Zb (ks,{},()) rfl a.pre,Zc (ks,{},()) rfl ⟨Yj (by simp only[Ia,Ic,Ig];omega),Yj (by simp only[Ia,Ic,Ig];omega),fin _ (by simp[QE,g,b,e,Hy,IJ,hs,hm,hr])⟩⟩
  ·refine YH (λhr=> ?_) λhr=> ?_
   ·rw[Ku]at hr;refine⟨Zb (n.ranks,{},()) rfl j,Zc (n.ranks,{},()) rfl ⟨Yj (by simp only[Ia,Ic,Ig];omega),Yj (by simp only[Ia,Ic,Ig];omega),Yj (by simp only[Ia,Ic,Ig];omega),?_⟩⟩;exact⟨Yj (by simp only[Ia,Ic,Ig];omega),Zb (ks,{},()) rfl a.pre,Zc (ks,{},()) rfl ⟨Yj (by simp only[Ia,Ic,Ig];omega),Yj (by simp only[Ia,Ic,Ig];omega),fin _ (by simp[QE,g,b,e,Hy,IJ,hs,hm,hr])⟩⟩
   ·rw[Ku,I4]at hr;exact⟨Yj (by simp only[Ia,Ic,Ig];omega),Zb (ks,{},()) rfl a.pre,Zc (ks,{},()) rfl ⟨Yj (by simp only[Ia,Ic,Ig];omega),Yj (by simp only[Ia,Ic,Ig];omega),fin _ (by simp[QE,g,b,e,Hy,IJ,hs,hm,hr])⟩⟩
def f2o{xs:List AV}{t:Tm}(h:c0n xs=some t): ∃ n ks,t = .mk n ks∧xs=Xu n ks:=by
 unfold c0n at h;split at h
 ·split at h
  ·rename_i hc;obtain⟨⟨n,ks⟩,e⟩:=RH hc;rw[e,Enc.dec_enc]at h;cases h;rw[YB]at e;cases e;exact⟨n,ks,rfl,rfl⟩
  ·cases h
 ·cases h
def f5t(N:Nat): ∀ args os,Qs N args os->Zh (d2a N) os.length (Z9 os.length b0i λr=>r=b4n args os) b1j [] (Yr h1f args os):=by
 intro args os h;unfold Qs at h;split at h
 ·rename_i k b xs;unfold a5d at h;split at h
  ·rename_i t ht;obtain⟨n,ks,rfl,rfl⟩:=f2o ht;simp only[Ik,fu]at h;obtain⟨⟨⟨⟨y,u⟩,hd⟩,h0⟩,q⟩:=h;obtain⟨i,rfl⟩:=Int.eq_ofNat_of_zero_le h0;have j:Q8 ks<=1048576:=by have h1:QV (.mk n ks)<=1048576:=fZ y;rw[QV]at h1;omega
   have s:TxP N ks:=⟨j,(BV u).2,hd⟩
   have a:i<ks.length:=by have q:(i:Int)<(ks.length:Int):=q;omega
   have g:=s.kid (Iz a);have l:=s.len (Iz a);have e : ∀ b:Bool,Vz (Xu n ks) (i:Int) b=KY (!b) (Zw ks[i]):=λb=>by rw[Cr,IV];simp[Ii,a]
   refine i3s N n ks (i:Int) b (YC (λhb=> ?_) λhb=> ?_)
   ·refine⟨ZT a rfl,Ym a ⟨Uh _,Zb (ks[i],()) (YL _) (KU g.1 g.2.1 g.2.2),Zc (ks[i],()) (YL _) ?_⟩⟩;subst hb;show _=((AV.pv (.str (Vz (Xu n ks) (i:Int) true)),[AObj.box (Xu n ks)],[]):AV×List AObj×List AObj);rw[e];rfl
   ·refine⟨ZT a rfl,Ym a ⟨Uh _,Zb (ks[i],()) (YL _) (KU g.1 g.2.1 g.2.2),Zc (ks[i],()) (YL _) ⟨YW (show _<=8 by decide) l (by omega),YW (Y5 (show _<=8 by decide) l) (show _<=8 by decide) (by omega),?_⟩⟩⟩;subst hb;show _=((AV.pv (.str (Vz (Xu n ks) (i:Int) false)),[AObj.box (Xu n ks)],[]):AV×List AObj×List AObj);rw[e];rfl
  ·cases h
 ·cases h
def e6m{n:Nd}{xs:List (Int×Bool×List UInt8)}(h:Ah n xs.length=none):HV n xs=(if n.kind=1 then n.name.s
  else if n.kind=2 then b1c n
  else if n.kind=4 then [115,105,122,101,91]++(match n.sizes with|[]=>[]|l::_=>YD l)++[93]
  else if n.kind=5 then [108,101,116,32]++n.name.s++[32,61,32]++(match xs with|[a,b]=>a.2.2++[32,105,110,32]++b.2.2|_=>[])
  else if n.kind=6 then QE n (xs.map (·.2.2))
  else if n.kind=7 then [91]++Yg (xs.map (·.2.2))++[93]
  else if n.kind=8 then [102,111,108,100,40]++Yg (n.name.s::xs.map (·.2.2))++[41]
  else if n.kind=9 then [115,99,97,110,40]++Yg (n.name.s::xs.map (·.2.2))++[41]
  else AJ (H5 n)):=by
 unfold HV;rw[h];rfl
def j5x(t:Tm):Iq (Ii (Ij (enc t)) 0 default)=t.nd.kind:=by obtain⟨n,ks⟩:=t;rw[YB];rfl
def j6h(t:Tm):IG (Ii (Ij (enc t)) (0+1+1) default)=t.nd.name.s:=by obtain⟨n,ks⟩:=t;rw[YB];rfl
def j7a(t:Tm):Iq (Ii (Ij (enc t)) (0+1+1+1) default)=t.nd.num:=by obtain⟨n,ks⟩:=t;rw[YB];rfl
def g3p{n:Nd}{k:Nat}{r:OpR}(h:Ah n k=some r):n.kind=6:=by
 unfold Ah at h;cases a:NV n.name.s with
 | none=>simp[a]at h
 | some q=>simp[a]at h;exact h.1.1
def h4x{n:Nd}{k:Nat}{r:OpR}(h:Ah n k=some r):Tv n k=r.l:=by unfold Tv;rw[fo (by rw[g3p h];decide),h]
def c6b(a b:List UInt8):(a==b)=decide (a=b):=by by_cases h:a=b <;> simp[h]
def e0d{α:Type}{l:List α}(h:l.length=2): ∃ a b,l=[a,b]:=by
 match l,h with
 | [a,b],_=>exact⟨a,b,rfl⟩
def g8y{n:Nd}{r:OpR}{x y:Int×Bool×List UInt8}(h:Ah n 2=some r):HV n [x,y]=KY (decide (x.1<r.l)||(decide (x.1=3)&&decide (r.l=3))) x.2.2++[32]++r.s++[32]++KY (decide (y.1<=r.l)) y.2.2:=by unfold HV;rw[show [x,y].length=2 from rfl,h]
def i5j{n:Nd}{r:OpR}{x:Int×Bool×List UInt8}(h:Ah n 1=some r):HV n [x]=r.s++KY (decide (x.1<6)||(decide (r.s=[45])&&x.2.1)) x.2.2:=by unfold HV;rw[show [x].length=1 from rfl,h]
def e8i(N:Nat): ∀ x:Tm×Unit,((tW x.1&&XH x.1)&&decide (Yt x.1<N+1))->Zh (b7c N) 0 (Za a4n (Ze (ZV x.1))) c0h [] (Z7 g0z (encL x)):=by
 rintro⟨⟨n,ks⟩,⟨⟩⟩ h;simp only[Ik,fu]at h;obtain⟨⟨B,y⟩,hd⟩:=h;have B:tW (.mk n ks):=B;have y:XH (.mk n ks):=y;have hd:Yt (.mk n ks)<N+1:=hd;rw[Yt]at hd;have Z:=BV y;have W:Q8 ks<=1048576:=by have h1:QV (.mk n ks)<=1048576:=fZ B;rw[QV]at h1;omega
 have j:TxP N ks:=⟨W,Z.2,by omega⟩
 have D:=(ndB B).name;have z:XO n ks.length:=by have:=Z.1;unfold Ux at this;simp only[Ik]at this;exact this.2
 have fin : ∀ s,s=HV n (Yp ks)->Ze (ZV (.mk n ks)) (.str s):=λs hs=>Zt (x:=(⟨s⟩:Str)) (by rw[hs,ZV,Zw])
 rw[<- YA];show Zh (b7c N) 0 (Za a4n (Ze (ZV (.mk n ks)))) _ _ _;refine h6r N n ks ⟨Zb (.mk n ks,()) (YA n ks) B,Zc (.mk n ks,()) (YA n ks) ⟨Zb (.mk n ks,()) (YA n ks) B,Zc (.mk n ks,()) (YA n ks) ?_⟩⟩;generalize Ze (ZV (.mk n ks))=G at fin ⊢;have eo0:BF (.mk n ks)=opP n ks.length:=rfl;have el0:YX (.mk n ks)=Tv n ks.length:=rfl;rw[show BF ((Tm.mk n ks,()):Tm×Unit).1=opP n ks.length from rfl,show YX ((Tm.mk n ks,()):Tm×Unit).1=Tv n ks.length from rfl];cases ho:Ah n ks.length with
 | some r=>
  obtain⟨hm,O⟩:=d7m ho;have hr:=(g2k ho).2;have U:opP n ks.length=((⟨r.s⟩,if r.u then 1 else 2):Str×Int):=by unfold opP;rw[ho]
  rw[U,h4x ho];cases hu:r.u with
  | false=>
   rw[hu]at O
   match ks,O with
   | [a,b],_=>
    have K:a∈[a,b]:=by simp
    have mb:b∈[a,b]:=by simp
    have ha:=j.kid K;have hb:=j.kid mb;have F:=j.len K;have V:=j.len mb;have e : ∀ f,(Vz (Xu n [a,b]) 0 f).length<=1153433594:=λf=>by rw[Cr];have:=Sq (!f) (Zw a);show(KY (!f) (Zw a)).length<=_;omega
    have I : ∀ f,(Vz (Xu n [a,b]) 1 f).length<=1153433594:=λf=>by rw[Cr];have:=Sq (!f) (Zw b);show(KY (!f) (Zw b)).length<=_;omega
    have A:a5d N (Xu n [a,b]) 0:=a5c B y j.d (by omega) (by simp);have Q:a5d N (Xu n [a,b]) 1:=a5c B y j.d (by omega) (by simp);have i : ∀ f g:Bool,(!f)=(decide (YX a<r.l)||(decide (YX a=3)&&decide (r.l=3)))->g=decide (YX b>r.l)->Vz (Xu n [a,b]) 0 f++[32]++r.s++[32]++Vz (Xu n [a,b]) 1 g=HV n (Yp [a,b]):=λf g S hg=>by rw[Cr,Cr];simp only[Yp];rw[g8y ho,S,hg];show KY _ (Zw a)++[32]++r.s++[32]++KY (!decide (YX b>r.l)) (Zw b)=KY _ (Zw a)++[32]++r.s++[32]++KY (decide (YX b<=r.l)) (Zw b);rw[show(!decide (YX b>r.l))=decide (YX b<=r.l)from by rw[<- decide_not];exact decide_eq_decide.2 (by omega)]
    refine ZZ rfl ⟨rfl,a,rfl,Uh a,Zb (a,()) (YL a) ha.1,Zc (a,()) (YL a) ⟨rfl,b,rfl,Uh b,Zb (b,()) (YL b) hb.1,Zc (b,()) (YL b) (YH (λh1=>f4q (λh2=> ?_) λh2=> ?_) λh1=> ?_)⟩⟩
    ·refine⟨A,YW (e _) (show _<=8 by decide) (by omega),YW (Y5 (e _) (show _<=8 by decide)) hr (by omega),YW (Y5 (Y5 (e _) (show _<=8 by decide)) hr) (show _<=8 by decide) (by omega),Q,YW (Y5 (Y5 (Y5 (e _) (show _<=8 by decide)) hr) (show _<=8 by decide)) (I _) (by omega),fin _ (i _ _ ?_ rfl)⟩;have h1:YX a ≥ r.l:=h1;have h2:YX a≠3:=h2;simp[h2];omega
    ·refine⟨A,YW (e _) (show _<=8 by decide) (by omega),YW (Y5 (e _) (show _<=8 by decide)) hr (by omega),YW (Y5 (Y5 (e _) (show _<=8 by decide)) hr) (show _<=8 by decide) (by omega),Q,YW (Y5 (Y5 (Y5 (e _) (show _<=8 by decide)) hr) (show _<=8 by decide)) (I _) (by omega),fin _ (i _ _ ?_ rfl)⟩;have h1:YX a ≥ r.l:=h1;have h2:YX a=3:=h2;rw[h2,fF (show ¬ (3:Int)<r.l by omega)];by_cases h3:r.l=3
     ·rw[h3];rfl
     ·simp[h3]
    ·refine⟨A,YW (e _) (show _<=8 by decide) (by omega),YW (Y5 (e _) (show _<=8 by decide)) hr (by omega),YW (Y5 (Y5 (e _) (show _<=8 by decide)) hr) (show _<=8 by decide) (by omega),Q,YW (Y5 (Y5 (Y5 (e _) (show _<=8 by decide)) hr) (show _<=8 by decide)) (I _) (by omega),fin _ (i _ _ ?_ rfl)⟩;have h1 : ¬ YX a ≥ r.l:=h1;rw[eY (show YX a<r.l by omega)];rfl
  | true=>
   rw[hu]at O
   match ks,O with
   | [a],_=>
    have K:a∈[a]:=by simp
    have ha:=j.kid K;have F:=j.len K;have e : ∀ f,(Vz (Xu n [a]) 0 f).length<=1153433594:=λf=>by rw[Cr];have:=Sq (!f) (Zw a);show(KY (!f) (Zw a)).length<=_;omega
    have A:a5d N (Xu n [a]) 0:=a5c B y j.d (by omega) (by simp);have i : ∀ f:Bool,(!f)=(decide (YX a<6)||(decide (r.s=[45])&&numM a))->r.s++Vz (Xu n [a]) 0 f=HV n (Yp [a]):=λf S=>by rw[Cr];simp only[Yp];rw[i5j ho,S];rfl
    have M:YX a ≥ 6->decide (YX a<6)=false:=λh=>fF (by omega)
    have E : ¬ YX a ≥ 6->decide (YX a<6):=λh=>eY (by omega)
    refine Z5 (by simp) (ZZ rfl ⟨rfl,a,rfl,Uh a,?_⟩);rw[j5x,j6h,j7a];have nn : ¬ (a.nd.kind=2∧a.nd.name.s=Xi∧a.nd.num ≥ 0)->numM a=false:=λh=>by
     unfold numM;rw[aC,aC,gu,gu,gu];by_cases q1:a.nd.kind=2
     ·by_cases Y:a.nd.name.s=Xi
      ·exact .inr λq3=>h ⟨q1,Y,q3⟩
      ·exact .inl (.inr Y)
     ·exact .inl (.inl q1)
    refine ZP (λh2=>ZP (λh3=>YH (λJ=> ?_) λJ=> ?_) λh3=> ?_) λh2=> ?_
    ·have H:numM a:=by unfold numM;rw[eY h2,eY (show a.nd.name.s=Xi from h3),eY J];rfl
     refine⟨Zb (a,()) (YL a) ha.1,Zc (a,()) (YL a) (YH (λk=>⟨A,YW hr (e _) (by omega),fin _ (i _ ?_)⟩) λk=>⟨A,YW hr (e _) (by omega),fin _ (i _ ?_)⟩)⟩
     ·rw[M k,H];simp[c6b]
     ·rw[E k];rfl
    ·have H:=nn λx=>J x.2.2
     refine⟨Zb (a,()) (YL a) ha.1,Zc (a,()) (YL a) (YH (λk=>⟨A,YW hr (e _) (by omega),fin _ (i _ ?_)⟩) λk=>⟨A,YW hr (e _) (by omega),fin _ (i _ ?_)⟩)⟩
     ·rw[M k,H];simp
     ·rw[E k];rfl
    ·have H:=nn λx=>h3 x.2.1
     refine⟨Zb (a,()) (YL a) ha.1,Zc (a,()) (YL a) (YH (λk=>⟨A,YW hr (e _) (by omega),fin _ (i _ ?_)⟩) λk=>⟨A,YW hr (e _) (by omega),fin _ (i _ ?_)⟩)⟩
     ·rw[M k,H];simp
     ·rw[E k];rfl
    ·have H:=nn λx=>h2 x.1
     refine⟨Zb (a,()) (YL a) ha.1,Zc (a,()) (YL a) (YH (λk=>⟨A,YW hr (e _) (by omega),fin _ (i _ ?_)⟩) λk=>⟨A,YW hr (e _) (by omega),fin _ (i _ ?_)⟩)⟩
     ·rw[M k,H];simp
     ·rw[E k];rfl
 | none=>
  have U:opP n ks.length=((⟨[]⟩,0):Str×Int):=by unfold opP;rw[ho]
  have hn:HV n (Yp ks)=_:=e6m (by rw[VD,Im];exact ho);have et:(Yp ks).map (·.2.2)=ks.map Zw:=by rw[VD,aP];rfl
  rw[et]at hn;rw[hn]at fin;rw[U];refine Z5 (by simp) (Z5 (by simp) (ZP (λh=> ?_) λh5=>ZP (λh=> ?_) λh2=>ZP (λh=> ?_) λh1=>ZP (λh=> ?_) λk=>ZP (λh=> ?_) λh7=>ZP (λh=> ?_) λh8=>ZP (λh=> ?_) λh9=>ZP (λh=> ?_) λJ=> ?_))
  ·have q:nameI n.name.s∧ks.length=2:=by have:=z;unfold XO at this;simp[h]at this;exact⟨this.1.1.1.2,this.1.2⟩
   obtain⟨a,b,rfl⟩:=e0d q.2
   ·skip
    have ha:=j.kid (show a∈[a,b] by simp);have hb:=j.kid (show b∈[a,b] by simp);have F:(ZV a).s.length<=_:=j.len (show a∈[a,b] by simp);have V:(ZV b).s.length<=_:=j.len (show b∈[a,b] by simp);refine⟨YW (show _<=8 by decide) D (by omega),YW (Y5 (show _<=8 by decide) D) (show _<=8 by decide) (by omega),rfl,a,rfl,Uh a,Zb (a,()) (YL a) (KU ha.1 ha.2.1 ha.2.2),Zc (a,()) (YL a) ⟨YW (Y5 (Y5 (show _<=8 by decide) D) (show _<=8 by decide)) F (by omega),YW (Y5 (Y5 (Y5 (show _<=8 by decide) D) (show _<=8 by decide)) F) (show _<=8 by decide) (by omega),rfl,b,rfl,Uh b,Zb (b,()) (YL b) (KU hb.1 hb.2.1 hb.2.2),Zc (b,()) (YL b) ⟨YW (Y5 (Y5 (Y5 (Y5 (show _<=8 by decide) D) (show _<=8 by decide)) F) (show _<=8 by decide)) V (by omega),fin _ ?_⟩⟩⟩;simp[h,Yp,ZV]
  ·have q:Jn n:=by have:=z;unfold XO at this;simp[h]at this;exact this.1.1.2
   exact⟨Zb (.mk n ks,()) (YA n ks) q,Zc (.mk n ks,()) (YA n ks) (fin _ (by simp[h,b8n,Tm.nd]))⟩
  ·exact fin _ (by simp[h])
  ·refine⟨Zb (.mk n ks,()) (YA n ks) ?_,Zc (.mk n ks,()) (YA n ks) (fin _ (by simp[h,a0n,Tm.nd,Tm.ks]))⟩;show(tW (.mk n ks)&&XH (.mk n ks)&&decide (n.kind=6)&&decide (YO ks<N));rw[B,y,eY h,eY j.d];rfl
  ·have hc:=j.com;have X:=Mh ks;rw[<- X]at hc;refine⟨Zb (ks,{},()) rfl j.pre,Zc (ks,{},()) rfl ⟨YW (show _<=8 by decide) hc (by omega),YW (Y5 (show _<=8 by decide) hc) (show _<=8 by decide) (by omega),fin _ ?_⟩⟩;simp[h,X]
  ·have q:Mm n.name.s∧ks.length=2:=by have:=z;unfold XO at this;simp[h]at this;exact⟨this.1.1.1.2,this.1.2⟩
   obtain⟨a,b,rfl⟩:=e0d q.2
   ·skip
    have ha:=j.kid (show a∈[a,b] by simp);have hb:=j.kid (show b∈[a,b] by simp);have F:=j.len (show a∈[a,b] by simp);have V:=j.len (show b∈[a,b] by simp);have C:(WI [n.name,ZV a,ZV b]).s.length<=1099511620000:=aD (WN _) (by simp[ZV];omega);have T:V9 [n.name,ZV a,ZV b]:=by show(decide (3<=1048576)&&decide ((WI [n.name,ZV a,ZV b]).s.length<=1099511627776))=true;rw[eY (show(WI [n.name,ZV a,ZV b]).s.length<=1099511627776 by omega)];rfl
    refine⟨rfl,a,rfl,Uh a,Zb (a,()) (YL a) (KU ha.1 ha.2.1 ha.2.2),Zc (a,()) (YL a) ⟨rfl,b,rfl,Uh b,Zb (b,()) (YL b) (KU hb.1 hb.2.1 hb.2.2),Zc (b,()) (YL b) ⟨Zb ([n.name,ZV a,ZV b],()) rfl T,Zc ([n.name,ZV a,ZV b],()) rfl ⟨YW (show _<=8 by decide) C (by omega),YW (Y5 (show _<=8 by decide) C) (show _<=8 by decide) (by omega),fin _ ?_⟩⟩⟩⟩;simp[h,WI,ZV]
  ·have q:Mm n.name.s∧ks.length=1:=by have:=z;unfold XO at this;simp[h]at this;exact⟨this.1.1.1.2,this.1.2⟩
   obtain⟨a,rfl⟩:=aV.1 q.2
   ·skip
    have ha:=j.kid (show a∈[a] by simp);have F:=j.len (show a∈[a] by simp);have C:(WI [n.name,ZV a]).s.length<=1099511620000:=aD (WN _) (by simp[ZV];omega);have T:V9 [n.name,ZV a]:=by show(decide (2<=1048576)&&decide ((WI [n.name,ZV a]).s.length<=1099511627776))=true;rw[eY (show(WI [n.name,ZV a]).s.length<=1099511627776 by omega)];rfl
    refine⟨rfl,a,rfl,Uh a,Zb (a,()) (YL a) (KU ha.1 ha.2.1 ha.2.2),Zc (a,()) (YL a) ⟨Zb ([n.name,ZV a],()) rfl T,Zc ([n.name,ZV a],()) rfl ⟨YW (show _<=8 by decide) C (by omega),YW (Y5 (show _<=8 by decide) C) (show _<=8 by decide) (by omega),fin _ ?_⟩⟩⟩;simp[h,WI,ZV]
  ·have q:n.sizes.length=1∧n.sizes.all Zf:=by have:=z;unfold XO at this;simp[h]at this;exact⟨this.1.1.2,by rw[II];exact this.1.2⟩
   obtain⟨l,hs⟩:=aV.1 q.1;have P:Zf l:=by have:=q.2;rw[hs,II]at this;exact this l (by simp)
   have L:=Dy l;refine⟨by rw[hs];rfl,l,by rw[hs];rfl,Zb (l,()) rfl (a6z P),Zc (l,()) rfl ⟨YW (show _<=8 by decide) (show _<=1000 from L) (by omega),YW (Y5 (show _<=8 by decide) (show _<=1000 from L)) (show _<=8 by decide) (by omega),fin _ ?_⟩⟩;simp[h,hs]
  ·have q:Jz (H5 n):=by have:=z;unfold XO at this;simp[h1,h2,J,h5,k,h7,h8,h9]at this;exact this.2.2
   refine⟨Zb (H5 n,()) rfl ?_,Zc (H5 n,()) rfl (fin _ ?_)⟩
   ·show(Dr (H5 n)&&Jz (H5 n));rw[i3x B,q];rfl
   ·simp[h1,h2,J,h5,k,h7,h8,h9,b5r]
def e1i{N:Nat}{n:Nd}{ks:List Tm}(h:tW (.mk n ks))(hd:YO ks<N){k:Tm}(a:k∈ks):(λx:Tm×Unit=>tW x.1&&decide (Yt x.1<N)) (k,()):=by show(tW k&&decide (Yt k<N))=true;rw[(Ey h).2 k a,eY (aL (FM a) hd)];rfl
def b7v{a b:Nat}(h:a+b<=4611686018427387904):Ip.wrap ((a:Int)+(b:Int))=((a+b:Nat):Int):=by rw[IntKind.wrap_i64];omega
def a1e{N:Nat}{n:Nd}{ks:List Tm}(h:gW (.mk n ks))(hd:YO ks<N){k:Tm}(a:k∈ks):(λx:Tm×Unit=>gW x.1&&decide (Yt x.1<N)) (k,()):=by show(gW k&&decide (Yt k<N))=true;rw[i2b h k a,eY (aL (FM a) hd)];rfl
def e6u(N:Nat)(n:Nd)(ks:List Tm)(b:gW (.mk n ks))(hd:YO ks<N): ∀ (d i:Nat),d+i=ks.length ->
  At (Fg N) 0 (Za SQ (Ze ((Yt (.mk n ks):Nat):Int))) Sv 0 22 [(1,.ptr 0 0),(3,.pv (.int .i64 (YO (ks.take i):Nat))),(4,.pv (.int .i64 i))] [.obj (.box (Xu n ks))]:=by
 intro d
 induction d with
 | zero=>
  intro i hi;rw[IA (by omega)];refine d9b N n ks _ i (Z5 (Q3 (by omega)) (XK ?_))
  have:=c3e (.mk n ks)
  have:=ED b;rw[Yt]at *;exact next (by omega)
 | succ d ih=>
  intro i hi;have a:i<ks.length:=by omega
  refine d9b N n ks _ i (ZZ (QQ a) ⟨ZT a rfl,Ym a ⟨Uh _,Zb (ks[i],()) (YL _) (a1e b hd (Iz a)),Zc (ks[i],()) (YL _) ?_⟩⟩);rw[next (by have:=(b8s (b2g b)).2;omega)];have h:=ih (i+1) (by omega);rw[DR a,e8k]at h;have e:(if true then if ((Yt ks[i]:Nat):Int)>((YO (ks.take i):Nat):Int)then((Yt ks[i]:Nat):Int)else((YO (ks.take i):Nat):Int)else if ((Yt ks[i]:Nat):Int)<((YO (ks.take i):Nat):Int)then((Yt ks[i]:Nat):Int)else((YO (ks.take i):Nat):Int))=((max (YO (ks.take i)) (Yt ks[i]):Nat):Int):=by rw[fw rfl];split <;> omega
  have h2:_:=h;rw[<- e]at h2;exact h2
def f6k(N:Nat): ∀ x:Tm×Unit,(gW x.1&&decide (Yt x.1<N+1))->Zh (Fg N) 0 (Za SQ (Ze ((Yt x.1:Nat):Int))) Sv [] (Z7 h2t (encL x)):=by rintro⟨⟨n,ks⟩,⟨⟩⟩ h;simp only[Ik,fu]at h;have hd:Yt (.mk n ks)<N+1:=h.2;rw[Yt]at hd;rw[<- YA];exact i1g N n ks (e6u N n ks h.1 (by omega) ks.length 0 (by omega))
def d4e(N:Nat)(n:Nd)(ks:List Tm)(b:gW (.mk n ks))(hd:YO ks<N): ∀ (d i:Nat),d+i=ks.length ->
  At (Td N) 0 (Za Dl (Ze ((Yh (.mk n ks):Nat):Int))) G6 0 21 [(1,.ptr 0 0),(3,.pv (.int .i64 (Yc (ks.take i)+1:Nat))),(4,.pv (.int .i64 i))] [.obj (.box (Xu n ks))]:=by
 intro d
 induction d with
 | zero=>intro i hi;rw[IA (by omega)];exact c4z N n ks _ i (Z5 (Q3 (by omega)) (XK (by rw[Yh])))
 | succ d ih=>
  intro i hi;have a:i<ks.length:=by omega
  refine c4z N n ks _ i (ZZ (QQ a) ⟨ZT a rfl,Ym a ⟨Uh _,Zb (ks[i],()) (YL _) (a1e b hd (Iz a)),Zc (ks[i],()) (YL _) ?_⟩⟩);have hs:=ED b;rw[Yh]at hs;have ht:=Ow ks (i+1);have h:=ih (i+1) (by omega);rw[DR a,CF]at h ht;rw[next (by have:=(b8s (b2g b)).2;omega)];have e:IK Ip (((Yc (ks.take i)+1:Nat):Int)+((Yh ks[i]:Nat):Int))=((Yc (ks.take i)+Yh ks[i]+1:Nat):Int):=by rw[b7v (by omega)];congr 1;omega
  have h2:_:=h;rw[<- e]at h2;exact h2
def e7j(N:Nat): ∀ x:Tm×Unit,(gW x.1&&decide (Yt x.1<N+1))->Zh (Td N) 0 (Za Dl (Ze ((Yh x.1:Nat):Int))) G6 [] (Z7 f4f (encL x)):=by rintro⟨⟨n,ks⟩,⟨⟩⟩ h;simp only[Ik,fu]at h;have hd:Yt (.mk n ks)<N+1:=h.2;rw[Yt]at hd;rw[<- YA];exact h4w N n ks (d4e N n ks h.1 (by omega) ks.length 0 (by omega))
def H6(n:Nd)(ks:List Tm)(i:Nat):List Tm:=.mk n ks::(ks.take i).flatMap Vl
def f6z(n:Nd)(ks:List Tm)(i:Nat):(H6 n ks i).length=Yc (ks.take i)+1:=by unfold H6;rw[Ic,b6s]
def e5h(N:Nat)(n:Nd)(ks:List Tm)(b:tW (.mk n ks))(hd:YO ks<N): ∀ (d i:Nat),d+i=ks.length ->
  At (L6 N) 0 (Za SK (Ze (Vl (.mk n ks)))) SN 0 23 [(1,.ptr 0 0),(3,.row 1 (H6 n ks i).length 0 (H6 n ks i).length),(4,.pv (.int .i64 i))] [.obj (.box (Xu n ks)),.obj (.row false 28 10 ((H6 n ks i).map enc))]:=by
 intro d
 induction d with
 | zero=>intro i hi;refine d6o N n ks _ i (H6 n ks i) (Z5 (Q3 (by omega)) ⟨by simp,?_⟩);rw[IW,IA (by simp)];refine Zt (x:=H6 n ks i) ?_;unfold H6;rw[IA (by omega),h6u]
 | succ d ih=>
  intro i hi;have a:i<ks.length:=by omega
  have hs:=d6h b;rw[Yh]at hs;have ht:=Ow ks (i+1);rw[DR a,CF]at ht;have g:(Ie (enc:Tm->PV) (Vl ks[i])).length=Yh ks[i]:=by rw[Im,a2p]
  have hk:=f6z n ks i;refine d6o N n ks _ i (H6 n ks i) (ZZ (QQ a) ⟨ZT a rfl,Ym a ⟨Uh _,Zb (ks[i],()) (YL _) (e1i b hd (Iz a)),Zc (ks[i],()) (YL _) ⟨?_,?_,?_⟩⟩⟩)
  ·show((Ie (enc:Tm->PV) (Vl ks[i])).isEmpty||Enc.sz Tm==10);rw[show(Enc.sz Tm==10) from rfl,bQ]
  ·show(Cm (Ie (enc:Tm->PV) (H6 n ks i))==(H6 n ks i).length&&(H6 n ks i).length==(H6 n ks i).length&&decide (((H6 n ks i).length+(Ie (enc:Tm->PV) (Vl ks[i])).length)*176<=1099511627776)&&decide ((H6 n ks i).length+(Ie (enc:Tm->PV) (Vl ks[i])).length<=1099511627776));rw[Im,g,eY (by omega),eY (by omega)];simp
  ·rw[next (by have:=(Ey b).1;omega)];have h:=ih (i+1) (by omega);have e:H6 n ks (i+1)=H6 n ks i++Vl ks[i]:=by unfold H6;rw[DR a,aJ,aM,ax,IQ];rfl
   rw[e,aF,Ia,<- show(Ie (enc:Tm->PV) (Vl ks[i])).length=(Vl ks[i]).length from Im _]at h;exact h
def f9o(N:Nat): ∀ x:Tm×Unit,(tW x.1&&decide (Yt x.1<N+1))->Zh (L6 N) 0 (Za SK (Ze (Vl x.1))) SN [] (Z7 h2n (encL x)):=by
 rintro⟨⟨n,ks⟩,⟨⟩⟩ h;simp only[Ik,fu]at h;have hd:Yt (.mk n ks)<N+1:=h.2;rw[Yt]at hd;rw[<- YA];refine i0x N n ks ?_
 have:=e5h N n ks h.1 (by omega) ks.length 0 (by omega);rw[show H6 n ks 0=[.mk n ks]from rfl]at this;rw[YA];exact this
def zs2(t:Tm):(decide (0+Cm [Sh.str]<=Cm (Ih 2 (Ij (enc t))))&&XG (Ih 2 (Ij (enc t))) 0 [Sh.str]):=by obtain⟨n,ks⟩:=t;rw[YB];rfl
def zv2(t:Tm):IG (Ii (Ih 2 (Ij (enc t))) 0 default)=t.nd.name.s:=by obtain⟨n,ks⟩:=t;rw[YB];rfl
def j5u(t:Tm):(decide (0+Cm [Sh.sl 1]<=Cm (Ih 2 (Ih 4 (Ij (enc t)))))&&XG (Ih 2 (Ih 4 (Ij (enc t)))) 0 [Sh.sl 1]):=by obtain⟨n,ks⟩:=t;rw[YB];rfl
def j5y(t:Tm):IP (Ii (Ih 2 (Ih 4 (Ij (enc t)))) 0 default)=t.nd.data.map enc:=by obtain⟨n,ks⟩:=t;rw[YB];rfl
def j6x(t:Tm):(decide (0+Cm [Sh.sl 1]<=Cm (Ih 1 (Ih 4 (Ij (enc t)))))&&XG (Ih 1 (Ih 4 (Ij (enc t)))) 0 [Sh.sl 1]):=by obtain⟨n,ks⟩:=t;rw[YB];rfl
def j6l(t:Tm):IP (Ii (Ih 1 (Ih 4 (Ij (enc t)))) 0 default)=t.nd.dims.map enc:=by obtain⟨n,ks⟩:=t;rw[YB];rfl
def zs7(t:Tm):(decide (0+Cm [Sh.sl 2]<=Cm (Ih 7 (Ij (enc t))))&&XG (Ih 7 (Ij (enc t))) 0 [Sh.sl 2]):=by obtain⟨n,ks⟩:=t;rw[YB];rfl
def zv7(t:Tm):IP (Ii (Ih 7 (Ij (enc t))) 0 default)=t.nd.sizes.map enc:=by obtain⟨n,ks⟩:=t;rw[YB];rfl
def zs8(t:Tm):(decide (0+Cm [Sh.sl 1]<=Cm (Ih 8 (Ij (enc t))))&&XG (Ih 8 (Ij (enc t))) 0 [Sh.sl 1]):=by obtain⟨n,ks⟩:=t;rw[YB];rfl
def zv8(t:Tm):IP (Ii (Ih 8 (Ij (enc t))) 0 default)=t.nd.ranks.map enc:=by obtain⟨n,ks⟩:=t;rw[YB];rfl
def j6c(l:Lin):(decide (0+Cm [Sh.sl 2]<=Cm (Ih 1 (Ij (enc l))))&&XG (Ih 1 (Ij (enc l))) 0 [Sh.sl 2]):=rfl
def j6a(l:Lin):IP (Ii (Ih 1 (Ij (enc l))) 0 default)=l.t.map enc:=rfl
def h0o(n:Nd)(ks:List Tm)(m:Int)(o:List Tm)(G:PV->Prop){i:Nat}(a:i<o.length)(hs:o[i].nd.sizes.length<=1048576)(y:(o[i].nd.sizes.all λl=>decide (l.t.length<=6))=false->G (.bool false))
  (s:(o[i].nd.sizes.all λl=>decide (l.t.length<=6))->At K4 0 (Za UZ G) Qq 0 91 [(5,.pv (enc o)),(6,.pv (.int .i64 (Ip.wrap ((i:Int)+1))))] []) : ∀ (d j:Nat),d+j=o[i].nd.sizes.length->(∀ q (k:q<o[i].nd.sizes.length),q<j->(o[i].nd.sizes[q]).t.length<=6) ->
  At K4 0 (Za UZ G) Qq 1 91 [(5,.pv (enc o)),(6,.pv (.int .i64 i)),(7,.pv (.int .i64 j))] []:=by
 intro d
 induction d with
 | zero=>intro j u k;refine d7i n ks m i j o ⟨ZT a rfl,Ym a ⟨zs7 _,?_⟩⟩;rw[zv7,Im];refine Z5 (Xh (by omega)) (s ?_);rw[II];intro l r;obtain⟨q,b,rfl⟩:=aK r;exact eY (k q b (by omega))
 | succ d ih=>
  intro j u k;have g:j<o[i].nd.sizes.length:=by omega
  have z:Ii (o[i].nd.sizes.map (enc:Lin->PV)) (Iu (j:Int)) default=enc o[i].nd.sizes[j]:=by rw[IV];simp[Ii,g]
  refine d7i n ks m i j o ⟨ZT a rfl,Ym a ⟨zs7 _,?_⟩⟩;rw[zv7];refine ZZ (QQ g) ⟨ZT a rfl,Ym a ⟨zs7 _,?_⟩⟩;rw[zv7,z,j6a];refine⟨by rw[Im];simp;omega,j6c _,YH (λh=> ?_) λh=> ?_⟩
  ·refine y ?_;rw[Im]at h;rw[aN];exact⟨_,Iz g,by simp;omega⟩
  ·rw[Im]at h;rw[next (by omega)];refine ih (j+1) (by omega) λq b hqj=> ?_
   by_cases e:q=j
   ·subst e;omega
   ·exact k q b (by omega)
def h3g{t x:Tm}(h:tW t)(a:x∈Vl t):tW x:=by unfold Vl at a;obtain⟨p,b,rfl⟩:=List.mem_map.1 a;exact a4t h b
def Aj{t:Tm}(h : ¬ (t.nd.name.s.length<=40∧t.nd.data.length<=30∧t.nd.dims.length<=8∧t.nd.sizes.length<=6∧t.nd.ranks.length<=10)):a3i t=false:=by rw[Bool.eq_false_iff];intro k;unfold a3i at k;simp only[Ik,fu]at k;exact h ⟨k.1.1.1.1.1,k.1.1.1.1.2,k.1.1.1.2,k.1.1.2,k.1.2⟩
def g1m{t:Tm}(h1:t.nd.name.s.length<=40)(h2:t.nd.data.length<=30)(h3:t.nd.dims.length<=8)(a:t.nd.sizes.length<=6)(b:t.nd.ranks.length<=10):a3i t=t.nd.sizes.all λl=>decide (l.t.length<=6):=by unfold a3i;rw[eY h1,eY h2,eY h3,eY a,eY b];simp
def e5q(n:Nd)(ks:List Tm)(m:Int)(o:List Tm)(hw : ∀ x∈o,tW x)(hl:o.length<=1048576)(G:PV->Prop)(l:G (.bool (o.all a3i))): ∀ (d i:Nat),d+i=o.length->(∀ q (j:q<o.length),q<i->a3i o[q]) ->
  At K4 0 (Za UZ G) Qq 0 91 [(5,.pv (enc o)),(6,.pv (.int .i64 i))] []:=by
 intro d
 induction d with
 | zero=>
  intro i hi j;have e:o.all a3i:=by rw[II];intro x s;obtain⟨q,g,rfl⟩:=aK s;exact j q g (by omega)
  rw[e]at l;exact d9k n ks m i o (Z5 (Q3 (by omega)) l)
 | succ d ih=>
  intro i hi j;have a:i<o.length:=by omega
  have b:a3i o[i]=false->G (.bool false):=λh=>by
   have e:o.all a3i=false:=by rw[aN];exact⟨_,Iz a,by rw[h];simp⟩
   rw[e]at l;exact l
  refine d9k n ks m i o (ZZ (QQ a) ⟨ZT a rfl,Ym a ⟨zs2 _,?_⟩⟩);rw[zv2];refine YH (λh=>b (Aj λk=>by omega)) λh1=>⟨ZT a rfl,Ym a ⟨j5u _,?_⟩⟩
  rw[j5y,Im];refine YH (λh=>b (Aj λk=>by omega)) λh2=>⟨ZT a rfl,Ym a ⟨j6x _,?_⟩⟩
  rw[j6l,Im];refine YH (λh=>b (Aj λk=>by omega)) λh3=>⟨ZT a rfl,Ym a ⟨zs7 _,?_⟩⟩
  rw[zv7,Im];refine YH (λh=>b (Aj λk=>by omega)) λh4=>⟨ZT a rfl,Ym a ⟨zs8 _,?_⟩⟩
  rw[zv8,Im];refine YH (λh=>b (Aj λk=>by omega)) λh5=> ?_
  have r:=g1m (t:=o[i]) (by omega) (by omega) (by omega) (by omega) (by omega);refine h0o n ks m o G a (by omega) (λh=>b (by rw[r];exact h)) (λh=> ?_) o[i].nd.sizes.length 0 (by omega) λq j g=>by omega
  rw[next (by omega)];refine ih (i+1) (by omega) λq g hqi=> ?_
  by_cases e:q=i
  ·subst e;rw[r];exact h
  ·exact j q g (by omega)
def g4u: ∀ x:Tm×Int×Unit,tW x.1->Zh K4 0 (Za UZ (Ze (Nw x.1 x.2.1))) Qq [] (Z7 g7d (encL x)):=by
 rintro⟨⟨n,ks⟩,m,⟨⟩⟩ h;have h:tW (.mk n ks):=h;have a:ndA n ks++[.int .i64 m]=encL ((.mk n ks,m,()):Tm×Int×Unit):=by rw[YA];rfl
 rw[<- a];show Zh K4 0 (Za UZ (Ze (Nw (.mk n ks) m))) _ _ _;refine i1o n ks m ⟨Zb (.mk n ks,()) (YA n ks) h,Zc (.mk n ks,()) (YA n ks) (YH (λh1=>Zy ?_) λh1=>⟨Zb (.mk n ks,()) (YA n ks) h,Zc (.mk n ks,()) (YA n ks) (YH (λh2=>Zy ?_) λh2=>⟨Zb (.mk n ks,()) (YA n ks) h,Zc (.mk n ks,()) (YA n ks) ?_⟩)⟩)⟩
 ·have h1:((Yt (.mk n ks):Nat):Int)>12:=h1;unfold Nw;rw[fF (by omega)];rfl
 ·have h2:((Yh (.mk n ks):Nat):Int)>m:=h2;unfold Nw;rw[fF (show ¬ ((Yh (.mk n ks):Nat):Int)<=m by omega),I5];rfl
 ·have h1 : ¬ ((Yt (.mk n ks):Nat):Int)>12:=h1;have h2 : ¬ ((Yh (.mk n ks):Nat):Int)>m:=h2;have e:Nw (.mk n ks) m=(Vl (.mk n ks)).all a3i:=by unfold Nw;rw[eY (by omega),eY (show((Yh (.mk n ks):Nat):Int)<=m by omega)];simp
  refine e5q n ks m (Vl (.mk n ks)) (λx b=>h3g h b) (by rw[a2p];exact d6h h) _ (Zy e.symm) (Vl (.mk n ks)).length 0 (by omega) λq hq hq2=>by omega
def i3l: ∀ x:Str×Unit,true->Zh j4o 0 (Za h9s (Ze (vT x.1))) h9c [] (Z7 j2j (encL x)):=by rintro⟨⟨s⟩,⟨⟩⟩ _;exact j6b s ⟨by simp,by simp[vT,Hw]⟩
def e4u: ∀ x:Str×List Tm×Unit,true->Zh d9g 0 (Za c0o (Ze (cT x.1 x.2.1))) c1d [] (Z7 e9r (encL x)):=by
 rintro⟨⟨s⟩,l,⟨⟩⟩ _;refine h5t s l ⟨?_,?_⟩
 ·have:is (List Tm) (.sl 10 false (l.map enc)):=Enc.is_enc l;simp[this]
 ·have h:is (List Tm) (.sl 10 false (l.map enc)):=Enc.is_enc l;have h2:(dec (.sl 10 false (l.map enc)):List Tm)=l:=Enc.dec_enc l;rw[i3b _ _ _ _ _ _ _ _ _ _ h,h2];simp[cT,Hw]
def f0b(a b:Tm):(aB [enc a,enc b] λ(x:PV)=>Cm (Ij x)==10&&aO x):=by obtain⟨n,ks⟩:=a;obtain⟨m,ls⟩:=b;rw[YB,YB];rfl
def c9q: ∀ x:Unit,true->Zh c3l 0 (Za a7j (Ze true)) a7h [] (Z7 e6r (encL x)):=by
 rintro⟨⟩ _;refine f7b (Zc ((⟨[97]⟩:Str),()) rfl (Zc ((⟨[98]⟩:Str),()) rfl ⟨cT ⟨[110,101,103]⟩ [nT 5],by kernel_rfl,f0b _ _,Zb ((⟨[115,117,98]⟩:Str),[vT ⟨[98]⟩,cT ⟨[110,101,103]⟩ [nT 5]],()) rfl rfl,Zc ((⟨[115,117,98]⟩:Str),[vT ⟨[98]⟩,cT ⟨[110,101,103]⟩ [nT 5]],()) rfl ⟨f0b _ _,Zb ((⟨[115,117,98]⟩:Str),[vT ⟨[97]⟩,cT ⟨[115,117,98]⟩ [vT ⟨[98]⟩,cT ⟨[110,101,103]⟩ [nT 5]]],()) rfl rfl,Zc ((⟨[115,117,98]⟩:Str),[vT ⟨[97]⟩,cT ⟨[115,117,98]⟩ [vT ⟨[98]⟩,cT ⟨[110,101,103]⟩ [nT 5]]],()) rfl ⟨Zb (ex1,()) rfl j4b,Zc (ex1,()) rfl ?_⟩⟩⟩));rw[show Qj ((ex1,()):Tm×Unit).1=(⟨tx1⟩,0)from g2v];refine Zc ((⟨[97]⟩:Str),()) rfl (Zc ((⟨[98]⟩:Str),()) rfl ⟨f0b _ _,Zb ((⟨[97,100,100]⟩:Str),[vT ⟨[97]⟩,vT ⟨[98]⟩],()) rfl rfl,Zc ((⟨[97,100,100]⟩:Str),[vT ⟨[97]⟩,vT ⟨[98]⟩],()) rfl ⟨by kernel_rfl,by kernel_rfl,ex2,by kernel_rfl,Zb (ex2,()) rfl j2i,Zc (ex2,()) rfl ?_⟩⟩)
 rw[show Qj ((ex2,()):Tm×Unit).1=(⟨tx2⟩,0)from g2q];exact ZZ rfl (ZZ rfl (ZZ rfl (Zy rfl)))
noncomputable def d3h:IC:=Xx Proofs.Tryz.f49
def d0w:List IRes:=[.tmp 2]
abbrev i6e:Nat:=4
def g5e:ZH:=YT []
def i9t{G:AV×List AObj×List AObj->Prop}(es:List (PV×PV))(h:G (((.fn 82 [] [.ptr 1 0]),([.map es],[.box [.map 0]])))):Zh g5e 1 (Z9 1 d0w G) d3h [] (Yr 4 [.map 0] [.map es]):=Zh.to (.nil) h
noncomputable def a1l:IC:=icx a5j Proofs.Tryz.f26
def Ld:List IRes:=[.tmp 2]
abbrev i0d:Nat:=36
noncomputable def e5d:Nat×Den:=(43,.own SX (b6e 70))
noncomputable def i4c:Nat×Den:=(49,.own EE (b1s 82))
noncomputable def Nv:ZH:=YT [e5d,i4c,(48,.own (GL 82) Cw)]
def a3p(a:Nd)(Zl:List Tm):AObj:=.box [.pv (.int .i64 (Nd.kind a)),.pv (.int .i64 (Nd.line a)),.pv (YU a),.pv (WL a),.pv (.str (Str.s (Nd.elem a))),.pv (Wo a),.pv (Wv a),.pv (XX a),.pv (XL a),.pv (Y0 Zl)]
def Ud(a:Nd)(Zl:List Tm):Slot:=.obj (a3p a Zl)
def j2r{G:PV->Prop}(E:U1)(n:Nd)(ks:List Tm):=Mr (A:=(SX [.pv (QW n ks)] [])=true∧(E 0 ⟨X5 36 0 [(3,.ptr 0 0),(4,.undef),(6,.undef),(8,.undef),(11,.fn 70 [] [.ptr 1 0]),(12,.undef),(14,.undef),(15,.undef),(16,.undef),(17,.undef),(18,.undef),(19,.undef),(20,.undef),(21,.undef),(22,.undef),(23,.undef),(24,.undef),(25,.undef),(26,.undef),(27,.undef),(28,.undef),(29,.undef),(30,.undef),(31,.undef),(32,.undef)],[.obj (.box [.map 2]),Ud n ks,.obj (.map [])]⟩ (λx a=>AfX Nv E 0 (Za Ld G) a1l 0 x a))) (C:=X6 Nv E 0 (Za Ld G) (.inl a1l) [] (Z7 36 [Ke n ks])) (λh=>X6.mp (.req (.keep (.nil))) h) (by delta YU WL Wo Wv VK XX XL Y0 QW a3p Ud;exact rfl)
def Ho:Slot:=.obj (.box [.map 1])
def GQ(a:List Str):Slot:=.obj (.map (F9 a))
def i8t{G:PV->Prop}(E:U1)(n:Nd)(ks:List Tm)(m:List Str):=Mr (A:=(GL 82 [.fn 82 [] [.ptr 0 0]] [.box [.map 1],.map (F9 m)])=true∧(G (.sl 1 false (Ie PV.str (UF (Ie Co (F9 m))))))) (C:=AfX Nv E 0 (Za Ld G) a1l 0 .normal ⟨X5 36 0 [(3,.ptr 0 0)],[Ho,GQ m]⟩) (λh=>X6.mp (.lit (.keep (.req (.keep (.nil))))) h) rfl
def a0j:IC:=(.reg [Yl 4 (.alloc (.agg [.int .i64 0,.int .i64 0,.str [],.int .i64 0,.str [],.sl 0 true [],.sl 0 true [],.sl 0 true [],.sl 0 true [],.sl 0 true []])) 0,o'' (.store 10 (.t 4) (.t 12)) 1] none)
noncomputable def h8c:ZH:=YT [e5d,i4c,(48,.own (GL 82) Cw)]
def CS(b:List Str)(Zl:Nd)(a:List Tm):ZC:=[Ho,GQ b,Ud Zl a]
def i8z{G:ZC->Prop}(E:U1)(n:Nd)(ks:List Tm)(m:List Str)(v:Int):=Mr (A:=E 99 ⟨X5 36 0 [(3,.ptr 0 0),(4,.ptr 2 0)],CS m n ks⟩ (λx a=>AfX h8c E 2 (λst=>G st.heap) a0j 99 x a)) (C:=X6 h8c E 2 (λst=>G st.heap) (.inl a0j) [.seq (.ext 99 [3,4])] ⟨X5 36 0 [(3,.ptr 0 0),(12,.pv (Ke n ks)),(13,Zv v)],[Ho,GQ m]⟩) (λh=>X6.mh (.nil) h) (by delta Ho GQ YU WL Wo Wv VK XX XL Y0 a3p Ud CS;exact rfl)
def U2:IC:=(.block 1 (Q0 [Yl 14 (.faddr 7 (.t 4)) 0,Yl 15 (l'' [.sl 2] (.t 14)) 0,Yl 16 (.len 1 (.t 15)) 0,Yl 17 (.mv (Uy 0)) 0] (.block 2 (.loop [17,16,15,3] (Q0 [Yl 18 (Pp .lss (.t 17) (.t 16)) 0] (.seq (.cond (.t 18) .skip (.exit 2)) (.seq (.block 3 (Q0 [Yl 19 (.iaddr 2 (.t 15) (.t 17)) 0,Yl 20 (.load true [.int .i64,.sl 2] (.t 19)) 0,Yl 6 (.alloc (.agg [.int .i64 0,.sl 0 true []])) 0,o'' (.store 2 (.t 6) (.t 20)) 1] (Q0 [Yl 21 (.faddr 1 (.t 6)) 0,Yl 22 (l'' [.sl 2] (.t 21)) 0,Yl 23 (.len 1 (.t 22)) 0,Yl 24 (.mv (Uy 0)) 0] (.block 4 (.loop [24,23,22,3,17,16,15] (Q0 [Yl 25 (Pp .lss (.t 24) (.t 23)) 0] (.seq (.cond (.t 25) .skip (.exit 4)) (.seq (.block 5 (Q0 [Yl 26 (.iaddr 2 (.t 22) (.t 24)) 0,Yl 27 (.load true [.str,.int .i64] (.t 26)) 0,Yl 8 (.alloc (.agg [.str [],.int .i64 0])) 0,o'' (.store 2 (.t 8) (.t 27)) 1] (.reg [Yl 28 (.load false [.any] (.t 3)) 0,Yl 29 (.faddr 0 (.t 8)) 0,Yl 30 (.load false [.str] (.t 29)) 0,o'' (.mapupd true (.t 28) (.t 30) (.c (.bool true))) 0] none))) (.reg [Yl 31 (Pp .add (.t 24) (Uy 1)) 0,Yl 24 (Qm 31) 0] none))))))))) (.reg [Yl 32 (Pp .add (.t 17) (Uy 1)) 0,Yl 17 (Qm 32) 0] none))))))))
noncomputable def Bt:ZH:=YT [e5d,i4c,(48,.own (GL 82) Cw)]
def RI(a:Nd):Nat×AV:=(15,.pv (XX a))
def a3g(a:Nd):Nat×AV:=(16,.pv (.int .i64 (↑(Cm (Nd.sizes a)):Int)))
def e9g{G:ZC->Prop}(E:U1)(n:Nd)(ks:List Tm)(m:List Str)(i:Int):=Mr (A:=if (decide (i<(↑(Cm (Nd.sizes n)):Int)))=true then(QU (Nd.sizes n) i 2 λa=>(AtS [.seq (.ext 99 [])] Bt E 3 (λst=>G st.heap) U2 1 36 [(3,.ptr 0 0),RI n,a3g n,(17,Zv i),(22,.pv (.sl 2 false (CR a))),(23,.pv (.int .i64 (↑(Cm (CR a)):Int))),(24,Zj)] (CS m n ks)))else(E 99 ⟨X5 36 0 [],CS m n ks⟩ (λx b=>AfX Bt E 3 (λst=>G st.heap) U2 99 x b))) (C:=AtS [.seq (.ext 99 [])] Bt E 3 (λst=>G st.heap) U2 0 36 [(3,.ptr 0 0),(15,.pv (enc n.sizes)),(16,.pv (.int .i64 n.sizes.length)),(17,Zv i)] [Ho,GQ m,QJ n ks]) (λh=>X6.mh (dm [dr Lin] 11 0x25100442) h) (by delta VK XX RI a3g Zv CR Zj Ho GQ YU WL Wo Wv XL Y0 a3p Ud CS;exact rfl)
def f9k{G:ZC->Prop}(E:U1)(n:Nd)(ks:List Tm)(m:List Str)(i j:Int)(l:Lin):=Mr (A:=if (BH j l)=true then(QU l.t j 2 λa=>((d8s (aG Sh.str (Vf a)) (PV.bool true) (F9 m))∧(AtS [.seq (.ext 99 [])] Bt E 3 (λst=>G st.heap) U2 1 36 [(3,.ptr 0 0),RI n,a3g n,(17,Zv i),(22,Wt l),(23,RZ l),(24,ZY j)] [Ho,.obj (.map (c8b (aG Sh.str (Vf a)) (PV.bool true) (F9 m))),Ud n ks])))else(AtS [.seq (.ext 99 [])] Bt E 3 (λst=>G st.heap) U2 0 36 [(3,.ptr 0 0),RI n,a3g n,(17,ZY i)] (CS m n ks))) (C:=AtS [.seq (.ext 99 [])] Bt E 3 (λst=>G st.heap) U2 1 36 [(3,.ptr 0 0),(15,.pv (enc n.sizes)),(16,.pv (.int .i64 n.sizes.length)),(17,Zv i),(22,.pv (enc l.t)),(23,.pv (.int .i64 l.t.length)),(24,Zv j)] [Ho,GQ m,QJ n ks]) (λh=>X6.mh (dm [dr Coef] 14 0x202125100642) h) (by delta BH U4 Vf VK XX RI a3g Zv Xt Wt RZ Yx ZY Ho YU WL Wo Wv XL Y0 a3p Ud GQ CS;exact rfl)
def i3y{G:ZC->Prop}(E:U1)(n:Nd)(ks:List Tm)(m:List Str):=Mr (A:=AtS [.seq (.ext 99 [])] Bt E 3 (λst=>G st.heap) U2 0 36 [(3,.ptr 0 0),RI n,(16,.pv (.int .i64 (↑(VG n):Int))),(17,Zj)] (CS m n ks)) (C:=X6 Bt E 3 (λst=>G st.heap) (.inl U2) [.seq (.ext 99 [])] ⟨X5 36 0 [(3,.ptr 0 0),(4,.ptr 2 0)],[Ho,GQ m,QJ n ks]⟩) (λh=>X6.mh (.nil) h) (by delta VK XX RI VG Zj Ho GQ YU WL Wo Wv XL Y0 a3p Ud CS;exact rfl)
abbrev h8r(ps:List PV)(k:Bool->Prop):Prop:=V6 (λ(x:Tm×Unit)=>nW (Ib x)) (λ(x:Tm×Unit)=>PL (Ib x)) ps k
noncomputable def b1h:IC:=Xx Proofs.Tryz.f43
def b5d:List IRes:=[.tmp 2]
abbrev h1k:Nat:=4
def d3g:ZH:=YT []
def i6z{G:AV×List AObj×List AObj->Prop}(n:Nd)(ks:List Tm):=Mr (A:=G ((.fn 70 [] [.ptr 0 0]),([],[a3p n ks]))) (C:=Zh d3g 0 (Z9 0 b5d G) b1h [] (Yr 4 [.pv (Ke n ks)] [])) (λh=>Zh.to (.nil) h) (by delta YU WL Wo Wv VK XX XL Y0 a3p;exact rfl)
noncomputable def FB:IC:=icx a5j Proofs.Tryz.f24
def TP:List IRes:=[.cell false 1 2]
abbrev i6d:Nat:=23
noncomputable def i4a:Nat×Den:=(44,.pure (preT (λx:Tm×Unit=>nW x.1)) (Zp (λx:Tm×Unit=>PL x.1)))
noncomputable def TA:ZH:=YT [e5d,i4a]
def Jk:Slot:=.obj (.box [UR])
def j3x{G:PV->Prop}(E:U1)(n:Nd)(ks:List Tm):=Mr (A:=(SX [.pv (QW n ks)] [])=true∧(E 0 ⟨X5 23 0 [(2,.ptr 0 0),(3,.ptr 1 0),(4,.undef),(5,.undef),(7,.fn 70 [] [.ptr 2 0]),(8,.undef),(9,.undef),(10,.undef),(11,.undef),(12,.undef),(13,.undef),(14,.undef),(15,.undef),(16,.undef),(17,.undef),(18,.undef),(19,.undef),(20,.undef),(21,.undef),(22,.undef)],[Jk,.obj (.box [Zj]),Ud n ks]⟩ (λx a=>AfX TA E 0 (Za TP G) FB 0 x a))) (C:=X6 TA E 0 (Za TP G) (.inl FB) [] (Z7 23 [Ke n ks])) (λh=>X6.mp (.req (.keep (.nil))) h) (by delta YU WL Wo Wv VK XX XL Y0 QW UR Jk Zj a3p Ud;exact rfl)
def ES(a:Int):Slot:=.obj (.box [Zv a])
def i1u{G:PV->Prop}(E:U1)(n:Nd)(ks:List Tm)(c:Int):=Mr (A:=G (.bool true)) (C:=AfX TA E 0 (Za TP G) FB 0 .normal ⟨X5 23 0 [(2,.ptr 0 0),(3,.ptr 1 0)],[Jk,ES c]⟩) (λh=>X6.mp (.nil) h) rfl
def g8k{G:PV->Prop}(E:U1)(n:Nd)(ks:List Tm)(c:Int)(rest:List Slot):=Mr (A:=G (.bool false)) (C:=AfX TA E 0 (Za TP G) FB 0 .ret ⟨X5 23 0 [(2,.ptr 0 0),(3,.ptr 1 0)],(.obj (.box [UR]):: .obj (.box [Zv c])::rest)⟩) (λh=>X6.mp (.nil) h) rfl
def a1y:IC:=(Q0 [Yl 4 (.alloc (.agg [.int .i64 0,.int .i64 0,.str [],.int .i64 0,.str [],.sl 0 true [],.sl 0 true [],.sl 0 true [],.sl 0 true [],.sl 0 true []])) 0,o'' (.store 10 (.t 4) (.t 8)) 1] (.reg [Yl 5 (Qm 9) 0] none))
noncomputable def h9i:ZH:=YT [e5d,i4a]
def d0j(a:Int):List (Nat×AV):=[(2,.ptr 0 0),(3,.ptr 1 0),(4,.ptr 2 0),(5,Zv a)]
def i2o{G:ZC->Prop}(E:U1)(n:Nd)(ks:List Tm)(c v:Int):=Mr (A:=E 99 ⟨X5 23 0 (d0j v),[Jk,ES c,Ud n ks]⟩ (λx a=>AfX h9i E 2 (λst=>G st.heap) a1y 99 x a)) (C:=X6 h9i E 2 (λst=>G st.heap) (.inl a1y) [.seq (.ext 99 [2,3,4,5])] ⟨X5 23 0 [(2,.ptr 0 0),(3,.ptr 1 0),(8,.pv (Ke n ks)),(9,Zv v)],[Jk,ES c]⟩) (λh=>X6.mh (.nil) h) (by delta Zv d0j UR Jk ES YU WL Wo Wv VK XX XL Y0 a3p Ud;exact rfl)
def a4d:IC:=(.block 1 (Q0 [Yl 10 (l'' [.int .i64] (.t 3)) 0,Yl 11 (Pp .add (.t 10) (Uy 1)) 0,o'' (.store 1 (.t 3) (.t 11)) 0] (Q0 [Yl 12 (l'' [.int .i64] (.t 3)) 0,Yl 13 (Pp .gtr (.t 12) (Uy 400)) 0,Yl 14 (Qm 13) 0,r'' 15 (Qm 5) 0 14,r'' 16 (Pp .gtr (.t 15) (Uy 40)) 0 14,Yl 17 (.pick (.t 14) (.c (.bool true)) (.t 16)) 0,Yl 18 (Qm 17) 0,r'' 19 (.load true [.int .i64,.int .i64,.str,.int .i64,.str,.sl 1,.sl 1,.sl 2,.sl 1,.sl 10] (.t 4)) 0 18,r'' 20 (c'' 44 [.t 19]) 0 18,r'' 21 (.un .not (.t 20)) 2 18,Yl 22 (.pick (.t 18) (.c (.bool true)) (.t 21)) 2] (.cond (.t 22) (Q0 [o'' (.store 1 (.t 2) (.c (.bool false))) 0] .ret) .skip))))
noncomputable def h7t:ZH:=YT [e5d,i4a]
def a3q(a:Int):Slot:=.obj (.box [ZY a])
def i0l{G:ZC->Prop}(E:U1)(n:Nd)(ks:List Tm)(c v:Int):=Mr (A:=if (decide (IK Ip (c+1)>400))=true then G ([Jk,a3q c,Ud n ks,.fresh,.fresh])else(if (decide (v>40)) then G ([Jk,a3q c,Ud n ks,.fresh,.fresh])else(h8r [QW n ks] λb=>(if (!b) then G ([Jk,a3q c,Ud n ks,.fresh,.fresh])else(E 99 ⟨X5 23 0 [],[Jk,a3q c,Ud n ks]⟩ (λx a=>AfX h7t E 3 (λst=>G st.heap) a4d 99 x a)))))) (C:=X6 h7t E 3 (λst=>G st.heap) (.inl a4d) [.seq (.ext 99 [])] ⟨X5 23 0 (d0j v),[Jk,ES c,QJ n ks]⟩) (λh=>X6.mh (dm [dv Bool] 38 0x142251202222005422202222222008422) h) (by delta UR Jk Yx ZY a3q YU WL Wo Wv VK XX XL Y0 a3p Ud QW;exact rfl)
def h7g{s:Str}:(s=⟨[]⟩) ↔ s.s=[]:=by cases s;simp
def h7d(n:Nd):Wn n 0 0=a4p n:=by unfold Wn a4p;cases n.sizes <;> cases n.ranks <;> simp <;> omega
def g6g(k:Nat):((k:Int)=1) ↔ k=1:=by omega
def h5c(k:Nat):((k:Int)=2) ↔ k=2:=by omega
def h1m(k:Nat):((1:Int)<=(k:Int)) ↔ 1<=k:=by omega
def f9t(k:Nat):((k:Int)<=16) ↔ k<=16:=by omega
def g2o(n:Nd):Wn n 1 0=(decide (n.sizes.length<=1)&&n.sizes.all Zf&&n.ranks.isEmpty):=by unfold Wn;rw[show decide ((n.sizes.length:Int)<=1)=decide (n.sizes.length<=1)from decide_eq_decide.2 (by omega),show decide ((n.ranks.length:Int)<=0)=n.ranks.isEmpty by cases n.ranks <;> simp <;> omega,bF,bF,bI n.ranks.isEmpty]
set_option maxHeartbeats 2000000 in
def e7w: ∀ x:Tm×Unit,nW x.1->Zh b6m 0 (Za a1b (Ze (PL x.1))) c3t [] (Z7 f5j (encL x)):=by
 rintro⟨⟨n,ks⟩,⟨⟩⟩ ht;rw[<- Xo];show Zh b6m 0 (Za a1b (Ze (Ux n ks.length))) _ _ _;have e:decide (n.name.s.length<=1048576):=eY (a6b ht).name;have a:Dr (H5 n):=d1k ht;have leaf : ∀ b:Bool,Ux n ks.length=b->Ze (Ux n ks.length) (.bool b):=λb h=>Zy h.symm
 refine h7l n ks ?_;refine YH (λh1=>leaf _ ?_) λh1=>YH (λh2=>leaf _ ?_) λh2=> ?_
 ·unfold Ux;rw[fF (by omega)];rfl
 ·unfold Ux;rw[fF (show ¬ n.line<=10000 by omega)];simp
 have g:Ux n ks.length=XO n ks.length:=by unfold Ux;rw[eY (by omega),eY (show n.line<=10000 by omega)];simp
 rw[g]at leaf ⊢
 repeat' (first
  | refine ZP (λh=> ?_) (λh=> ?_)
  | refine YH (λh=> ?_) (λh=> ?_)
  | refine YC (λh=> ?_) (λh=> ?_)
  | refine⟨Zb (n.name,()) rfl e,Zc (n.name,()) rfl ?_⟩
  | refine⟨Zb (.mk n ks,0,0,()) (J8 n ks 0 0) ht,Zc (.mk n ks,0,0,()) (J8 n ks 0 0) ?_⟩
  | refine⟨Zb (.mk n ks,1,0,()) (J8 n ks 1 0) ht,Zc (.mk n ks,1,0,()) (J8 n ks 1 0) ?_⟩
  | refine⟨Zb (.mk n ks,()) (Xo n ks) ht,Zc (.mk n ks,()) (Xo n ks) ?_⟩
  | refine⟨Zb (H5 n,()) rfl a,Zc (H5 n,()) rfl ?_⟩
  | refine leaf _ ?_)
 all_goals clear ht e a leaf g
 all_goals (unfold XO a0f;simp_all[h7g,Tm.nd,Tm.ks,h7d,H5,g6g,h5c,h1m,f9t,g2o])
 intro g;omega
end Go.Pl
namespace Go.Proofs.YtbpdlcdciffpjaaGreatDoor
open Go.RowKit Go.Pl
open Enc (enc dec is)
open EncL (encL decL isL)
set_option maxRecDepth 100000
def ndC(n:Nd)(ks:List Tm):List PV:=[enc n.kind,enc n.line,enc n.name,enc n.num,enc n.elem,enc n.dims,enc n.data,enc n.sizes,enc n.ranks,enc ks]
abbrev wkT:ZH:=YT []
def eW(L:List (Nat×AV)):List AV:=X5 28 0 L
def wk0(n:Nd)(ks:List Tm)(lev:Int)(l:Nat):List (Nat×AV):=[(0,.pv (.agg (ndC n ks))),(1,.pv (.int .i64 lev)),(2,.yld l)]
def wk1(n:Nd)(ks:List Tm)(lev:Int)(l:Nat):List (Nat×AV):=wk0 n ks lev l++[(3,.ptr 0 0),(6,.pv (.bool false))]
def wk2(n:Nd)(ks:List Tm)(lev:Int)(l:Nat):List (Nat×AV):=wk1 n ks lev l++[(9,.yld l),(10,.pv (.agg (ndC n ks))),(11,.pv (.int .i64 lev))]
def wk3(n:Nd)(ks:List Tm)(lev:Int)(l:Nat)(b:Bool):List (Nat×AV):=wk2 n ks lev l++[(12,.pv (.bool b))]
def wk4(n:Nd)(ks:List Tm)(lev:Int)(l:Nat)(b:Bool):List (Nat×AV):=wk3 n ks lev l b++[(13,.pv (.bool (!b)))]
def wk5(n:Nd)(ks:List Tm)(lev:Int)(l:Nat):List (Nat×AV):=wk4 n ks lev l true++[(14,.ptr 0 9),(15,.pv (enc ks)),(16,.pv (.int .i64 (ks.map enc).length)),(17,.pv (.int .i64 0))]
def wl0(ks:List Tm)(lev:Int)(l:Nat)(i:Int):List (Nat×AV):=[(17,.pv (.int .i64 i)),(16,.pv (.int .i64 (ks.map enc).length)),(15,.pv (enc ks)),(1,.pv (.int .i64 lev)),(2,.yld l)]
def wl1(ks:List Tm)(lev:Int)(l:Nat)(i:Int):List (Nat×AV):=wl0 ks lev l i++[(18,.pv (.bool (decide (i<((ks.map enc).length:Int)))))]
def wl5(ks:List Tm)(lev:Int)(l:Nat)(i:Int)(n:Nd)(a:List Tm):List (Nat×AV):=wl1 ks lev l i++[(19,.pv (.rptr (ndC n a))),(20,.pv (.agg (ndC n a))),(8,.ptr 0 0)]
def wl6(ks:List Tm)(lev:Int)(l:Nat)(i:Int)(n:Nd)(a:List Tm):List (Nat×AV):=wl5 ks lev l i n a++[(21,.pv (.agg (ndC n a))),(22,.pv (.int .i64 lev)),(23,.pv (.int .i64 (Ip.wrap (lev+1)))),(24,.yld l)]
def wl7(ks:List Tm)(lev:Int)(l:Nat)(i:Int)(b:Bool):List (Nat×AV):=wl0 ks lev l i++[(25,.pv (.bool b))]
def wl8(ks:List Tm)(lev:Int)(l:Nat)(i:Int)(b:Bool):List (Nat×AV):=wl7 ks lev l i b++[(26,.pv (.bool (!b)))]
def wl9(ks:List Tm)(lev:Int)(l:Nat)(i:Int):List (Nat×AV):=[(27,.pv (.int .i64 (Ip.wrap (i+1)))),(17,.pv (.int .i64 (Ip.wrap (i+1)))),(16,.pv (.int .i64 (ks.map enc).length)),(15,.pv (enc ks)),(1,.pv (.int .i64 lev)),(2,.yld l)]
def bx(n:Nd)(ks:List Tm):ZC:=[.obj (.box ((ndC n ks).map .pv))]
def c6l{T:ZH}{a d L sz:Nat}{env:List AV}{σ:ZC}{x i:IOp}{t:Bool}{xs:List PV}{n:Nat}{k:IntKind}{p:PV}{ps:List PI}(j:ev env x = .pv (.sl sz t xs))(hi:ev env i = .pv (.int k (n:Int)))(e:xs[n]? = some p):
  DD T a (⟨some d,.iaddr sz x i,L,none⟩::ps) ⟨env,σ⟩=DD T a ps ⟨env.set d (.pv (.rptr p.cells)),σ⟩:=by
 have b:n<xs.length:=(IM.1 e).1;have g:xs[n]=p:=(IM.1 e).2;have h:(VJ T (a+L) env (.iaddr sz x i)).run σ=some (.pv (.rptr p.cells),σ):=by simp only[VJ,WW,j,hi];simp[HM.run,b,g]
 show(NB T a ⟨some d,.iaddr sz x i,L,none⟩ ⟨env,σ⟩).bind (DD T a ps)=_;simp only[NB,WF,h,Option.map_some,Option.bind_some,Y3]
set_option maxHeartbeats 1000000 in
def i6i: ∃ (A g u r z s j q C B:Array Oper) (H D F E:List Oper) (y c:Oper) (I K:Array TypeId),
  Tryz.f71.body=some ((IL 0 A false).seq (((IL 1 g false).seq (bH (.tmp 13) ((IL 2 u false).seq .ret) .skip)).seq (((IL 3 r false).seq (bW 0
   (Code.loop ((IL 4 z false).seq ((bH (.tmp 18) .skip (.exit 0)).seq ((bW 1 ((IL 5 s false).seq ((IL 6 j false).seq (bH (.tmp 26) ((IL 7 q false).seq .ret) .skip)))).seq (IL 8 C false))))))).seq ((IL 9 B false).seq .ret)))) ∧
  g.toList=H++y::D∧y.op = .call {callee:=.value (.tmp 9),args:=#[.tmp 10,.tmp 11],argTypes:=I}∧y.guard=none∧y.dst=some 12 ∧
  j.toList=F++c::E∧c.op = .call {callee:=.value (.func 71),args:=#[.tmp 21,.tmp 23,.tmp 24],argTypes:=K}∧c.guard=none∧c.dst=some 25 ∧
  (∀ n ks a l,Cc prog wkT A A.toList ⟨eW (wk0 n ks a l),[]⟩=some ⟨eW (wk1 n ks a l),bx n ks⟩) ∧
  (∀ n ks a l,Cc prog wkT g H ⟨eW (wk1 n ks a l),bx n ks⟩=some ⟨eW (wk2 n ks a l),bx n ks⟩) ∧
  (∀ n ks a l b,Cc prog wkT g D ⟨eW (wk3 n ks a l b),bx n ks⟩=some ⟨eW (wk4 n ks a l b),bx n ks⟩) ∧
  (∀ L,Cc prog wkT u u.toList ⟨eW L,[]⟩=some ⟨(eW L).set 6 (.pv (.bool false)),[]⟩) ∧
  (∀ n ks a l,Cc prog wkT r r.toList ⟨eW (wk4 n ks a l true),bx n ks⟩=some ⟨eW (wk5 n ks a l),bx n ks⟩) ∧
  (∀ ks a l i,Cc prog wkT z z.toList ⟨eW (wl0 ks a l i),[]⟩=some ⟨eW (wl1 ks a l i),[]⟩) ∧
  (∀ ks a l (i:Nat) n e,ks[i]? = some (.mk n e)->Cc prog wkT s s.toList ⟨eW (wl1 ks a l i),[]⟩=some ⟨eW (wl5 ks a l i n e),bx n e⟩) ∧
  (∀ ks a l i n e,Cc prog wkT j F ⟨eW (wl5 ks a l i n e),bx n e⟩=some ⟨eW (wl6 ks a l i n e),bx n e⟩) ∧
  (∀ ks a l i b,Cc prog wkT j E ⟨eW (wl7 ks a l i b),[]⟩=some ⟨eW (wl8 ks a l i b),[]⟩) ∧
  (∀ L,Cc prog wkT q q.toList ⟨eW L,[]⟩=some ⟨(eW L).set 6 (.pv (.bool false)),[]⟩) ∧
  (∀ ks a l i,Cc prog wkT C C.toList ⟨eW (wl0 ks a l i),[]⟩=some ⟨eW (wl9 ks a l i),[]⟩) ∧
  (∀ L,Cc prog wkT B B.toList ⟨eW L,[]⟩=some ⟨(eW L).set 6 (.pv (.bool true)),[]⟩):=by
 refine⟨_,_,_,_,_,_,_,_,_,_,[_,_,_],[_],[_,_,_,_],[_],_,_,_,_,rfl,rfl,rfl,rfl,rfl,rfl,rfl,rfl,rfl,?_,?_,?_,?_,?_,?_,?_,?_,?_,?_,?_,?_⟩
 ·intro n ks a l;kernel_rfl
 ·intro n ks a l;kernel_rfl
 ·intro n ks a l b;kernel_rfl
 ·intro L;kernel_rfl
 ·intro n ks a l;kernel_rfl
 ·intro ks a l i;kernel_rfl
 ·intro ks a l i n e h;unfold Cc;refine(Option.bind_eq_some_iff).2 ⟨_,(show WS _ _ _ _=some [⟨some 19,.iaddr 10 (.t 15) (.t 17),0,none⟩,⟨some 20,.load true [.int .i64,.int .i64,.str,.int .i64,.str,.sl 1,.sl 1,.sl 2,.sl 1,.sl 10] (.t 19),0,none⟩,⟨some 8,.alloc (.agg [.int .i64 0,.int .i64 0,.str [],.int .i64 0,.str [],.sl 0 true [],.sl 0 true [],.sl 0 true [],.sl 0 true [],.sl 0 true []]),0,none⟩,⟨none,.store 10 (.t 8) (.t 20),1,none⟩] by kernel_rfl),?_⟩;have J:(ks.map (enc:Tm->PV))[i]? = some (.agg (ndC n e)):=by rw[aj,h,Option.map_some,YB];rfl
  refine(c6l (t:=false) (xs:=ks.map enc) (k:=.i64) (n:=i) rfl rfl J).trans ?_;kernel_rfl
 ·intro ks a l i n e;kernel_rfl
 ·intro ks a l i b;kernel_rfl
 ·intro L;kernel_rfl
 ·intro ks a l i;kernel_rfl
 ·intro L;kernel_rfl
def encNd(x:Tm×Int):List PV:=[enc x.1,.int .i64 x.2]
def c9v(J:Nat->Yk->(Nat->Prop)->World->Prop)(a:Yk->(Nat->Prop)->World->Prop)(k:Nat)(Φ:Yk)(X:Nat->Prop)(W:World)(e:Ending)(W':World):Prop:=∃ Φ',Φ.le Φ'∧(∀ b,X b->W'.heap[b]? = W.heap[b]?)∧((e = .returned (.bool true)∧J k Φ' X W')∨(e = .returned (.bool false)∧a Φ' X W'))
def CF(a b:List Tm):Yc (a++b)=Yc a+Yc b:=by rw[RN,RN,RN,aF,List.sum_append]
def c1f(l:Nat)(a b:List Tm):Z4 l (a++b)=Z4 l a++Z4 l b:=by rw[Ce,Ce,Ce,aJ]
def c8x{ks:List Tm}{k:Tm}(h:k∈ks):Yh k<=Yc ks:=by
 induction ks with
 | nil=>cases h
 | cons a ks ih=>
  rw[Yc];rcases IU.1 h with rfl|h
  ·omega
  ·have:=ih h;omega
def e4h(t:Tm):1<=Yh t:=by cases t;rw[Yh];omega
def d0z(ks:List Tm):ks.length<=Yc ks:=by
 induction ks with
 | nil=>simp
 | cons a ks ih=>have:=e4h a;rw[Yc,Ic];omega
def NZ(n:Nd)(ks:List Tm):d1g (bx n ks):=by
 intro l o h ty sz xs e;subst e
 match l,h with
 | 0,h=>cases h
 | l+1,h=>simp[bx]at h
def G8:d1g []:=by intro l o h;simp at h
def C9{Φ:Yk}{W:World}{a:Act}{env:List AV}(e:GlobOK Φ)(g:UL Φ W)(b:Wy (λ_ _=>none) Φ a.tmps env)(hd:a.defers=[]):UK (Y7 (λ_ _=>none) Φ [] W) ⟨env,[]⟩ a W:=⟨_,Φ,Cg e g,b,hd⟩
def Ka{μ':Mu}{Φ Φ':Yk}{a:ZC}{W W':World}{X:Nat->Prop}(g:Go.Pl.Good (Y7 (λ_ _=>none) Φ [] W) μ' Φ' a W')(hs:d1g a)(e : ∀ b,X b->b<W.heap.size∧Φ b=none):
  Go.Pl.Steps X X Φ Φ' W W'∧(∀ b,X b->W'.heap[b]? = W.heap[b]?):=by
 obtain⟨h1,h2,h3⟩:=a8a g hs e;exact⟨h1.drop λb h=>.inl h,h2⟩
def Cv{μ:Mu}{Φ:Yk}{a:Act}{env:List AV}{x:Operand}{y:IOp}{b:Bool}(h:Wy μ Φ a.tmps env)(g:Y4 x=some y)(e:ev env y = .pv (.bool b)):a.eval x = .bool b:=by have:=Yn h g;rw[e]at this;generalize a.eval x=v at this ⊢;cases Y6 this;rfl
def i4h{μ:Mu}{Φ:Yk}{a:Act}{env:List AV}{x:Operand}{y:IOp}{k:IntKind}{n:Int}(h:Wy μ Φ a.tmps env)(e:Y4 x=some y)(b:ev env y = .pv (.int k n)):a.eval x = .int k n:=by have:=Yn h e;rw[b]at this;generalize a.eval x=v at this ⊢;cases Y6 this;rfl
def c7o{μ:Mu}{Φ:Yk}{a:Act}{env:List AV}{x:Operand}{y:IOp}{l:Nat}(h:Wy μ Φ a.tmps env)(e:Y4 x=some y)(b:ev env y = .yld l):a.eval x = .func (.yield l) #[] #[]:=by have:=Yn h e;rw[b]at this;generalize a.eval x=v at this ⊢;cases this;rfl
def d6i{μ:Mu}{Φ:Yk}{a:Act}{env:List AV}{x:Operand}{y:IOp}{p:PV}(h:Wy μ Φ a.tmps env)(e:Y4 x=some y)(b:ev env y = .pv p):RP Φ (a.eval x) p:=by have:=Yn h e;rw[b]at this;exact Y6 this
def i7d{id:Nat}{ops:Array Oper}{b:Bool}{Q:X9}{a:Act}{w:World}{Φ:Yk}{X:Nat->Prop}{J:Yk->(Nat->Prop)->World->Prop}(e:JOK J)(g:J Φ X w)(hd:a.defers=[])(i:a.tmps.size=28)
  (h : ∀ L,Cc prog wkT ops ops.toList ⟨eW L,[]⟩=some ⟨(eW L).set 6 (.pv (.bool b)),[]⟩)
  (q : ∀ (a':Act) w' Φ',a'.defers=[]->a'.tmps.getD 6 undef = .bool b->Φ.le Φ'->(∀ b,X b->w'.heap[b]? = w.heap[b]?)->J Φ' X w'->Q .ret a' w'):((IL id ops false).seq .ret).wpIn (XR none) 4 prog Q a w:=by
 refine wpIn_seq (FO Zd (h []) (C9 (e.glob g) (e.phi g) (b1l (L:=[]) (n:=28) i (λp j=>by cases j)) hd) ?_);rintro a' w' ⟨μ',Φ',hg,he,hd'⟩;refine wpIn_ret ?_;obtain⟨k,l⟩:=Ka hg G8 (λb hb=>e.out g hb);exact q a' w' Φ' hd' (Cv (x:=.tmp 6) (y:=.t 6) he rfl (by cases b <;> kernel_rfl)) hg.Φle l (e.step g k)
def i9z{Φ:Yk}{v:Value}{n:Nd}{ks:List Tm}{lev:Nat}{l:Nat}(b:RP Φ v (.agg (ndC n ks))):Wy (λ_ _=>none) Φ (#[v,.int .i64 lev,.func (.yield l) #[] #[]]++aU 25 undef) (eW (wk0 n ks lev l)):=by
 refine b1l (by simp) ?_;intro q a u hu;simp only[wk0,IU,IY,gI]at a;rcases a with rfl|rfl|rfl
 ·simp[IR]at hu;subst hu;exact .pv _ _ b
 ·simp[IR]at hu;subst hu;exact .pv _ _ (.int _ _)
 ·simp[IR]at hu;subst hu;exact .yld l
def d1i{μ:Mu}{Φ:Yk}{t:Array Value}{L:List (Nat×AV)}(h:Wy μ Φ t (eW L)):t.size=28:=(f2f (n:=28) h).1
set_option maxHeartbeats 4000000 in
def h6f{l:Nat}{J:Nat->Yk->(Nat->Prop)->World->Prop}{Jx:Yk->(Nat->Prop)->World->Prop}{xs:List (Tm×Int)}(g : ∀ k,JOK (J k))(r:JOK Jx)(hY:d9y prog l encNd xs J Jx):
  ∀ (m:Nat) (t:Tm),SizeOf.sizeOf t<m-> ∀ (lev k:Nat) (Φ:Yk) (X:Nat->Prop) (W:World) (v:Value),J k Φ X W->RP Φ v (enc t)->(∀ i x,(Z8 lev t)[i]? = some x->xs[k+i]? = some x)->lev+Yh t<=4611686018427387904 ->
   Calls prog 71 #[v,.int .i64 lev,.func (.yield l) #[] #[]] W (c9v J Jx (k+Yh t) Φ X W):=by
 intro m
 induction m with
 | zero=>intro t h;omega
 | succ m ih=>
  intro t ht lev k Φ X W v O hv hx hlev;obtain⟨n,ks⟩:=t;obtain⟨o0,o1,o2,o3,o4,o5,o6,o7,o8,o9,a1,b1,a6,b6,y,c,t1,t2,hbody,e1,y1,y2,y3,e6,c1,c2,c3,h0,h1,h1b,h2,h3,h4,h5,h6,h6b,h7,h8,h9⟩:=i6i;rw[YB]at hv;refine callsIn_wide.1 (callsIn_of_wp (F:=Fence.wide) (n:=4) func71 hbody trivial ?_ rfl);have hE0:Wy (λ_ _=>none) Φ (#[v,.int .i64 lev,.func (.yield l) #[] #[]]++aU 25 undef) (eW (wk0 n ks lev l)):=i9z hv;have hX0 : ∀ b,X b->b<W.heap.size∧Φ b=none:=λb hb=>(g k).out O hb
  refine wpIn_seq (FO (nn:=4) Zd (h0 n ks lev l) (C9 ((g k).glob O) ((g k).phi O) hE0 rfl) ?_);intro a w hr;refine wpIn_seq (wpIn_seq (wpIn_region_list ?_));rw[e1];refine RJ Zd (λo ho=>by rw[e1];simp[ho]) (h1 n ks lev l) hr ?_;rintro a2 w2 ⟨μ2,Φ2,hg2,he2,hd2⟩;obtain⟨s2,k2,n2⟩:=a8a hg2 (NZ n ks) hX0;have hj2:=(g k).step O s2;have hx0:xs[k]? = some (.mk n ks,(lev:Int)):=hx 0 _ (by rw[Z8];rfl);have r10:RP Φ2 (a2.eval (.tmp 10)) (enc (Tm.mk n ks)):=by rw[YB];exact d6i he2 (y:=.t 10) rfl (by kernel_rfl)
  have r11:RP Φ2 (a2.eval (.tmp 11)) (.int .i64 lev):=d6i he2 (y:=.t 11) rfl (by kernel_rfl);have hvs:Un Φ2 (#[a2.eval (.tmp 10),a2.eval (.tmp 11)]:Array Value).toList (encNd (.mk n ks,(lev:Int))):=i4y r10 (i4y r11 e2f);refine f6u y1 y2 y3 (c7o he2 (y:=.t 9) rfl (by kernel_rfl)) (vs:=#[a2.eval (.tmp 10),a2.eval (.tmp 11)]) (by simp) (hY 3 k _ Φ2 _ w2 _ hx0 hj2 hvs) ?_;rintro e w3 ⟨Φ3,hle3,hkeep3,hres⟩
  have H : ∀ (b:Bool) (JJ:Yk->(Nat->Prop)->World->Prop),JOK JJ->JJ Φ3 (λb=>X b∨LC μ2 (bx n ks) b) w3-> 
    UK (Y7 μ2 Φ3 (bx n ks) w3) ⟨eW (wk3 n ks lev l b),bx n ks⟩ (a2.put (some 12) (.bool b)) w3:=by
   intro b JJ hJJ hjj;refine⟨μ2,Φ3,hg2.moved (hJJ.glob hjj) hle3 (hJJ.phi hjj) (λq hq=>hkeep3 q (.inr hq)) (λq hq=>(hJJ.out hjj (.inr hq)).2) (NZ n ks),?_,by rw[Uq];exact hd2⟩
   have:=Ct (d:=some 12) (he2.mono (.refl _) hle3) (.pv _ _ (.bool b));exact this
  have fin : ∀ (b:Bool) (a':Act) (w':World) (Φ':Yk),a'.defers=[]->a'.tmps.getD 6 undef = .bool b->(c9v J Jx (k+Yh (.mk n ks)) Φ X W (.returned (.bool b)) w')->bodyPost prog f71 (c9v J Jx (k+Yh (.mk n ks)) Φ X W) .ret a' w':=by intro b a' w' Φ' hd h6 I;refine bodyPost_ret (results_tmp rfl _ _ _) hd ?_;rw[h6];exact I
  rcases hres with ⟨rfl,C⟩|⟨rfl,C⟩
  ·refine⟨_,rfl,?_⟩;rw[<- IQ b1];refine RJ Zd (λo ho=>by rw[e1];simp[ho]) (h1b n ks lev l true) (H true _ (g _) C) ?_;intro a4 w4 hr4;have B:=hr4;obtain⟨μ4,Φ4,hg4,B,hd4⟩:=B;refine wpIn_cond (t:=false) (Cv (x:=.tmp 13) (y:=.t 13) B rfl (by kernel_rfl)) (wpIn_skip ?_);refine wpIn_seq (wpIn_seq (FO (nn:=4) Zd (h3 n ks lev l) hr4 ?_));rintro a5 w5 ⟨μ5,Φ5,hg5,he5,hd5⟩;have hX3 : ∀ b,X b->b<w3.heap.size∧Φ3 b=none:=λb hb=>(g _).out C (.inl hb)
   obtain⟨s5,k5⟩:=La hg5 (NZ n ks) hX3 n2;have hj5:=(g _).step C (s5.drop (Y:=X) λb h=>.inl h);have hk5 : ∀ b,X b->w5.heap[b]? = W.heap[b]? :=λb hb=>(k5 b hb).trans ((hkeep3 b (.inl hb)).trans (k2 b hb))
   have U:Φ.le Φ5:=hg2.Φle.trans (hle3.trans hg5.Φle)
   have S:Wy (λ_ _=>none) Φ5 a5.tmps (eW (wl0 ks lev l 0)):=g9t (n:=28) he5 (.refl _) (by
    intro p I;simp only[wl0,IU,IY,gI]at I
    rcases I with rfl|rfl|rfl|rfl|rfl <;> exact⟨by simp,rfl,rfl⟩)
   clear H hr4 hg4 B hd4 hE0 hr hg2 he2 hd2 r10 r11 hvs
   refine wpIn_block (wpIn_loop_ghost (λ(z:Nat) (a:Act) (w:World)=> ∃ (i:Nat) (Φ':Yk),z=ks.length - i∧i<=ks.length∧Φ.le Φ'∧(∀ b,X b->w.heap[b]? = W.heap[b]?)∧J (k+1+Yc (ks.take i)) Φ' X w∧Wy (λ_ _=>none) Φ' a.tmps (eW (wl0 ks lev l i))∧a.defers=[]) _
    ⟨0,Φ5,rfl,Nat.zero_le _,U,hk5,hj5,S,hd5⟩ ?_)
   clear hj5 hk5 U S hd5 s5 k5 hg5 he5;rintro z a w ⟨i,Φi,rfl,hi,hle,hk,O,he,hd⟩;have hXi : ∀ b,X b->b<w.heap.size∧Φi b=none:=λb hb=>(g _).out O hb
   refine wpIn_seq (FO (nn:=4) Zd (h4 ks lev l i) (C9 ((g _).glob O) ((g _).phi O) he hd) ?_);intro a7 w7 hr7;have hr7':=hr7;obtain⟨μ7,Φ7,hg7,he7,hd7⟩:=hr7';by_cases hlt:i<ks.length
   ·have hb:decide ((i:Int)<((ks.map (enc:Tm->PV)).length:Int)):=by simpa using hlt
    refine wpIn_seq (wpIn_cond (t:=true) (Cv (x:=.tmp 18) (y:=.t 18) he7 rfl (by rw[<- hb];kernel_rfl)) (wpIn_skip ?_));obtain⟨E,D,P⟩ : ∃ E D,ks[i]? = some (.mk E D):=by
     cases hki:ks[i]with
     | mk E D=>exact⟨E,D,by rw[aQ hlt,hki]⟩
    refine wpIn_seq (wpIn_block (wpIn_seq (FO (nn:=4) Zd (h5 ks lev l i E D P) hr7 ?_)));intro a8 w8 hr8;refine wpIn_seq (wpIn_region_list ?_);rw[e6];refine RJ Zd (λo ho=>by rw[e6];simp[ho]) (h6 ks lev l i E D) hr8 ?_;rintro a9 w9 ⟨μ9,Φ9,hg9,he9,hd9⟩;obtain⟨s9,k9⟩:=Ka hg9 (NZ E D) hXi;have hj9:=(g _).step O s9;have Q:Tm.mk E D∈ks:=aH P;have hsz:=i4q (n:=n) Q;have hdm:=c8x Q;have hdp:Yh (.mk n ks)=Yc ks+1:=by rw[Yh]
    have hkl:=d0z ks;have V:ks=ks.take i++(.mk E D)::ks.drop (i+1):=by have h:=IM.1 P;obtain⟨h1,h2⟩:=h;rw[<- h2,List.getElem_cons_drop,List.take_append_drop]
    have r21:RP Φ9 (a9.eval (.tmp 21)) (enc (Tm.mk E D)):=by rw[YB];exact d6i he9 (y:=.t 21) rfl (by kernel_rfl)
    have e23:a9.eval (.tmp 23) = .int .i64 ((lev+1:Nat):Int):=by have:=i4h (x:=.tmp 23) (y:=.t 23) he9 rfl (by kernel_rfl:_=AV.pv (.int .i64 (Ip.wrap ((lev:Int)+1))));rw[this,next (by omega)]
    have e24:a9.eval (.tmp 24) = .func (.yield l) #[] #[]:=c7o he9 (y:=.t 24) rfl (by kernel_rfl);have hxk : ∀ j x,(Z8 (lev+1) (.mk E D))[j]? = some x->xs[k+1+Yc (ks.take i)+j]? = some x:=by
     intro j x hjx;have:(Z8 lev (.mk n ks))[1+Yc (ks.take i)+j]? = some x:=by
      rw[Z8,show 1+Yc (ks.take i)+j=(Yc (ks.take i)+j)+1 by omega,List.getElem?_cons_succ,V,c1f,Z4,<- V,<- R6 (lev+1) (ks.take i),
       List.getElem?_append_right (by omega),Nat.add_sub_cancel_left,List.getElem?_append_left (IM.1 hjx).1,hjx]
     have:=hx _ _ this;rw[<- this];congr 1;omega
    have hcall:=ih (.mk E D) (by omega) (lev+1) (k+1+Yc (ks.take i)) Φ9 X w9 _ hj9 r21 hxk (by omega);refine b8w c1 c2 c3 func71 rfl (by kernel_rfl) (vs:=#[a9.eval (.tmp 21),.int .i64 ((lev+1:Nat):Int),.func (.yield l) #[] #[]]) (by simp only[az,aZ,ae,e23,e24]) hcall ?_;rintro e w10 ⟨Φ10,hle10,hkeep10,hres⟩;have hks : ∀ b,X b->w10.heap[b]? = W.heap[b]? :=λb hb=>(hkeep10 b hb).trans ((k9 b hb).trans (hk b hb))
    have T : ∀ b,Wy (λ_ _=>none) Φ10 (a9.put (some 25) (.bool b)).tmps (eW (wl7 ks lev l i b)):=by intro b;have h:=Ct (d:=some 25) (he9.mono (.refl _) hle10) (.pv _ _ (.bool b));refine g9t (n:=28) (L:=wl6 ks lev l i E D++[(25,.pv (.bool b))]) h (.refl _) ?_;intro p I;simp only[wl7,wl0,IU,List.mem_append,IY,gI]at I;rcases I with (rfl|rfl|rfl|rfl|rfl)|rfl <;> exact⟨by simp,rfl,rfl⟩
    have Z:ks.take (i+1)=ks.take i++[.mk E D]:=by rw[I9,P];rfl
    rcases hres with ⟨rfl,s⟩|⟨rfl,s⟩
    ·refine⟨_,rfl,?_⟩;rw[<- IQ b6];refine RJ Zd (λo ho=>by rw[e6];simp[ho]) (h6b ks lev l i true) (C9 ((g _).glob s) ((g _).phi s) (T true) (by rw[Uq];exact hd9)) ?_;intro a11 w11 hr11;obtain⟨μ11,Φ11,hg11,he11,hd11⟩:=hr11;obtain⟨s11,k11⟩:=Ka hg11 G8 (λb hb=>(g _).out s hb);have u:=(g _).step s s11;refine wpIn_cond (t:=false) (Cv (x:=.tmp 26) (y:=.t 26) he11 rfl (by kernel_rfl)) (wpIn_skip ?_)
     have he11':Wy (λ_ _=>none) Φ11 a11.tmps (eW (wl0 ks lev l i)):=g9t (n:=28) he11 (.refl _) (by
      intro p I;simp only[wl0,IU,IY,gI]at I
      rcases I with rfl|rfl|rfl|rfl|rfl <;> exact⟨by simp,rfl,rfl⟩)
     refine FO (nn:=4) Zd (h8 ks lev l i) (C9 ((g _).glob u) ((g _).phi u) he11' hd11) ?_;rintro a12 w12 ⟨μ12,Φ12,hg12,he12,hd12⟩;obtain⟨s12,k12⟩:=Ka hg12 G8 (λb hb=>(g _).out u hb);have hj12:=(g _).step u s12;refine⟨ks.length - (i+1),by omega,i+1,Φ12,rfl,hlt,hle.trans (hg9.Φle.trans (hle10.trans (hg11.Φle.trans hg12.Φle))),λb hb=>(k12 b hb).trans ((k11 b hb).trans (hks b hb)),?_,?_,hd12⟩
     ·rw[Z,CF,Yc,Yc,Nat.add_zero,<- Nat.add_assoc];exact hj12
     ·refine g9t (n:=28) he12 (.refl _) ?_;intro p I;simp only[wl0,IU,IY,gI]at I;rcases I with rfl|rfl|rfl|rfl|rfl
      ·exact⟨by simp,by rw[<- next (show i<9223372036854775807 by omega)];rfl,rfl⟩
      all_goals exact⟨by simp,rfl,rfl⟩
    ·refine⟨_,rfl,?_⟩;rw[<- IQ b6];refine RJ Zd (λo ho=>by rw[e6];simp[ho]) (h6b ks lev l i false) (C9 (r.glob s) (r.phi s) (T false) (by rw[Uq];exact hd9)) ?_;rintro a11 w11 ⟨μ11,Φ11,hg11,he11,hd11⟩;obtain⟨s11,k11⟩:=Ka hg11 G8 (λb hb=>r.out s hb);have u:=r.step s s11;refine wpIn_cond (t:=true) (Cv (x:=.tmp 26) (y:=.t 26) he11 rfl (by kernel_rfl)) ?_;refine i7d r u hd11 (d1i he11) h7 ?_;intro a' w' Φ' hd' K A M N;refine fin false a' w' Φ' hd' K ⟨Φ',?_,λb hb=>(M b hb).trans ((k11 b hb).trans (hks b hb)),.inr ⟨rfl,N⟩⟩;exact hle.trans (hg9.Φle.trans (hle10.trans (hg11.Φle.trans A)))
   ·have hb:decide ((i:Int)<((ks.map (enc:Tm->PV)).length:Int))=false:=by simpa using hlt
    refine wpIn_seq (wpIn_cond (t:=false) (Cv (x:=.tmp 18) (y:=.t 18) he7 rfl (by rw[<- hb];kernel_rfl)) (wpIn_exit ?_));obtain⟨s7,k7⟩:=Ka hg7 G8 hXi;have hj7:=(g _).step O s7;have hii:i=ks.length:=by omega
    subst hii;rw[bA]at hj7;show((IL 9 o9 false).seq .ret).wpIn _ _ _ _ _ _;refine i7d (g _) hj7 hd7 (d1i he7) h9 ?_;intro a' w' Φ' hd' K A M N;refine fin true a' w' Φ' hd' K ⟨Φ',hle.trans (hg7.Φle.trans A),λb hb=>(M b hb).trans ((k7 b hb).trans (hk b hb)),.inl ⟨rfl,?_⟩⟩;rw[Yh,show k+(Yc ks+1)=k+1+Yc ks by omega];exact N
  ·refine⟨_,rfl,?_⟩;rw[<- IQ b1];refine RJ Zd (λo ho=>by rw[e1];simp[ho]) (h1b n ks lev l false) (H false _ r C) ?_;rintro a4 w4 ⟨μ4,Φ4,hg4,B,hd4⟩;refine wpIn_cond (t:=true) (Cv (x:=.tmp 13) (y:=.t 13) B rfl (by kernel_rfl)) ?_;obtain⟨s4,k4⟩:=La hg4 (NZ n ks) (λb hb=>r.out C (.inl hb)) n2;have hj4:=r.step C (s4.drop (Y:=X) λb h=>.inl h);refine i7d r hj4 hd4 (d1i B) h2 ?_;intro a' w' Φ' hd' K A M N;exact fin false a' w' Φ' hd' K ⟨Φ',hg2.Φle.trans (hle3.trans (hg4.Φle.trans A)),λb hb=>(M b hb).trans ((k4 b hb).trans ((hkeep3 b (.inl hb)).trans (k2 b hb))),.inr ⟨rfl,N⟩⟩
def j1c(a:List (List PV)):Tm:=match a with
 | [ps]=>dec (.agg ps)
 | _=>.mk Hw []
noncomputable def pre_ndI(a:List (List PV)):Bool:=match a with
 | [ps]=>can Tm (.agg ps)&&decide (Yh (dec (.agg ps))<=1048576)
 | _=>false
def F_ndI(a:List (List PV)):List (Tm×Int):=Z8 1 (j1c a)
def tmOf_nd(n:Nd)(ks:List Tm):j1c [ndC n ks] = .mk n ks:=by show dec (PV.agg (ndC n ks))=_;rw[show(PV.agg (ndC n ks))=enc (Tm.mk n ks)from(YB n ks).symm,Enc.dec_enc]
def pre_nd{n:Nd}{ks:List Tm}(h:Yh (.mk n ks)<=1048576):pre_ndI [ndC n ks]:=by show(can Tm (.agg (ndC n ks))&&decide (Yh (dec (PV.agg (ndC n ks)))<=1048576))=true;rw[show(PV.agg (ndC n ks))=enc (Tm.mk n ks)from(YB n ks).symm,Enc.dec_enc,Gm,IE];exact eY h
def i4n: ∃ (o:Array Oper) (a:List Oper) (c:Oper) (t:Array TypeId),Tryz.f70.body=some (.region 0 o false)∧o.toList=a++[c] ∧
  c.op = .call {callee:=.value (.func 71),args:=#[.tmp 3,.const (.int .i64 1),.tmp 4],argTypes:=t}∧c.guard=none∧c.dst=some 5 ∧
  ∀ n ks l,Cc prog wkT o a ⟨X5 6 0 [(0,.yld l),(1,.pv (.rptr (ndC n ks)))],[]⟩=some ⟨X5 6 0 [(0,.yld l),(1,.pv (.rptr (ndC n ks))),(3,.pv (.agg (ndC n ks))),(4,.yld l)],[]⟩:=by
 refine⟨_,[_,_],_,_,rfl,rfl,rfl,rfl,rfl,?_⟩;intro n ks l;kernel_rfl
set_option maxHeartbeats 1000000 in
def b9u:g1c prog 70 encNd pre_ndI F_ndI:=by
 refine⟨⟨_,func70,rfl,rfl⟩,?_⟩;intro pss g Φ0 I l J O W k j A L H;unfold pre_ndI at g;split at g
 ·rename_i ps;simp only[Ik,fu]at g;obtain⟨hc,E⟩:=g;obtain⟨t,ht⟩:=RH hc;obtain⟨n,ks⟩:=t;rw[ht,Enc.dec_enc]at E;rw[YB]at ht;obtain rfl:ps=ndC n ks:=by injection ht
  have S:F_ndI [ndC n ks]=Z8 1 (.mk n ks):=by unfold F_ndI;rw[tmOf_nd]
  rw[S]at L ⊢;obtain⟨I⟩:=I
  match I,k.1 with
  | [p1],_=>
   obtain⟨B1,M,rfl,g1,r1,o1⟩:=k.2 0 p1 _ rfl rfl;have k1:=e5t g1 r1 o1;obtain⟨o,a,c,t,s,N,M,Y,c3,D⟩:=i4n;refine callsIn_wide.1 (callsIn_of_wp (F:=Fence.wide) (n:=4) func70 s trivial ?_ rfl);have Q:Wy (λ_ _=>none) Φ0 ((#[Value.func (.yield l) #[] #[]]++ #[Value.pointer (some ⟨B1,0,none⟩)])++aU 4 undef) (X5 6 0 [(0,.yld l),(1,.pv (.rptr (ndC n ks)))]):=by
    refine b1l (by simp) ?_;intro q P u hu;simp only[IU,IY,gI]at P;rcases P with rfl|rfl
    ·simp[IR]at hu;subst hu;exact .yld l
    ·simp[IR]at hu;subst hu;exact .pv _ _ k1
   refine wpIn_region_list ?_;rw[N];refine RJ (nn:=4) Zd (λx Z=>by rw[N];simp[Z]) (D n ks l) (C9 ((j 0).glob H) ((j 0).phi H) Q rfl) ?_;rintro B w2 ⟨μ2,Φ2,hg2,he2,hd2⟩;obtain⟨s2,k2⟩:=Ka (X:=λ_=>False) hg2 G8 (λb hb=>hb.elim);have C:=(j _).step H s2;have T:RP Φ2 (B.eval (.tmp 3)) (enc (Tm.mk n ks)):=by rw[YB];exact d6i he2 (y:=.t 3) rfl (by kernel_rfl)
   have U:B.eval (.tmp 4) = .func (.yield l) #[] #[]:=c7o he2 (y:=.t 4) rfl (by kernel_rfl);have z:=h6f j A L (SizeOf.sizeOf (Tm.mk n ks)+1) (.mk n ks) (Nat.lt_succ_self _) 1 0 Φ2 _ w2 _ C T (λi x h=>by rw[aI];exact h) (by omega);refine b8w M Y c3 func71 rfl (by kernel_rfl) (vs:=#[B.eval (.tmp 3),.int .i64 ((1:Nat):Int),.func (.yield l) #[] #[]]) (by simp only[az,aZ,ae,U];rfl) z ?_;rintro e K ⟨Φ3,hle3,hkeep3,hres⟩;have fin : ∀ v,(∃ Φ' X',J (Z8 1 (.mk n ks)).length Φ' X' K∨O Φ' X' K)->wpListIn (XR none) 4 prog o (bodyPost prog f70 λe W'=>(∃ v,e = .returned v)∧ ∃ Φ' X',(J (Z8 1 (.mk n ks)).length Φ' X' W'∨O Φ' X' W')) [] (B.put (some 5) v) K:=by intro v V;exact⟨by rw[Uq];exact hd2,_,results_none rfl _ _ _,⟨_,rfl⟩,V⟩
   rcases hres with ⟨rfl,r⟩|⟨rfl,r⟩
   ·refine⟨_,rfl,fin _ ⟨Φ3,λ_=>False,.inl ?_⟩⟩;rw[Dx,<- aI (Yh _)];exact r
   ·exact⟨_,rfl,fin _ ⟨Φ3,_,.inr r⟩⟩
 ·cases g
end Go.Proofs.YtbpdlcdciffpjaaGreatDoor
namespace Go.Pl
open Go.RowKit
open Enc (enc dec is)
open EncL (encL decL isL)
open Go.Proofs.YtbpdlcdciffpjaaGreatDoor (encNd pre_ndI F_ndI tmOf_nd pre_nd)
def f3i: ∀ args os,SX args os->Zh d3g os.length (Z9 os.length b5d λr=>r=b6e 70 args os) b1h [] (Yr h1k args os):=by
 intro args os h;unfold SX at h;split at h
 ·obtain⟨⟨n,ks⟩,rfl⟩:=RH h;rw[YB];exact i6z n ks rfl
 ·cases h
def tvI(t:Tm)(k:Nat)(σ:ZC):Prop:=(∀ j p,j<k->(Z8 1 t)[j]? = some p->okN j p=true)∧k<=400∧σ=[.obj (.box [.pv (.bool false)]),.obj (.box [.pv (.int .i64 k)])]
def tvX(t:Tm)(σ:ZC):Prop:=XB t=false∧ ∃ (c:Int) (r:List Slot),σ = .obj (.box [.pv (.bool false)]):: .obj (.box [.pv (.int .i64 c)])::r
def tvE:U1:=λn st q=>n=0∧d2f TA 0 (.t 7) 70 [8,9] a1y a4d encNd pre_ndI F_ndI st q
def tvM(t:Tm)(k:Nat)(x:Tm×Int)(st:St):Prop:=(∀ j p,j<k->(Z8 1 t)[j]? = some p->okN j p=true)∧k<=400 ∧
 st=⟨X5 23 0 [(2,.ptr 0 0),(3,.ptr 1 0),(4,.ptr 2 0),(5,.pv (.int .i64 x.2))],[.obj (.box [.pv (.bool false)]),.obj (.box [.pv (.int .i64 k)]),.obj (.box ((Go.Proofs.YtbpdlcdciffpjaaGreatDoor.ndC x.1.nd x.1.ks).map .pv))]⟩
def h0v: ∀ x:Tm×Unit,gW x.1->TE TA tvE 0 (Za TP (Ze (XB x.1))) FB [] (Z7 i6d (encL x)):=by
 rintro⟨t,⟨⟩⟩ ht;have ht:gW t:=ht;obtain⟨n,ks⟩:=t;rw[<- Xo];show TE TA tvE 0 (Za TP (Ze (XB (.mk n ks)))) _ _ _;have z:Yh (.mk n ks)<=1048576:=ED ht;have B:F_ndI [Go.Proofs.YtbpdlcdciffpjaaGreatDoor.ndC n ks]=Z8 1 (.mk n ks):=by unfold F_ndI;rw[tmOf_nd]
 refine j3x tvE n ks ⟨?_,rfl,[2],[Go.Proofs.YtbpdlcdciffpjaaGreatDoor.ndC n ks],[2,3],[2,3,4,5],[],⟨X5 23 0 [(2,.ptr 0 0),(3,.ptr 1 0)],[.obj (.box [.pv (.bool false)]),.obj (.box [.pv (.int .i64 0)])]⟩,tvI (.mk n ks),tvX (.mk n ks),tvM (.mk n ks),
  rfl,by simp,rfl,?_,by kernel_rfl,pre_nd z,⟨λj p q=>by omega,by omega,rfl⟩,?_,?_,?_,?_⟩
 ·show can Tm (PV.agg (Go.Proofs.YtbpdlcdciffpjaaGreatDoor.ndC n ks));rw[show(PV.agg (Go.Proofs.YtbpdlcdciffpjaaGreatDoor.ndC n ks))=enc (Tm.mk n ks)from(YB n ks).symm,Gm]
 ·intro j l ps A hps
  match j with
  | 0=>cases A;cases hps;rfl
  | j+1=>simp at A
 ·rintro k ⟨⟨g,b⟩,v⟩ σ hx ⟨a,s,rfl⟩;have e:a1g [8,9] ((encNd (.mk g b,v)).map .pv) (X5 23 0 [(2,.ptr 0 0),(3,.ptr 1 0)])=X5 23 0 [(2,.ptr 0 0),(3,.ptr 1 0),(8,.pv (.agg (Go.Proofs.YtbpdlcdciffpjaaGreatDoor.ndC g b))),(9,.pv (.int .i64 v))]:=by show a1g [8,9] (([enc (Tm.mk g b),.int .i64 v]).map .pv) _=_;rw[YB];kernel_rfl
  rw[e];exact i2o (G:=λ_=>False) _ g b k v ⟨rfl,a,s,rfl⟩
 ·rintro k ⟨⟨g,b⟩,v⟩ st hx ⟨a,s,rfl⟩;rw[B]at hx;have u:=λh=>g2h (.mk n ks) hx h
  have y:nW (.mk g b):=g7m (p:=(.mk g b,v)) ht (aH hx);have D:Ip.wrap ((k:Int)+1)=((k+1:Nat):Int):=next (by omega)
  refine i0l (G:=tvX (.mk n ks)) _ g b k v ?_;rw[D];have bad:okN k (.mk g b,v)=false-> ∀ r,tvX (.mk n ks) (.obj (.box [.pv (.bool false)]):: .obj (.box [.pv (.int .i64 ((k+1:Nat):Int))])::r):=λh r=>⟨u h,_,r,rfl⟩
  refine YH (λh1=>bad ?_ _) λh1=>YH (λh2=>bad ?_ _) λh2=>⟨Zb (.mk g b,()) (Xo g b) y,Zc (.mk g b,()) (Xo g b) (Xj (λh3=>bad ?_ _) λh3=>⟨rfl,⟨X5 23 0 [(2,.ptr 0 0),(3,.ptr 1 0)],[.obj (.box [.pv (.bool false)]),.obj (.box [.pv (.int .i64 ((k+1:Nat):Int))])]⟩,by kernel_rfl,rfl,?_,?_,rfl⟩)⟩
  ·unfold okN;rw[fF (show ¬ k<400 by omega)];rfl
  ·unfold okN;rw[fF (show ¬ v<=40 by omega),I5];rfl
  ·have h3:PL (.mk g b)=false:=h3;unfold okN;rw[h3,I5]
  ·have h3:PL (.mk g b):=h3;intro j p q i;rw[Nat.lt_succ_iff_lt_or_eq]at q;rcases q with q|rfl
   ·exact a j p q i
   ·rw[hx]at i;cases i;unfold okN;rw[h3,eY (show j<400 by omega),eY (show v<=40 by omega)];rfl
  ·omega
 ·rintro σ ⟨a,s,rfl⟩;refine i1u tvE n ks _ (Zy (e7g _ λj p i=>a j p ?_ i).symm);rw[B];exact(IM.1 i).1
 ·rintro σ ⟨C,c,r,rfl⟩;exact g8k tvE n ks c r (Zy C.symm)
def g9u: ∀ args os,EE args os->Zh g5e os.length (Z9 os.length d0w λr=>r=b1s 82 args os) d3h [] (Yr i6e args os):=by
 intro args os h;unfold EE at h;split at h
 ·exact i9t _ rfl
 ·cases h
def tdH(m:List Str)(n:Nd)(ks:List Tm):ZC:=[.obj (.box [.map 1]),.obj (.map (F9 m)),.obj (.box ((Go.Proofs.YtbpdlcdciffpjaaGreatDoor.ndC n ks).map .pv))]
def tdN(N:ZC->Prop):U1:=λn a _=>n=99∧N a.heap
def e3x{N G:ZC->Prop}(n:Nd)(ks:List Tm)(i:Int)(l:Lin)(hl:l.t.length<=1048576): ∀ (d j:Nat) (m:List Str),d+j=l.t.length ->
  AtS [.seq (.ext 99 [])] Bt (tdN N) 3 (λst=>G st.heap) U2 0 36 [(3,.ptr 0 0),(15,.pv (enc n.sizes)),(16,.pv (.int .i64 n.sizes.length)),(17,.pv (.int .i64 (Ip.wrap (i+1))))] (tdH (((l.t.drop j).map (·.v)).foldl Ba m) n ks) ->
  AtS [.seq (.ext 99 [])] Bt (tdN N) 3 (λst=>G st.heap) U2 1 36 [(3,.ptr 0 0),(15,.pv (enc n.sizes)),(16,.pv (.int .i64 n.sizes.length)),(17,.pv (.int .i64 i)),(22,.pv (enc l.t)),(23,.pv (.int .i64 l.t.length)),(24,.pv (.int .i64 j))] (tdH m n ks):=by
 intro d
 induction d with
 | zero=>intro j m k h;rw[aW (by omega)]at h;exact f9k (tdN N) n ks m i j l (Z5 (Xh (by omega)) h)
 | succ d ih=>
  intro j m k h;have a:j<l.t.length:=by omega
  obtain⟨g,b⟩:=i4e m l.t[j].v;refine f9k (tdN N) n ks m i j l (ZZ (Xd a) ⟨ZT a rfl,Ym a ⟨g,?_⟩⟩);have e:c8b (aG Sh.str (Ii (Ij (enc l.t[j])) 0 default)) (PV.bool true) (F9 m)=F9 (Ba m l.t[j].v):=b;rw[e,next (by omega)];refine ih (j+1) _ (by omega) ?_;rw[Ir a,aZ,I1]at h;exact h
def e7f{N G:ZC->Prop}(n:Nd)(ks:List Tm)(hn:NdB n 1048576): ∀ (d i:Nat) (m:List Str),d+i=n.sizes.length->N (tdH (((n.sizes.drop i).flatMap λl=>l.t.map (·.v)).foldl Ba m) n ks) ->
  AtS [.seq (.ext 99 [])] Bt (tdN N) 3 (λst=>G st.heap) U2 0 36 [(3,.ptr 0 0),(15,.pv (enc n.sizes)),(16,.pv (.int .i64 n.sizes.length)),(17,.pv (.int .i64 i))] (tdH m n ks):=by
 intro d
 induction d with
 | zero=>intro i m hi h;rw[aW (by omega)]at h;exact e9g (tdN N) n ks m i (Z5 (Xh (by omega)) ⟨rfl,h⟩)
 | succ d ih=>
  intro i m hi h;have a:i<n.sizes.length:=by omega
  have hs:=hn.sizes;refine e9g (tdN N) n ks m i (ZZ (Xd a) ⟨ZT a rfl,Ym a ?_⟩);rw[Ir a,aM,ak]at h;have b:n.sizes[i].t.length<=1048576:=hn.lens _ (Iz a);generalize n.sizes[i]=l at h b ⊢
  have:=e3x (N:=N) (G:=G) n ks i l b l.t.length 0 m (by omega) (by
   rw[next (by omega),IW]
   exact ih (i+1) _ (by omega) h)
  show AtS [.seq (.ext 99 [])] Bt (tdN N) 3 (λst=>G st.heap) U2 1 36 [(3,.ptr 0 0),(15,.pv (enc n.sizes)),(16,.pv (.int .i64 n.sizes.length)),(17,.pv (.int .i64 i)),(22,.pv (enc l.t)),(23,.pv (.int .i64 ((l.t.map (enc:Coef->PV)).length:Int))),(24,.pv (.int .i64 (0:Nat)))] (tdH m n ks);rw[Im];exact this
def tdI(t:Tm)(k:Nat)(σ:ZC):Prop:=σ=[.obj (.box [.map 1]),.obj (.map (F9 (TR (((Vl t).take k).flatMap NC))))]
def tdM(t:Tm)(k:Nat)(x:Tm×Int)(st:St):Prop:=st=⟨X5 36 0 [(3,.ptr 0 0),(4,.ptr 2 0)],tdH (TR (((Vl t).take k).flatMap NC)) x.1.nd x.1.ks⟩
def tdE:U1:=λn st q=>n=0∧d2f Nv 0 (.t 11) 70 [12,13] a0j U2 encNd pre_ndI F_ndI st q
def g8g: ∀ x:Tm×Unit,tW x.1->TE Nv tdE 0 (Za Ld (Ze (KE x.1))) a1l [] (Z7 i0d (encL x)):=by
 rintro⟨t,⟨⟩⟩ ht;have ht:tW t:=ht;obtain⟨n,ks⟩:=t;rw[<- Xo];show TE Nv tdE 0 (Za Ld (Ze (KE (.mk n ks)))) _ _ _;have i:Yh (.mk n ks)<=1048576:=aD (Nl _) (fZ ht);have r:F_ndI [Go.Proofs.YtbpdlcdciffpjaaGreatDoor.ndC n ks]=Z8 1 (.mk n ks):=by unfold F_ndI;rw[tmOf_nd]
 refine j2r tdE n ks ⟨?_,rfl,[1],[Go.Proofs.YtbpdlcdciffpjaaGreatDoor.ndC n ks],[3],[3,4],[],⟨X5 36 0 [(3,.ptr 0 0)],[.obj (.box [.map 1]),.obj (.map [])]⟩,tdI (.mk n ks),λ_=>False,tdM (.mk n ks),
  rfl,by simp,rfl,?_,by kernel_rfl,pre_nd i,rfl,?_,?_,?_,λσ h=>h.elim⟩
 ·show can Tm (PV.agg (Go.Proofs.YtbpdlcdciffpjaaGreatDoor.ndC n ks));rw[show(PV.agg (Go.Proofs.YtbpdlcdciffpjaaGreatDoor.ndC n ks))=enc (Tm.mk n ks)from(YB n ks).symm,Gm]
 ·intro j l ps q hps
  match j with
  | 0=>cases q;cases hps;rfl
  | j+1=>simp at q
 ·rintro k ⟨⟨a,b⟩,v⟩ σ hx rfl;have e:a1g [12,13] ((encNd (.mk a b,v)).map .pv) (X5 36 0 [(3,.ptr 0 0)])=X5 36 0 [(3,.ptr 0 0),(12,.pv (.agg (Go.Proofs.YtbpdlcdciffpjaaGreatDoor.ndC a b))),(13,.pv (.int .i64 v))]:=by show a1g [12,13] (([enc (Tm.mk a b),.int .i64 v]).map .pv) _=_;rw[YB];kernel_rfl
  rw[e];exact i8z (G:=λ_=>False) _ a b _ v ⟨rfl,rfl⟩
 ·rintro k ⟨⟨a,b⟩,v⟩ st hx rfl;rw[r]at hx;have y:tW (.mk a b):=a4t ht (aH hx);have u:(Vl (.mk n ks))[k]? = some (.mk a b):=by unfold Vl;rw[aj,hx];rfl
  refine i3y (G:=λ_=>False) (tdN λσ=> ∃ g,HZ 0 [3] ⟨X5 36 0 [(3,.ptr 0 0)],σ⟩=some g∧g.env=X5 36 0 [(3,.ptr 0 0)]∧tdI (.mk n ks) (k+1) g.heap) a b _ ?_;rw[Im];refine e7f (N:=λσ=> ∃ g,HZ 0 [3] ⟨X5 36 0 [(3,.ptr 0 0)],σ⟩=some g∧g.env=X5 36 0 [(3,.ptr 0 0)]∧tdI (.mk n ks) (k+1) g.heap) (G:=λ_=>False) a b (ndB y) a.sizes.length 0 _ (by omega) ⟨⟨X5 36 0 [(3,.ptr 0 0)],[.obj (.box [.map 1]),.obj (.map (F9 (((a.sizes.drop 0).flatMap λl=>l.t.map (·.v)).foldl Ba (TR (((Vl (.mk n ks)).take k).flatMap NC)))))]⟩,by kernel_rfl,rfl,?_⟩;unfold tdI;have e:(Vl (.mk n ks)).take (k+1)=(Vl (.mk n ks)).take k++[.mk a b]:=by rw[I9,u];rfl
  rw[e,aJ,aM,ax,IQ,IW];unfold TR;rw[ak];rfl
 ·rintro σ rfl;rw[r,IA (by unfold Vl;rw[Im];exact I6 _)];refine i8t tdE n ks (TR (XV (.mk n ks))) ⟨?_,?_⟩
  ·show(82==82&&Nn (F9 (TR (XV (.mk n ks)))));rw[j4r ht,gy];rfl
  ·have:=Zt (x:=KE (.mk n ks)) rfl;unfold KE at this ⊢;rw[d8u];have e:(enc ((UF ((TR (XV (.mk n ks))).map (·.s))).map Str.mk):PV) = .sl 1 false ((UF ((TR (XV (.mk n ks))).map (·.s))).map PV.str):=by show PV.sl 1 false (Ie enc (Ie Str.mk _))=_;rw[aP];rfl
   rw[e]at this;exact this
set_option maxRecDepth 100000
abbrev h9k(ps:List PV)(k:Arr×Int->Prop):Prop:=V6 (λ(x:Str×List Int×List Int×Unit)=>decide (Cm (Ib (Iw x))<=2000000)&&decide (Cm (Ib (Iw (Iw x)))<=2000000)) (λ(x:Str×List Int×List Int×Unit)=>BC (Ib x) (Ib (Iw x)) (Ib (Iw (Iw x)))) ps k
noncomputable def f0g:IC:=Xx Proofs.Tryz.f159
def f8j:List IRes:=[.tmp 4]
abbrev i8a:Nat:=22
def h8d:ZH:=YT []
def Jd(a:List UInt8)(Zl:Int):List PV:=[.str a,.int .i64 Zl]
def j2d{G:PV->Prop}(e:List UInt8)(n:Int):=Vo (if (e==[105,110,116]) then if (decide (n ≥ (-2147483648:Int)))=true then G (.bool (decide (n<=2147483647)))else(Zu G)else(if (e==Vd) then if (n==0)=true then G (.bool true)else(G (.bool (n==1)))else(Zu G))) G (dm [] 36 0x2220220034200c4202202220044200c42) h8d f8j f0g (Z7 22 (Jd e n)) (by delta Zu Vd;exact rfl)
noncomputable def c8j:IC:=Xx Proofs.Tryz.f158
def d2e:List IRes:=[.tmp 3]
abbrev i7g:Nat:=8
def e8u:ZH:=YT [(159,.pure (preT (λ_:Str×Int×Unit=>true)) (Zp (λx:Str×Int×Unit=>Vx x.1 x.2.1)))]
def Wm(a:List UInt8):AObj:=.box [.pv (.str a)]
def j3p{G:AV×List AObj×List AObj->Prop}(e:List UInt8)(n:Int):=Mr (A:= ∃ a:Bool,(AV.pv (Zp (λ(x:Str×Int×Unit)=>Vx x.1 x.2.1) (Jd e n))=AV.pv (enc a))∧(G ((.pv (.bool !a)),([Wm e],[])))) (C:=Zh e8u 1 (Z9 1 d2e G) c8j [] (Yr 8 [Zv n,.ptr 0 0] [Wm e])) (λh=>Zh.to (.lit (.abs (Bool) (λb=>AV.pv (enc b)) (.nil))) h) (by delta Jd Wm;exact rfl)
noncomputable def Rt:IC:=R4
def TW:List IRes:=[.tmp 4]
abbrev g4r:Nat:=19
def a4c:ZH:=YT [(158,.own Eo b2f)]
def a4r:Nat×AV:=(1,.fn 158 [] [.ptr 0 0])
def j0j{G:AV×List AObj×List AObj->Prop}(e:List UInt8)(l:List Int)(t:Bool):=Mr (A:=At a4c 1 (Z9 1 TW G) Rt 0 19 [(0,.pv (.sl 1 t (Ie enc l))),a4r,(7,Mx l),(8,Zj)] [.obj (Wm e)]) (C:=Zh a4c 1 (Z9 1 TW G) Rt [] (Yr 19 [.pv (.sl 1 t (l.map enc)),.fn 158 [] [.ptr 0 0]] [Wm e])) (λh=>Zh.to (.nil) h) (by delta a4r QS Mx Zj Wm;exact rfl)
def f1l{G:AV×List AObj×List AObj->Prop}(e:List UInt8)(l:List Int)(t:Bool)(i:Int):=Mr (A:=if (Fy i l)=true then(decide (0<=i)&&decide (Iu i<Cm (Ie enc l))&&1==1)=true∧(∃ a:Int,(AV.pv (PV.rptr (Ij (Ii (Ie enc l) (Iu i) default)))=AV.pv (PV.rptr (Ij ((enc) a))))∧(if (!Vx (Str.mk e) (Qo a)) then G ((Zv i),([Wm e],[]))else(At a4c 1 (Z9 1 TW G) Rt 0 19 [(0,.pv (.sl 1 t (Ie enc l))),a4r,(7,MU l),(8,ZY i)] [.obj (Wm e)])))else(G ((.pv (.int .i64 (-1))),([Wm e],[])))) (C:=At a4c 1 (Z9 1 TW G) Rt 0 19 [(0,.pv (.sl 1 t (l.map enc))),a4r,(7,.pv (.int .i64 l.length)),(8,Zv i)] [.obj (Wm e)]) (λh=>bN (dm [dr Int] 19 0x2000143225100c42) h) (by delta Fy DY Qo Zv Wm a4r MU Yx ZY;exact rfl)
noncomputable def d4u:IC:=c9y
def c7k:List IRes:=[.tmp 4]
abbrev i8x:Nat:=9
def e8r:ZH:=YT [(135,.own QT Ef)]
def j4f{G:AV×List AObj×List AObj->Prop}(e:List UInt8)(l:List Int)(t:Bool):=Mr (A:=(QT [.pv (.sl 1 t (Ie enc l)),.fn 158 [] [.ptr 0 0]] [Wm e])=true∧(G ((.pv (.bool (decide (GA (Str.mk e) (Ie dec (Ie enc l)) 0 ≥ 0)))),([Wm e],[])))) (C:=Zh e8r 1 (Z9 1 c7k G) d4u [] (Yr 9 [.pv (.sl 1 t (l.map enc)),.fn 158 [] [.ptr 0 0]] [Wm e])) (λh=>Zh.to (.req (.keep (.lit (.nil)))) h) (by delta Wm;exact rfl)
noncomputable def Ob:IC:=Xx Proofs.Tryz.f123
def Om:List IRes:=[.tmp 4]
abbrev c3b:Nat:=9
def a1c:ZH:=YT [(109,.own QT b6o)]
def d0p{G:PV->Prop}(e:List UInt8)(l:List Int):=Vo ((QT [.pv (WA l),.fn 158 [] [.ptr 0 0]] [Wm e])∧(G (.bool (!decide (0<=GA (Str.mk e) (Ie dec (Ie enc l)) 0))))) G (.req (.keep (.nil))) a1c Om Ob (Z7 9 [.str e,enc l]) (by delta WA Wm;exact rfl)
noncomputable def d7t:IC:=Xx Proofs.Tryz.f92
def e2d:List IRes:=[.cell true 3 6,.tmp 7]
abbrev h1j:Nat:=45
def g2n:ZH:=YT [(122,.pure (preT (λ_:List Int×Unit=>true)) (Zp (λx:List Int×Unit=>X4 x.1))),(123,.pure (preT (λx:Str×List Int×Unit=>decide (x.2.1.length<=2000000))) (Zp (λx:Str×List Int×Unit=>x.2.1.all (Vx x.1)))),(124,.pure (preT (λx:List Int×Unit=>decide (x.1.length<=2000000))) (Zp (λx:List Int×Unit=>x.1)))]
def i3g{G:PV->Prop}(e:List UInt8)(d x:List Int)(h:if (!e==[(105:UInt8),(110:UInt8),(116:UInt8)]) then if (!e==[(98:UInt8),(111:UInt8),(111:UInt8),(108:UInt8)])=true then G ((.tup [.agg [.str [],.sl 0 true [],.sl 0 true []],.int .i64 12]))else((Go.Pl.preT (λ(x:List Int×Unit)=>true) [.sl 1 false (Ie enc d)])∧(∃ b:Int×Int,AV.pv (Zp (λ(x:List Int×Unit)=>X4 x.1) [.sl 1 false (Ie enc d)])=AV.pv (enc b)∧(if (b.2 != 0) then G ((.tup [.agg [.str [],.sl 0 true [],.sl 0 true []],.int .i64 b.2]))else(if ((↑(Cm (Ie enc x)):Int) != b.1) then G ((.tup [.agg [.str [],.sl 0 true [],.sl 0 true []],.int .i64 1]))else((Go.Pl.preT (λ(x:Str×List Int×Unit)=>decide (Cm x.2.1<=2000000)) [.str e,.sl 1 false (Ie enc x)])∧(∃ j:Bool,AV.pv (Zp (λ(x:Str×List Int×Unit)=>aB x.2.1 (Vx x.1)) [.str e,.sl 1 false (Ie enc x)])=AV.pv (enc j)∧(if (!j) then G ((.tup [.agg [.str [],.sl 0 true [],.sl 0 true []],.int .i64 2]))else((Go.Pl.preT (λ(x:List Int×Unit)=>decide (Cm x.1<=2000000)) [.sl 1 false (Ie enc d)])∧(∃ l:List Int,AV.pv (Zp (λ(x:List Int×Unit)=>x.1) [.sl 1 false (Ie enc d)])=AV.pv (enc l)∧((Go.Pl.preT (λ(x:List Int×Unit)=>decide (Cm x.1<=2000000)) [.sl 1 false (Ie enc x)])∧(∃ k:List Int,AV.pv (Zp (λ(x:List Int×Unit)=>x.1) [.sl 1 false (Ie enc x)])=AV.pv (enc k)∧(G ((.tup [.agg [.str e,.sl 1 false (Ie enc l),.sl 1 false (Ie enc k)],.int .i64 0]))))))))))))))else((Go.Pl.preT (λ(x:List Int×Unit)=>true) [.sl 1 false (Ie enc d)])∧(∃ a:Int×Int,AV.pv (Zp (λ(x:List Int×Unit)=>X4 x.1) [.sl 1 false (Ie enc d)])=AV.pv (enc a)∧(if (a.2 != 0) then G ((.tup [.agg [.str [],.sl 0 true [],.sl 0 true []],.int .i64 a.2]))else(if ((↑(Cm (Ie enc x)):Int) != a.1) then G ((.tup [.agg [.str [],.sl 0 true [],.sl 0 true []],.int .i64 1]))else((Go.Pl.preT (λ(x:Str×List Int×Unit)=>decide (Cm x.2.1<=2000000)) [.str e,.sl 1 false (Ie enc x)])∧(∃ q:Bool,AV.pv (Zp (λ(x:Str×List Int×Unit)=>aB x.2.1 (Vx x.1)) [.str e,.sl 1 false (Ie enc x)])=AV.pv (enc q)∧(if (!q) then G ((.tup [.agg [.str [],.sl 0 true [],.sl 0 true []],.int .i64 2]))else((Go.Pl.preT (λ(x:List Int×Unit)=>decide (Cm x.1<=2000000)) [.sl 1 false (Ie enc d)])∧(∃ i:List Int,AV.pv (Zp (λ(x:List Int×Unit)=>x.1) [.sl 1 false (Ie enc d)])=AV.pv (enc i)∧((Go.Pl.preT (λ(x:List Int×Unit)=>decide (Cm x.1<=2000000)) [.sl 1 false (Ie enc x)])∧(∃ g:List Int,AV.pv (Zp (λ(x:List Int×Unit)=>x.1) [.sl 1 false (Ie enc x)])=AV.pv (enc g)∧(G ((.tup [.agg [.str e,.sl 1 false (Ie enc i),.sl 1 false (Ie enc g)],.int .i64 0]))))))))))))))):Zh g2n 0 (Za e2d G) d7t [] (Z7 45 [.str e,enc d,enc x]):=Zh.tp (dm [dv (Int×Int),dv Bool,dv (List Int)] 69 0x7171000146100014200014251222071710001461000142000142510001422202242) h
noncomputable def e8o:IC:=Xx Proofs.Tryz.f60
def g3t:List IRes:=[.tmp 2]
abbrev i6t:Nat:=17
def h9q:ZH:=YT [(92,.pure (preT (λx:Str×List Int×List Int×Unit=>decide (x.2.1.length<=2000000)&&decide (x.2.2.1.length<=2000000))) (Zp (λx:Str×List Int×List Int×Unit=>BC x.1 x.2.1 x.2.2.1)))]
def j2w{G:PV->Prop}(a:Arr):=Vo ((h9k (M8 a) λb=>(G (.bool (b.2==0))))) G (.req (.abs (Arr×Int) (λe=>AV.pv (enc e)) (.lit (.nil)))) h9q g3t e8o (Z7 17 [enc a]) (by delta M8;exact rfl)
def g7a: ∀ a:Str×Int×Unit,true->Zh h8d 0 (Za f8j (Ze (Vx a.1 a.2.1))) f0g [] (Z7 i8a (encL a)):=by
 rintro⟨⟨e⟩,n,⟨⟩⟩ _;refine j2d e n ?_;simp only[gm,fu,Ze,e0b,b9e,gJ,Vx,Xi,YK,gZ];split
 ·split <;> simp[*]
 ·split
  ·split <;> simp[*]
  ·simp[*]
def h2g: ∀ args os,Eo args os->Zh e8u os.length (Z9 os.length d2e λr=>r=b2f args os) c8j [] (Yr i7g args os):=by
 intro args os a;unfold Eo at a;split at a
 ·rename_i n e;refine j3p e n ?_;exact Zc (⟨e⟩,n,()) rfl rfl
 ·cases a
def a3s(e:Str): ∀ (l:List Int) (k:Nat),decide (0<=GA e l k) = !l.all (Vx e)
 | [],k=>by simp[GA]
 | n::l,k=>by
  simp only[GA,aa];by_cases h:Vx e n
  ·simp only[h,gq,IE];exact a3s e l (k+1)
  ·simp only[Bool.not_eq_true]at h;simp[h]
def f2w(e:List UInt8)(l:List Int)(t:Bool)(hl:l.length<=2000000)(r:AV×List AObj×List AObj): ∀ (m k:Nat),m+k=l.length->r=(.pv (.int .i64 (GA ⟨e⟩ (l.drop k) k)),[.box [.pv (.str e)]],[]) ->
  At a4c 1 (Z9 1 TW λx=>x=r) Rt 0 g4r [(0,.pv (.sl 1 t (l.map enc))),(1,.fn 158 [] [.ptr 0 0]),(7,.pv (.int .i64 l.length)),(8,.pv (.int .i64 k))] [.obj (.box [.pv (.str e)])]:=by
 intro m
 induction m with
 | zero=>intro k b hr;refine f1l e l t k ?_;rw[fo (by simp;omega),hr,IB (by omega)];rfl
 | succ m ih=>
  intro k b hr;have a:k<l.length:=by omega
  refine f1l e l t k ?_;rw[fw (by simp;omega)];refine⟨by simp;omega,l[k],by rw[NR _ a],?_⟩;rw[Ir a,GA]at hr;show if (!Vx ⟨e⟩ l[k]) then _ else _
  cases h:Vx ⟨e⟩ l[k]with
  | true=>rw[fo (by simp),next (by omega)];rw[h,fw rfl]at hr;exact ih (k+1) (by omega) hr
  | false=>rw[fw (by decide)];rw[h,fo (by simp)]at hr;exact hr.symm
def g9k: ∀ args os,QT args os->Zh a4c os.length (Z9 os.length TW λr=>r=Ef args os) Rt [] (Yr g4r args os):=by
 intro args os a;unfold QT at a;split at a
 ·rename_i t xs e;simp only[Ik,fu]at a;rw[e0z a.1];have b:(xs.map (dec:PV->Int)).length<=2000000:=by simpa using a.2
  generalize xs.map (dec:PV->Int)=l at b ⊢;refine j0j e l t ?_;rw[Im];refine f2w e l t b _ l.length 0 (by omega) ?_;simp[Ef]
 ·cases a
def h5s: ∀ args os,QT args os->Zh e8r os.length (Z9 os.length c7k λr=>r=b6o args os) d4u [] (Yr i8x args os):=by
 intro args os a;have b:=a;unfold QT at a;split at a
 ·rename_i t xs e;simp only[Ik,fu]at a;rw[e0z a.1]at b ⊢;exact j4f e _ t ⟨b,rfl⟩
 ·cases a
def b2a: ∀ a:Str×List Int×Unit,decide (a.2.1.length<=2000000)->Zh a1c 0 (Za Om (Ze (a.2.1.all (Vx a.1)))) Ob [] (Z7 c3b (encL a)):=by
 rintro⟨⟨e⟩,l,⟨⟩⟩ hp;refine d0p e l ⟨?_,rfl,?_⟩
 ·simpa [QT]using hp
 ·simp[a3s]
def g4i: ∀ a:Str×List Int×List Int×Unit,(decide (a.2.1.length<=2000000)&&decide (a.2.2.1.length<=2000000))->Zh g2n 0 (Za e2d (Ze (BC a.1 a.2.1 a.2.2.1))) d7t [] (Z7 h1j (encL a)):=by
 rintro⟨⟨e⟩,d,x,⟨⟩⟩ hp;simp only[Ik,fu]at hp;refine i3g e d x ?_;have b:=hp.1;have g:=hp.2;simp only[preT,Zp,b7l,d6f,a9t,c3j,h7q,a3x,g4n,d8z,g4q,OE,au,IZ,gy,bQ,IE,fu,AV.pv.injEq,f9s,exists_eq_left',b,g,gJ,Enc.sz,Im,Ze,i1p,i8s,i9d,h5d,g7o,g9p,List.all_nil,List.isEmpty_nil,Bool.true_or,ae,Bool.not_eq_true',gF,bne_iff_ne,BC,Xi,YK];by_cases h1:e=[105,110,116]
 ·simp only[h1,ne_eq,not_true,gp,gX];split
  ·rfl
  ·split
   ·rfl
   ·split
    ·simp_all
    ·simp_all
 ·simp only[h1,ne_eq,not_false_eq_true,gq,gJ];split
  ·rfl
  ·split
   ·rfl
   ·split
    ·rfl
    ·split
     ·simp_all
     ·simp_all
def g9i: ∀ a:Arr×Unit,Dr a.1->Zh h9q 0 (Za g3t (Ze (Jz a.1))) e8o [] (Z7 i6t (encL a)):=by rintro⟨a,⟨⟩⟩ hp;refine j2w a ⟨Zb (a.e,a.d,a.x,()) rfl hp,Zc (a.e,a.d,a.x,()) rfl ?_⟩;exact⟨rfl,rfl⟩
def Xl:IC:=(Q0 [Yl 2 (.mv (Uy 0)) 0,Yl 3 (.mv (Uy 0)) 0] (.seq (Q0 [Yl 8 (Qm 0) 0,Yl 9 (.len 1 (.t 8)) 0,Yl 10 (Pp .gtr (.t 9) (Uy 6)) 0] (.cond (.t 10) (Q0 [Yl 2 (.mv (Uy 0)) 0,Yl 3 (.mv (Uy 13)) 0] .ret) .skip)) (Q0 [Yl 4 (f'' false) 0] (.seq (Q0 [Yl 5 (.mv (Uy 0)) 0] (.block 0 (.loop [5,0,4] (.seq (Q0 [Yl 11 (Qm 5) 0,Yl 12 (Qm 0) 0,Yl 13 (.len 1 (.t 12)) 0,Yl 14 (Pp .lss (.t 11) (.t 13)) 0] (.cond (.t 14) .skip (.exit 0))) (.seq (.block 1 (.seq (Q0 [Yl 17 (Qm 0) 0,Yl 18 (Qm 5) 0,Yl 19 (.iaddr 1 (.t 17) (.t 18)) 0,Yl 20 (l'' [.int .i64] (.t 19)) 0,Yl 21 (Pp .lss (.t 20) (Uy 0)) 0,Yl 22 (Qm 21) 0,r'' 23 (Qm 0) 0 22,r'' 24 (Qm 5) 0 22,r'' 25 (.iaddr 1 (.t 23) (.t 24)) 0 22,r'' 26 (l'' [.int .i64] (.t 25)) 0 22,r'' 27 (Pp .gtr (.t 26) (Uy 4096)) 0 22,Yl 28 (.pick (.t 22) (.c (.bool true)) (.t 27)) 0] (.cond (.t 28) (Q0 [Yl 2 (.mv (Uy 0)) 0,Yl 3 (.mv (Uy 2)) 0] .ret) .skip)) (.reg [Yl 29 (Qm 4) 0,Yl 30 (Qm 29) 0,r'' 31 (Qm 0) 0 30,r'' 32 (Qm 5) 0 30,r'' 33 (.iaddr 1 (.t 31) (.t 32)) 0 30,r'' 34 (l'' [.int .i64] (.t 33)) 0 30,r'' 35 (Pp .eql (.t 34) (Uy 0)) 0 30,Yl 36 (.pick (.t 30) (.c (.bool true)) (.t 35)) 0,Yl 4 (Qm 36) 0] none))) (.reg [Yl 15 (Qm 5) 0,Yl 16 (Pp .add (.t 15) (Uy 1)) 0,Yl 5 (Qm 16) 0] none)))))) (.seq (Q0 [Yl 37 (Qm 4) 0] (.cond (.t 37) (Q0 [Yl 2 (.mv (Uy 0)) 0,Yl 3 (.mv (Uy 0)) 0] .ret) .skip)) (Q0 [Yl 6 (.mv (Uy 1)) 0] (.seq (Q0 [Yl 7 (.mv (Uy 0)) 0] (.block 2 (.loop [7,0,6] (.seq (Q0 [Yl 38 (Qm 7) 0,Yl 39 (Qm 0) 0,Yl 40 (.len 1 (.t 39)) 0,Yl 41 (Pp .lss (.t 38) (.t 40)) 0] (.cond (.t 41) .skip (.exit 2))) (.seq (.block 3 (Q0 [Yl 44 (Qm 6) 0,Yl 45 (Qm 0) 0,Yl 46 (Qm 7) 0,Yl 47 (.iaddr 1 (.t 45) (.t 46)) 0,Yl 48 (l'' [.int .i64] (.t 47)) 0,Yl 49 (Pp .mul (.t 44) (.t 48)) 0,Yl 6 (Qm 49) 0] (Q0 [Yl 50 (Qm 6) 0,Yl 51 (Pp .gtr (.t 50) (Uy 4096)) 0] (.cond (.t 51) (Q0 [Yl 2 (.mv (Uy 0)) 0,Yl 3 (.mv (Uy 3)) 0] .ret) .skip)))) (.reg [Yl 42 (Qm 7) 0,Yl 43 (Pp .add (.t 42) (Uy 1)) 0,Yl 7 (Qm 43) 0] none)))))) (Q0 [Yl 52 (Qm 6) 0,Yl 2 (Qm 52) 0,Yl 3 (.mv (Uy 0)) 0] .ret))))))))
def Xm:List IRes:=[.tmp 2,.tmp 3]
def XN:ZH:=YT []
def e4n{r:PV}(ns:List Int)(t:Bool)(a:(decide ((↑(nums ns).length:Int)>6)))(hr:(.tup [.int .i64 0,.int .i64 13])=r):Zh XN 0 (λst=>fin st Xm=some r) Xl [] (Z7 53 [.sl 1 t (nums ns)]):=Zh.w (.lit (.ans true (.nil))) (Il a hr) (by kernel_rfl)
def e4x{r:PV}(ns:List Int)(t:Bool)(a:(decide ((↑(nums ns).length:Int)>6))=false)(hn:At XN 0 (λst=>fin st Xm=some r) Xl 0 53 [(0,(.pv (.sl 1 t (nums ns)))),(4,(.pv (.bool false))),(5,(.pv (.int .i64 0)))] []):Zh XN 0 (λst=>fin st Xm=some r) Xl [] (Z7 53 [.sl 1 t (nums ns)]):=Zh.w (.lit (.ans false (.nil))) (Il a hn) (by kernel_rfl)
def c6v{r:PV}(ns:List Int)(t:Bool)(i:Int)(z:Bool)(a:(decide (i<(↑(nums ns).length:Int))))(h1:(decide (0<=i)&&decide (i.toNat<(nums ns).length)&&1==1))(h2:(decide (0+[Sh.int .i64].length<=((nums ns).getD i.toNat default).cells.length)&&XG ((nums ns).getD i.toNat default).cells 0 [Sh.int .i64]))(h3:(decide ((((nums ns).getD i.toNat default).cells.getD 0 default).asInt<0)))(hr:(.tup [.int .i64 0,.int .i64 2])=r):At XN 0 (λst=>fin st Xm=some r) Xl 0 53 [(0,.pv (.sl 1 t (nums ns))),(4,.pv (.bool z)),(5,.pv (.int .i64 i))] []:=aR (.lit (.ans true (.req (.req (.lit (.ans true (.lit (.lit (.lit (.lit (.lit (.lit (.nil))))))))))))) (Il a (Il h1 (Il h2 (Il h3 hr)))) (by kernel_rfl)
def d3c{r:PV}(ns:List Int)(t:Bool)(i:Int)(z:Bool)(b:(decide (i<(↑(nums ns).length:Int))))(h1:(decide (0<=i)&&decide (i.toNat<(nums ns).length)&&1==1))(h2:(decide (0+[Sh.int .i64].length<=((nums ns).getD i.toNat default).cells.length)&&XG ((nums ns).getD i.toNat default).cells 0 [Sh.int .i64]))(h3:(decide ((((nums ns).getD i.toNat default).cells.getD 0 default).asInt<0))=false)(a:(decide ((((nums ns).getD i.toNat default).cells.getD 0 default).asInt>4096)))(hr:(.tup [.int .i64 0,.int .i64 2])=r):At XN 0 (λst=>fin st Xm=some r) Xl 0 53 [(0,.pv (.sl 1 t (nums ns))),(4,.pv (.bool z)),(5,.pv (.int .i64 i))] []:=aR (.lit (.ans true (.req (.req (.lit (.ans false (.lit (.lit (.req (.lit (.req (.lit (.lit (.lit (.ans true (.nil)))))))))))))))) (Il b (Il h1 (Il h2 (Il h3 (Il h1 (Il h2 (Il a hr))))))) (by kernel_rfl)
def c8w{r:PV}(ns:List Int)(t:Bool)(i:Int)(z:Bool)(b:(decide (i<(↑(nums ns).length:Int))))(h1:(decide (0<=i)&&decide (i.toNat<(nums ns).length)&&1==1))(h2:(decide (0+[Sh.int .i64].length<=((nums ns).getD i.toNat default).cells.length)&&XG ((nums ns).getD i.toNat default).cells 0 [Sh.int .i64]))(h3:(decide ((((nums ns).getD i.toNat default).cells.getD 0 default).asInt<0))=false)(a:(decide ((((nums ns).getD i.toNat default).cells.getD 0 default).asInt>4096))=false)(e:(z))(hn:At XN 0 (λst=>fin st Xm=some r) Xl 0 53 [(0,(.pv (.sl 1 t (nums ns)))),(4,(.pv (.bool true))),(5,(.pv (.int .i64 (Ip.wrap (i+1)))))] []):At XN 0 (λst=>fin st Xm=some r) Xl 0 53 [(0,.pv (.sl 1 t (nums ns))),(4,.pv (.bool z)),(5,.pv (.int .i64 i))] []:=aR (.lit (.ans true (.req (.req (.lit (.ans false (.lit (.lit (.req (.lit (.req (.lit (.lit (.lit (.ans false (.ans true (.lit (.lit (.lit (.lit (.lit (.lit (.nil))))))))))))))))))))))) (Il b (Il h1 (Il h2 (Il h3 (Il h1 (Il h2 (Il a (Il e hn)))))))) (by kernel_rfl)
def c8g{r:PV}(ns:List Int)(t:Bool)(i:Int)(z:Bool)(b:(decide (i<(↑(nums ns).length:Int))))(h1:(decide (0<=i)&&decide (i.toNat<(nums ns).length)&&1==1))(h2:(decide (0+[Sh.int .i64].length<=((nums ns).getD i.toNat default).cells.length)&&XG ((nums ns).getD i.toNat default).cells 0 [Sh.int .i64]))(h3:(decide ((((nums ns).getD i.toNat default).cells.getD 0 default).asInt<0))=false)(a:(decide ((((nums ns).getD i.toNat default).cells.getD 0 default).asInt>4096))=false)(e:(z)=false)(hn:At XN 0 (λst=>fin st Xm=some r) Xl 0 53 [(0,(.pv (.sl 1 t (nums ns)))),(4,(.pv (.bool ((((nums ns).getD i.toNat default).cells.getD 0 default).asInt==0)))),(5,(.pv (.int .i64 (Ip.wrap (i+1)))))] []):At XN 0 (λst=>fin st Xm=some r) Xl 0 53 [(0,.pv (.sl 1 t (nums ns))),(4,.pv (.bool z)),(5,.pv (.int .i64 i))] []:=aR (.lit (.ans true (.req (.req (.lit (.ans false (.lit (.lit (.req (.lit (.req (.lit (.lit (.lit (.ans false (.ans false (.lit (.lit (.req (.lit (.req (.lit (.lit (.lit (.lit (.nil)))))))))))))))))))))))))) (Il b (Il h1 (Il h2 (Il h3 (Il h1 (Il h2 (Il a (Il e (Il h1 (Il h2 hn)))))))))) (by kernel_rfl)
def c5s{r:PV}(ns:List Int)(t:Bool)(i:Int)(z:Bool)(a:(decide (i<(↑(nums ns).length:Int)))=false)(h1:(z))(hr:(.tup [.int .i64 0,.int .i64 0])=r):At XN 0 (λst=>fin st Xm=some r) Xl 0 53 [(0,.pv (.sl 1 t (nums ns))),(4,.pv (.bool z)),(5,.pv (.int .i64 i))] []:=aR (.lit (.ans false (.ans true (.nil)))) (Il a (Il h1 hr)) (by kernel_rfl)
def c7u{r:PV}(ns:List Int)(t:Bool)(i:Int)(z:Bool)(a:(decide (i<(↑(nums ns).length:Int)))=false)(h1:(z)=false)(hn:At XN 0 (λst=>fin st Xm=some r) Xl 1 53 [(0,(.pv (.sl 1 t (nums ns)))),(6,(.pv (.int .i64 1))),(7,(.pv (.int .i64 0)))] []):At XN 0 (λst=>fin st Xm=some r) Xl 0 53 [(0,.pv (.sl 1 t (nums ns))),(4,.pv (.bool z)),(5,.pv (.int .i64 i))] []:=aR (.lit (.ans false (.ans false (.nil)))) (Il a (Il h1 hn)) (by kernel_rfl)
def d4q{r:PV}(ns:List Int)(t:Bool)(i n:Int)(a:(decide (i<(↑(nums ns).length:Int))))(h1:(decide (0<=i)&&decide (i.toNat<(nums ns).length)&&1==1))(h2:(decide (0+[Sh.int .i64].length<=((nums ns).getD i.toNat default).cells.length)&&XG ((nums ns).getD i.toNat default).cells 0 [Sh.int .i64]))(h3:(decide (Ip.wrap (n*(((nums ns).getD i.toNat default).cells.getD 0 default).asInt)>4096)))(hr:(.tup [.int .i64 0,.int .i64 3])=r):At XN 0 (λst=>fin st Xm=some r) Xl 1 53 [(0,.pv (.sl 1 t (nums ns))),(6,.pv (.int .i64 n)),(7,.pv (.int .i64 i))] []:=aR (.lit (.ans true (.req (.req (.lit (.lit (.ans true (.nil)))))))) (Il a (Il h1 (Il h2 (Il h3 hr)))) (by kernel_rfl)
def d2u{r:PV}(ns:List Int)(t:Bool)(i n:Int)(a:(decide (i<(↑(nums ns).length:Int))))(h1:(decide (0<=i)&&decide (i.toNat<(nums ns).length)&&1==1))(h2:(decide (0+[Sh.int .i64].length<=((nums ns).getD i.toNat default).cells.length)&&XG ((nums ns).getD i.toNat default).cells 0 [Sh.int .i64]))(h3:(decide (Ip.wrap (n*(((nums ns).getD i.toNat default).cells.getD 0 default).asInt)>4096))=false)(hn:At XN 0 (λst=>fin st Xm=some r) Xl 1 53 [(0,(.pv (.sl 1 t (nums ns)))),(6,(.pv (.int .i64 (Ip.wrap (n*(((nums ns).getD i.toNat default).cells.getD 0 default).asInt))))),(7,(.pv (.int .i64 (Ip.wrap (i+1)))))] []):At XN 0 (λst=>fin st Xm=some r) Xl 1 53 [(0,.pv (.sl 1 t (nums ns))),(6,.pv (.int .i64 n)),(7,.pv (.int .i64 i))] []:=aR (.lit (.ans true (.req (.req (.lit (.lit (.ans false (.lit (.nil))))))))) (Il a (Il h1 (Il h2 (Il h3 hn)))) (by kernel_rfl)
def d5a{r:PV}(ns:List Int)(t:Bool)(i n:Int)(a:(decide (i<(↑(nums ns).length:Int)))=false)(hr:(.tup [.int .i64 n,.int .i64 0])=r):At XN 0 (λst=>fin st Xm=some r) Xl 1 53 [(0,.pv (.sl 1 t (nums ns))),(6,.pv (.int .i64 n)),(7,.pv (.int .i64 i))] []:=aR (.lit (.ans false (.nil))) (Il a hr) (by kernel_rfl)
def QF:IC:=(Q0 [Yl 4 (.mv (Uy 0)) 0] (.seq (Q0 [Yl 6 (Qm 0) 0,Yl 7 (.len 1 (.t 6)) 0,Yl 8 (.mv (Uy 0)) 0] (.block 0 (.loop [8,7,1,0] (Q0 [Yl 9 (Pp .lss (.t 8) (.t 7)) 0] (.seq (.cond (.t 9) .skip (.exit 0)) (.seq (.block 1 (Q0 [Yl 10 (Qm 8) 0,Yl 5 (Qm 10) 0] (Q0 [Yl 11 (Qm 1) 0,Yl 12 (Qm 0) 0,Yl 13 (Qm 5) 0,Yl 14 (.iaddr 1 (.t 12) (.t 13)) 0,Yl 15 (l'' [.int .i64] (.t 14)) 0,Yl 16 (Pp .eql (.t 11) (.t 15)) 0] (.cond (.t 16) (Q0 [Yl 17 (Qm 5) 0,Yl 4 (Qm 17) 0] .ret) .skip)))) (.reg [Yl 18 (Pp .add (.t 8) (Uy 1)) 0,Yl 8 (Qm 18) 0] none))))))) (Q0 [Yl 4 (.mv (.c (.int .i64 (-1)))) 0] .ret)))
def Qr:List IRes:=[.tmp 4]
def JE:ZH:=YT []
def e6y{r:PV}(ns:List Int)(t:Bool)(v:Int)(hn:At JE 0 (λst=>fin st Qr=some r) QF 0 19 [(0,(.pv (.sl 1 t (nums ns)))),(1,(.pv (.int .i64 v))),(7,(.pv (.int .i64 (↑(nums ns).length:Int)))),(8,(.pv (.int .i64 0)))] []):Zh JE 0 (λst=>fin st Qr=some r) QF [] (Z7 19 [.sl 1 t (nums ns),.int .i64 v]):=Zh.w (.nil) hn (by kernel_rfl)
def c9r{r:PV}(ns:List Int)(t:Bool)(v:Int)(i:Int)(a:(decide (i<(↑(nums ns).length:Int))))(h1:(decide (0<=i)&&decide (i.toNat<(nums ns).length)&&1==1))(h2:(decide (0+[Sh.int .i64].length<=((nums ns).getD i.toNat default).cells.length)&&XG ((nums ns).getD i.toNat default).cells 0 [Sh.int .i64]))(h3:(v==(((nums ns).getD i.toNat default).cells.getD 0 default).asInt))(hr:(.int .i64 i)=r):At JE 0 (λst=>fin st Qr=some r) QF 0 19 [(0,.pv (.sl 1 t (nums ns))),(1,.pv (.int .i64 v)),(7,.pv (.int .i64 (nums ns).length)),(8,.pv (.int .i64 i))] []:=aR (.lit (.ans true (.req (.req (.lit (.ans true (.nil))))))) (Il a (Il h1 (Il h2 (Il h3 hr)))) (by kernel_rfl)
def c5x{r:PV}(ns:List Int)(t:Bool)(v:Int)(i:Int)(a:(decide (i<(↑(nums ns).length:Int))))(h1:(decide (0<=i)&&decide (i.toNat<(nums ns).length)&&1==1))(h2:(decide (0+[Sh.int .i64].length<=((nums ns).getD i.toNat default).cells.length)&&XG ((nums ns).getD i.toNat default).cells 0 [Sh.int .i64]))(h3:(v==(((nums ns).getD i.toNat default).cells.getD 0 default).asInt)=false)(hn:At JE 0 (λst=>fin st Qr=some r) QF 0 19 [(0,(.pv (.sl 1 t (nums ns)))),(1,(.pv (.int .i64 v))),(7,(.pv (.int .i64 (↑(nums ns).length:Int)))),(8,(.pv (.int .i64 (Ip.wrap (i+1)))))] []):At JE 0 (λst=>fin st Qr=some r) QF 0 19 [(0,.pv (.sl 1 t (nums ns))),(1,.pv (.int .i64 v)),(7,.pv (.int .i64 (nums ns).length)),(8,.pv (.int .i64 i))] []:=aR (.lit (.ans true (.req (.req (.lit (.ans false (.lit (.nil)))))))) (Il a (Il h1 (Il h2 (Il h3 hn)))) (by kernel_rfl)
def d3e{r:PV}(ns:List Int)(t:Bool)(v:Int)(i:Int)(a:(decide (i<(↑(nums ns).length:Int)))=false)(hr:(.int .i64 (-1))=r):At JE 0 (λst=>fin st Qr=some r) QF 0 19 [(0,.pv (.sl 1 t (nums ns))),(1,.pv (.int .i64 v)),(7,.pv (.int .i64 (nums ns).length)),(8,.pv (.int .i64 i))] []:=aR (.lit (.ans false (.nil))) (Il a hr) (by kernel_rfl)
def b7o{r:PV}(ns:List Int)(t:Bool)(h6:ns.length<=6)(ha:ns.all Jy): ∀ (m k:Nat) (n:Int),m+k=ns.length->0<=n->n<=4096 ->
  r=(match Oq n (ns.drop k)with|some n=>.tup [.int .i64 n,.int .i64 0]|none=>.tup [.int .i64 0,.int .i64 3]) ->
  At XN 0 (λst=>fin st Xm=some r) Xl 1 53 [(0,.pv (.sl 1 t (nums ns))),(6,.pv (.int .i64 n)),(7,.pv (.int .i64 k))] []:=by
 intro m
 induction m with
 | zero=>intro k n h g h1 hr;have:ns.drop k=[]:=IB (by omega);rw[this]at hr;exact d5a ns t k n (by simp;omega) hr.symm
 | succ m ih=>
  intro k n h g h1 hr;have a:k<ns.length:=by omega
  have hd:0<=ns[k]∧ns[k]<=4096:=by have:=II.1 ha _ (Iz a);simpa [Jy]using this
  have i:0<=n*ns[k]∧n*ns[k]<=4096*4096:=⟨Int.mul_nonneg g hd.1,Int.mul_le_mul h1 hd.2 hd.1 (by omega)⟩
  have b:Ip.wrap (n*ns[k])=n*ns[k]:=Xf (by omega) (by omega);rw[Ir a,Oq]at hr;have e:=Ad a;by_cases hb:4096<n*ns[k]
  ·simp only[hb,ik,gY]at hr;refine d4q ns t k n (by simp;omega) (by simp;omega) (by rw[e];rfl) ?_ hr.symm;rw[e];simpa [Ij,Iq,b]using hb
  ·simp only[hb,gQ,gP]at hr;refine d2u ns t k n (by simp;omega) (by simp;omega) (by rw[e];rfl) ?_ ?_
   ·rw[e];simpa [Ij,Iq,b]using Int.not_lt.1 hb
   ·rw[e,next (by omega)];simp only[Ij,List.getD_cons_zero,Iq,b];exact ih (k+1) (n*ns[k]) (by omega) i.1 (by omega) hr
def c0s(ns:List Int)(t:Bool)(i:ns.length<=6): ∀ (m k:Nat) (z:Bool),m+k=ns.length->(∀ j (h:j<ns.length),j<k->Jy ns[j])->z=(ns.take k).any (· == 0) ->
  At XN 0 (λst=>fin st Xm=some (X3 [.sl 1 t (nums ns)])) Xl 0 53 [(0,.pv (.sl 1 t (nums ns))),(4,.pv (.bool z)),(5,.pv (.int .i64 k))] []:=by
 intro m
 induction m with
 | zero=>
  intro k z l hd g;have ha:ns.all Jy:=by rw[II];intro x q;obtain⟨j,h,rfl⟩:=aK q;exact hd j h (by omega)
  rw[IA (by omega)]at g;cases z with
  | true=>refine c5s ns t k _ (by simp;omega) rfl ?_;simp[X3,X4,Wu,ha,<- g,bD.2 i]
  | false=>refine c7u ns t k _ (by simp;omega) rfl ?_;refine b7o ns t i ha ns.length 0 1 (by omega) (by omega) (by omega) ?_;simp only[X3,X4,Wu,ha,<- g,bD.2 i,gQ,gP,gY,IW];cases Oq 1 ns <;> rfl
 | succ m ih=>
  intro k z l hd g;have b:k<ns.length:=by omega
  have e:=Ad b;have a:Jy ns[k]=false->X3 [.sl 1 t (nums ns)] = .tup [.int .i64 0,.int .i64 2]:=by
   intro hb;have ha:ns.all Jy=false:=by rw[aN];exact⟨_,Iz b,by simp[hb]⟩
   simp[X3,X4,Wu,ha,bD.2 i]
  have hn:(ns.take (k+1)).any (· == 0)=(z||ns[k]==0):=by rw[List.take_succ_eq_append_getElem b,List.any_append,g];simp
  have hd':Jy ns[k]-> ∀ j (h:j<ns.length),j<k+1->Jy ns[j]:=by
   intro hb j h hjk;by_cases he:j=k
   ·subst he;exact hb
   ·exact hd j h (by omega)
  by_cases h1:ns[k]<0
  ·refine c6v ns t k z (by simp;omega) (by simp;omega) (by rw[e];rfl) (by rw[e];simpa [Ij,Iq]using h1) (a ?_).symm;simp[Jy];omega
  ·by_cases h2:4096<ns[k]
   ·refine d3c ns t k z (by simp;omega) (by simp;omega) (by rw[e];rfl) (by rw[e];simpa [Ij,Iq]using h1) (by rw[e];simpa [Ij,Iq]using h2) (a ?_).symm;simp[Jy];omega
   ·have hb:Jy ns[k]:=by simp[Jy];omega
    cases z with
    | true=>refine c8w ns t k true (by simp;omega) (by simp;omega) (by rw[e];rfl) (by rw[e];simpa [Ij,Iq]using h1) (by rw[e];simpa [Ij,Iq]using h2) rfl ?_;rw[next (by omega)];exact ih (k+1) true (by omega) (hd' hb) (by rw[hn];rfl)
    | false=>refine c8g ns t k false (by simp;omega) (by simp;omega) (by rw[e];rfl) (by rw[e];simpa [Ij,Iq]using h1) (by rw[e];simpa [Ij,Iq]using h2) rfl ?_;rw[next (by omega),e];exact ih (k+1) _ (by omega) (hd' hb) (by rw[hn];rfl)
def e6x: ∀ ps,Dw ps->Zh XN 0 (λst=>fin st Xm=some (X3 ps)) Xl [] (Z7 53 ps):=by
 intro ps a;unfold Dw at a;split at a
 ·rename_i t xs;obtain⟨ns,rfl⟩:=Eu a;by_cases h6:6<ns.length
  ·refine e4n ns t (by simp;omega) ?_;simp[X3,X4,Wu,h6]
  ·refine e4x ns t (by simp;omega) ?_;exact c0s ns t (by omega) ns.length 0 false (by omega) (λj hj h=>by omega) (by simp)
 ·cases a
def c8c(v:Int):List Int->Nat->Int
 | [],_=> -1
 | n::r,i=>bif v==n then i else c8c v r (i+1)
def f7g{v:Int}: ∀ {l:List Int} {i:Nat},decide (0<=c8c v l i)=l.any (· == v):=by
 intro l
 induction l with
 | nil=>intro i;rfl
 | cons n r ih=>
  intro i;simp only[c8c,List.any_cons];by_cases h:v=n
  ·subst h;simp
  ·have h1:(v==n)=false:=by simpa using h
   have h2:(n==v)=false:=by simp;omega
   simp only[h1,h2,gP,Bool.false_or];exact ih
def Tc:List PV->PV
 | [.sl _ _ xs,.int _ v]=>.int .i64 (c8c v (xs.map Iq) 0)
 | _=>.nilp
def c9d(ns:List Int)(t:Bool)(v:Int)(hl:ns.length<=1099511627776){r:PV}: ∀ (m k:Nat),m+k=ns.length->r = .int .i64 (c8c v (ns.drop k) k) ->
  At JE 0 (λst=>fin st Qr=some r) QF 0 19 [(0,.pv (.sl 1 t (nums ns))),(1,.pv (.int .i64 v)),(7,.pv (.int .i64 (nums ns).length)),(8,.pv (.int .i64 k))] []:=by
 intro m
 induction m with
 | zero=>intro k b hr;rw[IB (by omega)]at hr;exact d3e ns t v k (by simp;omega) hr.symm
 | succ m ih=>
  intro k b hr;have a:k<ns.length:=by omega
  have e:=Ad a;rw[Ir a,c8c]at hr;cases hb:v==ns[k]with
  | true=>rw[hb,gY]at hr;exact c9r ns t v k (by simp;omega) (by simp;omega) (by rw[e];rfl) (by rw[e];exact hb) hr.symm
  | false=>rw[hb,gP]at hr;refine c5x ns t v k (by simp;omega) (by simp;omega) (by rw[e];rfl) (by rw[e];exact hb) ?_;rw[next (by omega)];exact ih (k+1) (by omega) hr
def e2o: ∀ ps,Y1 ps->Zh JE 0 (λst=>fin st Qr=some (Tc ps)) QF [] (Z7 19 ps):=by
 intro ps a;unfold Y1 at a;split at a
 ·rename_i t xs v;simp only[Ik,fu]at a;obtain⟨ns,rfl⟩:=Eu a.1;refine e6y ns t v ?_;exact c9d ns t v (by have:=a.2;rwa [OG]at this) ns.length 0 (by omega) (by simp[Tc])
 ·cases a
def PV.ns(p:PV):List Int:=p.asXs.map Iq
def BU:IC:=(Q0 [Yl 4 (f'' false) 0] (Q0 [Yl 5 (Qm 0) 0,Yl 6 (Qm 1) 0,Yl 7 (c'' 187 [.t 5,.t 6]) 0,Yl 8 (Pp .geq (.t 7) (Uy 0)) 2,Yl 4 (Qm 8) 2] .ret))
def A8:List IRes:=[.tmp 4]
abbrev c1p:Nat:=9
def RD:ZH:=YT [(187,.pure Y1 Tc)]
def b2h{r:PV}(ns:List Int)(t:Bool)(v:Int)(a:(Y1 [.sl 1 t (nums ns),.int .i64 v]))(hr:(.bool (decide (c8c v (Ie Iq (nums ns)) 0 ≥ 0)))=r):Zh RD 0 (λst=>fin st A8=some r) BU [] (Z7 9 [.sl 1 t (nums ns),.int .i64 v]):=Zh.w (.req (.lit (.nil))) (Il a hr) (by kernel_rfl)
def b2z: ∀ ps,Y1 ps->Zh RD 0 (λst=>fin st A8=some (Jq ps)) BU [] (Z7 c1p ps):=by
 intro ps a;have b:=a;unfold Y1 at a;split at a
 ·rename_i t xs v;simp only[Ik,fu]at a;obtain⟨ns,rfl⟩:=Eu a.1;refine b2h ns t v b ?_
  have:=f7g (v:=v) (l:=ns) (i:=0);simp only[Wu,Jq,a0h,gZ];rw[<- this]
 ·cases a
abbrev i9x(ps:List PV)(k:Int×Er->Prop):Prop:=V6 (λ(x:Str×Unit)=>decide (Cm (Str.s (Ib x))<=1000000)) (λ(x:Str×Unit)=>Xk (Ib x)) ps k
abbrev j2e(ps:List PV)(k:Bool->Prop):Prop:=V6 (λ(x:Str×Unit)=>decide (Cm (Str.s (Ib x))<=1000000)) (λ(x:Str×Unit)=>nameB (Ib x)) ps k
noncomputable def UO:IC:=Xx Proofs.Tryz.f89
def Qu:List IRes:=[.tmp 2]
abbrev g0y:Nat:=67
def Jw:ZH:=YT [(119,.pure (preT (λ_:Str×Str×Unit=>true)) (Zp (λx:Str×Str×Unit=>x.2.1.s.isPrefixOf x.1.s))),(120,.pure (preT (λx:Str×Unit=>decide (x.1.s.length<=1000000))) (Zp (λx:Str×Unit=>Xk x.1))),(52,.pure (preT (λx:Int×Unit=>decide (-9223372036854775808<=x.1)&&decide (x.1<=9223372036854775807))) (Zp (λx:Int×Unit=>Yw x.1)))]
def b6h(b:List UInt8)(Zl:Bool):Prop:=AV.pv (Zp (λ(a:Str×Str×Unit)=>List.isPrefixOf (Str.s a.2.1) (Str.s a.1)) [.str b,.str [95]])=AV.pv (enc Zl)
def a4o(a:List UInt8):Bool:=decide (0<=1)&&true&&decide (Iu 1<=Cm a)&&decide (Cm a<=Cm a)
def b4m(a:List UInt8):List PV:=[.str (Ih (Iu 1) (Iy (Cm a) a))]
def d7v(a:Int×Er)(Zl:List UInt8)(b:PV->Prop):Prop:=(a7y (enc a.2)&&Ib (true,PV.bool (Cx (enc a.2))))=true∧(if (Cx (enc a.2)) then if (decide (a.1>0))=true then if (decide ((↑(Cm Zl):Int)<=10))=true then(Fa [.int .i64 a.1] λe=>((a4o Zl)∧(b (.bool (Str.s e==Ih (Iu 1) (Iy (Cm Zl) Zl))))))else(Zu b)else(Zu b)else(Zu b))
def Gq(a:List UInt8):Nat×AV:=(34,.pv (.sl 1 false (Zr a)))
def OL(a:List UInt8):Nat×AV:=(35,.pv (.int .i64 (↑(Cm (Zr a)):Int)))
def h4a{G:PV->Prop}(s:List UInt8):=Vo (∃ a:Bool,(b6h s a)∧(if (a) then(a4o s)=true∧(i9x (b4m s) λb=>(d7v b s G))else(At Jw 0 (Za Qu G) UO 0 67 [Zg s,Gq s,OL s,(36,Zj)] []))) G (dm [dv Bool,dv (Int×Er),dv Str] 70 0x2222222222220222222222022222022212271200a4222201842220294161103e452) Jw Qu UO (Z7 67 [.str s]) (by delta b6h a4o b4m Zu d7v Zg Gq OL Zj;exact rfl)
def b0v(a:Int)(Zl:List UInt8):Bool:=decide (0<=a)&&decide (Iu a<Cm (Zr Zl))&&1==1
def a2w(a:List UInt8)(Zl:Int):List PV:=Ij (Ii (Zr a) (Iu Zl) default)
def b0n(a:List UInt8)(Zl:Int):Bool:=decide (0+Cm [Sh.int bY]<=Cm (a2w a Zl))&&XG (a2w a Zl) 0 [Sh.int bY]
def TK(a:List UInt8)(Zl:Int):PV:=Ii (a2w a Zl) 0 default
def c6w(b:PV->Prop)(Zl:List UInt8)(a:Int):Prop:=At Jw 0 (Za Qu b) UO 0 67 [Zg Zl,Gq Zl,OL Zl,(36,ZY a)] []
def d2w(b:List UInt8)(Zl:Int)(a:PV->Prop):Prop:=if (decide (Iq (TK b Zl)<48))=true then a (.bool false)else(if (decide (Iq (TK b Zl)>57)) then a (.bool false)else(c6w a b Zl))
def b1f(a:List UInt8)(Zl:PV->Prop):Prop:=if (!a==[])=true then Zl (.bool (decide ((↑(Cm a):Int)<=30)))else(Zu Zl)
def c0x{G:PV->Prop}(s:List UInt8)(i:Int):=VP (if (decide (i<(↑(Cm (Zr s)):Int))) then(b0v i s)=true∧((b0n s i)∧(if (decide (Iq (TK s i)<97)) then if (i==0)=true then G (.bool false)else(d2w s i G)else(if (decide (Iq (TK s i)>122)) then if (i==0)=true then G (.bool false)else(d2w s i G)else(c6w G s i))))else(b1f s G)) G (dm [] 137 0x22202222005420222222220200014222220222220064222220222222222200b422202d42220200014222220222220064222220222222222200b42222220304213107542) Jw Qu UO 0 67 [Zg s,Gq s,(35,.pv (.int .i64 (Zr s).length)),(36,Zv i)] [] (by delta b0v a2w b0n TK Zg Gq OL Yx ZY c6w d2w Zu b1f;exact rfl)
noncomputable def Qg:IC:=Qw
def Qi:List IRes:=[.tmp 2]
abbrev e4g:Nat:=54
def KX:ZH:=YT [(90,.pure (preT (λ_:Int×Unit=>true)) (Zp (λx:Int×Unit=>Yq x.1))),(89,.pure (preT (λx:Str×Unit=>decide (x.1.s.length<=1000000))) (Zp (λx:Str×Unit=>nameB x.1)))]
def g5y{G:PV->Prop}(l:Lin):=Vo (At KX 0 (Za Qi G) Qg 0 54 (b0k l) [Y8 l]) G (.nil) KX Qi Qg (Z7 54 [enc l]) (by delta Xt Wt WY Zj b0k XP Y8;exact rfl)
def a8g{G:PV->Prop}(l:Lin)(i:Int):=VP (if (BH i l) then(QU l.t i 2 λa=>(j2e [Kn a] λg=>(if (!g) then G (.bool false)else(if (Iq (Q4 a)==0) then G (.bool false)else(d9a [Hm a] λe=>(if (!e) then G (.bool false)else(if (decide (i>0)) then(MI i l)=true∧(∃ b:Coef,(LG l i b)∧(if (FE b a) then G (.bool false)else(At KX 0 (Za Qi G) Qg 0 54 (a7k l i) [Y8 l])))else(At KX 0 (Za Qi G) Qg 0 54 (a7k l i) [Y8 l]))))))))else(b4g l G)) G (dm [dr Coef,dv Bool] 128 0x2222022222006462022222222222222020001422222222225122222018422202222200642262220222222222200b4222202222222222222200f46125106942) KX Qi Qg 0 54 (e8p l i) [Rb l] (by delta BH U4 Vf Kn Q4 Hm NG Xt MI LG Gs FE RZ Yx ZY a7k XP Wt Y8 WY Zu b4g;exact rfl)
def c3c{s:List UInt8}{i:Nat}(h:i<s.length):Ii (Zr s) (Iu (i:Int)) default = .int .u8 (s[i].toNat:Int):=by simp[Zr,Ii,h]
def JH(s:List UInt8):(Zr s).length=s.length:=by simp[Zr]
def c1r(c:UInt8):Bool:=lowB c||digB c
def b0u{c:UInt8}:lowB c=true ↔ 97<=c.toNat∧c.toNat<=122:=by simp only[lowB,Ik,fu,UInt8.le_iff_toNat_le];have a:(97:UInt8).toNat=97:=rfl;have b:(122:UInt8).toNat=122:=rfl;rw[a,b]
def Tn{c:UInt8}(h : ¬ (97<=c.toNat∧c.toNat<=122)):lowB c=false:=by
 cases e:lowB c
 ·rfl
 ·exact absurd (b0u.1 e) h
def Tu{c:UInt8}(h : ¬ (48<=c.toNat∧c.toNat<=57)):digB c=false:=by
 cases e:digB c
 ·rfl
 ·exact absurd (Ul.1 e) h
def Vt(s:List UInt8)(i:Nat):Bool:=(match i with|0=>(match s with|[]=>true|c::r=>lowB c&&r.all c1r)|i+1=>(s.drop (i+1)).all c1r)&&(!(s==[]))&&decide (s.length<=30)
def a7d{s:List UInt8}{i:Nat}(h:i<s.length)(hb:lowB s[i]∨(i≠0∧digB s[i])):Vt s i=Vt s (i+1):=by
 cases i with
 | zero=>
  cases s with
  | nil=>simp at h
  | cons c r=>
   rcases hb with hb|hb
   ·have hb:lowB c:=hb;simp[Vt,hb]
   ·exact absurd rfl hb.1
 | succ i=>
  unfold Vt;simp only;rw[Ir h,aa];have:c1r s[i+1]:=by
   rcases hb with hb|hb
   ·simp[c1r,hb]
   ·simp[c1r,hb.2]
  rw[this,IE]
def a6l{s:List UInt8}{i:Nat}(h:i<s.length)(hb:lowB s[i]=false∧(i=0∨digB s[i]=false)):Vt s i=false:=by
 cases i with
 | zero=>
  cases s with
  | nil=>simp at h
  | cons c r=>have hb:lowB c=false:=hb.1;simp[Vt,hb]
 | succ i=>
  unfold Vt;simp only;rw[Ir h,aa];have:c1r s[i+1]=false:=by
   rcases hb.2 with h0|h0
   ·cases h0
   ·simp[c1r,hb.1,h0]
  rw[this];simp
def c9f(s:List UInt8)(hs:s.length<=1000000): ∀ (m i:Nat),m+i=s.length->At Jw 0 (Za Qu (Ze (Vt s i))) UO 0 67 [(0,.pv (.str s)),(34,.pv (.sl 1 false (Zr s))),(35,.pv (.int .i64 (Zr s).length)),(36,.pv (.int .i64 i))] []:=by
 intro m
 induction m with
 | zero=>
  intro i hi;have e:Vt s i=(!(s==[])&&decide (s.length<=30)):=by
   unfold Vt;cases i with
   | zero=>cases s with
    | nil=>rfl
    | cons c r=>simp at hi
   | succ i=>simp only;rw[IB (show s.length<=i+1 by omega)];simp
  rw[e];refine c0x s i (Z5 (Xh (by rw[JH];omega)) (YC (λh=>Zy ?_) λh=>Zy ?_))
  ·rw[h,IE];exact decide_eq_decide.2 (by omega)
  ·rw[h,aX]
 | succ m ih=>
  intro i hi;have b:i<s.length:=by omega
  have h:=ih (i+1) (by omega);refine c0x s i ?_;rw[c3c b,next (by omega)];have a:(lowB s[i]=false∧(i=0∨digB s[i]=false))->Ze (Vt s i) (.bool false):=λhb=>Zy (a6l b hb).symm
  have go:(lowB s[i]∨(i≠0∧digB s[i]))->At Jw 0 (Za Qu (Ze (Vt s i))) UO 0 67 [(0,.pv (.str s)),(34,.pv (.sl 1 false (Zr s))),(35,.pv (.int .i64 (Zr s).length)),(36,.pv (.int .i64 ((i+1:Nat):Int)))] []:=λhb=>by rw[a7d b hb];exact h
  have g:lowB s[i]=false->(if ((i:Int)==0) then Ze (Vt s i) (.bool false)else if decide ((s[i].toNat:Int)<48)=true then Ze (Vt s i) (.bool false)else if decide ((s[i].toNat:Int)>57)=true then Ze (Vt s i) (.bool false)else At Jw 0 (Za Qu (Ze (Vt s i))) UO 0 67 [(0,.pv (.str s)),(34,.pv (.sl 1 false (Zr s))),(35,.pv (.int .i64 (Zr s).length)),(36,.pv (.int .i64 ((i+1:Nat):Int)))] []):=by intro j;refine ZP (λk=>a ⟨j,.inl (by omega)⟩) λk=>YH (λh1=>a ⟨j,.inr (Tu (by omega))⟩) λh1=>YH (λh2=>a ⟨j,.inr (Tu (by omega))⟩) λh2=>go (.inr ⟨by omega,Ul.2 (by omega)⟩)
  refine ZZ (Xd (by rw[JH];exact b)) ⟨by rw[JH];simp[b],by rfl,?_⟩;refine YH (λh1=>g (Tn ?_)) λh1=>YH (λh2=>g (Tn ?_)) λh2=>go (.inl (b0u.2 ?_))
  ·have h1:(s[i].toNat:Int)<97:=h1;omega
  ·have h2:(s[i].toNat:Int)>122:=h2;omega
  ·have h1 : ¬ (s[i].toNat:Int)<97:=h1;have h2 : ¬ (s[i].toNat:Int)>122:=h2;omega
def a9f{s:List UInt8}(h:[95].isPrefixOf s=false):nameB ⟨s⟩=Vt s 0:=by
 cases s with
 | nil=>rfl
 | cons c r=>
  have hc : ¬ c=95:=by intro e;subst e;simp at h
  have e:decide ((c::r).length<=30)=decide (r.length<=29):=decide_eq_decide.2 (by simp);unfold Vt;rw[e];simp only[nameB,fo hc];show _=(lowB c&&r.all c1r&& !((c::r)==[])&&_);have a:((c::r)==[])=false:=rfl;rw[a];simp only[Bool.not_false,IZ];rfl
def a3u(s:Str): -9223372036854775808<=(Xk s).1∧((Xk s).1<=9223372036854775807):=by
 unfold Xk;split
 ·rename_i v a;exact Lib.atoiAll_bounds a
 ·have:=Lib.atoiSat_bounds s.s;exact⟨by show _<=bV s.s;omega,by show bV s.s<=_;omega⟩
 ·exact⟨by show(-9223372036854775808:Int)<=0;omega,by show(0:Int)<=_;omega⟩
def e7i: ∀ a:Str×Unit,decide (a.1.s.length<=1000000)->Zh Jw 0 (Za Qu (Ze (nameB a.1))) UO [] (Z7 g0y (encL a)):=by
 rintro⟨⟨s⟩,⟨⟩⟩ b;have b:s.length<=1000000:=by simpa using b
 refine h4a s (Zc (⟨s⟩,⟨[95]⟩,()) rfl (YC (λh=> ?_) λh=> ?_))
 ·have h:[95].isPrefixOf s:=h;obtain⟨r,rfl⟩ : ∃ r,s=95::r:=by
   cases s with
   | nil=>simp at h
   | cons c r=>
    have:95=c:=by simpa using h
    exact⟨r,by rw[this]⟩
  have e:Ih (Iu 1) (Iy (Cm (95::r)) (95::r))=r:=by rw[IA (I6 _)];rfl
  simp only[e];refine⟨by simp,Zb (⟨r⟩,()) rfl (by simp at b ⊢;omega),Zc (⟨r⟩,()) rfl ⟨by show(a7y (enc (Xk ⟨r⟩).2)&&true);rw[h8s];rfl,?_⟩⟩;show if Cx (enc (Xk ⟨r⟩).2) then(if decide ((Xk ⟨r⟩).1>0) then(if _ then _ else Ze (nameB ⟨95::r⟩) _)else Ze (nameB ⟨95::r⟩) _)else Ze (nameB ⟨95::r⟩) _
  rw[c3g];by_cases h9:r.length<=9
  ·rw[<- d9i r h9,eY h9,IZ];refine YC (λh1=>YC (λh2=>ZZ (by simp;omega) ⟨Zb ((Xk ⟨r⟩).1,()) rfl (by have:=a3u ⟨r⟩;simp;omega),Zc ((Xk ⟨r⟩).1,()) rfl ⟨by simp,Zy ?_⟩⟩) λh2=>Zy ?_) λh1=>Zy ?_
   ·rw[h1,h2];simp only[IE,IZ];rfl
   ·rw[h2];simp
   ·rw[h1];simp
  ·rw[fF h9,I5];refine YC (λh1=>YC (λh2=>Z5 (by simp;omega) (Zy rfl)) λh2=>Zy rfl) λh1=>Zy rfl
 ·have h:[95].isPrefixOf s=false:=h;show At Jw 0 (Za Qu (Ze (nameB ⟨s⟩))) UO 0 67 _ _;rw[a9f h];exact c9f s b s.length 0 (by omega)
def c4d(l:Lin)(hl:l.t.length<=9223372036854775807)(hs:l.t.all (λt=>decide (t.v.s.length<=1000000))): ∀ (j i:Nat),j+i=l.t.length->At KX 0 (Za Qi (Ze (M6 (pvS l.t i) (l.t.drop i)&&(Yq l.k&&decide (l.t.length<=12))))) Qg 0 54 [(1,.ptr 0 0),(6,.pv (enc l.t)),(7,.pv (.int .i64 l.t.length)),(8,.pv (.int .i64 i))] [.obj (.box [.pv (.int .i64 l.k),.pv (enc l.t)])]:=by
 intro j
 induction j with
 | zero=>
  intro i hi;refine a8g l i (Z5 (Xh (by omega)) (Zc (l.k,()) rfl ?_));rw[IB (show l.t.length<=i by omega)];refine YC (λh=>Zy ?_) λh=>Zy ?_
  ·have h:Yq l.k:=h;rw[h];show _=(true&&(true&&_));rw[IE,IE];exact decide_eq_decide.2 (by simp;omega)
  ·have h:Yq l.k=false:=h;rw[h];simp
 | succ j ih=>
  intro i hi;have a:i<l.t.length:=by omega
  have h:=ih (i+1) (by omega);have e:l.t[i].v.s.length<=1000000:=by rw[II]at hs;simpa using hs _ (Iz a)
  refine a8g l i ?_;refine ZZ (Xd a) ⟨ZT a rfl,Ym a ⟨Zb (l.t[i].v,()) rfl (by simpa using e),Zc (l.t[i].v,()) rfl (Xj (λhn=> ?_) λhn=>ZP (λhc=> ?_) λhc=>Zc (l.t[i].c,()) rfl (Xj (λb=> ?_) λb=> ?_))⟩⟩
  all_goals rw[Ir a,AZ]
  ·have hn:nameB l.t[i].v=false:=hn;exact Zy (by simp[hn])
  ·have hc:l.t[i].c=0:=hc;exact Zy (by simp[hc])
  ·have b:Yq l.t[i].c=false:=b;exact Zy (by simp[b])
  have hn:nameB l.t[i].v:=hn;have b:Yq l.t[i].c:=b;have hc:l.t[i].c≠0:=hc;rw[next (by omega),hn,b,eY hc];have r:pvS l.t (i+1)=some l.t[i].v.s:=by simp[pvS,a]
  rw[r]at h;cases i with
  | zero=>exact Z5 (by simp) h
  | succ i=>
   refine ZZ (by simp) ?_;rw[b4y (by omega)];refine⟨ZT (by omega) rfl,Ym (by omega) ?_⟩;have q:pvS l.t (i+1)=some l.t[i].v.s:=by simp[pvS,show i<l.t.length by omega]
   rw[q];refine Xj (λhb=> ?_) λhb=> ?_
   all_goals
    have g:=(WQ l.t[i].v.s l.t[i+1].v.s).symm.trans hb;simp only[g,IZ,IE,I5,aX]
   ·exact Zy rfl
   ·exact h
def d4s: ∀ a:Lin×Unit,Ye a.1->Zh KX 0 (Za Qi (Ze (Zf a.1))) Qg [] (Z7 e4g (encL a)):=by
 rintro⟨l,⟨⟩⟩ hl;simp only[Ye,XD,Ik,fu]at hl;refine g5y l ?_;show At KX 0 (Za Qi (Ze (Zf l))) Qg 0 54 _ _;have e:Zf l=(M6 (pvS l.t 0) (l.t.drop 0)&&(Yq l.k&&decide (l.t.length<=12))):=by rw[a2b,bI];rfl
 rw[e,Im];exact c4d l hl.1 hl.2 l.t.length 0 (by omega)
abbrev h7p(ps:List PV)(k:Str->Prop):Prop:=V6 (λ(x:Str×Str×Unit)=>decide (Cm (Str.s (Ib x))<=1000000)) (λ(x:Str×Str×Unit)=>Str.mk (IX (Str.s (Ib x)) (Str.s (Ib (Iw x))))) ps k
abbrev j4z(ps:List PV)(k:Bool->Prop):Prop:=V6 (λ(x:Lin×Unit)=>Ye (Ib x)) (λ(x:Lin×Unit)=>Zf (Ib x)) ps k
noncomputable def b4a:IC:=Xx Proofs.Tryz.f58
def b3o:List IRes:=[]
abbrev h4v:Nat:=33
def d3n:ZH:=YT [(52,.pure (preT (λx:Int×Unit=>decide (-9223372036854775808<=x.1)&&decide (x.1<=9223372036854775807))) (Zp (λx:Int×Unit=>Yw x.1))),(59,.pure (preT (λx:Str×Str×Unit=>decide (x.1.s.length<=1000000))) (Zp (λx:Str×Str×Unit=>(⟨IX x.1.s x.2.1.s⟩:Str))))]
def c5j(g:Int)(Zl:List UInt8)(a:Str)(b:List UInt8)(e:AV×List AObj×List AObj->Prop):Prop:=if (decide (g ≥ 0))=true then if (!Zl==[])=true then Vm Zl [(43:UInt8)]∧(Vm (Str.s a) b∧(Vm (Zl++[(43:UInt8)]) (Str.s a++b)∧(e ((.tup []),([.box [.pv (.str (Zl++[(43:UInt8)]++(Str.s a++b)))]],[])))))else(Vm (Str.s a) b∧(Vm Zl (Str.s a++b)∧(e ((.tup []),([.box [.pv (.str (Zl++(Str.s a++b)))]],[])))))else(Vm (Str.s a) b∧(Vm Zl (Str.s a++b)∧(e ((.tup []),([.box [.pv (.str (Zl++(Str.s a++b)))]],[])))))
def i2w{G:AV×List AObj×List AObj->Prop}(n:Int)(s o:List UInt8):=Mr (A:=(Fa [.int .i64 n] λa=>(if (!s==[]) then if (n==1)=true then(h7p [.str (Str.s a),.str [49]] λe=>(c5j n o e s G))else(if (n==(-1:Int)) then(h7p [.str (Str.s a),.str [49]] λb=>(c5j n o b s G))else(c5j n o a s G))else(c5j n o a s G)))) (C:=Zh d3n 1 (Z9 1 b3o G) b4a [] (Yr 33 [.pv (enc n),.pv (.str s),.ptr 0 0] [Wm o])) (λh=>Zh.to (dm [dv Str] 138 0x112220110111004422200e42222220112220110111004422200e420112220110111004422200e425101b4222220112220110111004422200e42512222202042220644251) h) (by delta c5j;exact rfl)
noncomputable def JL:IC:=Xx Proofs.Tryz.f34
def Km:List IRes:=[.tmp 2]
abbrev e5p:Nat:=37
def JS:ZH:=YT [(57,.pure (preT (λx:Lin×Unit=>Ye x.1)) (Zp (λx:Lin×Unit=>Zf x.1))),(58,.own Uj N7)]
def a3j:Nat×AV:=(4,.fn 58 [] [.ptr 1 0])
def f4o{G:PV->Prop}(l:Lin):=Vo ((j4z [Va l] λa=>(if (!a) then G (.str [])else(At JS 0 (Za Km G) JL 0 37 [(1,.ptr 0 0),(3,.ptr 1 0),a3j,(12,Wt l),(13,.pv (.int .i64 (↑(WY l):Int))),(14,Zj)] [Y8 l,.obj (.box [.pv (.str [])])])))) G (dm [dv Bool] 9 0x1451) JS Km JL (Z7 37 [enc l]) (by delta Xt Va a3j Wt WY Zj XP Y8;exact rfl)
def a7s{G:PV->Prop}(l:Lin)(o:List UInt8)(i:Int):=VP (if (BH i l) then(QU l.t i 2 λa=>((Uj [.pv (Hm a),.pv (Kn a),.ptr 0 0] [Wm o])∧(At JS 0 (Za Km G) JL 0 37 [(1,.ptr 0 0),(3,.ptr 1 0),a3j,(12,Wt l),(13,RZ l),(14,ZY i)] [Y8 l,.obj (.box [.pv (.str (Wj o (Iq (Q4 a)) (IG (Vf a))))])])))else(if (l.k != 0) then(Uj [XP l,.pv (.str []),.ptr 0 0] [Wm o])=true∧(G (.str (Wj o l.k [])))else(if (o==[]) then(Uj [XP l,.pv (.str []),.ptr 0 0] [Wm o])=true∧(G (.str (Wj o l.k [])))else(G (.str o))))) G (dm [dr Coef] 35 0x31003422203122200642023125100742) JS Km JL 0 37 [(1,.ptr 0 0),(3,.ptr 1 0),a3j,(12,.pv (enc l.t)),(13,.pv (.int .i64 l.t.length)),(14,Zv i)] [Rb l,.obj (Wm o)] (by delta BH U4 Q4 Hm Vf Kn Wm a3j Xt Wt RZ Yx ZY XP Y8;exact rfl)
def c2r(s p:List UInt8):(IX s p).length<=s.length:=by
 unfold IX;split
 ·rw[List.length_take];omega
 ·exact I6 _
def g1w: ∀ args os,Uj args os->Zh d3n os.length (Z9 os.length b3o λr=>r=N7 args os) b4a [] (Yr h4v args os):=by
 intro args os h;unfold Uj at h;split at h
 ·rename_i n s o;simp only[Ik,fu]at h;obtain⟨⟨⟨k,l⟩,hs⟩,ho⟩:=h;have ev:N7 [.pv (.int .i64 n),.pv (.str s),.ptr 0 0] [.box [.pv (.str o)]]=(.tup [],[.box [.pv (.str (Wj o n s))]],[]):=rfl;rw[ev];have hi:=af n k l;have hi:(Yw n).s.length<=21:=hi;have ht:=c2r (Yw n).s [49];have fin : ∀ (b:Bool) (x:List UInt8),x.length<=21->(decide (s≠[])&&(decide (n=1)||decide (n = -1)))=b->x=(if b then IX (Yw n).s [49]else(Yw n).s) ->
    (if decide (n ≥ 0) then(if (!o==[]) then(decide (o.length+Cm [(43:UInt8)]<=1099511627776)∧(decide (x.length+s.length<=1099511627776)∧(decide (Cm (o++[(43:UInt8)])+Cm (x++s)<=1099511627776)∧((AV.tup [],[AObj.box [.pv (.str (o++[(43:UInt8)]++(x++s)))]],([]:List AObj))=(.tup [],[.box [.pv (.str (Wj o n s))]],[])))))
     else(decide (x.length+s.length<=1099511627776)∧(decide (o.length+Cm (x++s)<=1099511627776)∧((AV.tup [],[AObj.box [.pv (.str (o++(x++s)))]],([]:List AObj))=(.tup [],[.box [.pv (.str (Wj o n s))]],[])))))
    else(decide (x.length+s.length<=1099511627776)∧(decide (o.length+Cm (x++s)<=1099511627776)∧((AV.tup [],[AObj.box [.pv (.str (o++(x++s)))]],([]:List AObj))=(.tup [],[.box [.pv (.str (Wj o n s))]],[]))))):=by
   intro b x hx hb e;have i : ∀ g:List UInt8,g=(if decide (n ≥ 0)&&decide (o≠[])then o++[43]else o)->Wj o n s=g++(x++s):=by intro g h2;unfold Wj;rw[hb,<- h2,<- e]
   refine YH (λj=>OV (λh1=> ?_) λh1=> ?_) λj=> ?_
   ·have h1:o≠[]:=by simpa using h1
    refine⟨by simp;omega,by simp;omega,by simp;omega,?_⟩;rw[i (o++[43]) (by simp[j,h1])]
   ·have h1:o=[]:=by simpa using h1
    refine⟨by simp;omega,by simp;omega,?_⟩;rw[i o (by simp[h1])]
   ·refine⟨by simp;omega,by simp;omega,?_⟩;rw[i o (by simp[j])]
  refine i2w n s o ⟨Zb (n,()) rfl (by show(decide (-9223372036854775808<=n)&&decide (n<=9223372036854775807));rw[eY k,eY l];rfl),Zc (n,()) rfl (OV (λh1=> ?_) λh1=> ?_)⟩
  ·have h1:s≠[]:=by simpa using h1
   have a:decide ((Yw n).s.length<=1000000):=eY (by omega);refine ZP (λh2=> ?_) λh2=>ZP (λh3=> ?_) λh3=> ?_
   ·have h2:n=1:=h2;exact⟨Zb (Yw n,(⟨[49]⟩:Str),()) rfl a,Zc (Yw n,(⟨[49]⟩:Str),()) rfl (fin true _ (by show(IX (Yw n).s [49]).length<=21;omega) (by simp[h1,h2]) rfl)⟩
   ·have h3:n = -1:=h3;exact⟨Zb (Yw n,(⟨[49]⟩:Str),()) rfl a,Zc (Yw n,(⟨[49]⟩:Str),()) rfl (fin true _ (by show(IX (Yw n).s [49]).length<=21;omega) (by simp[h1,h3]) rfl)⟩
   ·have h2:n≠1:=h2;have h3:n ≠ -1:=h3;exact fin false _ hi (by simp[h2,h3]) rfl
  ·have h1:s=[]:=by simpa using h1
   exact fin false _ hi (by simp[h1]) rfl
 ·cases h
def f2v(o:List UInt8)(n:Int)(s:List UInt8)(b : -9223372036854775808<=n)(a:n<=9223372036854775807):(Wj o n s).length<=o.length+1+21+s.length:=by have hi:=af n b a;have hi:(Yw n).s.length<=21:=hi;have ht:=c2r (Yw n).s [49];unfold Wj;split <;> split <;> simp <;> omega
def c3h(l:Lin)(g:Zf l): ∀ (m i:Nat) (o:List UInt8),m+i=l.t.length->o.length<=100*i ->
  At JS 0 (Za Km (Ze (⟨if decide (l.k≠0)||decide ((l.t.drop i).foldl (λo t=>Wj o t.c t.v.s) o=[])then Wj ((l.t.drop i).foldl (λo t=>Wj o t.c t.v.s) o) l.k []else(l.t.drop i).foldl (λo t=>Wj o t.c t.v.s) o⟩:Str))) JL 0 37 [(1,.ptr 0 0),(3,.ptr 1 0),(4,.fn 58 [] [.ptr 1 0]),(12,.pv (enc l.t)),(13,.pv (.int .i64 l.t.length)),(14,.pv (.int .i64 i))] [.obj (.box [.pv (.int .i64 l.k),.pv (enc l.t)]),.obj (.box [.pv (.str o)])]:=by
 have hlen:=Vq g;have hk:=Ju g;intro m
 induction m with
 | zero=>
  intro i o hi ho;have e:l.t.drop i=[]:=IB (by omega);rw[e,List.foldl_nil];have b:Uj [.pv (.int .i64 l.k),.pv (.str []),.ptr 0 0] [.box [.pv (.str o)]]:=by simp only[Uj,Ik,fu,Ig];exact⟨⟨⟨by omega,by omega⟩,by omega⟩,by omega⟩
  refine a7s l o i (Z5 (Xh (by omega)) (OV (λh1=>⟨b,?_⟩) λh1=>ZP (λh2=>⟨b,?_⟩) λh2=> ?_))
  ·have h1:l.k≠0:=by simpa using h1
   rw[fw (by simp[h1])];exact⟨rfl,rfl⟩
  ·have h2:o=[]:=h2;rw[fw (by simp[h2])];exact⟨rfl,rfl⟩
  ·have h1:l.k=0:=by simpa using h1
   have h2:o≠[]:=h2;rw[fo (by simp[h1,h2])];exact⟨rfl,rfl⟩
 | succ m ih=>
  intro i o hi ho;have a:i<l.t.length:=by omega
  have e:l.t.drop i=l.t[i]::l.t.drop (i+1):=Ir a;rw[e,I1];obtain⟨h,c1,c2,c3⟩:=XA g (Iz a);have hn:=Aq h;have hpl:=f2v o l.t[i].c l.t[i].v.s (by omega) (by omega);refine a7s l o i (ZZ (Xd a) ⟨ZT a rfl,Ym a ⟨?_,?_⟩⟩)
  ·have b:Uj [.pv (.int .i64 l.t[i].c),.pv (.str l.t[i].v.s),.ptr 0 0] [.box [.pv (.str o)]]:=by simp only[Uj,Ik,fu];exact⟨⟨⟨by omega,by omega⟩,by omega⟩,by omega⟩
   exact b
  ·rw[next (by omega)];exact ih (i+1) (Wj o l.t[i].c l.t[i].v.s) (by omega) (by omega)
def c8o: ∀ a:Lin×Unit,Ye a.1->Zh JS 0 (Za Km (Ze (⟨YD a.1⟩:Str))) JL [] (Z7 e5p (encL a)):=by
 rintro⟨l,⟨⟩⟩ h;show Zh JS 0 (Za Km (Ze (⟨YD l⟩:Str))) _ _ _;refine f4o l ⟨Zb (l,()) rfl h,Zc (l,()) rfl (Xj (λb=> ?_) λb=> ?_)⟩
 ·have b:Zf l=false:=b;unfold YD;rw[b];exact⟨rfl,rfl⟩
 ·have b:Zf l:=b;unfold YD;rw[b,fw rfl,Im];exact c3h l b l.t.length 0 [] (by omega) (by simp)
structure BoxT where
 v:List Str
 m:Int
 deriving DecidableEq
instance:Enc BoxT where
 sz:=2
 enc x:=.agg [enc x.v,enc x.m]
 dec | .agg [a,b]=>⟨dec a,dec b⟩|_=>⟨[],0⟩
 is | .agg [a,b]=>is (List Str) a&&is Int b|_=>false
 is_enc v:=by simp
 dec_enc v:=by simp
 sub p h:=by
  cases p with
  | agg xs=>
   match xs,h with
   | [a,b],h=>simp only[Ik]at h;exact .agg (.cons (Enc.sub a h.1).2 (.cons (Enc.sub b h.2).2 .nil))
  | _=>cases h
@[simp] theorem j5p (a b : PV) : is BoxT (.agg [a, b]) = (is (List Str) a && is Int b) := rfl
@[simp] theorem j4w (a b : PV) : (dec (.agg [a, b]) : BoxT) = ⟨dec a, dec b⟩ := rfl
structure Mono where
 c:Int
 v:List Str
 deriving DecidableEq
instance:Enc Mono where
 sz:=2
 enc x:=.agg [enc x.c,enc x.v]
 dec | .agg [a,b]=>⟨dec a,dec b⟩|_=>⟨0,[]⟩
 is | .agg [a,b]=>is Int a&&is (List Str) b|_=>false
 is_enc v:=by simp
 dec_enc v:=by simp
 sub p h:=by
  cases p with
  | agg xs=>
   match xs,h with
   | [a,b],h=>simp only[Ik]at h;exact .agg (.cons (Enc.sub a h.1).2 (.cons (Enc.sub b h.2).2 .nil))
  | _=>cases h
@[simp] theorem j5o (a b : PV) : is Mono (.agg [a, b]) = (is Int a && is (List Str) b) := rfl
@[simp] theorem j2g (a b : PV) : (dec (.agg [a, b]) : Mono) = ⟨dec a, dec b⟩ := rfl
structure NilS where
 deriving DecidableEq
instance:Enc NilS where
 sz:=1
 enc _:=.sl 0 true []
 dec _:=⟨⟩
 is | .sl 0 true []=>true|_=>false
 is_enc _:=rfl
 dec_enc _:=rfl
 sub p h:=by
  cases p with
  | sl s t xs=>
   cases xs with
   | nil=>cases s with
    | zero=>cases t with
     | true=>exact .refl _
     | false=>cases h
    | succ s=>cases h
   | cons x xs=>cases s <;> cases t <;> cases h
  | _=>cases h
abbrev j0r(ps:List PV)(k:Int×Er->Prop):Prop:=V6 (λ(x:Str×Unit)=>decide (Cm (Str.s (Ib x))<=281474976710656)) (λ(x:Str×Unit)=>Xk (Ib x)) ps k
noncomputable def Uv:IC:=UO
def Uu:List IRes:=[.tmp 2]
abbrev e5u:Nat:=67
def QM:ZH:=YT [(119,.pure (preT (λ_:Str×Str×Unit=>true)) (Zp (λx:Str×Str×Unit=>x.2.1.s.isPrefixOf x.1.s))),(120,.pure (preT (λx:Str×Unit=>decide (x.1.s.length<=281474976710656))) (Zp (λx:Str×Unit=>Xk x.1))),(52,.pure (preT (λx:Int×Unit=>decide (-9223372036854775808<=x.1)&&decide (x.1<=9223372036854775807))) (Zp (λx:Int×Unit=>Yw x.1)))]
def g1g{G:PV->Prop}(s:List UInt8):=Vo (∃ a:Bool,(b6h s a)∧(if (a) then(a4o s)=true∧(j0r (b4m s) λb=>(d7v b s G))else(At QM 0 (Za Uu G) Uv 0 67 [Zg s,Gq s,OL s,(36,Zj)] []))) G (dm [dv Bool,dv (Int×Er),dv Str] 70 0x2222222222220222222222022222022212271200a4222201842220294161103e452) QM Uu Uv (Z7 67 [.str s]) (by delta b6h a4o b4m Zu d7v Zg Gq OL Zj;exact rfl)
def c6x(b:PV->Prop)(Zl:List UInt8)(a:Int):Prop:=At QM 0 (Za Uu b) Uv 0 67 [Zg Zl,Gq Zl,OL Zl,(36,ZY a)] []
def d3o(b:List UInt8)(Zl:Int)(a:PV->Prop):Prop:=if (decide (Iq (TK b Zl)<48))=true then a (.bool false)else(if (decide (Iq (TK b Zl)>57)) then a (.bool false)else(c6x a b Zl))
def a9x{G:PV->Prop}(s:List UInt8)(i:Int):=VP (if (decide (i<(↑(Cm (Zr s)):Int))) then(b0v i s)=true∧((b0n s i)∧(if (decide (Iq (TK s i)<97)) then if (i==0)=true then G (.bool false)else(d3o s i G)else(if (decide (Iq (TK s i)>122)) then if (i==0)=true then G (.bool false)else(d3o s i G)else(c6x G s i))))else(b1f s G)) G (dm [] 137 0x22202222005420222222220200014222220222220064222220222222222200b422202d42220200014222220222220064222220222222222200b42222220304213107542) QM Uu Uv 0 67 [Zg s,Gq s,(35,.pv (.int .i64 (Zr s).length)),(36,Zv i)] [] (by delta b0v a2w b0n TK Zg Gq OL Yx ZY c6x d3o Zu b1f;exact rfl)
def c3o(s:List UInt8)(hs:s.length<=281474976710656): ∀ (m i:Nat),m+i=s.length->At QM 0 (Za Uu (Ze (Vt s i))) Uv 0 67 [(0,.pv (.str s)),(34,.pv (.sl 1 false (Zr s))),(35,.pv (.int .i64 (Zr s).length)),(36,.pv (.int .i64 i))] []:=by
 intro m
 induction m with
 | zero=>
  intro i hi;have e:Vt s i=(!(s==[])&&decide (s.length<=30)):=by
   unfold Vt;cases i with
   | zero=>cases s with
    | nil=>rfl
    | cons c r=>simp at hi
   | succ i=>simp only;rw[IB (show s.length<=i+1 by omega)];simp
  rw[e];refine a9x s i (Z5 (Xh (by rw[JH];omega)) (YC (λh=>Zy ?_) λh=>Zy ?_))
  ·rw[h,IE];exact decide_eq_decide.2 (by omega)
  ·rw[h,aX]
 | succ m ih=>
  intro i hi;have b:i<s.length:=by omega
  have h:=ih (i+1) (by omega);refine a9x s i ?_;rw[c3c b,next (by omega)];have a:(lowB s[i]=false∧(i=0∨digB s[i]=false))->Ze (Vt s i) (.bool false):=λhb=>Zy (a6l b hb).symm
  have go:(lowB s[i]∨(i≠0∧digB s[i]))->At QM 0 (Za Uu (Ze (Vt s i))) Uv 0 67 [(0,.pv (.str s)),(34,.pv (.sl 1 false (Zr s))),(35,.pv (.int .i64 (Zr s).length)),(36,.pv (.int .i64 ((i+1:Nat):Int)))] []:=λhb=>by rw[a7d b hb];exact h
  have g:lowB s[i]=false->(if ((i:Int)==0) then Ze (Vt s i) (.bool false)else if decide ((s[i].toNat:Int)<48)=true then Ze (Vt s i) (.bool false)else if decide ((s[i].toNat:Int)>57)=true then Ze (Vt s i) (.bool false)else At QM 0 (Za Uu (Ze (Vt s i))) Uv 0 67 [(0,.pv (.str s)),(34,.pv (.sl 1 false (Zr s))),(35,.pv (.int .i64 (Zr s).length)),(36,.pv (.int .i64 ((i+1:Nat):Int)))] []):=by intro j;refine ZP (λk=>a ⟨j,.inl (by omega)⟩) λk=>YH (λh1=>a ⟨j,.inr (Tu (by omega))⟩) λh1=>YH (λh2=>a ⟨j,.inr (Tu (by omega))⟩) λh2=>go (.inr ⟨by omega,Ul.2 (by omega)⟩)
  refine ZZ (Xd (by rw[JH];exact b)) ⟨by rw[JH];simp[b],by rfl,?_⟩;refine YH (λh1=>g (Tn ?_)) λh1=>YH (λh2=>g (Tn ?_)) λh2=>go (.inl (b0u.2 ?_))
  ·have h1:(s[i].toNat:Int)<97:=h1;omega
  ·have h2:(s[i].toNat:Int)>122:=h2;omega
  ·have h1 : ¬ (s[i].toNat:Int)<97:=h1;have h2 : ¬ (s[i].toNat:Int)>122:=h2;omega
def c7g: ∀ a:Str×Unit,decide (a.1.s.length<=281474976710656)->Zh QM 0 (Za Uu (Ze (nameB a.1))) Uv [] (Z7 e5u (encL a)):=by
 rintro⟨⟨s⟩,⟨⟩⟩ b;have b:s.length<=281474976710656:=by simpa using b
 refine g1g s (Zc (⟨s⟩,⟨[95]⟩,()) rfl (YC (λh=> ?_) λh=> ?_))
 ·have h:[95].isPrefixOf s:=h;obtain⟨r,rfl⟩ : ∃ r,s=95::r:=by
   cases s with
   | nil=>simp at h
   | cons c r=>
    have:95=c:=by simpa using h
    exact⟨r,by rw[this]⟩
  have e:Ih (Iu 1) (Iy (Cm (95::r)) (95::r))=r:=by rw[IA (I6 _)];rfl
  simp only[e];refine⟨by simp,Zb (⟨r⟩,()) rfl (by simp at b ⊢;omega),Zc (⟨r⟩,()) rfl ⟨by show(a7y (enc (Xk ⟨r⟩).2)&&true);rw[h8s];rfl,?_⟩⟩;show if Cx (enc (Xk ⟨r⟩).2) then(if decide ((Xk ⟨r⟩).1>0) then(if _ then _ else Ze (nameB ⟨95::r⟩) _)else Ze (nameB ⟨95::r⟩) _)else Ze (nameB ⟨95::r⟩) _
  rw[c3g];by_cases h9:r.length<=9
  ·rw[<- d9i r h9,eY h9,IZ];refine YC (λh1=>YC (λh2=>ZZ (by simp;omega) ⟨Zb ((Xk ⟨r⟩).1,()) rfl (by have:=a3u ⟨r⟩;simp;omega),Zc ((Xk ⟨r⟩).1,()) rfl ⟨by simp,Zy ?_⟩⟩) λh2=>Zy ?_) λh1=>Zy ?_
   ·rw[h1,h2];simp only[IE,IZ];rfl
   ·rw[h2];simp
   ·rw[h1];simp
  ·rw[fF h9,I5];refine YC (λh1=>YC (λh2=>Z5 (by simp;omega) (Zy rfl)) λh2=>Zy rfl) λh1=>Zy rfl
 ·have h:[95].isPrefixOf s=false:=h;show At QM 0 (Za Uu (Ze (nameB ⟨s⟩))) Uv 0 67 _ _;rw[a9f h];exact c3o s b s.length 0 (by omega)
structure LR where
 k:Int
 w:Nat
 ts:List Coef
def LR.view(r:LR):Lin:=⟨r.k,r.ts.take r.w⟩
def LR.av(r:LR)(l:Nat):AV:=.agg [.pv (.int .i64 r.k),.row l r.ts.length 0 r.w]
def LR.ob(r:LR):AObj:=.row false 79 2 (r.ts.map enc)
def Jm:Nat->Nat->Nat->List Coef->List Coef×Nat
 | 0,_,j,ts=>(ts,j)
 | m+1,i,j,ts=>if (ts.getD i ⟨⟨[]⟩,0⟩).c=0 then Jm m (i+1) j ts else Jm m (i+1) (j+1) (ts.set j (ts.getD i ⟨⟨[]⟩,0⟩))
def BG(k:Int)(o:List Coef):LR:=⟨k,(Jm o.length 0 0 o).2,(Jm o.length 0 0 o).1⟩
def Uz(l:Lin)(s:Str)(c:Int):LR:=BG l.k (We s c false l.t)
def Cu(l x:Lin)(k:Int):LR:=x.t.foldl (λo t=>Uz o.view t.v (Vi (k*t.c))) ⟨Vi (l.k+Vi (k*x.k)),l.t.length,l.t⟩
def a4e: ∀ (m i j:Nat) (ts:List Coef),(Jm m i j ts).1.length=ts.length
 | 0,_,_,_=>rfl
 | m+1,i,j,ts=>by
  rw[Jm];split
  ·exact a4e m _ _ _
  ·rw[a4e m];simp
def d0t: ∀ (m i j:Nat) (ts:List Coef),m+i=ts.length->j<=i->(Jm m i j ts).2<=ts.length
 | 0,i,j,ts,h,hj=>by rw[Jm];show j<=_;omega
 | m+1,i,j,ts,h,hj=>by
  rw[Jm];split
  ·exact d0t m _ _ _ (by omega) (by omega)
  ·have:=d0t m (i+1) (j+1) (ts.set j (ts.getD i ⟨⟨[]⟩,0⟩)) (by simp;omega) (by omega);simpa using this
def g1e(k:Int)(o:List Coef):(BG k o).ts.length=o.length:=a4e _ _ _ _
def i6x(k:Int)(o:List Coef):(BG k o).w<=o.length:=d0t _ _ _ _ (by omega) (by omega)
def Lb(o:List Coef): ∀ (m i j:Nat) (ts:List Coef),m+i=o.length->ts.length=o.length->j<=i->ts.take j=(o.take i).filter (λt=>decide (t.c≠0))->ts.drop i=o.drop i->(Jm m i j ts).1.take (Jm m i j ts).2=o.filter λt=>decide (t.c≠0)
 | 0,i,j,ts,hm,hts,hji,h1,h2=>by rw[Jm];show ts.take j=_;rw[h1,IA (by omega)]
 | m+1,i,j,ts,hm,hts,hji,h1,h2=>by
  have e:i<o.length:=by omega
  have a:i<ts.length:=by omega
  have g:j<ts.length:=by omega
  have k:ts[i]=o[i]:=by
   have:(ts.drop i)[0]? = (o.drop i)[0]? :=by rw[h2]
   simpa [a,e]using this
  have b:(o.take (i+1))=o.take i++[o[i]]:=by rw[I9,aQ e];rfl
  have l:ts.getD i ⟨⟨[]⟩,0⟩=ts[i]:=by simp[Ii,a]
  rw[Jm,l];split
  ·rename_i h;refine Lb o m (i+1) j ts (by omega) hts (by omega) ?_ ?_
   ·rw[h1,b,ah];have:o[i].c=0:=by rw[<- k];exact h
    simp[this]
   ·have:=congrArg (Ih 1) h2;simpa [bG,bT]using this
  ·rename_i h;refine Lb o m (i+1) (j+1) (ts.set j ts[i]) (by omega) (by simp[hts]) (by omega) ?_ ?_
   ·rw[b,ah,<- h1];have:decide (o[i].c≠0):=by rw[<- k];exact eY h
    simp only[List.filter_cons,this,gq,List.filter_nil];rw[I9,List.getElem?_set_self g,List.take_set_of_le (I6 j),k];rfl
   ·rw[List.drop_set_of_lt (by omega)]
    have:=congrArg (Ih 1) h2;simpa [bG,bT]using this
def c9h(l:Lin)(s:Str)(c:Int):(Uz l s c).view=J2 l s c:=by show(⟨_,_⟩:Lin)=⟨_,_⟩;congr 1;exact Lb _ _ 0 0 _ (by omega) rfl (by omega) (by simp) rfl
def a1o(k:Int): ∀ (x:List Coef) (r:LR),(x.foldl (λo t=>Uz o.view t.v (Vi (k*t.c))) r).view=x.foldl (λo t=>J2 o t.v (Vi (k*t.c))) r.view
 | [],r=>rfl
 | t::x,r=>by rw[I1,I1,a1o k x,c9h]
def c2e(l x:Lin)(k:Int):(Cu l x k).view=Yf l x k:=by
 have:=a1o k x.t ⟨Vi (l.k+Vi (k*x.k)),l.t.length,l.t⟩;have e:LR.view ⟨Vi (l.k+Vi (k*x.k)),l.t.length,l.t⟩=⟨Vi (l.k+Vi (k*x.k)),l.t⟩:=by show(⟨_,l.t.take l.t.length⟩:Lin)=_;rw[bA]
 rw[e]at this;exact this
noncomputable def DZ:List AV->List AObj->Bool
 | [.pv l,.pv (.str s),.pv (.int .i64 c)],[]=>can Lin l&&decide ((dec l:Lin).t.length<=1000000)
 | _,_=>false
def JD(r:LR)(l:Nat)(os:List AObj):AV×List AObj×List AObj:=(r.av l,os,[r.ob])
def Db:List AV->List AObj->AV×List AObj×List AObj
 | [.pv l,.pv (.str s),.pv (.int .i64 c)],_=>JD (Uz (dec l) ⟨s⟩ c) 0 []
 | _,_=>d5r
def b9v(k:Int)(w:Nat)(xs:List PV):Lin:=⟨k,((dec (PV.sl 2 false xs):List Coef)).take w⟩
noncomputable def DI:List AV->List AObj->Bool
 | [.agg [.pv (.int .i64 k),.row 0 q 0 w],.pv (.str s),.pv (.int .i64 c)],[.row fz ty 2 xs]=>can (List Coef) (.sl 2 false xs)&&xs.length==q&&decide (w<=q)&&decide (w<=1000000)
 | _,_=>false
def S9:List AV->List AObj->AV×List AObj×List AObj
 | [.agg [.pv (.int .i64 k),.row 0 q 0 w],.pv (.str s),.pv (.int .i64 c)],[.row fz ty 2 xs]=>JD (Uz (b9v k w xs) ⟨s⟩ c) 1 [.row true ty 2 xs]
 | _,_=>d5r
noncomputable def Cz:List AV->List AObj->Bool
 | [.pv l,.pv x,.pv (.int .i64 k)],[]=>can Lin l&&can Lin x&&decide ((dec l:Lin).t.length<=500000)&&decide ((dec x:Lin).t.length<=500000)
 | _,_=>false
def Sw:List AV->List AObj->AV×List AObj×List AObj
 | [.pv l,.pv x,.pv (.int .i64 k)],[]=>JD (Cu (dec l) (dec x) k) 0 []
 | [.agg [.pv (.int .i64 c),.row 0 q 0 w],.pv x,.pv (.int .i64 k)],[.row fz ty 2 xs]=>JD (Cu (b9v c w xs) (dec x) k) 1 [.row true ty 2 xs]
 | _,_=>d5r
noncomputable def Yu:IC:=Xx Proofs.Tryz.f201
def Yo:List IRes:=[.cell true 2 6]
abbrev b8k:Nat:=100
def YQ:ZH:=YT []
def U9(a:List UInt8):Nat×AV:=(1,.pv (.str a))
def Zk:AV:=.pv (.sl 0 true [])
def Xz:Slot:=.obj (.box [Zj,Zk])
def a4q(a:Lin):Slot:=.obj (.box [XP a,Zk])
def h1g{G:AV×List AObj×List AObj->Prop}(l:Lin)(s:List UInt8)(c:Int):=Mr (A:=At YQ 0 (Z9 0 Yo G) Yu 0 100 [U9 s,(2,Zv c),(3,.ptr 0 0),(6,.ptr 1 0),(7,.ptr 2 0),(8,UR),(9,Zj)] [Y8 l,Xz,a4q l]) (C:=Zh YQ 0 (Z9 0 Yo G) Yu [] (Yr 100 [.pv (enc l),.pv (.str s),.pv (enc c)] [])) (λh=>Zh.to (.nil) h) (by delta U9 Zv UR Zj XP Xt Wt Y8 Zk Xz a4q;exact rfl)
def R5(a:Int)(Zl:Lin):Bool:=decide (0<=a)&&decide (Iu a<Cm (Xt Zl))&&Enc.sz Coef==2
def Pb(b:Lin)(Zl:Int)(a:Coef):Prop:=AV.pv (PV.rptr (Ij (Ii (Xt b) (Iu Zl) default)))=AV.pv (PV.rptr (Ij ((enc) a)))
def a0d(b:List UInt8)(Zl a:Int):List (Nat×AV):=[U9 b,(2,Zv Zl),(3,.ptr 0 0),(6,.ptr 1 0),(7,.ptr 2 0),(8,XM),(9,ZY a)]
def Fv(a:Coef)(Zl:Int):Int:=IK Ip (Iq (Q4 a)+Zl)
def f1d(a:Coef)(Zl:List UInt8)(g:AV×List AObj×List AObj->Prop)(e h:Int)(b:Lin)(i:Bool):Prop:=if (IG (Vf a)==Zl)=true then At YQ 0 (Z9 0 Yo g) Yu 0 100 (a0d Zl e h) [Y8 b,Xz,.obj (.box [XP b,.row 3 1 0 1]),.obj (.row false 79 2 [.agg [Kn a,.int .i64 (Fv a e)]])]else(At YQ 0 (Z9 0 Yo g) Yu 0 100 [U9 Zl,(2,Zv e),(3,.ptr 0 0),(6,.ptr 1 0),(7,.ptr 2 0),(8,.pv (.bool i)),(9,ZY h)] [Y8 b,Xz,.obj (.box [XP b,.row 3 1 0 1]),.obj (.row false 79 2 [.agg [Kn a,Hm a]])])
def MM:List (Nat×AV):=[(6,.ptr 0 0),(7,.ptr 1 0),(11,Zj),(12,Zj)]
def e4p{G:AV×List AObj×List AObj->Prop}(l:Lin)(s:List UInt8)(c:Int)(p:Bool)(i:Int):=Mr (A:=if (GJ i l)=true then(R5 i l)=true∧(∃ a:Coef,(Pb l i a)∧(if (!p) then if (!(I7 (IG (Vf a)) s||IG (Vf a)==s))=true then if (IG (Vf a)==s)=true then At YQ 0 (Z9 0 Yo G) Yu 0 100 (a0d s c i) [Y8 l,Xz,.obj (.box [XP l,.row 3 2 0 2]),.obj (.row false 79 2 [.agg (Jd s c),.agg [Kn a,.int .i64 (Fv a c)]])]else(At YQ 0 (Z9 0 Yo G) Yu 0 100 (a0d s c i) [Y8 l,Xz,.obj (.box [XP l,.row 3 2 0 2]),.obj (.row false 79 2 [.agg (Jd s c),.agg [Kn a,Hm a]])])else(f1d a s G c i l p)else(f1d a s G c i l p)))else(if (!p) then At YQ 0 (Z9 0 Yo G) Yu 1 100 MM [Xz,.obj (.box [XP l,.row 2 1 0 1]),.obj (.row false 79 2 [.agg (Jd s c)])]else(At YQ 0 (Z9 0 Yo G) Yu 1 100 MM [Xz,a4q l]))) (C:=At YQ 0 (Z9 0 Yo G) Yu 0 100 [U9 s,(2,Zv c),(3,.ptr 0 0),(6,.ptr 1 0),(7,.ptr 2 0),(8,.pv (.bool p)),(9,Zv i)] [Rb l,Xz,a4q l]) (λh=>bN (dm [dr Coef] 99 0x222220064022222202222222008422222202222220222222200842022220222220064222222015422222032425105242) h) (by delta Xt WY GJ R5 Pb U4 Vf U9 Zv XM Yx ZY a0d XP Wt Y8 Zj Zk Xz Jd Kn Q4 Fv Hm f1d MM a4q;exact rfl)
def JW(a:List Coef):List PV:=Ie enc a
def b3h(a:Int)(Zl:Nat)(b:List Coef):Bool:=decide (0<=a)&&decide (0+Iu a<Zl)&&Cm (JW b)==Zl
def d0b(a:List Coef)(Zl:Nat)(b:Int):Bool:=Cm (JW a)==Zl&&decide (0+Iu b<Cm (JW a))
def NP(a:List Coef)(Zl:Int):List PV:=Ij (Ii (JW a) (0+Iu Zl) default)
def b5a(a:List Coef)(Zl:Int):PV:=PV.agg (a3r (NP a Zl) 0 [Sh.str,Sh.int .i64])
def MX(a:Lin)(Zl:Nat):Slot:=.obj (.box [XP a,.row 2 Zl 0 Zl])
def AL(a:List Coef):AObj:=.row false 79 2 (JW a)
def d5c(a:List Coef):Slot:=.obj (.row false 79 2 (a.map enc))
def a6r{G:AV×List AObj×List AObj->Prop}(l:Lin)(s:List UInt8)(c:Int)(j i:Int)(q:Nat)(ts:List Coef):=Mr (A:=if (decide (i<(↑(q - 0):Int)))=true then(b3h i q ts)=true∧((d0b ts q i)∧((decide (0+1+Cm [Sh.int .i64]<=Cm (NP ts i))&&XG (NP ts i) (0+1) [Sh.int .i64])∧(if (Iq (Ii (NP ts i) (0+1) default) != 0) then(b3h i q ts)=true∧((d0b ts q i)∧((decide (0+Cm [Sh.str,Sh.int .i64]<=Cm (NP ts i))&&XG (NP ts i) 0 [Sh.str,Sh.int .i64])∧((b3h j q ts)∧((Cm (Ie enc ts)==q&&decide (0+Iu j<Cm (Ie enc ts))&&Cm (Ij (b5a ts i))==2&&decide (0+2<=Cm (NP ts j))&&aO (b5a ts i))∧(At YQ 0 (Z9 0 Yo G) Yu 1 100 [(6,.ptr 0 0),(7,.ptr 1 0),(11,ZY j),(12,ZY i)] [Xz,MX l q,.obj (.row false 79 2 (List.set (Ie enc ts) (0+Iu j) (PV.withCells (Ii (Ie enc ts) (0+Iu j) default) (splice (NP ts j) 0 (Ij (b5a ts i))))))])))))else(At YQ 0 (Z9 0 Yo G) Yu 1 100 [(6,.ptr 0 0),(7,.ptr 1 0),(11,Zv j),(12,ZY i)] [Xz,MX l q,.obj (AL ts)]))))else((true&&decide (0<=j)&&decide (0<=Iu j)&&decide (0+Iu j<=q)&&Cm (Ie enc ts)==q)∧(G ((.agg [XP l,.row 0 q 0 (0+Iu j)]),([],[AL ts]))))) (C:=At YQ 0 (Z9 0 Yo G) Yu 1 100 [(6,.ptr 0 0),(7,.ptr 1 0),(11,Zv j),(12,Zv i)] [Xz,MX l q,d5c ts]) (λh=>bN (dm [] 29 0x102022131113100a42113101542) h) (by delta JW b3h d0b NP b5a Yx ZY Zj Zk Xz XP MX Zv AL;exact rfl)
def J5(a:List UInt8)(Zl:Int):List PV:=Ih 0 (Iy 1 [PV.agg [PV.str a,PV.int .i64 Zl]])
def c8m(e:List Coef)(Zl:Nat)(a:List UInt8)(b:Int):Bool:=Cm (JW e)==Zl&&Zl==Zl&&decide ((Zl+Cm (J5 a b))*24<=1099511627776)&&decide (Zl+Cm (J5 a b)<=1099511627776)
def b6r(b:List Coef)(Zl:List UInt8)(a:Int):List PV:=Ie enc b++Ih 0 (Iy 1 [PV.agg [PV.str Zl,PV.int .i64 a]])
def a1p(a:Coef)(Zl:Int):List PV:=Ih 0 (Iy 1 [PV.agg [aG Sh.str (Ii (U4 a) 0 default),PV.int .i64 (IK Ip (Iq (Ii (U4 a) (0+1) default)+Zl))]])
def b1w(e:Nat)(Zl:List UInt8)(a:Int)(b:Coef):Nat:=e+Cm (J5 Zl a)+Cm (a1p b a)
def EK(a:Coef):List PV:=Ih 0 (Iy 1 [PV.agg [aG Sh.str (Vf a),aG (Sh.int .i64) (Q4 a)]])
def b2x(e:Nat)(Zl:List UInt8)(a:Int)(b:Coef):Nat:=e+Cm (J5 Zl a)+Cm (EK b)
def f1u(b:Coef)(Zl:List UInt8)(g:List Coef)(a:Nat)(e:Int)(i:AV×List AObj×List AObj->Prop)(j:Int)(h:Lin)(l:Bool):Prop:=if (IG (Vf b)==Zl)=true then(Cm (JW g)==a&&a==a&&decide ((a+Cm (a1p b e))*24<=1099511627776)&&decide (a+Cm (a1p b e)<=1099511627776))=true∧(At YQ 0 (Z9 0 Yo i) Yu 0 100 [U9 Zl,(2,Zv e),(3,.ptr 0 0),(6,.ptr 1 0),(7,.ptr 2 0),(8,XM),(9,ZY j)] [Y8 h,Xz,.obj (.box [.pv (.int .i64 h.k),.row 3 (a+Cm (a1p b e)) 0 (a+Cm (a1p b e))]),.obj (.row false 79 2 (Ie enc g++Ih 0 (Iy 1 [PV.agg [aG Sh.str (Vf b),PV.int .i64 (Fv b e)]])))])else((Cm (JW g)==a&&a==a&&decide ((a+Cm (EK b))*24<=1099511627776)&&decide (a+Cm (EK b)<=1099511627776))∧(At YQ 0 (Z9 0 Yo i) Yu 0 100 [U9 Zl,(2,Zv e),(3,.ptr 0 0),(6,.ptr 1 0),(7,.ptr 2 0),(8,.pv (.bool l)),(9,ZY j)] [Y8 h,Xz,.obj (.box [.pv (.int .i64 h.k),.row 3 (a+Cm (EK b)) 0 (a+Cm (EK b))]),.obj (.row false 79 2 (Ie enc g++Ih 0 (Iy 1 [PV.agg [aG Sh.str (Vf b),aG (Sh.int .i64) (Q4 b)]])))]))
def a9e{G:AV×List AObj×List AObj->Prop}(l:Lin)(s:List UInt8)(c:Int)(p:Bool)(i:Int)(q:Nat)(ts:List Coef):=Mr (A:=if (GJ i l)=true then(R5 i l)=true∧(∃ a:Coef,(Pb l i a)∧(if (!p) then if (!(I7 (IG (Vf a)) s||IG (Vf a)==s))=true then(c8m ts q s c)=true∧(if (IG (Vf a)==s) then(Cm (b6r ts s c)==q+Cm (J5 s c)&&q+Cm (J5 s c)==q+Cm (J5 s c)&&decide ((b1w q s c a)*24<=1099511627776)&&decide (q+Cm (J5 s c)+Cm (a1p a c)<=1099511627776))=true∧(At YQ 0 (Z9 0 Yo G) Yu 0 100 (a0d s c i) [Y8 l,Xz,.obj (.box [XP l,.row 3 (b1w q s c a) 0 (b1w q s c a)]),.obj (.row false 79 2 (Ie enc ts++Ih 0 (Iy 1 [PV.agg [PV.str s,PV.int .i64 c]])++Ih 0 (Iy 1 [PV.agg [aG Sh.str (Vf a),PV.int .i64 (Fv a c)]])))])else((Cm (b6r ts s c)==q+Cm (J5 s c)&&q+Cm (J5 s c)==q+Cm (J5 s c)&&decide ((b2x q s c a)*24<=1099511627776)&&decide (q+Cm (J5 s c)+Cm (EK a)<=1099511627776))∧(At YQ 0 (Z9 0 Yo G) Yu 0 100 (a0d s c i) [Y8 l,Xz,.obj (.box [XP l,.row 3 (b2x q s c a) 0 (b2x q s c a)]),.obj (.row false 79 2 (Ie enc ts++Ih 0 (Iy 1 [PV.agg [PV.str s,PV.int .i64 c]])++Ih 0 (Iy 1 [PV.agg [aG Sh.str (Vf a),aG (Sh.int .i64) (Q4 a)]])))])))else(f1u a s ts q c G i l p)else(f1u a s ts q c G i l p)))else(if (!p) then(c8m ts q s c)=true∧(At YQ 0 (Z9 0 Yo G) Yu 1 100 MM [Xz,.obj (.box [XP l,.row 2 (q+Cm (J5 s c)) 0 (q+Cm (J5 s c))]),.obj (.row false 79 2 (b6r ts s c))])else(At YQ 0 (Z9 0 Yo G) Yu 1 100 MM [Xz,MX l q,.obj (AL ts)]))) (C:=At YQ 0 (Z9 0 Yo G) Yu 0 100 [U9 s,(2,Zv c),(3,.ptr 0 0),(6,.ptr 1 0),(7,.ptr 2 0),(8,.pv (.bool p)),(9,Zv i)] [Rb l,Xz,.obj (.box [XP l,.row 3 q 0 q]),d5c ts]) (λh=>bN (dm [dr Coef] 87 0x12200440212202122200642222220212202122200642021220212220064212201342222202c425104842) h) (by delta Xt WY GJ R5 Pb U4 Vf JW J5 c8m b6r a1p b1w U9 Zv XM Yx ZY a0d XP Wt Y8 Zj Zk Xz Q4 Fv EK b2x f1u MM MX AL;exact rfl)
noncomputable def Ql:IC:=Xx Proofs.Tryz.f191
def Qk:List IRes:=[.cell true 2 6]
abbrev b0d:Nat:=45
noncomputable def KO:ZH:=YT [(201,.own DI S9)]
def g4g{G:AV×List AObj×List AObj->Prop}(l x:Lin)(k:Int):=Mr (A:=(bO (Xt l)||Enc.sz Coef==2)=true∧((Cm ([]:List PV)==0&&0==0&&decide ((0+Cm (Xt l))*24<=1099511627776)&&decide (0+Cm (Xt l)<=1099511627776))∧(At KO 0 (Z9 0 Qk G) Ql 0 45 [(2,Zv k),(4,.ptr 0 0),(6,.ptr 1 0),(7,.ptr 2 0),(8,Zj)] [Y8 x,Xz,.obj (.box [.pv (.int .i64 (IK Ip (l.k+IK Ip (k*x.k)))),.row 3 (0+Cm (Xt l)) 0 (0+Cm (Xt l))]),.obj (.row false 79 2 (([]:List PV)++Ie enc l.t))]))) (C:=Zh KO 0 (Z9 0 Qk G) Ql [] (Yr 45 [.pv (enc l),.pv (enc x),.pv (enc k)] [])) (λh=>Zh.to (dm [] 7 0x11222) h) (by delta Xt Zv Zj XP Wt Y8 Zk Xz;exact rfl)
def a7o(a:Int)(Zl:Coef):Int:=IK Ip (a*Iq (Ii (Ih 1 (U4 Zl)) 0 default))
def EM{G:AV×List AObj×List AObj->Prop}(l x:Lin)(k:Int)(c:Int)(q w:Nat)(ts:List Coef)(i:Int):=Mr (A:=if (GJ i x)=true then(R5 i x)=true∧(∃ b:Coef,(Pb x i b)∧((R5 i x)∧(∃ a:Coef,(Pb x i a)∧((DI [.agg [Zv c,.row 0 q 0 w],.pv (.str (IG (Ii (Gs b) 0 default))),.pv (.int .i64 (a7o k a))] [AL ts])∧(At KO 0 (Z9 0 Qk G) Ql 0 45 [(2,Zv k),(4,.ptr 0 0),(6,.ptr 1 0),(7,.ptr 2 0),(8,ZY i)] [Y8 x,Xz,.obj (.box [.pv (.int .i64 (LR.k (Uz (b9v c w (Ie enc ts)) (Str.mk (IG (Ii (Gs b) 0 default))) (a7o k a)))),.row 3 (Cm (LR.ts (Uz (b9v c w (Ie enc ts)) (Str.mk (IG (Ii (Gs b) 0 default))) (a7o k a)))) 0 (LR.w (Uz (b9v c w (Ie enc ts)) (Str.mk (IG (Ii (Gs b) 0 default))) (a7o k a)))]),.obj (.row false 79 2 (Ie enc (LR.ts (Uz (b9v c w (Ie enc ts)) (Str.mk (IG (Ii (Gs b) 0 default))) (a7o k a)))))])))))else(G ((.agg [Zv c,.row 0 q 0 w]),([],[AL ts])))) (C:=At KO 0 (Z9 0 Qk G) Ql 0 45 [(2,Zv k),(4,.ptr 0 0),(6,.ptr 1 0),(7,.ptr 2 0),(8,Zv i)] [Rb x,Xz,.obj (.box [Zv c,.row 3 q 0 w]),d5c ts]) (λh=>bN (dm [dr Coef] 18 0x231225125100b42) h) (by delta Xt WY GJ R5 Pb Zv U4 Gs a7o JW AL Yx ZY XP Wt Y8 Zj Zk Xz;exact rfl)
def h3v{ts:List Coef}{i:Nat}(h:i<ts.length):ts.getD i ⟨⟨[]⟩,0⟩=ts[i]:=by simp[Ii,h]
def g4l(l:Lin)(s:List UInt8)(c:Int)(q:Nat)(ho:q<=2000000): ∀ (m i j:Nat) (ts:List Coef),m+i=q->ts.length=q->j<=i ->
  At YQ 0 (Z9 0 Yo (λr=>r=JD ⟨l.k,(Jm m i j ts).2,(Jm m i j ts).1⟩ 0 [])) Yu 1 100 [(6,.ptr 0 0),(7,.ptr 1 0),(11,.pv (.int .i64 j)),(12,.pv (.int .i64 i))] [.obj (.box [.pv (.int .i64 0),.pv (.sl 0 true [])]),.obj (.box [.pv (.int .i64 l.k),.row 2 q 0 q]),.obj (.row false 79 2 (ts.map enc))]:=by
 intro m
 induction m with
 | zero=>intro i j ts hm a g;refine a6r l s c j i q ts (Z5 (by simp;omega) ?_);refine⟨by simp[a];omega,?_⟩;subst a;simp only[IV,aI];rfl
 | succ m ih=>
  intro i j ts hm a g;have b:i<ts.length:=by omega
  have e:j<ts.length:=by omega
  refine a6r l s c j i q ts ?_;simp only[e9u enc b,e9u enc e];refine ZZ (by simp;omega) ⟨by simp;omega,by simp;omega,rfl,?_⟩;rw[Jm,h3v b];by_cases hz:ts[i].c=0
  ·refine Z5 (by show ¬ (ts[i].c != 0);simp[hz]) ?_;rw[next (by omega),fw hz];exact ih (i+1) j ts (by omega) a (by omega)
  ·refine ZZ (by show(ts[i].c != 0);simp[hz]) ⟨by simp;omega,by simp;omega,rfl,by simp;omega,?_,?_⟩
   ·simp only[Im,a,gy,IE,aI,IV,eY (show j<q by omega)];rfl
   ·rw[aI,IV,f7l,next (by omega),next (by omega),fo hz];exact ih (i+1) (j+1) (ts.set j ts[i]) (by omega) (by simp[a]) (by omega)
def Fs(l:Lin)(s:List UInt8)(c:Int)(o:List Coef)(ho:o.length<=2000000):
  At YQ 0 (Z9 0 Yo (λr=>r=JD (BG l.k o) 0 [])) Yu 1 100 [(6,.ptr 0 0),(7,.ptr 1 0),(11,.pv (.int .i64 0)),(12,.pv (.int .i64 0))] [.obj (.box [.pv (.int .i64 0),.pv (.sl 0 true [])]),.obj (.box [.pv (.int .i64 l.k),.row 2 o.length 0 o.length]),.obj (.row false 79 2 (o.map enc))]:=
 g4l l s c o.length ho o.length 0 0 o (by omega) rfl (by omega)
def g3x(l:Lin)(s:List UInt8)(c:Int)(hl:l.t.length<=1000000): ∀ (m i:Nat) (p:Bool) (q:Nat) (ts:List Coef),m+i=l.t.length->q=ts.length->(p=false->ts.length<=i)->ts.length<=i+1 ->
  At YQ 0 (Z9 0 Yo (λr=>r=JD (BG l.k (ts++We ⟨s⟩ c p (l.t.drop i))) 0 [])) Yu 0 100 [(1,.pv (.str s)),(2,.pv (.int .i64 c)),(3,.ptr 0 0),(6,.ptr 1 0),(7,.ptr 2 0),(8,.pv (.bool p)),(9,.pv (.int .i64 i))]
   [.obj (.box [.pv (.int .i64 l.k),.pv (enc l.t)]),.obj (.box [.pv (.int .i64 0),.pv (.sl 0 true [])]),.obj (.box [.pv (.int .i64 l.k),.row 3 q 0 q]),.obj (.row false 79 2 (ts.map enc))]:=by
 intro m
 induction m with
 | zero=>
  intro i p q ts hm z h1 h2;refine a9e l s c p i q ts (Z5 (Q3 (by omega)) ?_);rw[IB (show l.t.length<=i by omega)];refine Xj (λu=> ?_) λu=> ?_
  ·subst u;refine⟨by simp[z];omega,?_⟩;have h:=Fs l s c (ts++[⟨⟨s⟩,c⟩]) (by simp;omega);rw[aF,Ia,<- z]at h;rw[We];exact h
  ·subst u;have h:=Fs l s c ts (by omega);rw[<- z]at h;rw[We,fw rfl,IQ];exact h
 | succ m ih=>
  intro i p q ts hm z h1 h2;have j:i<l.t.length:=by omega
  refine a9e l s c p i q ts (ZZ (QQ j) ⟨ZT j rfl,Ym j ?_⟩);rw[Ir j,next (by omega)];have b : ∀ (B:Bool) (add:List Coef),add.length<=2->(B=false->(ts++add).length<=i+1)->(ts++add).length<=i+2->ts++We ⟨s⟩ c p (l.t[i]::l.t.drop (i+1))=(ts++add)++We ⟨s⟩ c B (l.t.drop (i+1)) ->
    At YQ 0 (Z9 0 Yo (λr=>r=JD (BG l.k (ts++We ⟨s⟩ c p (l.t[i]::l.t.drop (i+1)))) 0 [])) Yu 0 100 [(1,.pv (.str s)),(2,.pv (.int .i64 c)),(3,.ptr 0 0),(6,.ptr 1 0),(7,.ptr 2 0),(8,.pv (.bool B)),(9,.pv (.int .i64 ((i+1:Nat):Int)))]
     [.obj (.box [.pv (.int .i64 l.k),.pv (enc l.t)]),.obj (.box [.pv (.int .i64 0),.pv (.sl 0 true [])]),.obj (.box [.pv (.int .i64 l.k),.row 3 (q+add.length) 0 (q+add.length)]),.obj (.row false 79 2 (ts.map enc++add.map enc))]:=by
   intro B add h3 E F D;rw[D,<- aF];exact ih (i+1) B (q+add.length) (ts++add) (by omega) (by simp[z]) E F
  generalize l.t[i]=y at b ⊢;obtain⟨⟨a⟩,yc⟩:=y;subst z;refine Xj (λu=> ?_) λu=> ?_
  ·subst u;have hle:=h1 rfl;refine Xj (λhb=> ?_) λhb=> ?_
   ·have hb:(I7 a s||a==s)=false:=hb;have g:s<a:=by simp only[WQ,aY,gu,gF]at hb;exact tri hb.1 hb.2
    have C : ¬ a=s:=λe=>by rw[e]at g;exact I8 _ g
    refine⟨by simp;omega,ZP (λh=>absurd h C) λ_=>⟨by simp;omega,?_⟩⟩
    have:=b true [⟨⟨s⟩,c⟩,⟨⟨a⟩,yc⟩] (by simp) (λh=>by cases h) (by simp;omega) (by rw[Tz,fw g];simp);rw[IJ];exact this
   ·have hb:(I7 a s||a==s):=hb;have A : ¬ s<a:=by
     simp only[WQ,aT,fu,gm]at hb;rcases hb with h|h
     ·exact bK h
     ·rw[h];exact I8 _
    refine ZP (λh=> ?_) λh=> ?_
    ·have h:a=s:=h;subst h;refine⟨by simp;omega,?_⟩;exact b true [⟨⟨a⟩,Vi (yc+c)⟩] (by simp) (λh=>by cases h) (by simp;omega) (by rw[Tz,fo A,fw rfl];simp)
    ·have h:a≠s:=h;refine⟨by simp;omega,?_⟩;exact b false [⟨⟨a⟩,yc⟩] (by simp) (λ_=>by simp;omega) (by simp;omega) (by rw[Tz,fo A,fo (by rw[Tk];exact h)];simp)
  ·subst u;refine ZP (λh=> ?_) λh=> ?_
   ·have h:a=s:=h;subst h;refine⟨by simp;omega,?_⟩;exact b true [⟨⟨a⟩,Vi (yc+c)⟩] (by simp) (λh=>by cases h) (by simp;omega) (by rw[d9z,fw rfl];simp)
   ·have h:a≠s:=h;refine⟨by simp;omega,?_⟩;exact b true [⟨⟨a⟩,yc⟩] (by simp) (λh=>by cases h) (by simp;omega) (by rw[d9z,fo (by rw[Tk];exact h)];simp)
def e5v(l:Lin)(s:List UInt8)(c:Int)(z:l.t.length<=1000000):Zh YQ 0 (Z9 0 Yo (λr=>r=JD (Uz l ⟨s⟩ c) 0 [])) Yu [] (Yr b8k [.pv (enc l),.pv (.str s),.pv (enc c)] []):=by
 refine h1g l s c (e4p l s c false 0 ?_);show if _ then _ else(if _ then At YQ 0 (Z9 0 Yo (λr=>r=JD (BG l.k (We ⟨s⟩ c false l.t)) 0 [])) _ _ _ _ _ else _)
 by_cases h0:l.t=[]
 ·refine Z5 (by simp[h0]) (ZZ rfl ?_);have h:=Fs l s c [⟨⟨s⟩,c⟩] (by simp);rw[h0,We];exact h
 ·have j:0<l.t.length:=List.length_pos_iff.2 h0;refine ZZ (by simp;omega) ⟨by simp[Enc.sz];omega,Ym j ?_⟩;have A:l.t=l.t[0]::l.t.drop 1:=by
   have:=Ir j
   rwa [IW]at this
  have g : ∀ (i:Bool) (add:List Coef),add.length<=2->(i=false->add.length<=1)->We ⟨s⟩ c false (l.t[0]::l.t.drop 1)=add++We ⟨s⟩ c i (l.t.drop 1) ->
    At YQ 0 (Z9 0 Yo (λr=>r=JD (BG l.k (We ⟨s⟩ c false l.t)) 0 [])) Yu 0 100 [(1,.pv (.str s)),(2,.pv (.int .i64 c)),(3,.ptr 0 0),(6,.ptr 1 0),(7,.ptr 2 0),(8,.pv (.bool i)),(9,.pv (.int .i64 ((0+1:Nat):Int)))]
     [.obj (.box [.pv (.int .i64 l.k),.pv (enc l.t)]),.obj (.box [.pv (.int .i64 0),.pv (.sl 0 true [])]),.obj (.box [.pv (.int .i64 l.k),.row 3 add.length 0 add.length]),.obj (.row false 79 2 (add.map enc))]:=by
   intro i add h3 C B;have D:We ⟨s⟩ c false l.t=add++We ⟨s⟩ c i (l.t.drop 1):=by rw[<- B,<- A]
   rw[D];exact g3x l s c z (l.t.length - 1) (0+1) i add.length add (by omega) rfl (λh=>C h) (by omega)
  rw[show IK Ip (0+1)=((0+1:Nat):Int)from rfl];generalize l.t[0]=y at g ⊢;obtain⟨⟨a⟩,yc⟩:=y;refine ZZ rfl ?_;refine Xj (λhb=> ?_) λhb=> ?_
  ·have hb:(I7 a s||a==s)=false:=hb;have b:s<a:=by simp only[WQ,aY,gu,gF]at hb;exact tri hb.1 hb.2
   have u : ¬ a=s:=λe=>by rw[e]at b;exact I8 _ b
   refine ZP (λh=>absurd h u) λ_=> ?_
   exact g true [⟨⟨s⟩,c⟩,⟨⟨a⟩,yc⟩] (by simp) (λh=>by cases h) (by rw[Tz,fw b];simp)
  ·have hb:(I7 a s||a==s):=hb;have q : ¬ s<a:=by
    simp only[WQ,aT,fu,gm]at hb;rcases hb with h|h
    ·exact bK h
    ·rw[h];exact I8 _
   refine ZP (λh=> ?_) λh=> ?_
   ·have h:a=s:=h;subst h;exact g true [⟨⟨a⟩,Vi (yc+c)⟩] (by simp) (λh=>by cases h) (by rw[Tz,fo q,fw rfl];simp)
   ·have h:a≠s:=h;exact g false [⟨⟨a⟩,yc⟩] (by simp) (λ_=>by simp) (by rw[Tz,fo q,fo (by rw[Tk];exact h)];simp)
def e4l: ∀ args os,DZ args os->Zh YQ os.length (Z9 os.length Yo λr=>r=Db args os) Yu [] (Yr b8k args os):=by
 intro args os h;unfold DZ at h;split at h
 ·rename_i l s c;simp only[Ik,fu]at h;obtain⟨a,h1⟩:=h;obtain⟨l,rfl⟩:=RH a;rw[Enc.dec_enc]at h1;have ev:Db [.pv (enc l),.pv (.str s),.pv (.int .i64 c)] []=JD (Uz l ⟨s⟩ c) 0 []:=by show JD (Uz (dec (enc l:PV)) ⟨s⟩ c) 0 []=_;rw[Enc.dec_enc]
  rw[ev];exact e5v l s c h1
 ·cases h
def h4h(r:LR):b9v r.k r.w (r.ts.map enc)=r.view:=by unfold b9v;rw[show(dec (PV.sl 2 false (r.ts.map enc)):List Coef)=r.ts from Enc.dec_enc r.ts];rfl
def h1y(ts:List Coef):can (List Coef) (.sl 2 false (ts.map enc)):=Gm (α:=List Coef) ts
def f1f(k:Int)(o:LR)(t:Coef):LR:=Uz o.view t.v (Vi (k*t.c))
def h5v(l:Lin)(s:Str)(c:Int):(Uz l s c).w<=(Uz l s c).ts.length∧(Uz l s c).w<=l.t.length+1:=by have h1:=i6x l.k (We s c false l.t);have h2:=g1e l.k (We s c false l.t);have h3:=Ll s c l.t;exact⟨by show(BG _ _).w<=(BG _ _).ts.length;omega,by show(BG _ _).w<=_;omega⟩
def c0w(l x:Lin)(k:Int)(hx:x.t.length<=500000): ∀ (m i:Nat) (r:LR),m+i=x.t.length->r.w<=r.ts.length->r.w<=500000+i ->
  At KO 0 (Z9 0 Qk (λz=>z=JD ((x.t.drop i).foldl (f1f k) r) 0 [])) Ql 0 45 [(2,.pv (.int .i64 k)),(4,.ptr 0 0),(6,.ptr 1 0),(7,.ptr 2 0),(8,.pv (.int .i64 i))] [.obj (.box [.pv (.int .i64 x.k),.pv (enc x.t)]),.obj (.box [.pv (.int .i64 0),.pv (.sl 0 true [])]),.obj (.box [.pv (.int .i64 r.k),.row 3 r.ts.length 0 r.w]),.obj (.row false 79 2 (r.ts.map enc))]:=by
 intro m
 induction m with
 | zero=>intro i r hi b ho;refine EM l x k r.k r.ts.length r.w r.ts i (Z5 (Q3 (by omega)) ?_);rw[IB (show x.t.length<=i by omega)];rfl
 | succ m ih=>
  intro i r hi b ho;have a:i<x.t.length:=by omega
  refine EM l x k r.k r.ts.length r.w r.ts i (ZZ (QQ a) ⟨ZT a rfl,Ym a ⟨ZT a rfl,Ym a ⟨?_,?_⟩⟩⟩)
  ·show(can (List Coef) (.sl 2 false (r.ts.map enc))&&(r.ts.map (enc:Coef->PV)).length==r.ts.length&&decide (r.w<=r.ts.length)&&decide (r.w<=1000000));rw[h1y,Im,eY b,eY (show r.w<=1000000 by omega)];simp
  ·rw[h4h,Ir a,I1,next (by omega)];have e:=h5v r.view x.t[i].v (Vi (k*x.t[i].c));have hv:r.view.t.length<=r.w:=by show(r.ts.take r.w).length<=_;simp;omega
   exact ih (i+1) (f1f k r x.t[i]) (by omega) e.1 (by have:=e.2;show(Uz r.view x.t[i].v (Vi (k*x.t[i].c))).w<=_;omega)
def d3p(l x:Lin)(k:Int)(hl:l.t.length<=500000)(a:x.t.length<=500000):Zh KO 0 (Z9 0 Qk (λz=>z=JD (Cu l x k) 0 [])) Ql [] (Yr b0d [.pv (enc l),.pv (enc x),.pv (enc k)] []):=by
 refine g4g l x k ⟨by simp[Enc.sz],by simp;omega,?_⟩;have b:(0+Cm (Ie (enc:Coef->PV) l.t))=l.t.length:=by simp
 rw[b,List.nil_append];have h:=c0w l x k a x.t.length 0 ⟨Vi (l.k+Vi (k*x.k)),l.t.length,l.t⟩ (by omega) (I6 _) (by show l.t.length<=_;omega);exact h
def d0d: ∀ args os,Cz args os->Zh KO os.length (Z9 os.length Qk λr=>r=Sw args os) Ql [] (Yr b0d args os):=by
 intro args os h;unfold Cz at h;split at h
 ·rename_i l x k;simp only[Ik,fu]at h;obtain⟨⟨⟨a,b⟩,h1⟩,h2⟩:=h;obtain⟨l,rfl⟩:=RH a;obtain⟨x,rfl⟩:=RH b;rw[Enc.dec_enc]at h1 h2;have ev:Sw [.pv (enc l),.pv (enc x),.pv (.int .i64 k)] []=JD (Cu l x k) 0 []:=by show JD (Cu (dec (enc l:PV)) (dec (enc x:PV)) k) 0 []=_;rw[Enc.dec_enc,Enc.dec_enc]
  rw[ev];exact d3p l x k h1 h2
 ·cases h
def JM.rfl(ps:List PV):JM ps ps:=⟨Eq.refl _,λj x y b a Φ v h=>by rw[b]at a;cases a;exact h⟩
def h3e{pre:List AV->List AObj->Bool}{val:List AV->List AObj->AV×List AObj×List AObj}{a b c:PV}{r:LR}{o:AObj}(h1:pre [.pv a,.pv b,.pv c] [])(h2:val [.pv a,.pv b,.pv c] []=JD r 0 []):
  (Ns 1 pre val [.pv a,.pv b,.pv c]).run [.obj o,.fresh]=some (r.av 1,[.obj o,.obj r.ob]):=by
 have H : ∀ (t:Bool) (v:AV×List AObj×List AObj),t->v=JD r 0 []->(HM.req t (match v with
   | (x,os,ext)=>match x.ren (bwd [] 1),DV (bwd [] 1) os,DV (bwd [] 1) ext with
    | some x',some os',some ext'=>if os'.length=([]:List Nat).length then a5e (([]:List Nat).zip os') (EH 1 ext' (.ret x'))else .fail
    | _,_,_=>.fail)).run [.obj o,.fresh]=some (r.av 1,[.obj o,.obj r.ob]):=by
  rintro _ _ rfl rfl;rfl
 exact H _ _ h1 h2
def g1x(fz:Bool)(ty:Nat)(xs:List PV)(r:LR):OD 1 (Dh 256 (List.range 1++Bj [r.av 1]) [] [.obj (.row fz ty 2 xs),.obj r.ob]) [r.av 1] [.obj (.row fz ty 2 xs),.obj r.ob]=some ([r.av 1],[.row fz ty 2 xs,r.ob]):=by obtain⟨k,w,ts⟩:=r;rfl
def e5s{P:Program}{f:Nat}(h:YP P f DZ Db):YP P f DI S9:=by
 refine YP.thaw h λargs os i=> ?_
 unfold DI at i;split at i
 ·rename_i k q w s c fz ty xs;simp only[Ik,fu,gm]at i;obtain⟨⟨⟨hc,j⟩,hw⟩,hw2⟩:=i;obtain⟨ts,e⟩:=RH hc;have e:xs=ts.map enc:=by cases e;rfl
  subst e;have j:ts.length=q:=by simpa using j
  subst j;have y:(dec (PV.sl 2 false (ts.map enc)):List Coef)=ts:=Enc.dec_enc ts;have ev:S9 [.agg [.pv (.int .i64 k),.row 0 ts.length 0 w],.pv (.str s),.pv (.int .i64 c)] [.row fz ty 2 (ts.map enc)]=JD (Uz ⟨k,ts.take w⟩ ⟨s⟩ c) 1 [.row true ty 2 (ts.map enc)]:=by show JD (Uz ⟨k,Iy w (dec (PV.sl 2 false (ts.map enc)):List Coef)⟩ ⟨s⟩ c) 1 _=_;rw[y]
  rw[ev];have u:(.sl 2 false (Ih 0 (Iy w (Ie (enc:Coef->PV) ts))):PV)=enc (ts.take w):=by rw[IW,<- bL];rfl
  have b:DZ [.pv (.agg [.int .i64 k,.sl 2 false (Ih 0 (Iy w (Ie (enc:Coef->PV) ts)))]),.pv (.str s),.pv (.int .i64 c)] []:=by rw[u];show(can Lin (enc (⟨k,ts.take w⟩:Lin))&&decide ((dec (enc (⟨k,ts.take w⟩:Lin):PV):Lin).t.length<=1000000))=true;rw[Gm,Enc.dec_enc];simp;omega
  have a:Db [.pv (.agg [.int .i64 k,.sl 2 false (Ih 0 (Iy w (Ie (enc:Coef->PV) ts)))]),.pv (.str s),.pv (.int .i64 c)] []=JD (Uz ⟨k,ts.take w⟩ ⟨s⟩ c) 0 []:=by rw[u];show JD (Uz (dec (enc (⟨k,ts.take w⟩:Lin):PV)) ⟨s⟩ c) 0 []=_;rw[Enc.dec_enc]
  generalize Uz ⟨k,ts.take w⟩ ⟨s⟩ c=r at a ⊢;generalize g:Ih 0 (Iy w (Ie (enc:Coef->PV) ts))=sl at b a;have l:(Ie (enc:Coef->PV) ts).length=ts.length:=by simp
  generalize Ie (enc:Coef->PV) ts=xs at l g ⊢;rw[<- l];refine⟨1,[.agg [.int .i64 k,.sl 2 false sl],.str s,.int .i64 c],[.agg [.int .i64 k,.sl 2 false sl],.str s,.int .i64 c],[.obj (.row true ty 2 xs),.fresh],r.av 1,[.obj (.row true ty 2 xs),.obj r.ob],r.av 1,[.row true ty 2 xs,r.ob],JM.rfl _,?_,?_,?_,rfl⟩
  ·subst g;simp[Jg,frz,HM.bind,HM.run,XC,HM.req]
   done
  ·exact h3e b a
  ·exact g1x true ty xs r
 ·cases i
def LR.frz_av(r:LR):(frz (r.av 0)).run (XC [r.ob])=some (enc r.view,[.obj (.row true 79 2 (r.ts.map enc))]):=by
 have:(PV.agg [.int .i64 r.k,.sl 2 false (Ih 0 (Iy r.w (r.ts.map enc)))])=enc r.view:=by rw[IW,<- bL];rfl
 rw[<- this];simp[frz,Jg,HM.bind,HM.run,XC,LR.av,LR.ob]
def c8q{P:Program}{f:Nat}(h:YP P f Cz Sw):ZB P f (λx:Lin×Lin×Int×Unit=>decide (x.1.t.length<=500000)&&decide (x.2.1.t.length<=500000)) (λx:Lin×Lin×Int×Unit=>Yf x.1 x.2.1 x.2.2.1):=ZB.of_own h λa ha=>by
 obtain⟨l,x,k,⟨⟩⟩:=a;have ha:l.t.length<=500000∧x.t.length<=500000:=by simpa using ha
 refine⟨(Cu l x k).av 0,[(Cu l x k).ob],_,_,?_,?_,LR.frz_av _,?_⟩
 ·show(can Lin (enc l)&&can Lin (enc x)&&decide ((dec (enc l:PV):Lin).t.length<=500000)&&decide ((dec (enc x:PV):Lin).t.length<=500000));rw[Gm,Gm,Enc.dec_enc,Enc.dec_enc,eY ha.1,eY ha.2];rfl
 ·show JD (Cu (dec (enc l:PV)) (dec (enc x:PV)) k) 0 []=_;rw[Enc.dec_enc,Enc.dec_enc];rfl
 ·rw[c2e];exact .refl _
noncomputable def OI:IC:=Xx Proofs.Tryz.f190
def Ao:List IRes:=[.cell true 2 2,.tmp 3]
abbrev c4m:Nat:=9
def Rs:ZH:=YT [(132,.pure (preT (λx:Lin×Unit=>XD x.1)) (Zp (λx:Lin×Unit=>Zf x.1)))]
def TL(b:Lin):Bool:=Go.Pl.preT (λ(a:Lin×Unit)=>XD a.1) [Va b]
def TN(b:Lin)(Zl:Bool):Prop:=AV.pv (Zp (λ(a:Lin×Unit)=>Zf a.1) [Va b])=AV.pv (enc Zl)
def UC:PV:=.agg [.int .i64 0,.sl 0 true []]
def a4w:PV:=.tup [UC,.int .i64 3]
def c5t{G:PV->Prop}(l:Lin):=Vo ((TL l)∧(∃ a:Bool,(TN l a)∧(if (!a) then G (a4w)else(G (.tup [Va l,.int .i64 0]))))) G (dm [dv Bool] 9 0x1451) Rs Ao OI (Z7 9 [enc l]) (by delta Xt Va TL TN UC a4w;exact rfl)
noncomputable def c2q:IC:=Xx Proofs.Tryz.f164
def a4x:List IRes:=[.cell true 2 4,.tmp 5]
abbrev g5c:Nat:=21
def b5l:ZH:=YT [(132,.pure (preT (λx:Lin×Unit=>XD x.1)) (Zp (λx:Lin×Unit=>Zf x.1))),(191,.pure (preT (λx:Lin×Lin×Int×Unit=>decide (x.1.t.length<=500000)&&decide (x.2.1.t.length<=500000))) (Zp (λx:Lin×Lin×Int×Unit=>Yf x.1 x.2.1 x.2.2.1))),(190,.pure (preT (λx:Lin×Unit=>XD x.1)) (Zp (λx:Lin×Unit=>HY x.1)))]
def BO:PV:=.tup [UC,.int .i64 1]
def a2n:=λ(a:Lin×Lin×Int×Unit)=>decide (Cm a.1.t<=500000)&&decide (Cm a.2.1.t<=500000)
def Rv:=λ(a:Lin×Lin×Int×Unit)=>Yf a.1 a.2.1 a.2.2.1
def AP(a:Lin×Int):PV:=.agg [.int .i64 a.1.k,.sl 2 false (Ie enc a.1.t)]
def a0o(e:Lin)(Zl:PV->Prop):Prop:=(Go.Pl.preT (λ(a:Lin×Unit)=>XD a.1) [Va e])=true∧(∃ b:Lin×Int,(AV.pv (Zp (λ(a:Lin×Unit)=>HY a.1) [Va e])=AV.pv (enc b))∧(Zl (.tup [AP b,.int .i64 b.2])))
def h6n{G:PV->Prop}(a b:Lin):=Vo ((TL a)∧(∃ e:Bool,(TN a e)∧(if (!e) then G (BO)else((TL b)∧(∃ h:Bool,(TN b h)∧(if (!h) then G (BO)else((Go.Pl.preT a2n [Va a,Va b,.int .i64 1])∧(∃ g:Lin,(AV.pv (Zp Rv [Va a,Va b,.int .i64 1])=AV.pv (enc g))∧(a0o g G))))))))) G (dm [dv Bool,dv Lin,dv (Lin×Int)] 27 0x7161000142251202222005451) b5l a4x c2q (Z7 21 [enc a,enc b]) (by delta Xt Va TL TN UC BO a2n Rv AP a0o;exact rfl)
noncomputable def c2j:IC:=Xx Proofs.Tryz.f163
def a1r:List IRes:=[.cell true 2 4,.tmp 5]
abbrev f5k:Nat:=21
def b3r:ZH:=YT [(132,.pure (preT (λx:Lin×Unit=>XD x.1)) (Zp (λx:Lin×Unit=>Zf x.1))),(191,.pure (preT (λx:Lin×Lin×Int×Unit=>decide (x.1.t.length<=500000)&&decide (x.2.1.t.length<=500000))) (Zp (λx:Lin×Lin×Int×Unit=>Yf x.1 x.2.1 x.2.2.1))),(190,.pure (preT (λx:Lin×Unit=>XD x.1)) (Zp (λx:Lin×Unit=>HY x.1)))]
def h7h{G:PV->Prop}(a b:Lin):=Vo ((TL a)∧(∃ e:Bool,(TN a e)∧(if (!e) then G (BO)else((TL b)∧(∃ h:Bool,(TN b h)∧(if (!h) then G (BO)else((Go.Pl.preT a2n [Va a,Va b,.int .i64 (-1)])∧(∃ g:Lin,(AV.pv (Zp Rv [Va a,Va b,.int .i64 (-1)])=AV.pv (enc g))∧(a0o g G))))))))) G (dm [dv Bool,dv Lin,dv (Lin×Int)] 27 0x7161000142251202222005451) b3r a1r c2j (Z7 21 [enc a,enc b]) (by delta Xt Va TL TN UC BO a2n Rv AP a0o;exact rfl)
noncomputable def a4m:IC:=Xx Proofs.Tryz.f188
def RQ:List IRes:=[.cell true 2 4,.tmp 5]
abbrev d2o:Nat:=30
def Lx:ZH:=YT [(132,.pure (preT (λx:Lin×Unit=>XD x.1)) (Zp (λx:Lin×Unit=>Zf x.1))),(169,.pure (preT (λ_:Int×Unit=>true)) (Zp (λx:Int×Unit=>Yq x.1))),(191,.pure (preT (λx:Lin×Lin×Int×Unit=>decide (x.1.t.length<=500000)&&decide (x.2.1.t.length<=500000))) (Zp (λx:Lin×Lin×Int×Unit=>Yf x.1 x.2.1 x.2.2.1))),(190,.pure (preT (λx:Lin×Unit=>XD x.1)) (Zp (λx:Lin×Unit=>HY x.1)))]
def e7v{G:PV->Prop}(a:Lin)(k:Int):=Vo ((TL a)∧(∃ b:Bool,(TN a b)∧(if (!b) then G (BO)else(∃ g:Bool,(AV.pv (Zp b0z [.int .i64 k])=AV.pv (enc g))∧(if (!g) then if (a.k != 0)=true then G (a4w)else(if (decide ((↑(WY a):Int)>0)) then G (a4w)else((Go.Pl.preT a2n [UC,Va a,.int .i64 0])∧(∃ e:Lin,(AV.pv (Zp Rv [UC,Va a,.int .i64 0])=AV.pv (enc e))∧(a0o e G))))else((Go.Pl.preT a2n [UC,Va a,.int .i64 k])∧(∃ h:Lin,(AV.pv (Zp Rv [UC,Va a,.int .i64 k])=AV.pv (enc h))∧(a0o h G)))))))) G (dm [dv Bool,dv Lin,dv (Lin×Int)] 45 0x71610716100014222220222220064201a4520001451) Lx RQ a4m (Z7 30 [enc a,enc k]) (by delta Xt Va TL TN UC BO b0z a4w WY a2n Rv AP a0o;exact rfl)
def wM(m:List (Str×Int)):Prop:= ∀ s,Vi (Pd m s)=Pd m s
def add_zero: ∀ (x:List Coef) (m:List (Str×Int)),wM m-> ∀ s,Pd (D6 0 x m) s=Pd m s
 | [],m,h,s=>rfl
 | t::x,m,h,s=>by
  have e : ∀ y,Pd (a5y t.v (Ip.wrap (Pd m t.v.s+Ip.wrap (0*t.c))) m) y=Pd m y:=λy=>by
   rw[Fz];split
   ·rename_i a;have:Ip.wrap (0*t.c)=0:=by rw[Int.zero_mul];rfl
    rw[this,Int.add_zero,<- a];exact h t.v.s
   ·rfl
  rw[D6,add_zero x _ (λy=>by rw[e];exact h y),e]
def a3d:Zf ⟨0,[]⟩:=by decide
structure Cert2 where
 a:Cert
 b:Cert
instance:Enc Cert2 where
 sz:=10
 enc x:=.agg (Ij (enc x.a)++Ij (enc x.b))
 dec | .agg [a,b,c,d,e,f,g,h,i,j]=>⟨dec (.agg [a,b,c,d,e]),dec (.agg [f,g,h,i,j])⟩|_=>⟨.mk 0 [] ⟨0,[]⟩ [],.mk 0 [] ⟨0,[]⟩ []⟩
 is | .agg [a,b,c,d,e,f,g,h,i,j]=>is Cert (.agg [a,b,c,d,e])&&is Cert (.agg [f,g,h,i,j])|_=>false
 is_enc v:=by obtain⟨⟨k,m,l,ks⟩,⟨k',m',l',ks'⟩⟩:=v;rw[KF,KF];show(is Cert (.agg [enc k,enc m,enc l.k,enc l.t,enc ks])&&is Cert (.agg [enc k',enc m',enc l'.k,enc l'.t,enc ks']))=true;rw[<- KF,<- KF,Enc.is_enc,Enc.is_enc];rfl
 dec_enc v:=by obtain⟨⟨k,m,l,ks⟩,⟨k',m',l',ks'⟩⟩:=v;rw[KF,KF];show(⟨dec (.agg [enc k,enc m,enc l.k,enc l.t,enc ks]),dec (.agg [enc k',enc m',enc l'.k,enc l'.t,enc ks'])⟩:Cert2)=_;rw[<- KF,<- KF,Enc.dec_enc,Enc.dec_enc]
 sub p h:=by
  cases p with
  | agg xs=>
   match xs,h with
   | [a,b,c,d,e,f,g,h',i,j],h=>simp only[Ik]at h;have h1:=Enc.sub (α:=Cert) _ h.1;have h2:=Enc.sub (α:=Cert) _ h.2;exact Jp.agg (h1.1.append h2.1)
  | _=>cases h
def e6h(x:List Coef)(k:Int): ∀ l:Lin,(x.foldl (λo t=>J2 o t.v (Vi (k*t.c))) l).t.length<=l.t.length+x.length:=by
 induction x with
 | nil=>intro l;exact I6 _
 | cons t x ih=>intro l;have h1:=ih (J2 l t.v (Vi (k*t.c)));have h2:=f3q l t.v (Vi (k*t.c));rw[I1,Ic];omega
def one_of{α:Type}: ∀ {ks:List α},ks.length=1-> ∃ a,ks=[a]
 | [a],_=>⟨a,rfl⟩
def b2r: ∀ a:Lin×Unit,XD a.1->Zh Rs 0 (Za Ao (Ze (HY a.1))) OI [] (Z7 c4m (encL a)):=by
 rintro⟨l,⟨⟩⟩ h;show Zh Rs 0 (Za Ao (Ze (HY l))) _ _ _;unfold HY;refine c5t l ⟨Zb (l,()) rfl h,Zc (l,()) rfl (Xj (λb=> ?_) λb=> ?_)⟩
 ·have b:Zf l=false:=b;rw[b];exact⟨rfl,rfl⟩
 ·have b:Zf l:=b;rw[b];exact Zt (x:=((l,0):Lin×Int)) rfl
def c2m{l:Lin}(h:Ye l):XD l:=by simp only[Ye,Ik]at h;exact h.1
def KT{a b:Lin}{k:Int}(h:Zf a=false∨Zf b=false):Zi a b k=(⟨0,[]⟩,1):=by
 unfold Zi;rcases h with h|h
 ·rw[h];rfl
 ·cases ha:Zf a
  ·rfl
  ·rw[h];rfl
def EU{a b:Lin}(k:Int)(ha:Zf a)(hb:Zf b):XD (Yf a b k):=by have h1:=Vq ha;have h2:=Vq hb;have:(Yf a b k).t.length<=a.t.length+b.t.length:=e6h b.t k _;exact eY (by omega)
def e2u: ∀ a:Lin×Lin×Unit,(Ye a.1&&Ye a.2.1)->Zh b5l 0 (Za a4x (Ze (Zi a.1 a.2.1 1))) c2q [] (Z7 g5c (encL a)):=by
 rintro⟨a,b,⟨⟩⟩ h;simp only[Ik]at h;show Zh b5l 0 (Za a4x (Ze (Zi a b 1))) _ _ _;refine h6n a b ⟨Zb (a,()) rfl (c2m h.1),Zc (a,()) rfl (Xj (λe=> ?_) λe=>⟨Zb (b,()) rfl (c2m h.2),Zc (b,()) rfl (Xj (λg=> ?_) λg=> ?_)⟩)⟩
 ·rw[KT (.inl e)];exact⟨rfl,rfl⟩
 ·rw[KT (.inr g)];exact⟨rfl,rfl⟩
 ·have e:Zf a:=e;have g:Zf b:=g;have h1:=Vq e;have h2:=Vq g;rw[VN 1 e g];exact⟨Zb (a,b,(1:Int),()) rfl (by show(decide (a.t.length<=500000)&&decide (b.t.length<=500000));rw[eY (by omega),eY (by omega)];rfl),Zc (a,b,(1:Int),()) rfl ⟨Zb (Yf a b 1,()) rfl (EU 1 e g),Zc (Yf a b 1,()) rfl (Zt (x:=HY (Yf a b 1)) rfl)⟩⟩
def e6c: ∀ a:Lin×Lin×Unit,(Ye a.1&&Ye a.2.1)->Zh b3r 0 (Za a1r (Ze (Zi a.1 a.2.1 (-1)))) c2j [] (Z7 f5k (encL a)):=by
 rintro⟨a,b,⟨⟩⟩ h;simp only[Ik]at h;show Zh b3r 0 (Za a1r (Ze (Zi a b (-1)))) _ _ _;refine h7h a b ⟨Zb (a,()) rfl (c2m h.1),Zc (a,()) rfl (Xj (λe=> ?_) λe=>⟨Zb (b,()) rfl (c2m h.2),Zc (b,()) rfl (Xj (λg=> ?_) λg=> ?_)⟩)⟩
 ·rw[KT (.inl e)];exact⟨rfl,rfl⟩
 ·rw[KT (.inr g)];exact⟨rfl,rfl⟩
 ·have e:Zf a:=e;have g:Zf b:=g;have h1:=Vq e;have h2:=Vq g;rw[VN (-1) e g];exact⟨Zb (a,b,(-1:Int),()) rfl (by show(decide (a.t.length<=500000)&&decide (b.t.length<=500000));rw[eY (by omega),eY (by omega)];rfl),Zc (a,b,(-1:Int),()) rfl ⟨Zb (Yf a b (-1),()) rfl (EU (-1) e g),Zc (Yf a b (-1),()) rfl (Zt (x:=HY (Yf a b (-1))) rfl)⟩⟩
def a8l(k:Int)(s:List UInt8): ∀ (x:List Coef) (m:List (Str×Int)),(∀ u∈x,u.v.s≠s)->Pd (D6 k x m) s=Pd m s
 | [],m,h=>rfl
 | t::x,m,h=>by rw[D6,a8l k s x _ λu hu=>h u (by simp[hu]),Fz,fo (h t (by simp))]
def d8a{c x:Int}(hc:c=1000001∨c = -1000001)(hx:x≠0): ¬ (-1000000<=c*x∧c*x<=1000000):=by rcases hc with rfl|rfl <;> omega
def a9c{a:Lin}{c:Int}(l:Zf a)(hc:c=1000001∨c = -1000001)(B:a.k≠0∨a.t≠[]):HY (Yf ⟨0,[]⟩ a c)=(⟨0,[]⟩,3):=by
 have hk:=Ju l;have i:Zf (Yf ⟨0,[]⟩ a c)=false:=by
  cases hr:Zf (Yf ⟨0,[]⟩ a c)
  ·rfl
  exfalso;by_cases hk0:a.k=0
  ·have ht:a.t≠[]:=B.resolve_left λh=>h hk0
   cases b:a.t with
   | nil=>exact ht b
   | cons t r=>
    have g:=Qh l;rw[b]at g;obtain⟨h1,_⟩:=WT.1 g;have y:=(XA l (show t∈a.t by rw[b];simp)).2;have j:=FT c a.t ⟨Vi (0+Vi (c*a.k)),[]⟩ [] ⟨List.Pairwise.nil,λs=>rfl⟩;have C:YG (Yf ⟨0,[]⟩ a c).t t.v.s=Pd (D6 c a.t []) t.v.s:=j.2 t.v.s;have hb : -2000000000000<=c*t.c∧c*t.c<=2000000000000:=by rcases hc with rfl|rfl <;> omega
    have A:Pd (D6 c a.t []) t.v.s=c*t.c:=by rw[b,D6,a8l c t.v.s r _ (λu hu e=>by have:=h1 u hu;rw[e]at this;exact I8 _ this),Fz,fw rfl];have q:Pd ([]:List (Str×Int)) t.v.s=0:=rfl;have z:Ip.wrap (c*t.c)=c*t.c:=Ae (by omega) (by omega);rw[q,bU,z,z]
    have:=a1a hr t.v.s;rw[C,A]at this;exact d8a hc y.1 this
  ·have hb : -2000000000000<=c*a.k∧c*a.k<=2000000000000:=by rcases hc with rfl|rfl <;> omega
   have:=Ju hr;rw[b3m,Ae (n:=c*a.k) (by omega) (by omega)]at this;have q:(⟨0,[]⟩:Lin).k=0:=rfl;rw[q,bU,Ae (by omega) (by omega)]at this;exact d8a hc hk0 this
 unfold HY;rw[i];rfl
def e4a{k:Int}(h:Yq k=false):max (-1000001) (min k 1000001)=1000001∨max (-1000001) (min k 1000001) = -1000001:=by simp only[Yq,aC,gu]at h;omega
def f7a{k:Int}(h:Yq k):max (-1000001) (min k 1000001)=k:=by simp only[Yq,Ik,fu]at h;omega
def b8d(a:Lin)(k:Int)(h:a.t.length<=500000):preT (λx:Lin×Lin×Int×Unit=>decide (x.1.t.length<=500000)&&decide (x.2.1.t.length<=500000)) [.agg [.int .i64 0,.sl 0 true []],enc a,enc k]:=by
 have e:isL (Lin×Lin×Int×Unit) [PV.agg [.int .i64 0,.sl 0 true []],enc a,enc k]:=by show(is Lin (PV.agg [.int .i64 0,.sl 0 true []])&&(is Lin (enc a)&&(is Int (enc k)&&true)))=true;rw[Enc.is_enc,Enc.is_enc];rfl
 have b:(decL [PV.agg [.int .i64 0,.sl 0 true []],enc a,enc k]:Lin×Lin×Int×Unit)=(⟨0,[]⟩,a,k,()):=by show((dec (PV.agg [.int .i64 0,.sl 0 true []]):Lin),(dec (enc a:PV):Lin),(dec (enc k:PV):Int),())=_;rw[Enc.dec_enc,Enc.dec_enc];rfl
 unfold preT;rw[e,b,IE];show(decide (0<=500000)&&decide (a.t.length<=500000));rw[eY h];rfl
def b8j(a:Lin)(k:Int):(decL [PV.agg [.int .i64 0,.sl 0 true []],enc a,enc k]:Lin×Lin×Int×Unit)=(⟨0,[]⟩,a,k,()):=by show((dec (PV.agg [.int .i64 0,.sl 0 true []]):Lin),(dec (enc a:PV):Lin),(dec (enc k:PV):Int),())=_;rw[Enc.dec_enc,Enc.dec_enc];rfl
def b9t: ∀ a:Lin×Int×Unit,Ye a.1->Zh Lx 0 (Za RQ (Ze (X0 a.1 a.2.1))) a4m [] (Z7 d2o (encL a)):=by
 rintro⟨a,k,⟨⟩⟩ h;show Zh Lx 0 (Za RQ (Ze (X0 a k))) _ _ _;unfold X0;refine e7v a k ⟨Zb (a,()) rfl (c2m h),Zc (a,()) rfl (Xj (λb=> ?_) λb=>Zc (k,()) rfl (Xj (λg=> ?_) λg=> ?_))⟩
 ·rw[KT (.inr b)];exact⟨rfl,rfl⟩
 all_goals
  have b:Zf a:=b;have hlen:=Vq b;rw[VN _ a3d b]
 ·have hc:=e4a (show Yq k=false from g);refine OV (λh1=> ?_) λh1=>YH (λh2=> ?_) λh2=> ?_
  ·have h1:a.k≠0:=by simpa using h1
   rw[a9c b hc (.inl h1)];exact⟨rfl,rfl⟩
  ·have h2:a.t≠[]:=by intro e;rw[e]at h2;simp at h2
   rw[a9c b hc (.inr h2)];exact⟨rfl,rfl⟩
  ·have h1:a.k=0:=by simpa using h1
   have h2:a.t=[]:=by rw[Im]at h2;exact List.length_eq_zero_iff.1 (by omega)
   have i:a=⟨0,[]⟩:=by cases a;simp only at h1 h2;rw[h1,h2]
   subst i;generalize max (-1000001) (min k 1000001)=c at hc ⊢;have e:HY (Yf ⟨0,[]⟩ ⟨0,[]⟩ c)=HY (Yf ⟨0,[]⟩ ⟨0,[]⟩ 0):=by rcases hc with rfl|rfl <;> rfl
   rw[e];exact⟨b8d ⟨0,[]⟩ 0 (by simp),BZ ((⟨0,[]⟩:Lin),(⟨0,[]⟩:Lin),(0:Int),()) (b8j _ _) ⟨Zb (Yf ⟨0,[]⟩ ⟨0,[]⟩ 0,()) rfl (by decide),Zc (Yf ⟨0,[]⟩ ⟨0,[]⟩ 0,()) rfl (Zt (x:=HY (Yf ⟨0,[]⟩ ⟨0,[]⟩ 0)) rfl)⟩⟩
 ·rw[f7a (show Yq k from g)];exact⟨b8d a k (by omega),BZ ((⟨0,[]⟩:Lin),a,k,()) (b8j _ _) ⟨Zb (Yf ⟨0,[]⟩ a k,()) rfl (EU k a3d b),Zc (Yf ⟨0,[]⟩ a k,()) rfl (Zt (x:=HY (Yf ⟨0,[]⟩ a k)) rfl)⟩⟩
def h0b{T:ZH}{k:Nat}{ic:IC}{K:List Fr}{st:St}{rs:List IRes}{p:PV}(h:Zh T k (Za rs λr=>r=p) ic K st):Zh T k (λst=>fin st rs=some p) ic K st:=by
 have e:Za rs (λr=>r=p)=λst=>fin st rs=some p:=by
  funext st;apply propext;constructor
  ·rintro⟨q,k,rfl⟩;exact k
  ·intro k;exact⟨p,k,rfl⟩
 rw[<- e];exact h
section
def f0p(a b:Nd):Bool:=decide (a.kind=b.kind)&&decide (a.name=b.name)&&decide (a.num=b.num)&&decide (a.elem=b.elem)&&decide (a.dims=b.dims)&&decide (a.data=b.data)&&decide (a.sizes=b.sizes)&&decide (a.ranks=b.ranks)
mutual
def eqM:Tm->Tm->Bool
 | .mk n ks,.mk m ls=>f0p n m&&Tw ks ls
def Tw:List Tm->List Tm->Bool
 | [],[]=>true
 | k::ks,l::ls=>eqM k l&&Tw ks ls
 | _,_=>false
end
def agA(a:Tm):PV:=(.agg [.int .i64 (Iq (Ii (Ij (enc a)) 0 default)),.int .i64 (Iq (Ii (Ij (enc a)) (0+1) default)),.str (IG (Ii (Ij (enc a)) (0+1+1) default)),.int .i64 (Iq (Ii (Ij (enc a)) (0+1+1+1) default)),.str (IG (Ii (Ij (enc a)) (0+1+1+1+1) default)),.sl 1 (bE (Ii (Ij (enc a)) (0+1+1+1+1+1) default)) (IP (Ii (Ij (enc a)) (0+1+1+1+1+1) default)),.sl 1 (bE (Ii (Ij (enc a)) (0+1+1+1+1+1+1) default)) (IP (Ii (Ij (enc a)) (0+1+1+1+1+1+1) default)),.sl 2 (bE (Ii (Ij (enc a)) (0+1+1+1+1+1+1+1) default)) (IP (Ii (Ij (enc a)) (0+1+1+1+1+1+1+1) default)),.sl 1 (bE (Ii (Ij (enc a)) (0+1+1+1+1+1+1+1+1) default)) (IP (Ii (Ij (enc a)) (0+1+1+1+1+1+1+1+1) default)),.sl 10 (bE (Ii (Ij (enc a)) (0+1+1+1+1+1+1+1+1+1) default)) (IP (Ii (Ij (enc a)) (0+1+1+1+1+1+1+1+1+1) default))])
def f1b(t:Tm):agA t=enc t:=by obtain⟨n,ks⟩:=t;unfold agA;rw[YB];rfl
def ndC(n:Nd)(ks:List Tm):PV:=.agg [.int .i64 n.kind,.int .i64 n.line,.str n.name.s,.int .i64 n.num,.str n.elem.s,.sl 1 false (n.dims.map enc),.sl 1 false (n.data.map enc),.sl 2 false (n.sizes.map enc),.sl 1 false (n.ranks.map enc),.sl 10 false (ks.map enc)]
def g2t(n:Nd)(ks:List Tm):ndC n ks=enc (Tm.mk n ks):=by rw[YB];rfl
end
abbrev d8d(ps:List PV)(k:Bool->Prop):Prop:=V6 (λ(x:List Int×List Int×Unit)=>decide (Cm (Ib x)<=1048576)) (λ(x:List Int×List Int×Unit)=>decide (Ib x=Ib (Iw x))) ps k
abbrev j1p(ps:List PV)(k:Bool->Prop):Prop:=V6 (λ(x:Lin×Lin×Unit)=>decide (Cm (Lin.t (Ib x))<=1048576)) (λ(x:Lin×Lin×Unit)=>decide (Ib x=Ib (Iw x))) ps k
abbrev j3e(N:Nat)(ps:List PV)(k:Bool->Prop):Prop:=V6 (λ(x:Tm×Tm×Unit)=>tW (Ib x)&&tW (Ib (Iw x))&&decide (Yt (Ib x)<N)) (λ(x:Tm×Tm×Unit)=>eqM (Ib x) (Ib (Iw x))) ps k
noncomputable def MR:IC:=Xx Proofs.Tryz.f22
def FR:List IRes:=[.tmp 4]
abbrev i8h:Nat:=26
def a7v:ZH:=YT []
def j5a{G:PV->Prop}(a b:List Int):=Vo (if ((↑(QS a):Int) != (↑(QS b):Int)) then G (.bool false)else(At a7v 0 (Za FR G) MR 0 26 [(0,.pv (WA a)),(1,.pv (WA b)),(5,Zj)] [])) G (dm [] 8 0x142) a7v FR MR (Z7 26 [enc a,enc b]) (by delta QS WA Zj;exact rfl)
def f7f{G:PV->Prop}(a b:List Int)(i:Int):=VP (if (decide (i<(↑(QS a):Int))) then(QU a i 1 λe=>(QU b i 1 λg=>(if (Iq (DY e) != Iq (DY g)) then G (.bool false)else(At a7v 0 (Za FR G) MR 0 26 [(0,.pv (WA a)),(1,.pv (WA b)),(5,ZY i)] []))))else(V3 G)) G (dm [dr Int] 21 0x200014225125100e42) a7v FR MR 0 26 [(0,.pv (enc a)),(1,.pv (enc b)),(5,Zv i)] [] (by delta QS DY WA Yx ZY V3;exact rfl)
noncomputable def Lh:IC:=Xx Proofs.Tryz.f23
def L9:List IRes:=[.tmp 4]
abbrev i5x:Nat:=38
def a8p:ZH:=YT []
def b2k:List (Nat×AV):=[(2,.ptr 0 0),(3,.ptr 1 0),(5,Zj)]
def j2s{G:PV->Prop}(a b:Lin):=Vo (if (a.k != b.k) then G (.bool false)else(if ((↑(WY a):Int) != (↑(WY b):Int)) then G (.bool false)else(At a8p 0 (Za L9 G) Lh 0 38 b2k [Y8 a,Y8 b]))) G (dm [] 29 0x142222222202222222200942) a8p L9 Lh (Z7 38 [b1e a,b1e b]) (by delta Xt WY Zj b2k XP Wt Y8;exact rfl)
def d1c(a:Lin):Slot:=.obj (.box [.pv (enc a.k),.pv (enc a.t)])
def e9m{G:PV->Prop}(a b:Lin)(i:Int):=VP (if (GJ i a) then(QU a.t i 2 λe=>(QU b.t i 2 λg=>(if (!(IG (Vf e)==IG (Vf g)&&(Iq (Q4 e)==Iq (Q4 g)&&true))) then G (.bool false)else(At a8p 0 (Za L9 G) Lh 0 38 [(2,.ptr 0 0),(3,.ptr 1 0),(5,ZY i)] [Y8 a,Y8 b]))))else(V3 G)) G (dm [dr Coef] 21 0x200014225125100e42) a8p L9 Lh 0 38 [(2,.ptr 0 0),(3,.ptr 1 0),(5,Zv i)] [d1c a,d1c b] (by delta Xt WY GJ U4 Vf Q4 Yx ZY XP Wt Y8 V3;exact rfl)
noncomputable def GG:IC:=Xx Proofs.Tryz.f9
def Gv:List IRes:=[.tmp 4]
abbrev i2y:Nat:=117
def Ty(N:Nat):ZH:=YT [(22,.pure (preT (λx:List Int×List Int×Unit=>decide (x.1.length<=1048576))) (Zp (λx:List Int×List Int×Unit=>decide (x.1=x.2.1)))),(23,.pure (preT (λx:Lin×Lin×Unit=>decide (x.1.t.length<=1048576))) (Zp (λx:Lin×Lin×Unit=>decide (x.1=x.2.1)))),(9,.pure (preT (λx:Tm×Tm×Unit=>(tW x.1&&tW x.2.1)&&decide (Yt x.1<N))) (Zp (λx:Tm×Tm×Unit=>eqM x.1 x.2.1)))]
def j5d{G:PV->Prop}(N:Nat)(n:Nd)(ks:List Tm)(m:Nd)(ls:List Tm):=Vo (if (Nd.kind n != Nd.kind m) then G (.bool false)else(if (!Str.s (Nd.name n)==Str.s (Nd.name m)) then G (.bool false)else(if (Nd.num n != Nd.num m) then G (.bool false)else(if ((↑(VG n):Int) != (↑(VG m):Int)) then G (.bool false)else(if ((↑(Xw ks):Int) != (↑(Xw ls):Int)) then G (.bool false)else(if (!Str.s (Nd.elem n)==Str.s (Nd.elem m)) then G (.bool false)else(d8d [Wo n,Wo m] λb=>(if (!b) then G (.bool false)else(d8d [Wv n,Wv m] λa=>(if (!a) then G (.bool false)else(d8d [XL n,XL m] λe=>(if (!e) then G (.bool false)else(At (Ty N) 0 (Za Gv G) GG 0 117 b2k [Xc n ks,Xc m ls]))))))))))))) G (dm [dv Bool] 227 0x1422512222022222220084225122222202222222222222222011422512222220222222222222222222222222201a4200014222222220222222220094222222220222222222222222201142222220222222222222222222222201742222220222222222222222222222222222201d42) (Ty N) Gv GG (Z7 117 [Ke n ks,Ke m ls]) (by delta VK VG Xw Wo Wv XL Zj b2k Xc;exact rfl)
def g3a{G:PV->Prop}(N:Nat)(n:Nd)(ks:List Tm)(m:Nd)(ls:List Tm)(i:Int):=VP (if (decide (i<(↑(VG n):Int))) then(QU (Nd.sizes n) i 2 λb=>(QU (Nd.sizes m) i 2 λa=>(j1p [BL b,BL a] λe=>(if (!e) then G (.bool false)else(At (Ty N) 0 (Za Gv G) GG 0 117 [(2,.ptr 0 0),(3,.ptr 1 0),(5,ZY i)] [Xc n ks,Xc m ls])))))else(At (Ty N) 0 (Za Gv G) GG 1 117 [(2,.ptr 0 0),(3,.ptr 1 0),(6,Zj)] [Xc n ks,Xc m ls])) G (dm [dr Lin,dv Bool] 22 0x2000146125125100f42) (Ty N) Gv GG 0 117 [(2,.ptr 0 0),(3,.ptr 1 0),(5,Zv i)] [QJ n ks,QJ m ls] (by delta VK VG CR BL Yx ZY Xc Zj;exact rfl)
def f9j{G:PV->Prop}(N:Nat)(n:Nd)(ks:List Tm)(m:Nd)(ls:List Tm)(i:Int):=VP (if (K5 i ks) then(QU ks i 10 λb=>(shT b∧(QU ls i 10 λa=>(shT a∧(j3e N [agA b,agA a] λe=>(if (!e) then G (.bool false)else(At (Ty N) 0 (Za Gv G) GG 1 117 [(2,.ptr 0 0),(3,.ptr 1 0),(6,ZY i)] [Xc n ks,Xc m ls])))))))else(V3 G)) G (dm [dr Tm,dv Bool] 22 0x2000146115115100f42) (Ty N) Gv GG 1 117 [(2,.ptr 0 0),(3,.ptr 1 0),(6,Zv i)] [QJ n ks,QJ m ls] (by delta Xw K5 Yx ZY Xc V3;exact rfl)
def YZ(n:Nd)(a b c d e:Bool):Bool:=(a||decide (n.name.s=[]))&&(b||decide (n.num=0))&&(c||(decide (n.elem.s=[])&&decide (n.dims.length+n.data.length=0)))&&(d||decide (n.sizes.length=0))&&(e||decide (n.ranks.length=0))
def a5w(n:Nd)(ks:List Tm)(a b c d e:Bool):List PV:=ndA n ks++[.bool a,.bool b,.bool c,.bool d,.bool e]
def b5h(n:Nd)(ks:List Tm)(a b c d e:Bool):a5w n ks a b c d e=encL (Tm.mk n ks,a,b,c,d,e,()):=by unfold a5w;rw[YA];rfl
abbrev h8j(ps:List PV)(k:Bool->Prop):Prop:=V6 (λ(x:Lin×Unit)=>XD (Ib x)) (λ(x:Lin×Unit)=>Zf (Ib x)) ps k
abbrev a9o(ps:List PV)(k:Bool->Prop):Prop:=V6 (λ(x:Tm×Bool×Bool×Bool×Bool×Bool×Unit)=>nW (Ib x)) (λ(x:Tm×Bool×Bool×Bool×Bool×Bool×Unit)=>YZ (Tm.nd (Ib x)) (Ib (Iw x)) (Ib (Iw (Iw x))) (Ib (Iw (Iw (Iw x)))) (Ib (Iw (Iw (Iw (Iw x))))) (Ib (Iw (Iw (Iw (Iw (Iw x))))))) ps k
abbrev h8q(ps:List PV)(k:Bool->Prop):Prop:=V6 (λ(x:List Lin×Unit)=>decide (Cm (Ib x)<=1048576)&&aB (Ib x) XD) (λ(x:List Lin×Unit)=>aB (Ib x) Zf) ps k
abbrev j2x(N:Nat)(ps:List PV)(k:Bool->Prop):Prop:=V6 (λ(x:Tm×Unit)=>gW (Ib x)&&decide (Yt (Ib x)<N)) (λ(x:Tm×Unit)=>XH (Ib x)) ps k
abbrev i6g(ps:List PV)(k:Int->Prop):Prop:=V6 (λ(x:Tm×Unit)=>gW (Ib x)) (λ(x:Tm×Unit)=>(↑(Yh (Ib x)):Int)) ps k
abbrev i6o(ps:List PV)(k:Int->Prop):Prop:=V6 (λ(x:Tm×Unit)=>gW (Ib x)) (λ(x:Tm×Unit)=>(↑(Yt (Ib x)):Int)) ps k
abbrev i2t(ps:List PV)(k:Bool->Prop):Prop:=V6 (λ(x:Tm×Unit)=>gW (Ib x)) (λ(x:Tm×Unit)=>XH (Ib x)) ps k
noncomputable def a9s:IC:=EF
def a8d:List IRes:=[.tmp 2]
abbrev e8c:Nat:=9
def b7e:ZH:=YT []
def g0p{G:PV->Prop}(c:UInt8):=Vo (if (M7 c) then G (MF c)else(Zu G)) G (dm [] 13 0x22022200442) b7e a8d a9s (Z7 9 [enc c]) (by delta M7 MF Zu;exact rfl)
noncomputable def a8u:IC:=Eh
def a7x:List IRes:=[.tmp 2]
abbrev e3j:Nat:=9
def c0e:ZH:=YT []
def f0t{G:PV->Prop}(c:UInt8):=Vo (if (LB c) then G (LZ c)else(Zu G)) G (dm [] 13 0x22022200442) c0e a7x a8u (Z7 9 [enc c]) (by delta LB LZ Zu;exact rfl)
noncomputable def d5e:IC:=b2e
def d5x:List IRes:=[.tmp 2]
abbrev h0x:Nat:=19
def g3o:ZH:=YT []
def i2s{G:PV->Prop}(s:List UInt8):=Vo (if (s==Vd) then G (.bool true)else(d7w s G)) G (dm [] 99 0x1420200242020024202002420200242020024202002420200242020024202002420200242020024202002420200242) g3o d5x d5e (Z7 19 [.str s]) (by delta Vd Zu d7w;exact rfl)
noncomputable def KH:IC:=Xx Proofs.Tryz.f97
def KG:List IRes:=[.tmp 2]
abbrev f0w:Nat:=39
def Gi:ZH:=YT [(94,.pure (preT (λ_:UInt8×Unit=>true)) (Zp (λx:UInt8×Unit=>lowB x.1))),(95,.pure (preT (λ_:UInt8×Unit=>true)) (Zp (λx:UInt8×Unit=>digB x.1))),(96,.pure (preT (λ_:Str×Unit=>true)) (Zp (λx:Str×Unit=>Qa.contains x.1.s)))]
def h6j{G:PV->Prop}(s:List UInt8):=Vo (At Gi 0 (Za KG G) KH 0 39 [Zg s,(3,Zj)] []) G (.nil) Gi KG KH (Z7 39 [.str s]) (by delta Zg Zj;exact rfl)
def PZ{G:PV->Prop}(s:List UInt8)(i:Int):=VP (if (VW i s) then(Uk i s)=true∧(a6d (JX s i) λb=>(if (!b) then if (i==0)=true then G (.bool false)else((Uk i s)∧(OO (JX s i) λe=>(if (!e) then G (.bool false)else(At Gi 0 (Za KG G) KH 0 39 [Zg s,(3,ZY i)] []))))else(At Gi 0 (Za KG G) KH 0 39 [Zg s,(3,ZY i)] [])))else(if (decide ((↑(Cm s):Int) ≥ 1)) then if (decide ((↑(Cm s):Int)<=30))=true then ∃ a:Bool,(b1t s a)∧(G (.bool !a))else(Zu G)else(Zu G))) G (dm [dv Bool] 84 0x2222222022202252200642222012420222222020001422225121220222222220094222021451102f42) Gi KG KH 0 39 [Zg s,(3,Zv i)] [] (by delta VW Uk KR JX Zg Yx ZY b1t Zu;exact rfl)
noncomputable def Dk:IC:=Xx Proofs.Tryz.f133
def Dc:List IRes:=[.tmp 2]
abbrev f6s:Nat:=25
def SL:ZH:=YT [(97,.pure (preT (λx:Str×Unit=>decide (x.1.s.length<=1048576))) (Zp (λx:Str×Unit=>nameI x.1.s)))]
def g8i{G:PV->Prop}(s:List UInt8):=Vo (At SL 0 (Za Dc G) Dk 0 25 [Zg s,(3,Zj)] []) G (.nil) SL Dc Dk (Z7 25 [.str s]) (by delta Zg Zj;exact rfl)
def d0v(a:Int)(Zl:List UInt8):Bool:=decide (0<=IK Ip (a+1))&&true&&decide (Iu (Yx a)<=Cm Zl)&&decide (Cm Zl<=Cm Zl)
def Ag(a:Int):Nat:=Iu (Yx a)
def c4s{G:PV->Prop}(s:List UInt8)(i:Int):=VP (if (VW i s) then(Uk i s)=true∧(if ((↑(KR s i):Int)==46) then(c4q i s)=true∧(Bp [.str (Ih 0 (Iy (Iu i) s))] λa=>(if (a) then(d0v i s)=true∧(Bp [.str (Ih (Ag i) (Iy (Cm s) s))] λb=>(G (.bool b)))else(Zu G)))else(At SL 0 (Za Dc G) Dk 0 25 [Zg s,(3,ZY i)] []))else(Zu G)) G (dm [dv Bool] 38 0x2022222025121222200a451101742101f42) SL Dc Dk 0 25 [Zg s,(3,Zv i)] [] (by delta VW Uk KR c4q Yx d0v Ag Zu Zg ZY;exact rfl)
noncomputable def e0k:IC:=Xx Proofs.Tryz.f106
def d8v:List IRes:=[.tmp 2]
abbrev h0d:Nat:=9
def g1d:ZH:=YT [(97,.pure (preT (λx:Str×Unit=>decide (x.1.s.length<=1048576))) (Zp (λx:Str×Unit=>nameI x.1.s))),(133,.pure (preT (λx:Str×Unit=>decide (x.1.s.length<=1048576))) (Zp (λx:Str×Unit=>fullI x.1.s)))]
def i9b{G:PV->Prop}(s:List UInt8):=Vo ((Bp [.str s] λa=>(b5t a G s))) G (dm [dv Bool] 15 0x2512022003451) g1d d8v e0k (Z7 9 [.str s]) (by delta b5t;exact rfl)
noncomputable def a8z:IC:=Xx Proofs.Tryz.f103
def Sa:List IRes:=[.tmp 12]
abbrev e4k:Nat:=66
def b9c:ZH:=YT []
def b5g(a:PV->Prop)(Zl:Nd):Prop:=a (.bool ((↑(Hq Zl):Int)==0))
def e0i(b:Nd)(Zl:Bool)(a:PV->Prop):Prop:=if ((↑(Cm (VK b)):Int)==0)=true then if (Zl)=true then a (.bool true)else(b5g a b)else(Zu a)
def d3i(a:Nd):PV:=.bool ((↑(Cm (Ie enc (Nd.ranks a))):Int)==0)
def e0s(b:Nd)(Zl e:Bool)(a:PV->Prop):Prop:=if (Str.s (Nd.elem b)==[])=true then if (IK Ip ((↑(Cm (Ie enc (Nd.dims b))):Int)+(↑(Cm (Ie enc (Nd.data b))):Int))==0)=true then if (Zl)=true then if (e)=true then a (.bool true)else(a (d3i b))else(if ((↑(VG b):Int)==0) then if (e)=true then a (.bool true)else(a (d3i b))else(a (.bool false)))else(a (.bool false))else(a (.bool false))
def d1p(b:Nd)(Zl g e:Bool)(a:PV->Prop):Prop:=if (Nd.num b==0)=true then if (Zl)=true then if (g)=true then if (e)=true then a (.bool true)else(a (.bool ((↑(Hq b):Int)==0)))else(e0i b e a)else(e0s b g e a)else(Zu a)
def g1h{G:PV->Prop}(n:Nd)(ks:List Tm)(a b c d e:Bool):=Vo (if (a) then if (b)=true then if (c)=true then if (d)=true then if (e)=true then G (.bool true)else(b5g G n)else(e0i n e G)else(e0s n d e G)else(d1p n c d e G)else(if (Rz n) then if (b)=true then if (c)=true then if (d)=true then if (e)=true then G (.bool true)else(b5g G n)else(e0i n e G)else(e0s n d e G)else(d1p n c d e G)else(Zu G))) G (dm [] 931 0x22222222222222202222222222202222222222222222222222022222220222022222220222222007420144222222202222222022222200742222222201b420434222222222222222205f4222220222022222220222222007420144222222202222222022222200742222222201b4222222222204c420d0422222202222222222222222222222022222220222022222220222222007420144222222202222222022222200742222222201b420434222222222222222205f4222220222022222220222222007420144222222202222222022222200742222222201b4222222222204c422222220d6421c14222202222222222202222222222222222222222022222220222022222220222222007420144222222202222222022222200742222222201b420434222222222222222205f4222220222022222220222222007420144222222202222222022222200742222222201b4222222222204c420d0422222202222222222222222222222022222220222022222220222222007420144222222202222222022222200742222222201b420434222222222222222205f4222220222022222220222222007420144222222202222222022222200742222222201b4222222222204c422222220d64222221c54) b9c Sa a8z (Z7 66 [Ke n ks,.bool a,.bool b,.bool c,.bool d,.bool e]) (by delta Hq b5g VK Zu e0i d3i VG e0s d1p Rz;exact rfl)
noncomputable def Su:IC:=Xx Proofs.Tryz.f105
def Sd:List IRes:=[.tmp 2]
abbrev h2v:Nat:=16
def Lf:ZH:=YT [(132,.pure (preT (λx:Lin×Unit=>XD x.1)) (Zp (λx:Lin×Unit=>Zf x.1)))]
def i5c{G:PV->Prop}(l:List Lin):=Vo (At Lf 0 (Za Sd G) Su 0 16 [(0,.pv (VR l)),(3,Zj)] []) G (.nil) Lf Sd Su (Z7 16 [enc l]) (by delta VR Zj;exact rfl)
def d7l{G:PV->Prop}(l:List Lin)(i:Int):=VP (if (decide (i<(↑(Jf l):Int))) then(QU l i 2 λa=>(h8j [BL a] λb=>(if (!b) then G (.bool false)else(At Lf 0 (Za Sd G) Su 0 16 [(0,.pv (VR l)),(3,ZY i)] []))))else(V3 G)) G (dm [dr Lin,dv Bool] 19 0x2000146125100c42) Lf Sd Su 0 16 [(0,.pv (enc l)),(3,Zv i)] [] (by delta Jf CR BL VR Yx ZY V3;exact rfl)
noncomputable def J7:IC:=Xx Proofs.Tryz.f69
def KC:List IRes:=[.tmp 2]
abbrev f0i:Nat:=221
def CG:ZH:=YT [(97,.pure (preT (λx:Str×Unit=>decide (x.1.s.length<=1048576))) (Zp (λx:Str×Unit=>nameI x.1.s))),(103,.pure (preT (λx:Tm×Bool×Bool×Bool×Bool×Bool×Unit=>nW x.1)) (Zp (λx:Tm×Bool×Bool×Bool×Bool×Bool×Unit=>YZ x.1.nd x.2.1 x.2.2.1 x.2.2.2.1 x.2.2.2.2.1 x.2.2.2.2.2.1))),(106,.pure (preT (λx:Str×Unit=>decide (x.1.s.length<=1048576))) (Zp (λx:Str×Unit=>Mm x.1.s))),(105,.pure (preT (λx:List Lin×Unit=>decide (x.1.length<=1048576)&&x.1.all XD)) (Zp (λx:List Lin×Unit=>x.1.all Zf))),(104,.pure (preT (λx:Arr×Unit=>Dr x.1)) (Zp (λx:Arr×Unit=>Jz x.1)))]
def EL(g:Bool)(Zl:Nd)(e:List Tm)(a:PV->Prop):Prop:=if (g)=true then(a9o (a5w Zl e true false false false false) λb=>(a (.bool b)))else(Zu a)
def b6a(e:Nd)(Zl:List Tm)(b:PV->Prop):Prop:=a9o (a5w e Zl true true false false false) λa=>(b (.bool a))
def d5o(b:Nd)(Zl:List Tm)(a:PV->Prop):Prop:=if (Str.s (Nd.name b)==Vd)=true then if (Nd.num b==0)=true then if (Qv Zl)=true then(b6a b Zl a)else(Zu a)else(if (Qv Zl) then if (Nd.num b==1)=true then(b6a b Zl a)else(Zu a)else(Zu a))else(if (Qv Zl) then a (.bool false)else(Zu a))
def d1r(b:PV->Prop)(Zl:Nd)(a:List Tm):Prop:=At CG 0 (Za KC b) J7 0 221 [(1,.ptr 0 0),(5,Zj)] [Xc Zl a]
def g7b{G:PV->Prop}(n:Nd)(ks:List Tm):=Vo (if (decide (Nd.line n<0)) then G (.bool false)else(if (decide (Nd.line n>10000)) then G (.bool false)else(if (Nd.kind n==1) then if (Qv ks)=true then(Bp [YU n] λl=>(EL l n ks G))else(Zu G)else(if (Nd.kind n==2) then if (A7 n)=true then if (decide (Nd.num n ≥ (-2147483648:Int)))=true then if (decide (Nd.num n<=2147483647))=true then if (Qv ks)=true then(b6a n ks G)else(Zu G)else(d5o n ks G)else(d5o n ks G)else(d5o n ks G)else(if (Nd.kind n==3) then if (Qv ks)=true then(d6k (a9j n) λq=>(if (q) then(a9o (a5w n ks false false true false false) λj=>(G (.bool j)))else(Zu G)))else(Zu G)else(if (Nd.kind n==4) then if (Qv ks)=true then if ((↑(VG n):Int)==1)=true then(h8q [XX n] λa=>(if (a) then(a9o (a5w n ks false false false true false) λb=>(G (.bool b)))else(Zu G)))else(Zu G)else(Zu G)else(if (Nd.kind n==5) then if ((↑(Xw ks):Int)==2)=true then(Bp [YU n] λg=>(EL g n ks G))else(Zu G)else(if (Nd.kind n==6) then if (decide ((↑(Xw ks):Int)>8))=true then G (.bool false)else(if (decide ((↑(VG n):Int)>4)) then G (.bool false)else(h8q [XX n] λh=>(if (!h) then G (.bool false)else(if (decide (Nd.num n<0)) then G (.bool false)else(if (decide (Nd.num n>64)) then G (.bool false)else(if ((↑(Hq n):Int) != 0) then if ((↑(Hq n):Int) != (↑(Xw ks):Int))=true then G (.bool false)else(d1r G n ks)else(d1r G n ks)))))))else(if (Nd.kind n==7) then if (decide ((↑(Xw ks):Int) ≥ 1))=true then if (decide ((↑(Xw ks):Int)<=16))=true then(a9o (a5w n ks false false false false false) λk=>(G (.bool k)))else(Zu G)else(Zu G)else(if (Nd.kind n==8) then if ((↑(Xw ks):Int)==2)=true then(LK [YU n] λi=>(EL i n ks G))else(Zu G)else(if (Nd.kind n==9) then if ((↑(Xw ks):Int)==1)=true then(LK [YU n] λe=>(EL e n ks G))else(Zu G)else(Zu G)))))))))))) G (dm [dv Bool] 776 0x222222022025120054251220114201d420222222022025120054251220114201d4202222202202512005422200f4201a420222222220000142222222200e422222022222220084222202222222222200c42222022222222222222201042251220222222222222222222220154222220222222222222222222222222201a4209b420222222022025120054251220114201d4202222222222202222220220251200542512201142222202142032420222222022025120054251220114201d42022220222200542222222202222022025120054200d42222222220222202512220074222222220184222203f4222222222222022220222200542222222202222022025120054200d42222222220222202512220074222222220184222203f422222222022220222200542222222202222022025120054200d42222222220222202512220074222222220184222203f4222202222025122200742222220164222207b422220e44214e420222222022025120054251220114201d420001422220222200542) CG KC J7 (Z7 221 [Ke n ks]) (by delta Xw Qv YU Zu EL A7 b6a Vd d5o Wo Wv a4z a9j VK VG XX Hq Zj Xc d1r;exact rfl)
def c2a{G:PV->Prop}(n:Nd)(ks:List Tm)(i:Int):=VP (if (decide (i<(↑(Hq n):Int))) then(QU (Nd.ranks n) i 1 λa=>(if (decide (Iq (DY a)<0)) then G (.bool false)else(QU (Nd.ranks n) i 1 λg=>(if (decide (Iq (DY g)>6)) then G (.bool false)else(At CG 0 (Za KC G) J7 0 221 [(1,.ptr 0 0),(5,ZY i)] [Xc n ks])))))else(LK [YU n] λe=>(if (e) then(a9o (a5w n ks true true false true true) λb=>(G (.bool b)))else(Zu G)))) G (dm [dr Int,dv Bool] 53 0x220261200546102000142222251222022222220084225102142) CG KC J7 0 221 [(1,.ptr 0 0),(5,Zv i)] [QJ n ks] (by delta Hq DY Yx ZY Xc YU Zu;exact rfl)
noncomputable def SF:IC:=Xx Proofs.Tryz.f42
def Tj:List IRes:=[.tmp 2]
abbrev g6i:Nat:=20
def M5(N:Nat):ZH:=YT [(42,.pure (preT (λx:Tm×Unit=>gW x.1&&decide (Yt x.1<N))) (Zp (λx:Tm×Unit=>XH x.1))),(69,.pure (preT (λx:Tm×Unit=>nW x.1)) (Zp (λx:Tm×Unit=>PL x.1)))]
def i9a{G:PV->Prop}(N:Nat)(n:Nd)(ks:List Tm):=Vo (At (M5 N) 0 (Za Tj G) SF 0 20 [(1,.ptr 0 0),(3,Zj)] [Xc n ks]) G (.nil) (M5 N) Tj SF (Z7 20 [Ke n ks]) (by delta Zj Xc;exact rfl)
def d9v{G:PV->Prop}(N:Nat)(n:Nd)(ks:List Tm)(i:Int):=VP (if (K5 i ks) then(QU ks i 10 λa=>(shT a∧(j2x N (agT a) λe=>(if (!e) then G (.bool false)else(At (M5 N) 0 (Za Tj G) SF 0 20 [(1,.ptr 0 0),(3,ZY i)] [Xc n ks])))))else(h8r (ndA n ks) λb=>(G (.bool b)))) G (dm [dr Tm,dv Bool] 21 0x6102000146115100c42) (M5 N) Tj SF 0 20 [(1,.ptr 0 0),(3,Zv i)] [QJ n ks] (by delta Xw K5 Yx ZY Xc;exact rfl)
noncomputable def a9a:IC:=Xx Proofs.Tryz.f21
def LX:List IRes:=[.tmp 2]
abbrev e5b:Nat:=15
def b7r:ZH:=YT [(16,.pure (preT (λx:Tm×Unit=>gW x.1)) (Zp (λx:Tm×Unit=>(Yh x.1:Int)))),(15,.pure (preT (λx:Tm×Unit=>gW x.1)) (Zp (λx:Tm×Unit=>(Yt x.1:Int)))),(42,.pure (preT (λx:Tm×Unit=>gW x.1)) (Zp (λx:Tm×Unit=>XH x.1)))]
def f6m{G:PV->Prop}(n:Nd)(ks:List Tm):=Vo ((i6g (ndA n ks) λa=>(if (decide (a<=400)) then(i6o (ndA n ks) λe=>(if (decide (e<=40)) then(i2t (ndA n ks) λb=>(G (.bool b)))else(Zu G)))else(Zu G)))) G (dm [dv Int,dv Bool] 33 0x2222220220261200542225120124251) b7r LX a9a (Z7 15 [Ke n ks]) (by delta Zu;exact rfl)
noncomputable def e2a:IC:=Xx Proofs.Tryz.f102
def d7s:List IRes:=[.tmp 4,.tmp 5,.tmp 6]
abbrev h1l:Nat:=40
def f6f:ZH:=YT []
def i2z{G:PV->Prop}(s:List UInt8)(u:Bool):=Vo (if (u) then if (s==[45])=true then G (.tup [Am,.int .i64 6,.bool true])else(if (s==[33]) then G (.tup [.str [110,111,116],.int .i64 6,.bool true])else(G (a0q)))else(if (s==[124,124]) then G (.tup [.str [111,114],.int .i64 1,.bool true])else(if (s==[38,38]) then G (.tup [.str [97,110,100],.int .i64 2,.bool true])else(if (s==[61,61]) then G (.tup [.str [101,113],.int .i64 3,.bool true])else(if (s==[33,61]) then G (.tup [.str [110,101],.int .i64 3,.bool true])else(if (s==[60]) then G (.tup [.str [108,116],.int .i64 3,.bool true])else(if (s==[60,61]) then G (.tup [.str [108,101],.int .i64 3,.bool true])else(if (s==[62]) then G (.tup [.str [103,116],.int .i64 3,.bool true])else(if (s==[62,61]) then G (.tup [.str [103,101],.int .i64 3,.bool true])else(if (s==[43]) then G (.tup [.str [97,100,100],.int .i64 4,.bool true])else(if (s==[45]) then G (.tup [Rm,.int .i64 4,.bool true])else(if (s==[42]) then G (.tup [.str [109,117,108],.int .i64 5,.bool true])else(if (s==[47]) then G (.tup [.str [100,105,118],.int .i64 5,.bool true])else(if (s==[37]) then G (.tup [.str [109,111,100],.int .i64 5,.bool true])else(G (a0q)))))))))))))))) G (dm [] 97 0x142000142000142000142000142000142000142000142000142000142000142000142000142000014200014200d4) f6f d7s e2a (Z7 40 [.str s,.bool u]) (by delta Am a0q Rm;exact rfl)
end Go.Pl
