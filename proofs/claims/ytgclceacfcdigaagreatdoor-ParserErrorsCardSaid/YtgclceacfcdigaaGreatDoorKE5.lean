/-
  Texts of mine that belong together (packed by pack.py), for every input: QYn, GYe, TyYq, QYp, GYv, QYv, QYw, TyJi, GJl, QJl, QJm, TyJa, TyJb, TyJd, TyJw, GJw, GJc, GJb, GJa, QJa, TyJc, QJb, TyJe, TyJf, TyJg, TyJh, QJn, VwX, TyAk, VwN, QJw, TyJv, TyJz, TyKa, TyKc, TyKf, TyKg, TyKm, TySy, TySz, TySw, TySv, TySu, TySr, TySq, TyKb, TyKd, TyKn, GJr, TyJx, GJx, QJx, QJr.
-/
import Derived.Test.YtgclceacfcdigaaGreatDoorChecked
import Derived.Test.YtgclceacfcdigaaGreatDoorKE2
import Derived.Test.YtgclceacfcdigaaGreatDoorKE3
import Derived.Test.YtgclceacfcdigaaGreatDoorKE4
import Derived.KernelRfl
set_option linter.unusedVariables false
set_option linter.unusedSimpArgs false
set_option linter.defProp false
namespace Go.Pl
open Go.RowKit
open Enc (enc dec is)
open EncL (encL decL isL)
theorem Vo{w:List UInt8}{ln:Int}{o:List Pm}{g:Bool}{ty:TyS}{t:Tm}{p e r d b0 b1 l s u j y h q i:PV}(h1:Ze o p)(h2:Ze ty.elem e)(h3:Ze ty.row r)(B:Ze ty.dims d)(ht:Ze (H9 t) (.agg [b0,b1,l,s,u,j,y,h,q,i])):Ze (Bf ⟨w⟩ ln o (g,ty) t) (.agg [.str w,.int .i64 ln,p,.bool g,e,r,d,b0,b1,l,s,u,j,y,h,q,i]):=by
 obtain⟨n,ks⟩:=t
 obtain⟨z,A⟩:=ht
 have z:(is Int b0&&is Int b1&&is Str l&&is Int s&&is Str u&&is (List Int) j&&is (List Int) y&&is (List Lin) h&&is (List Int) q&&is (List Tm) i)=true:=z
 have A:(⟨⟨dec b0,dec b1,dec l,dec s,dec u,dec j,dec y,dec h,dec q⟩,dec i⟩:TS)=⟨n,ks⟩:=A
 have C:(⟨dec b0,dec b1,dec l,dec s,dec u,dec j,dec y,dec h,dec q⟩:Nd)=n:=congrArg TS.n A
 have D:(dec i:List Tm)=ks:=congrArg TS.k A
 simp only[Bool.and_eq_true]at z
 obtain⟨⟨⟨⟨⟨⟨⟨⟨⟨E,F⟩,a2⟩,a3⟩,a4⟩,a5⟩,a6⟩,a7⟩,a8⟩,a9⟩:=z
 refine⟨?_,?_⟩
 ·show(true&&true&&is (List Pm) p&&true&&is Str e&&is Str r&&is (List Lin) d&&is Int b0&&is Int b1&&is Str l&&is Int s&&is Str u&&is (List Int) j&&is (List Int) y&&is (List Lin) h&&is (List Int) q&&is (List Tm) i)=true
  rw[h1.1,h2.1,h3.1,B.1,E,F,a2,a3,a4,a5,a6,a7,a8,a9]
  rfl
 ·show(⟨⟨w⟩,ln,dec p,g,⟨dec e,dec r,dec d⟩,⟨dec b0,dec b1,dec l,dec s,dec u,dec j,dec y,dec h,dec q⟩,dec i⟩:Df)=⟨⟨w⟩,ln,o,g,ty,n,ks⟩
  rw[h1.2,h2.2,h3.2,B.2,C,D]
theorem b8w:Ze (H9 (Tm.mk nd0 [])) (.agg [.int .i64 0,.int .i64 0,.str [],.int .i64 0,.str [],.sl 0 true [],.sl 0 true [],.sl 0 true [],.sl 0 true [],.sl 0 true []]):=Hu (YL rfl) (YL rfl) (Zz rfl) (YL rfl) (Zz rfl) Zl Zl Zl Zl Zl
theorem RO{s:PS}{d:Tm->Df}(h:s.bad=true):s.dfE d=((d (.mk nd0 []),false),s):=if_pos h
theorem EQ{s:PS}{d:Tm->Df}(h:s.bad=false)(h2:s.expr.2.bad=true):s.dfE d=((d s.expr.1,false),s.expr.2):=(if_neg (by rw[h];decide)).trans (if_pos h2)
theorem Uc{s:PS}{d:Tm->Df}(h:s.bad=false)(h2:s.expr.2.bad=false):s.dfE d=((d s.expr.1,s.expr.2.big||(!(Xh s.expr.1)||(decide ((d s.expr.1).ps.length>8)||decide ((d s.expr.1).line>10000)))),s.expr.2):=(if_neg (by rw[h];decide)).trans (if_neg (by rw[h2];decide))
theorem e2d{w:List UInt8}{ln:Int}{o:List Pm}{e r:List UInt8}{d:List Lin}{s:PS}(hs:Zd s=true)(q:ZX s.l=true):e0e (ZJ [] [] ((s.need ⟨[61]⟩).dfE (Bf ⟨w⟩ ln o (true,⟨⟨e⟩,⟨r⟩,d⟩))).1 ((s.need ⟨[61]⟩).dfE (Bf ⟨w⟩ ln o (true,⟨⟨e⟩,⟨r⟩,d⟩))).2) s w ln o e r d:=by
 have u:=Zu hs
 have k:=Ge.need (w:=⟨[61]⟩) u.2
 have h:=k.ok hs
 have i:ZX (s.need ⟨[61]⟩).l=true:=by rw[k.l];exact q
 refine ZK hs ?_
 generalize s.need ⟨[61]⟩=t at h i ⊢
 refine ZW (fun h1=> ?_) fun h1=>Et h (ZW (fun h2=> ?_) fun h2=>ZW (fun h3=> ?_) fun h3=>⟨c1c (KU t.expr.1) (c0u (RY h i h2)),e5a (KU t.expr.1) (YO (fun g=> ?_) fun g=>Yu (fun j=> ?_) fun j=> ?_)⟩)
 ·rw[RO h1];exact Zi (Vs (Vo (Zt (x:=o) rfl) (Zz rfl) (Zz rfl) (Zt (x:=d) rfl) b8w) (ZO rfl))
 ·rw[EQ h1 h2];exact Zi (Vs (Vo (Zt (x:=o) rfl) (Zz rfl) (Zz rfl) (Zt (x:=d) rfl) (Ux _)) (ZO rfl))
 ·rw[Uc h1 h2,h3];exact Zi (Vs (Vo (Zt (x:=o) rfl) (Zz rfl) (Zz rfl) (Zt (x:=d) rfl) (Ux _)) (ZO rfl))
 ·rw[Uc h1 h2,h3]
  have g:Xh t.expr.1=false:=g
  rw[g];exact Zi (Vs (Vo (Zt (x:=o) rfl) (Zz rfl) (Zz rfl) (Zt (x:=d) rfl) (Ux _)) (ZO rfl))
 ·rw[Uc h1 h2,h3]
  have g:Xh t.expr.1=true:=g
  rw[g,decide_eq_true (show((Bf ⟨w⟩ ln o (true,⟨⟨e⟩,⟨r⟩,d⟩)) t.expr.1).ps.length>8 by show o.length>8;rw[List.length_map]at j;omega)];exact Zi (Vs (Vo (Zt (x:=o) rfl) (Zz rfl) (Zz rfl) (Zt (x:=d) rfl) (Ux _)) (ZO rfl))
 ·rw[Uc h1 h2,h3]
  have g:Xh t.expr.1=true:=g
  rw[g,decide_eq_false (show ¬ ((Bf ⟨w⟩ ln o (true,⟨⟨e⟩,⟨r⟩,d⟩)) t.expr.1).ps.length>8 by show ¬ o.length>8;rw[List.length_map]at j;omega)];exact Zi (Vs (Vo (Zt (x:=o) rfl) (Zz rfl) (Zz rfl) (Zt (x:=d) rfl) (Ux _)) (ZO rfl))
theorem d4b{w:List UInt8}{ln:Int}{o:List Pm}{s:PS}(hs:Zd s=true)(k:ZX s.l=true):c8v (ZJ [] [] ((s.need ⟨[61]⟩).dfE (Bf ⟨w⟩ ln o (false,ty0))).1 ((s.need ⟨[61]⟩).dfE (Bf ⟨w⟩ ln o (false,ty0))).2) s w ln o:=by
 have q:=Zu hs
 have j:=Ge.need (w:=⟨[61]⟩) q.2
 have g:=j.ok hs
 have h:ZX (s.need ⟨[61]⟩).l=true:=by rw[j.l];exact k
 refine ZK hs ?_
 generalize s.need ⟨[61]⟩=t at g h ⊢
 refine ZW (fun h1=> ?_) fun h1=>Et g (ZW (fun h2=> ?_) fun h2=>ZW (fun h3=> ?_) fun h3=>⟨c1c (KU t.expr.1) (c0u (RY g h h2)),e5a (KU t.expr.1) (YO (fun e=> ?_) fun e=>Yu (fun i=> ?_) fun i=> ?_)⟩)
 ·rw[RO h1];exact Zi (Vs (Vo (Zt (x:=o) rfl) (Zz rfl) (Zz rfl) Zl b8w) (ZO rfl))
 ·rw[EQ h1 h2];exact Zi (Vs (Vo (Zt (x:=o) rfl) (Zz rfl) (Zz rfl) Zl (Ux _)) (ZO rfl))
 ·rw[Uc h1 h2,h3];exact Zi (Vs (Vo (Zt (x:=o) rfl) (Zz rfl) (Zz rfl) Zl (Ux _)) (ZO rfl))
 ·rw[Uc h1 h2,h3]
  have e:Xh t.expr.1=false:=e
  rw[e];exact Zi (Vs (Vo (Zt (x:=o) rfl) (Zz rfl) (Zz rfl) Zl (Ux _)) (ZO rfl))
 ·rw[Uc h1 h2,h3]
  have e:Xh t.expr.1=true:=e
  rw[e,decide_eq_true (show((Bf ⟨w⟩ ln o (false,ty0)) t.expr.1).ps.length>8 by show o.length>8;rw[List.length_map]at i;omega)];exact Zi (Vs (Vo (Zt (x:=o) rfl) (Zz rfl) (Zz rfl) Zl (Ux _)) (ZO rfl))
 ·rw[Uc h1 h2,h3]
  have e:Xh t.expr.1=true:=e
  rw[e,decide_eq_false (show ¬ ((Bf ⟨w⟩ ln o (false,ty0)) t.expr.1).ps.length>8 by show ¬ o.length>8;rw[List.length_map]at i;omega)];exact Zi (Vs (Vo (Zt (x:=o) rfl) (Zz rfl) (Zz rfl) Zl (Ux _)) (ZO rfl))
theorem d5l{w:List UInt8}{ln:Int}{e r:List UInt8}{d:List Lin}{s:PS}(hs:Zd s=true)(k:ZX s.l=true):d1m (ZJ [] [] ((s.need ⟨[61]⟩).dfE (Bf ⟨w⟩ ln [] (true,⟨⟨e⟩,⟨r⟩,d⟩))).1 ((s.need ⟨[61]⟩).dfE (Bf ⟨w⟩ ln [] (true,⟨⟨e⟩,⟨r⟩,d⟩))).2) s w ln e r d:=by
 have q:=Zu hs
 have j:=Ge.need (w:=⟨[61]⟩) q.2
 have g:=j.ok hs
 have i:ZX (s.need ⟨[61]⟩).l=true:=by rw[j.l];exact k
 refine ZK hs ?_
 generalize s.need ⟨[61]⟩=t at g i ⊢
 refine ZW (fun h1=> ?_) fun h1=>Et g (ZW (fun h2=> ?_) fun h2=>ZW (fun h3=> ?_) fun h3=>⟨c1c (KU t.expr.1) (c0u (RY g i h2)),e5a (KU t.expr.1) (YO (fun h=> ?_) fun h=> ?_)⟩)
 ·rw[RO h1];exact Zi (Vs (Vo Zl (Zz rfl) (Zz rfl) (Zt (x:=d) rfl) b8w) (ZO rfl))
 ·rw[EQ h1 h2];exact Zi (Vs (Vo Zl (Zz rfl) (Zz rfl) (Zt (x:=d) rfl) (Ux _)) (ZO rfl))
 ·rw[Uc h1 h2,h3];exact Zi (Vs (Vo Zl (Zz rfl) (Zz rfl) (Zt (x:=d) rfl) (Ux _)) (ZO rfl))
 ·rw[Uc h1 h2,h3]
  have h:Xh t.expr.1=false:=h
  rw[h];exact Zi (Vs (Vo Zl (Zz rfl) (Zz rfl) (Zt (x:=d) rfl) (Ux _)) (ZO rfl))
 ·rw[Uc h1 h2,h3]
  have h:Xh t.expr.1=true:=h
  rw[h];exact Zi (Vs (Vo Zl (Zz rfl) (Zz rfl) (Zt (x:=d) rfl) (Ux _)) (ZO rfl))
theorem e1n{w:List UInt8}{ln:Int}{s:PS}(hs:Zd s=true)(j:ZX s.l=true):d0c (ZJ [] [] ((s.need ⟨[61]⟩).dfE (Bf ⟨w⟩ ln [] (false,ty0))).1 ((s.need ⟨[61]⟩).dfE (Bf ⟨w⟩ ln [] (false,ty0))).2) s w ln:=by
 have k:=Zu hs
 have i:=Ge.need (w:=⟨[61]⟩) k.2
 have e:=i.ok hs
 have h:ZX (s.need ⟨[61]⟩).l=true:=by rw[i.l];exact j
 refine ZK hs ?_
 generalize s.need ⟨[61]⟩=t at e h ⊢
 refine ZW (fun h1=> ?_) fun h1=>Et e (ZW (fun h2=> ?_) fun h2=>ZW (fun h3=> ?_) fun h3=>⟨c1c (KU t.expr.1) (c0u (RY e h h2)),e5a (KU t.expr.1) (YO (fun g=> ?_) fun g=> ?_)⟩)
 ·rw[RO h1];exact Zi (Vs (Vo Zl (Zz rfl) (Zz rfl) Zl b8w) (ZO rfl))
 ·rw[EQ h1 h2];exact Zi (Vs (Vo Zl (Zz rfl) (Zz rfl) Zl (Ux _)) (ZO rfl))
 ·rw[Uc h1 h2,h3];exact Zi (Vs (Vo Zl (Zz rfl) (Zz rfl) Zl (Ux _)) (ZO rfl))
 ·rw[Uc h1 h2,h3]
  have g:Xh t.expr.1=false:=g
  rw[g];exact Zi (Vs (Vo Zl (Zz rfl) (Zz rfl) Zl (Ux _)) (ZO rfl))
 ·rw[Uc h1 h2,h3]
  have g:Xh t.expr.1=true:=g
  rw[g];exact Zi (Vs (Vo Zl (Zz rfl) (Zz rfl) Zl (Ux _)) (ZO rfl))
theorem e6h{g:Str}{ln:Int}{o:List Pm}{ty:TyS}{s:PS}(hs:Zd s=true)(h:ZX s.l=true):e0e (ZJ [] [] ((s.need ⟨[61]⟩).dfE (Bf g ln o (true,ty))).1 ((s.need ⟨[61]⟩).dfE (Bf g ln o (true,ty))).2) s g.s ln o ty.elem.s ty.row.s ty.dims:=by
 obtain⟨w⟩:=g
 obtain⟨⟨e⟩,⟨r⟩,d⟩:=ty
 exact e2d hs h
theorem e3v{e:Str}{ln:Int}{o:List Pm}{s:PS}(hs:Zd s=true)(g:ZX s.l=true):c8v (ZJ [] [] ((s.need ⟨[61]⟩).dfE (Bf e ln o (false,ty0))).1 ((s.need ⟨[61]⟩).dfE (Bf e ln o (false,ty0))).2) s e.s ln o:=by
 obtain⟨w⟩:=e
 exact d4b hs g
theorem b8h{g:Str}{ln:Int}{ty:TyS}{s:PS}(hs:Zd s=true)(h:ZX s.l=true):d1m (ZJ [] [] ((s.need ⟨[61]⟩).dfE (Bf g ln [] (true,ty))).1 ((s.need ⟨[61]⟩).dfE (Bf g ln [] (true,ty))).2) s g.s ln ty.elem.s ty.row.s ty.dims:=by
 obtain⟨w⟩:=g
 obtain⟨⟨e⟩,⟨r⟩,d⟩:=ty
 exact d5l hs h
theorem b9d{e:Str}{ln:Int}{s:PS}(hs:Zd s=true)(g:ZX s.l=true):d0c (ZJ [] [] ((s.need ⟨[61]⟩).dfE (Bf e ln [] (false,ty0))).1 ((s.need ⟨[61]⟩).dfE (Bf e ln [] (false,ty0))).2) s e.s ln:=by
 obtain⟨w⟩:=e
 exact e1n hs g
theorem e5u{s:PS}(h:s.bad=true):s.dfP=([],s):=if_pos h
theorem f6y{s:PS}(h:s.bad=false)(h2:s.next ⟨[41]⟩=true):s.dfP=([],s):=(if_neg (by rw[h];decide)).trans (if_pos h2)
theorem g1j{s:PS}(h:s.bad=false)(h2:s.next ⟨[41]⟩=false):s.dfP=listL PS.param s:=(if_neg (by rw[h];decide)).trans (if_neg (by rw[h2];decide))
theorem d3x{s:PS}(h:s.next ⟨[58]⟩=true):s.dfR=((true,s.step.typ.1),s.step.typ.2):=if_pos h
theorem d7q{s:PS}(h:s.next ⟨[58]⟩=false):s.dfR=((false,ty0),s):=if_neg (by rw[h];decide)
theorem G6{s:PS}{ps:List Pm×PS}{r:(Bool×TyS)×PS}(h1:(s.df0.name.2.need ⟨[40]⟩).dfP=ps)(h2:(ps.2.need ⟨[41]⟩).dfR=r):s.defP=(r.2.need ⟨[61]⟩).dfE (Bf s.df0.name.1 (s.peek 0).ln ps.1 r.1):=by subst h1 h2;rfl
set_option maxHeartbeats 2000000 in
theorem f0c: ∀ (s:PS) (a:Unit),(Zd s&&ZX s.l)=true->Zm e2p 1 (ZB 1 b5c (ZJ [] [] (c3y s a).1 (c3y s a).2)) b2n [] (Z8 f5r (ZG a) ([]++[Zj s])):=by
 rintro s ⟨⟩ h
 rw[Bool.and_eq_true]at h
 obtain⟨hs,M⟩:=h
 have Q:=Zu hs
 have kd:=Ge.need (w:=⟨[100,101,102]⟩) Q.2
 have F:=kd.ok hs
 have hu:Zd s.df0=true:=F
 have O:ZX s.df0.l=true:=by show ZX (s.need _).l=true;rw[kd.l];exact M
 have N:=Zu hu
 have C:=Ge.name N.2
 have A:=C.ok hu
 have D:=Ge.need (w:=⟨[40]⟩) C.hi
 have e:=D.ok A
 have H:=C.trans D
 show Zm e2p 1 (ZB 1 b5c (ZJ [] [] s.defP.1 s.defP.2)) b2n [] _
 have E : ∀ {ps:List Pm×PS} (h1:(s.df0.name.2.need ⟨[40]⟩).dfP=ps) (k:Ge s.df0 ps.2),
   Zd (ps.2.need ⟨[41]⟩)=true∧ZX (ps.2.need ⟨[41]⟩).l=true∧(ps.2.need ⟨[41]⟩).i<=(ps.2.need ⟨[41]⟩).l.length:=fun {ps} h1 k=>by
  have P:=Ge.need (w:=⟨[41]⟩) k.hi
  have K:=k.trans P
  exact⟨K.ok hu,by rw[K.l];exact O,K.hi⟩
 have ty : ∀ {t:PS},Zd t=true->ZX t.l=true->t.next ⟨[58]⟩=true->Zd t.step=true∧Zd t.step.typ.2=true∧ZX t.step.typ.2.l=true:=fun {t} a b c=>by
  have B:=Ge.step (Zh c)
  have J:=Ge.typ B.hi
  exact⟨B.ok a,J.ok (B.ok a),by rw[J.l,B.l];exact b⟩
 refine g2e s (Xb hs (ZK hs (c0d (s:=s.df0) rfl hu (ZK A (YO (fun hb=>YQ e (YO (fun hn=> ?_) fun hn=> ?_)) fun hb=> ?_)))))
 ·have j:=g1j hb hn
  have L:=Ge.list (one:=PS.param) (fun s h=>Ge.param h) D.hi
  obtain⟨g,r,I⟩:=E j (H.trans L)
  refine d0h e (ZK (L.ok e) (Yg g (fun q=>Yd rfl ?_) fun q=>Yi (by simp) ?_))
  ·obtain⟨u,y,z⟩:=ty g r q
   refine c0c u ?_
   rw[G6 j (d3x q)]
   exact e6h y z
  ·rw[G6 j (d7q q)]
   exact e3v g r
 ·have j:=f6y hb hn
  obtain⟨g,r,I⟩:=E j H
  refine ZK e (Yg g (fun q=>Yd rfl ?_) fun q=>Yi (by simp) ?_)
  ·obtain⟨u,y,z⟩:=ty g r q
   refine c0c u ?_
   rw[G6 j (d3x q)]
   exact b8h y z
  ·rw[G6 j (d7q q)]
   exact b9d g r
 ·have j:=e5u hb
  obtain⟨g,r,I⟩:=E j H
  refine ZK e (Yg g (fun q=>Yd rfl ?_) fun q=>Yi (by simp) ?_)
  ·obtain⟨u,y,z⟩:=ty g r q
   refine c0c u ?_
   rw[G6 j (d3x q)]
   exact b8h y z
  ·rw[G6 j (d7q q)]
   exact b9d g r
theorem c0x{s:PS}{K:Df×Bool->PS->Prop}(hs:Zd s=true)(e:ZX s.l=true)(h:K s.defP.1 s.defP.2):WR ZG Y2 [] [] (fun(s:PS) (_:Unit)=>Zd s&&ZX s.l) c3y [.ptr 0 0] [Zj s] K:=YJ ZT s () rfl rfl (by rw[hs,e];rfl) h
set_option maxRecDepth 100000
abbrev OW(args:List AV)(os:List AObj):=WR (Ri 34) (CQ) ([]) ([]) (fun(s:PS) (x:Unit)=>Zd s) (Xm PS.name) args os
abbrev OQ(args:List AV)(os:List AObj):=WR (ZG) (Y2) ([]) ([]) (fun(s:PS) (x:Unit)=>Zd s&&ZX (PS.l s)) (c3y) args os
abbrev a3s(args:List AV)(os:List AObj):=WR (ZG) (Y2) ([]) ([]) (fun(s:PS) (x:Unit)=>Zd s) (LQ) args os
noncomputable def Yz:IC:=Wq Proofs.Tryz.f18
def Yy:List IRes:=[(.cell true 4 2),(.tmp 3),(.tmp 4)]
abbrev f5x:Nat:=108
noncomputable def Xg:ZP:=Xa [(25,.own SC a3o),PG,a8j,CE,(36,.own (XZ (Ri 34) [] [] (fun(s:PS) (_:Unit)=>Zd s)) (Wy CQ [] [] (Xm PS.name))),OT,Bi,(39,.own (XZ ZG [] [] (fun(s:PS) (_:Unit)=>Zd s&&ZX s.l)) (Wy Y2 [] [] c3y)),(27,.own (XZ ZG [] [] (fun(s:PS) (_:Unit)=>Zd s)) (Wy Y2 [] [] LQ))]
def Gz:PV:=.agg [.str [],.sl 0 true [],.sl 0 true [],.sl 0 true []]
def JE:List (Nat×AV):=[(2,.ptr 0 0),(5,.ptr 1 0)]
def g2n{G:PV->Prop}(s:List UInt8):=Qr ((SC [.pv (.str s)] [])=true∧(if (R3.c (Yt (Str.mk s)) != 0)=true then G (.tup [Gz,.int .i64 (R3.b (Yt (Str.mk s))),.int .i64 (R3.c (Yt (Str.mk s)))])else(ZV [.ptr 0 0,.pv (.str [109,111,100,117,108,101])] [.box [.pv (.sl 4 false (List.map enc (PS.l (J6 s)))),.pv (.int .i64 (↑(PS.i (J6 s)):Int)),.pv (.int .i64 (PS.sz (J6 s))),Va,.pv (.int .i64 (PS.wr (J6 s))),Va]] fun y0 h=>(QT [.ptr 0 0] [Zj h] fun e g=>(At Xg 0 (Za Yy G) Yz 0 108 JE [.obj (.box [.pv (.str (Str.s e)),Z5,Z5,Z5]),.obj (Zj g)]))))) G (dm [dv Unit,dO PS,dv Str] 16 0x67165100014231) Xg Yy Yz (YI 108 [.str s]) (by delta Gz Va JE Z5;exact rfl)
def a0i:List AV:=[.ptr 0 0,.pv (.str [105,109,112,111,114,116])]
def a1y(e:List UInt8)(Zq:PS):ZE:=[.obj (.box [.pv (.str e),Z5,Z5,Z5]),.obj (Zj Zq)]
def a2i:List AV:=[.ptr 0 0,.pv (.str [101,120,112,111,114,116])]
def Sv:List (Nat×AV):=[(2,.ptr 0 0),(5,.ptr 1 0),(6,.pv (.int .i64 (-1)))]
def e5b{G:PV->Prop}(s:List UInt8)(w:List UInt8)(q:PS):=WM (Yh a0i [Zj q] fun k h=>(if (k)=true then OW DU [Zj h] fun e i=>((List.isEmpty (List.map enc e)||Enc.sz Str==1)=true∧(if (List.isEmpty (List.map enc e))=true then At Xg 0 (Za Yy G) Yz 0 108 JE (a1y w i)else(((List.isEmpty ([]:List PV)||0==1)&&decide ((List.length ([]:List PV)+List.length (List.map enc e))*16<=1099511627776)&&decide (List.length ([]:List PV)+List.length (List.map enc e)<=1099511627776))=true∧(At Xg 0 (Za Yy G) Yz 0 108 JE [.obj (.box [.pv (.str w),.row 2 (List.length ([]:List PV)+List.length (List.map enc e)) 0 (List.length ([]:List PV)+List.length (List.map enc e)),Z5,Z5]),.obj (Zj i),.obj (.row false 9 1 (([]:List PV)++List.map enc e))]))))else(Yh a2i [Zj h] fun l g=>(if (l)=true then OW DU [Zj g] fun r j=>(At Xg 0 (Za Yy G) Yz 1 108 Sv [.obj (.box [.pv (.str w),Z5,.pv (.sl 1 false (List.map enc r)),Z5]),.obj (Zj j)])else(At Xg 0 (Za Yy G) Yz 1 108 Sv (a1y w g)))))) G (dm [dv Bool,dO PS,dv (List Str)] 32 0x671004465101000142167100c4651) Xg Yy Yz 0 108 JE (a1y w q) (by delta a0i DU JE Z5 a1y a2i Sv;exact rfl)
def DL(e:List Str):Slot:=.obj (.row false 9 1 (List.map enc e))
def e4a{G:PV->Prop}(s:List UInt8)(w:List UInt8)(q:PS)(o:List Str)(L:Nat):=WM (Yh a0i [Zj q] fun j h=>(if (j)=true then OW DU [Zj h] fun e r=>((List.isEmpty (List.map enc e)||Enc.sz Str==1)=true∧((List.length (List.map enc o)==L&&L==L&&decide ((L+List.length (List.map enc e))*16<=1099511627776)&&decide (L+List.length (List.map enc e)<=1099511627776))=true∧(At Xg 0 (Za Yy G) Yz 0 108 JE [.obj (.box [.pv (.str w),.row 2 (L+List.length (List.map enc e)) 0 (L+List.length (List.map enc e)),Z5,Z5]),.obj (Zj r),.obj (.row false 9 1 (List.map enc o++List.map enc e))])))else(Yh a2i [Zj h] fun k g=>(if (k)=true then OW DU [Zj g] fun l i=>(At Xg 0 (Za Yy G) Yz 1 108 Sv [.obj (.box [.pv (.str w),.row 2 L 0 L,.pv (.sl 1 false (List.map enc l)),Z5]),.obj (Zj i),DL o])else(At Xg 0 (Za Yy G) Yz 1 108 Sv [.obj (.box [.pv (.str w),.row 2 L 0 L,Z5,Z5]),.obj (Zj g),DL o]))))) G (dm [dv Bool,dO PS,dv (List Str)] 26 0x67100446510116710064651) Xg Yy Yz 0 108 JE [.obj (.box [.pv (.str w),.row 2 L 0 L,Z5,Z5]),.obj (Zj q),OU o] (by delta a0i DU JE Z5 a2i Sv DL;exact rfl)
def Ga(e:Tok):List (Nat×AV):=[(2,.ptr 0 0),(5,.ptr 1 0),(6,.pv (.int .i64 (Tok.o e)))]
def e9u(e:Df×Bool):Slot:=.obj (.row false 56 17 [.agg [.str (Str.s (Df.name e.1)),.int .i64 (Df.line e.1),.sl 5 false (List.map enc (Df.ps e.1)),.bool (Df.given e.1),.str (Str.s (TyS.elem (Df.res e.1))),.str (Str.s (TyS.row (Df.res e.1))),.sl 2 false (List.map enc (TyS.dims (Df.res e.1))),.int .i64 (Nd.kind (Df.n e.1)),.int .i64 (Nd.line (Df.n e.1)),.str (Str.s (Nd.name (Df.n e.1))),.int .i64 (Nd.num (Df.n e.1)),.str (Str.s (Nd.elem (Df.n e.1))),.sl 1 false (List.map enc (Nd.dims (Df.n e.1))),.sl 1 false (List.map enc (Nd.data (Df.n e.1))),.sl 2 false (List.map enc (Nd.sizes (Df.n e.1))),.sl 1 false (List.map enc (Nd.ranks (Df.n e.1))),.sl 10 false (List.map enc (Df.ks e.1))]])
def a0n(h:List UInt8)(Zq:Nat)(g:Bool)(e:List PV)(i:PS)(j:Df×Bool):ZE:=[.obj (.box [.pv (.str h),Z5,.pv (.sl Zq g e),.row 2 1 0 1]),.obj (Zj i),e9u j]
def Qh(e:Int):List (Nat×AV):=[(2,.ptr 0 0),(5,.ptr 1 0),(6,Zy e)]
def FW(e:PS):PV:=.tup [Gz,.int .i64 (PS.wr e),.int .i64 6]
def GK(e:Int):PV:=.tup [Gz,.int .i64 e,.int .i64 3]
def Gl(e:List PV):Bool:=decide ((↑(List.length e):Int)>60)
def Tq:PV:=.tup [Gz,.int .i64 0,.int .i64 3]
def e2o(j:PS)(Zq:PV->Prop)(e:Int)(g:List PV)(k:List UInt8)(l:Nat)(i:Bool):Prop:=a3s [.ptr 0 0] [Zj j] fun z0' h=>(if (PS.bad h)=true then Zq (FW h)else(if (decide (e ≥ 0))=true then Zq (GK e)else(if (Gl g)=true then Zq (Tq)else(Zq (.tup [.agg [.str k,.sl 0 true [],.sl l i g,.sl 0 true []],.int .i64 0,.int .i64 0])))))
def e6q{G:PV->Prop}(s:List UInt8)(w:List UInt8)(q:PS)(v:Int)(k:Nat)(n:Bool)(xs:List PV):=WM (if (!PS.bad q)=true then Xp Kq [Zj q] fun j h=>(if (j)=true then XA YV [Zj h] fun i l=>(OQ [.ptr 0 0] [Zj l] fun e g=>(if e.2=true then if (decide (v<0))=true then At Xg 0 (Za Yy G) Yz 1 108 (Ga i) (a0n w k n xs g e)else(At Xg 0 (Za Yy G) Yz 1 108 (Qh v) (a0n w k n xs g e))else(At Xg 0 (Za Yy G) Yz 1 108 (Qh v) (a0n w k n xs g e))))else(e2o h G v xs w k n))else(e2o q G v xs w k n)) G (dm [dv Bool,dO PS,dv Tok,dv (Df×Bool),dv Unit] 131 0x222222022222006422222220001420001469122202222220222220064222222200014200014691022222222022222022222006422201346816710264265120554) Xg Yy Yz 1 108 (Qh v) [.obj (.box [.pv (.str w),Z5,.pv (.sl k n xs),Z5]),.obj (Zj q)] (by delta Kq ZC YV Ga Z5 e9u a0n Zy Qh Gz FW GK Gl Tq e2o;exact rfl)
def a1u(i:List UInt8)(Zq e:Nat)(j:Bool)(k:List PV)(l:PS)(g:List Str)(h:Df×Bool):ZE:=[.obj (.box [.pv (.str i),.row 2 Zq 0 Zq,.pv (.sl e j k),.row 3 1 0 1]),.obj (Zj l),DL g,e9u h]
def d6j(q:PS)(Zq:PV->Prop)(g:Int)(e:Nat)(i:List PV)(j:List Str)(k:List UInt8)(l:Nat)(r:Bool):Prop:=a3s [.ptr 0 0] [Zj q] fun z0' h=>(if (PS.bad h)=true then Zq (FW h)else(if (decide (g ≥ 0))=true then Zq (GK g)else(if (decide ((↑(e - 0):Int)>20))=true then Zq (Tq)else(if (Gl i)=true then Zq (Tq)else((Ck j e)=true∧(Zq (.tup [.agg [.str k,.sl 1 false (List.drop 0 (List.take e (List.map enc j))),.sl l r i,.sl 0 true []],.int .i64 0,.int .i64 0])))))))
def e9d{G:PV->Prop}(s:List UInt8)(w:List UInt8)(q:PS)(v:Int)(k:Nat)(n:Bool)(xs:List PV)(o:List Str)(L:Nat):=WM (if (!PS.bad q)=true then Xp Kq [Zj q] fun j h=>(if (j)=true then XA YV [Zj h] fun i l=>(OQ [.ptr 0 0] [Zj l] fun e g=>(if e.2=true then if (decide (v<0))=true then At Xg 0 (Za Yy G) Yz 1 108 (Ga i) (a1u w L k n xs g o e)else(At Xg 0 (Za Yy G) Yz 1 108 (Qh v) (a1u w L k n xs g o e))else(At Xg 0 (Za Yy G) Yz 1 108 (Qh v) (a1u w L k n xs g o e))))else(d6j h G v L xs o w k n))else(d6j q G v L xs o w k n)) G (dm [dv Bool,dO PS,dv Tok,dv (Df×Bool),dv Unit] 161 0x12222220222220064222220222222222200b4200014200014691222012222220222220064222220222222222200b4200014200014691022222222022222022222006422201346816710264265120644) Xg Yy Yz 1 108 (Qh v) [.obj (.box [.pv (.str w),.row 2 L 0 L,.pv (.sl k n xs),Z5]),.obj (Zj q),OU o] (by delta Kq ZC YV Ga DL e9u a1u Zy Qh Gz FW GK Tq Gl Ck d6j;exact rfl)
def e2r(e:Df×Bool):List PV:=List.drop 0 (List.take 1 [PV.agg [enc (Df.name e.1),enc (Df.line e.1),enc (Df.ps e.1),enc (Df.given e.1),enc (TyS.elem (Df.res e.1)),enc (TyS.row (Df.res e.1)),enc (TyS.dims (Df.res e.1)),enc (Nd.kind (Df.n e.1)),enc (Nd.line (Df.n e.1)),enc (Nd.name (Df.n e.1)),enc (Nd.num (Df.n e.1)),enc (Nd.elem (Df.n e.1)),enc (Nd.dims (Df.n e.1)),enc (Nd.data (Df.n e.1)),enc (Nd.sizes (Df.n e.1)),enc (Nd.ranks (Df.n e.1)),enc (Df.ks e.1)]])
def Tg(g:List Df)(Zq:Nat)(e:Df×Bool):Bool:=List.length (List.map enc g)==Zq&&Zq==Zq&&decide ((Zq+List.length (e2r e))*288<=1099511627776)&&decide (Zq+List.length (e2r e)<=1099511627776)
def Ob(e:Nat)(Zq:Df×Bool):Nat:=e+List.length (e2r Zq)
def e3j(e:List Df)(Zq:Df×Bool):Slot:=.obj (.row false 56 17 (List.map enc e++List.drop 0 (List.take 1 [PV.agg [enc (Df.name Zq.1),enc (Df.line Zq.1),enc (Df.ps Zq.1),enc (Df.given Zq.1),enc (TyS.elem (Df.res Zq.1)),enc (TyS.row (Df.res Zq.1)),enc (TyS.dims (Df.res Zq.1)),enc (Nd.kind (Df.n Zq.1)),enc (Nd.line (Df.n Zq.1)),enc (Nd.name (Df.n Zq.1)),enc (Nd.num (Df.n Zq.1)),enc (Nd.elem (Df.n Zq.1)),enc (Nd.dims (Df.n Zq.1)),enc (Nd.data (Df.n Zq.1)),enc (Nd.sizes (Df.n Zq.1)),enc (Nd.ranks (Df.n Zq.1)),enc (Df.ks Zq.1)]])))
def a2f(k:List UInt8)(Zq:Nat)(h:Bool)(l:List PV)(g:Nat)(e:Df×Bool)(i:PS)(j:List Df):ZE:=[.obj (.box [.pv (.str k),Z5,.pv (.sl Zq h l),.row 2 (Ob g e) 0 (Ob g e)]),.obj (Zj i),e3j j e]
def d5v(q:PS)(Zq:PV->Prop)(g:Int)(h:List PV)(e:Nat)(j:List Df)(k:List UInt8)(l:Nat)(r:Bool):Prop:=a3s [.ptr 0 0] [Zj q] fun z0' i=>(if (PS.bad i)=true then Zq (FW i)else(if (decide (g ≥ 0))=true then Zq (GK g)else(if (Gl h)=true then Zq (Tq)else(if (decide ((↑(e - 0):Int)>60))=true then Zq (Tq)else((List.length (List.map enc j)==e)=true∧(Zq (.tup [.agg [.str k,.sl 0 true [],.sl l r h,.sl 17 false (List.drop 0 (List.take e (List.map enc j)))],.int .i64 0,.int .i64 0])))))))
def f0u{G:PV->Prop}(s:List UInt8)(w:List UInt8)(q:PS)(v:Int)(k:Nat)(n:Bool)(xs:List PV)(ds:List Df)(D:Nat):=WM (if (!PS.bad q)=true then Xp Kq [Zj q] fun j h=>(if (j)=true then XA YV [Zj h] fun i l=>(OQ [.ptr 0 0] [Zj l] fun e g=>(if e.2=true then if (decide (v<0))=true then(Tg ds D e)=true∧(At Xg 0 (Za Yy G) Yz 1 108 (Ga i) (a2f w k n xs D e g ds))else((Tg ds D e)=true∧(At Xg 0 (Za Yy G) Yz 1 108 (Qh v) (a2f w k n xs D e g ds)))else((Tg ds D e)=true∧(At Xg 0 (Za Yy G) Yz 1 108 (Qh v) (a2f w k n xs D e g ds)))))else(d5v h G v xs D ds w k n))else(d5v q G v xs D ds w k n)) G (dm [dv Bool,dO PS,dv Tok,dv (Df×Bool),dv Unit] 135 0x1000142222202222200642222222000142000146912220100014222220222220064222222200014200014691012222201220122004422200f46816710204265120544) Xg Yy Yz 1 108 (Qh v) [.obj (.box [.pv (.str w),Z5,.pv (.sl k n xs),.row 2 D 0 D]),.obj (Zj q),.obj (.row false 56 17 (ds.map enc))] (by delta Kq ZC YV e2r Tg Ga Z5 Ob e3j a2f Zy Qh Gz FW GK Gl Tq d5v;exact rfl)
def a2b(j:List UInt8)(Zq h:Nat)(l:Bool)(r:List PV)(g:Nat)(e:Df×Bool)(i:PS)(k:List Str)(q:List Df):ZE:=[.obj (.box [.pv (.str j),.row 2 Zq 0 Zq,.pv (.sl h l r),.row 3 (Ob g e) 0 (Ob g e)]),.obj (Zj i),DL k,e3j q e]
def OM:PV:=.tup [Gz,.int .i64 0,.int .i64 3]
def e2g(r:PS)(Zq:PV->Prop)(h:Int)(e:Nat)(q:List PV)(g:Nat)(j:List Str)(k:List Df)(s:List UInt8)(u:Nat)(i:Bool):Prop:=a3s [.ptr 0 0] [Zj r] fun z0' l=>(if (PS.bad l)=true then Zq (.tup [Gz,.int .i64 (PS.wr l),.int .i64 6])else(if (decide (h ≥ 0))=true then Zq (GK h)else(if (decide ((↑(e - 0):Int)>20))=true then Zq (OM)else(if (Gl q)=true then Zq (OM)else(if (decide ((↑(g - 0):Int)>60))=true then Zq (OM)else((Ck j e)=true∧((List.length (List.map enc k)==g)=true∧(Zq (.tup [.agg [.str s,PR e j,.sl u i q,.sl 17 false (List.drop 0 (List.take g (List.map enc k)))],.int .i64 0,.int .i64 0])))))))))
def e6f{G:PV->Prop}(s:List UInt8)(w:List UInt8)(q:PS)(v:Int)(k:Nat)(n:Bool)(xs:List PV)(o:List Str)(L:Nat)(ds:List Df)(D:Nat):=WM (if (!PS.bad q)=true then Xp Kq [Zj q] fun j h=>(if (j)=true then XA YV [Zj h] fun i l=>(OQ [.ptr 0 0] [Zj l] fun e g=>(if e.2=true then if (decide (v<0))=true then(Tg ds D e)=true∧(At Xg 0 (Za Yy G) Yz 1 108 (Ga i) (a2b w L k n xs D e g o ds))else((Tg ds D e)=true∧(At Xg 0 (Za Yy G) Yz 1 108 (Qh v) (a2b w L k n xs D e g o ds)))else((Tg ds D e)=true∧(At Xg 0 (Za Yy G) Yz 1 108 (Qh v) (a2b w L k n xs D e g o ds)))))else(e2g h G v L xs D o ds w k n))else(e2g q G v L xs D o ds w k n)) G (dm [dv Bool,dO PS,dv Tok,dv (Df×Bool),dv Unit] 165 0x1100014222220222220064222220222222222200b420001420001469122201100014222220222220064222220222222222200b4200014200014691012222201220122004422200f46816710204265120634) Xg Yy Yz 1 108 (Qh v) [.obj (.box [.pv (.str w),.row 2 L 0 L,.pv (.sl k n xs),.row 3 D 0 D]),.obj (Zj q),OU o,.obj (.row false 56 17 (ds.map enc))] (by delta Kq ZC YV e2r Tg Ga Ob DL e3j a2b Zy Qh Gz GK OM Gl Ck PR e2g;exact rfl)
end Go.Pl
namespace Go.Pl
open Go.RowKit
def Xv(e:Str)(im ex:List Str)(r:(Int×List Df)×PS):R3 Mdu Int Int:=
 if r.2.endp.bad then⟨md0,r.2.endp.wr,6⟩
 else if 0<=r.1.1 then⟨md0,r.1.1,3⟩
 else if im.length>20∨ex.length>60∨r.1.2.length>60 then⟨md0,0,3⟩
 else⟨⟨e,im,ex,r.1.2⟩,0,0⟩
def b7a(L:Nat)(e:Str)(r:List Str×PS):R3 Mdu Int Int:=Xv e r.1 r.2.expo.1 (defL (L+1) r.2.expo.2 (-1) [])
theorem c2c{s:Str}(h:(Yt s).c=0):U1 s=b7a (J6 s.s).l.length ((J6 s.s).need ⟨[109,111,100,117,108,101]⟩).name.1 (impL ((J6 s.s).l.length+1) ((J6 s.s).need ⟨[109,111,100,117,108,101]⟩).name.2 []):=by
 unfold U1
 rw[if_neg (fun k=>k h)]
 rfl
theorem Ge.dfP{s:PS}(h:s.i<=s.l.length):Ge s s.dfP.2:=by
 unfold PS.dfP
 split
 ·exact Ge.refl h
 ·split
  ·exact Ge.refl h
  ·exact Ge.list (one:=PS.param) (fun s h=>Ge.param h) h
theorem Ge.dfR{s:PS}(h:s.i<=s.l.length):Ge s s.dfR.2:=by
 unfold PS.dfR
 split
 ·have e:=Ge.step (Zh ‹_›)
  exact e.trans (Ge.typ e.hi)
 ·exact Ge.refl h
theorem Ge.dfE{s:PS}{d:Tm->Df}(hs:Zd s=true):Ge s (s.dfE d).2:=by
 have e:=Zu hs
 have k:Ge s s.expr.2:=Ge.expr (by unfold Yo;omega) e.2
 unfold PS.dfE
 split
 ·exact Ge.refl e.2
 ·split
  ·exact k
  ·exact k
theorem Ge.defP{s:PS}(hs:Zd s=true):Ge s.df0 s.defP.2:=by
 have k:=Zu hs
 have kd:=Ge.need (w:=⟨[100,101,102]⟩) k.2
 have hu:Zd s.df0=true:=kd.ok hs
 have g:=Ge.name (Zu hu).2
 have h:=Ge.need (w:=⟨[40]⟩) g.hi
 have i:=Ge.dfP h.hi
 have j:=Ge.need (w:=⟨[41]⟩) i.hi
 have e:=Ge.dfR j.hi
 have l:=Ge.need (w:=⟨[61]⟩) e.hi
 have K:=g.trans (h.trans (i.trans (j.trans (e.trans l))))
 exact K.trans (Ge.dfE (K.ok hu))
theorem SI{s:PS}(hs:Zd s=true)(j:ZX s.l=true)(h:s.next ⟨[100,101,102]⟩=true):Zd s.defP.2=true∧ZX s.defP.2.l=true∧s.defP.2.l=s.l∧s.i+1<=s.defP.2.i:=by
 have k:=Ge.defP hs
 have e:s.need ⟨[100,101,102]⟩=s.step:=if_pos h
 have hu:Zd s.df0=true:=(Ge.need (w:=⟨[100,101,102]⟩) (Zu hs).2).ok hs
 have g:s.df0.l=s.l:=by show(s.need _).l=s.l;rw[e];rfl
 have ei:s.df0.i=s.i+1:=by show(s.need _).i=_;rw[e];rfl
 have k2:=k.le
 exact⟨k.ok hu,by rw[k.l,g];exact j,by rw[k.l,g],by omega⟩
open Enc (enc dec is)
open EncL (encL decL isL)
theorem EA{w:List UInt8}{im ex:List Str}{ds:List Df}{a b c:PV}(h1:Ze im a)(h2:Ze ex b)(h3:Ze ds c):Ze (⟨⟨w⟩,im,ex,ds⟩:Mdu) (.agg [.str w,a,b,c]):=by
 refine⟨?_,?_⟩
 ·show(true&&is (List Str) a&&is (List Str) b&&is (List Df) c)=true
  rw[h1.1,h2.1,h3.1];rfl
 ·show(⟨⟨w⟩,dec a,dec b,dec c⟩:Mdu)=⟨⟨w⟩,im,ex,ds⟩
  rw[h1.2,h2.2,h3.2]
theorem Xo:Ze md0 (.agg [.str [],.sl 0 true [],.sl 0 true [],.sl 0 true []]):=EA Zl Zl Zl
theorem a1o{ex:List Str}{k:Nat}{n:Bool}{xs:List PV}(h:Ze ex (.sl k n xs)):xs.length=ex.length:=by
 have h2:(xs.map dec:List Str)=ex:=h.2
 rw[<- h2,List.length_map]
theorem BJ{f:Nat}{s:PS}{w:Int}{o:List Df}(h:s.bad=true):defL f s w o=((w,o),s):=by
 cases f with
 | zero=>rfl
 | succ f=>rw[defL,if_pos h]
theorem R4{f:Nat}{s:PS}{w:Int}{o:List Df}(h:s.next ⟨[100,101,102]⟩=false):defL f s w o=((w,o),s):=by
 cases f with
 | zero=>rfl
 | succ f=>
  rw[defL]
  split
  ·rfl
  ·rw[if_neg (by rw[h];decide)]
theorem RH{f:Nat}{s:PS}{w:Int}{o:List Df}(hb:s.bad=false)(h:s.next ⟨[100,101,102]⟩=true):defL (f+1) s w o=defL f s.defP.2 (if s.defP.1.2&&decide (w<0)then(s.peek 0).o else w) (o++[s.defP.1.1]):=by rw[defL,if_neg (by rw[hb];decide),if_pos h]
theorem d6m{s w:List UInt8}{k:Nat}{n:Bool}{xs:List PV}{ex:List Str}(u:Ze ex (.sl k n xs))(R:R3 Mdu Int Int): ∀ (f:Nat) (q:PS) (v:Int) (ds:List Df) (D:Nat),Zd q=true->ZX q.l=true->q.l.length<q.i+f->D=ds.length->D<=q.i->R=Xv ⟨w⟩ [] ex (defL f q v ds) ->
  At Xg 0 (Za Yy (Ze R)) Yz 1 108 [(2,.ptr 0 0),(5,.ptr 1 0),(6,.pv (.int .i64 v))] [.obj (.box [.pv (.str w),.pv (.sl 0 true []),.pv (.sl k n xs),.row 2 D 0 D]),.obj (Zj q),.obj (.row false 56 17 (ds.map enc))]:=by
 have hxl:=a1o u
 intro f
 induction f with
 | zero=>intro q v ds D r A E;have:=Zu r;omega
 | succ f ih=>
  intro q v ds D r A E g hDi j
  have hl:=Zu r
  refine f0u s w q v k n xs ds D (YO (fun hb=>YQ r (ZW (fun hd=>Xb r (c0x r A ?_)) fun hd=>TJ r ?_)) fun hb=>TJ r ?_)
  ·rw[RH hb hd]at j
   obtain⟨B,z,C,a4⟩:=SI r A hd
   have y:q.defP.2.l.length<q.defP.2.i+f:=by rw[C];omega
   have e:List.map (enc:Df->PV) ds++List.drop 0 (List.take 1 [PV.agg [enc (Df.name q.defP.1.1),enc (Df.line q.defP.1.1),enc (Df.ps q.defP.1.1),enc (Df.given q.defP.1.1),enc (TyS.elem (Df.res q.defP.1.1)),enc (TyS.row (Df.res q.defP.1.1)),enc (TyS.dims (Df.res q.defP.1.1)),enc (Nd.kind (Df.n q.defP.1.1)),enc (Nd.line (Df.n q.defP.1.1)),enc (Nd.name (Df.n q.defP.1.1)),enc (Nd.num (Df.n q.defP.1.1)),enc (Nd.elem (Df.n q.defP.1.1)),enc (Nd.dims (Df.n q.defP.1.1)),enc (Nd.data (Df.n q.defP.1.1)),enc (Nd.sizes (Df.n q.defP.1.1)),enc (Nd.ranks (Df.n q.defP.1.1)),enc (Df.ks q.defP.1.1)]])=(ds++[q.defP.1.1]).map enc:=Dm ds q.defP.1.1
   have sz:(List.length (List.map (enc:Df->PV) ds)==D&&D==D&&decide ((D+1)*136<=1099511627776)&&decide (D+1<=1099511627776))=true:=by simp[g];omega
   refine ZW (fun h1=>Yu (fun h2=>⟨by simp[g];omega,?_⟩) fun h2=>⟨by simp[g];omega,?_⟩) fun h1=>⟨by simp[g];omega,?_⟩
   ·rw[e]
    rw[if_pos (by rw[h1,decide_eq_true h2];rfl)]at j
    exact ih _ _ _ _ B z y (by simp[g]) (by simp;omega) j
   ·rw[e]
    rw[if_neg (by rw[h1,decide_eq_false h2];decide)]at j
    exact ih _ _ _ _ B z y (by simp[g]) (by simp;omega) j
   ·rw[e]
    rw[if_neg (by rw[h1];simp)]at j
    exact ih _ _ _ _ B z y (by simp[g]) (by simp;omega) j
  ·rw[R4 hd]at j
   subst j
   exact ZW (fun h1=>by rw[Xv,if_pos h1];exact X7 Xo) fun h1=>Yu (fun h2=>by rw[Xv,if_neg (by rw[h1];decide),if_pos h2];exact X7 Xo) fun h2=>Yu (fun h=>by rw[Xv,if_neg (by rw[h1];decide),if_neg h2,if_pos (Or.inr (Or.inl (show ex.length>60 by omega)))];exact X7 Xo) fun H=>Yu (fun h=>by rw[Xv,if_neg (by rw[h1];decide),if_neg h2,if_pos (Or.inr (Or.inr (show ds.length>60 by omega)))];exact X7 Xo) fun F=>⟨by simp[g],by rw[Xv,if_neg (by rw[h1];decide),if_neg h2,if_neg (by rintro(h|h|h);exact absurd h (by decide);(have h:ex.length>60:=h;omega);(have h:ds.length>60:=h;omega))];exact X7 (EA Zl u (by rw[VK ds g];exact VQ ds rfl))⟩
  ·rw[BJ hb]at j
   subst j
   exact ZW (fun h1=>by rw[Xv,if_pos h1];exact X7 Xo) fun h1=>Yu (fun h2=>by rw[Xv,if_neg (by rw[h1];decide),if_pos h2];exact X7 Xo) fun h2=>Yu (fun h=>by rw[Xv,if_neg (by rw[h1];decide),if_neg h2,if_pos (Or.inr (Or.inl (show ex.length>60 by omega)))];exact X7 Xo) fun H=>Yu (fun h=>by rw[Xv,if_neg (by rw[h1];decide),if_neg h2,if_pos (Or.inr (Or.inr (show ds.length>60 by omega)))];exact X7 Xo) fun F=>⟨by simp[g],by rw[Xv,if_neg (by rw[h1];decide),if_neg h2,if_neg (by rintro(h|h|h);exact absurd h (by decide);(have h:ex.length>60:=h;omega);(have h:ds.length>60:=h;omega))];exact X7 (EA Zl u (by rw[VK ds g];exact VQ ds rfl))⟩
theorem c8d{s w:List UInt8}{k:Nat}{n:Bool}{xs:List PV}(o:List Str)(L:Nat)(z:L=o.length){ex:List Str}(u:Ze ex (.sl k n xs))(R:R3 Mdu Int Int): ∀ (f:Nat) (q:PS) (v:Int) (ds:List Df) (D:Nat),Zd q=true->ZX q.l=true->q.l.length<q.i+f->D=ds.length->D<=q.i->R=Xv ⟨w⟩ o ex (defL f q v ds) ->
  At Xg 0 (Za Yy (Ze R)) Yz 1 108 [(2,.ptr 0 0),(5,.ptr 1 0),(6,.pv (.int .i64 v))] [.obj (.box [.pv (.str w),.row 2 L 0 L,.pv (.sl k n xs),.row 3 D 0 D]),.obj (Zj q),.obj (.row false 9 1 (o.map enc)),.obj (.row false 56 17 (ds.map enc))]:=by
 have hxl:=a1o u
 intro f
 induction f with
 | zero=>intro q v ds D r B E;have:=Zu r;omega
 | succ f ih=>
  intro q v ds D r B E j hDi g
  have hl:=Zu r
  refine e6f s w q v k n xs o L ds D (YO (fun hb=>YQ r (ZW (fun hd=>Xb r (c0x r B ?_)) fun hd=>TJ r ?_)) fun hb=>TJ r ?_)
  ·rw[RH hb hd]at g
   obtain⟨C,A,I,a4⟩:=SI r B hd
   have y:q.defP.2.l.length<q.defP.2.i+f:=by rw[I];omega
   have e:List.map (enc:Df->PV) ds++List.drop 0 (List.take 1 [PV.agg [enc (Df.name q.defP.1.1),enc (Df.line q.defP.1.1),enc (Df.ps q.defP.1.1),enc (Df.given q.defP.1.1),enc (TyS.elem (Df.res q.defP.1.1)),enc (TyS.row (Df.res q.defP.1.1)),enc (TyS.dims (Df.res q.defP.1.1)),enc (Nd.kind (Df.n q.defP.1.1)),enc (Nd.line (Df.n q.defP.1.1)),enc (Nd.name (Df.n q.defP.1.1)),enc (Nd.num (Df.n q.defP.1.1)),enc (Nd.elem (Df.n q.defP.1.1)),enc (Nd.dims (Df.n q.defP.1.1)),enc (Nd.data (Df.n q.defP.1.1)),enc (Nd.sizes (Df.n q.defP.1.1)),enc (Nd.ranks (Df.n q.defP.1.1)),enc (Df.ks q.defP.1.1)]])=(ds++[q.defP.1.1]).map enc:=Dm ds q.defP.1.1
   have sz:(List.length (List.map (enc:Df->PV) ds)==D&&D==D&&decide ((D+1)*136<=1099511627776)&&decide (D+1<=1099511627776))=true:=by simp[j];omega
   refine ZW (fun h1=>Yu (fun h2=>⟨by simp[j];omega,?_⟩) fun h2=>⟨by simp[j];omega,?_⟩) fun h1=>⟨by simp[j];omega,?_⟩
   ·rw[e]
    rw[if_pos (by rw[h1,decide_eq_true h2];rfl)]at g
    exact ih _ _ _ _ C A y (by simp[j]) (by simp;omega) g
   ·rw[e]
    rw[if_neg (by rw[h1,decide_eq_false h2];decide)]at g
    exact ih _ _ _ _ C A y (by simp[j]) (by simp;omega) g
   ·rw[e]
    rw[if_neg (by rw[h1];simp)]at g
    exact ih _ _ _ _ C A y (by simp[j]) (by simp;omega) g
  ·rw[R4 hd]at g
   subst g
   exact ZW (fun h1=>by rw[Xv,if_pos h1];exact X7 Xo) fun h1=>Yu (fun h2=>by rw[Xv,if_neg (by rw[h1];decide),if_pos h2];exact X7 Xo) fun h2=>Yu (fun h=>by rw[Xv,if_neg (by rw[h1];decide),if_neg h2,if_pos (Or.inl (show o.length>20 by omega))];exact X7 Xo) fun H=>Yu (fun h=>by rw[Xv,if_neg (by rw[h1];decide),if_neg h2,if_pos (Or.inr (Or.inl (show ex.length>60 by omega)))];exact X7 Xo) fun J=>Yu (fun h=>by rw[Xv,if_neg (by rw[h1];decide),if_neg h2,if_pos (Or.inr (Or.inr (show ds.length>60 by omega)))];exact X7 Xo) fun F=>⟨by simp[z],by simp[j],by rw[Xv,if_neg (by rw[h1];decide),if_neg h2,if_neg (by rintro(h|h|h);(have h:o.length>20:=h;omega);(have h:ex.length>60:=h;omega);(have h:ds.length>60:=h;omega))];exact X7 (EA (by rw[VK o z];exact VQ o rfl) u (by rw[VK ds j];exact VQ ds rfl))⟩
  ·rw[BJ hb]at g
   subst g
   exact ZW (fun h1=>by rw[Xv,if_pos h1];exact X7 Xo) fun h1=>Yu (fun h2=>by rw[Xv,if_neg (by rw[h1];decide),if_pos h2];exact X7 Xo) fun h2=>Yu (fun h=>by rw[Xv,if_neg (by rw[h1];decide),if_neg h2,if_pos (Or.inl (show o.length>20 by omega))];exact X7 Xo) fun H=>Yu (fun h=>by rw[Xv,if_neg (by rw[h1];decide),if_neg h2,if_pos (Or.inr (Or.inl (show ex.length>60 by omega)))];exact X7 Xo) fun J=>Yu (fun h=>by rw[Xv,if_neg (by rw[h1];decide),if_neg h2,if_pos (Or.inr (Or.inr (show ds.length>60 by omega)))];exact X7 Xo) fun F=>⟨by simp[z],by simp[j],by rw[Xv,if_neg (by rw[h1];decide),if_neg h2,if_neg (by rintro(h|h|h);(have h:o.length>20:=h;omega);(have h:ex.length>60:=h;omega);(have h:ds.length>60:=h;omega))];exact X7 (EA (by rw[VK o z];exact VQ o rfl) u (by rw[VK ds j];exact VQ ds rfl))⟩
theorem f2n{s w:List UInt8}{k:Nat}{n:Bool}{xs:List PV}{ex:List Str}(e:Ze ex (.sl k n xs))(R:R3 Mdu Int Int): ∀ (f:Nat) (q:PS) (v:Int),Zd q=true->ZX q.l=true->q.l.length<q.i+f->R=Xv ⟨w⟩ [] ex (defL f q v []) ->
  At Xg 0 (Za Yy (Ze R)) Yz 1 108 [(2,.ptr 0 0),(5,.ptr 1 0),(6,.pv (.int .i64 v))] [.obj (.box [.pv (.str w),.pv (.sl 0 true []),.pv (.sl k n xs),.pv (.sl 0 true [])]),.obj (Zj q)]:=by
 have hxl:=a1o e
 intro f q v j z hf g
 have hl:=Zu j
 obtain⟨f,rfl⟩ : ∃ m,f=m+1:=⟨f - 1,by omega⟩
 refine e6q s w q v k n xs (YO (fun hb=>YQ j (ZW (fun hd=>Xb j (c0x j z ?_)) fun hd=>TJ j ?_)) fun hb=>TJ j ?_)
 ·rw[RH hb hd]at g
  obtain⟨y,u,A,a4⟩:=SI j z hd
  have r:q.defP.2.l.length<q.defP.2.i+f:=by rw[A];omega
  refine ZW (fun h1=>Yu (fun h2=> ?_) fun h2=> ?_) fun h1=> ?_
  ·rw[if_pos (by rw[h1,decide_eq_true h2];rfl)]at g
   exact d6m (s:=s) e R f _ _ [q.defP.1.1] 1 y u r rfl (by omega) g
  ·rw[if_neg (by rw[h1,decide_eq_false h2];decide)]at g
   exact d6m (s:=s) e R f _ _ [q.defP.1.1] 1 y u r rfl (by omega) g
  ·rw[if_neg (by rw[h1];simp)]at g
   exact d6m (s:=s) e R f _ _ [q.defP.1.1] 1 y u r rfl (by omega) g
 ·rw[R4 hd]at g
  subst g
  exact ZW (fun h1=>by rw[Xv,if_pos h1];exact X7 Xo) fun h1=>Yu (fun h2=>by rw[Xv,if_neg (by rw[h1];decide),if_pos h2];exact X7 Xo) fun h2=>Yu (fun h=>by rw[Xv,if_neg (by rw[h1];decide),if_neg h2,if_pos (Or.inr (Or.inl (show ex.length>60 by omega)))];exact X7 Xo) fun B=>by rw[Xv,if_neg (by rw[h1];decide),if_neg h2,if_neg (by rintro(h|h|h);exact absurd h (by decide);(have h:ex.length>60:=h;omega);exact absurd h (by show ¬ 0>60;decide))];exact X7 (EA Zl e Zl)
 ·rw[BJ hb]at g
  subst g
  exact ZW (fun h1=>by rw[Xv,if_pos h1];exact X7 Xo) fun h1=>Yu (fun h2=>by rw[Xv,if_neg (by rw[h1];decide),if_pos h2];exact X7 Xo) fun h2=>Yu (fun h=>by rw[Xv,if_neg (by rw[h1];decide),if_neg h2,if_pos (Or.inr (Or.inl (show ex.length>60 by omega)))];exact X7 Xo) fun B=>by rw[Xv,if_neg (by rw[h1];decide),if_neg h2,if_neg (by rintro(h|h|h);exact absurd h (by decide);(have h:ex.length>60:=h;omega);exact absurd h (by show ¬ 0>60;decide))];exact X7 (EA Zl e Zl)
theorem f2j{s w:List UInt8}{k:Nat}{n:Bool}{xs:List PV}(o:List Str)(L:Nat)(u:L=o.length){ex:List Str}(e:Ze ex (.sl k n xs))(R:R3 Mdu Int Int): ∀ (f:Nat) (q:PS) (v:Int),Zd q=true->ZX q.l=true->q.l.length<q.i+f->R=Xv ⟨w⟩ o ex (defL f q v []) ->
  At Xg 0 (Za Yy (Ze R)) Yz 1 108 [(2,.ptr 0 0),(5,.ptr 1 0),(6,.pv (.int .i64 v))] [.obj (.box [.pv (.str w),.row 2 L 0 L,.pv (.sl k n xs),.pv (.sl 0 true [])]),.obj (Zj q),.obj (.row false 9 1 (o.map enc))]:=by
 have hxl:=a1o e
 intro f q v j A hf g
 have hl:=Zu j
 obtain⟨f,rfl⟩ : ∃ m,f=m+1:=⟨f - 1,by omega⟩
 refine e9d s w q v k n xs o L (YO (fun hb=>YQ j (ZW (fun hd=>Xb j (c0x j A ?_)) fun hd=>TJ j ?_)) fun hb=>TJ j ?_)
 ·rw[RH hb hd]at g
  obtain⟨z,y,B,a4⟩:=SI j A hd
  have r:q.defP.2.l.length<q.defP.2.i+f:=by rw[B];omega
  refine ZW (fun h1=>Yu (fun h2=> ?_) fun h2=> ?_) fun h1=> ?_
  ·rw[if_pos (by rw[h1,decide_eq_true h2];rfl)]at g
   exact c8d (s:=s) o L u e R f _ _ [q.defP.1.1] 1 z y r rfl (by omega) g
  ·rw[if_neg (by rw[h1,decide_eq_false h2];decide)]at g
   exact c8d (s:=s) o L u e R f _ _ [q.defP.1.1] 1 z y r rfl (by omega) g
  ·rw[if_neg (by rw[h1];simp)]at g
   exact c8d (s:=s) o L u e R f _ _ [q.defP.1.1] 1 z y r rfl (by omega) g
 ·rw[R4 hd]at g
  subst g
  exact ZW (fun h1=>by rw[Xv,if_pos h1];exact X7 Xo) fun h1=>Yu (fun h2=>by rw[Xv,if_neg (by rw[h1];decide),if_pos h2];exact X7 Xo) fun h2=>Yu (fun h=>by rw[Xv,if_neg (by rw[h1];decide),if_neg h2,if_pos (Or.inl (show o.length>20 by omega))];exact X7 Xo) fun C=>Yu (fun h=>by rw[Xv,if_neg (by rw[h1];decide),if_neg h2,if_pos (Or.inr (Or.inl (show ex.length>60 by omega)))];exact X7 Xo) fun D=>⟨by simp[u],by rw[Xv,if_neg (by rw[h1];decide),if_neg h2,if_neg (by rintro(h|h|h);(have h:o.length>20:=h;omega);(have h:ex.length>60:=h;omega);exact absurd h (by show ¬ 0>60;decide))];exact X7 (EA (by rw[VK o u];exact VQ o rfl) e Zl)⟩
 ·rw[BJ hb]at g
  subst g
  exact ZW (fun h1=>by rw[Xv,if_pos h1];exact X7 Xo) fun h1=>Yu (fun h2=>by rw[Xv,if_neg (by rw[h1];decide),if_pos h2];exact X7 Xo) fun h2=>Yu (fun h=>by rw[Xv,if_neg (by rw[h1];decide),if_neg h2,if_pos (Or.inl (show o.length>20 by omega))];exact X7 Xo) fun C=>Yu (fun h=>by rw[Xv,if_neg (by rw[h1];decide),if_neg h2,if_pos (Or.inr (Or.inl (show ex.length>60 by omega)))];exact X7 Xo) fun D=>⟨by simp[u],by rw[Xv,if_neg (by rw[h1];decide),if_neg h2,if_neg (by rintro(h|h|h);(have h:o.length>20:=h;omega);(have h:ex.length>60:=h;omega);exact absurd h (by show ¬ 0>60;decide))];exact X7 (EA (by rw[VK o u];exact VQ o rfl) e Zl)⟩
theorem LA{α:Type}{one:PS->α×PS}(e : ∀ s:PS,s.i<=s.l.length->Ge s (one s).2): ∀ (n:Nat) {s:PS} {o:List α},s.i<=s.l.length->(moreL one n s o).1.length+s.i<=o.length+(moreL one n s o).2.i
 | 0,s,o,_=>Nat.le_refl _
 | n+1,s,o,hi=>by
  rw[moreL]
  split
  ·exact Nat.le_refl _
  ·split
   ·have h:=Ge.step (Zh ‹_›)
    have g:=e _ h.hi
    have w:=LA e n (o:=o++[(one s.step).1]) g.hi
    have e1:s.step.i=s.i+1:=rfl
    have e2:=g.le
    rw[List.length_append]at w
    simp only[List.length_cons,List.length_nil]at w
    omega
   ·exact Nat.le_refl _
theorem LH{α:Type}{one:PS->α×PS}(h : ∀ s:PS,s.i<=s.l.length->Ge s (one s).2){s:PS}(hi:s.i<=s.l.length):(listL one s).1.length+s.i<=1+(listL one s).2.i:=by
 have g:=h _ hi
 have w:=LA h (s.l.length+1) (o:=[(one s).1]) g.hi
 have e:=g.le
 simp only[List.length_cons,List.length_nil]at w
 unfold listL
 omega
theorem a8f{α:Type}{one:PS->α×PS}: ∀ (n:Nat) {s:PS} {o:List α},o≠[]->(moreL one n s o).1≠[]
 | 0,s,o,h=>h
 | n+1,s,o,h=>by
  rw[moreL]
  split
  ·exact h
  ·split
   ·exact a8f n (by simp)
   ·exact h
theorem d7i{α:Type}{one:PS->α×PS}{s:PS}:(listL one s).1≠[]:=a8f _ (by simp)
theorem c9c{f:Nat}{s:PS}{o:List Str}(h:s.next ⟨[105,109,112,111,114,116]⟩=true):impL (f+1) s o=impL f (listL PS.name s.step).2 (o++(listL PS.name s.step).1):=by rw[impL,if_pos h]
theorem a0r{f:Nat}{s:PS}{o:List Str}(h:s.next ⟨[105,109,112,111,114,116]⟩=false):impL f s o=(o,s):=by
 cases f with
 | zero=>rfl
 | succ f=>rw[impL,if_neg (by rw[h];decide)]
theorem d4r{s:PS}(h:s.next ⟨[101,120,112,111,114,116]⟩=true):s.expo=listL PS.name s.step:=if_pos h
theorem d9q{s:PS}(h:s.next ⟨[101,120,112,111,114,116]⟩=false):s.expo=([],s):=if_neg (by rw[h];decide)
theorem g3n{s w:List UInt8}(W:Nat)(R:R3 Mdu Int Int): ∀ (f:Nat) (q:PS) (o:List Str) (L:Nat),Zd q=true->ZX q.l=true->q.l.length=W->q.l.length<q.i+f->L=o.length->L<=q.i->R=b7a W ⟨w⟩ (impL f q o) ->
  At Xg 0 (Za Yy (Ze R)) Yz 0 108 [(2,.ptr 0 0),(5,.ptr 1 0)] [.obj (.box [.pv (.str w),.row 2 L 0 L,.pv (.sl 0 true []),.pv (.sl 0 true [])]),.obj (Zj q),.obj (.row false 9 1 (o.map enc))]:=by
 intro f
 induction f with
 | zero=>intro q o L g _ _ B;have:=Zu g;omega
 | succ f ih=>
  intro q o L g z A B y hLi u
  have hl:=Zu g
  refine e4a s w q o L (Yg g (fun h=>Yd rfl ?_) fun h=>Yi (by simp) (Yg g (fun h2=>Yd rfl ?_) fun h2=>Yi (by simp) ?_))
  ·rw[c9c h]at u
   have j:=Ge.step (Zh h)
   have e:=j.ok g
   have k:=Ge.list (one:=PS.name) (fun s h=>Ge.name h) j.hi
   have n1:=LH (one:=PS.name) (fun s h=>Ge.name h) j.hi
   have e1:q.step.i=q.i+1:=rfl
   have e2:=k.le
   have C:=k.hi
   have r:(listL PS.name q.step).2.l=q.l:=by rw[k.l,j.l]
   rw[r]at C
   refine RJ e ⟨by rw[show(Enc.sz Str==1)=true from rfl,Bool.or_true],by simp[y];omega,?_⟩
   rw[<- List.map_append]
   exact ih _ _ _ (k.ok e) (by rw[r];exact z) (by rw[r];exact A) (by rw[r];omega) (by simp[y]) (by simp;omega) u
  ·rw[a0r h]at u
   have j:=Ge.step (Zh h2)
   have e:=j.ok g
   have k:=Ge.list (one:=PS.name) (fun s h=>Ge.name h) j.hi
   have r:(listL PS.name q.step).2.l=q.l:=by rw[k.l,j.l]
   refine RJ e ?_
   refine f2j (s:=s) o L y (ex:=(listL PS.name q.step).1) (Zt rfl) R (W+1) _ (-1) (k.ok e) (by rw[r];exact z) (by rw[r];omega) ?_
   rw[u];unfold b7a;rw[d4r h2]
  ·rw[a0r h]at u
   refine f2j (s:=s) o L y (ex:=[]) Zl R (W+1) _ (-1) g z (by omega) ?_
   rw[u];unfold b7a;rw[d9q h2]
theorem g2x{s w:List UInt8}(W:Nat)(R:R3 Mdu Int Int)(f:Nat)(q:PS)(u:Zd q=true)(y:ZX q.l=true)(z:q.l.length=W)(hf:q.l.length<q.i+(f+1))(k:R=b7a W ⟨w⟩ (impL (f+1) q [])):
  At Xg 0 (Za Yy (Ze R)) Yz 0 108 [(2,.ptr 0 0),(5,.ptr 1 0)] [.obj (.box [.pv (.str w),.pv (.sl 0 true []),.pv (.sl 0 true []),.pv (.sl 0 true [])]),.obj (Zj q)]:=by
 have hl:=Zu u
 refine e5b s w q (Yg u (fun h=>Yd rfl ?_) fun h=>Yi (by simp) (Yg u (fun h2=>Yd rfl ?_) fun h2=>Yi (by simp) ?_))
 ·rw[c9c h]at k
  have g:=Ge.step (Zh h)
  have e:=g.ok u
  have j:=Ge.list (one:=PS.name) (fun s h=>Ge.name h) g.hi
  have n1:=LH (one:=PS.name) (fun s h=>Ge.name h) g.hi
  have e1:q.step.i=q.i+1:=rfl
  have e2:=j.le
  have A:=j.hi
  have r:(listL PS.name q.step).2.l=q.l:=by rw[j.l,g.l]
  rw[r]at A
  have ne:= @d7i Str PS.name q.step
  refine RJ e ⟨by rw[show(Enc.sz Str==1)=true from rfl,Bool.or_true],Yi (by simpa using ne) ⟨by simp;omega,?_⟩⟩
  rw[List.nil_append]at k ⊢
  exact g3n (s:=s) W R f _ _ _ (j.ok e) (by rw[r];exact y) (by rw[r];exact z) (by rw[r];omega) (by simp) (by simp;omega) k
 ·rw[a0r h]at k
  have g:=Ge.step (Zh h2)
  have e:=g.ok u
  have j:=Ge.list (one:=PS.name) (fun s h=>Ge.name h) g.hi
  have r:(listL PS.name q.step).2.l=q.l:=by rw[j.l,g.l]
  refine RJ e ?_
  refine f2n (s:=s) (ex:=(listL PS.name q.step).1) (Zt rfl) R (W+1) _ (-1) (j.ok e) (by rw[r];exact y) (by rw[r];omega) ?_
  rw[k];unfold b7a;rw[d4r h2]
 ·rw[a0r h]at k
  refine f2n (s:=s) (ex:=[]) Zl R (W+1) _ (-1) u y (by omega) ?_
  rw[k];unfold b7a;rw[d9q h2]
theorem f0p: ∀ x:Str×Unit,true=true->Zm Xg 0 (Za Yy (Ze (U1 x.1))) Yz [] (YI f5x (encL x)):=by
 rintro⟨⟨s⟩,⟨⟩⟩ hs
 have hb:=EY s
 have i:ZX (J6 s).l=true:=(Jy ⟨s⟩).1
 have j:=Zu hb
 show Zm Xg 0 (Za Yy (Ze (U1 ⟨s⟩))) Yz [] _
 refine g2n s ⟨rfl,AC (fun h=> ?_) fun h=> ?_⟩
 ·unfold U1;rw[if_pos h];exact X7 Xo
 rw[c2c h]
 have g:=Ge.need (w:=⟨[109,111,100,117,108,101]⟩) j.2
 have e:=g.ok hb
 have k:=Ge.name g.hi
 have K:=g.trans k
 refine ZK hb (Kn e ?_)
 exact g2x (s:=s) (J6 s).l.length _ (J6 s).l.length _ (K.ok hb) (by rw[K.l];exact i) (by rw[K.l]) (by rw[K.l];omega) rfl
set_option maxRecDepth 100000
noncomputable def d6g:IC:=Wq Proofs.Tryz.f137
def e1j:List IRes:=[(.cell true 2 2)]
abbrev f9q:Nat:=7
noncomputable def f2i:ZP:=Xa []
theorem g6e{G:PV->Prop}(s:List UInt8)(h:G ((.agg [(.int .i64 0),(.sl 2 false [(.agg [(.str s),(.int .i64 1)])])]))):Zm f2i 0 (Za e1j G) d6g [] (YI 7 [.str s]):=Zm.tp (.lit (.lit (.nil))) h
noncomputable def e0w:IC:=Wq Proofs.Tryz.f98
def e2w:List IRes:=[(.tmp 2),(.tmp 3)]
abbrev f5k:Nat:=41
noncomputable def f2c:ZP:=Xa [f3i,(123,.pure (preT (fun x:Str×Unit=>decide (x.1.s.length<=281474976710656))) (Zv (fun x:Str×Unit=>Yx x.1)))]
def N8:List PV:=[.int .i64 0,.bool false]
def Hg:PV:=.tup N8
def d6f(h:List UInt8)(Zq:PV->Prop):Prop:=(Go.Pl.preT (fun(g:Str×Unit)=>decide (List.length (Str.s g.1)<=281474976710656)) [.str h])=true∧(∃ e:Int×Er,(AV.pv (Zv (fun(g:Str×Unit)=>Yx g.1) [.str h])=AV.pv (enc e))∧((TL (enc e.2)&&Prod.fst (true,PV.bool !Uk (enc e.2)))=true∧(if (!Uk (enc e.2))=true then Zq (.tup N8)else(if (decide (e.1>2147483648))=true then Zq (.tup N8)else(Zq (.tup [.int .i64 e.1,.bool true]))))))
def g1n{G:PV->Prop}(s:List UInt8):=Qr (if (s==[])=true then G (Hg)else(if (decide ((↑(List.length s):Int)>10))=true then G (Hg)else((Go.Pl.preT Mi (Aj s))=true∧(∃ e:Str,(AV.pv (Zv Ny (Aj s))=AV.pv (enc e))∧(if (!Str.s e==s)=true then G (Hg)else((QX s)=true∧(if ((↑(GA s):Int)==48)=true then if (decide ((↑(List.length s):Int)>1))=true then G (Hg)else(d6f s G)else(d6f s G)))))))) G (dm [dv Str,dv (Int×Er)] 126 0x1422202220044161222222000014222022200441610001422222201f42221202222220074222251202222222222200c42222022222222222222201042) f2c e2w e0w (YI 41 [.str s]) (by delta N8 Hg Mi Aj Ny QX GA d6f;exact rfl)
def b0j:IC:=(Hd [Xc 0 (.alloc (.agg [(.str []),(.str []),(.str []),(.str []),(.str []),(.str []),(.str []),(.str []),(.str []),(.str []),(.str []),(.str []),(.str []),(.str []),(.str []),(.str []),(.str []),(.str []),(.str []),(.str []),(.str []),(.str []),(.str []),(.str []),(.str []),(.str []),(.str []),(.str [])])) 0] (Hd [Xc 1 (.build [(.str []),(.str []),(.str []),(.str []),(.str []),(.str []),(.str []),(.str []),(.str []),(.str []),(.str []),(.str []),(.str []),(.str []),(.str []),(.str []),(.str []),(.str []),(.str []),(.str []),(.str []),(.str []),(.str []),(.str []),(.str []),(.str []),(.str []),(.str [])] [(0,(1,(.c (.str [46,46])))),(1,(1,(.c (.str [61,61])))),(2,(1,(.c (.str [33,61])))),(3,(1,(.c (.str [60,61])))),(4,(1,(.c (.str [62,61])))),(5,(1,(.c (.str [45,62])))),(6,(1,(.c (.str [38,38])))),(7,(1,(.c (.str [124,124])))),(8,(1,(.c (.str [40])))),(9,(1,(.c (.str [41])))),(10,(1,(.c (.str [91])))),(11,(1,(.c (.str [93])))),(12,(1,(.c (.str [123])))),(13,(1,(.c (.str [125])))),(14,(1,(.c (.str [44])))),(15,(1,(.c (.str [58])))),(16,(1,(.c (.str [46])))),(17,(1,(.c (.str [64])))),(18,(1,(.c (.str [35])))),(19,(1,(.c (.str [61])))),(20,(1,(.c (.str [60])))),(21,(1,(.c (.str [62])))),(22,(1,(.c (.str [43])))),(23,(1,(.c (.str [45])))),(24,(1,(.c (.str [42])))),(25,(1,(.c (.str [47])))),(26,(1,(.c (.str [37])))),(27,(1,(.c (.str [33]))))]) 0,o'' (.store 28 (.t 0) (.t 1)) 0] .ret))
def b6c:List IRes:=[(.cell true 28 0)]
abbrev g1a:Nat:=2
noncomputable def d4f:ZP:=Xa []
def c1l:List PV:=[.str [46,46],.str [61,61],.str [33,61],.str [60,61],.str [62,61],.str [45,62],.str [38,38],.str [124,124],.str [40],.str [41],.str [91],.str [93],.str [123],.str [125],.str [44],.str [58],.str [46],.str [64],.str [35],.str [61],.str [60],.str [62],.str [43],.str [45],.str [42],.str [47],.str [37],.str [33]]
def g3l{G:PV->Prop}:=Qr (G (.agg c1l)) G (.nil) d4f b6c b0j (YI 2 []) (by delta c1l;exact rfl)
theorem e8x: ∀ x:Str×Unit,true=true->Zm f2i 0 (Za e1j (Ze (Bd x.1))) d6g [] (YI f9q (encL x)):=by
 rintro⟨⟨s⟩,⟨⟩⟩ _
 exact g6e s (Zt (x:=Bd ⟨s⟩) rfl)
theorem e4t(ps:List PV)(h:Rq ps=true):Zm d4f 0 (Za b6c (fun p=>p=Ef ps)) b0j [] (YI g1a ps):=by
 unfold Rq at h
 split at h
 ·exact g3l rfl
 ·cases h
theorem e2y{d:List UInt8}(k:d≠[])(hd:d.all digB=true)(l:d.length<=10):Yx ⟨d⟩=(UZ d,⟨false⟩):=by
 cases d with
 | nil=>exact absurd rfl k
 | cons c r=>
  have h1:=hd
  simp only[List.all_cons,Bool.and_eq_true,WV]at h1
  have hv:=EM (c::r) 0 hd
  have hp:10 ^ (c::r).length<=10 ^ 10:=Nat.pow_le_pow_right (by omega) l
  have g:=Sy (c::r) 0 hd (by omega)
  have h:Lib.atoiAll (c::r) = .ok (KX 0 (c::r):Int):=by
   have j : ¬ (c.toNat=43∨c.toNat=45):=by omega
   have i : ¬ c.toNat=45:=by omega
   simp only[Lib.atoiAll,if_neg j,Lib.parseMag,if_neg (show ¬ (c::r=[]) by simp),g]
   rw[if_neg (by omega),if_neg (fun e=>i e.1),if_neg i]
  simp only[Yx,h]
  rw[c7s _ _ rfl hd]
theorem Fg{p:UInt8->Bool}: ∀ {s:List UInt8},s.takeWhile p=s->s.all p=true
 | [],_=>rfl
 | c::s,h=>by
  rw[List.takeWhile_cons]at h
  split at h
  ·rename_i q
   rw[List.all_cons,q,Fg (List.cons.inj h).2];rfl
  ·cases h
theorem LJ{p:UInt8->Bool}: ∀ {s:List UInt8},s.all p=true->s.takeWhile p=s
 | [],_=>rfl
 | c::s,h=>by
  rw[List.all_cons,Bool.and_eq_true]at h
  rw[List.takeWhile_cons,if_pos h.1,LJ h.2]
theorem Fu{n:Int}{b:Bool}:Ze ((n,b):Int×Bool) (.tup [.int .i64 n,.bool b]):=⟨rfl,rfl⟩
theorem e6l: ∀ x:Str×Unit,decide (x.1.s.length<=1048576)=true->Zm f2c 0 (Za e2w (Ze (XG x.1))) e0w [] (YI f5k (encL x)):=by
 rintro⟨⟨s⟩,⟨⟩⟩ hs
 have hw:s.length<=1048576:=of_decide_eq_true hs
 have k:QY s=false->XG ⟨s⟩=(0,false):=fun h=>by unfold XG;rw[h];rfl
 refine g1n s (Yc (fun g=> ?_) fun g=>Yu (fun h1=> ?_) fun h1=>⟨Zn ((⟨s⟩:Str),false,()) rfl hs,Zf ((⟨s⟩:Str),false,()) rfl (YO (fun h2=> ?_) fun h2=> ?_)⟩)
 ·have g:s=[]:=g
  subst g
  exact Fu
 ·rw[show XG ((⟨s⟩:Str),()).1=_ from k (by unfold QY;rw[decide_eq_false (show ¬ s.length<=10 by omega)];simp)]
  exact Fu
 ·have h2:((Yj ⟨s⟩ false).s==s)=false:=h2
  have hd:s.all digB=false:=by
   cases e:s.all digB with
   | false=>rfl
   | true=>
    have u:(Yj ⟨s⟩ false).s=s:=LJ (p:=fun c=>digB c||(false&&lowB c)) (by
     rw[show(fun c=>digB c||(false&&lowB c))=digB from funext fun c=>by simp]
     exact e)
    rw[u]at h2
    simp at h2
  rw[show XG ((⟨s⟩:Str),()).1=_ from k (by unfold QY;rw[hd];simp)]
  exact Fu
 ·have g:s≠[]:=g
  have h2:((Yj ⟨s⟩ false).s==s)=true:=h2
  have hd:s.all digB=true:=by
   have h3:(Yj ⟨s⟩ false).s=s:=by simpa using h2
   have:=Fg (p:=fun c=>digB c||(false&&lowB c)) (s:=s) h3
   rw[show(fun c=>digB c||(false&&lowB c))=digB from funext fun c=>by simp]at this
   exact this
  have l:s.length<=10:=by omega
  have hp:0<s.length:=List.length_pos_iff.2 g
  have q:s.isEmpty=false:=by cases s with|nil=>exact absurd rfl g|cons _ _=>rfl
  have ha:=e2y g hd l
  have last:(decide (s.head? = some 48)&&decide (1<s.length))=false->preT (fun(x:Str×Unit)=>decide (List.length (Str.s (Prod.fst x))<=281474976710656)) [(.str s)]=true∧ ∃ i:Int×Er,AV.pv (Zv (fun(x:Str×Unit)=>Yx (Prod.fst x)) [(.str s)])=AV.pv (enc i)∧((TL (enc (Prod.snd i))&&Prod.fst (true,PV.bool !Uk (enc (Prod.snd i))))=true∧(if (!Uk (enc (Prod.snd i)))=true then Ze (XG ⟨s⟩) (.tup [.int .i64 0,.bool false])else if decide (Prod.fst i>2147483648)=true then Ze (XG ⟨s⟩) (.tup [.int .i64 0,.bool false])else Ze (XG ⟨s⟩) (.tup [.int .i64 (Prod.fst i),.bool true]))):=fun j=>by
   refine⟨Zn ((⟨s⟩:Str),()) rfl (decide_eq_true (by show s.length<=281474976710656;omega)),Zf ((⟨s⟩:Str),()) rfl ?_⟩
   rw[show Yx ((⟨s⟩:Str),()).1=(UZ s,⟨false⟩)from ha]
   refine⟨rfl,Yi (show ¬ (!Uk (enc (⟨false⟩:Er)))=true by decide) (Yu (fun h3=> ?_) fun h3=> ?_)⟩
   ·rw[k (by unfold QY;rw[decide_eq_false (show ¬ UZ s<=2147483648 by omega),Bool.and_false])]
    exact Fu
   ·rw[show XG ⟨s⟩=(UZ s,true) by
     unfold XG QY
     rw[q,decide_eq_true l,hd,j,decide_eq_true (show UZ s<=2147483648 by omega)]
     rfl]
    exact Fu
  refine⟨by simp;omega,Yc (fun h3=>Yu (fun y=> ?_) fun y=>last (by rw[decide_eq_false (show ¬ 1<s.length by omega),Bool.and_false])) fun h3=>last ?_⟩
  ·have j:s.head? = some 48:=by
    cases s with
    | nil=>exact absurd rfl g
    | cons c r=>
     have h3:(c.toNat:Int)=48:=h3
     have:c=48:=UInt8.toNat_inj.1 (by show c.toNat=48;omega)
     rw[this];rfl
   rw[show XG ((⟨s⟩:Str),()).1=_ from k (by unfold QY;rw[decide_eq_true j,decide_eq_true (show 1<s.length by omega)];simp)]
   exact Fu
  ·have j:s.head? ≠ some 48:=by
    cases s with
    | nil=>exact absurd rfl g
    | cons c r=>
     have h3:(c.toNat:Int)≠48:=h3
     intro e
     have e:c=48:=by simpa using e
     rw[e]at h3
     exact h3 rfl
   rw[decide_eq_false j];rfl
theorem f4j{r:Str}{d:List Lin}(h:b5n r d=true):spW ⟨r,d⟩=true:=by
 unfold b5n at h
 unfold spW
 simp only[Bool.and_eq_true]at h ⊢
 exact⟨⟨h.1,h.2.1⟩,h.2.2⟩
structure TyBdF (t:TyS):Prop where
 elem:t.elem.s.length<=1048576
 sp:spW ⟨t.row,t.dims⟩=true
theorem e6w{t:TyS}(h:Pq t=true):TyBdF t:=by
 unfold Pq at h
 simp only[Bool.and_eq_true,decide_eq_true_eq]at h
 exact⟨h.1,f4j h.2⟩
theorem a9i: ∀ x:TyS×Unit,Pq x.1=true->Zm a7v 0 (Za L8 (Ze (tyV x.1))) Oj [] (YI c7q (encL x)):=by
 rintro⟨t,⟨⟩⟩ h
 have g:=e6w h
 have y:elB t.elem.s=true->shV t.row t.dims=tyV t:=fun e=>by unfold tyV;rw[e];rfl
 refine e2a t (Yc (fun h1=>⟨Zn (⟨t.row,t.dims⟩,()) rfl g.sp,Zf (⟨t.row,t.dims⟩,()) rfl (ZO (y ?_))⟩) fun h1=>Yc (fun h2=>⟨Zn (⟨t.row,t.dims⟩,()) rfl g.sp,Zf (⟨t.row,t.dims⟩,()) rfl (ZO (y ?_))⟩) fun h2=>⟨Zn (t.elem,()) rfl (decide_eq_true g.elem),Zf (t.elem,()) rfl (ZW (fun h3=>⟨Zn (⟨t.row,t.dims⟩,()) rfl g.sp,Zf (⟨t.row,t.dims⟩,()) rfl (ZO (y ?_))⟩) fun h3=>ZO ?_)⟩)
 ·unfold elB;rw[show t.elem.s=Vv from h1];rfl
 ·unfold elB;rw[show t.elem.s=XJ from h2];rfl
 ·unfold elB;rw[show evB t.elem.s=true from h3,Bool.or_true]
 ·have h3:evB t.elem.s=false:=h3
  unfold tyV elB
  rw[h3,decide_eq_false (show ¬ t.elem.s=Vv from h1),decide_eq_false (show ¬ t.elem.s=XJ from h2)];rfl
end Go.Pl
namespace Go.Pl
open Go.RowKit
def Hl:List Str:=Zo.map Str.mk
theorem c3e(s:List UInt8)(a n:Nat):(s.drop a).getD n 0=s.getD (a+n) 0:=by
 rw[List.getD_eq_getElem?_getD,List.getD_eq_getElem?_getD,List.getElem?_drop]
theorem Gp: ∀ (f:Nat) (s:List UInt8) (a n:Nat),a<=s.length->ZR f (s.drop a) n+a=ZR f s (a+n)
 | 0,s,a,n,h=>by rw[ZR,ZR];omega
 | f+1,s,a,n,h=>by
  rw[ZR,ZR,List.length_drop,c3e,List.drop_drop]
  by_cases h1:s.length<=a+n
  ·rw[if_pos (show s.length - a<=n by omega),if_pos h1];omega
  ·rw[if_neg (show ¬ s.length - a<=n by omega),if_neg h1]
   split
   ·rw[Gp f s a (n+1) h];rfl
   ·split
    ·split
     ·omega
     ·rw[Gp f s a _ h,Nat.add_assoc]
    ·omega
theorem c9n{s:List UInt8}{n:Nat}(h:List.isPrefixOf [47,47] (s.drop n)=true)(k:0<=Lib.indexByte (s.drop n) 10):0<Lib.indexByte (s.drop n) 10:=by
 cases e:s.drop n with
 | nil=>rw[e]at h;cases h
 | cons c r=>
  rw[e]at h k
  refine b3j ?_ (by simp) k
  show c≠10
  intro q
  subst q
  cases r with
  | nil=>cases h
  | cons d r=>simp[List.isPrefixOf]at h
theorem Cy: ∀ (f e:Nat) (s:List UInt8) (n:Nat),s.length<n+f->s.length<n+e->ZR f s n=ZR e s n
 | 0,e,s,n,h,h'=>by
  rw[ZR]
  cases e with
  | zero=>rfl
  | succ e=>rw[ZR,if_pos (by omega)]
 | f+1,0,s,n,h,h'=>by rw[ZR,ZR,if_pos (by omega)]
 | f+1,e+1,s,n,h,h'=>by
  rw[ZR,ZR]
  split
  ·rfl
  ·split
   ·exact Cy f e s _ (by omega) (by omega)
   ·split
    ·split
     ·rfl
     ·rename_i g q2
      have h3:=c9n g (by omega)
      exact Cy f e s _ (by omega) (by omega)
    ·rfl
theorem f0l{s:List UInt8}{a:Nat}(h:a<=s.length):ZR (s.length+1) s a=a+(Uu ⟨s.drop a⟩).toNat:=by
 unfold Uu
 rw[Int.toNat_natCast]
 show _=a+ZR ((s.drop a).length+1) (s.drop a) 0
 have e:=Gp ((s.drop a).length+1) s a 0 h
 rw[Cy (s.length+1) ((s.drop a).length+1) s a (by omega) (by rw[List.length_drop];omega)]
 have e:ZR ((s.drop a).length+1) (s.drop a) 0+a=ZR ((s.drop a).length+1) s a:=e
 omega
theorem a2e{s:List UInt8}{a:Nat}(h:a<=s.length):a<=ZR (s.length+1) s a∧ZR (s.length+1) s a<=s.length:=KG _ _ _ h
def Jv(s:List UInt8)(a b:Nat):Nat:=List.count 10 ((s.drop a).take (b - a))
theorem a8y(s:List UInt8)(a:Nat):Jv s a a=0:=by unfold Jv;rw[Nat.sub_self];rfl
theorem a0z{s:List UInt8}{a b c:Nat}(h1:a<=b)(h2:b<=c):Jv s a c=Jv s a b+Jv s b c:=by
 unfold Jv
 rw[<- List.count_append]
 congr 1
 rw[show c - a=(b - a)+(c - b) by omega,List.take_add,List.drop_drop,show a+(b - a)=b by omega]
theorem b9h{s:List UInt8}{a:Nat}(h:a<s.length):Jv s a (a+1)=if s[a]=10 then 1 else 0:=by
 unfold Jv
 rw[show a+1 - a=1 by omega,List.drop_eq_getElem_cons h]
 show List.count 10 [s[a]]=_
 rw[List.count_singleton]
 by_cases e:s[a]=10
 ·rw[e];rfl
 ·rw[if_neg e,if_neg (by simpa using e)]
theorem e4k(w s:List UInt8):w.isPrefixOf s=(decide (w.length<=s.length)&&(s.take w.length==w)):=by
 rw[Bool.eq_iff_iff]
 simp only[List.isPrefixOf_iff_prefix,Bool.and_eq_true,decide_eq_true_eq,beq_iff_eq]
 constructor
 ·intro h
  exact⟨h.length_le,(List.prefix_iff_eq_take.1 h).symm⟩
 ·intro h
  rw[List.prefix_iff_eq_take]
  exact h.2.symm
theorem g1z: ∀ w∈Zo,List.count 10 w=0:=by decide
theorem a5j: ∀ (l:List (List UInt8)) (s:List UInt8),(∀ w∈l,List.count 10 w=0)->s.take (Zk l s).2.s.length=(Zk l s).2.s∧List.count 10 (Zk l s).2.s=0
 | [],s,_=>⟨rfl,rfl⟩
 | x::l,s,h=>by
  rw[Zk]
  split
  ·rename_i q
   exact⟨(List.prefix_iff_eq_take.1 (List.isPrefixOf_iff_prefix.1 q)).symm,h x (List.mem_cons_self ..)⟩
  ·exact a5j l s fun w e=>h w (List.mem_cons_of_mem _ e)
theorem a2l(s:Str)(b:Bool):s.s.take (Yj s b).s.length=(Yj s b).s∧List.count 10 (Yj s b).s=0:=by
 unfold Yj
 dsimp only
 refine⟨(List.prefix_iff_eq_take.1 (List.takeWhile_prefix _)).symm,?_⟩
 rw[List.count_eq_zero]
 intro h
 have e : ∀ (l:List UInt8),(10:UInt8) ∉ l.takeWhile fun c=>digB c||(b&&lowB c):=by
  intro l
  induction l with
  | nil=>simp
  | cons c l ih=>
   rw[List.takeWhile_cons]
   split
   ·rename_i q
    intro hm
    rcases List.mem_cons.1 hm with hm|hm
    ·rw[<- hm]at q
     revert q
     cases b <;> decide
    ·exact ih hm
   ·simp
 exact e _ h
theorem c5c(s:Str):s.s.take (Zc s).2.s.length=(Zc s).2.s∧List.count 10 (Zc s).2.s=0:=by
 unfold Zc
 split
 ·exact⟨rfl,rfl⟩
 ·split
  ·split
   ·exact a2l s true
   ·split
    ·exact a2l s true
    ·exact⟨rfl,rfl⟩
  ·split
   ·split
    ·exact a2l s false
    ·exact⟨rfl,rfl⟩
   ·exact a5j Zo _ g1z
theorem c2u{s:List UInt8}{a:Nat}:Jv s a (a+(Zc ⟨s.drop a⟩).2.s.length)=0:=by
 unfold Jv
 have h:=c5c ⟨s.drop a⟩
 rw[show a+(Zc ⟨s.drop a⟩).2.s.length - a=(Zc ⟨s.drop a⟩).2.s.length by omega,h.1]
 exact h.2
theorem DY{p:UInt8->Bool}: ∀ {s:List UInt8} {k:Nat},k<=s.length->(∀ c∈s.take k,p c=true)->(k=s.length∨p (s.getD k 0)=false)->s.take k=s.takeWhile p
 | [],k,hk,_,_=>by
  have:k=0:=by simpa using hk
  subst this;rfl
 | c::s,0,hk,_,h=>by
  rcases h with h|h
  ·cases h
  ·have h:p c=false:=h
   rw[List.takeWhile_cons,h];rfl
 | c::s,k+1,hk,hp,h=>by
  rw[List.take_succ_cons]at hp
  rw[List.take_succ_cons,List.takeWhile_cons,hp c (List.mem_cons_self ..),if_pos rfl]
  congr 1
  refine DY (by simpa using hk) (fun x e=>hp x (List.mem_cons_of_mem _ e)) ?_
  rcases h with h|h
  ·left;simpa using h
  ·right;exact h
def e0l(f:Nat)(s:List UInt8)(a:Nat)(ln:Int)(o:List Tok):R3 (List Tok) Int Int:=
 if a=s.length then⟨o,0,0⟩
 else if (Zc ⟨s.drop a⟩).1=0 then⟨[],(a:Nat),6⟩
 else if o.length=4000 then⟨[],(a:Nat),3⟩
 else Dk f s (a+(Zc ⟨s.drop a⟩).2.s.length) ln (o++[⟨(Zc ⟨s.drop a⟩).1,(Zc ⟨s.drop a⟩).2,ln,(a:Nat)⟩])
theorem c9x{f:Nat}{s:List UInt8}{i a:Nat}{ln:Int}{o:List Tok}(hi:i<=s.length)(ha:a=ZR (s.length+1) s i):Dk (f+1) s i ln o=e0l f s a (ln+(Jv s i a:Nat)) o:=by
 have e:=f0l hi
 rw[<- ha]at e
 have g:(Uu ⟨s.drop i⟩).toNat=a - i:=by omega
 rw[Dk]
 rw[g,show i+(a - i)=a by omega]
 unfold e0l Jv Lib.countByte
 rfl
open Enc (enc dec is)
open EncL (encL decL isL)
set_option maxRecDepth 100000
abbrev g6m(ps:List PV)(k:Str->Prop):Prop:=GJ (fun(x:Str×Unit)=>decide (List.length (Str.s (Prod.fst x))<=1048576)) (fun(x:Str×Unit)=>Prod.snd (Zk Zo (Str.s (Prod.fst x)))) ps k
abbrev g6j(ps:List PV)(k:Bool->Prop):Prop:=ceP (fun(x:Str×Unit)=>List.contains VC (Str.s (Prod.fst x))) ps k
abbrev g3u(ps:List PV)(k:Int×Bool->Prop):Prop:=GJ (fun(x:Str×Unit)=>decide (List.length (Str.s (Prod.fst x))<=1048576)) (fun(x:Str×Unit)=>XG (Prod.fst x)) ps k
abbrev d0b(ps:List PV)(k:Int->Prop):Prop:=GJ (fun(x:Str×Int×Unit)=>decide (List.length (Str.s (Prod.fst x))<=1048576)&&(decide (0<=Prod.fst (Prod.snd x))&&decide (Prod.fst (Prod.snd x)<=(↑(List.length (Str.s (Prod.fst x))):Int)))) (fun(x:Str×Int×Unit)=>(↑(ZR (List.length (Str.s (Prod.fst x))+1) (Str.s (Prod.fst x)) (Int.toNat (Prod.fst (Prod.snd x)))):Int)) ps k
abbrev f1u(ps:List PV)(k:Tok->Prop):Prop:=GJ (fun(x:Str×Unit)=>decide (List.length (Str.s (Prod.fst x))<=1048576)&& !List.isEmpty (Str.s (Prod.fst x))) (fun(x:Str×Unit)=>Tok.mk (Prod.fst (Zc (Prod.fst x))) (Prod.snd (Zc (Prod.fst x))) 0 0) ps k
noncomputable def CO:IC:=Wq Proofs.Tryz.f53
def Cn:List IRes:=[(.tmp 2),(.tmp 3)]
abbrev f6o:Nat:=46
noncomputable def f3e:Nat×Den:=(43,.pure (preT (fun _:UInt8×Unit=>true)) (Zv (fun x:UInt8×Unit=>digB x.1)))
noncomputable def P6:ZP:=Xa [f3e]
def g5g{G:PV->Prop}(s:List UInt8):=Qr (At P6 0 (Za Cn G) CO 0 46 [Zb s,(4,ZC),(5,ZC)] []) G (.nil) P6 Cn CO (YI 46 [.str s]) (by delta Zb ZC;exact rfl)
def Cb(e:List UInt8)(Zq:Nat):List PV:=[.int IntKind.u8 (↑(Qk e Zq):Int)]
def b5u(e:Int)(Zq:PV->Prop):Prop:=if (decide (e>2147483648))=true then Zq (Hg)else(Zq (.tup [.int .i64 e,.bool true]))
def d2j{G:PV->Prop}(s:List UInt8)(n:Int)(i:Nat):=WM (if (U5 i s)=true then(Ui i s)=true∧(FR (Cb s i) fun e=>(if (!e)=true then G (Hg)else(if (decide ((↑i:Int)>9))=true then G (Hg)else((Ui i s)=true∧(At P6 0 (Za Cn G) CO 0 46 [Zb s,(4,.pv (.int .i64 (IntKind.wrap IntKind.i64 (IntKind.wrap IntKind.i64 (10*n)+IntKind.wrap IntKind.i64 (IntKind.wrap IntKind.u8 ((↑(Qk s i):Int) - 48)))))),(5,V5 i)] [])))))else(if (s==[])=true then G (Hg)else(if (decide ((↑(List.length s):Int)>1))=true then(QX s)=true∧(if ((↑(GA s):Int)==48)=true then G (Hg)else(b5u n G))else(b5u n G)))) G (dm [dv Bool] 93 0x1422222222200001422202220044222221201842222022222222200a42022212000142220222004451101942) P6 Cn CO 0 46 [Zb s,(4,Zy n),(5,Cc i)] [] (by delta U5 Ui Qk Cb N8 Hg Zb Ky V5 QX GA b5u;exact rfl)
noncomputable def AQ:IC:=Wq Proofs.Tryz.f54
def A7:List IRes:=[(.tmp 2)]
abbrev f7w:Nat:=38
noncomputable def LF:ZP:=Xa []
def g3p{G:PV->Prop}(s:List UInt8):=Qr (At LF 0 (Za A7 G) AQ 0 38 [Zb s,(3,.row 0 28 0 28),(4,ZC)] [.obj (.row false 9 1 c1l)]) G (.lit (.nil)) LF A7 AQ (YI 38 [.str s]) (by delta Zb ZC c1l;exact rfl)
def Cv:List PV:=List.map enc Hl
def a6c(e:Nat):Bool:=decide (0<=(↑e:Int))&&decide (0+Int.toNat (↑e:Int)<28)&&List.length Cv==28
def a6f(e:Nat):Bool:=List.length Cv==28&&decide (0+Int.toNat (↑e:Int)<List.length Cv)
def FQ(e:Nat):List PV:=PV.cells (List.getD Cv (0+Int.toNat (↑e:Int)) default)
def a9z(e:Nat):Bool:=decide (0+List.length [Sh.str]<=List.length (FQ e))&&Qi (FQ e) 0 [Sh.str]
def SB(e:Nat):Nat:=List.length (PV.asStr (List.getD (FQ e) 0 default))
def b5f(g:PV->Prop)(Zq:List UInt8)(e:Nat):Prop:=At LF 0 (Za A7 g) AQ 0 38 [Zb Zq,(3,.row 0 28 0 28),(4,V5 e)] [.obj (.row false 9 1 Cv)]
def e0a{G:PV->Prop}(s:List UInt8)(i:Nat):=WM (if (decide ((↑i:Int)<(↑(28 - 0):Int)))=true then(a6c i)=true∧((a6f i)=true∧((a9z i)=true∧(if (decide ((↑(List.length s):Int) ≥ (↑(SB i):Int)))=true then(a6c i)=true∧((a6f i)=true∧((a9z i)=true∧((true&&decide (0<=(↑(SB i):Int))&&decide (0<=Int.toNat (↑(SB i):Int))&&decide (Int.toNat (↑(SB i):Int)<=List.length s))=true∧((a6c i)=true∧((a6f i)=true∧((a9z i)=true∧(if (List.drop 0 (List.take (Int.toNat (↑(SB i):Int)) s)==PV.asStr (List.getD (FQ i) 0 default))=true then(a6c i)=true∧((a6f i)=true∧((a9z i)=true∧(G (.str (PV.asStr (List.getD (FQ i) 0 default))))))else(b5f G s i))))))))else(b5f G s i))))else(G (.str []))) G (dm [] 64 0x2222222222222202011310054222112312221221123122202142113103942) LF A7 AQ 0 38 [Zb s,(3,.row 0 28 0 28),(4,Cc i)] [.obj (.row false 9 1 Cv)] (by delta Cv a6c a6f FQ a9z SB Zb Ky V5 b5f;exact rfl)
noncomputable def Qd:IC:=Wq Proofs.Tryz.f32
def U4:List IRes:=[(.cell true 4 2)]
abbrev f9n:Nat:=80
noncomputable def J4:ZP:=Xa [(42,.pure (preT (fun _:UInt8×Unit=>true)) (Zv (fun x:UInt8×Unit=>lowB x.1))),f3e,(44,.pure (preT (fun _:Str×Unit=>true)) (Zv (fun x:Str×Unit=>VC.contains x.1.s))),(20,.pure (preT (fun x:Str×Unit=>decide (x.1.s.length<=1048576))) (Zv (fun x:Str×Unit=>nameI x.1.s))),(53,.pure (preT (fun x:Str×Unit=>decide (x.1.s.length<=1048576))) (Zv (fun x:Str×Unit=>XG x.1))),(54,.pure (preT (fun x:Str×Unit=>decide (x.1.s.length<=1048576))) (Zv (fun x:Str×Unit=>(Zk Zo x.1.s).2)))]
def Du:ZE:=[.obj (.box [ZC,.pv (.str []),ZC,ZC])]
def Ap:PV:=.agg [.int .i64 0,.str [],.int .i64 0,.int .i64 0]
def g4g{G:PV->Prop}(s:List UInt8):=Qr ((QX s)=true∧(a6p (Jh s) fun h=>(if (h)=true then At J4 0 (Za U4 G) Qd 0 80 [Zb s,(2,.ptr 0 0),(3,ZC)] Du else((QX s)=true∧(FR (Jh s) fun g=>(if (g)=true then At J4 0 (Za U4 G) Qd 1 80 [Zb s,(2,.ptr 0 0),(3,ZC)] Du else(g6m [.str s] fun e=>(if (!Str.s e==[])=true then G (.agg [.int .i64 4,.str (Str.s e),.int .i64 0,.int .i64 0])else(G (Ap)))))))))) G (dm [dv Bool,dv Str] 26 0x142610001451100014511) J4 U4 Qd (YI 80 [.str s]) (by delta QX GA Jh Zb ZC Du Ap;exact rfl)
def Tt(e:Nat)(Zq:List UInt8):Bool:=true&&decide (0<=(↑e:Int))&&decide (0<=Int.toNat (↑e:Int))&&decide (Int.toNat (↑e:Int)<=List.length Zq)
def Gm(e:Nat)(Zq:List UInt8):PV:=.str (List.drop 0 (List.take (Int.toNat (↑e:Int)) Zq))
def d9e(e:Nat)(Zq:List UInt8)(g:PV->Prop):Prop:=(Tt e Zq)=true∧(g6j [Gm e Zq] fun i=>(if (i)=true then(Tt e Zq)=true∧(g (.agg [.int .i64 2,Gm e Zq,.int .i64 0,.int .i64 0]))else((Tt e Zq)=true∧(Fx [Gm e Zq] fun h=>(if (h)=true then(Tt e Zq)=true∧(g (.agg [.int .i64 1,Gm e Zq,.int .i64 0,.int .i64 0]))else(g (Ap)))))))
def d1b{G:PV->Prop}(s:List UInt8)(k:Nat):=WM (if (U5 k s)=true then(Ui k s)=true∧(a6p (Cb s k) fun g=>(if (g)=true then At J4 0 (Za U4 G) Qd 0 80 [Zb s,(2,.ptr 0 0),(3,V5 k)] Du else((Ui k s)=true∧(FR (Cb s k) fun e=>(if (e)=true then At J4 0 (Za U4 G) Qd 0 80 [Zb s,(2,.ptr 0 0),(3,V5 k)] Du else(d9e k s G))))))else(d9e k s G)) G (dm [dv Bool] 86 0x10024511010024521222222200100245110100245210200242225121220222222220094251212203642) J4 U4 Qd 0 80 [Zb s,(2,.ptr 0 0),(3,Cc k)] Du (by delta U5 Ui Qk Cb Zb Ky V5 ZC Du Tt Gm Ap d9e;exact rfl)
def e2u(e:Nat)(Zq:List UInt8)(g:PV->Prop):Prop:=(Tt e Zq)=true∧(g3u [Gm e Zq] fun h=>(if h.2=true then(Tt e Zq)=true∧(g (.agg [.int .i64 3,Gm e Zq,.int .i64 0,.int .i64 0]))else(g (Ap))))
def d8v{G:PV->Prop}(s:List UInt8)(k:Nat):=WM (if (U5 k s)=true then(Ui k s)=true∧(FR (Cb s k) fun e=>(if (e)=true then At J4 0 (Za U4 G) Qd 1 80 [Zb s,(2,.ptr 0 0),(3,V5 k)] Du else(e2u k s G)))else(e2u k s G)) G (dm [dv Bool,dv (Int×Bool)] 44 0x10024611222220010024611020024251212201742) J4 U4 Qd 1 80 [Zb s,(2,.ptr 0 0),(3,Cc k)] Du (by delta U5 Ui Qk Cb Zb Ky V5 ZC Du Tt Gm Ap e2u;exact rfl)
noncomputable def WK:IC:=Wq Proofs.Tryz.f31
def WH:List IRes:=[(.tmp 4)]
abbrev f7b:Nat:=61
noncomputable def Us:ZP:=Xa []
def g5r{G:PV->Prop}(s:List UInt8)(a:Int):=Qr (At Us 0 (Za WH G) WK 0 61 [Zb s,(1,Zy a)] []) G (.nil) Us WH WK (YI 61 (Sj s a)) (by delta Zb Zy;exact rfl)
def d8w{G:PV->Prop}(s:List UInt8)(a:Int)(i:Nat):=WM (if (U5 i s)=true then(Ui i s)=true∧(if ((↑(Qk s i):Int)==32)=true then At Us 0 (Za WH G) WK 0 61 [Zb s,(1,V5 i)] []else((Ui i s)=true∧(if ((↑(Qk s i):Int)==9)=true then At Us 0 (Za WH G) WK 0 61 [Zb s,(1,V5 i)] []else((Ui i s)=true∧(if ((↑(Qk s i):Int)==10)=true then At Us 0 (Za WH G) WK 0 61 [Zb s,(1,V5 i)] []else((Ui i s)=true∧(if ((↑(Qk s i):Int)==47)=true then if (decide (IntKind.wrap IntKind.i64 ((↑i:Int)+1)<(↑(List.length s):Int)))=true then(decide (0<=IntKind.wrap IntKind.i64 ((↑i:Int)+1))&&decide (Int.toNat (Ky i)<List.length s))=true∧(if ((↑(UInt8.toNat (List.getD s (Int.toNat (Ky i)) (0:UInt8))):Int)==47)=true then At Us 0 (Za WH G) WK 1 61 [Zb s,(1,.pv (VM i))] []else(G (VM i)))else(G (VM i))else(G (VM i)))))))))else(G (VM i))) G (dm [] 105 0x22222222222202222220000142221222200e422222220204210200242221220222222007422212202222222222200c42106242) Us WH WK 0 61 [Zb s,(1,Cc i)] [] (by delta U5 Ui Qk Zb Ky V5 VM;exact rfl)
def b2d{G:PV->Prop}(s:List UInt8)(a:Int)(i:Nat):=WM (if (U5 i s)=true then(Ui i s)=true∧(if ((↑(Qk s i):Int) != 10)=true then At Us 0 (Za WH G) WK 1 61 [Zb s,(1,V5 i)] []else(At Us 0 (Za WH G) WK 0 61 [Zb s,(1,.pv (VM i))] []))else(At Us 0 (Za WH G) WK 0 61 [Zb s,(1,.pv (VM i))] [])) G (dm [] 25 0x22222002002422212200d42) Us WH WK 1 61 [Zb s,(1,Cc i)] [] (by delta U5 Ui Qk Zb Ky V5 VM;exact rfl)
noncomputable def XL:IC:=Wq Proofs.Tryz.f16
def XM:List IRes:=[(.tmp 2),(.tmp 3),(.tmp 4)]
abbrev d9i:Nat:=59
noncomputable def Vp:ZP:=Xa [(31,.pure (preT (fun x:Str×Int×Unit=>decide (x.1.s.length<=1048576)&&(decide (0<=x.2.1)&&decide (x.2.1<=x.1.s.length)))) (Zv (fun x:Str×Int×Unit=>((ZR (x.1.s.length+1) x.1.s x.2.1.toNat:Nat):Int)))),(32,.pure (preT (fun x:Str×Unit=>decide (x.1.s.length<=1048576)&& !x.1.s.isEmpty)) (Zv (fun x:Str×Unit=>(⟨(Zc x.1).1,(Zc x.1).2,0,0⟩:Tok))))]
def g3r{G:PV->Prop}(s:List UInt8):=Qr (if (decide ((↑(List.length s):Int)>20000))=true then G (Eo)else(d0b [.str s,.int .i64 0] fun e=>(At Vp 0 (Za XM G) XL 0 59 [Zb s,(5,Z5),(6,Wv),(7,ZC),(8,Zy e)] []))) G (dm [dv Int] 10 0x51000142) Vp XM XL (YI 59 [.str s]) (by delta Eo Zb Z5 Wv ZC Zy;exact rfl)
def Ej(e:Int):PV:=.tup [.sl 0 true [],.int .i64 e,.int .i64 6]
def Tz(e:Tok):Slot:=.obj (.box [.pv (.int .i64 (Tok.k e)),.pv (Vr e),.pv (Wh e),.pv (.int .i64 (Tok.o e))])
def b7u{G:PV->Prop}(s:List UInt8)(ln e a:Int):=WM (if (Gj a s)=true then(Tx a s)=true∧(f1u (Bb a s) fun g=>(if (Tok.k g==0)=true then G (Ej a)else(At Vp 0 (Za XM G) XL 1 59 [Zb s,(5,Z5),(6,Zy ln),(7,Zy e),(8,Zy a),(9,.ptr 0 0)] [Tz g])))else(G (a0p))) G (dm [dv Tok] 19 0x2200014251100c42) Vp XM XL 0 59 [Zb s,(5,Z5),(6,Zy ln),(7,Zy e),(8,Zy a)] [] (by delta Gj Tx Bb Ej Zb Z5 Zy Vr Wh Tz a0p;exact rfl)
def CB(e:Nat):Nat×AV:=(5,.row 0 e 0 e)
def N7(e:List Tok)(Zq:Tok):ZE:=[.obj (.row false 62 4 (List.map enc e)),Tz Zq]
def b9l{G:PV->Prop}(s:List UInt8)(ln e a:Int)(o:List Tok)(L:Nat):=WM (if (Gj a s)=true then(Tx a s)=true∧(f1u (Bb a s) fun g=>(if (Tok.k g==0)=true then G (Ej a)else(if ((↑(L - 0):Int)==4000)=true then G (.tup [.sl 0 true [],.int .i64 a,.int .i64 3])else(At Vp 0 (Za XM G) XL 1 59 [Zb s,CB L,(6,Zy ln),(7,Zy e),(8,Zy a),(9,.ptr 1 0)] (N7 o g)))))else((List.length (List.map enc o)==L)=true∧(G (a3p L o)))) G (dm [dv Tok] 24 0x1000014200014251101042) Vp XM XL 0 59 [Zb s,CB L,(6,Zy ln),(7,Zy e),(8,Zy a)] [.obj (.row false 62 4 (o.map enc))] (by delta Gj Tx Bb Ej Zb CB Zy Vr Wh Tz N7 a3p;exact rfl)
def E5(e:Int)(Zq:Tok):PV:=.int .i64 (IntKind.wrap IntKind.i64 (e+(↑(List.length (Str.s (Tok.t Zq))):Int)))
def d8f(e:Tok):Slot:=.obj (.box [.pv (enc e.k),.pv (enc e.t),.pv (enc e.ln),.pv (enc e.o)])
def b7o{G:PV->Prop}(s:List UInt8)(ln e a:Int)(t:Tok):=WM (if (decide (e<a))=true then(Dn e s)=true∧(if ((↑(Cg s e):Int)==10)=true then At Vp 0 (Za XM G) XL 1 59 [Zb s,(5,Z5),(6,YG ln),(7,YG e),(8,Zy a),(9,.ptr 0 0)] [Tz t]else(At Vp 0 (Za XM G) XL 1 59 [Zb s,(5,Z5),(6,Zy ln),(7,YG e),(8,Zy a),(9,.ptr 0 0)] [Tz t]))else(d0b [.str s,E5 a t] fun g=>(At Vp 0 (Za XM G) XL 0 59 [Zb s,(5,.row 0 1 0 1),(6,Zy ln),(7,Zy e),(8,Zy g)] [.obj (.row false 62 4 [.agg [.int .i64 (Tok.k t),Vr t,.int .i64 ln,.int .i64 a]])]))) G (dm [dv Int] 26 0x512222220202200342100b42) Vp XM XL 1 59 [Zb s,(5,Z5),(6,Zy ln),(7,Zy e),(8,Zy a),(9,.ptr 0 0)] [d8f t] (by delta Dn Cg Zb Z5 YG Zy Vr Wh Tz E5;exact rfl)
def a6e(e:Tok)(Zq g:Int):List PV:=List.drop 0 (List.take 1 [PV.agg [enc (Tok.k e),enc (Tok.t e),PV.int .i64 Zq,PV.int .i64 g]])
def b9x{G:PV->Prop}(s:List UInt8)(ln e a:Int)(t:Tok)(o:List Tok)(L:Nat):=WM (if (decide (e<a))=true then(Dn e s)=true∧(if ((↑(Cg s e):Int)==10)=true then At Vp 0 (Za XM G) XL 1 59 [Zb s,CB L,(6,YG ln),(7,YG e),(8,Zy a),(9,.ptr 1 0)] (N7 o t)else(At Vp 0 (Za XM G) XL 1 59 [Zb s,CB L,(6,Zy ln),(7,YG e),(8,Zy a),(9,.ptr 1 0)] (N7 o t)))else((List.length (List.map enc o)==L&&L==L&&decide ((L+List.length (a6e t ln a))*40<=1099511627776)&&decide (L+List.length (a6e t ln a)<=1099511627776))=true∧(d0b [.str s,E5 a t] fun g=>(At Vp 0 (Za XM G) XL 0 59 [Zb s,(5,.row 0 (L+List.length (a6e t ln a)) 0 (L+List.length (a6e t ln a))),(6,Zy ln),(7,Zy e),(8,Zy g)] [.obj (.row false 62 4 (List.map enc o++List.drop 0 (List.take 1 [PV.agg [enc (Tok.k t),enc (Tok.t t),PV.int .i64 ln,PV.int .i64 a]])))])))) G (dm [dv Int] 24 0x5121220202200342100b42) Vp XM XL 1 59 [Zb s,CB L,(6,Zy ln),(7,Zy e),(8,Zy a),(9,.ptr 1 0)] [.obj (.row false 62 4 (o.map enc)),d8f t] (by delta Dn Cg Zb CB YG Zy Vr Wh Tz N7 a6e E5;exact rfl)
theorem Oa{n:Int}{b:Bool}:Ze ((n,b):Int×Bool) (.tup [.int .i64 n,.bool b]):=⟨rfl,rfl⟩
theorem Ud{s:List UInt8}{i:Nat}(h:i<s.length):(decide (0<=(i:Int))&&decide (Int.toNat (i:Int)<List.length s))=true:=by simp;omega
theorem VE{s:List UInt8}{k:Nat}(h:k<=s.length):(true&&decide (0<=(k:Int))&&decide (0<=Int.toNat (k:Int))&&decide (Int.toNat (k:Int)<=List.length s))=true:=by simp;omega
theorem a1s(s:List UInt8)(k:Nat):List.drop 0 (List.take (Int.toNat (k:Int)) s)=s.take k:=by rw[List.drop_zero,Int.toNat_natCast]
theorem b8y: ∀ (d:List UInt8) (n:Int) (k:Nat),0<=n->n<10 ^ k->d.all digB=true->0<=d.foldl (fun n c=>10*n+((c.toNat:Int) - 48)) n∧d.foldl (fun n c=>10*n+((c.toNat:Int) - 48)) n<10 ^ (k+d.length)
 | [],n,k,e,h1,_=>⟨e,h1⟩
 | c::d,n,k,e,h1,h=>by
  rw[List.all_cons,Bool.and_eq_true]at h
  have hc:=h.1
  unfold digB at hc
  simp only[Bool.and_eq_true,decide_eq_true_eq]at hc
  have c1:48<=c.toNat:=hc.1
  have c2:c.toNat<=57:=hc.2
  rw[List.foldl_cons,List.length_cons,show k+(d.length+1)=(k+1)+d.length by omega]
  refine b8y d _ (k+1) (by omega) ?_ h.2
  rw[Int.pow_succ]
  generalize (10:Int) ^ k=P at *
  omega
theorem f7s(d:List UInt8)(h:d.all digB=true):0<=UZ d∧UZ d<10 ^ d.length:=by
 have:=b8y d 0 0 (by decide) (by decide) h
 rw[Nat.zero_add]at this
 exact this
theorem d9c{s:List UInt8}(hd:s.all digB=true)(l:s.length<=10)(hs:s.length<=1048576):At P6 0 (Za Cn (Ze (XG ⟨s⟩))) CO 0 46 [(0,.pv (.str s)),(4,.pv (.int .i64 (UZ s))),(5,.pv (.int .i64 (s.length:Int)))] []:=by
 have k : ∀ b,QY s=b->XG ⟨s⟩=if b then(UZ s,true)else(0,false):=fun b h=>by unfold XG;rw[h]
 refine d2j s _ _ (Yi (WW (by omega)) (Yc (fun g=> ?_) fun g=> ?_))
 ·have g:s=[]:=g
  subst g
  exact Oa
 ·have g:s≠[]:=g
  have hp:0<s.length:=List.length_pos_iff.2 g
  have q:s.isEmpty=false:=by cases s with|nil=>exact absurd rfl g|cons _ _=>rfl
  have big : ∀ (b:Bool),(decide (s.head? = some 48)&&decide (1<s.length))=b->b=false->if decide (UZ s>2147483648)=true then Ze (XG ⟨s⟩) (.tup [.int .i64 0,.bool false])else Ze (XG ⟨s⟩) (.tup [.int .i64 (UZ s),.bool true]):=fun b hb i=>by
   refine Yu (fun h3=> ?_) fun h3=> ?_
   ·rw[k false (by unfold QY;rw[decide_eq_false (show ¬ UZ s<=2147483648 by omega),Bool.and_false])]
    exact Oa
   ·rw[k true (by unfold QY;rw[q,decide_eq_true l,hd,hb,i,decide_eq_true (show UZ s<=2147483648 by omega)];rfl)]
    exact Oa
  refine Yu (fun h1=>⟨by simp;omega,Yc (fun h2=> ?_) fun h2=> ?_⟩) fun h1=> ?_
  ·have j:s.head? = some 48:=by
    cases s with
    | nil=>exact absurd rfl g
    | cons c r=>
     have h2:(c.toNat:Int)=48:=h2
     have:c=48:=UInt8.toNat_inj.1 (by show c.toNat=48;omega)
     rw[this];rfl
   rw[k false (by unfold QY;rw[decide_eq_true j,decide_eq_true (show 1<s.length by omega)];simp)]
   exact Oa
  ·have j:s.head? ≠ some 48:=by
    cases s with
    | nil=>exact absurd rfl g
    | cons c r=>
     have h2:(c.toNat:Int)≠48:=h2
     intro e
     have e:c=48:=by simpa using e
     rw[e]at h2
     exact h2 rfl
   exact big _ rfl (by rw[decide_eq_false j];rfl)
  ·exact big _ rfl (by rw[decide_eq_false (show ¬ 1<s.length by omega),Bool.and_false])
theorem d0j(s:List UInt8)(hs:s.length<=1048576): ∀ (m i:Nat),i+m=s.length->i<=10->(s.take i).all digB=true->At P6 0 (Za Cn (Ze (XG ⟨s⟩))) CO 0 46 [(0,.pv (.str s)),(4,.pv (.int .i64 (UZ (s.take i)))),(5,.pv (.int .i64 (i:Int)))] []:=by
 intro m
 induction m with
 | zero=>
  intro i hi h hd
  have e:i=s.length:=by omega
  subst e
  rw[List.take_length]at hd ⊢
  exact d9c hd h hs
 | succ m ih=>
  intro i hi h hd
  have g:i<s.length:=by omega
  have q:s.getD (Int.toNat (i:Int)) 0=s[i]:=by rw[Int.toNat_natCast,List.getD_eq_getElem?_getD,List.getElem?_eq_getElem g];rfl
  refine d2j s _ i (Yd (Ws g) ⟨Ud g,?_⟩)
  rw[q]
  refine⟨Zn (s[i],()) rfl rfl,Zf (s[i],()) rfl (YO (fun h1=> ?_) fun h1=>Yu (fun h2=> ?_) fun h2=>⟨Ud g,?_⟩)⟩
  ·have h1:digB s[i]=false:=h1
   have k:QY s=false:=by
    have:s.all digB=false:=by
     rw[List.all_eq_false]
     exact⟨s[i],List.getElem_mem g,by rw[h1];decide⟩
    unfold QY
    rw[this];simp
   rw[show XG ⟨s⟩=(0,false) by unfold XG;rw[k];rfl]
   exact Oa
  ·have k:QY s=false:=by
    unfold QY
    rw[decide_eq_false (show ¬ s.length<=10 by omega)];simp
   rw[show XG ⟨s⟩=(0,false) by unfold XG;rw[k];rfl]
   exact Oa
  ·have h1:digB s[i]=true:=h1
   have l:(s.take (i+1)).all digB=true:=by
    rw[List.take_add_one,List.getElem?_eq_getElem g,List.all_append,hd]
    show(true&&(digB s[i]&&true))=true
    rw[h1];rfl
   have hn:=f7s _ hd
   have j:(s.take i).length=i:=by rw[List.length_take];omega
   rw[j]at hn
   have hp:(10:Int) ^ i<=10 ^ 10:=by
    have:(10:Nat) ^ i<=10 ^ 10:=Nat.pow_le_pow_right (by omega) h
    exact_mod_cast this
   have hp2:(10:Int) ^ 10=10000000000:=by decide
   have c1:48<=s[i].toNat:=by
    unfold digB at h1
    simp only[Bool.and_eq_true,decide_eq_true_eq]at h1
    exact h1.1
   have c2:s[i].toNat<=57:=by
    unfold digB at h1
    simp only[Bool.and_eq_true,decide_eq_true_eq]at h1
    exact h1.2
   have u:UZ (s.take (i+1))=10*UZ (s.take i)+((s[i].toNat:Int) - 48):=by
    rw[List.take_add_one,List.getElem?_eq_getElem g]
    show UZ (s.take i++[s[i]])=_
    unfold UZ
    rw[List.foldl_append]
    rfl
   have r:IntKind.wrap IntKind.u8 ((s[i].toNat:Int) - 48)=(s[i].toNat:Int) - 48:=by
    show((s[i].toNat:Int) - 48) % 256=_
    omega
   rw[r,XK (n:=(s[i].toNat:Int) - 48) (by omega) (by omega),XK (n:=10*UZ (s.take i)) (by omega) (by omega),XK (n:=10*UZ (s.take i)+((s[i].toNat:Int) - 48)) (by omega) (by omega),<- u,next (by omega)]
   exact ih (i+1) (by omega) (by omega) l
theorem e6m: ∀ a:Str×Unit,decide (a.1.s.length<=1048576)=true->Zm P6 0 (Za Cn (Ze (XG a.1))) CO [] (YI f6o (encL a)):=by
 rintro⟨⟨s⟩,⟨⟩⟩ h
 have hs:s.length<=1048576:=of_decide_eq_true h
 exact g5g s (d0j s hs s.length 0 (by omega) (by omega) rfl)
theorem b1v:Zo.length=28:=rfl
theorem f6d{i:Nat}(h:i<28):List.getD (List.map (enc:Str->PV) Hl) (0+Int.toNat (i:Int)) default = .str (Zo[i]'(by rw[b1v];exact h)):=by
 rw[Nat.zero_add,Int.toNat_natCast,List.getD_eq_getElem?_getD]
 unfold Hl
 rw[List.map_map,List.getElem?_map,List.getElem?_eq_getElem (by rw[b1v];exact h)]
 rfl
theorem d9f(s:List UInt8)(hs:s.length<=1048576): ∀ (m i:Nat),i+m=28->At LF 0 (Za A7 (Ze (Zk (Zo.drop i) s).2)) AQ 0 38 [(0,.pv (.str s)),(3,.row 0 28 0 28),(4,.pv (.int .i64 (i:Int)))] [.obj (.row false 9 1 (List.map enc Hl))]:=by
 intro m
 induction m with
 | zero=>
  intro i hi
  have e:i=28:=by omega
  subst e
  exact e0a s 28 (Yi (by decide) (Zz rfl))
 | succ m ih=>
  intro i hi
  have h:i<28:=by omega
  have l:i<Zo.length:=by rw[b1v];exact h
  have r:Zo.drop i=Zo[i]::Zo.drop (i+1):=List.drop_eq_getElem_cons l
  have j:(decide (0<=(i:Int))&&decide (0+Int.toNat (i:Int)<28)&&List.length (List.map (enc:Str->PV) Hl)==28)=true:=by
   rw[decide_eq_true (show(0:Int)<=(i:Int) by omega),decide_eq_true (show 0+Int.toNat (i:Int)<28 by omega)]
   rfl
  have k:(List.length (List.map (enc:Str->PV) Hl)==28&&decide (0+Int.toNat (i:Int)<List.length (List.map (enc:Str->PV) Hl)))=true:=by
   rw[decide_eq_true (show 0+Int.toNat (i:Int)<List.length (List.map (enc:Str->PV) Hl) by show 0+Int.toNat (i:Int)<28;omega)]
   rfl
  have g:=ih (i+1) (by omega)
  rw[r,Zk,e4k]
  refine e0a s i ?_
  rw[f6d h,next (by omega)]
  generalize Zo[i]=w
  refine Yd (by simp;omega) ⟨j,k,rfl,?_⟩
  have q:PV.asStr (List.getD (PV.cells (.str w)) 0 default)=w:=rfl
  rw[q]
  refine Yu (fun h1=>⟨j,k,rfl,by simp;omega,j,k,rfl,?_⟩) fun h1=> ?_
  ·rw[decide_eq_true (show w.length<=s.length by omega),Bool.true_and,Int.toNat_natCast,List.drop_zero]
   refine ZW (fun h2=> ?_) fun h2=> ?_
   ·rw[h2]
    exact⟨j,k,rfl,Zz rfl⟩
   ·rw[h2]
    exact g
  ·rw[decide_eq_false (show ¬ w.length<=s.length by omega),Bool.false_and]
   exact g
theorem e6g: ∀ a:Str×Unit,decide (a.1.s.length<=1048576)=true->Zm LF 0 (Za A7 (Ze (Zk Zo a.1.s).2)) AQ [] (YI f7w (encL a)):=by
 rintro⟨⟨s⟩,⟨⟩⟩ h
 exact g3p s (d9f s (of_decide_eq_true h) 28 0 rfl)
theorem J2{k:Int}{w:List UInt8}:Ze (⟨k,⟨w⟩,0,0⟩:Tok) (.agg [.int .i64 k,.str w,.int .i64 0,.int .i64 0]):=g0y ⟨k,⟨w⟩,0,0⟩
def a9t(w:List UInt8):Tok:=if VC.contains w then⟨2,⟨w⟩,0,0⟩else if nameI w then⟨1,⟨w⟩,0,0⟩else⟨0,⟨[]⟩,0,0⟩
def a8c(w:List UInt8):Tok:=if (XG ⟨w⟩).2 then⟨3,⟨w⟩,0,0⟩else⟨0,⟨[]⟩,0,0⟩
theorem g2v(s:List UInt8)(hs:s.length<=1048576)(R:Tok)(z:R=a9t (Yj ⟨s⟩ true).s): ∀ (m k:Nat),k+m=s.length->(∀ c∈s.take k,(digB c||(true&&lowB c))=true)->At J4 0 (Za U4 (Ze R)) Qd 0 80 [(0,.pv (.str s)),(2,.ptr 0 0),(3,.pv (.int .i64 (k:Int)))] [.obj (.box [.pv (.int .i64 0),.pv (.str []),.pv (.int .i64 0),.pv (.int .i64 0)])]:=by
 have leaf : ∀ k:Nat,k<=s.length->(∀ c∈s.take k,(digB c||(true&&lowB c))=true)->(k=s.length∨(digB (s.getD k 0)||(true&&lowB (s.getD k 0)))=false)->R=a9t (s.take k):=fun k q hc y=>by
  rw[z]
  congr 1
  exact(DY (p:=fun c=>digB c||(true&&lowB c)) q hc y).symm
 intro m
 induction m with
 | zero=>
  intro k q hc
  have e:k=s.length:=by omega
  have i:=leaf k (by omega) hc (Or.inl e)
  have g:(s.take k).length<=1048576:=by rw[List.length_take];omega
  refine d1b s k (Yi (WW (by omega)) ⟨VE (by omega),?_⟩)
  rw[a1s]
  unfold a9t at i
  generalize s.take k=w at i g
  subst i
  refine Zf ((⟨w⟩:Str),()) rfl (ZW (fun h1=>⟨VE (by omega),?_⟩) fun h1=>⟨VE (by omega),Zn ((⟨w⟩:Str),()) rfl (decide_eq_true g),Zf ((⟨w⟩:Str),()) rfl (ZW (fun h2=>⟨VE (by omega),?_⟩) fun h2=> ?_)⟩)
  ·rw[if_pos h1];exact J2
  ·have h1:VC.contains w=false:=h1
   have h2:nameI w=true:=h2
   rw[h1,h2];exact J2
  ·have h1:VC.contains w=false:=h1
   have h2:nameI w=false:=h2
   rw[h1,h2];exact J2
 | succ m ih=>
  intro k q hc
  have h:k<s.length:=by omega
  have u:s.getD (Int.toNat (k:Int)) 0=s[k]:=by rw[Int.toNat_natCast,List.getD_eq_getElem?_getD,List.getElem?_eq_getElem h];rfl
  have l:s.getD k 0=s[k]:=by rw[List.getD_eq_getElem?_getD,List.getElem?_eq_getElem h];rfl
  have go:(digB s[k]||(true&&lowB s[k]))=true->At J4 0 (Za U4 (Ze R)) Qd 0 80 [(0,.pv (.str s)),(2,.ptr 0 0),(3,.pv (.int .i64 (IntKind.i64.wrap ((k:Int)+1))))] [.obj (.box [.pv (.int .i64 0),.pv (.str []),.pv (.int .i64 0),.pv (.int .i64 0)])]:=fun r=>by
   rw[next (by omega)]
   refine ih (k+1) (by omega) fun c j=> ?_
   rw[List.take_add_one,List.getElem?_eq_getElem h]at j
   rcases List.mem_append.1 j with j|j
   ·exact hc c j
   ·obtain rfl:c=s[k]:=by simpa using j
    exact r
  refine d1b s k (Yd (Ws h) ⟨Ud h,?_⟩)
  rw[u]
  refine⟨Zn (s[k],()) rfl rfl,Zf (s[k],()) rfl (ZW (fun h1=> ?_) fun h1=>⟨Ud h,Zn (s[k],()) rfl rfl,Zf (s[k],()) rfl (ZW (fun h2=> ?_) fun h2=>⟨VE (by omega),?_⟩)⟩)⟩
  ·have h1:lowB s[k]=true:=h1
   exact go (by rw[h1];simp)
  ·have h2:digB s[k]=true:=h2
   exact go (by rw[h2];rfl)
  ·have h1:lowB s[k]=false:=h1
   have h2:digB s[k]=false:=h2
   have i:=leaf k (by omega) hc (Or.inr (by rw[l,h1,h2];rfl))
   have g:(s.take k).length<=1048576:=by rw[List.length_take];omega
   rw[a1s]
   unfold a9t at i
   generalize s.take k=w at i g
   subst i
   refine Zf ((⟨w⟩:Str),()) rfl (ZW (fun h1=>⟨VE (by omega),?_⟩) fun h1=>⟨VE (by omega),Zn ((⟨w⟩:Str),()) rfl (decide_eq_true g),Zf ((⟨w⟩:Str),()) rfl (ZW (fun h2=>⟨VE (by omega),?_⟩) fun h2=> ?_)⟩)
   ·rw[if_pos h1];exact J2
   ·have h1:VC.contains w=false:=h1
    have h2:nameI w=true:=h2
    rw[h1,h2];exact J2
   ·have h1:VC.contains w=false:=h1
    have h2:nameI w=false:=h2
    rw[h1,h2];exact J2
theorem g5o(s:List UInt8)(hs:s.length<=1048576)(R:Tok)(y:R=a8c (Yj ⟨s⟩ false).s): ∀ (m k:Nat),k+m=s.length->(∀ c∈s.take k,(digB c||(false&&lowB c))=true)->At J4 0 (Za U4 (Ze R)) Qd 1 80 [(0,.pv (.str s)),(2,.ptr 0 0),(3,.pv (.int .i64 (k:Int)))] [.obj (.box [.pv (.int .i64 0),.pv (.str []),.pv (.int .i64 0),.pv (.int .i64 0)])]:=by
 have leaf : ∀ k:Nat,k<=s.length->(∀ c∈s.take k,(digB c||(false&&lowB c))=true)->(k=s.length∨(digB (s.getD k 0)||(false&&lowB (s.getD k 0)))=false)->R=a8c (s.take k):=fun k q hc u=>by
  rw[y]
  congr 1
  exact(DY (p:=fun c=>digB c||(false&&lowB c)) q hc u).symm
 intro m
 induction m with
 | zero=>
  intro k q hc
  have e:k=s.length:=by omega
  have i:=leaf k (by omega) hc (Or.inl e)
  have g:(s.take k).length<=1048576:=by rw[List.length_take];omega
  refine d8v s k (Yi (WW (by omega)) ⟨VE (by omega),?_⟩)
  rw[a1s]
  unfold a8c at i
  generalize s.take k=w at i g
  subst i
  refine⟨Zn ((⟨w⟩:Str),()) rfl (decide_eq_true g),Zf ((⟨w⟩:Str),()) rfl (ZW (fun h2=>⟨VE (by omega),?_⟩) fun h2=> ?_)⟩
  ·have h2:(XG ⟨w⟩).2=true:=h2
   rw[h2];exact J2
  ·have h2:(XG ⟨w⟩).2=false:=h2
   rw[h2];exact J2
 | succ m ih=>
  intro k q hc
  have h:k<s.length:=by omega
  have r:s.getD (Int.toNat (k:Int)) 0=s[k]:=by rw[Int.toNat_natCast,List.getD_eq_getElem?_getD,List.getElem?_eq_getElem h];rfl
  have l:s.getD k 0=s[k]:=by rw[List.getD_eq_getElem?_getD,List.getElem?_eq_getElem h];rfl
  refine d8v s k (Yd (Ws h) ⟨Ud h,?_⟩)
  rw[r]
  refine⟨Zn (s[k],()) rfl rfl,Zf (s[k],()) rfl (ZW (fun h1=> ?_) fun h1=>⟨VE (by omega),?_⟩)⟩
  ·have h1:digB s[k]=true:=h1
   rw[next (by omega)]
   refine ih (k+1) (by omega) fun c j=> ?_
   rw[List.take_add_one,List.getElem?_eq_getElem h]at j
   rcases List.mem_append.1 j with j|j
   ·exact hc c j
   ·obtain rfl:c=s[k]:=by simpa using j
    rw[h1];rfl
  ·have h1:digB s[k]=false:=h1
   have i:=leaf k (by omega) hc (Or.inr (by rw[l,h1];rfl))
   have g:(s.take k).length<=1048576:=by rw[List.length_take];omega
   rw[a1s]
   unfold a8c at i
   generalize s.take k=w at i g
   subst i
   refine⟨Zn ((⟨w⟩:Str),()) rfl (decide_eq_true g),Zf ((⟨w⟩:Str),()) rfl (ZW (fun h2=>⟨VE (by omega),?_⟩) fun h2=> ?_)⟩
   ·have h2:(XG ⟨w⟩).2=true:=h2
    rw[h2];exact J2
   ·have h2:(XG ⟨w⟩).2=false:=h2
    rw[h2];exact J2
def nxT(s:Str):Tok:=⟨(Zc s).1,(Zc s).2,0,0⟩
theorem Rx: ∀ (l:List (List UInt8)) (s:List UInt8),(∀ w∈l,w≠[])->Zk l s=(0,⟨[]⟩)∨((Zk l s).1=4∧(Zk l s).2.s≠[])
 | [],s,_=>Or.inl rfl
 | x::l,s,h=>by
  rw[Zk]
  split
  ·exact Or.inr ⟨rfl,h x (List.mem_cons_self ..)⟩
  ·exact Rx l s fun w e=>h w (List.mem_cons_of_mem _ e)
theorem f1c: ∀ a:Str×Unit,(decide (a.1.s.length<=1048576)&& !a.1.s.isEmpty)=true->Zm J4 0 (Za U4 (Ze (nxT a.1))) Qd [] (YI f9n (encL a)):=by
 rintro⟨⟨s⟩,⟨⟩⟩ h
 obtain⟨hs,i⟩:s.length<=1048576∧s.isEmpty=false:=by simpa using h
 cases s with
 | nil=>cases i
 | cons c r=>
  have g:(decide ((0:Int)<=0)&&decide (Int.toNat 0<List.length (c::r)))=true:=by simp
  refine g4g (c::r) ⟨g,Zn (c,()) rfl rfl,Zf (c,()) rfl (ZW (fun h1=> ?_) fun h1=>⟨g,Zn (c,()) rfl rfl,Zf (c,()) rfl (ZW (fun h2=> ?_) fun h2=>⟨Zn ((⟨c::r⟩:Str),()) rfl (decide_eq_true hs),Zf ((⟨c::r⟩:Str),()) rfl (YO (fun h3=> ?_) fun h3=> ?_)⟩)⟩)⟩
  ·have h1:lowB c=true:=h1
   refine g2v (c::r) hs _ ?_ (c::r).length 0 (by omega) (by simp)
   show nxT ⟨c::r⟩=_
   unfold nxT Zc a9t
   dsimp only
   rw[if_pos h1]
   generalize (Yj ⟨c::r⟩ true)=w
   cases VC.contains w.s with
   | true=>rfl
   | false=>
    cases nameI w.s <;> rfl
  ·have h1:lowB c=false:=h1
   have h2:digB c=true:=h2
   refine g5o (c::r) hs _ ?_ (c::r).length 0 (by omega) (by simp)
   show nxT ⟨c::r⟩=_
   unfold nxT Zc a8c
   dsimp only
   rw[h1,h2,if_neg (by decide),if_pos rfl]
   generalize (Yj ⟨c::r⟩ false)=w
   cases (XG w).2 <;> rfl
  ·have h1:lowB c=false:=h1
   have h2:digB c=false:=h2
   have h3:((Zk Zo (c::r)).2.s==[])=false:=h3
   have e:nxT ⟨c::r⟩=⟨(Zk Zo (c::r)).1,(Zk Zo (c::r)).2,0,0⟩:=by
    unfold nxT Zc
    dsimp only
    rw[h1,h2,if_neg (by decide),if_neg (by decide)]
   rw[show nxT ((⟨c::r⟩:Str),()).1=nxT ⟨c::r⟩from rfl,e]
   rcases Rx Zo (c::r) (by decide)with q|q
   ·rw[q]at h3;cases h3
   ·rw[q.1];exact J2
  ·have h1:lowB c=false:=h1
   have h2:digB c=false:=h2
   have h3:((Zk Zo (c::r)).2.s==[])=true:=h3
   have e:nxT ⟨c::r⟩=⟨(Zk Zo (c::r)).1,(Zk Zo (c::r)).2,0,0⟩:=by
    unfold nxT Zc
    dsimp only
    rw[h1,h2,if_neg (by decide),if_neg (by decide)]
   rw[show nxT ((⟨c::r⟩:Str),()).1=nxT ⟨c::r⟩from rfl,e]
   rcases Rx Zo (c::r) (by decide)with q|q
   ·rw[q];exact J2
   ·exact absurd (by simpa using h3) q.2
theorem GH{c:UInt8}{n:Nat}(hn:n<256)(h:(c.toNat:Int)=(n:Int)):c=UInt8.ofNat n:=by
 refine UInt8.toNat_inj.1 ?_
 rw[UInt8.toNat_ofNat_of_lt' hn]
 omega
theorem c5o{f:Nat}{s:List UInt8}{i:Nat}(h:s.length<=i):ZR f s i=i:=by
 cases f with
 | zero=>rfl
 | succ f=>rw[ZR,if_pos h]
theorem d8r{f:Nat}{s:List UInt8}{i:Nat}(h:i<s.length)(hc:s.getD i 0=32∨s.getD i 0=9∨s.getD i 0=10):ZR (f+1) s i=ZR f s (i+1):=by rw[ZR,if_neg (by omega),if_pos hc]
theorem M0{f:Nat}{s:List UInt8}{i:Nat}(h:i<s.length)(hc : ¬ (s.getD i 0=32∨s.getD i 0=9∨s.getD i 0=10))(e:List.isPrefixOf [47,47] (s.drop i)=false):ZR (f+1) s i=i:=by rw[ZR,if_neg (by omega),if_neg hc,if_neg (by rw[e];decide)]
def CZ(f:Nat)(s:List UInt8)(j:Nat):Nat:=if Lib.indexByte (s.drop j) 10<0 then s.length else ZR f s (j+(Lib.indexByte (s.drop j) 10).toNat)
theorem c6c{f:Nat}{s:List UInt8}{i:Nat}(h:i<s.length)(hc : ¬ (s.getD i 0=32∨s.getD i 0=9∨s.getD i 0=10))(e:List.isPrefixOf [47,47] (s.drop i)=true):ZR (f+1) s i=CZ f s i:=by rw[ZR,if_neg (by omega),if_neg hc,if_pos e];rfl
theorem d4x{f:Nat}{s:List UInt8}{j:Nat}(h:s.length<=j):CZ f s j=s.length:=by
 unfold CZ
 rw[List.drop_eq_nil_of_le h,Lib.indexByte,if_pos (by decide)]
theorem e6u{f:Nat}{s:List UInt8}{j:Nat}(h:j<s.length)(hc:s[j]=10):CZ f s j=ZR f s j:=by
 unfold CZ
 have e:Lib.indexByte (s.drop j) 10=0:=by
  rw[List.drop_eq_getElem_cons h,Lib.indexByte,hc]
  rfl
 rw[e,if_neg (by decide)]
 rfl
theorem b8b{f:Nat}{s:List UInt8}{j:Nat}(h:j<s.length)(hc:s[j]≠10):CZ f s j=CZ f s (j+1):=by
 unfold CZ
 have e:Lib.indexByte (s.drop j) 10=if (Lib.indexByte (s.drop (j+1)) 10 == -1)=true then -1 else Lib.indexByte (s.drop (j+1)) 10+1:=by
  rw[List.drop_eq_getElem_cons h,Lib.indexByte,if_neg (by simpa using hc)]
 rw[e]
 have hb:=Bv 10 (s.drop (j+1))
 rcases hb with hb|hb
 ·rw[hb]
  rfl
 ·have hn : ¬ (Lib.indexByte (s.drop (j+1)) 10 == -1)=true:=by simp;omega
  rw[if_neg hn,if_neg (show ¬ Lib.indexByte (s.drop (j+1)) 10+1<0 by omega),if_neg (show ¬ Lib.indexByte (s.drop (j+1)) 10<0 by omega)]
  congr 1
  omega
theorem BS{s:List UInt8}{i:Nat}:List.isPrefixOf [47,47] (s.drop i)=(decide (i+1<s.length)&&(s.getD i 0==47&&s.getD (i+1) 0==47)):=by
 by_cases h1:i<s.length
 ·rw[List.drop_eq_getElem_cons h1]
  have g:s.getD i 0=s[i]:=by rw[List.getD_eq_getElem?_getD,List.getElem?_eq_getElem h1];rfl
  by_cases h2:i+1<s.length
  ·have e:s.getD (i+1) 0=s[i+1]:=by rw[List.getD_eq_getElem?_getD,List.getElem?_eq_getElem h2];rfl
   rw[List.drop_eq_getElem_cons h2,g,e,decide_eq_true h2,Bool.true_and]
   show(47==s[i]&&(47==s[i+1]&&true))=_
   rw[Bool.and_true,Bool.beq_comm (a:=(47:UInt8)) (b:=s[i]),Bool.beq_comm (a:=(47:UInt8)) (b:=s[i+1])]
  ·rw[List.drop_eq_nil_of_le (by omega),decide_eq_false h2,Bool.false_and]
   show(47==s[i]&&false)=false
   simp
 ·rw[List.drop_eq_nil_of_le (by omega),decide_eq_false (by omega)]
  rfl
theorem d9j(s:List UInt8)(hs:s.length<=1048576)(v:Int): ∀ (f:Nat),(∀ i:Nat,i<=s.length->s.length<i+f->At Us 0 (Za WH (Ze ((ZR f s i:Nat):Int))) WK 0 61 [(0,.pv (.str s)),(1,.pv (.int .i64 (i:Int)))] [])∧(∀ m j:Nat,j+m=s.length->s.length<j+f->At Us 0 (Za WH (Ze ((CZ f s j:Nat):Int))) WK 1 61 [(0,.pv (.str s)),(1,.pv (.int .i64 (j:Int)))] []):=by
 intro f
 have outer_end : ∀ R:Int,R=(s.length:Int)->At Us 0 (Za WH (Ze R)) WK 0 61 [(0,.pv (.str s)),(1,.pv (.int .i64 (s.length:Int)))] []:=fun R B=>d8w s v s.length (Yi (WW (by omega)) (YL B.symm))
 induction f with
 | zero=>
  refine⟨fun i hi h=>by omega,fun m=> ?_⟩
  intro j A h
  omega
 | succ f ih=>
  have k : ∀ i:Nat,i<=s.length->s.length<i+(f+1)->At Us 0 (Za WH (Ze ((ZR (f+1) s i:Nat):Int))) WK 0 61 [(0,.pv (.str s)),(1,.pv (.int .i64 (i:Int)))] []:=fun i hi h=>by
   by_cases g:i<s.length
   ·have y:s.getD (Int.toNat (i:Int)) 0=s.getD i 0:=by rw[Int.toNat_natCast]
    have go:(s.getD i 0=32∨s.getD i 0=9∨s.getD i 0=10)->At Us 0 (Za WH (Ze ((ZR (f+1) s i:Nat):Int))) WK 0 61 [(0,.pv (.str s)),(1,.pv (.int .i64 (IntKind.i64.wrap ((i:Int)+1))))] []:=fun hc=>by
     rw[next (by omega),d8r g hc]
     exact ih.1 (i+1) (by omega) (by omega)
    refine d8w s v i (Yd (Ws g) ⟨Ud g,?_⟩)
    rw[y]
    refine Yc (fun h1=>go (Or.inl (GH (n:=32) (by decide) h1))) fun h1=>⟨Ud g,Yc (fun h2=>go (Or.inr (Or.inl (GH (n:=9) (by decide) h2)))) fun h2=>⟨Ud g,Yc (fun h3=>go (Or.inr (Or.inr (GH (n:=10) (by decide) h3)))) fun h3=>⟨Ud g,?_⟩⟩⟩
    have hc : ¬ (s.getD i 0=32∨s.getD i 0=9∨s.getD i 0=10):=by
     rintro(q|q|q)
     ·rw[q]at h1;exact h1 rfl
     ·rw[q]at h2;exact h2 rfl
     ·rw[q]at h3;exact h3 rfl
    refine Yc (fun r=> ?_) fun r=> ?_
    ·have r:s.getD i 0=47:=GH (n:=47) (by omega) r
     rw[next (by omega)]
     by_cases h5:i+1<s.length
     ·refine Yd (Ws h5) ⟨Ud h5,Yc (fun l=> ?_) fun l=> ?_⟩
      ·rw[Int.toNat_natCast]at l
       have l:s.getD (i+1) 0=47:=GH (n:=47) (by omega) l
       rw[c6c g hc (by rw[BS,decide_eq_true h5,r,l];rfl)]
       -- the comment's first sign is no end of a line
       have C:s.getD i 0=s[i]:=by rw[List.getD_eq_getElem?_getD,List.getElem?_eq_getElem g];rfl
       have z:s[i]≠10:=by rw[<- C,r];decide
       rw[b8b g z]
       refine b2d s v i (Yd (Ws g) ⟨Ud g,AC (fun u=> ?_) fun u=> ?_⟩)
       ·rw[next (by omega)]
        exact ih.2 (s.length - (i+1)) (i+1) (by omega) (by omega)
       ·rw[Int.toNat_natCast,r]at u
        exact absurd (show(47:Int)=10 from u) (by decide)
      ·rw[Int.toNat_natCast]at l
       have l:s.getD (i+1) 0≠47:=fun e=>by rw[e]at l;exact l rfl
       rw[M0 g hc (by rw[BS,beq_false_of_ne l];simp)]
       exact YL rfl
     ·rw[M0 g hc (by rw[BS,decide_eq_false h5];rfl)]
      exact Yi (WW h5) (YL rfl)
    ·have r:s.getD i 0≠47:=fun e=>by rw[e]at r;exact r rfl
     rw[M0 g hc (by rw[BS,beq_false_of_ne r];simp)]
     exact YL rfl
   ·have e:i=s.length:=by omega
    subst e
    exact outer_end _ (by rw[c5o (Nat.le_refl _)])
  refine⟨k,?_⟩
  intro m
  induction m with
  | zero=>
   intro j A h
   have e:j=s.length:=by omega
   subst e
   refine b2d s v s.length (Yi (WW (by omega)) (outer_end _ ?_))
   rw[d4x (Nat.le_refl _)]
  | succ m ihm=>
   intro j A h
   have g:j<s.length:=by omega
   have y:s.getD (Int.toNat (j:Int)) 0=s[j]:=by rw[Int.toNat_natCast,List.getD_eq_getElem?_getD,List.getElem?_eq_getElem g];rfl
   refine b2d s v j (Yd (Ws g) ⟨Ud g,?_⟩)
   rw[y]
   refine AC (fun u=> ?_) fun u=> ?_
   ·rw[next (by omega),b8b g (fun e=>by rw[e]at u;exact u rfl)]
    exact ihm (j+1) (by omega) (by omega)
   ·rw[e6u g (GH (n:=10) (by omega) u)]
    exact k j (by omega) (by omega)
theorem e8o: ∀ a:Str×Int×Unit,(decide (a.1.s.length<=1048576)&&(decide (0<=a.2.1)&&decide (a.2.1<=a.1.s.length)))=true->Zm Us 0 (Za WH (Ze ((ZR (a.1.s.length+1) a.1.s a.2.1.toNat:Nat):Int))) WK [] (YI f7b (encL a)):=by
 rintro⟨⟨s⟩,v,⟨⟩⟩ h
 obtain⟨hs,h1,h2⟩:s.length<=1048576∧0<=v∧v<=s.length:=by simpa using h
 obtain⟨i,rfl⟩ : ∃ n:Nat,v=n:=⟨v.toNat,by omega⟩
 refine g5r s (i:Int) ?_
 show At Us 0 (Za WH (Ze ((ZR (s.length+1) s (Int.toNat (i:Int)):Nat):Int))) WK 0 61 _ _
 rw[Int.toNat_natCast]
 exact(d9j s hs i (s.length+1)).1 i (by omega) (by omega)
theorem c2b(s:List UInt8)(a b:Nat):Jv s a b<=b - a:=by
 unfold Jv
 refine Nat.le_trans List.count_le_length ?_
 rw[List.length_take]
 omega
theorem FH{l:List Tok}{a c:Int}{p:PV}(h:Ze l p):Ze (⟨l,a,c⟩:R3 (List Tok) Int Int) (.tup [p,.int .i64 a,.int .i64 c]):=by
 refine⟨?_,?_⟩
 ·show(is (List Tok) p&&true&&true)=true
  rw[h.1];rfl
 ·show(⟨dec p,a,c⟩:R3 (List Tok) Int Int)=_
  rw[h.2]
theorem d1i(o:List Tok)(k ln a:Int)(w:Str):List.map (enc:Tok->PV) o++List.drop 0 (List.take 1 [PV.agg [enc k,enc w,.int .i64 ln,.int .i64 a]])=(o++[(⟨k,w,ln,a⟩:Tok)]).map enc:=by rw[List.map_append];rfl
theorem f4r{s:List UInt8}(hs:s.length<=20000){a:Nat}(ha:a<s.length){t:Tok}{o:List Tok}{L:Nat}(u:L=o.length)(hL2:L<4000)(hk:t.t.s.length+a<=s.length){ln':Int}{F:PV->Prop}
  (K:At Vp 0 (Za XM F) XL 0 59 [(0,.pv (.str s)),(5,.row 0 (L+1) 0 (L+1)),(6,.pv (.int .i64 ln')),(7,.pv (.int .i64 (a:Int))),(8,.pv (.int .i64 ((ZR (s.length+1) s (a+t.t.s.length):Nat):Int)))] [.obj (.row false 62 4 ((o++[(⟨t.k,t.t,ln',(a:Int)⟩:Tok)]).map enc))]) :
  ∀ (m g:Nat) (ln:Int),g+m=a->0<=ln->ln<=1+g->ln'=ln+(Jv s g a:Nat) ->
  At Vp 0 (Za XM F) XL 1 59 [(0,.pv (.str s)),(5,.row 0 L 0 L),(6,.pv (.int .i64 ln)),(7,.pv (.int .i64 (g:Int))),(8,.pv (.int .i64 (a:Int))),(9,.ptr 1 0)] [.obj (.row false 62 4 (o.map enc)),.obj (.box [.pv (enc t.k),.pv (enc t.t),.pv (enc t.ln),.pv (enc t.o)])]:=by
 intro m
 induction m with
 | zero=>
  intro g ln h l h1 h2
  have e:g=a:=by omega
  subst e
  rw[a8y]at h2
  have q:ln'=ln:=by simpa using h2
  subst q
  refine b9x s ln' g g t o L (Yi (by simp) ⟨by simp[u];omega,?_⟩)
  have hb:=a2e (s:=s) (a:=g+t.t.s.length) (by omega)
  have y:IntKind.i64.wrap ((g:Int)+(t.t.s.length:Int))=((g+t.t.s.length:Nat):Int):=by rw[XK (by omega) (by omega)];omega
  rw[y,d1i]
  refine⟨Zn ((⟨s⟩:Str),((g+t.t.s.length:Nat):Int),()) rfl ?_,Zf ((⟨s⟩:Str),((g+t.t.s.length:Nat):Int),()) rfl ?_⟩
  ·show(decide (s.length<=1048576)&&(decide ((0:Int)<=((g+t.t.s.length:Nat):Int))&&decide (((g+t.t.s.length:Nat):Int)<=(s.length:Int))))=true
   rw[decide_eq_true (show s.length<=1048576 by omega),decide_eq_true (show(0:Int)<=((g+t.t.s.length:Nat):Int) by omega),decide_eq_true (show((g+t.t.s.length:Nat):Int)<=(s.length:Int) by omega)]
   rfl
  ·exact K
 | succ m ih=>
  intro g ln h l h1 h2
  have i:g<s.length:=by omega
  have r:s.getD (Int.toNat (g:Int)) 0=s[g]:=by rw[Int.toNat_natCast,List.getD_eq_getElem?_getD,List.getElem?_eq_getElem i];rfl
  have j:=a0z (s:=s) (a:=g) (b:=g+1) (c:=a) (by omega) (by omega)
  rw[b9h i]at j
  refine b9x s ln g a t o L (Yd (by simp;omega) ⟨Ud i,?_⟩)
  rw[r,next (by omega)]
  refine Yc (fun h3=> ?_) fun h3=> ?_
  ·rw[if_pos (show s[g]=10 from GH (n:=10) (by decide) h3)]at j
   rw[XK (by omega) (by omega)]
   exact ih (g+1) (ln+1) (by omega) (by omega) (by omega) (by rw[h2,j];push_cast;omega)
  ·rw[if_neg (fun e=>by rw[e]at h3;exact h3 rfl)]at j
   exact ih (g+1) ln (by omega) l (by omega) (by rw[h2,j,Nat.zero_add])
theorem f5a{s:List UInt8}(hs:s.length<=20000){a:Nat}(ha:a<s.length){t:Tok}(hk:t.t.s.length+a<=s.length){ln':Int}{F:PV->Prop}
  (K:At Vp 0 (Za XM F) XL 0 59 [(0,.pv (.str s)),(5,.row 0 1 0 1),(6,.pv (.int .i64 ln')),(7,.pv (.int .i64 (a:Int))),(8,.pv (.int .i64 ((ZR (s.length+1) s (a+t.t.s.length):Nat):Int)))] [.obj (.row false 62 4 ([(⟨t.k,t.t,ln',(a:Int)⟩:Tok)].map enc))]) :
  ∀ (m g:Nat) (ln:Int),g+m=a->0<=ln->ln<=1+g->ln'=ln+(Jv s g a:Nat) ->
  At Vp 0 (Za XM F) XL 1 59 [(0,.pv (.str s)),(5,.pv (.sl 0 true [])),(6,.pv (.int .i64 ln)),(7,.pv (.int .i64 (g:Int))),(8,.pv (.int .i64 (a:Int))),(9,.ptr 0 0)] [.obj (.box [.pv (enc t.k),.pv (enc t.t),.pv (enc t.ln),.pv (enc t.o)])]:=by
 intro m
 induction m with
 | zero=>
  intro g ln h l h1 h2
  have e:g=a:=by omega
  subst e
  rw[a8y]at h2
  have q:ln'=ln:=by simpa using h2
  subst q
  refine b7o s ln' g g t (Yi (by simp) ?_)
  have u:IntKind.i64.wrap ((g:Int)+(t.t.s.length:Int))=((g+t.t.s.length:Nat):Int):=by rw[XK (by omega) (by omega)];omega
  rw[u]
  refine⟨Zn ((⟨s⟩:Str),((g+t.t.s.length:Nat):Int),()) rfl ?_,Zf ((⟨s⟩:Str),((g+t.t.s.length:Nat):Int),()) rfl ?_⟩
  ·show(decide (s.length<=1048576)&&(decide ((0:Int)<=((g+t.t.s.length:Nat):Int))&&decide (((g+t.t.s.length:Nat):Int)<=(s.length:Int))))=true
   rw[decide_eq_true (show s.length<=1048576 by omega),decide_eq_true (show(0:Int)<=((g+t.t.s.length:Nat):Int) by omega),decide_eq_true (show((g+t.t.s.length:Nat):Int)<=(s.length:Int) by omega)]
   rfl
  ·exact K
 | succ m ih=>
  intro g ln h l h1 h2
  have i:g<s.length:=by omega
  have r:s.getD (Int.toNat (g:Int)) 0=s[g]:=by rw[Int.toNat_natCast,List.getD_eq_getElem?_getD,List.getElem?_eq_getElem i];rfl
  have j:=a0z (s:=s) (a:=g) (b:=g+1) (c:=a) (by omega) (by omega)
  rw[b9h i]at j
  refine b7o s ln g a t (Yd (by simp;omega) ⟨Ud i,?_⟩)
  rw[r,next (by omega)]
  refine Yc (fun h3=> ?_) fun h3=> ?_
  ·rw[if_pos (show s[g]=10 from GH (n:=10) (by decide) h3)]at j
   rw[XK (by omega) (by omega)]
   exact ih (g+1) (ln+1) (by omega) (by omega) (by omega) (by rw[h2,j];push_cast;omega)
  ·rw[if_neg (fun e=>by rw[e]at h3;exact h3 rfl)]at j
   exact ih (g+1) ln (by omega) l (by omega) (by rw[h2,j,Nat.zero_add])
theorem Nu{s:List UInt8}(h:(Zc ⟨s⟩).1≠0):0<(Zc ⟨s⟩).2.s.length:=by
 cases s with
 | nil=>exact absurd rfl h
 | cons c r=>
  unfold Zc at h ⊢
  dsimp only at h ⊢
  have run : ∀ b,(digB c||(b&&lowB c))=true->0<(Yj ⟨c::r⟩ b).s.length:=fun b hb=>by
   unfold Yj
   dsimp only
   rw[List.takeWhile_cons,if_pos hb]
   simp
  split
  ·rename_i h1
   rw[if_pos h1]at h
   have hr:=run true (by rw[h1];simp)
   split
   ·exact hr
   ·rename_i q
    rw[if_neg q]at h
    split
    ·exact hr
    ·rename_i e
     rw[if_neg e]at h
     exact absurd rfl h
  ·rename_i h1
   rw[if_neg h1]at h
   split
   ·rename_i h2
    rw[if_pos h2]at h
    have hr:=run false (by rw[h2];rfl)
    split
    ·exact hr
    ·rename_i q
     rw[if_neg q]at h
     exact absurd rfl h
   ·rename_i h2
    rw[if_neg h2]at h
    rcases Rx Zo (c::r) (by decide)with q|q
    ·rw[q]at h;exact absurd rfl h
    ·exact List.length_pos_iff.2 q.2
theorem f9a{s:List UInt8}(hs:s.length<=20000)(R:R3 (List Tok) Int Int): ∀ (f i g a:Nat) (ln:Int) (o:List Tok) (L:Nat),i<=s.length->g<=i->Jv s g i=0->a=ZR (s.length+1) s i->s.length<i+f->0<=ln->ln<=1+g->L=o.length->L<=4000->R=Dk f s i ln o ->
  At Vp 0 (Za XM (Ze R)) XL 0 59 [(0,.pv (.str s)),(5,.row 0 L 0 L),(6,.pv (.int .i64 ln)),(7,.pv (.int .i64 (g:Int))),(8,.pv (.int .i64 (a:Int)))] [.obj (.row false 62 4 (o.map enc))]:=by
 intro f
 induction f with
 | zero=>intro i g a ln o L hi _ _ _ h;omega
 | succ f ih=>
  intro i g a ln o L hi l hc ha hf u h1 k hL2 j
  have hb:=a2e hi
  rw[<- ha]at hb
  have r:=a0z (s:=s) l hb.1
  rw[hc,Nat.zero_add]at r
  rw[c9x hi ha,<- r]at j
  unfold e0l at j
  by_cases hlt:a<s.length
  ·have z:List.drop (Int.toNat (a:Int)) (List.take (List.length s) s)=s.drop a:=by rw[Int.toNat_natCast,List.take_length]
   have q:(s.drop a).isEmpty=false:=by
    cases e:s.drop a with
    | nil=>rw[List.drop_eq_nil_iff]at e;omega
    | cons _ _=>rfl
   rw[if_neg (by omega)]at j
   refine b9l s ln g a o L (Yd (Ws hlt) ⟨by simp;omega,?_⟩)
   rw[z]
   refine⟨Zn ((⟨s.drop a⟩:Str),()) rfl ?_,Zf ((⟨s.drop a⟩:Str),()) rfl (Yc (fun h2=> ?_) fun h2=>Yc (fun h3=> ?_) fun h3=> ?_)⟩
   ·show(decide ((s.drop a).length<=1048576)&& !(s.drop a).isEmpty)=true
    rw[q,decide_eq_true (show(s.drop a).length<=1048576 by rw[List.length_drop];omega)]
    rfl
   ·have h2:(Zc ⟨s.drop a⟩).1=0:=h2
    rw[if_pos h2]at j
    rw[j]
    exact FH Zl
   ·have h2:(Zc ⟨s.drop a⟩).1≠0:=h2
    have h3:o.length=4000:=by
     have h3:((L - 0:Nat):Int)=4000:=h3
     omega
    rw[if_neg h2,if_pos h3]at j
    rw[j]
    exact FH Zl
   ·have h2:(Zc ⟨s.drop a⟩).1≠0:=h2
    have h3:o.length≠4000:=by
     have h3 : ¬ ((L - 0:Nat):Int)=4000:=h3
     omega
    rw[if_neg h2,if_neg h3]at j
    have y:(Zc ⟨s.drop a⟩).2.s.length+a<=s.length:=by
     have:=Vz ⟨s.drop a⟩
     rw[List.length_drop]at this
     omega
    have hp:=Nu h2
    have hcl:=c2b s g a
    refine f4r hs hlt (t:=⟨(Zc ⟨s.drop a⟩).1,(Zc ⟨s.drop a⟩).2,0,0⟩) k (by omega) y (ln':=ln+(Jv s g a:Nat)) ?_ (a - g) g ln (by omega) u h1 rfl
    exact ih (a+(Zc ⟨s.drop a⟩).2.s.length) a _ _ _ _ (by omega) (by omega) c2u rfl (by omega) (by omega) (by omega) (by rw[k];simp) (by omega) j
  ·rw[if_pos (by omega)]at j
   refine b9l s ln g a o L (Yi (WW hlt) ⟨by simp[k],?_⟩)
   rw[j,VK o k]
   exact FH (VQ o rfl)
theorem e3f: ∀ a:Str×Unit,decide (a.1.s.length<=1048576)=true->Zm Vp 0 (Za XM (Ze (Yt a.1))) XL [] (YI d9i (encL a)):=by
 rintro⟨⟨s⟩,⟨⟩⟩ h
 have hs0:s.length<=1048576:=of_decide_eq_true h
 show Zm Vp 0 (Za XM (Ze (Yt ⟨s⟩))) XL [] (YI d9i [.str s])
 unfold Yt
 refine g3r s (Yu (fun h1=> ?_) fun h1=> ?_)
 ·rw[if_pos (show 20000<s.length by omega)]
  exact FH Zl
 ·rw[if_neg (show ¬ 20000<s.length by omega)]
  have hs:s.length<=20000:=by omega
  refine⟨Zn ((⟨s⟩:Str),(0:Int),()) rfl ?_,Zf ((⟨s⟩:Str),(0:Int),()) rfl ?_⟩
  ·show(decide (s.length<=1048576)&&(decide ((0:Int)<=0)&&decide ((0:Int)<=(s.length:Int))))=true
   rw[h,decide_eq_true (show(0:Int)<=(s.length:Int) by omega)]
   rfl
  ·show At Vp 0 (Za XM (Ze (Dk (s.length+1) s 0 1 []))) XL 0 59 [(0,.pv (.str s)),(5,.pv (.sl 0 true [])),(6,.pv (.int .i64 1)),(7,.pv (.int .i64 0)),(8,.pv (.int .i64 ((ZR (s.length+1) s 0:Nat):Int)))] []
   have hb:=a2e (s:=s) (a:=0) (Nat.zero_le _)
   rw[c9x (Nat.zero_le _) rfl]
   generalize ZR (s.length+1) s 0=a at hb ⊢
   by_cases hlt:a<s.length
   ·have j:List.drop (Int.toNat (a:Int)) (List.take (List.length s) s)=s.drop a:=by rw[Int.toNat_natCast,List.take_length]
    have g:(s.drop a).isEmpty=false:=by
     cases e:s.drop a with
     | nil=>rw[List.drop_eq_nil_iff]at e;omega
     | cons _ _=>rfl
    unfold e0l
    rw[if_neg (show ¬ a=s.length by omega)]
    refine b7u s 1 0 a (Yd (Ws hlt) ⟨by simp;omega,?_⟩)
    rw[j]
    refine⟨Zn ((⟨s.drop a⟩:Str),()) rfl ?_,Zf ((⟨s.drop a⟩:Str),()) rfl (Yc (fun h2=> ?_) fun h2=> ?_)⟩
    ·show(decide ((s.drop a).length<=1048576)&& !(s.drop a).isEmpty)=true
     rw[g,decide_eq_true (show(s.drop a).length<=1048576 by rw[List.length_drop];omega)]
     rfl
    ·have h2:(Zc ⟨s.drop a⟩).1=0:=h2
     rw[if_pos h2]
     exact FH Zl
    ·have h2:(Zc ⟨s.drop a⟩).1≠0:=h2
     rw[if_neg h2,if_neg (show ¬ ([]:List Tok).length=4000 by decide)]
     have i:(Zc ⟨s.drop a⟩).2.s.length+a<=s.length:=by
      have:=Vz ⟨s.drop a⟩
      rw[List.length_drop]at this
      omega
     have hp:=Nu h2
     have hcl:=c2b s 0 a
     refine f5a hs hlt (t:=⟨(Zc ⟨s.drop a⟩).1,(Zc ⟨s.drop a⟩).2,0,0⟩) i (ln':=1+(Jv s 0 a:Nat)) ?_ (a - 0) 0 1 (by omega) (by omega) (by omega) rfl
     exact f9a hs _ s.length (a+(Zc ⟨s.drop a⟩).2.s.length) a _ _ _ _ (by omega) (by omega) c2u rfl (by omega) (by omega) (by omega) rfl (by omega) rfl
   ·unfold e0l
    rw[if_pos (show a=s.length by omega)]
    exact b7u s 1 0 a (Yi (WW hlt) (FH Zl))
def RS.tok(s:RS)(k:Nat):Tok:=s.l.getD (s.i+k) ⟨0,⟨[]⟩,0,0⟩
end Go.Pl
namespace Go.Pl
open Go.RowKit
open Enc (enc dec is)
open EncL (encL decL isL)
end Go.Pl
namespace Go.Pl
open Go.RowKit
open Enc (enc dec is)
open EncL (encL decL isL)
theorem d1d{args:List AV}{os:List AObj}(h:SC args os=true): ∃ s:List UInt8,args=[.pv (.str s)]∧os=[]:=by
 unfold SC at h
 split at h
 ·exact⟨_,rfl,rfl⟩
 ·cases h
theorem e6z: ∀ args os,SC args os=true->Zm b8v os.length (Yf os.length a2w (fun r=>r=a3o args os)) Es [] (Z8 d8x args os):=fun args os h=>by
 obtain⟨s,rfl,rfl⟩:=d1d h
 exact e5w s
end Go.Pl
namespace Go.Pl
open Go.RowKit
theorem Ge.jimp: ∀ (f:Nat) {s:PS} {o:List Str},s.i<=s.l.length->Ge s (Go.Pl.impL f s o).2
 | 0,s,o,h=>Ge.refl h
 | f+1,s,o,h=>by
  rw[Go.Pl.impL]
  split
  ·have e:=Ge.step (Zh ‹_›)
   have g:=Ge.list (one:=PS.name) (fun s h=>Ge.name h) e.hi
   exact e.trans (g.trans (Ge.jimp f g.hi))
  ·exact Ge.refl h
theorem Ge.jexpo{s:PS}(h:s.i<=s.l.length):Ge s s.expo.2:=by
 unfold PS.expo
 split
 ·have e:=Ge.step (Zh ‹_›)
  exact e.trans (Ge.list (one:=PS.name) (fun s h=>Ge.name h) e.hi)
 ·exact Ge.refl h
def blB(c:UInt8):Bool:=c==32||(c==9||c==10)
def YX:Nat->List UInt8->Nat
 | 0,_=>0
 | f+1,r=>match r with
  | []=>0
  | c::u=>if blB c then YX f u+1
   else if List.isPrefixOf [47,47] (c::u)then(if Lib.indexByte (c::u) 10<0 then(c::u).length else(Lib.indexByte (c::u) 10).toNat+YX f ((c::u).drop (Lib.indexByte (c::u) 10).toNat))
   else 0
theorem a0q(c:UInt8):blB c=true ↔ c=32∨c=9∨c=10:=by
 unfold blB
 simp only[Bool.or_eq_true,beq_iff_eq]
theorem CR: ∀ (f:Nat) (s:List UInt8) (n:Nat),n<=s.length->ZR f s n=n+YX f (s.drop n)
 | 0,s,n,h=>rfl
 | f+1,s,n,h=>by
  rw[ZR]
  rcases Nat.lt_or_ge n s.length with h1|h1
  ·have e:s.drop n=s[n]::s.drop (n+1):=List.drop_eq_getElem_cons h1
   have g:s.getD n 0=s[n]:=by rw[List.getD_eq_getElem?_getD,List.getElem?_eq_getElem h1];rfl
   rw[if_neg (by omega),e,g,YX]
   by_cases hb:s[n]=32∨s[n]=9∨s[n]=10
   ·rw[if_pos hb,if_pos ((a0q _).2 hb),CR f s (n+1) h1]
    omega
   ·rw[if_neg hb,if_neg (fun k=>hb ((a0q _).1 k))]
    split
    ·rename_i hp
     rw[<- e]
     have i:=Bv 10 (s.drop n)
     rw[List.length_drop]at i
     split
     ·rename_i hi
      rw[List.length_drop]
      omega
     ·rename_i hi
      rw[CR f s _ (by omega),List.drop_drop]
      omega
    ·rfl
  ·rw[if_pos h1,List.drop_eq_nil_of_le h1]
   rfl
theorem d9y(r:List UInt8):(Uu ⟨r⟩).toNat=YX (r.length+1) r:=by
 unfold Uu
 rw[Int.toNat_natCast]
 have:=CR (r.length+1) r 0 (Nat.zero_le _)
 rw[this,List.drop_zero,Nat.zero_add]
theorem Qy: ∀ (f:Nat) (r:List UInt8),YX f r<=r.length:=fun f r=>by
 have h1:=CR f r 0 (Nat.zero_le _)
 have h2:=(KG f r 0 (Nat.zero_le _)).2
 rw[h1,List.drop_zero]at h2
 omega
def Wo:Nat->List UInt8->Nat->Int->List Tok->R3 (List Tok) Int Int
 | 0,r,i,ln,o=>⟨o,0,0⟩
 | f+1,r,i,ln,o=>
  let k:=YX (r.length+1) r
  let e:=ln+Lib.countByte (r.take k) 10
  if k=r.length then⟨o,0,0⟩
  else if (Zc ⟨r.drop k⟩).1=0 then⟨[],(i+k:Nat),6⟩
  else if o.length=4000 then⟨[],(i+k:Nat),3⟩
  else Wo f (r.drop (k+(Zc ⟨r.drop k⟩).2.s.length)) (i+k+(Zc ⟨r.drop k⟩).2.s.length) e (o++[⟨(Zc ⟨r.drop k⟩).1,(Zc ⟨r.drop k⟩).2,e,(i+k:Nat)⟩])
theorem c9y: ∀ (f:Nat) (s:List UInt8) (i:Nat) (ln:Int) (o:List Tok),i<=s.length->Dk f s i ln o=Wo f (s.drop i) i ln o
 | 0,s,i,ln,o,h=>rfl
 | f+1,s,i,ln,o,h=>by
  have hk:=Qy ((s.drop i).length+1) (s.drop i)
  rw[Dk,Wo,d9y,List.length_drop]at *
  generalize hk':YX (s.length - i+1) (s.drop i)=k at *
  rw[List.drop_drop,List.drop_drop]
  have e:(i+k=s.length)=(k=s.length - i):=propext ⟨fun _=>by omega,fun _=>by omega⟩
  simp only[e]
  split
  ·rfl
  ·split
   ·rfl
   ·split
    ·rfl
    ·have g:=Vz ⟨s.drop (i+k)⟩
     have g:(Zc ⟨s.drop (i+k)⟩).2.s.length<=(s.drop (i+k)).length:=g
     rw[List.length_drop]at g
     rw[c9y f s _ _ _ (by omega),Nat.add_assoc]
theorem Ew(s:List UInt8)(h:s.length<=20000):Yt ⟨s⟩=Wo (s.length+1) s 0 1 []:=by
 unfold Yt
 rw[if_neg (by show ¬ 20000<s.length;omega),c9y _ _ _ _ _ (Nat.zero_le _),List.drop_zero]
theorem d7l{p:UInt8->Bool}{w r0:List UInt8}(h:(w++r0).takeWhile p=w){c:UInt8}{r:List UInt8}(hc:p c=false):(w++c::r).takeWhile p=w:=by
 have ha : ∀ x∈w,p x=true:=by
  intro x e
  have h2:=List.all_takeWhile (p:=p) (l:=w++r0)
  rw[h]at h2
  exact List.all_eq_true.1 h2 x e
 rw[List.takeWhile_append_of_pos ha,List.takeWhile_cons,if_neg (by rw[hc];decide),List.append_nil]
theorem Rv{c:UInt8}: ∀ {x w r:List UInt8},c ∉ x->x <+: w++c::r->x <+: w
 | [],w,r,_,_=>List.nil_prefix
 | y::x,[],r,hc,h=>by
  rw[List.nil_append,List.cons_prefix_cons]at h
  exact absurd (by rw[h.1];simp) hc
 | y::x,a::w,r,hc,h=>by
  rw[List.cons_append,List.cons_prefix_cons]at h
  rw[List.cons_prefix_cons]
  exact⟨h.1,Rv (fun k=>hc (by simp[k])) h.2⟩
theorem a7x{c:UInt8}{k:Int}{w r0 r:List UInt8}(g:k≠0): ∀ (l:List (List UInt8)),(∀ x∈l,c ∉ x)->Zk l (w++r0)=(k,⟨w⟩)->Zk l (w++c::r)=(k,⟨w⟩)
 | [],_,h=>by
  have:(0:Int)=k:=congrArg Prod.fst h
  exact absurd this.symm g
 | x::l,hl,h=>by
  rw[Zk]at h ⊢
  split at h
  ·have e:x=w:=congrArg (fun q:Int×Str=>q.2.s) h
   rw[if_pos (by rw[List.isPrefixOf_iff_prefix,e];exact List.prefix_append _ _)]
   exact h
  ·rename_i hn
   rw[if_neg (fun q=>hn ?_)]
   ·exact a7x g l (fun y i=>hl y (by simp[i])) h
   ·rw[List.isPrefixOf_iff_prefix]at q ⊢
    exact(Rv (hl x (by simp)) q).trans (List.prefix_append _ _)
theorem a9j: ∀ (l:List (List UInt8)) {u:List UInt8} {k:Int} {w:List UInt8},k≠0->Zk l u=(k,⟨w⟩)->w∈l∧w <+: u
 | [],u,k,w,hk,h=>by
  have:(0:Int)=k:=congrArg Prod.fst h
  exact absurd this.symm hk
 | x::l,u,k,w,hk,h=>by
  rw[Zk]at h
  split at h
  ·rename_i g
   have e:x=w:=congrArg (fun q:Int×Str=>q.2.s) h
   rw[<- e]
   exact⟨by simp,List.isPrefixOf_iff_prefix.1 g⟩
  ·have:=a9j l hk h
   exact⟨by simp[this.1],this.2⟩
def f5i(c:UInt8):Prop:=c=10∨c=32
def e6o(R:Str):Int×Str:=if VC.contains R.s then(2,R)else if nameI R.s then(1,R)else(0,⟨[]⟩)
def e6k(R:Str):Int×Str:=if (XG R).2 then(3,R)else(0,⟨[]⟩)
theorem Bt(a:UInt8)(u:List UInt8):Zc ⟨a::u⟩=if lowB a then e6o (Yj ⟨a::u⟩ true)else if digB a then e6k (Yj ⟨a::u⟩ false)else Zk Zo (a::u):=rfl
theorem a4k{R w:Str}{k:Int}(e:k≠0)(h:e6o R=(k,w)):R=w:=by
 unfold e6o at h
 split at h
 ·exact congrArg Prod.snd h
 ·split at h
  ·exact congrArg Prod.snd h
  ·exact absurd (show(0:Int)=k from congrArg Prod.fst h).symm e
theorem a0u{R w:Str}{k:Int}(e:k≠0)(h:e6k R=(k,w)):R=w:=by
 unfold e6k at h
 split at h
 ·exact congrArg Prod.snd h
 ·exact absurd (show(0:Int)=k from congrArg Prod.fst h).symm e
theorem c4m{w r0:List UInt8}{k:Int}(i:w≠[])(g:k≠0)(h:Zc ⟨w++r0⟩=(k,⟨w⟩)){c:UInt8}(hc:f5i c)(r:List UInt8):Zc ⟨w++c::r⟩=(k,⟨w⟩):=by
 have hd : ∀ b:Bool,(digB c||(b&&lowB c))=false:=fun b=>by rcases hc with rfl|rfl <;> cases b <;> decide
 cases w with
 | nil=>exact absurd rfl i
 | cons a w=>
  have run : ∀ b:Bool,Yj ⟨a::(w++r0)⟩ b=⟨a::w⟩->Yj ⟨a::(w++c::r)⟩ b=⟨a::w⟩:=fun b e=>by
   have e:((a::w)++r0).takeWhile (fun c=>digB c||(b&&lowB c))=a::w:=congrArg Str.s e
   exact congrArg Str.mk (d7l e (hd b))
  rw[List.cons_append,Bt]at h ⊢
  by_cases q:lowB a=true
  ·rw[if_pos q]at h ⊢
   have e:=a4k g h
   rw[run true e]
   rw[e]at h
   exact h
  ·rw[if_neg q]at h ⊢
   by_cases q1:digB a=true
   ·rw[if_pos q1]at h ⊢
    have e:=a0u g h
    rw[run false e]
    rw[e]at h
    exact h
   ·rw[if_neg q1]at h ⊢
    refine a7x (w:=a::w) (r0:=r0) g Zo ?_ h
    rcases hc with rfl|rfl <;> decide
theorem LK{u:List UInt8}{k:Int}{w:List UInt8}(g:k≠0)(h:Zc ⟨u⟩=(k,⟨w⟩)):(∃ r0,u=w++r0)∧ ∃ a v,w=a::v∧(lowB a=true∨digB a=true∨w∈Zo):=by
 cases u with
 | nil=>
  have:(0:Int)=k:=congrArg Prod.fst h
  exact absurd this.symm g
 | cons a u=>
  have j : ∀ b:Bool,(digB a||(b&&lowB a))=true->Yj ⟨a::u⟩ b=⟨w⟩->(∃ r0,a::u=w++r0)∧ ∃ v,w=a::v:=fun b ha e=>by
   have e:(a::u).takeWhile (fun c=>digB c||(b&&lowB c))=w:=congrArg Str.s e
   refine⟨⟨(a::u).dropWhile (fun c=>digB c||(b&&lowB c)),?_⟩,?_⟩
   ·rw[<- e,List.takeWhile_append_dropWhile]
   ·rw[List.takeWhile_cons,if_pos ha]at e
    exact⟨_,e.symm⟩
  rw[Bt]at h
  by_cases q:lowB a=true
  ·rw[if_pos q]at h
   obtain⟨h1,v,h2⟩:=j true (by rw[q];simp) (a4k g h)
   exact⟨h1,a,v,h2,Or.inl q⟩
  ·rw[if_neg q]at h
   by_cases q1:digB a=true
   ·rw[if_pos q1]at h
    obtain⟨h1,v,h2⟩:=j false (by rw[q1];rfl) (a0u g h)
    exact⟨h1,a,v,h2,Or.inr (Or.inl q1)⟩
   ·rw[if_neg q1]at h
    obtain⟨h1,h2⟩:=a9j Zo g h
    have i : ∀ x∈Zo,x≠[]:=by decide
    cases w with
    | nil=>exact absurd rfl (i _ h1)
    | cons b v=>
     obtain⟨r0,hr⟩:=h2
     exact⟨⟨r0,hr.symm⟩,b,v,rfl,Or.inr (Or.inr h1)⟩
structure Gd (t:Tok):Prop where
 k:t.k≠0
 ne:t.t.s≠[]
 ft : ∀ c r,f5i c->Zc ⟨t.t.s++c::r⟩=(t.k,t.t)
 st : ∀ c r f,f5i c->YX f (t.t.s++c::r)=0
theorem Hq{a:UInt8}{u:List UInt8}(h1:blB a=false)(h2:List.isPrefixOf [47,47] (a::u)=false): ∀ f,YX f (a::u)=0
 | 0=>rfl
 | f+1=>by rw[YX,if_neg (by rw[h1];decide),if_neg (by rw[h2];decide)]
theorem d1c{a:UInt8}(h:lowB a=true∨digB a=true):blB a=false∧a≠47:=by
 have g:blB a=false ↔ a≠32∧a≠9∧a≠10:=by
  rw[<- Bool.not_eq_true,a0q]
  constructor
  ·intro h;exact⟨fun e=>h (Or.inl e),fun e=>h (Or.inr (Or.inl e)),fun e=>h (Or.inr (Or.inr e))⟩
  ·rintro⟨h1,h2,h3⟩ (e|e|e)
   ·exact h1 e
   ·exact h2 e
   ·exact h3 e
 rw[g]
 unfold lowB digB at h
 refine⟨⟨?_,?_,?_⟩,?_⟩ <;> (rintro rfl;rcases h with h|h <;> revert h <;> decide)
theorem KJ{u:List UInt8}{ln o:Int}(g:(Zc ⟨u⟩).1≠0):Gd ⟨(Zc ⟨u⟩).1,(Zc ⟨u⟩).2,ln,o⟩:=by
 obtain⟨⟨r0,hr⟩,a,v,hw,hc⟩:=LK (u:=u) (w:=(Zc ⟨u⟩).2.s) g rfl
 have ne:(Zc ⟨u⟩).2.s≠[]:=by rw[hw];simp
 refine⟨g,ne,fun c r h=> ?_,fun c r f h=> ?_⟩
 ·exact c4m (r0:=r0) ne g (by rw[<- hr]) h r
 ·show YX f ((Zc ⟨u⟩).2.s++c::r)=0
  rcases hc with hc|hc|hc
  ·obtain⟨h1,h2⟩:=d1c (Or.inl hc)
   rw[hw]
   refine Hq h1 ?_ f
   rw[List.isPrefixOf,show((47:UInt8)==a)=false from beq_eq_false_iff_ne.2 (Ne.symm h2)];rfl
  ·obtain⟨h1,h2⟩:=d1c (Or.inr hc)
   rw[hw]
   refine Hq h1 ?_ f
   rw[List.isPrefixOf,show((47:UInt8)==a)=false from beq_eq_false_iff_ne.2 (Ne.symm h2)];rfl
  ·generalize (Zc ⟨u⟩).2.s=w at *
   have hs : ∀ x∈Zo,∀ a v,x=a::v->blB a=false∧(a=47->v=[]):=by
    intro x i a v e
    subst e
    have : ∀ y∈Zo,(match y with|[]=>true|a::v=> !(blB a)&&(!(a==47)||v.isEmpty))=true:=by decide
    have:=this _ i
    simp only[Bool.and_eq_true,Bool.not_eq_true',Bool.or_eq_true,List.isEmpty_iff]at this
    exact⟨this.1,fun e=>this.2.resolve_left (by rw[e];decide)⟩
   obtain⟨h1,h2⟩:=hs w hc a v hw
   rw[hw]
   refine Hq h1 ?_ f
   by_cases ha:a=47
   ·rw[h2 ha,ha]
    rcases h with rfl|rfl <;> rfl
   ·rw[List.isPrefixOf,show((47:UInt8)==a)=false from beq_eq_false_iff_ne.2 (Ne.symm ha)];rfl
def ET(l:List Tok):Nat:=(l.map fun t=>t.t.s.length).sum
theorem a8k: ∀ (f:Nat) (r:List UInt8) (i:Nat) (ln:Int) (o:List Tok),(∀ t∈o,Gd t)->(∀ t∈(Wo f r i ln o).a,Gd t)∧ET (Wo f r i ln o).a<=ET o+r.length∧(∀ t∈(Wo f r i ln o).a,t∈o∨t.ln<=ln+r.length)
 | 0,r,i,ln,o,h=>⟨h,Nat.le_add_right _ _,fun t ht=>Or.inl ht⟩
 | f+1,r,i,ln,o,h=>by
  have hk:=Qy (r.length+1) r
  rw[Wo]
  generalize YX (r.length+1) r=k at *
  split
  ·exact⟨h,Nat.le_add_right _ _,fun t ht=>Or.inl ht⟩
  ·split
   ·exact⟨fun t ht=>(by cases ht),Nat.zero_le _,fun t ht=>(by cases ht)⟩
   ·rename_i h1 h2
    split
    ·exact⟨fun t ht=>(by cases ht),Nat.zero_le _,fun t ht=>(by cases ht)⟩
    ·have e:=Vz ⟨r.drop k⟩
     have e:(Zc ⟨r.drop k⟩).2.s.length<=(r.drop k).length:=e
     rw[List.length_drop]at e
     have hc:List.count 10 (r.take k)<=k:=Nat.le_trans List.count_le_length (by rw[List.length_take];omega)
     have hc:((Lib.countByte (r.take k) 10:Nat):Int)<=k:=by show((List.count 10 (r.take k):Nat):Int)<=k;omega
     have g:=a8k f (r.drop (k+(Zc ⟨r.drop k⟩).2.s.length)) (i+k+(Zc ⟨r.drop k⟩).2.s.length) (ln+Lib.countByte (r.take k) 10) (o++[⟨(Zc ⟨r.drop k⟩).1,(Zc ⟨r.drop k⟩).2,ln+Lib.countByte (r.take k) 10,(i+k:Nat)⟩]) (by
      intro t ht
      rcases List.mem_append.1 ht with ht|ht
      ·exact h t ht
      ·rw[List.mem_singleton]at ht
       subst ht
       exact KJ h2)
     obtain⟨j,q,l⟩:=g
     refine⟨j,?_,fun t ht=> ?_⟩
     ·refine Nat.le_trans q ?_
      unfold ET
      rw[List.map_append,List.sum_append,List.length_drop]
      simp only[List.map_cons,List.map_nil,List.sum_cons,List.sum_nil]
      omega
     ·rcases l t ht with h3|h3
      ·rcases List.mem_append.1 h3 with h3|h3
       ·exact Or.inl h3
       ·rw[List.mem_singleton]at h3
        subst h3
        right
        show ln+((Lib.countByte (r.take k) 10:Nat):Int)<=ln+r.length
        omega
      ·right
       rw[List.length_drop]at h3
       omega
theorem d0l(s:List UInt8):(∀ t∈(Yt ⟨s⟩).a,Gd t)∧ET (Yt ⟨s⟩).a<=s.length∧ ∀ t∈(Yt ⟨s⟩).a,t.ln<=1+s.length:=by
 by_cases h:s.length<=20000
 ·rw[Ew s h]
  obtain⟨h1,h2,h3⟩:=a8k (s.length+1) s 0 1 [] (fun t ht=>by cases ht)
  refine⟨h1,by simpa [ET]using h2,fun t ht=> ?_⟩
  rcases h3 t ht with h3|h3
  ·cases h3
  ·exact h3
 ·have e:Yt ⟨s⟩=⟨[],0,3⟩:=by unfold Yt;rw[if_pos (by show 20000<s.length;omega)]
  rw[e]
  exact⟨fun t ht=>(by cases ht),Nat.zero_le _,fun t ht=>(by cases ht)⟩
def spL(lead trail:List UInt8):List Tok->List UInt8
 | []=>[]
 | t::ts=>lead++(t.t.s++(trail++spL lead trail ts))
theorem d5m{lead trail:List UInt8}: ∀ (ts:List Tok),(∀ t∈ts,Gd t)->(spL lead trail ts).length<=ET ts*(1+lead.length+trail.length)∧ts.length<=ET ts
 | [],_=>⟨Nat.zero_le _,Nat.le_refl _⟩
 | t::ts,h=>by
  obtain⟨h1,h2⟩:=d5m (lead:=lead) (trail:=trail) ts (fun t ht=>h t (by simp[ht]))
  have g:0<t.t.s.length:=List.length_pos_iff.2 (h t (by simp)).ne
  have e:ET (t::ts)=t.t.s.length+ET ts:=rfl
  have i:t.t.s.length*(1+lead.length+trail.length)=t.t.s.length+t.t.s.length*(lead.length+trail.length):=by rw[Nat.add_assoc,Nat.mul_add,Nat.mul_one]
  have k:lead.length+trail.length<=t.t.s.length*(lead.length+trail.length):=Nat.le_mul_of_pos_left _ g
  refine⟨?_,by rw[e,List.length_cons];omega⟩
  rw[e,spL,List.length_append,List.length_append,List.length_append,Nat.add_mul,i]
  omega
theorem c6u{a:UInt8}{u:List UInt8}{f:Nat}(h:blB a=true):YX (f+1) (a::u)=YX f u+1:=by rw[YX,if_pos h]
theorem d0q(c:UInt8)(r:List UInt8): ∀ u:List UInt8,(0<=Lib.indexByte u c->Lib.indexByte (u++r) c=Lib.indexByte u c)∧(Lib.indexByte u c<0->Lib.indexByte (u++c::r) c=u.length)
 | []=>⟨fun h=>by rw[Lib.indexByte]at h;exact absurd h (by decide),fun _=>by rw[List.nil_append,Lib.indexByte,if_pos (beq_self_eq_true c)];rfl⟩
 | a::u=>by
  obtain⟨h1,h2⟩:=d0q c r u
  have hb:=Bv c u
  refine⟨fun h=> ?_,fun h=> ?_⟩
  ·rw[Lib.indexByte]at h
   rw[List.cons_append,Lib.indexByte,Lib.indexByte]
   split
   ·rfl
   ·rename_i q
    rw[if_neg q]at h
    have hn:0<=Lib.indexByte u c:=by
     split at h
     ·exact absurd h (by decide)
     ·rename_i e
      have e:Lib.indexByte u c ≠ -1:=by simpa using e
      omega
    rw[h1 hn]
  ·rw[Lib.indexByte]at h
   rw[List.cons_append,Lib.indexByte]
   split at h
   ·exact absurd h (by decide)
   ·rename_i q
    rw[if_neg q]
    have hn:Lib.indexByte u c<0:=by
     split at h
     ·rename_i e
      have e:Lib.indexByte u c = -1:=by simpa using e
      omega
     ·rename_i e
      have e:Lib.indexByte u c ≠ -1:=by simpa using e
      omega
    rw[h2 hn,if_neg (by simp),List.length_cons]
    rfl
theorem f1l{c:UInt8}{u:List UInt8}(e:List.isPrefixOf [47,47] (c::u)=true):c=47:=by
 rw[List.isPrefixOf,Bool.and_eq_true,beq_iff_eq]at e
 exact e.1.symm
theorem f9u{c:UInt8}{u:List UInt8}(e:List.isPrefixOf [47,47] (c::u)=true)(hi : ¬ Lib.indexByte (c::u) 10<0):0<(Lib.indexByte (c::u) 10).toNat∧(Lib.indexByte (c::u) 10).toNat<(c::u).length:=by
 have h1:=b3j (c:=10) (l:=c::u) (by rw[f1l e];exact(by decide:(47:UInt8)≠10)) (by simp) (by omega)
 have h2:=Bv 10 (c::u)
 omega
theorem a4w{p:UInt8->Bool}{c:UInt8}(hc:p c=false)(v:List UInt8): ∀ y:List UInt8,(y++c::v).takeWhile p=y.takeWhile p
 | []=>by rw[List.nil_append,List.takeWhile_cons,if_neg (by rw[hc];decide)];rfl
 | a::y=>by rw[List.cons_append,List.takeWhile_cons,List.takeWhile_cons,a4w hc v y]
def g7n(x y:Tok):Prop:=y.k=x.k∧y.t=x.t∧y.ln=x.ln
inductive FL:List Tok->List Tok->Prop where
 | nil:FL [] []
 | cons {x y:Tok} {a b:List Tok}:g7n x y->FL a b->FL (x::a) (y::b)
theorem a2q: ∀ (f:Nat) (u:List UInt8) (i j:Nat) (ln:Int) (p o:List Tok),u.length<f->p.length+u.length<4000->o.length+u.length<4000->(Wo f u i ln p).c=0-> ∃ T e,Wo f u i ln p=⟨p++T,0,0⟩∧Wo f u j ln o=⟨o++e,0,0⟩∧FL T e
 | 0,u,i,j,ln,p,o,h,_,_,_=>by omega
 | f+1,u,i,j,ln,p,o,h,hp,ho,hc=>by
  have hk:=Qy (u.length+1) u
  rw[Wo]at hc
  rw[Wo,Wo]
  generalize YX (u.length+1) u=k at *
  by_cases q:k=u.length
  ·rw[if_pos q,if_pos q]
   exact⟨[],[],by rw[List.append_nil],by rw[List.append_nil],.nil⟩
  ·rw[if_neg q]at hc ⊢
   rw[if_neg q]
   by_cases q1:(Zc ⟨u.drop k⟩).1=0
   ·rw[if_pos q1]at hc;exact absurd (show(6:Int)=0 from hc) (by decide)
   rw[if_neg q1]at hc ⊢
   rw[if_neg q1]
   rw[if_neg (show ¬ p.length=4000 by omega)]at hc ⊢
   rw[if_neg (show ¬ o.length=4000 by omega)]
   have g:=Vz ⟨u.drop k⟩
   have g:(Zc ⟨u.drop k⟩).2.s.length<=(u.drop k).length:=g
   rw[List.length_drop]at g
   have hpos:0<(Zc ⟨u.drop k⟩).2.s.length:=List.length_pos_iff.2 (KJ (ln:=0) (o:=0) q1).ne
   obtain⟨T,e,r,l,F⟩:=a2q f (u.drop (k+(Zc ⟨u.drop k⟩).2.s.length)) (i+k+(Zc ⟨u.drop k⟩).2.s.length) (j+k+(Zc ⟨u.drop k⟩).2.s.length) (ln+Lib.countByte (u.take k) 10)
    (p++[⟨(Zc ⟨u.drop k⟩).1,(Zc ⟨u.drop k⟩).2,ln+Lib.countByte (u.take k) 10,(i+k:Nat)⟩]) (o++[⟨(Zc ⟨u.drop k⟩).1,(Zc ⟨u.drop k⟩).2,ln+Lib.countByte (u.take k) 10,(j+k:Nat)⟩])
    (by rw[List.length_drop];omega) (by rw[List.length_append,List.length_drop];simp only[List.length_cons,List.length_nil];omega) (by rw[List.length_append,List.length_drop];simp only[List.length_cons,List.length_nil];omega) hc
   rw[r,l,List.append_assoc,List.append_assoc]
   exact⟨_,_,rfl,rfl,.cons ⟨rfl,rfl,rfl⟩ F⟩
theorem c9s(f:Nat)(r:List UInt8)(i:Nat)(ln:Int)(o:List Tok):Wo f (32::r) i ln o=Wo f r (i+1) ln o:=by
 cases f with
 | zero=>rfl
 | succ f=>
  have e:YX ((32::r).length+1) (32::r)=YX (r.length+1) r+1:=c6u rfl
  rw[Wo,Wo,e]
  generalize YX (r.length+1) r=k
  have hd : ∀ n,(32::r).drop (k+1+n)=r.drop (k+n):=fun n=>by rw[show k+1+n=(k+n)+1 by omega];rfl
  have hc:Lib.countByte ((32::r).take (k+1)) 10=Lib.countByte (r.take k) 10:=by
   show List.count 10 (32::r.take k)=List.count 10 (r.take k)
   rw[List.count_cons_of_ne (by decide)]
  have h:(k+1=(32::r).length)=(k=r.length):=propext (by rw[List.length_cons];omega)
  have hi:i+(k+1)=i+1+k:=by omega
  have g:(32::r).drop (k+1)=r.drop k:=rfl
  simp only[hd,hc,h,hi,g]
theorem b7r(c:UInt8): ∀ (r:List UInt8) (y:Nat),0<=Lib.indexByte r c->Lib.indexByte r c<y->Lib.indexByte (r.take y) c=Lib.indexByte r c
 | [],y,h,_=>by rw[Lib.indexByte]at h;exact absurd h (by decide)
 | a::r,0,h,h2=>by omega
 | a::r,y+1,h,h2=>by
  rw[List.take_succ_cons,Lib.indexByte,Lib.indexByte]
  rw[Lib.indexByte]at h h2
  split
  ·rfl
  ·rename_i q
   rw[if_neg q]at h h2
   have hn:0<=Lib.indexByte r c∧Lib.indexByte r c<y:=by
    split at h
    ·exact absurd h (by decide)
    ·rename_i e
     rw[if_neg e]at h2
     have e:Lib.indexByte r c ≠ -1:=by simpa using e
     have:=Bv c r
     omega
   rw[b7r c r y hn.1 hn.2]
theorem HZ(v:List UInt8): ∀ (f F:Nat) (r:List UInt8) (y:Nat),r.length<f->y<=r.length->(r.take y++32::v).length<F->YX f r<y->YX F (r.take y++32::v)=YX f r
 | 0,_,r,y,h,_,_,_=>by omega
 | _+1,0,r,y,_,_,h,_=>by omega
 | f+1,F+1,[],y,_,hy,_,h=>by simp at hy;omega
 | f+1,F+1,c::u,0,_,_,_,h=>by omega
 | f+1,F+1,c::u,y+1,h1,hy,h2,h=>by
  rw[List.length_cons]at h1 hy
  rw[List.take_succ_cons,List.cons_append]at h2 ⊢
  have k:(u.take y++32::v).length<F:=by rw[List.length_cons]at h2;omega
  rw[YX]at h ⊢
  rw[YX]
  by_cases q:blB c=true
  ·rw[if_pos q]at h ⊢
   rw[if_pos q,HZ v f F u y (by omega) (by omega) k (by omega)]
  ·rw[if_neg q]at h ⊢
   rw[if_neg q]
   have i:List.isPrefixOf [47,47] (c::(u.take y++32::v))=true->List.isPrefixOf [47,47] (c::u)=true:=fun g=>by
    rw[List.isPrefixOf_iff_prefix,<- List.cons_append]at g
    rw[List.isPrefixOf_iff_prefix]
    have h3:=Rv (by decide) g
    rw[<- List.take_succ_cons]at h3
    exact h3.trans (List.take_prefix _ _)
   by_cases g:List.isPrefixOf [47,47] (c::u)=true
   ·rw[if_pos g]at h ⊢
    by_cases hi:Lib.indexByte (c::u) 10<0
    ·rw[if_pos hi]at h
     rw[List.length_cons]at h
     omega
    ·rw[if_neg hi]at h ⊢
     obtain⟨C,p2⟩:=f9u g hi
     have A:c::(u.take y++32::v)=(c::u).take (y+1)++32::v:=by rw[List.take_succ_cons,List.cons_append]
     have s:=b7r 10 (c::u) (y+1) (by omega) (by omega)
     have ha:=(d0q 10 (32::v) ((c::u).take (y+1))).1 (by rw[s];omega)
     have l:List.isPrefixOf [47,47] ((c::u).take (y+1)++32::v)=true:=by
      rw[List.isPrefixOf_iff_prefix]at g ⊢
      have z:2<=y+1:=by
       have:0<(Lib.indexByte (c::u) 10).toNat:=C
       omega
      have B:[47,47] <+: (c::u).take (y+1):=List.prefix_take_iff.2 ⟨g,z⟩
      exact B.trans (List.prefix_append _ _)
     rw[A,if_pos l,ha,s,if_neg hi]
     generalize (Lib.indexByte (c::u) 10).toNat=j at *
     have hd:((c::u).take (y+1)++32::v).drop j=((c::u).drop j).take (y+1 - j)++32::v:=by
      rw[List.drop_append_of_le_length (by rw[List.length_take,List.length_cons];omega),List.drop_take]
     rw[hd,HZ v f F ((c::u).drop j) (y+1 - j) (by rw[List.length_drop,List.length_cons];omega) (by rw[List.length_drop,List.length_cons];omega) (by
      rw[List.length_append,List.length_take,List.length_drop,List.length_cons]at *
      rw[List.length_cons]at *
      omega) (by omega)]
   ·rw[if_neg g]at h ⊢
    rw[if_neg (fun e=>g (i e))]
theorem b9r{p:UInt8->Bool}: ∀ (u:List UInt8) (m:Nat),(u.take m).takeWhile p=(u.takeWhile p).take m
 | [],m=>by simp
 | a::u,0=>rfl
 | a::u,m+1=>by
  rw[List.take_succ_cons,List.takeWhile_cons,List.takeWhile_cons]
  split
  ·rw[List.take_succ_cons,b9r u m]
  ·rfl
theorem Ov(v:List UInt8){m:Nat}: ∀ (l:List (List UInt8)) (u:List UInt8),(∀ x∈l,(32:UInt8) ∉ x)->(Zk l u).1≠0->(Zk l u).2.s.length<=m->Zk l (u.take m++32::v)=Zk l u
 | [],u,_,h,_=>absurd rfl h
 | x::l,u,hl,h,hm=>by
  rw[Zk]at h hm ⊢
  rw[Zk]
  by_cases q:x.isPrefixOf u=true
  ·rw[if_pos q]at h hm ⊢
   have i:x.isPrefixOf (u.take m++32::v)=true:=by
    rw[List.isPrefixOf_iff_prefix]at q ⊢
    exact(List.prefix_take_iff.2 ⟨q,hm⟩).trans (List.prefix_append _ _)
   rw[if_pos i]
  ·rw[if_neg q]at h hm ⊢
   rw[if_neg (fun e=>q ?_)]
   ·exact Ov v l u (fun y g=>hl y (by simp[g])) h hm
   ·rw[List.isPrefixOf_iff_prefix]at e ⊢
    exact(Rv (hl x (by simp)) e).trans (List.take_prefix _ _)
theorem b2l(v:List UInt8){u:List UInt8}{m:Nat}(g:(Zc ⟨u⟩).1≠0)(hm:(Zc ⟨u⟩).2.s.length<=m):Zc ⟨u.take m++32::v⟩=Zc ⟨u⟩:=by
 cases u with
 | nil=>exact absurd rfl g
 | cons a u=>
  have hpos:0<(Zc ⟨a::u⟩).2.s.length:=List.length_pos_iff.2 (KJ (ln:=0) (o:=0) g).ne
  obtain⟨m,rfl⟩ : ∃ n,m=n+1:=⟨m - 1,by omega⟩
  have run : ∀ b:Bool,(Yj ⟨a::u⟩ b).s.length<=m+1->Yj ⟨a::(u.take m++32::v)⟩ b=Yj ⟨a::u⟩ b:=fun b h=>by
   have h:((a::u).takeWhile (fun c=>digB c||(b&&lowB c))).length<=m+1:=h
   refine congrArg Str.mk ?_
   have e:=a4w (p:=fun c=>digB c||(b&&lowB c)) (c:=32) (by cases b <;> decide) v ((a::u).take (m+1))
   rw[List.take_succ_cons,List.cons_append]at e
   rw[e,<- List.take_succ_cons,b9r,List.take_of_length_le h]
  rw[List.take_succ_cons,List.cons_append,Bt,Bt]
  rw[Bt]at g hm
  by_cases q:lowB a=true
  ·rw[if_pos q]at g hm ⊢
   have e:Yj ⟨a::u⟩ true=(e6o (Yj ⟨a::u⟩ true)).2:=a4k (R:=Yj ⟨a::u⟩ true) g rfl
   rw[if_pos q,run true (by rw[e];exact hm)]
  ·rw[if_neg q]at g hm ⊢
   rw[if_neg q]
   by_cases q1:digB a=true
   ·rw[if_pos q1]at g hm ⊢
    have e:Yj ⟨a::u⟩ false=(e6k (Yj ⟨a::u⟩ false)).2:=a0u (R:=Yj ⟨a::u⟩ false) g rfl
    rw[if_pos q1,run false (by rw[e];exact hm)]
   ·rw[if_neg q1]at g hm ⊢
    rw[if_neg q1,<- List.cons_append,<- List.take_succ_cons]
    exact Ov v Zo (a::u) (by decide) g hm
theorem MU{f:Nat}{r:List UInt8}{i:Nat}{ln:Int}{o T:List Tok}(h1:r.length<f+1)(ho:o.length+r.length<4000)(e:Wo (f+1) r i ln o=⟨o++T,0,0⟩):
  T=[] ∨ ∃ k g,k=YX (r.length+1) r∧k<r.length∧(Zc ⟨r.drop k⟩).1≠0∧0<(Zc ⟨r.drop k⟩).2.s.length∧k+(Zc ⟨r.drop k⟩).2.s.length<=r.length ∧
   T=⟨(Zc ⟨r.drop k⟩).1,(Zc ⟨r.drop k⟩).2,ln+Lib.countByte (r.take k) 10,(i+k:Nat)⟩::g ∧
   Wo f (r.drop (k+(Zc ⟨r.drop k⟩).2.s.length)) (i+k+(Zc ⟨r.drop k⟩).2.s.length) (ln+Lib.countByte (r.take k) 10) (o++[⟨(Zc ⟨r.drop k⟩).1,(Zc ⟨r.drop k⟩).2,ln+Lib.countByte (r.take k) 10,(i+k:Nat)⟩])=⟨(o++[⟨(Zc ⟨r.drop k⟩).1,(Zc ⟨r.drop k⟩).2,ln+Lib.countByte (r.take k) 10,(i+k:Nat)⟩])++g,0,0⟩:=by
 have hk:=Qy (r.length+1) r
 rw[Wo]at e
 generalize hkk:YX (r.length+1) r=k at *
 by_cases q:k=r.length
 ·rw[if_pos q]at e
  have:o=o++T:=congrArg R3.a e
  left
  simpa using this.symm
 rw[if_neg q]at e
 by_cases j:(Zc ⟨r.drop k⟩).1=0
 ·rw[if_pos j]at e
  exact absurd (show(6:Int)=0 from congrArg R3.c e) (by decide)
 rw[if_neg j,if_neg (show ¬ o.length=4000 by omega)]at e
 have l:=Vz ⟨r.drop k⟩
 have l:(Zc ⟨r.drop k⟩).2.s.length<=(r.drop k).length:=l
 rw[List.length_drop]at l
 have h:0<(Zc ⟨r.drop k⟩).2.s.length:=List.length_pos_iff.2 (KJ (ln:=0) (o:=0) j).ne
 have u:(r.drop (k+(Zc ⟨r.drop k⟩).2.s.length)).length<f:=by rw[List.length_drop];omega
 obtain⟨g,_,y,_,_⟩:=a2q f (r.drop (k+(Zc ⟨r.drop k⟩).2.s.length)) (i+k+(Zc ⟨r.drop k⟩).2.s.length) 0 (ln+Lib.countByte (r.take k) 10)
  (o++[⟨(Zc ⟨r.drop k⟩).1,(Zc ⟨r.drop k⟩).2,ln+Lib.countByte (r.take k) 10,(i+k:Nat)⟩]) (o++[⟨(Zc ⟨r.drop k⟩).1,(Zc ⟨r.drop k⟩).2,ln+Lib.countByte (r.take k) 10,(i+k:Nat)⟩]) u (by rw[List.length_append,List.length_drop];simp only[List.length_cons,List.length_nil];omega) (by rw[List.length_append,List.length_drop];simp only[List.length_cons,List.length_nil];omega) (by rw[e])
 refine Or.inr ⟨k,g,rfl,by omega,j,h,by omega,?_,y⟩
 rw[y]at e
 have h2:=congrArg R3.a e
 have h2:(o++[(⟨(Zc ⟨r.drop k⟩).1,(Zc ⟨r.drop k⟩).2,ln+Lib.countByte (r.take k) 10,(i+k:Nat)⟩:Tok)])++g=o++T:=h2
 rw[List.append_assoc]at h2
 exact(List.append_cancel_left h2).symm
theorem BQ: ∀ (f:Nat) (r:List UInt8) (i:Nat) (ln:Int) (o T:List Tok),r.length<f->o.length+r.length<4000->Wo f r i ln o=⟨o++T,0,0⟩->T.Pairwise (fun a b=>a.o<b.o)∧ ∀ t∈T,(i:Int)<=t.o∧t.o+t.t.s.length<=i+r.length
 | 0,r,i,ln,o,T,h,_,_=>by omega
 | f+1,r,i,ln,o,T,h,ho,hl=>by
  rcases MU h ho hl with e|⟨k,T2,_,hk,h1,h2,h3,e,g⟩
  ·subst e
   exact⟨.nil,fun t ht=>by cases ht⟩
  ·obtain⟨l,j⟩:=BQ f _ _ _ _ T2 (by rw[List.length_drop];omega) (by rw[List.length_append,List.length_drop];simp only[List.length_cons,List.length_nil];omega) g
   rw[e]
   refine⟨.cons (fun b hb=> ?_) l,fun t ht=> ?_⟩
   ·have:=(j b hb).1
    show((i+k:Nat):Int)<b.o
    omega
   ·rcases List.mem_cons.1 ht with rfl|ht
    ·refine⟨?_,?_⟩
     ·show(i:Int)<=((i+k:Nat):Int);omega
     ·show((i+k:Nat):Int)+((Zc ⟨r.drop k⟩).2.s.length:Int)<=i+r.length;omega
    ·have:=j t ht
     rw[List.length_drop]at this
     omega
theorem LW(v:List UInt8): ∀ (f F:Nat) (r:List UInt8) (i:Nat) (ln:Int) (o T:List Tok) (j:Nat),r.length<f->o.length+r.length<4000->Wo f r i ln o=⟨o++T,0,0⟩->(A:j<T.length)-> ∀ y:Nat,T[j].o+T[j].t.s.length=(i:Int)+y->(r.take y++32::v).length<F->y<=r.length ->
  ∃ B ln',v.length<B∧Wo F (r.take y++32::v) i ln o=Wo B (32::v) (i+y) ln' (o++T.take (j+1))
 | 0,_,r,i,ln,o,T,j,h,_,_,_,_,_,_,_=>by omega
 | _+1,0,r,i,ln,o,T,j,_,_,_,_,y,_,h,_=>by omega
 | f+1,F+1,r,i,ln,o,T,j,h1,ho,hl,A,y,g,h2,hyr=>by
  rcases MU h1 ho hl with e|⟨k,T2,C,hk,H,hpos,h3,e,z⟩
  ·subst e;exact absurd A (Nat.not_lt_zero _)
  have q:(o++[(⟨(Zc ⟨r.drop k⟩).1,(Zc ⟨r.drop k⟩).2,ln+Lib.countByte (r.take k) 10,(i+k:Nat)⟩:Tok)]).length+(r.drop (k+(Zc ⟨r.drop k⟩).2.s.length)).length<4000:=by rw[List.length_append,List.length_drop];simp only[List.length_cons,List.length_nil];omega
  have off:=(BQ f _ _ _ _ T2 (by rw[List.length_drop];omega) q z).2
  subst e
  have hky:k+(Zc ⟨r.drop k⟩).2.s.length<=y:=by
   cases j with
   | zero=>
    have g:((i+k:Nat):Int)+((Zc ⟨r.drop k⟩).2.s.length:Int)=(i:Int)+y:=g
    omega
   | succ j=>
    have l:j<T2.length:=Nat.lt_of_succ_lt_succ A
    have g:T2[j].o+T2[j].t.s.length=(i:Int)+y:=g
    have:=(off _ (List.getElem_mem l)).1
    omega
  have ey:(r.take y++32::v).length=y+(v.length+1):=by rw[List.length_append,List.length_take,List.length_cons];omega
  have b:=HZ v (r.length+1) ((r.take y++32::v).length+1) r y (by omega) hyr (by omega) (by omega)
  rw[<- C]at b
  have M:(r.take y++32::v).drop k=(r.drop k).take (y - k)++32::v:=by
   rw[List.drop_append_of_le_length (by rw[List.length_take];omega),List.drop_take]
  have I:(r.take y++32::v).drop (k+(Zc ⟨r.drop k⟩).2.s.length)=(r.drop (k+(Zc ⟨r.drop k⟩).2.s.length)).take (y - (k+(Zc ⟨r.drop k⟩).2.s.length))++32::v:=by
   rw[List.drop_append_of_le_length (by rw[List.length_take];omega),List.drop_take]
  have L:(r.take y++32::v).take k=r.take k:=by
   rw[List.take_append_of_le_length (by rw[List.length_take];omega),List.take_take,Nat.min_eq_left (by omega)]
  have E:=b2l v (u:=r.drop k) (m:=y - k) H (by omega)
  have step:Wo (F+1) (r.take y++32::v) i ln o=Wo F ((r.drop (k+(Zc ⟨r.drop k⟩).2.s.length)).take (y - (k+(Zc ⟨r.drop k⟩).2.s.length))++32::v) (i+k+(Zc ⟨r.drop k⟩).2.s.length) (ln+Lib.countByte (r.take k) 10) (o++[⟨(Zc ⟨r.drop k⟩).1,(Zc ⟨r.drop k⟩).2,ln+Lib.countByte (r.take k) 10,(i+k:Nat)⟩]):=by
   rw[Wo,b,M,E,I,L,if_neg (by omega),if_neg H,if_neg (by omega)]
  rw[step]
  cases j with
  | zero=>
   have g:((i+k:Nat):Int)+((Zc ⟨r.drop k⟩).2.s.length:Int)=(i:Int)+y:=g
   have D:y - (k+(Zc ⟨r.drop k⟩).2.s.length)=0:=by omega
   refine⟨F,ln+Lib.countByte (r.take k) 10,by omega,?_⟩
   rw[D,List.take_zero,List.nil_append,show i+k+(Zc ⟨r.drop k⟩).2.s.length=i+y by omega]
   rfl
  | succ j=>
   have l:j<T2.length:=Nat.lt_of_succ_lt_succ A
   have g:T2[j].o+T2[j].t.s.length=(i:Int)+y:=g
   obtain⟨B,ln',J,K⟩:=LW v f F (r.drop (k+(Zc ⟨r.drop k⟩).2.s.length)) (i+k+(Zc ⟨r.drop k⟩).2.s.length) (ln+Lib.countByte (r.take k) 10) _ T2 j (by rw[List.length_drop];omega) q z l (y - (k+(Zc ⟨r.drop k⟩).2.s.length)) (by omega) (by rw[List.length_append,List.length_take,List.length_drop,List.length_cons];omega) (by rw[List.length_drop];omega)
   refine⟨B,ln',J,?_⟩
   rw[K,List.append_assoc,show i+k+(Zc ⟨r.drop k⟩).2.s.length+(y - (k+(Zc ⟨r.drop k⟩).2.s.length))=i+y by omega]
   rfl
section
mutual
def zT(z:Int->Int):Tm->Tm
 | .mk n ks=>.mk {n with line:=z n.line} (TG z ks)
def TG(z:Int->Int):List Tm->List Tm
 | []=>[]
 | k::ks=>zT z k::TG z ks
end
theorem c0h(z:Int->Int)(a b:List Tm):TG z (a++b)=TG z a++TG z b:=by
 induction a with
 | nil=>rfl
 | cons x a ih=>show zT z x::TG z (a++b)=zT z x::(TG z a++TG z b);rw[ih]
def c3g(y:Tok)(w:List UInt8):Bool:=(decide (y.k=2)||decide (y.k=4))&&decide (y.t=⟨w⟩)
structure Calm (y:Tok):Prop where
 dot:c3g y [46]=false
 sq:c3g y [91]=false
 br:c3g y [123]=false
 at_:c3g y [64]=false
 par:c3g y [40]=false
 op:y.k=4->(J7 y.t false).b=0
structure Cm where
 A:List Tok
 B:List Tok
 d:Nat
 n:Nat
 zA:Int
 zB:Int
 z:Int->Int
 oz:Int->Int
 Wk:Int->Prop
 E:Prop
def Cm.a(c:Cm)(k:Nat):Tok:=c.A.getD k ⟨0,⟨[]⟩,0,c.zA⟩
def Cm.b(c:Cm)(k:Nat):Tok:=c.B.getD k ⟨0,⟨[]⟩,0,c.zB⟩
structure Al (c:Cm) (x y:Tok):Prop where
 k:y.k=x.k
 t:y.t=x.t
 ln:c.z y.ln=c.z x.ln
 o:c.oz y.o=c.oz x.o
structure CmOK (c:Cm):Prop where
 al : ∀ k,k<c.n->Al c (c.a k) (c.b (c.d+k))
 wk : ∀ p,c.n<=p->p<=c.A.length-> ¬ c.Wk (c.a p).o
 en:c.E->c.n=c.A.length∧Calm (c.b (c.d+c.n))
 lx:ZX c.A=true
 ly:ZX c.B=true
 la:c.A.length<=4000
 lb:c.B.length<=4000
structure Rl (c:Cm) (s t:PS):Prop where
 la:s.l=c.A
 lb:t.l=c.B
 za:s.sz=c.zA
 zb:t.sz=c.zB
 i:t.i=c.d+s.i
 sb:s.bad=false
 tb:t.bad=false
 big:t.big=s.big
 hs:s.i<=s.l.length
 ht:t.i<=t.l.length
def WS{α β:Type}(c:Cm)(V:α->β->Prop)(a:α×PS)(b:β×PS):Prop:=
 (a.2.bad=false->a.2.i<c.n->Rl c a.2 b.2∧V a.1 b.1)∧(a.2.bad=true->c.Wk a.2.wr->b.2.bad=true∧c.oz b.2.wr=c.oz a.2.wr)
def YM{α β:Type}(c:Cm)(V:α->β->Prop)(a:α×PS)(b:β×PS):Prop:=
 (a.2.bad=false->(a.2.i<c.n∨c.E∧a.2.i=c.n)->Rl c a.2 b.2∧V a.1 b.1)∧(a.2.bad=true->c.Wk a.2.wr->b.2.bad=true∧c.oz b.2.wr=c.oz a.2.wr)
def TT(_ _:Unit):Prop:=True
section
variable {α β γ δ:Type} {c:Cm} {s t:PS} {V:α->β->Prop} {W:γ->δ->Prop} {a:α×PS} {b:β×PS} {a':γ×PS} {b':δ×PS}
theorem YM.out(h:YM c V a b):WS c V a b:=⟨fun h1 h2=>h.1 h1 (Or.inl h2),h.2⟩
theorem Rl.outE(h:Rl c s t){x:α}{y:β}(v:V x y):YM c V (x,s) (y,t):=⟨fun _ _=>⟨h,v⟩,fun k=>by have k:s.bad=true:=k;rw[h.sb]at k;cases k⟩
theorem Ge.wk(hc:CmOK c){u:PS}(g:Ge s u)(j:s.l=c.A)(h:s.sz=c.zA)(sb:s.bad=false)(hn:c.n<=s.i)(e:u.bad=true): ¬ c.Wk u.wr:=by
 obtain⟨p,h1,h2,h3⟩:=g.at_ sb e
 rw[j]at h2 h3
 rw[h]at h3
 rw[h3]
 exact hc.wk p (by omega) h2
theorem WS.bind(hc:CmOK c)(h:WS c V a b)(u:a.2.l=c.A)(y:a.2.sz=c.zA)(g:Ge a.2 a'.2)(j:Ge b.2 b'.2)(k:Rl c a.2 b.2->V a.1 b.1->a.2.i<c.n->WS c W a' b'):WS c W a' b':=by
 cases e:a.2.bad with
 | true=>
  refine⟨fun h1=>(by rw[g.bad e]at h1;cases h1),fun h1 h2=> ?_⟩
  rw[g.keep e]at h2 ⊢
  have h3:=h.2 e h2
  exact⟨j.bad h3.1,by rw[j.keep h3.1];exact h3.2⟩
 | false=>
  by_cases q:a.2.i<c.n
  ·have r:=h.1 e q
   exact k r.1 r.2 q
  ·refine⟨fun _ h2=>absurd h2 (by have:=g.le;omega),fun h1 h2=>absurd h2 (g.wk hc u y e (by omega) h1)⟩
theorem YM.bind(hc:CmOK c)(h:WS c V a b)(u:a.2.l=c.A)(y:a.2.sz=c.zA)(g:Ge a.2 a'.2)(j:Ge b.2 b'.2)(hd:c.E->a.2.bad=false->a.2.i=c.n->a'.2.bad=true)(k:Rl c a.2 b.2->V a.1 b.1->a.2.i<c.n->YM c W a' b'):YM c W a' b':=by
 cases e:a.2.bad with
 | true=>
  refine⟨fun h1=>(by rw[g.bad e]at h1;cases h1),fun h1 h2=> ?_⟩
  rw[g.keep e]at h2 ⊢
  have h3:=h.2 e h2
  exact⟨j.bad h3.1,by rw[j.keep h3.1];exact h3.2⟩
 | false=>
  by_cases q:a.2.i<c.n
  ·have r:=h.1 e q
   exact k r.1 r.2 q
  ·refine⟨fun h1 h2=> ?_,fun h1 h2=>absurd h2 (g.wk hc u y e (by omega) h1)⟩
   have:=g.le
   rcases h2 with h2|⟨h2,h3⟩
   ·omega
   ·rw[hd h2 e (by omega)]at h1;cases h1
theorem YM.bindE(hc:CmOK c)(h:YM c V a b)(u:a.2.l=c.A)(y:a.2.sz=c.zA)(g:Ge a.2 a'.2)(j:Ge b.2 b'.2)(k:Rl c a.2 b.2->V a.1 b.1->(a.2.i<c.n∨c.E∧a.2.i=c.n)->YM c W a' b'):YM c W a' b':=by
 cases e:a.2.bad with
 | true=>
  refine⟨fun h1=>(by rw[g.bad e]at h1;cases h1),fun h1 h2=> ?_⟩
  rw[g.keep e]at h2 ⊢
  have h3:=h.2 e h2
  exact⟨j.bad h3.1,by rw[j.keep h3.1];exact h3.2⟩
 | false=>
  by_cases q:a.2.i<c.n∨c.E∧a.2.i=c.n
  ·have r:=h.1 e q
   exact k r.1 r.2 q
  ·refine⟨fun h1 h2=> ?_,fun h1 h2=>absurd h2 (g.wk hc u y e (by omega) h1)⟩
   have:=g.le
   exfalso
   apply q
   rcases h2 with h2|⟨h2,h3⟩
   ·left;omega
   ·rcases Nat.lt_or_ge a.2.i c.n with h4|h4
    ·exact Or.inl h4
    ·exact Or.inr ⟨h2,by omega⟩
theorem Rl.pk(hc:CmOK c)(h:Rl c s t){j:Nat}(hi:s.i+j<c.n):Al c (s.peek j) (t.peek j):=by
 have g:s.peek j=c.a (s.i+j):=by unfold PS.peek Cm.a;rw[h.la,h.za]
 have e:t.peek j=c.b (c.d+(s.i+j)):=by unfold PS.peek Cm.b;rw[h.lb,h.zb,h.i,Nat.add_assoc]
 rw[g,e]
 exact hc.al _ hi
theorem Rl.nx(hc:CmOK c)(h:Rl c s t)(hi:s.i<c.n)(w:Str):t.next w=s.next w:=by
 have k:=h.pk hc (j:=0) hi
 unfold PS.next
 rw[k.k,k.t]
theorem Rl.stepR(h:Rl c s t)(h1:s.i<s.l.length)(h2:t.i<t.l.length):Rl c s.step t.step:=⟨h.la,h.lb,h.za,h.zb,by show t.i+1=c.d+(s.i+1);have:=h.i;omega,h.sb,h.tb,h.big,h1,h2⟩
theorem Rl.step(hc:CmOK c)(h:Rl c s t)(hi:s.i<c.n)(e:(s.peek 0).k≠0):Rl c s.step t.step:=
 h.stepR (Y1 e) (Y1 (by rw[(h.pk hc (j:=0) hi).k];exact e))
theorem Rl.stepN(hc:CmOK c)(h:Rl c s t)(hi:s.i<c.n){w:Str}(hn:s.next w=true):Rl c s.step t.step:=
 h.stepR (Zh hn) (Zh (by rw[h.nx hc hi];exact hn))
theorem Rl.failE(hc:CmOK c)(h:Rl c s t)(hi:s.i<c.n)(x:α)(y:β):YM c V (x,s.fail) (y,t.fail):=by
 refine⟨fun k=>(by cases k),fun _ _=>⟨rfl,?_⟩⟩
 show c.oz (if t.bad then t.wr else(t.peek 0).o)=c.oz (if s.bad then s.wr else(s.peek 0).o)
 rw[h.sb,h.tb]
 exact(h.pk hc (j:=0) hi).o
theorem YM.dead(hc:CmOK c)(h:Rl c s t)(g:Ge s a.2)(hn:c.n<=s.i)(hd:c.E->s.i=c.n->a.2.bad=true):YM c V a b:=by
 refine⟨fun h1 h2=> ?_,fun h1 h2=>absurd h2 (g.wk hc h.la h.za h.sb hn h1)⟩
 have:=g.le
 rcases h2 with h2|⟨h2,h3⟩
 ·omega
 ·rw[hd h2 (by omega)]at h1;cases h1
theorem WS.dead(hc:CmOK c)(h:Rl c s t)(g:Ge s a.2)(hn:c.n<=s.i):WS c V a b:=
 ⟨fun _ h2=>absurd h2 (by have:=g.le;omega),fun h1 h2=>absurd h2 (g.wk hc h.la h.za h.sb hn h1)⟩
theorem YM.map{ε ζ:Type}{U:ε->ζ->Prop}(o:YM c V a b){x:ε}{y:ζ}(k:V a.1 b.1->U x y):YM c U (x,a.2) (y,b.2):=⟨fun h1 h2=>⟨(o.1 h1 h2).1,k (o.1 h1 h2).2⟩,o.2⟩
theorem bdO(hc:CmOK c)(h:Rl c s t)(g:Ge s a.2)(o:WS c V a b)(i:Ge a.2 a'.2)(e:Ge b.2 b'.2)(k:Rl c a.2 b.2->V a.1 b.1->WS c W a' b'):WS c W a' b':=WS.bind hc o (g.l.trans h.la) (g.sz.trans h.za) i e fun r v _=>k r v
theorem bdS(hc:CmOK c)(h:Rl c s t)(g:Ge s a.2)(o:WS c V a b)(j:Ge a.2 a'.2)(e:Ge b.2 b'.2)(hd:c.E->a.2.bad=false->a.2.i=c.n->a'.2.bad=true)(k:Rl c a.2 b.2->V a.1 b.1->YM c W a' b'):YM c W a' b':=YM.bind hc o (g.l.trans h.la) (g.sz.trans h.za) j e hd fun r v _=>k r v
theorem RA(hc:CmOK c)(h:Rl c s t)(g:Ge s a.2)(o:YM c V a b)(i:Ge a.2 a'.2)(e:Ge b.2 b'.2)(k:Rl c a.2 b.2->V a.1 b.1->YM c W a' b'):YM c W a' b':=YM.bindE hc o (g.l.trans h.la) (g.sz.trans h.za) i e fun r v _=>k r v
theorem Wj{u:PS}(h:u.l.length<=u.i)(w:Str):u.next w=false:=by
 unfold PS.next
 rw[WB (by omega)]
 rfl
theorem X9{u:PS}(h:u.l.length<=u.i)(w:Str):(u.need w).bad=true:=by
 unfold PS.need
 rw[if_neg (by rw[Wj h];decide)]
 rfl
theorem XW(hc:CmOK c)(h:Rl c s t){u:PS}(g:Ge s u)(e:c.E)(hi:u.i=c.n):u.l.length<=u.i:=by
 rw[g.l,h.la,hi,(hc.en e).1]
 exact Nat.le_refl _
theorem Yn(hc:CmOK c)(h:Rl c s t)(w:Str):YM c TT ((),s.need w) ((),t.need w):=by
 by_cases hi:s.i<c.n
 ·unfold PS.need
  rw[h.nx hc hi]
  split
  ·exact(h.stepN hc hi ‹_›).outE trivial
  ·exact h.failE hc hi () ()
 ·exact YM.dead hc h (a:=((),s.need w)) (Ge.need h.hs) (by omega) fun g e=>X9 (XW hc h (Ge.refl h.hs) g e) w
theorem Qq(hc:CmOK c)(h:Rl c s t):YM c Eq s.name t.name:=by
 by_cases hi:s.i<c.n
 ·have k:=h.pk hc (j:=0) hi
  unfold PS.name
  rw[k.k]
  split
  ·rename_i q
   exact(h.step hc hi (by rw[q];decide)).outE k.t.symm
  ·exact h.failE hc hi _ _
 ·refine YM.dead hc h (Ge.name h.hs) (by omega) fun g e=> ?_
  have e1:=XW hc h (Ge.refl h.hs) g e
  unfold PS.name
  rw[WB (by omega)]
  rfl
theorem DW(hc:CmOK c)(h:Rl c s t)(m:Int):YM c Eq (s.num m) (t.num m):=by
 by_cases hi:s.i<c.n
 ·have k:=h.pk hc (j:=0) hi
  unfold PS.num
  rw[k.k,k.t]
  split
  ·rename_i q
   exact(h.step hc hi (by rw[q.1];decide)).outE rfl
  ·exact h.failE hc hi _ _
 ·refine YM.dead hc h (Ge.num h.hs) (by omega) fun g e=> ?_
  have e1:=XW hc h (Ge.refl h.hs) g e
  unfold PS.num
  rw[WB (by omega),if_neg (fun q=>by have:=q.1;simp at this)]
  rfl
theorem Rl.nb(h:Rl c s t): ¬ s.bad=true:=by rw[h.sb];decide
theorem Rl.nt(h:Rl c s t): ¬ t.bad=true:=by rw[h.tb];decide
theorem Rl.wide(h:Rl c s t)(b:Bool):Rl c (s.wide b) (t.wide b):=⟨h.la,h.lb,h.za,h.zb,h.i,h.sb,h.tb,by show(t.big||b)=(s.big||b);rw[h.big],h.hs,h.ht⟩
end
end
section
section
variable {c:Cm} {s t:PS}
theorem EB(hc:CmOK c)(h:Rl c s t):WS c Eq s.item t.item:=by
 by_cases hi:s.i<c.n
 ·have k:=h.pk hc (j:=0) hi
  have g : ∀ r:PS,r.i<=r.l.length->Ge r (if (r.peek 0).k=1∧r.bad=false then r.name.2.note (UA (Bd r.name.1) (0:Int))else((⟨0,[]⟩:Lin),r)).2:=fun r hr=>by
   split
   ·exact(Ge.name hr).trans (Ge.note (Ge.name hr).hi)
   ·exact Ge.refl hr
  have q : ∀ s:PS,s.i<=s.l.length->Ge (s.num 2147483648).2 (if ((s.num 2147483648).2.peek 0).k=1∧(s.num 2147483648).2.bad=false then(s.num 2147483648).2.name.2.note (UA (Bd (s.num 2147483648).2.name.1) (s.num 2147483648).1)else(⟨(s.num 2147483648).1,[]⟩,(s.num 2147483648).2)).2:=fun s hs=>by
   have u:=Ge.num (m:=2147483648) hs
   split
   ·exact(Ge.name u.hi).trans (Ge.note (Ge.name u.hi).hi)
   ·exact Ge.refl u.hi
  unfold PS.item
  rw[k.k]
  split
  ·exact((Qq hc h).map (fun e=>by rw[e])).out
  ·refine bdO hc h (Ge.num h.hs) (DW hc h 2147483648).out (q s h.hs) (q t h.ht) fun r v=> ?_
   by_cases hj:(s.num 2147483648).2.i<c.n
   ·have z:=r.pk hc (j:=0) hj
    rw[z.k,r.sb,r.tb]
    split
    ·refine bdO hc r (Ge.name r.hs) (Qq hc r).out (Ge.note (Ge.name r.hs).hi) (Ge.note (Ge.name r.ht).hi) fun y A=> ?_
     rw[v,A]
     exact(Rl.outE (y.wide _) rfl).out
    ·exact(r.outE (by rw[v])).out
   ·exact WS.dead hc r (q s h.hs) (by omega)
 ·exact WS.dead hc h (Ge.item h.hs) (by omega)
theorem NB(hc:CmOK c): ∀ (n m:Nat) {s t:PS} {l:Lin},Rl c s t->Yo n s->Yo m t->WS c Eq (linLoop n s l) (linLoop m t l)
 | 0,_,s,t,l,h,f1,f2=>by unfold Yo at f1;omega
 | _+1,0,s,t,l,h,f1,f2=>by unfold Yo at f2;omega
 | n+1,m+1,s,t,l,h,f1,f2=>by
  by_cases hi:s.i<c.n
  ·rw[linLoop,linLoop,if_neg h.nb,if_neg h.nt,h.nx hc hi,h.nx hc hi]
   have go : ∀ {w:Str} (k:Int),s.next w=true->WS c Eq (linLoop n (s.step.item.2.note (ZL l s.step.item.1 k)).2 (ZL l s.step.item.1 k).1) (linLoop m (t.step.item.2.note (ZL l t.step.item.1 k)).2 (ZL l t.step.item.1 k).1):=fun {w} k q=>by
    have g:=h.stepN hc hi q
    have u:t.next w=true:=by rw[h.nx hc hi];exact q
    have e:=Ge.item g.hs
    have j:=Ge.item g.ht
    refine bdO hc g e (EB hc g) ((Ge.note e.hi).trans (Ge.linLoop n (Ge.note (x:=ZL l s.step.item.1 k) e.hi).hi)) ((Ge.note j.hi).trans (Ge.linLoop m (Ge.note (x:=ZL l t.step.item.1 k) j.hi).hi)) fun r v=> ?_
    rw[v]
    exact NB hc n m (r.wide _) (((f1.step (Zh q)).ge e).ge (Ge.note e.hi)) (((f2.step (Zh u)).ge j).ge (Ge.note j.hi))
   split
   ·exact go 1 ‹_›
   ·split
    ·exact go (-1) ‹_›
    ·exact((h.wide _).outE rfl).out
  ·exact WS.dead hc h (Ge.linLoop _ h.hs) (by omega)
theorem e4j(hc:CmOK c)(h:Rl c s t):WS c Eq s.lin0 t.lin0:=by
 by_cases hi:s.i<c.n
 ·unfold PS.lin0
  rw[h.nx hc hi]
  split
  ·rename_i q
   have e:=h.stepN hc hi q
   have g:=Ge.item e.hs
   have j:=Ge.item e.ht
   refine bdO hc e g (EB hc e) (Ge.note g.hi) (Ge.note j.hi) fun r v=> ?_
   rw[v]
   exact((r.wide _).outE rfl).out
  ·exact EB hc h
 ·exact WS.dead hc h (Ge.lin0 h.hs) (by omega)
theorem XQ{s u:PS}(g:Ge s u):Yo (s.l.length+1) u:=by unfold Yo;rw[g.l];omega
theorem SN(hc:CmOK c)(h:Rl c s t):WS c Eq s.linear t.linear:=by
 have e:=Ge.lin0 h.hs
 have g:=Ge.lin0 h.ht
 refine bdO hc h e (e4j hc h) (Ge.linLoop _ e.hi) (Ge.linLoop _ g.hi) fun r v=> ?_
 unfold PS.linear
 rw[v]
 exact NB hc _ _ r (XQ e) (XQ g)
section
variable {α β:Type} {one:PS->α×PS} {one':PS->β×PS} {V:α->β->Prop} {VL:List α->List β->Prop} {P P':PS->Prop}
theorem a7t(hc:CmOK c)(g : ∀ s u,P s->Ge s u->P u)(e : ∀ s u,P' s->Ge s u->P' u)(A : ∀ s,P s->s.i<=s.l.length->Ge s (one s).2)(D : ∀ s,P' s->s.i<=s.l.length->Ge s (one' s).2)
  (ho : ∀ s t,P s->P' t->Rl c s t->WS c V (one s) (one' t)) (F : ∀ o o' x y,VL o o'->V x y->VL (o++[x]) (o'++[y])) : ∀ (n m:Nat) {s t:PS} {o:List α} {o':List β},P s->P' t->Rl c s t->Yo n s->Yo m t->VL o o'->WS c VL (moreL one n s o) (moreL one' m t o')
 | 0,_,s,t,o,o',p,p',h,f1,f2,v=>by unfold Yo at f1;omega
 | _+1,0,s,t,o,o',p,p',h,f1,f2,v=>by unfold Yo at f2;omega
 | n+1,m+1,s,t,o,o',p,p',h,f1,f2,v=>by
  by_cases hi:s.i<c.n
  ·rw[moreL,moreL,if_neg h.nb,if_neg h.nt,h.nx hc hi]
   split
   ·rename_i q
    have E:t.next ⟨[44]⟩=true:=by rw[h.nx hc hi];exact q
    have C:=h.stepN hc hi q
    have z:=Ge.step (Zh q)
    have B:=Ge.step (Zh E)
    have j:=A _ (g _ _ p z) C.hs
    have k:=D _ (e _ _ p' B) C.ht
    refine bdO hc C j (ho _ _ (g _ _ p z) (e _ _ p' B) C) (Ge.moreL g A n (g _ _ (g _ _ p z) j) j.hi) (Ge.moreL e D m (e _ _ (e _ _ p' B) k) k.hi) fun r w=> ?_
    exact a7t hc g e A D ho F n m (g _ _ (g _ _ p z) j) (e _ _ (e _ _ p' B) k) r ((f1.step (Zh q)).ge j) ((f2.step (Zh E)).ge k) (F _ _ _ _ v w)
   ·exact(h.outE v).out
  ·exact WS.dead hc h (Ge.moreL g A (n+1) p h.hs) (by omega)
theorem Mv(hc:CmOK c)(q : ∀ s u,P s->Ge s u->P u)(e : ∀ s u,P' s->Ge s u->P' u)(z : ∀ s,P s->s.i<=s.l.length->Ge s (one s).2)(A : ∀ s,P' s->s.i<=s.l.length->Ge s (one' s).2)
  (ho : ∀ s t,P s->P' t->Rl c s t->WS c V (one s) (one' t)) (B : ∀ o o' x y,VL o o'->V x y->VL (o++[x]) (o'++[y])) (C : ∀ x y,V x y->VL [x] [y]) {s t:PS} (p:P s) (j:P' t) (h:Rl c s t):WS c VL (listL one s) (listL one' t):=by
 have g:=z _ p h.hs
 have k:=A _ j h.ht
 refine bdO hc h g (ho _ _ p j h) (Ge.moreL q z _ (q _ _ p g) g.hi) (Ge.moreL e A _ (e _ _ j k) k.hi) fun r w=> ?_
 exact a7t hc q e z A ho B _ _ (q _ _ p g) (e _ _ j k) r (XQ g) (XQ k) (C _ _ w)
end
theorem Hr{α:Type}{one:PS->α×PS}(hc:CmOK c)(g : ∀ s,s.i<=s.l.length->Ge s (one s).2)(ho : ∀ s t,Rl c s t->WS c Eq (one s) (one t))(h:Rl c s t):WS c Eq (listL one s) (listL one t):=
 Mv (P:=fun _=>True) (P':=fun _=>True) (VL:=Eq) hc (fun _ _ _ _=>trivial) (fun _ _ _ _=>trivial) (fun s _ h=>g s h) (fun s _ h=>g s h) (fun s t _ _ r=>ho s t r) (fun o o' x y e j=>by rw[e,j]) (fun x y e=>by rw[e]) trivial trivial h
theorem a4z(hc:CmOK c): ∀ (n m:Nat) {s t:PS} {o:List Int},Rl c s t->Yo n s->Yo m t->WS c Eq (numsP n s o) (numsP m t o)
 | 0,_,s,t,l,h,f1,f2=>by unfold Yo at f1;omega
 | _+1,0,s,t,l,h,f1,f2=>by unfold Yo at f2;omega
 | n+1,m+1,s,t,o,h,f1,f2=>by
  by_cases hi:s.i<c.n
  ·have k:=h.pk hc (j:=0) hi
   rw[numsP,numsP,k.k]
   split
   ·rename_i q
    have e:=Ge.num (m:=2147483648) h.hs
    have g:=Ge.num (m:=2147483648) h.ht
    refine bdO hc h e (DW hc h 2147483648).out (Ge.numsP n e.hi) (Ge.numsP m g.hi) fun r v=> ?_
    rw[v]
    have e1:s.i+1<=(s.num 2147483648).2.i:=by
     have:=QH (s:=s) (m:=2147483648) r.sb;omega
    have e2:t.i+1<=(t.num 2147483648).2.i:=by
     have:=QH (s:=t) (m:=2147483648) r.tb;omega
    have i1:=Y1 (s:=s) (by rw[q];decide)
    have i2:=Y1 (s:=t) (by rw[k.k,q];decide)
    refine a4z hc n m r ?_ ?_
    ·unfold Yo at f1 ⊢;rw[e.l];omega
    ·unfold Yo at f2 ⊢;rw[g.l];omega
   ·exact(h.outE rfl).out
  ·exact WS.dead hc h (Ge.numsP _ h.hs) (by omega)
theorem Rl.sgs(hc:CmOK c)(h:Rl c s t)(hi:s.i<c.n):Rl c s.sgs t.sgs∧t.sgn=s.sgn:=by
 unfold PS.sgs PS.sgn
 rw[h.nx hc hi]
 split
 ·exact⟨h.stepN hc hi ‹_›,rfl⟩
 ·exact⟨h,rfl⟩
theorem c2l(hc:CmOK c): ∀ (n m:Nat) {s t:PS} {o:List Int},Rl c s t->Yo n s->Yo m t->WS c Eq (datP n s o) (datP m t o)
 | 0,_,s,t,l,h,f1,f2=>by unfold Yo at f1;omega
 | _+1,0,s,t,l,h,f1,f2=>by unfold Yo at f2;omega
 | n+1,m+1,s,t,o,h,f1,f2=>by
  by_cases hi:s.i<c.n
  ·rw[datP,datP,if_neg h.nb,if_neg h.nt,h.nx hc hi]
   split
   ·exact(h.outE rfl).out
   ·obtain⟨r0,q⟩:=h.sgs hc hi
    have j:=Ge.sgs h.hs
    have k:=Ge.sgs h.ht
    have e:=Ge.num (m:=2147483648) r0.hs
    have g:=Ge.num (m:=2147483648) r0.ht
    refine bdO hc r0 e (DW hc r0 2147483648).out (Ge.datP n e.hi) (Ge.datP m g.hi) fun r v=> ?_
    rw[v,q]
    have n1:=QH (s:=s.sgs) (m:=2147483648) r.sb
    have n2:=QH (s:=t.sgs) (m:=2147483648) r.tb
    have l1:=j.le
    have l2:=k.le
    have u:=e.hi
    have y:=g.hi
    refine c2l hc n m r ?_ ?_
    ·unfold Yo at f1 ⊢;rw[(j.trans e).l]at u ⊢;omega
    ·unfold Yo at f2 ⊢;rw[(k.trans g).l]at y ⊢;omega
  ·exact WS.dead hc h (Ge.datP _ h.hs) (by omega)
theorem f8n(hc:CmOK c)(h:Rl c s t):YM c Eq s.arr t.arr:=by
 have A:=Ge.ar1 h.hs
 have b1:=Ge.ar1 h.ht
 have z:Ge s.ar1 s.ar2.2:=Ge.numsP _ A.hi
 have H:Ge t.ar1 t.ar2.2:=Ge.numsP _ b1.hi
 have y:Ge s.ar2.2 (s.ar2.2.need ⟨[58]⟩):=Ge.need z.hi
 have C:Ge t.ar2.2 (t.ar2.2.need ⟨[58]⟩):=Ge.need H.hi
 have g:Ge (s.ar2.2.need ⟨[58]⟩) s.ar3.2:=Ge.datP _ y.hi
 have F:Ge (t.ar2.2.need ⟨[58]⟩) t.ar3.2:=Ge.datP _ C.hi
 have D:Ge s.ar3.2 s.arr.2:=Ge.need g.hi
 have B:Ge t.ar3.2 t.arr.2:=Ge.need F.hi
 have dead : ∀ {u:PS},Ge s u->Ge u s.ar3.2->c.E->u.i=c.n->s.arr.2.bad=true:=fun J O r e=>by
  refine X9 ?_ _
  have:=XW hc h J r e
  have k:=(J.trans O).l
  have:=O.le
  rw[J.l]at *
  rw[k]
  omega
 by_cases hi:s.i<c.n
 ·have k:=h.pk hc (j:=0) hi
  have K:t.arB=s.arB:=by unfold PS.arB;rw[k.k,k.t]
  have I:Rl c (if s.arB then s.step else s) (if t.arB then t.step else t):=by
   rw[K]
   split
   ·rename_i q
    refine h.step hc hi ?_
    unfold PS.arB at q
    simp only[Bool.and_eq_true,decide_eq_true_eq]at q
    rw[q.1];decide
   ·exact h
  have g0:=Ge.ar0 h.hs
  refine RA (a:=((),s.ar1)) (b:=((),t.ar1)) hc I (Ge.need I.hs) (Yn hc I ⟨[91]⟩) (z.trans (y.trans (g.trans D))) (H.trans (C.trans (F.trans B))) fun M _=> ?_
  refine bdS (a:=s.ar2) (b:=t.ar2) hc M z (a4z hc _ _ M (XQ A) (XQ b1)) (y.trans (g.trans D)) (C.trans (F.trans B)) (fun r _ e=>dead (A.trans z) (y.trans g) r e) fun L S=> ?_
  refine RA (a:=((),s.ar2.2.need ⟨[58]⟩)) (b:=((),t.ar2.2.need ⟨[58]⟩)) hc L y (Yn hc L _) (g.trans D) (F.trans B) fun N _=> ?_
  refine bdS (a:=s.ar3) (b:=t.ar3) hc N g (c2l hc _ _ N (XQ (A.trans (z.trans y))) (XQ (b1.trans (H.trans C)))) D B (fun r _ e=>dead (A.trans (z.trans (y.trans g))) (Ge.refl g.hi) r e) fun T Q=> ?_
  unfold PS.arr
  rw[K,S,Q]
  exact(Yn hc T ⟨[93]⟩).map (fun _=>rfl)
 ·exact YM.dead hc h (Ge.arr h.hs) (by omega) fun r e=>dead (Ge.refl h.hs) (Ge.ar3 h.hs) r e
end
end
section
def VT(c:Cm)(a b:Tm):Prop:=zT c.z a=zT c.z b
def VTs(c:Cm)(a b:List Tm):Prop:=TG c.z a=TG c.z b
def VU(c:Cm)(a b:Tm×Int):Prop:=VT c a.1 b.1∧c.z a.2=c.z b.2
def SX(c:Cm)(N M:Nat)(ex ex':PS->Tm×PS):Prop:= ∀ s t,Yo N s->Yo M t->Rl c s t->YM c (VT c) (ex s) (ex' t)
def SU(c:Cm)(N M:Nat)(un e:PS->(Tm×Int)×PS):Prop:= ∀ s t,Yo N s->Yo M t->Rl c s t->YM c (VU c) (un s) (e t)
def In(c:Cm)(s:PS):Prop:=s.i<c.n∨c.E∧s.i=c.n
section
variable {c:Cm} {s t:PS}
theorem QO{n g:Nd}{ks e:List Tm}(h:({n with line:=c.z n.line}:Nd)={g with line:=c.z g.line})(i:VTs c ks e):VT c (.mk n ks) (.mk g e):=by
 have i:TG c.z ks=TG c.z e:=i
 show zT c.z _=zT c.z _
 rw[zT,zT,h,i]
theorem WA{x y:Tm}{a b:List Tm}(h:VT c x y)(k:VTs c a b):VTs c (x::a) (y::b):=by
 have h:zT c.z x=zT c.z y:=h
 have k:TG c.z a=TG c.z b:=k
 show TG c.z (x::a)=TG c.z (y::b)
 rw[TG,TG,h,k]
theorem b8x{x y:Tm}{a b:List Tm}(k:VTs c a b)(h:VT c x y):VTs c (a++[x]) (b++[y]):=by
 have h:zT c.z x=zT c.z y:=h
 have k:TG c.z a=TG c.z b:=k
 show TG c.z _=TG c.z _
 rw[c0h,c0h,k]
 show _++[zT c.z x]=_++[zT c.z y]
 rw[h]
theorem Rl.nxE(hc:CmOK c)(h:Rl c s t)(q:In c s){w:List UInt8}(j:c.E->c3g (c.b (c.d+c.n)) w=false):t.next ⟨w⟩=s.next ⟨w⟩:=by
 rcases q with q|⟨g,q⟩
 ·exact h.nx hc q _
 ·rw[Wj (XW hc h (Ge.refl h.hs) g q)]
  have e:t.peek 0=c.b (c.d+c.n):=by unfold PS.peek Cm.b;rw[h.lb,h.zb,h.i,q];rfl
  have k:=j g
  rw[<- e]at k
  exact k
theorem In.lt(hc:CmOK c)(h:Rl c s t)(q:In c s){w:Str}(hn:s.next w=true):s.i<c.n:=by
 rcases q with q|⟨e,q⟩
 ·exact q
 ·rw[Wj (XW hc h (Ge.refl h.hs) e q)]at hn;cases hn
theorem bdI{α β γ δ:Type}{V:α->β->Prop}{W:γ->δ->Prop}{a:α×PS}{b:β×PS}{a':γ×PS}{e:δ×PS}(hc:CmOK c)(h:Rl c s t)(g:Ge s a.2)(o:YM c V a b)(i:Ge a.2 a'.2)(j:Ge b.2 e.2)(k:Rl c a.2 b.2->V a.1 b.1->In c a.2->YM c W a' e):YM c W a' e:=YM.bindE hc o (g.l.trans h.la) (g.sz.trans h.za) i j k
theorem Ge.func2{s:PS}(h:s.i<=s.l.length):Ge s.name.2 s.func.2:=by
 have h1:=Ge.name h
 unfold PS.func
 split
 ·have h2:=Ge.step (Zh ‹_›)
  exact h2.trans (Ge.name h2.hi)
 ·exact Ge.refl h1.hi
theorem a1c(hc:CmOK c)(h:Rl c s t):YM c Eq s.func t.func:=by
 refine bdI hc h (Ge.name h.hs) (Qq hc h) (Ge.func2 h.hs) (Ge.func2 h.ht) fun r v q=> ?_
 unfold PS.func
 rw[r.nxE hc q (w:=[46]) (fun e=>(hc.en e).2.dot)]
 split
 ·rename_i hn
  have g:=r.stepN hc (q.lt hc r hn) hn
  exact(Qq hc g).map (fun e=>by rw[v,e])
 ·exact r.outE v
theorem Rl.plain(hc:CmOK c)(h:Rl c s t)(q:In c s)(n:Str):t.plain n=s.plain n:=by
 unfold PS.plain
 rw[h.nxE hc q (w:=[91]) (fun e=>(hc.en e).2.sq),h.nxE hc q (w:=[123]) (fun e=>(hc.en e).2.br),h.nxE hc q (w:=[64]) (fun e=>(hc.en e).2.at_),h.nxE hc q (w:=[40]) (fun e=>(hc.en e).2.par)]
theorem c5x(hc:CmOK c)(h:Rl c s t):WS c Eq s.sizesN t.sizesN:=by
 by_cases hi:s.i<c.n
 ·unfold PS.sizesN
  rw[h.nx hc hi]
  split
  ·rename_i q
   have e:=h.stepN hc hi q
   have g:=Ge.list (one:=PS.linear) (fun s h=>Ge.linear h) e.hs
   have j:=Ge.list (one:=PS.linear) (fun s h=>Ge.linear h) e.ht
   refine bdO hc e g (Hr (one:=PS.linear) hc (fun s h=>Ge.linear h) (fun s t r=>SN hc r) e) (Ge.need g.hi) (Ge.need j.hi) fun r v=> ?_
   exact((Yn hc r ⟨[93]⟩).map (fun _=>v)).out
  ·exact(h.outE rfl).out
 ·exact WS.dead hc h (Ge.sizesN h.hs) (by omega)
theorem c7g(hc:CmOK c)(h:Rl c s t):WS c Eq s.frameN t.frameN:=by
 by_cases hi:s.i<c.n
 ·unfold PS.frameN
  rw[h.nx hc hi]
  split
  ·rename_i q
   have e:=h.stepN hc hi q
   have g:=Ge.num (m:=2147483648) e.hs
   have j:=Ge.num (m:=2147483648) e.ht
   refine bdO hc e g (DW hc e _).out (Ge.need g.hi) (Ge.need j.hi) fun r v=> ?_
   exact((Yn hc r ⟨[125]⟩).map (fun _=>v)).out
  ·exact(h.outE rfl).out
 ·exact WS.dead hc h (Ge.frameN h.hs) (by omega)
theorem c5i(hc:CmOK c)(h:Rl c s t):WS c Eq s.ranksN t.ranksN:=by
 by_cases hi:s.i<c.n
 ·unfold PS.ranksN
  rw[h.nx hc hi]
  split
  ·rename_i q
   have e:=h.stepN hc hi q
   have l:=Ge.need (w:=⟨[40]⟩) e.hs
   have u:=Ge.need (w:=⟨[40]⟩) e.ht
   have g:=Ge.list (one:=PS.numM) (fun s h=>Ge.num h) l.hi
   have j:=Ge.list (one:=PS.numM) (fun s h=>Ge.num h) u.hi
   refine bdO (a:=((),s.step.need ⟨[40]⟩)) (b:=((),t.step.need ⟨[40]⟩)) hc e l (Yn hc e _).out (g.trans (Ge.need g.hi)) (j.trans (Ge.need j.hi)) fun k _=> ?_
   refine bdO hc k g (Hr (one:=PS.numM) hc (fun s h=>Ge.num h) (fun s t r=>(DW hc r _).out) k) (Ge.need g.hi) (Ge.need j.hi) fun r v=> ?_
   exact((Yn hc r ⟨[41]⟩).map (fun _=>v)).out
  ·exact(h.outE rfl).out
 ·exact WS.dead hc h (Ge.ranksN h.hs) (by omega)
theorem c9m{ex:PS->Tm×PS}{u:PS}(h:u.l.length<=u.i):(XX ex u).2.bad=true:=by
 unfold XX
 rw[if_pos (X9 h _)]
 refine X9 ?_ _
 unfold PS.need
 rw[if_neg (by rw[Wj h];decide)]
 exact Nat.le_refl _
variable {N M:Nat} {ex ex':PS->Tm×PS}
theorem Ge.kids2(g:Gr N ex){s:PS}(e:Yo N s)(h:s.i<=s.l.length):Ge (s.need ⟨[40]⟩) (XX ex s).2:=by
 have h1:=Ge.need (w:=⟨[40]⟩) h
 unfold XX
 split
 ·exact Ge.need h1.hi
 ·split
  ·exact Ge.need h1.hi
  ·have h2:=Ge.listL (B:=Yo N) (fun s t h k=>h.ge k) (fun s h k=>g s h k) (e.ge h1) h1.hi
   exact h2.trans (Ge.need h2.hi)
theorem e3g(hc:CmOK c)(C:Gr N ex)(g:Gr M ex')(I:SX c N M ex ex')(f:Yo N s)(z:Yo M t)(h:Rl c s t):YM c (VTs c) (XX ex s) (XX ex' t):=by
 have q:=Ge.need (w:=⟨[40]⟩) h.hs
 have D:=Ge.need (w:=⟨[40]⟩) h.ht
 have E:=Ge.kids2 C f h.hs
 have L:=Ge.kids2 g z h.ht
 refine RA (a:=((),s.need ⟨[40]⟩)) (b:=((),t.need ⟨[40]⟩)) hc h q (Yn hc h _) E L fun r _=> ?_
 have r:Rl c (s.need ⟨[40]⟩) (t.need ⟨[40]⟩):=r
 have j:=Ge.listL (B:=Yo N) (fun s t h k=>h.ge k) (fun s h k=>C s h k) (f.ge q) q.hi
 have H:=Ge.listL (B:=Yo M) (fun s t h k=>h.ge k) (fun s h k=>g s h k) (z.ge D) D.hi
 by_cases hi:(s.need ⟨[40]⟩).i<c.n
 ·unfold XX
  rw[if_neg r.nb,if_neg r.nt,r.nx hc hi]
  split
  ·exact(Yn hc r ⟨[41]⟩).map (fun _=>rfl)
  ·refine bdS (V:=VTs c) hc r j (Mv (P:=Yo N) (P':=Yo M) (V:=VT c) hc (fun s u a b=>a.ge b) (fun s u a b=>a.ge b) (fun s a b=>C s a b) (fun s a b=>g s a b) (fun s t a b r=>(I s t a b r).out) (fun o o' x y e F=>b8x e F) (fun x y e=>WA e rfl) (f.ge q) (z.ge D) r) (Ge.need j.hi) (Ge.need H.hi) (fun A _ e=>X9 (XW hc r j A e) _) fun J v=> ?_
   exact(Yn hc J ⟨[41]⟩).map (fun _=>v)
 ·refine YM.dead hc r E (by omega) fun A e=> ?_
  have K:=XW hc r (Ge.refl r.hs) A e
  unfold XX
  rw[if_neg r.nb,if_neg (by rw[Wj K];decide)]
  refine X9 ?_ _
  have:=j.le
  rw[j.l]
  omega
theorem d1j(hc:CmOK c)(H:Gr N ex)(y:Gr M ex')(P:SX c N M ex ex'){ln ln':Int}(S:c.z ln=c.z ln'){n:Str}(f:Yo N s)(F:Yo M t)(h:Rl c s t):YM c (VT c) (Vu ex ln n s) (Vu ex' ln' n t):=by
 have r:=Ge.sizesN h.hs
 have b1:=Ge.sizesN h.ht
 have j:=Ge.frameN r.hi
 have B:=Ge.frameN b1.hi
 have g:=Ge.ranksN j.hi
 have A:=Ge.ranksN B.hi
 have D:=Ge.kids H (f.ge (r.trans (j.trans g))) g.hi
 have C:=Ge.kids y (F.ge (b1.trans (B.trans A))) A.hi
 have dead : ∀ {u:PS},Ge s u->Ge u s.sizesN.2.frameN.2.ranksN.2->c.E->u.i=c.n->(Vu ex ln n s).2.bad=true:=fun {u} g1 g2 q e=>by
  refine c9m ?_
  have:=XW hc h g1 q e
  have k:=g2.l
  have:=g2.le
  rw[k]
  omega
 refine bdS hc h r (c5x hc h) (j.trans (g.trans D)) (B.trans (A.trans C)) (fun q _ e=>dead r (j.trans g) q e) fun J Q=> ?_
 refine bdS hc J j (c7g hc J) (g.trans D) (A.trans C) (fun q _ e=>dead (r.trans j) g q e) fun I O=> ?_
 refine bdS hc I g (c5i hc I) D C (fun q _ e=>dead (r.trans (j.trans g)) (Ge.refl g.hi) q e) fun K L=> ?_
 unfold Vu
 rw[Q,O,L]
 refine(e3g hc H y P (f.ge (r.trans (j.trans g))) (F.ge (b1.trans (B.trans A))) K).map (fun e=>QO ?_ e)
 exact congrArg (fun l=>({nd0 with kind:=6,line:=l,name:=n,num:=t.sizesN.2.frameN.1,sizes:=t.sizesN.1,ranks:=t.sizesN.2.frameN.2.ranksN.1}:Nd)) S
theorem c7t(hc:CmOK c)(A:Gr N ex)(g:Gr M ex')(E:SX c N M ex ex')(f:Yo (N+1) s)(B:Yo (M+1) t)(h:Rl c s t)(hi:s.i<c.n)(z:(s.peek 0).k=1):YM c (VT c) (Xd ex s) (Xd ex' t):=by
 have k:=h.pk hc (j:=0) hi
 have e:(t.peek 0).k=1:=by rw[k.k];exact z
 have D:=Y1 (s:=s) (by rw[z];decide)
 have C:=Y1 (s:=t) (by rw[e];decide)
 have u:=Ge.func1 z
 have y:=Ge.func1 e
 have F:Ge s.func.2 (Xd ex s).2:=by
  unfold Xd
  split
  ·exact Ge.refl u.hi
  ·exact Ge.callB A ((f.step D).ge u) u.hi
 have H:Ge t.func.2 (Xd ex' t).2:=by
  unfold Xd
  split
  ·exact Ge.refl y.hi
  ·exact Ge.callB g ((B.step C).ge y) y.hi
 refine bdI hc h (Ge.func h.hs) (a1c hc h) F H fun r v q=> ?_
 unfold Xd
 rw[r.plain hc q,v]
 split
 ·exact r.outE (QO (congrArg (fun l=>Je 1 l t.func.1) k.ln.symm) rfl)
 ·exact d1j hc A g E k.ln.symm ((f.step D).ge u) ((B.step C).ge y) r
theorem e8m(hc:CmOK c)(Q:Gr N ex)(u:Gr M ex')(S:SX c N M ex ex'){ln ln':Int}(V:c.z ln=c.z ln')(f:Yo N s)(C:Yo M t)(h:Rl c s t):YM c (VT c) (Bj ex ln s) (Bj ex' ln' t):=by
 have I:=Ge.need (w:=⟨[40]⟩) h.hs
 have b1:=Ge.need (w:=⟨[40]⟩) h.ht
 have D:=Ge.func I.hi
 have E:=Ge.func b1.hi
 have A:=Ge.need (w:=⟨[44]⟩) D.hi
 have B:=Ge.need (w:=⟨[44]⟩) E.hi
 have H:=I.trans (D.trans A)
 have F:=b1.trans (E.trans B)
 have q:=Q _ (f.ge H) A.hi
 have y:=u _ (C.ge F) B.hi
 have g:=Ge.need (w:=⟨[44]⟩) q.hi
 have k:=Ge.need (w:=⟨[44]⟩) y.hi
 have U:=H.trans (q.trans g)
 have P:=F.trans (y.trans k)
 have e:=Q _ (f.ge U) g.hi
 have r:=u _ (C.ge P) k.hi
 have j:=Ge.need (w:=⟨[41]⟩) e.hi
 have i:=Ge.need (w:=⟨[41]⟩) r.hi
 refine RA (a:=((),s.need ⟨[40]⟩)) (b:=((),t.need ⟨[40]⟩)) hc h I (Yn hc h _) (D.trans (A.trans (q.trans (g.trans (e.trans j))))) (E.trans (B.trans (y.trans (k.trans (r.trans i))))) fun T _=> ?_
 refine RA hc T D (a1c hc T) (A.trans (q.trans (g.trans (e.trans j)))) (B.trans (y.trans (k.trans (r.trans i)))) fun J Y=> ?_
 refine RA (a:=((),(s.need ⟨[40]⟩).func.2.need ⟨[44]⟩)) (b:=((),(t.need ⟨[40]⟩).func.2.need ⟨[44]⟩)) hc J A (Yn hc J _) (q.trans (g.trans (e.trans j))) (y.trans (k.trans (r.trans i))) fun K _=> ?_
 refine RA hc K q (S _ _ (f.ge H) (C.ge F) K) (g.trans (e.trans j)) (k.trans (r.trans i)) fun O W=> ?_
 refine RA (a:=((),(ex ((s.need ⟨[40]⟩).func.2.need ⟨[44]⟩)).2.need ⟨[44]⟩)) (b:=((),(ex' ((t.need ⟨[40]⟩).func.2.need ⟨[44]⟩)).2.need ⟨[44]⟩)) hc O g (Yn hc O _) (e.trans j) (r.trans i) fun L _=> ?_
 refine RA hc L e (S _ _ (f.ge U) (C.ge P) L) j i fun Z X=> ?_
 refine(Yn hc Z ⟨[41]⟩).map (fun _=>QO ?_ (WA W (WA X rfl)))
 rw[Y]
 exact congrArg (fun l=>Je 8 l (t.need ⟨[40]⟩).func.1) V
theorem e7v(hc:CmOK c)(J:Gr N ex)(y:Gr M ex')(K:SX c N M ex ex'){ln ln':Int}(P:c.z ln=c.z ln')(f:Yo N s)(E:Yo M t)(h:Rl c s t):YM c (VT c) (BK ex ln s) (BK ex' ln' t):=by
 have A:=Ge.need (w:=⟨[40]⟩) h.hs
 have b1:=Ge.need (w:=⟨[40]⟩) h.ht
 have i:=Ge.func A.hi
 have u:=Ge.func b1.hi
 have g:=Ge.need (w:=⟨[44]⟩) i.hi
 have k:=Ge.need (w:=⟨[44]⟩) u.hi
 have H:=A.trans (i.trans g)
 have D:=b1.trans (u.trans k)
 have e:=J _ (f.ge H) g.hi
 have r:=y _ (E.ge D) k.hi
 have q:=Ge.need (w:=⟨[41]⟩) e.hi
 have j:=Ge.need (w:=⟨[41]⟩) r.hi
 refine RA (a:=((),s.need ⟨[40]⟩)) (b:=((),t.need ⟨[40]⟩)) hc h A (Yn hc h _) (i.trans (g.trans (e.trans q))) (u.trans (k.trans (r.trans j))) fun C _=> ?_
 refine RA hc C i (a1c hc C) (g.trans (e.trans q)) (k.trans (r.trans j)) fun B L=> ?_
 refine RA (a:=((),(s.need ⟨[40]⟩).func.2.need ⟨[44]⟩)) (b:=((),(t.need ⟨[40]⟩).func.2.need ⟨[44]⟩)) hc B g (Yn hc B _) (e.trans q) (r.trans j) fun F _=> ?_
 refine RA hc F e (K _ _ (f.ge H) (E.ge D) F) q j fun O I=> ?_
 refine(Yn hc O ⟨[41]⟩).map (fun _=>QO ?_ (WA I rfl))
 rw[L]
 exact congrArg (fun l=>Je 9 l (t.need ⟨[40]⟩).func.1) P
theorem d9m(hc:CmOK c){ln ln':Int}(B:c.z ln=c.z ln')(h:Rl c s t):YM c (VT c) (JK ln s) (JK ln' t):=by
 have j:=Ge.need (w:=⟨[91]⟩) h.hs
 have b1:=Ge.need (w:=⟨[91]⟩) h.ht
 have g:=Ge.linear j.hi
 have q:=Ge.linear b1.hi
 have k:=Ge.need (w:=⟨[93]⟩) g.hi
 have r:=Ge.need (w:=⟨[93]⟩) q.hi
 refine RA (a:=((),s.need ⟨[91]⟩)) (b:=((),t.need ⟨[91]⟩)) hc h j (Yn hc h _) (g.trans k) (q.trans r) fun i _=> ?_
 refine bdS hc i g (SN hc i) k r (fun y _ e=>X9 (XW hc i g y e) _) fun u A=> ?_
 refine(Yn hc u ⟨[93]⟩).map (fun _=>QO ?_ rfl)
 rw[A]
 exact congrArg (fun l=>({ndK 4 l with sizes:=[(t.need ⟨[91]⟩).linear.1]}:Nd)) B
theorem a5b{u:PS}(h:u.l.length<=u.i):(Xn ex u).2.bad=true:=by
 have e:(u.peek 0).k=0:=by rw[WB (by omega)]
 unfold Xn
 dsimp only
 have nx : ∀ w:Str,¬ u.next w=true:=fun w=>by rw[Wj h];decide
 rw[e,if_neg (by decide),if_neg (by decide),if_neg (nx _),if_neg (nx _),if_neg (nx _),if_neg (nx _),if_neg (nx _),if_neg (nx _),if_neg (nx _),if_neg (nx _)]
 rfl
theorem e7c(hc:CmOK c)(D:Gr N ex)(z:Gr M ex')(F:SX c N M ex ex')(f:Yo (N+1) s)(K:Yo (M+1) t)(h:Rl c s t):YM c (VT c) (Xn ex s) (Xn ex' t):=by
 by_cases hi:s.i<c.n
 ·have k:=h.pk hc (j:=0) hi
  have l:=k.ln.symm
  have st : ∀ {w:Str},s.next w=true->Rl c s.step t.step∧Yo N s.step∧Yo M t.step:=fun {w} q=>
   ⟨h.stepN hc hi q,f.step (Zh q),K.step (Zh (s:=t) (w:=w) (by rw[h.nx hc hi];exact q))⟩
  unfold Xn
  dsimp only
  rw[k.k]
  by_cases q:(s.peek 0).k=3
  ·rw[if_pos q,if_pos q]
   exact(DW hc h 2147483647).map (fun e=>QO (by rw[e];exact congrArg (fun l=>({Je 2 l ⟨Vv⟩with num:=(t.num 2147483647).1}:Nd)) l) rfl)
  rw[if_neg q,if_neg q]
  by_cases q:(s.peek 0).k=1
  ·rw[if_pos q,if_pos q]
   exact c7t hc D z F f K h hi q
  rw[if_neg q,if_neg q]
  have nx:=h.nx hc hi
  by_cases q:s.next ⟨[116,114,117,101]⟩=true
  ·rw[if_pos q,if_pos (show t.next ⟨[116,114,117,101]⟩=true from by rw[nx];exact q)]
   exact(st q).1.outE (QO (congrArg (fun l=>({Je 2 l ⟨XJ⟩with num:=1}:Nd)) l) rfl)
  rw[if_neg q,if_neg (show ¬ t.next ⟨[116,114,117,101]⟩=true from by rw[nx];exact q)]
  by_cases q:s.next ⟨[102,97,108,115,101]⟩=true
  ·rw[if_pos q,if_pos (show t.next ⟨[102,97,108,115,101]⟩=true from by rw[nx];exact q)]
   exact(st q).1.outE (QO (congrArg (fun l=>Je 2 l ⟨XJ⟩) l) rfl)
  rw[if_neg q,if_neg (show ¬ t.next ⟨[102,97,108,115,101]⟩=true from by rw[nx];exact q)]
  by_cases q:s.next ⟨[40]⟩=true
  ·rw[if_pos q,if_pos (show t.next ⟨[40]⟩=true from by rw[nx];exact q)]
   obtain⟨g,C,A⟩:=st q
   have E:=D _ C g.hs
   have I:=z _ A g.ht
   refine RA hc g E (F _ _ C A g) (Ge.need E.hi) (Ge.need I.hi) fun J v=> ?_
   exact(Yn hc J ⟨[41]⟩).map (fun _=>v)
  rw[if_neg q,if_neg (show ¬ t.next ⟨[40]⟩=true from by rw[nx];exact q)]
  by_cases q:s.next ⟨[91]⟩=true
  ·rw[if_pos q,if_pos (show t.next ⟨[91]⟩=true from by rw[nx];exact q)]
   obtain⟨g,C,A⟩:=st q
   have E:=Ge.listL (B:=Yo N) (fun s t h k=>h.ge k) (fun s h k=>D s h k) C g.hs
   have I:=Ge.listL (B:=Yo M) (fun s t h k=>h.ge k) (fun s h k=>z s h k) A g.ht
   refine bdS (V:=VTs c) hc g E (Mv (P:=Yo N) (P':=Yo M) (V:=VT c) hc (fun s u a b=>a.ge b) (fun s u a b=>a.ge b) (fun s a b=>D s a b) (fun s a b=>z s a b) (fun s t a b r=>(F s t a b r).out) (fun o o' x y e L=>b8x e L) (fun x y e=>WA e rfl) C A g) (Ge.need E.hi) (Ge.need I.hi) (fun H _ e=>X9 (XW hc g E H e) _) fun J v=> ?_
   exact(Yn hc J ⟨[93]⟩).map (fun _=>QO (congrArg (fun l=>ndK 7 l) l) v)
  rw[if_neg q,if_neg (show ¬ t.next ⟨[91]⟩=true from by rw[nx];exact q)]
  by_cases q:s.next ⟨[102,111,108,100]⟩=true
  ·rw[if_pos q,if_pos (show t.next ⟨[102,111,108,100]⟩=true from by rw[nx];exact q)]
   obtain⟨g,C,A⟩:=st q
   exact e8m hc D z F l C A g
  rw[if_neg q,if_neg (show ¬ t.next ⟨[102,111,108,100]⟩=true from by rw[nx];exact q)]
  by_cases q:s.next ⟨[115,99,97,110]⟩=true
  ·rw[if_pos q,if_pos (show t.next ⟨[115,99,97,110]⟩=true from by rw[nx];exact q)]
   obtain⟨g,C,A⟩:=st q
   exact e7v hc D z F l C A g
  rw[if_neg q,if_neg (show ¬ t.next ⟨[115,99,97,110]⟩=true from by rw[nx];exact q)]
  by_cases q:s.next ⟨[115,105,122,101]⟩=true
  ·rw[if_pos q,if_pos (show t.next ⟨[115,105,122,101]⟩=true from by rw[nx];exact q)]
   exact d9m hc l (st q).1
  rw[if_neg q,if_neg (show ¬ t.next ⟨[115,105,122,101]⟩=true from by rw[nx];exact q)]
  by_cases q:s.next ⟨[35]⟩=true
  ·rw[if_pos q,if_pos (show t.next ⟨[35]⟩=true from by rw[nx];exact q)]
   exact(f8n hc (st q).1).map (fun e=>QO (by rw[e];exact congrArg (fun l=>({ndK 3 l with elem:=t.step.arr.1.e,dims:=t.step.arr.1.d,data:=t.step.arr.1.x}:Nd)) l) rfl)
  rw[if_neg q,if_neg (show ¬ t.next ⟨[35]⟩=true from by rw[nx];exact q)]
  exact h.failE hc hi _ _
 ·exact YM.dead hc h (Ge.prim D f h.hs) (by omega) fun H e=>a5b (XW hc h (Ge.refl h.hs) H e)
end
end
section
section
variable {c:Cm} {s t:PS} {N M:Nat} {ex ex':PS->Tm×PS} {un un':PS->(Tm×Int)×PS}
theorem c0l{u:PS}(h:u.l.length<=u.i):(U7 ex un u).2.bad=true:=by
 unfold U7
 dsimp only
 rw[Wj h,Wj h,Bool.false_and,Bool.or_false,if_neg (by decide),if_neg (by decide)]
 exact a5b h
theorem d0i{s:PS}(hu:PE N un)(g:Yo (N+1) s)(hn:s.next ⟨[45]⟩=true∨s.next ⟨[33]⟩=true):Ge s.step (U7 ex un s).2:=by
 have hi:s.i<s.l.length:=by rcases hn with h|h <;> exact Zh h
 have e:=Ge.step hi
 unfold U7
 dsimp only
 split
 ·exact Ge.num e.hi
 ·rw[if_pos (by rcases hn with h|h <;> simp[h])]
  exact hu _ (g.step hi) e.hi
theorem f6n(hc:CmOK c)(D:Gr N ex)(B:Gr M ex')(J:SX c N M ex ex')(hu:PE N un)(hu':PE M un')(Q:SU c N M un un')(L:WU N un)(f:Yo (N+1) s)(F:Yo (M+1) t)(h:Rl c s t):YM c (VU c) (U7 ex un s) (U7 ex' un' t):=by
 have g:=Ge.una D hu f h.hs
 by_cases hi:s.i<c.n
 ·have k:=h.pk hc (j:=0) hi
  have l:=k.ln.symm
  by_cases hn:s.next ⟨[45]⟩=true∨s.next ⟨[33]⟩=true
  ·have C:s.i<s.l.length:=by rcases hn with h|h <;> exact Zh h
   have u:Rl c s.step t.step:=by rcases hn with q|q <;> exact h.stepN hc hi q
   have y:t.next ⟨[45]⟩=true∨t.next ⟨[33]⟩=true:=by rw[h.nx hc hi,h.nx hc hi];exact hn
   have O:t.i<t.l.length:=by rcases y with h|h <;> exact Zh h
   have H:=d0i (ex:=ex) hu f hn
   by_cases hj:s.i+1<c.n
   ·have P:=h.pk hc (j:=1) hj
    unfold U7
    dsimp only
    rw[h.nx hc hi,h.nx hc hi,P.k]
    split
    ·exact(DW hc u 2147483648).map (fun e=>⟨QO (by rw[e];exact congrArg (fun l=>({Je 2 l ⟨Vv⟩with num:=IntKind.i64.wrap (-(t.step.num 2147483648).1)}:Nd)) l) rfl,l⟩)
    ·rw[if_pos (by rcases hn with h|h <;> simp[h]),if_pos (by rcases hn with h|h <;> simp[h])]
     refine(Q _ _ (f.step C) (F.step O) u).map (fun e=>⟨QO ?_ (WA e.1 rfl),l⟩)
     rw[k.t]
     exact congrArg (fun l=>Je 6 l (J7 (s.peek 0).t true).a) l
   ·refine⟨fun b1 r=> ?_,fun b1 r=>absurd r (H.wk hc h.la h.za h.sb (show c.n<=s.i+1 by omega) b1)⟩
    exfalso
    have I:=H.le
    have I:s.i+1<=(U7 ex un s).2.i:=I
    rcases r with r|⟨A,r⟩
    ·omega
    ·have el:s.l.length=s.i+1:=by rw[h.la,<- (hc.en A).1];omega
     have K:(s.peek 1).k=0:=by rw[WB (by omega)]
     unfold U7 at b1
     dsimp only at b1
     rw[K,decide_eq_false (show ¬ (0:Int)=3 by decide),Bool.and_false,if_neg (by decide),if_pos (by rcases hn with h|h <;> simp[h])]at b1
     have w:=L s.step (by show ZX s.l=true;rw[h.la];exact hc.lx) (f.step C) u.hs b1
     have p:=b8p (un s.step).1.1
     have E:=hu _ (f.step C) u.hs
     have z:=E.hi
     rw[E.l]at z
     have z:(un s.step).2.i<=s.l.length:=z
     have e2:s.step.i=s.i+1:=rfl
     omega
  ·have h1:s.next ⟨[45]⟩=false:=by cases e:s.next ⟨[45]⟩ <;> simp_all
   have h2:s.next ⟨[33]⟩=false:=by cases e:s.next ⟨[33]⟩ <;> simp_all
   unfold U7
   dsimp only
   rw[h.nx hc hi,h.nx hc hi,h1,h2,Bool.false_and,Bool.false_and,Bool.or_false,if_neg (by decide),if_neg (by decide),if_neg (by decide),if_neg (by decide)]
   exact(e7c hc D B J f F h).map (fun e=>⟨e,l⟩)
 ·exact YM.dead hc h g (by omega) fun A e=>c0l (XW hc h (Ge.refl h.hs) A e)
theorem Rl.oper(hc:CmOK c)(h:Rl c s t)(q:s.i<c.n):t.oper.1=s.oper.1:=by
 have k:=h.pk hc (j:=0) q
 unfold PS.oper
 rw[k.k,k.t]
 split <;> rfl
theorem c8a{u:PS}(h:u.l.length<=u.i):u.oper.1.2=0:=by
 unfold PS.oper
 rw[WB (by omega)]
 rfl
theorem c4c(hc:CmOK c)(h:Rl c s t)(g:c.E)(q:s.i=c.n):t.oper.1.2=0:=by
 have e:t.peek 0=c.b (c.d+c.n):=by unfold PS.peek Cm.b;rw[h.lb,h.zb,h.i,q];rfl
 unfold PS.oper
 rw[e]
 split
 ·exact(hc.en g).2.op ‹_›
 ·rfl
theorem LX(hc:CmOK c){D i:PS->(Tm×Int)×PS}{lev:Int}(g:lev≠0)(E:PE (N+1) D)(j:PE (M+1) i)(H:SU c (N+1) (M+1) D i): ∀ (n m:Nat) {s t:PS} {l l':Tm} {ln ln':Int},Rl c s t->Yo (N+1) s->Yo (M+1) t->Yo n s->Yo m t->In c s->VT c l l'->c.z ln=c.z ln'->YM c (VU c) (opLoop D lev ln n s l) (opLoop i lev ln' m t l')
 | 0,_,s,t,l,l',ln,ln',h,f,f',f1,f2,q,v,e=>by unfold Yo at f1;omega
 | _+1,0,s,t,l,l',ln,ln',h,f,f',f1,f2,q,v,e=>by unfold Yo at f2;omega
 | n+1,m+1,s,t,l,l',ln,ln',h,f,f',f1,f2,q,v,e=>by
  rw[opLoop,opLoop,if_neg h.nb,if_neg h.nt]
  rcases q with q|⟨I,q⟩
  ·have J:=h.oper hc q
   rw[J]
   split
   ·exact h.outE ⟨v,e⟩
   ·rename_i q2
    have F:=Di (s:=s) (by omega)
    have C:=Di (s:=t) (by rw[J];omega)
    have y:=h.stepR F C
    have u:=f.ge (Ge.step F)
    have A:=f'.ge (Ge.step C)
    have k:=E _ u y.hs
    have B:=j _ A y.ht
    split
    ·exact(H _ _ u A y).map (fun w=>⟨QO (congrArg (fun l=>Je 6 l s.oper.1.1) e) (WA v (WA w.1 rfl)),e⟩)
    ·refine bdI hc y k (H _ _ u A y) (Ge.opLoop g E n (u.ge k) k.hi) (Ge.opLoop g j m (A.ge B) B.hi) fun r w K=> ?_
     exact LX hc g E j H n m r (u.ge k) (A.ge B) ((f1.step F).ge k) ((f2.step C).ge B) K (QO (congrArg (fun l=>Je 6 l s.oper.1.1) e) (WA v (WA w.1 rfl))) e
  ·rw[if_pos (by rw[c8a (XW hc h (Ge.refl h.hs) I q)];exact g.symm),if_pos (by rw[c4c hc h I q];exact g.symm)]
   exact h.outE ⟨v,e⟩
theorem b9b(hc:CmOK c)(y:PE (N+1) un)(g:PE (M+1) un')(z:SU c (N+1) (M+1) un un'): ∀ d:Nat,d<=5->SU c (N+1) (M+1) (YN un d) (YN un' d)
 | 0,_=>z
 | d+1,hd=>fun s t f k h=>by
  have u:=Ge.from y d (by omega)
  have e:=Ge.from g d (by omega)
  have j:=u s f h.hs
  have l:=e t k h.ht
  have i:=b9b hc y g z d (by omega)
  rw[YN,YN]
  refine bdI hc h j (i s t f k h) (Ge.opLoop (by omega) u _ (f.ge j) j.hi) (Ge.opLoop (by omega) e _ (k.ge l) l.hi) fun r v q=> ?_
  exact LX hc (by omega) u e i _ _ r (f.ge j) (k.ge l) (XQ j) (XQ l) q v.1 v.2
theorem e8n{e:PS->(Tm×Int)×PS}{lev ln:Int}{n:Nat}{u:PS}{l:Tm}(h:u.bad=true):(opLoop e lev ln n u l).2.bad=true:=by
 cases n with
 | zero=>exact h
 | succ n=>rw[opLoop,if_pos h];exact h
theorem a7c{u:PS}(h:(un u).2.bad=true): ∀ d:Nat,(YN un d u).2.bad=true
 | 0=>h
 | d+1=>by rw[YN];exact e8n (a7c h d)
theorem g2i(hc:CmOK c)(L:Gr N ex)(y:Gr M ex')(Z:SX c N M ex ex')(S:PE (N+1) un)(J:PE (M+1) un')(su:SU c (N+1) (M+1) un un')(he : ∀ u:PS,u.l.length<=u.i->(un u).2.bad=true)(f:Yo (N+1) s)(U:Yo (M+1) t)(h:Rl c s t):YM c (VT c) (exB ex un s) (exB ex' un' t):=by
 by_cases hi:s.i<c.n
 ·have k:=h.pk hc (j:=0) hi
  have l:=k.ln.symm
  unfold exB
  dsimp only
  rw[h.nx hc hi]
  split
  ·rename_i q
   have q':t.next ⟨[108,101,116]⟩=true:=by rw[h.nx hc hi];exact q
   have C:=h.stepN hc hi q
   have H:=f.step (Zh q)
   have g:=U.step (Zh q')
   have K:=Ge.name C.hs
   have T:=Ge.name C.ht
   have E:=Ge.need (w:=⟨[61]⟩) K.hi
   have I:=Ge.need (w:=⟨[61]⟩) T.hi
   have P:=K.trans E
   have O:=T.trans I
   have A:=L _ (H.ge P) E.hi
   have D:=y _ (g.ge O) I.hi
   have r:=Ge.need (w:=⟨[105,110]⟩) A.hi
   have z:=Ge.need (w:=⟨[105,110]⟩) D.hi
   have A5:=P.trans (A.trans r)
   have Y:=O.trans (D.trans z)
   have B:=L _ (H.ge A5) r.hi
   have F:=y _ (g.ge Y) z.hi
   refine RA hc C K (Qq hc C) (E.trans (A.trans (r.trans B))) (I.trans (D.trans (z.trans F))) fun Q v2=> ?_
   refine RA (a:=((),s.step.name.2.need ⟨[61]⟩)) (b:=((),t.step.name.2.need ⟨[61]⟩)) hc Q E (Yn hc Q _) (A.trans (r.trans B)) (D.trans (z.trans F)) fun V _=> ?_
   refine RA hc V A (Z _ _ (H.ge P) (g.ge O) V) (r.trans B) (z.trans F) fun W v4=> ?_
   refine RA (a:=((),(ex (s.step.name.2.need ⟨[61]⟩)).2.need ⟨[105,110]⟩)) (b:=((),(ex' (t.step.name.2.need ⟨[61]⟩)).2.need ⟨[105,110]⟩)) hc W r (Yn hc W _) B F fun r5 _=> ?_
   refine(Z _ _ (H.ge A5) (g.ge Y) r5).map (fun v6=>QO ?_ (WA v4 (WA v6 rfl)))
   rw[v2]
   exact congrArg (fun l=>Je 5 l t.step.name.1) l
  ·exact(b9b hc S J su 5 (by omega) s t f U h).map (fun v=>v.1)
 ·refine YM.dead hc h (Ge.exp1 L S f h.hs) (by omega) fun hE e=> ?_
  have X:=XW hc h (Ge.refl h.hs) hE e
  unfold exB
  rw[if_neg (by rw[Wj X];decide)]
  exact a7c (he s X) 5
end
theorem d6s{c:Cm}(hc:CmOK c): ∀ N M:Nat,SX c N M (Z4 N) (Z4 M)∧SU c N M (QA N) (QA M)
 | 0,_=>⟨fun s t f _ _=>by unfold Yo at f;omega,fun s t f _ _=>by unfold Yo at f;omega⟩
 | _+1,0=>⟨fun s t _ f _=>by unfold Yo at f;omega,fun s t _ f _=>by unfold Yo at f;omega⟩
 | N+1,M+1=>by
  obtain⟨i,j⟩:=d6s hc N M
  have e:SU c (N+1) (M+1) (QA (N+1)) (QA (M+1)):=fun s t f g h=>by
   rw[KN,KN]
   exact f6n hc (Wx N).1 (Wx M).1 i (Wx N).2 (Wx M).2 j (b3x N).2 f g h
  exact⟨fun s t f g h=>by
   rw[QR,QR]
   exact g2i hc (Wx N).1 (Wx M).1 i (Wx (N+1)).2 (Wx (M+1)).2 e (fun u hu=>by rw[KN];exact c0l hu) f g h,e⟩
end
section
section
variable {c:Cm} {s t:PS}
theorem c2m(hc:CmOK c)(h:Rl c s t)(row:Bool):WS c Eq (s.dims row) (t.dims row):=by
 by_cases hi:s.i<c.n
 ·have j : ∀ {s t:PS},Rl c s t->WS c Eq (listL PS.linear s) (listL PS.linear t):=fun r=>Hr (one:=PS.linear) hc (fun s h=>Ge.linear h) (fun s t r=>SN hc r) r
  unfold PS.dims
  rw[h.nx hc hi]
  by_cases q:s.next ⟨[93]⟩=true
  ·rw[if_pos q,if_pos q];exact(h.outE rfl).out
  ·rw[if_neg q,if_neg q]
   cases row with
   | false=>
    rw[if_neg Bool.false_ne_true,if_neg Bool.false_ne_true,if_neg h.nb,if_neg h.nt]
    exact j h
   | true=>
    rw[if_pos rfl,if_pos rfl]
    have e:=Ge.need (w:=⟨[44]⟩) h.hs
    have k:=Ge.need (w:=⟨[44]⟩) h.ht
    have g : ∀ {u:PS},u.i<=u.l.length->Ge u (if u.bad=true then(([]:List Lin),u)else listL PS.linear u).2:=fun {u} hu=>by
     split
     ·exact Ge.refl hu
     ·exact Ge.list (one:=PS.linear) (fun s h=>Ge.linear h) hu
    refine bdO (a:=((),s.need ⟨[44]⟩)) (b:=((),t.need ⟨[44]⟩)) hc h e (Yn hc h _).out (g e.hi) (g k.hi) fun r _=> ?_
    have r:Rl c (s.need ⟨[44]⟩) (t.need ⟨[44]⟩):=r
    rw[if_neg r.nb,if_neg r.nt]
    exact j r
 ·exact WS.dead hc h (Ge.dims h.hs) (by omega)
theorem PM{s:PS}(hb:s.bad=false)(e:(s.peek 0).k=1):Ge s.step s.shape.2:=by
 have hi:=Y1 (s:=s) (by rw[e];decide)
 have A:=Ge.step hi
 have en:s.name=((s.peek 0).t,s.step):=ER e
 have nx : ∀ w:Str,s.next w=false:=fun w=>by unfold PS.next;rw[e];rfl
 unfold PS.shape
 split
 ·rename_i q
  have C:=PL q
  have u:Ge s.step s.step.step:=Ge.step (by show s.i+1<s.l.length;exact C)
  rw[en]
  have y:=Ge.dims (row:=true) u.hi
  exact u.trans (y.trans (Ge.need y.hi))
 ·have z:s.dims false=listL PS.linear s:=by
   unfold PS.dims
   rw[nx,if_neg Bool.false_ne_true,if_neg Bool.false_ne_true,if_neg (by rw[hb];decide)]
  have j:Ge s.step s.linear.2:=by
   have g:s.lin0.2=s.step:=by
    unfold PS.lin0
    rw[nx,if_neg (by decide)]
    unfold PS.item
    rw[if_pos e,en]
   have:=Ge.linLoop (s.l.length+1) (s:=s.lin0.2) (l:=s.lin0.1) (by rw[g];exact A.hi)
   rw[g]at this
   unfold PS.linear
   rw[g]
   exact this
  have r:Ge s.linear.2 (listL PS.linear s).2:=Ge.moreL (B:=fun _=>True) (fun _ _ _ _=>trivial) (fun s _ h=>Ge.linear h) _ trivial j.hi
  rw[z]
  exact j.trans (r.trans (Ge.need r.hi))
theorem c5q{s:PS}(hb:s.bad=false)(e:(s.peek 0).k=1)(C:s.l.length<=s.i+1):s.shape.2.bad=true:=by
 have g:=PM hb e
 have A:s.isRow=false:=by unfold PS.isRow;rw[WB (k:=1) C,e];rfl
 have nx : ∀ w:Str,s.next w=false:=fun w=>by unfold PS.next;rw[e];rfl
 have hi:=Y1 (s:=s) (by rw[e];decide)
 have y:=Ge.step hi
 have u:s.dims false=listL PS.linear s:=by
  unfold PS.dims
  rw[nx,if_neg Bool.false_ne_true,if_neg Bool.false_ne_true,if_neg (by rw[hb];decide)]
 have j:Ge s.step s.linear.2:=by
  have D:s.lin0.2=s.step:=by
   unfold PS.lin0
   rw[nx,if_neg (by decide)]
   unfold PS.item
   rw[if_pos e,ER e]
  unfold PS.linear
  rw[D]
  exact Ge.linLoop _ y.hi
 have q:Ge s.linear.2 (listL PS.linear s).2:=Ge.moreL (B:=fun _=>True) (fun _ _ _ _=>trivial) (fun s _ h=>Ge.linear h) _ trivial j.hi
 unfold PS.shape
 rw[A,if_neg Bool.false_ne_true,u]
 refine X9 ?_ _
 have r:=(j.trans q).le
 have r:s.i+1<=(listL PS.linear s).2.i:=r
 have z:(listL PS.linear s).2.l=s.l:=(j.trans q).l
 rw[z]
 omega
theorem d9s(hc:CmOK c)(h:Rl c s t):YM c Eq s.shape t.shape:=by
 have g:=Ge.shape h.hs
 by_cases hi:s.i<c.n
 ·have k:=h.pk hc (j:=0) hi
  have q:s.isRow=false->t.isRow=false->YM c Eq s.shape t.shape:=fun A N=>by
   have y:=Ge.dims (row:=false) h.hs
   have D:=Ge.dims (row:=false) h.ht
   unfold PS.shape
   rw[A,N,if_neg Bool.false_ne_true,if_neg Bool.false_ne_true]
   refine bdS hc h y (c2m hc h false) (Ge.need y.hi) (Ge.need D.hi) (fun z _ e=>X9 (XW hc h y z e) _) fun r v=> ?_
   exact(Yn hc r ⟨[93]⟩).map (fun _=>by rw[v])
  by_cases hk:(s.peek 0).k=1
  ·by_cases hj:s.i+1<c.n
   ·have J:=h.pk hc (j:=1) hj
    have H:t.isRow=s.isRow:=by unfold PS.isRow;rw[k.k,J.k,J.t]
    cases e:s.isRow with
    | false=>exact q e (H.trans e)
    | true=>
     have F:=H.trans e
     have L:=h.step hc hi (by rw[hk];decide)
     have en:s.name=((s.peek 0).t,s.step):=Bo e
     have E:t.name=((t.peek 0).t,t.step):=Bo F
     have B:Rl c s.step.step t.step.step:=L.stepR (show s.i+1<s.l.length from PL e) (show t.i+1<t.l.length from PL F)
     have y:=Ge.dims (row:=true) B.hs
     have D:=Ge.dims (row:=true) B.ht
     unfold PS.shape
     rw[e,F,if_pos rfl,if_pos rfl,en,E]
     refine bdS hc B y (c2m hc B true) (Ge.need y.hi) (Ge.need D.hi) (fun z _ e=>X9 (XW hc B y z e) _) fun r v=> ?_
     exact(Yn hc r ⟨[93]⟩).map (fun _=>by rw[v,k.t])
   ·have I:=PM h.sb hk
    refine⟨fun b1 C=> ?_,fun b1 C=>absurd C (I.wk hc h.la h.za h.sb (show c.n<=s.i+1 by omega) b1)⟩
    exfalso
    have A:=I.le
    have A:s.i+1<=s.shape.2.i:=A
    rcases C with C|⟨z,C⟩
    ·omega
    ·rw[c5q h.sb hk (by rw[h.la,<- (hc.en z).1];omega)]at b1
     cases b1
  ·have K : ∀ {u:PS},(u.peek 0).k≠1->u.isRow=false:=fun {u} hu=>by unfold PS.isRow;rw[decide_eq_false hu];rfl
   exact q (K hk) (K (by rw[k.k];exact hk))
 ·refine YM.dead hc h g (by omega) fun z e=> ?_
  have A:=XW hc h (Ge.refl h.hs) z e
  have M:s.isRow=false:=by unfold PS.isRow;rw[WB (k:=0) A];rfl
  unfold PS.shape
  rw[M,if_neg Bool.false_ne_true]
  refine X9 ?_ _
  have y:=Ge.dims (row:=false) h.hs
  have:=y.le
  rw[y.l]
  omega
theorem e5t(hc:CmOK c)(h:Rl c s t):YM c Eq s.elem t.elem:=by
 by_cases hi:s.i<c.n
 ·unfold PS.elem
  rw[h.nx hc hi,h.nx hc hi]
  by_cases q:s.next ⟨Vv⟩=true
  ·rw[if_pos q,if_pos q];exact(h.stepN hc hi q).outE rfl
  ·rw[if_neg q,if_neg q]
   by_cases q:s.next ⟨XJ⟩=true
   ·rw[if_pos q,if_pos q];exact(h.stepN hc hi q).outE rfl
   ·rw[if_neg q,if_neg q];exact h.failE hc hi _ _
 ·refine YM.dead hc h (Ge.elem h.hs) (by omega) fun j e=> ?_
  have g:=XW hc h (Ge.refl h.hs) j e
  unfold PS.elem
  rw[if_neg (by rw[Wj g];decide),if_neg (by rw[Wj g];decide)]
  rfl
theorem c6j(hc:CmOK c)(h:Rl c s t):WS c Eq s.shape0 t.shape0:=by
 by_cases hi:s.i<c.n
 ·unfold PS.shape0
  rw[h.nx hc hi]
  by_cases q:s.next ⟨[91]⟩=true
  ·rw[if_pos q,if_pos q];exact(d9s hc (h.stepN hc hi q)).out
  ·rw[if_neg q,if_neg q];exact(h.outE rfl).out
 ·exact WS.dead hc h (Ge.shape0 h.hs) (by omega)
theorem e0s(hc:CmOK c)(h:Rl c s t):YM c Eq s.typ t.typ:=by
 have i:=Ge.shape0 h.hs
 have y:=Ge.shape0 h.ht
 have g:=Ge.elem i.hi
 have j:=Ge.elem y.hi
 refine bdS hc h i (c6j hc h) (g.trans (Ge.wide g.hi)) (j.trans (Ge.wide j.hi)) (fun q _ e=> ?_) fun r v=> ?_
 ·have k:=XW hc h i q e
  show s.shape0.2.elem.2.bad=true
  unfold PS.elem
  rw[if_neg (by rw[Wj k];decide),if_neg (by rw[Wj k];decide)]
  rfl
 ·refine RA hc r g (e5t hc r) (Ge.wide g.hi) (Ge.wide j.hi) fun l u=> ?_
  have et:t.typT=s.typT:=by unfold PS.typT;rw[v,u]
  unfold PS.typ
  rw[et]
  exact(l.wide _).outE rfl
theorem d7k(hc:CmOK c)(h:Rl c s t):WS c Eq s.param t.param:=by
 have j:=Ge.name h.hs
 have k2:=Ge.name h.ht
 have g : ∀ {u:PS},u.i<=u.l.length->Ge u.name.2 u.param.2:=fun {u} hu=>by
  unfold PS.param
  split
  ·have a:=Ge.step (Zh ‹_›)
   exact a.trans (Ge.typ a.hi)
  ·exact Ge.refl (Ge.name hu).hi
 refine bdO hc h j (Qq hc h).out (g h.hs) (g h.ht) fun r v=> ?_
 by_cases hj:s.name.2.i<c.n
 ·unfold PS.param
  rw[r.nx hc hj,v]
  by_cases q:s.name.2.next ⟨[58]⟩=true
  ·rw[if_pos q,if_pos q]
   exact((e0s hc (r.stepN hc hj q)).map (fun e=>by rw[e])).out
  ·rw[if_neg q,if_neg q];exact(r.outE rfl).out
 ·exact WS.dead hc r (g h.hs) (by omega)
end
end
section
structure ZOK (c:Cm):Prop where
 v : ∀ a b:Tm,zT c.z a=zT c.z b->Xh a=Xh b
 g : ∀ a b:Int,c.z a=c.z b->decide (a>10000)=decide (b>10000)
structure VDf (c:Cm) (x y:Df):Prop where
 name:x.name=y.name
 line:c.z x.line=c.z y.line
 ps:x.ps=y.ps
 given:x.given=y.given
 res:x.res=y.res
 body:VT c (.mk x.n x.ks) (.mk y.n y.ks)
def VDb(c:Cm)(x y:Df×Bool):Prop:=VDf c x.1 y.1∧x.2=y.2
section
variable {c:Cm} {s t:PS}
theorem Rl.fewA(hc:CmOK c)(h:Rl c s t):Yo 4001 s∧Yo 4001 t:=by
 have a:=hc.la
 have b:=hc.lb
 refine⟨?_,?_⟩
 ·unfold Yo;rw[h.la];omega
 ·unfold Yo;rw[h.lb];omega
theorem f6f(hc:CmOK c)(h:Rl c s t):WS c Eq s.dfP t.dfP:=by
 by_cases hi:s.i<c.n
 ·unfold PS.dfP
  rw[if_neg h.nb,if_neg h.nt,h.nx hc hi]
  by_cases q:s.next ⟨[41]⟩=true
  ·rw[if_pos q,if_pos q];exact(h.outE rfl).out
  ·rw[if_neg q,if_neg q]
   exact Hr (one:=PS.param) hc (fun s h=>Ge.param h) (fun s t r=>d7k hc r) h
 ·exact WS.dead hc h (Ge.dfP h.hs) (by omega)
theorem f9x(hc:CmOK c)(h:Rl c s t):WS c Eq s.dfR t.dfR:=by
 by_cases hi:s.i<c.n
 ·unfold PS.dfR
  rw[h.nx hc hi]
  by_cases q:s.next ⟨[58]⟩=true
  ·rw[if_pos q,if_pos q]
   exact((e0s hc (h.stepN hc hi q)).map (fun e=>by rw[e])).out
  ·rw[if_neg q,if_neg q];exact(h.outE rfl).out
 ·exact WS.dead hc h (Ge.dfR h.hs) (by omega)
theorem g0h(hc:CmOK c)(l:ZOK c)(h:Rl c s t){d i:Tm->Df}(hd : ∀ x y,VT c x y->VDf c (d x) (i y))(u : ∀ x y,(d x).ps.length=(i y).ps.length)(A : ∀ x y,c.z (d x).line=c.z (i y).line):YM c (VDb c) (s.dfE d) (t.dfE i):=by
 obtain⟨B,q⟩:=h.fewA hc
 have O:YM c (VT c) s.expr t.expr:=(d6s hc 4001 4001).1 s t B q h
 unfold PS.dfE
 rw[if_neg h.nb,if_neg h.nt]
 cases e:s.expr.2.bad with
 | true=>
  rw[if_pos rfl]
  refine⟨fun b=> ?_,fun b1 j=> ?_⟩
  ·have b:s.expr.2.bad=false:=b
   rw[e]at b;cases b
  ·have k:=O.2 e j
   rw[if_pos k.1]
   exact k
 | false=>
  rw[if_neg Bool.false_ne_true]
  refine⟨fun b1 j=> ?_,fun b1 _=> ?_⟩
  ·obtain⟨r,v⟩:=O.1 e j
   rw[if_neg r.nt]
   refine⟨r,hd _ _ v,?_⟩
   show(s.expr.2.big||(!(Xh s.expr.1)||(decide ((d s.expr.1).ps.length>8)||decide ((d s.expr.1).line>10000))))=(t.expr.2.big||(!(Xh t.expr.1)||(decide ((i t.expr.1).ps.length>8)||decide ((i t.expr.1).line>10000))))
   rw[r.big,l.v _ _ v,u s.expr.1 t.expr.1,l.g _ _ (A s.expr.1 t.expr.1)]
  ·have b1:s.expr.2.bad=true:=b1
   rw[e]at b1;cases b1
theorem Rl.small(h:Rl c s t):Rl c s.small t.small:=⟨h.la,h.lb,h.za,h.zb,h.i,h.sb,h.tb,rfl,h.hs,h.ht⟩
theorem f0h(hc:CmOK c)(Z:ZOK c){ln ln':Int}(S:c.z ln=c.z ln')(h:Rl c s t):
  YM c (VDb c) (((((s.name.2.need ⟨[40]⟩).dfP.2.need ⟨[41]⟩).dfR.2.need ⟨[61]⟩)).dfE (Bf s.name.1 ln (s.name.2.need ⟨[40]⟩).dfP.1 (((s.name.2.need ⟨[40]⟩).dfP.2.need ⟨[41]⟩).dfR.1)))
   (((((t.name.2.need ⟨[40]⟩).dfP.2.need ⟨[41]⟩).dfR.2.need ⟨[61]⟩)).dfE (Bf t.name.1 ln' (t.name.2.need ⟨[40]⟩).dfP.1 (((t.name.2.need ⟨[40]⟩).dfP.2.need ⟨[41]⟩).dfR.1))):=by
 have ok : ∀ {u:PS},u.l.length<=4000->(u.l.all d0o=true)->u.i<=u.l.length->Zd u=true:=fun a b d=>by
  unfold Zd
  rw[decide_eq_true a,decide_eq_true d,b];rfl
 have V : ∀ {l:List Tok},ZX l=true->l.all d0o=true:=fun {l} hx=>by
  rw[List.all_eq_true]
  intro x L
  have:=List.all_eq_true.1 hx x L
  unfold a5n at this
  simp only[Bool.and_eq_true]at this
  exact this.2.2.2
 have ps:Zd s=true:=ok (by rw[h.la];exact hc.la) (by rw[h.la];exact V hc.lx) h.hs
 have X:Zd t=true:=ok (by rw[h.lb];exact hc.lb) (by rw[h.lb];exact V hc.ly) h.ht
 have I:=Ge.name h.hs
 have b1:=Ge.name h.ht
 have B:=Ge.need (w:=⟨[40]⟩) I.hi
 have K:=Ge.need (w:=⟨[40]⟩) b1.hi
 have r:=Ge.dfP B.hi
 have J:=Ge.dfP K.hi
 have q:=Ge.need (w:=⟨[41]⟩) r.hi
 have H:=Ge.need (w:=⟨[41]⟩) J.hi
 have g:=Ge.dfR q.hi
 have C:=Ge.dfR H.hi
 have k:=Ge.need (w:=⟨[61]⟩) g.hi
 have D:=Ge.need (w:=⟨[61]⟩) C.hi
 have j:=Ge.dfE (d:=Bf s.name.1 ln (s.name.2.need ⟨[40]⟩).dfP.1 (((s.name.2.need ⟨[40]⟩).dfP.2.need ⟨[41]⟩).dfR.1)) ((I.trans (B.trans (r.trans (q.trans (g.trans k))))).ok ps)
 have A:=Ge.dfE (d:=Bf t.name.1 ln' (t.name.2.need ⟨[40]⟩).dfP.1 (((t.name.2.need ⟨[40]⟩).dfP.2.need ⟨[41]⟩).dfR.1)) ((b1.trans (K.trans (J.trans (H.trans (C.trans D))))).ok X)
 -- at the end of the common part a further word is wanted
 have dead : ∀ {u:PS} (w:Str),Ge s u->Ge (u.need w) (((((s.name.2.need ⟨[40]⟩).dfP.2.need ⟨[41]⟩).dfR.2.need ⟨[61]⟩)).dfE (Bf s.name.1 ln (s.name.2.need ⟨[40]⟩).dfP.1 (((s.name.2.need ⟨[40]⟩).dfP.2.need ⟨[41]⟩).dfR.1))).2->c.E->u.i=c.n->(((((s.name.2.need ⟨[40]⟩).dfP.2.need ⟨[41]⟩).dfR.2.need ⟨[61]⟩)).dfE (Bf s.name.1 ln (s.name.2.need ⟨[40]⟩).dfP.1 (((s.name.2.need ⟨[40]⟩).dfP.2.need ⟨[41]⟩).dfR.1))).2.bad=true:=fun w Y g2 F e=>g2.bad (X9 (XW hc h Y F e) w)
 refine RA hc h I (Qq hc h) (B.trans (r.trans (q.trans (g.trans (k.trans j))))) (K.trans (J.trans (H.trans (C.trans (D.trans A))))) fun U W=> ?_
 refine RA (a:=((),s.name.2.need ⟨[40]⟩)) (b:=((),t.name.2.need ⟨[40]⟩)) hc U B (Yn hc U _) (r.trans (q.trans (g.trans (k.trans j)))) (J.trans (H.trans (C.trans (D.trans A)))) fun M _=> ?_
 refine bdS hc M r (f6f hc M) (q.trans (g.trans (k.trans j))) (H.trans (C.trans (D.trans A))) (fun F _ e=>dead ⟨[41]⟩ (I.trans (B.trans r)) (g.trans (k.trans j)) F e) fun O N=> ?_
 refine RA (a:=((),(s.name.2.need ⟨[40]⟩).dfP.2.need ⟨[41]⟩)) (b:=((),(t.name.2.need ⟨[40]⟩).dfP.2.need ⟨[41]⟩)) hc O q (Yn hc O _) (g.trans (k.trans j)) (C.trans (D.trans A)) fun Q _=> ?_
 refine bdS hc Q g (f9x hc Q) (k.trans j) (D.trans A) (fun F _ e=>dead ⟨[61]⟩ (I.trans (B.trans (r.trans (q.trans g)))) j F e) fun P T=> ?_
 refine RA (a:=((),((s.name.2.need ⟨[40]⟩).dfP.2.need ⟨[41]⟩).dfR.2.need ⟨[61]⟩)) (b:=((),((t.name.2.need ⟨[40]⟩).dfP.2.need ⟨[41]⟩).dfR.2.need ⟨[61]⟩)) hc P k (Yn hc P _) j A fun r6 _=> ?_
 refine g0h hc Z r6 (fun x y v=>⟨W,S,N,congrArg Prod.fst T,congrArg Prod.snd T,?_⟩) (fun x y=>congrArg List.length N) (fun x y=>S)
 show VT c (.mk x.nd x.ks) (.mk y.nd y.ks)
 have ex : ∀ t:Tm,Tm.mk t.nd t.ks=t:=fun t=>by cases t;rfl
 rw[ex,ex]
 exact v
end
end
section
structure Gw (s t:PS):Prop where
 l:t.l=s.l
 sz:t.sz=s.sz
 le:s.i<=t.i
 hi:t.i<=t.l.length
 bad:s.bad=true->t.bad=true
 keep:s.bad=true->t.wr=s.wr
 at_:s.bad=false->t.bad=true-> ∃ p,s.i<=p∧p<=s.l.length∧t.wr=(s.l.getD p ⟨0,⟨[]⟩,0,s.sz⟩).o
theorem Ge.gw{s t:PS}(h:Ge s t):Gw s t:=⟨h.l,h.sz,h.le,h.hi,h.bad,h.keep,h.at_⟩
theorem Gw.trans{s t u:PS}(h:Gw s t)(k:Gw t u):Gw s u:=⟨k.l.trans h.l,k.sz.trans h.sz,Nat.le_trans h.le k.le,k.hi,fun q=>k.bad (h.bad q),fun q=>(k.keep (h.bad q)).trans (h.keep q),fun a b=>by
 cases e:t.bad with
 | true=>
  obtain⟨p,h1,h2,h3⟩:=h.at_ a e
  exact⟨p,h1,h2,(k.keep e).trans h3⟩
 | false=>
  obtain⟨p,h1,h2,h3⟩:=k.at_ e b
  rw[h.l]at h2 h3
  rw[h.sz]at h3
  exact⟨p,Nat.le_trans h.le h1,h2,h3⟩⟩
theorem Gw.small{s:PS}(h:s.i<=s.l.length):Gw s s.small:=⟨rfl,rfl,Nat.le_refl _,h,id,fun _=>rfl,fun a b=>by rw[show s.small.bad=s.bad from rfl,a]at b;cases b⟩
theorem Gw.defP{s:PS}(hs:Zd s=true):Gw s s.defP.2:=by
 have kd:=Ge.need (w:=⟨[100,101,102]⟩) (Zu hs).2
 have e:Gw s s.df0:=kd.gw.trans (Gw.small kd.hi)
 exact e.trans (Ge.defP hs).gw
theorem Gw.ok{s t:PS}(h:Gw s t)(k:Zd s=true):Zd t=true:=by
 have h1:=Zu k
 have h2:=h.hi
 unfold Zd at k ⊢
 simp only[Bool.and_eq_true]at k
 rw[h.l]at h2 ⊢
 rw[k.1,k.2.2,decide_eq_true h2]
 rfl
theorem Gw.defL: ∀ (n:Nat) {s:PS} {w:Int} {o:List Df},Zd s=true->Gw s (Go.Pl.defL n s w o).2
 | 0,s,w,o,h=>(Ge.refl (Zu h).2).gw
 | n+1,s,w,o,h=>by
  rw[Go.Pl.defL]
  split
  ·exact(Ge.refl (Zu h).2).gw
  ·split
   ·have k:=Gw.defP h
    exact k.trans (Gw.defL n (k.ok h))
   ·exact(Ge.refl (Zu h).2).gw
section
variable {α β γ δ:Type} {c:Cm} {s t:PS} {V:α->β->Prop} {W:γ->δ->Prop} {a:α×PS} {b:β×PS} {a':γ×PS} {b':δ×PS}
theorem Gw.wk(hc:CmOK c){u:PS}(g:Gw s u)(j:s.l=c.A)(h:s.sz=c.zA)(sb:s.bad=false)(hn:c.n<=s.i)(e:u.bad=true): ¬ c.Wk u.wr:=by
 obtain⟨p,h1,h2,h3⟩:=g.at_ sb e
 rw[j]at h2 h3
 rw[h]at h3
 rw[h3]
 exact hc.wk p (by omega) h2
theorem bdW(hc:CmOK c)(h:Rl c s t)(g:Gw s a.2)(o:WS c V a b)(j:Gw a.2 a'.2)(u:Gw b.2 b'.2)(k:Rl c a.2 b.2->V a.1 b.1->WS c W a' b'):WS c W a' b':=by
 cases e:a.2.bad with
 | true=>
  refine⟨fun h1=>(by rw[j.bad e]at h1;cases h1),fun h1 h2=> ?_⟩
  rw[j.keep e]at h2 ⊢
  have h3:=o.2 e h2
  exact⟨u.bad h3.1,by rw[u.keep h3.1];exact h3.2⟩
 | false=>
  by_cases q:a.2.i<c.n
  ·have r:=o.1 e q
   exact k r.1 r.2
  ·refine⟨fun _ h2=>absurd h2 (by have:=j.le;omega),fun h1 h2=>absurd h2 (j.wk hc (g.l.trans h.la) (g.sz.trans h.za) e (by omega) h1)⟩
theorem g6s(hc:CmOK c)(h:Rl c s t)(g:Gw s a.2)(hn:c.n<=s.i):WS c V a b:=
 ⟨fun _ h2=>absurd h2 (by have:=g.le;omega),fun h1 h2=>absurd h2 (g.wk hc h.la h.za h.sb hn h1)⟩
end
section
variable {c:Cm} {s t:PS}
theorem Rl.psok(hc:CmOK c)(h:Rl c s t):Zd s=true∧Zd t=true:=by
 have ok : ∀ {u:PS},u.l.length<=4000->(u.l.all d0o=true)->u.i<=u.l.length->Zd u=true:=fun a b d=>by
  unfold Zd
  rw[decide_eq_true a,decide_eq_true d,b];rfl
 have g : ∀ {l:List Tok},ZX l=true->l.all d0o=true:=fun {l} hx=>by
  rw[List.all_eq_true]
  intro x e
  have:=List.all_eq_true.1 hx x e
  unfold a5n at this
  simp only[Bool.and_eq_true]at this
  exact this.2.2.2
 exact⟨ok (by rw[h.la];exact hc.la) (by rw[h.la];exact g hc.lx) h.hs,ok (by rw[h.lb];exact hc.lb) (by rw[h.lb];exact g hc.ly) h.ht⟩
theorem e6v(hc:CmOK c)(l:ZOK c)(h:Rl c s t)(hi:s.i<c.n)(q:s.next ⟨[100,101,102]⟩=true):YM c (VDb c) s.defP t.defP:=by
 have k:=h.pk hc (j:=0) hi
 have e:t.next ⟨[100,101,102]⟩=true:=by rw[h.nx hc hi];exact q
 have u:s.df0=s.step.small:=by unfold PS.df0 PS.need;rw[if_pos q]
 have g:t.df0=t.step.small:=by unfold PS.df0 PS.need;rw[if_pos e]
 have r:=(h.stepN hc hi q).small
 have o:=f0h hc l k.ln.symm r
 unfold PS.defP
 rw[u,g]
 exact o
theorem c2t(hc:CmOK c)(u:ZOK c): ∀ (n m:Nat) {s t:PS} {w w':Int} {o o':List Df},Rl c s t->Yo n s->Yo m t->WS c (fun _ _=>True) (defL n s w o) (defL m t w' o')
 | 0,_,s,t,w,w',o,o',h,f1,f2=>by unfold Yo at f1;omega
 | _+1,0,s,t,w,w',o,o',h,f1,f2=>by unfold Yo at f2;omega
 | n+1,m+1,s,t,w,w',o,o',h,f1,f2=>by
  obtain⟨ps,j⟩:=h.psok hc
  by_cases hi:s.i<c.n
  ·rw[defL,defL,if_neg h.nb,if_neg h.nt,h.nx hc hi]
   by_cases q:s.next ⟨[100,101,102]⟩=true
   ·rw[if_pos q,if_pos q]
    have k:t.next ⟨[100,101,102]⟩=true:=by rw[h.nx hc hi];exact q
    have e:=Gw.defP ps
    have g:=Gw.defP j
    have d1:=SI ps (by rw[h.la];exact hc.lx) q
    have d2:=SI j (by rw[h.lb];exact hc.ly) k
    refine bdW hc h e (e6v hc u h hi q).out (Gw.defL n (e.ok ps)) (Gw.defL m (g.ok j)) fun r _=> ?_
    refine c2t hc u n m r ?_ ?_
    ·have:=Zh q;have:=e.hi;unfold Yo at f1 ⊢;rw[e.l]at this ⊢;omega
    ·have:=Zh k;have:=g.hi;unfold Yo at f2 ⊢;rw[g.l]at this ⊢;omega
   ·rw[if_neg q,if_neg q];exact(h.outE trivial).out
  ·exact g6s hc h (Gw.defL _ ps) (by omega)
theorem a8p(hc:CmOK c)(h:Rl c s t):WS c Eq (listL PS.name s) (listL PS.name t):=Hr (one:=PS.name) hc (fun s h=>Ge.name h) (fun s t r=>(Qq hc r).out) h
theorem c0i(hc:CmOK c): ∀ (n m:Nat) {s t:PS} {o:List Str},Rl c s t->Yo n s->Yo m t->WS c Eq (impL n s o) (impL m t o)
 | 0,_,s,t,o,h,f1,f2=>by unfold Yo at f1;omega
 | _+1,0,s,t,o,h,f1,f2=>by unfold Yo at f2;omega
 | n+1,m+1,s,t,o,h,f1,f2=>by
  by_cases hi:s.i<c.n
  ·rw[impL,impL,h.nx hc hi]
   by_cases q:s.next ⟨[105,109,112,111,114,116]⟩=true
   ·rw[if_pos q,if_pos q]
    have k:t.next ⟨[105,109,112,111,114,116]⟩=true:=by rw[h.nx hc hi];exact q
    have e:=h.stepN hc hi q
    have g:=Ge.list (one:=PS.name) (fun s h=>Ge.name h) e.hs
    have j:=Ge.list (one:=PS.name) (fun s h=>Ge.name h) e.ht
    refine bdO hc e g (a8p hc e) (Ge.jimp n g.hi) (Ge.jimp m j.hi) fun r v=> ?_
    rw[v]
    exact c0i hc n m r ((f1.step (Zh q)).ge g) ((f2.step (Zh k)).ge j)
   ·rw[if_neg q,if_neg q];exact(h.outE rfl).out
  ·exact WS.dead hc h (Ge.jimp _ h.hs) (by omega)
theorem f1g(hc:CmOK c)(h:Rl c s t):WS c Eq s.expo t.expo:=by
 by_cases hi:s.i<c.n
 ·unfold PS.expo
  rw[h.nx hc hi]
  by_cases q:s.next ⟨[101,120,112,111,114,116]⟩=true
  ·rw[if_pos q,if_pos q];exact a8p hc (h.stepN hc hi q)
  ·rw[if_neg q,if_neg q];exact(h.outE rfl).out
 ·exact WS.dead hc h (Ge.jexpo h.hs) (by omega)
end
end
section
section
variable (z:Int->Int)
mutual
theorem e7h: ∀ t:Tm,Xz (zT z t)=Xz t
 | .mk n ks=>by rw[zT,Xz,Xz,a7r ks]
theorem a7r: ∀ ks:List Tm,Yl (TG z ks)=Yl ks
 | []=>rfl
 | k::ks=>by rw[TG,Yl,Yl,e7h k,a7r ks]
end
end
mutual
theorem d9g: ∀ t:Tm,zT id t=t
 | .mk n ks=>by rw[zT,d3p ks];rfl
theorem d3p: ∀ ks:List Tm,TG id ks=ks
 | []=>rfl
 | k::ks=>by rw[TG,d9g k,d3p ks]
end
end
theorem Si{l:List Tok}{k:Nat}(h:k<l.length)(d:Tok):l.getD k d=l[k]:=by rw[List.getD_eq_getElem?_getD,List.getElem?_eq_getElem h];rfl
theorem c0e{l:List Tok}{k:Nat}(h:l.length<=k)(d:Tok):l.getD k d=d:=by rw[List.getD_eq_getElem?_getD,List.getElem?_eq_none h];rfl
section
theorem Ge.jend{s:PS}(h:s.i<=s.l.length):Ge s s.endp:=by
 unfold PS.endp
 split
 ·exact Ge.fail h
 ·exact Ge.refl h
theorem a5m: ∀ (f:Nat) (r:List UInt8) (i:Nat) (ln:Int) (o T:List Tok),r.length<f->o.length+r.length<4000->Wo f r i ln o=⟨o++T,0,0⟩-> ∀ t∈T,(r.drop (t.o - i).toNat).take t.t.s.length=t.t.s
 | 0,r,i,ln,o,T,h,_,_=>by omega
 | f+1,r,i,ln,o,T,h,ho,hl=>by
  rcases MU h ho hl with e|⟨k,T2,_,hk,h1,h2,h3,e,l⟩
  ·subst e
   exact fun t ht=>by cases ht
  ·have j:(o++[(⟨(Zc ⟨r.drop k⟩).1,(Zc ⟨r.drop k⟩).2,ln+Lib.countByte (r.take k) 10,(i+k:Nat)⟩:Tok)]).length+(r.drop (k+(Zc ⟨r.drop k⟩).2.s.length)).length<4000:=by rw[List.length_append,List.length_drop];simp only[List.length_cons,List.length_nil];omega
   have g:=a5m f _ _ _ _ T2 (by rw[List.length_drop];omega) j l
   have off:=(BQ f _ _ _ _ T2 (by rw[List.length_drop];omega) j l).2
   rw[e]
   intro t ht
   rcases List.mem_cons.1 ht with rfl|ht
   ·obtain⟨⟨r0,hr⟩,_⟩:=LK (u:=r.drop k) (w:=(Zc ⟨r.drop k⟩).2.s) h1 rfl
    show(r.drop (((i+k:Nat):Int) - i).toNat).take (Zc ⟨r.drop k⟩).2.s.length=(Zc ⟨r.drop k⟩).2.s
    rw[show(((i+k:Nat):Int) - i).toNat=k by omega]
    generalize (Zc ⟨r.drop k⟩).2.s=w at hr ⊢
    rw[hr,List.take_left]
   ·have q:=g t ht
    have h5:=(off t ht).1
    rw[List.drop_drop]at q
    rw[show(t.o - i).toNat=k+(Zc ⟨r.drop k⟩).2.s.length+(t.o - ((i+k+(Zc ⟨r.drop k⟩).2.s.length:Nat):Int)).toNat by omega]
    exact q
theorem d6u: ∀ (f:Nat) (u:List UInt8) (i j:Nat) (ln ln':Int) (p o:List Tok),u.length<f->p.length+u.length<4000->o.length+u.length<4000->(Wo f u i ln p).c=0-> ∃ g,Wo f u j ln' o=⟨o++g,0,0⟩
 | 0,u,i,j,ln,ln',p,o,h,_,_,_=>by omega
 | f+1,u,i,j,ln,ln',p,o,h,hp,ho,hc=>by
  have hk:=Qy (u.length+1) u
  rw[Wo]at hc
  rw[Wo]
  generalize YX (u.length+1) u=k at *
  by_cases q:k=u.length
  ·rw[if_pos q]
   exact⟨[],by rw[List.append_nil]⟩
  ·rw[if_neg q]at hc
   rw[if_neg q]
   by_cases q1:(Zc ⟨u.drop k⟩).1=0
   ·rw[if_pos q1]at hc;exact absurd (show(6:Int)=0 from hc) (by decide)
   rw[if_neg q1,if_neg (show ¬ p.length=4000 by omega)]at hc
   rw[if_neg q1,if_neg (show ¬ o.length=4000 by omega)]
   have e:=Vz ⟨u.drop k⟩
   have e:(Zc ⟨u.drop k⟩).2.s.length<=(u.drop k).length:=e
   rw[List.length_drop]at e
   have hpos:0<(Zc ⟨u.drop k⟩).2.s.length:=List.length_pos_iff.2 (KJ (ln:=0) (o:=0) q1).ne
   obtain⟨g,l⟩:=d6u f (u.drop (k+(Zc ⟨u.drop k⟩).2.s.length)) (i+k+(Zc ⟨u.drop k⟩).2.s.length) (j+k+(Zc ⟨u.drop k⟩).2.s.length) (ln+Lib.countByte (u.take k) 10) (ln'+Lib.countByte (u.take k) 10)
    (p++[⟨(Zc ⟨u.drop k⟩).1,(Zc ⟨u.drop k⟩).2,ln+Lib.countByte (u.take k) 10,(i+k:Nat)⟩]) (o++[⟨(Zc ⟨u.drop k⟩).1,(Zc ⟨u.drop k⟩).2,ln'+Lib.countByte (u.take k) 10,(j+k:Nat)⟩])
    (by rw[List.length_drop];omega) (by rw[List.length_append,List.length_drop];simp only[List.length_cons,List.length_nil];omega) (by rw[List.length_append,List.length_drop];simp only[List.length_cons,List.length_nil];omega) hc
   rw[l,List.append_assoc]
   exact⟨_,rfl⟩
def nmS(s:List UInt8):Str×PS:=((J6 s).need ⟨[109,111,100,117,108,101]⟩).name
def Li(s:List UInt8):List Str×PS:=impL ((J6 s).l.length+1) (nmS s).2 []
def dsS(s:List UInt8):(Int×List Df)×PS:=defL ((J6 s).l.length+1) (Li s).2.expo.2 (-1) []
def J9(s:List UInt8):PS:=(dsS s).2.endp
theorem b9z{s:List UInt8}(hc:(Yt ⟨s⟩).c=0):((U1 ⟨s⟩).c=6 ↔ (J9 s).bad=true)∧((J9 s).bad=true->(U1 ⟨s⟩).b=(J9 s).wr):=by
 rw[c2c hc]
 show((Xv (nmS s).1 (Li s).1 (Li s).2.expo.1 (dsS s)).c=6 ↔ _)∧(_->(Xv (nmS s).1 (Li s).1 (Li s).2.expo.1 (dsS s)).b=_)
 unfold Xv
 show((if (J9 s).bad then(⟨md0,(J9 s).wr,6⟩:R3 Mdu Int Int)else _).c=6 ↔ _)∧(_->(if (J9 s).bad then(⟨md0,(J9 s).wr,6⟩:R3 Mdu Int Int)else _).b=_)
 by_cases h:(J9 s).bad=true
 ·rw[if_pos h]
  exact⟨⟨fun _=>h,fun _=>rfl⟩,fun _=>rfl⟩
 ·rw[if_neg h]
  refine⟨⟨fun e=> ?_,fun e=>absurd e h⟩,fun e=>absurd e h⟩
  exfalso
  split at e
  ·exact absurd (show(3:Int)=6 from e) (by decide)
  ·split at e
   ·exact absurd (show(3:Int)=6 from e) (by decide)
   ·exact absurd (show(0:Int)=6 from e) (by decide)
theorem d3g(s:List UInt8):Ge (J6 s) ((J6 s).need ⟨[109,111,100,117,108,101]⟩)∧Ge ((J6 s).need ⟨[109,111,100,117,108,101]⟩) (nmS s).2∧Ge (nmS s).2 (Li s).2∧Ge (Li s).2 (Li s).2.expo.2∧Zd (Li s).2.expo.2=true∧Gw (Li s).2.expo.2 (dsS s).2∧Gw (dsS s).2 (J9 s):=by
 have e:=Ge.need (w:=⟨[109,111,100,117,108,101]⟩) (Zu (EY s)).2
 have g:=Ge.name e.hi
 have h:=Ge.jimp ((J6 s).l.length+1) (o:=[]) g.hi
 have i:=Ge.jexpo h.hi
 have p:=(e.trans (g.trans (h.trans i))).ok (EY s)
 have j:=Gw.defL ((J6 s).l.length+1) (w:= -1) (o:=[]) p
 exact⟨e,g,h,i,p,j,(Ge.jend j.hi).gw⟩
theorem e8b{c:Cm}{s t:PS}(hc:CmOK c)(h:Rl c s t)(hA:c.n<=c.A.length)(hB:c.d+c.n<=c.B.length):WS c TT ((),s.endp) ((),t.endp):=by
 by_cases hi:s.i<c.n
 ·have g:s.endp=s.fail:=by unfold PS.endp;rw[if_pos (by rw[h.la];omega)]
  have e:t.endp=t.fail:=by unfold PS.endp;rw[if_pos (by rw[h.lb,h.i];omega)]
  rw[g,e]
  exact(h.failE hc hi () ()).out
 ·exact WS.dead hc h (a:=((),s.endp)) (Ge.jend h.hs) (by omega)
theorem g6l{α β γ δ:Type}{c:Cm}{s t q b0:PS}{z b1:α×PS}{u l:β×PS}{j e:γ×PS}{g i:δ×PS}(hc:CmOK c)(O:c.n<=c.A.length)(W:c.d+c.n<=c.B.length)(h:Rl c s t)
  (A:Ge s q∧Ge q z.2∧Ge z.2 u.2∧Ge u.2 j.2∧Zd j.2=true∧Gw j.2 g.2∧Gw g.2 g.2.endp) (B:Ge t b0∧Ge b0 b1.2∧Ge b1.2 l.2∧Ge l.2 e.2∧Zd e.2=true∧Gw e.2 i.2∧Gw i.2 i.2.endp)
  (N:WS c TT ((),q) ((),b0)) (P:Rl c q b0->WS c Eq z b1) (V:Rl c z.2 b1.2->WS c Eq u l) (Q:Rl c u.2 l.2->WS c Eq j e) (U:Rl c j.2 e.2->WS c (fun _ _=>True) g i) :
  WS c TT ((),g.2.endp) ((),i.2.endp):=by
 obtain⟨X,K,F,C,gp,k,y⟩:=A
 obtain⟨k0,T,L,E,kp,D,r⟩:=B
 refine bdW (a:=((),q)) (b:=((),b0)) hc h X.gw N (K.gw.trans (F.gw.trans (C.gw.trans (k.trans y)))) (T.gw.trans (L.gw.trans (E.gw.trans (D.trans r)))) fun M _=> ?_
 refine bdW (a:=z) (b:=b1) hc M K.gw (P M) (F.gw.trans (C.gw.trans (k.trans y))) (L.gw.trans (E.gw.trans (D.trans r))) fun H _=> ?_
 refine bdW (a:=u) (b:=l) hc H F.gw (V H) (C.gw.trans (k.trans y)) (E.gw.trans (D.trans r)) fun I _=> ?_
 refine bdW (a:=j) (b:=e) hc I C.gw (Q I) (k.trans y) (D.trans r) fun J _=> ?_
 refine bdW (a:=g) (b:=i) hc J k (U J) y r fun S _=> ?_
 exact e8b hc S O W
section
variable {c:Cm} {s t:List UInt8}
theorem g4b(hc:CmOK c)(r:Rl c ((J6 s).need ⟨[109,111,100,117,108,101]⟩) ((J6 t).need ⟨[109,111,100,117,108,101]⟩)):WS c Eq (nmS s) (nmS t):=by
 unfold nmS
 exact(Qq hc r).out
theorem g2j(hc:CmOK c)(r:Rl c (nmS s).2 (nmS t).2)(g:Yo ((J6 s).l.length+1) (nmS s).2)(e:Yo ((J6 t).l.length+1) (nmS t).2):WS c Eq (Li s) (Li t):=by
 unfold Li
 exact c0i hc _ _ r g e
theorem g5x(hc:CmOK c)(h:ZOK c)(r:Rl c (Li s).2.expo.2 (Li t).2.expo.2)(g:Yo ((J6 s).l.length+1) (Li s).2.expo.2)(e:Yo ((J6 t).l.length+1) (Li t).2.expo.2):WS c (fun _ _=>True) (dsS s) (dsS t):=by
 unfold dsS
 exact c2t hc h _ _ r g e
theorem f6k(hc:CmOK c)(q:ZOK c)(y:c.n<=c.A.length)(D:c.d+c.n<=c.B.length)(h:Rl c (J6 s) (J6 t)):WS c TT ((),J9 s) ((),J9 t):=by
 have A:=d3g s
 have B:=d3g t
 have C:Yo ((J6 s).l.length+1) (nmS s).2:=XQ (A.1.trans A.2.1)
 have u:Yo ((J6 t).l.length+1) (nmS t).2:=XQ (B.1.trans B.2.1)
 have k:Yo ((J6 s).l.length+1) (Li s).2.expo.2:=XQ (A.1.trans (A.2.1.trans (A.2.2.1.trans A.2.2.2.1)))
 have z:Yo ((J6 t).l.length+1) (Li t).2.expo.2:=XQ (B.1.trans (B.2.1.trans (B.2.2.1.trans B.2.2.2.1)))
 have g:=fun r=>g4b (c:=c) (s:=s) (t:=t) hc r
 have e:=fun r=>g2j (c:=c) (s:=s) (t:=t) hc r C u
 have j:=fun r=>g5x (c:=c) (s:=s) (t:=t) hc q r k z
 have i:=(Yn hc h ⟨[109,111,100,117,108,101]⟩).out
 unfold J9 at *
 revert A B i g e j
 generalize Li s=x2
 generalize Li t=y2
 generalize nmS s=x1
 generalize nmS t=y1
 generalize dsS s=x4
 generalize dsS t=y4
 intro A B g e j i
 exact g6l hc y D h A B i g e (fun r=>f1g hc r) j
end
def cmE(s t:List UInt8)(n:Nat)(at_:Int):Cm:=⟨(Yt ⟨s⟩).a,(Yt ⟨t⟩).a,0,n,s.length,t.length,id,id,fun w=>w=at_,False⟩
theorem g0o(s t:List UInt8)(n:Nat)(at_:Int):ZOK (cmE s t n at_):=by
 refine⟨fun a b h=> ?_,fun a b h=> ?_⟩
 ·have h:zT id a=zT id b:=h
  rw[d9g,d9g]at h
  rw[h]
 ·have h:a=b:=h
  rw[h]
theorem b1p{s e:List UInt8}(hs:s.length<=200)(ht:e.length<=100)(hc:(Yt ⟨s⟩).c=0)(X:(U1 ⟨s⟩).c=6)(hat:(U1 ⟨s⟩).b<s.length)(V:(Yt ⟨e⟩).c=0):
  ∃ i,∃ h:i<(Yt ⟨s⟩).a.length,0<=(U1 ⟨s⟩).b∧(Yt ⟨s⟩).a[i].o=(U1 ⟨s⟩).b∧(∀ j (N:j<(Yt ⟨s⟩).a.length),j<i->(Yt ⟨s⟩).a[j].o≠(U1 ⟨s⟩).b) ∧
   (U1 ⟨s.take (U1 ⟨s⟩).b.toNat++(Yt ⟨s⟩).a[i].t.s++[32]++e⟩).c=6∧(U1 ⟨s.take (U1 ⟨s⟩).b.toNat++(Yt ⟨s⟩).a[i].t.s++[32]++e⟩).b=(U1 ⟨s⟩).b:=by
 obtain⟨p1,p2⟩:=b9z hc
 have hb:=p1.1 X
 have E:=p2 hb
 obtain⟨a0,a1,a2,a3,ap,a4,a5⟩:=d3g s
 have G:=a0.gw.trans (a1.gw.trans (a2.gw.trans (a3.gw.trans (a4.trans a5))))
 obtain⟨i,_,B,l⟩:=G.at_ rfl hb
 generalize hat':(U1 ⟨s⟩).b=at_ at *
 have l:(J9 s).wr=((Yt ⟨s⟩).a.getD i ⟨0,⟨[]⟩,0,s.length⟩).o:=l
 have B:i<=(Yt ⟨s⟩).a.length:=B
 have hi:i<(Yt ⟨s⟩).a.length:=by
  rcases Nat.lt_or_ge i (Yt ⟨s⟩).a.length with h|h
  ·exact h
  ·rw[c0e h]at l
   have l:(J9 s).wr=s.length:=l
   omega
 rw[Si hi]at l
 have C:(Yt ⟨s⟩).a[i].o=at_:=by rw[E,l]
 have lx:Wo (s.length+1) s 0 1 []=⟨[]++(Yt ⟨s⟩).a,0,0⟩:=by
  have h:=Ew s (by omega)
  have L:(Wo (s.length+1) s 0 1 []).c=0:=by rw[<- h];exact hc
  obtain⟨T,_,F,_,_⟩:=a2q (s.length+1) s 0 0 1 [] [] (by omega) (by simp;omega) (by simp;omega) L
  rw[h,F]
  rfl
 obtain⟨P,o2⟩:=BQ (s.length+1) s 0 1 [] (Yt ⟨s⟩).a (by omega) (by simp;omega) lx
 have o3:=o2 _ (List.getElem_mem hi)
 rw[C]at o3
 have h0:0<=at_:=by omega
 have U:=a5m (s.length+1) s 0 1 [] (Yt ⟨s⟩).a (by omega) (by simp;omega) lx _ (List.getElem_mem hi)
 rw[C,show(at_ - ((0:Nat):Int)).toNat=at_.toNat by omega]at U
 have W:s.take at_.toNat++(Yt ⟨s⟩).a[i].t.s=s.take (at_.toNat+(Yt ⟨s⟩).a[i].t.s.length):=by
  rw[List.take_add,U]
 have et:s.take at_.toNat++(Yt ⟨s⟩).a[i].t.s++[32]++e=s.take (at_.toNat+(Yt ⟨s⟩).a[i].t.s.length)++32::e:=by
  rw[W,List.append_assoc];rfl
 generalize A:s.take (at_.toNat+(Yt ⟨s⟩).a[i].t.s.length)++32::e=S
 have lS:S.length<=400:=by rw[<- A,List.length_append,List.length_take,List.length_cons];omega
 obtain⟨F',H,hF,r⟩:=LW e (s.length+1) (S.length+1) s 0 1 [] (Yt ⟨s⟩).a i (by omega) (by simp;omega) lx hi (at_.toNat+(Yt ⟨s⟩).a[i].t.s.length) (by rw[C];omega) (by rw[A];omega) (by omega)
 rw[A]at r
 have lA:(Yt ⟨s⟩).a.length<=200:=by
  have h1:=d0l s
  have h2:=(d5m (lead:=[]) (trail:=[]) _ h1.1).2
  have h3:=h1.2.1
  omega
 rw[c9s]at r
 have D:(Wo (e.length+1) e 0 1 []).c=0:=by rw[<- Ew e (by omega)];exact V
 have fu : ∀ (f g:Nat) (u:List UInt8) (i:Nat) (ln:Int) (o:List Tok),u.length<f->u.length<g->Wo f u i ln o=Wo g u i ln o:=by
  intro f
  induction f with
  | zero=>intro g u i ln o h _;omega
  | succ f ih=>
   intro g u i ln o h1 h2
   cases g with
   | zero=>omega
   | succ g=>
    have y:=Qy (u.length+1) u
    rw[Wo,Wo]
    generalize YX (u.length+1) u=k at *
    split
    ·rfl
    ·split
     ·rfl
     ·rename_i I
      split
      ·rfl
      ·have hpos:0<(Zc ⟨u.drop k⟩).2.s.length:=List.length_pos_iff.2 (KJ (ln:=0) (o:=0) I).ne
       exact ih g _ _ _ _ (by rw[List.length_drop];omega) (by rw[List.length_drop];omega)
 rw[fu F' (e.length+1) e _ _ _ hF (by omega)]at r
 obtain⟨T',Z⟩:=d6u (e.length+1) e 0 (0+(at_.toNat+(Yt ⟨s⟩).a[i].t.s.length)+1) 1 H [] ([]++(Yt ⟨s⟩).a.take (i+1)) (by omega) (by simp;omega) (by rw[List.nil_append,List.length_take];omega) D
 rw[Z,List.nil_append,<- Ew S (by omega)]at r
 have J:(Yt ⟨S⟩).c=0:=by rw[r]
 have z:(Yt ⟨S⟩).a=(Yt ⟨s⟩).a.take (i+1)++T':=by rw[r]
 have M : ∀ k (d:Tok),k<i+1->(Yt ⟨S⟩).a.getD k d=(Yt ⟨s⟩).a.getD k d:=fun k d y=>by
  rw[z,List.getD_eq_getElem?_getD,List.getD_eq_getElem?_getD,List.getElem?_append_left (by rw[List.length_take];omega),List.getElem?_take_of_lt y]
 have ok:CmOK (cmE s S (i+1) at_):=by
  refine⟨fun k y=> ?_,fun p h1 h2=> ?_,fun h=>h.elim,(Jy ⟨s⟩).1,(Jy ⟨S⟩).1,(Jy ⟨s⟩).2,(Jy ⟨S⟩).2⟩
  ·have y:k<i+1:=y
   have q:k<(Yt ⟨s⟩).a.length:=by omega
   have F:(cmE s S (i+1) at_).a k=(Yt ⟨s⟩).a.getD k ⟨0,⟨[]⟩,0,0⟩:=by rw[Si q];exact Si q _
   have e4:(cmE s S (i+1) at_).b ((cmE s S (i+1) at_).d+k)=(Yt ⟨s⟩).a.getD k ⟨0,⟨[]⟩,0,0⟩:=by
    rw[show(cmE s S (i+1) at_).d+k=k from Nat.zero_add k]
    show(Yt ⟨S⟩).a.getD k _=_
    rw[M k _ y,Si q,Si q]
   rw[F,e4]
   exact⟨rfl,rfl,rfl,rfl⟩
  ·have h1:i+1<=p:=h1
   have h2:p<=(Yt ⟨s⟩).a.length:=h2
   show ¬ ((Yt ⟨s⟩).a.getD p ⟨0,⟨[]⟩,0,s.length⟩).o=at_
   rcases Nat.lt_or_ge p (Yt ⟨s⟩).a.length with h|h
   ·rw[Si h]
    have:=List.pairwise_iff_getElem.1 P i p hi h (by omega)
    omega
   ·rw[c0e h]
    show ¬ (s.length:Int)=at_
    omega
 have r0:Rl (cmE s S (i+1) at_) (J6 s) (J6 S):=⟨rfl,rfl,rfl,rfl,rfl,rfl,rfl,rfl,Nat.zero_le _,Nat.zero_le _⟩
 have O:=f6k ok (g0o s S (i+1) at_) (show i+1<=(Yt ⟨s⟩).a.length by omega) (show 0+(i+1)<=(Yt ⟨S⟩).a.length by rw[z,List.length_append,List.length_take];omega) r0
 have k:=O.2 hb (show(J9 s).wr=at_ by rw[E])
 obtain⟨I,q2⟩:=b9z J
 have Q:(J9 S).bad=true:=k.1
 have Y:(J9 S).wr=(J9 s).wr:=k.2
 refine⟨i,hi,h0,C,fun j N K=> ?_,by rw[et,A];exact I.2 Q,by rw[et,A,q2 Q,Y,E]⟩
 have:=List.pairwise_iff_getElem.1 P j i N hi K
 omega
end
open Enc (enc dec is)
open EncL (encL decL isL)
set_option maxRecDepth 100000
noncomputable def Jt:IC:=Wq Proofs.Tryz.f7
def JQ:List IRes:=[(.tmp 4)]
abbrev e9n:Nat:=97
noncomputable def Ce:ZP:=Xa [(9,.pure (preT (fun _:Unit=>true)) (Zv (fun _:Unit=>true))),(18,.pure (preT (fun _:Str×Unit=>true)) (Zv (fun x:Str×Unit=>U1 x.1))),(16,.pure (preT (fun x:Str×Unit=>decide (x.1.s.length<=1048576))) (Zv (fun x:Str×Unit=>Yt x.1)))]
def f6e{G:PV->Prop}(s x:List UInt8):=Qr (∃ i:Bool,(AV.pv (Zv (fun(x:Unit)=>true) [])=AV.pv (enc i))∧(if (!i)=true then G (.bool false)else(if (decide ((↑(List.length s):Int)>200))=true then G (.bool true)else(if (decide ((↑(List.length x):Int)>100))=true then G (.bool true)else(∃ e:R3 Mdu Int Int,(AV.pv (Zv (fun(x:Str×Unit)=>U1 x.1) [.str s])=AV.pv (enc e))∧((Go.Pl.preT Kb [.str s])=true∧(∃ g:R3 (List Tok) Int Int,(AV.pv (Zv MN [.str s])=AV.pv (enc g))∧(if (R3.c e != 6)=true then G (.bool true)else(if (R3.c g != 0)=true then G (.bool true)else(if (decide (R3.b e ≥ (↑(List.length s):Int)))=true then G (.bool true)else((Go.Pl.preT Kb [.str x])=true∧(∃ h:R3 (List Tok) Int Int,(AV.pv (Zv MN [.str x])=AV.pv (enc h))∧(if (R3.c h != 0)=true then G (.bool true)else(At Ce 0 (Za JQ G) Jt 0 97 [Zb s,(1,.pv (.str x)),(6,.pv (.int .i64 (R3.b e))),(8,.pv (.sl 4 false (List.map enc (R3.a g)))),(14,ZC)] [])))))))))))))) G (dm [dv Bool,dv (R3 Mdu Int Int),dv (R3 (List Tok) Int Int)] 77 0x142710001422222022222006422202222222200942716200014222202222005420001452) Ce JQ Jt (YI 97 [.str s,.str x]) (by delta Kb MN Zb ZC;exact rfl)
def b0m(e:Int)(Zq:List Tok):Bool:=decide (0<=e)&&decide (Int.toNat e<List.length (List.map enc Zq))&&4==4
def b6q(g:List Tok)(Zq:Int)(e:Tok):Prop:=AV.pv (PV.rptr (PV.cells (List.getD (List.map enc g) (Int.toNat Zq) default)))=AV.pv (PV.rptr (PV.cells ((enc) e)))
def Nl(e:Tok):PV:=List.getD (List.drop 1 (Gb e)) 0 default
def b9a{G:PV->Prop}(s x:List UInt8)(a i:Int)(l:List Tok):=WM (if (decide (i<(↑(List.length (List.map enc l)):Int)))=true then(b0m i l)=true∧(∃ h:Tok,(b6q l i h)∧(if (PV.asInt (List.getD (List.drop 3 (Gb h)) 0 default) != a)=true then At Ce 0 (Za JQ G) Jt 0 97 [Zb s,(1,.pv (.str x)),(6,Zy a),(8,.pv (.sl 4 false (List.map enc l))),(14,YG i)] []else((a1n a s)=true∧((b0m i l)=true∧(∃ e:Tok,(b6q l i e)∧((decide (List.length (List.drop 0 (List.take (Int.toNat a) s))+List.length (PV.asStr (Nl e))<=1099511627776))=true∧((decide (List.length (List.drop 0 (List.take (Int.toNat a) s)++PV.asStr (Nl e))+List.length [(32:UInt8)]<=1099511627776))=true∧((decide (List.length (List.drop 0 (List.take (Int.toNat a) s)++PV.asStr (Nl e)++[(32:UInt8)])+List.length x<=1099511627776))=true∧(∃ g:R3 Mdu Int Int,(AV.pv (Zv (fun(x:Str×Unit)=>U1 x.1) [.str (List.drop 0 (List.take (Int.toNat a) s)++PV.asStr (Nl e)++[(32:UInt8)]++x)])=AV.pv (enc g))∧(if (R3.c g==6)=true then G (.bool (R3.b g==a))else(ZH G)))))))))))else(ZH G)) G (dm [dr Tok,dv (R3 Mdu Int Int)] 40 0x2220222200542621112511020024225102142) Ce JQ Jt 0 97 [Zb s,(1,.pv (.str x)),(6,Zy a),(8,.pv (.sl 4 false (l.map enc))),(14,Zy i)] [] (by delta b0m b6q Gb Zb Zy YG a1n Nl ZH;exact rfl)
theorem d1e{s x:List UInt8}{a:Int}{l:List Tok}{i:Nat}(hs:s.length<=200)(C:x.length<=100)(h:i<l.length)(A:0<=a)(ha:a<s.length)(ht:l[i].t.s.length<=65536)(ho:l[i].o=a)(u : ∀ j (u:j<l.length),j<i->l[j].o≠a)(hn:l.length<=4000)
  (z:(U1 ⟨s.take a.toNat++l[i].t.s++[32]++x⟩).c=6) (B:(U1 ⟨s.take a.toNat++l[i].t.s++[32]++x⟩).b=a) : ∀ (n k:Nat),k+n=i ->
  At Ce 0 (Za JQ (Ze true)) Jt 0 97 [(0,.pv (.str s)),(1,.pv (.str x)),(6,.pv (.int .i64 a)),(8,.pv (.sl 4 false (l.map enc))),(14,.pv (.int .i64 (k:Int)))] []
 | 0,k,e=>by
  obtain rfl:k=i:=by omega
  have g:PV.asStr (List.getD (List.drop 1 (PV.cells (enc l[k]))) 0 default)=l[k].t.s:=rfl
  have y : ∀ {n:Nat},n<=1000000->decide (n<=1099511627776)=true:=fun h=>decide_eq_true (by omega)
  have lt:=List.length_take_le a.toNat s
  refine b9a s x a k l (Yd (f1s h) ⟨QV h rfl,GI h (AC (fun q=>absurd (show l[k].o=a from ho) q) fun _=>⟨?_,QV h rfl,GI h ⟨?_,?_,?_,?_⟩⟩)⟩)
  ·rw[decide_eq_true A,decide_eq_true (Nat.zero_le _),decide_eq_true (show a.toNat<=s.length by omega)];rfl
  ·rw[g,List.drop_zero];exact y (by omega)
  ·rw[g,List.drop_zero];exact y (by simp only[List.length_append,List.length_cons,List.length_nil];omega)
  ·rw[g,List.drop_zero];exact y (by simp only[List.length_append,List.length_cons,List.length_nil];omega)
  ·rw[g,List.drop_zero]
   exact Zf ((⟨s.take a.toNat++l[k].t.s++[32]++x⟩:Str),()) rfl (Yc (fun _=>ZO (by rw[show(U1 ⟨s.take a.toNat++l[k].t.s++[32]++x⟩).b=a from B];exact beq_self_eq_true a)) fun q=>absurd z q)
 | n+1,k,e=>by
  have r:k<l.length:=by omega
  have go:=d1e hs C h A ha ht ho u hn z B n (k+1) (by omega)
  rw[<- next (k:=k) (by omega)]at go
  exact b9a s x a k l (Yd (f1s r) ⟨QV r rfl,GI r (AC (fun _=>go) fun q=>absurd (show l[k].o=a from q) (u k r (by omega)))⟩)
theorem c9v: ∀ x:Str×Str×Unit,true=true->Zm Ce 0 (Za JQ (Ze true)) Jt [] (YI e9n (encL x)):=by
 rintro⟨⟨s⟩,⟨x⟩,⟨⟩⟩ _
 refine f6e s x (Zf () rfl (Yi (by decide) (Yu (fun _=>ZO rfl) fun h1=>Yu (fun _=>ZO rfl) fun h2=> ?_)))
 have hs:s.length<=200:=by omega
 have g:x.length<=100:=by omega
 refine Zf ((⟨s⟩:Str),()) rfl ⟨Zn ((⟨s⟩:Str),()) rfl (decide_eq_true (by show s.length<=_;omega)),Zf ((⟨s⟩:Str),()) rfl (AC (fun _=>ZO rfl) fun h3=>AC (fun _=>ZO rfl) fun k=>Yu (fun _=>ZO rfl) fun e=>
  ⟨Zn ((⟨x⟩:Str),()) rfl (decide_eq_true (by show x.length<=_;omega)),Zf ((⟨x⟩:Str),()) rfl (AC (fun _=>ZO rfl) fun j=> ?_)⟩)⟩
 have e : ¬ (U1 ⟨s⟩).b ≥ (s.length:Int):=e
 obtain⟨i,hi,q,ho,l,h,r⟩:=b1p hs g k h3 (by omega) j
 exact d1e hs g hi q (by omega) (c2p (EY s) _ (List.getElem_mem hi)) ho l (Jy ⟨s⟩).2 h r i 0 (Nat.zero_add _)
end Go.Pl
