/- Parts. -/
import Derived.Test.YtpnddokajmjpbaaDoorM14
namespace Go.Proofs.YtpnddokajmjpbaaDoor.Hx
set_option maxRecDepth 100000
noncomputable section
def t12:List (Nat×List Nat):=[(175,[1,2,3,25,26,27]),(111406,[1,2,3,4,5,25,26,27,33,34]),(351,[1,2,3,54,55,56]),(3886,[1,2,3,25,26,27]),(504622,[1,2,3,4,25,26,27,45]),(7774,[1,2,3,54,55,56]),(319,[1,2,3]),(2815,[1,2,9,121,122,123]),(62206,[1,2,9,121,122,123])]
def wE (C:Cfg)(Q:QP1):LP:=JV C Tryd.f12 t12 87 [1,2,3,25,26,27] [] Q
def nw (C:Cfg)(Q:QP1)(a:LP):LP:=JV C Tryd.f12 t12 55703 [1,2,3,4,5,25,26,27,33,34] [kf [1,2,3,25,26,27] a] Q
def wU (C:Cfg)(Q:QP1):LP:=JV C Tryd.f12 t12 175 [1,2,3,54,55,56] [] Q
def j9 (C:Cfg)(Q:QP1)(a:LP):LP:=JV C Tryd.f12 t12 1943 [1,2,3,25,26,27] [kf [1,2,3,25,26,27] a] Q
def ny (C:Cfg)(Q:QP1)(a:LP):LP:=JV C Tryd.f12 t12 252311 [1,2,3,4,25,26,27,45] [kf [1,2,3,25,26,27] a] Q
def j7 (C:Cfg)(Q:QP1)(a:LP):LP:=JV C Tryd.f12 t12 3887 [1,2,3,54,55,56] [kf [1,2,3,54,55,56] a] Q
def xm (C:Cfg)(Q:QP1):LP:=JV C Tryd.f12 t12 159 [1,2,3] [] Q
def ww (C:Cfg)(Q:QP1):LP:=JV C Tryd.f12 t12 1407 [1,2,9,121,122,123] [] Q
def rk (C:Cfg)(Q:QP1)(a:LP):LP:=JV C Tryd.f12 t12 31103 [1,2,9,121,122,123] [kf [1,2,9,121,122,123] a] Q
def wt (C:Cfg)(Q:QP1)(e:LP)(i k l c d a:V)(h:Hp):Prop:=
 bO .lss 3 a d (
 oP (pIx 6 c a) λm=>
 oP (pLdA 6 m h) λn=>
 alP (zC 42 [nZ,nZ,nZ,nZ,nS,nZ]) h λj r=>
 valP (pSt 6 j n r) λs o=>
 dF 0 j o λb=>
 oP (hbin .eql 3 b (V.int .i64 22)) λf=>
 bP f (
 nw C Q e [i,k,l,a,j,c,d,a,b,f] o) (
 oP (hbin .eql 3 b (V.int .i64 23)) λp=>
 nw C Q e [i,k,l,a,j,c,d,a,b,p] o)) (
 dF 3 i h λg=>
 oP (pLen g) λq=>
 wU C Q [i,k,l,g,q,nZ] h)
theorem Bm{C Q}(I)(s:S6 I (wt C Q)){k l h}(i:I k l h)(e:l.length=6:=by rfl):wE C Q l h:=JV.l6 I _ s i e
def vV (C:Cfg)(Q:QP1)(a:LP)(i j e k p b c d f l:V)(h:Hp):Prop:=
 bP l (
 dF 5 p h λm=>
 cP C iA [e,m] h λq r=>
 alP (pBS 3 1 1 nZ [(0,k)]) r λn s=>
 cP C fL [e,n] s λt u=>
 j9 C Q a [i,j,e,b,c,d] u) (
 oP (hbin .eql 3 f (V.int .i64 19)) λg=>
 bP g (
 ny C Q a [i,j,e,k,b,c,d,g] h) (
 oP (hbin .eql 3 f (V.int .i64 20)) λo=>
 ny C Q a [i,j,e,k,b,c,d,o] h))
theorem AA{C Q a}:R10 (vV C Q a) (nw C Q a):=JV.r10 _
def wL (C:Cfg)(Q:QP1)(d:LP)(i j e b c a:V)(h:Hp):Prop:=
 bO .lss 3 a c (
 oP (pIx 6 b a) λl=>
 oP (pLdA 6 l h) λm=>
 alP (zC 44 [nS,nZ,nZ,nS,nS,nZ]) h λk q=>
 valP (pSt 6 k m q) λw f=>
 dF 1 k f λg=>
 bO .eql 3 g (V.int .i64 2) (
 dF 2 k f λn=>
 alP (pBS 3 1 1 nZ [(0,n)]) f λo r=>
 cP C fL [e,o] r λs t=>
 j7 C Q d [i,j,e,b,c,a] t) (
 bO .eql 3 g (V.int .i64 3) (
 dF 5 k f λp=>
 cP C iA [e,p] f λu v=>
 j7 C Q d [i,j,e,b,c,a] v) (
 j7 C Q d [i,j,e,b,c,a] f))) (
 xm C Q [i,j,e] h)
theorem BA{C Q}(I)(s:S6 I (wL C Q)){k l h}(i:I k l h)(e:l.length=6:=by rfl):wU C Q l h:=JV.l6 I _ s i e
def vY (C:Cfg)(Q:QP1)(a:LP)(f g i b c d:V)(h:Hp):Prop:=
 oP (hbin .add 3 d nO) λe=>
 a [f,g,i,b,c,e] h
theorem AC{C Q a}:R6 (vY C Q a) (j9 C Q a):=JV.r6 _
def v0 (C:Cfg)(Q:QP1)(a:LP)(i j e k b c d f:V)(h:Hp):Prop:=
 bP f (
 alP (pBS 3 1 1 nZ [(0,k)]) h λg l=>
 cP C fL [e,g] l λm n=>
 j9 C Q a [i,j,e,b,c,d] n) (
 j9 C Q a [i,j,e,b,c,d] h)
theorem AD{C Q a}:R8 (v0 C Q a) (ny C Q a):=JV.r8 _
def vX (C:Cfg)(Q:QP1)(a:LP)(f g i b c d:V)(h:Hp):Prop:=
 oP (hbin .add 3 d nO) λe=>
 a [f,g,i,b,c,e] h
theorem AB{C Q a}:R6 (vX C Q a) (j7 C Q a):=JV.r6 _
def w4 (C:Cfg)(Q:QP1)(s:LP)(q B a:V)(h:Hp):Prop:=
 oP (pNil a) λt=>
 dG 6 t h λu=>
 bO .gtr 3 u nZ (
 dN 6 a h λv=>
 oP (pNil a) λw=>
 dG 6 w h λx=>
 oP (hbin .sub 3 x nO) λy=>
 dX 1 v y h λz=>
 dN 6 a h λA=>
 oP (pNil a) λc=>
 dG 6 c h λd=>
 oP (hbin .sub 3 d nO) λe=>
 oP (hsliceV 1 A none (some e) h) λf=>
 oP (pNil a) λg=>
 oP (pFA 6 g) λi=>
 valP (pSt 1 i f h) λH r=>
 (h.next<=r.next/\
 dF 2 q r λj=>
 oP (pIx 6 j z) λk=>
 oP (pLdA 6 k r) λl=>
 cP C nz [l] r λm F=>
 cP C fL [a,m] F λD G=>
 s [q,B,a] G)) (
 oP (pLdA 5 q h) λn=>
 cP C vK [n] h λo E=>
 dN 5 a E λb=>
 oP (pLen b) λp=>
 ww C Q [q,B,o,b,p,nZ] E)
theorem Bf{C Q}(I)(s:S3 I (w4 C Q)){k l h}(i:I k l h)(e:l.length=3:=by rfl):xm C Q l h:=JV.l3 I _ s i e
def xd (C:Cfg)(Q:QP1)(d:LP)(l j k b c a:V)(h:Hp):Prop:=
 bO .lss 3 a c (
 dX 1 b a h λe=>
 bN e (
 oP (pIx 1 k a) λf=>
 valP (pSt 1 f (V.int .i64 (-1)) h) λq o=>
 rk C Q d [l,j,k,b,c,a] o) (
 rk C Q d [l,j,k,b,c,a] h)) (
 oP (pLdA 5 l h) λg=>
 cP C sQ [g,k] h λi p=>
 valP (pSt 5 j i p) λm n=>
 oP (pLdA 5 j n) λr2=>
 Q r2 n)
theorem Bv{C Q}(I)(s:S6 I (xd C Q)){k l h}(i:I k l h)(e:l.length=6:=by rfl):ww C Q l h:=JV.l6 I _ s i e
def qZ (C:Cfg)(Q:QP1)(e:LP)(f g i a b c:V)(h:Hp):Prop:=
 oP (hbin .add 3 c nO) λd=>
 e [f,g,i,a,b,d] h
theorem vZ{C Q a}:R6 (qZ C Q a) (rk C Q a):=JV.r6 _
def Az (C:Cfg)(Q:QP1)(a0:V)(h:Hp):Prop:=
 alP (hbox 30 a0) h λa x=>
 alP (zC 30 [nZ,nZ,nS,nS,nS]) x λj u=>
 oP (pLdA 5 a u) λk=>
 cP C tN [k] u λl b=>
 bN l (
 oP (pLdA 5 a b) λm=>
 cP C si [m] b λn y=>
 valP (pSt 5 j n y) λz v=>
 oP (pLdA 5 j v) λr2=>
 Q r2 v) (
 oP (pLdA 5 a b) λd=>
 oP (pFA 2 a) λe=>
 oP (pLd e b) λf=>
 oP (pLen f) λg=>
 alO (hmakeSlice 4 1 1 bF g g) b λo p w=>
 oP (pBuild [nZ,nZ,nS,nS,nS,nS,nS] [(0,5),(5,1),(6,1)] [(0,d),(1,p)]) λq=>
 alO (hbox 66 q) w λr s c=>
 ((c.get (w.next)=some r/\O.beq r r=true)/\
 ((c.get (b.next)=some o/\O.beq o o=true)/\
 ((pLd e c=some f)/\
 ((pLdA 5 a c=some d)/\
 dF 2 a c λi=>
 oP (pLen i) λt=>
 wE C Q [a,j,s,i,t,nZ] c)))))
theorem Du{C}(s:C.start=startF){a0 h Q}(k:C.K t6 [a0] h=none)(H:Az C Q a0 h):cP C t6 [a0] h Q:=cP.vd t12 s (by unfold P0;exact Tryd.func12) k H
def t34:List (Nat×List Nat):=[(11,[0,14,15,16])]
def py (C:Cfg)(Q:QP1):LP:=JV C Tryd.f34 t34 5 [0,14,15,16] [] Q
def pA (C:Cfg)(Q:QP1)(d:LP)(e b c a:V)(h:Hp):Prop:=
 bO .lss 3 a c (
 oP (pIx 4 b a) λf=>
 oP (pLdA 4 f h) λg=>
 alP (zC 40 [nZ,nZ,nS,nS]) h λi o=>
 valP (pSt 4 i g o) λs m=>
 dF 2 i m λj=>
 cP C fL [e,j] m λp n=>
 dF 3 i n λk=>
 cP C fL [e,k] n λq r=>
 oP (hbin .add 3 a nO) λl=>
 d [e,b,c,l] r) (
 Q (V.tuple []) h)
theorem vz{C Q}(I)(s:S4 I (pA C Q)){k l h}(i:I k l h)(e:l.length=4:=by rfl):py C Q l h:=JV.l4 I _ s i e
def ry (C:Cfg)(Q:QP1)(a0 a1:V)(h:Hp):Prop:=
 oP (pNil a0) λc=>
 oP (pFA 0 c) λd=>
 dJ 4 d 1 a1 0 h λa=>
 oP (pLen a) λb=>
 py C Q [a0,a,b,nZ] h
theorem yc{C}(s:C.start=startF){a0 a1 h Q}(k:C.K iA [a0,a1] h=none)(H:ry C Q a0 a1 h):cP C iA [a0,a1] h Q:=cP.vd t34 s (by unfold P0;exact Tryd.func34) k H
def t35:List (Nat×List Nat):=[(11,[0,6,7,8]),(242,[0,6,7,8])]
def qd (C:Cfg)(Q:QP1):LP:=JV C Tryd.f35 t35 5 [0,6,7,8] [] Q
def ki (C:Cfg)(Q:QP1)(a:LP):LP:=JV C Tryd.f35 t35 121 [0,6,7,8] [kf [0,6,7,8] a] Q
def pW (C:Cfg)(Q:QP1)(c:LP)(b e f d:V)(h:Hp):Prop:=
 bO .lss 3 d f (
 dX 1 e d h λa=>
 dN 5 b h λg=>
 dX 1 g a h λi=>
 bN i (
 dN 5 b h λj=>
 oP (pIx 1 j a) λk=>
 valP (pSt 1 k bT h) λv q=>
 dN 6 b q λl=>
 alP (pBS 3 1 1 nZ [(0,a)]) q λm s=>
 valP (happend 3 1 8 l m s) λn t=>
 oP (pNil b) λo=>
 oP (pFA 6 o) λp=>
 valP (pSt 1 p n t) λr u=>
 ki C Q c [b,e,f,d] u) (
 ki C Q c [b,e,f,d] h)) (
 Q (V.tuple []) h)
theorem v1{C Q}(I)(s:S4 I (pW C Q)){k l h}(i:I k l h)(e:l.length=4:=by rfl):qd C Q l h:=JV.l4 I _ s i e
def kj (C:Cfg)(Q:QP1)(a:LP)(c d e f:V)(h:Hp):Prop:=
 oP (hbin .add 3 f nO) λb=>
 a [c,d,e,b] h
theorem p6{C Q a}:R4 (kj C Q a) (ki C Q a):=JV.r4 _
def su (C:Cfg)(Q:QP1)(a0 a1:V)(h:Hp):Prop:=
 oP (pLen a1) λa=>
 qd C Q [a0,a1,a,nZ] h
theorem yL{C}(s:C.start=startF){a0 a1 h Q}(k:C.K fL [a0,a1] h=none)(H:su C Q a0 a1 h):cP C fL [a0,a1] h Q:=cP.vd t35 s (by unfold P0;exact Tryd.func35) k H
end
set_option maxRecDepth 100000
noncomputable section
def t4:List (Nat×List Nat):=[(5631,[3,4,5,6,7,8,9]),(861694,[3,4,5,6,7,8,9,48]),(11263,[3,4,5,6,7,8,10]),(58878,[3,4,5,6,7,8,9]),(412670,[3,4,5,6,7,8,10]),(10239,[3,4,5,6,7]),(117758,[3,4,5,6,7,8,10]),(1525759,[3,4,5,6,7,11,12]),(45055,[4,5,13]),(90111,[5,14])]
def ie (C:Cfg)(Q:QP1):LP:=JV C Tryd.f4 t4 2815 [3,4,5,6,7,8,9] [] Q
def fy (C:Cfg)(Q:QP1)(a:LP):LP:=JV C Tryd.f4 t4 430847 [3,4,5,6,7,8,9,48] [kf [3,4,5,6,7,8,9] a] Q
def hY (C:Cfg)(Q:QP1):LP:=JV C Tryd.f4 t4 5631 [3,4,5,6,7,8,10] [] Q
def fI (C:Cfg)(Q:QP1)(a:LP):LP:=JV C Tryd.f4 t4 29439 [3,4,5,6,7,8,9] [kf [3,4,5,6,7,8,9] a] Q
def f3 (C:Cfg)(Q:QP1)(a:LP):LP:=JV C Tryd.f4 t4 206335 [3,4,5,6,7,8,10] [kf [3,4,5,6,7,8,10] a] Q
def hK (C:Cfg)(Q:QP1):LP:=JV C Tryd.f4 t4 5119 [3,4,5,6,7] [] Q
def gS (C:Cfg)(Q:QP1)(a:LP):LP:=JV C Tryd.f4 t4 58879 [3,4,5,6,7,8,10] [kf [3,4,5,6,7,8,10] a] Q
def jI (C:Cfg)(Q:QP1)(a:LP):LP:=JV C Tryd.f4 t4 762879 [3,4,5,6,7,11,12] [kf [3,4,5,6,7] a] Q
def hZ (C:Cfg)(Q:QP1):LP:=JV C Tryd.f4 t4 22527 [4,5,13] [] Q
def jL (C:Cfg)(Q:QP1):LP:=JV C Tryd.f4 t4 45055 [5,14] [] Q
def jM (C:Cfg)(Q:QP1)(a:LP)(c e f g i j d:V)(h:Hp):Prop:=
 dG 2 c h λn=>
 bO .lss 3 d n (
 dJ 2 c 6 d 0 h λb=>
 oP (hbin .eql 3 b (V.int .i64 19)) λk=>
 bP k (
 fy C Q a [c,e,f,g,i,j,d,k] h) (
 oP (hbin .eql 3 b (V.int .i64 20)) λl=>
 bP l (
 fy C Q a [c,e,f,g,i,j,d,l] h) (
 oP (hbin .eql 3 b (V.int .i64 22)) λm=>
 bP m (
 fy C Q a [c,e,f,g,i,j,d,m] h) (
 oP (hbin .eql 3 b (V.int .i64 23)) λo=>
 fy C Q a [c,e,f,g,i,j,d,o] h)))) (
 hY C Q [c,e,f,g,i,j,nZ] h)
theorem qQ{C Q}(I)(s:S7 I (jM C Q)){k l h}(i:I k l h)(e:l.length=7:=by rfl):ie C Q l h:=JV.l7 I _ s i e
def jG (C:Cfg)(Q:QP1)(a:LP)(c g i j e f b k:V)(h:Hp):Prop:=
 bP k (
 oP (pLd e h) λl=>
 calP C (hcall l [b]) h λw d=>
 dJ 2 c 6 b 0 d λm=>
 oP (hbin .eql 3 m (V.int .i64 22)) λn=>
 oP (pOr n (oB (pFA 2 c) λo=>oB (pLd o d) λp=>oB (some b) λq=>oB (pIx 6 p q) λr=>oB (pFA 0 r) λs=>oB (pLd s d) λt=>hbin .eql 3 t (V.int .i64 23))) λu=>
 bP u (
 dJ 2 c 6 b 5 d λv=>
 calP C (hcall f [v]) d λx y=>
 fI C Q a [c,g,i,j,e,f,b] y) (
 fI C Q a [c,g,i,j,e,f,b] d)) (
 fI C Q a [c,g,i,j,e,f,b] h)
theorem qo{C Q a}:R8 (jG C Q a) (fy C Q a):=JV.r8 _
def jK (C:Cfg)(Q:QP1)(c:LP)(b f g i e m a:V)(h:Hp):Prop:=
 dG 3 b h λj=>
 bO .lss 3 a j (
 dJ 3 b 6 a 1 h λk=>
 bO .eql 3 k (V.int .i64 2) (
 oP (pLd e h) λl=>
 dJ 3 b 6 a 2 h λd=>
 calP C (hcall l [d]) h λn o=>
 (h.next<=o.next/\
 f3 C Q c [b,f,g,i,e,m,a] o)) (
 f3 C Q c [b,f,g,i,e,m,a] h)) (
 hK C Q [b,f,g,i,e] h)
theorem qy{C Q}(I)(s:S7 I (jK C Q)){k l h}(i:I k l h)(e:l.length=7:=by rfl):hY C Q l h:=JV.l7 I _ s i e
def jF (C:Cfg)(Q:QP1)(a:LP)(c d e f g i j:V)(h:Hp):Prop:=
 oP (hbin .add 3 j nO) λb=>
 a [c,d,e,f,g,i,b] h
theorem ql{C Q a}:R7 (jF C Q a) (fI C Q a):=JV.r7 _
def jB (C:Cfg)(Q:QP1)(b:LP)(e g i j k f a:V)(h:Hp):Prop:=
 dJ 3 e 6 a 1 h λc=>
 bO .eql 3 c (V.int .i64 3) (
 dJ 3 e 6 a 5 h λd=>
 calP C (hcall f [d]) h λl m=>
 gS C Q b [e,g,i,j,k,f,a] m) (
 gS C Q b [e,g,i,j,k,f,a] h)
theorem qj{C Q a}:R7 (jB C Q a) (f3 C Q a):=JV.r7 _
def jQ (C:Cfg)(Q:QP1)(n:LP)(o p q a r:V)(h:Hp):Prop:=
 oP (pLd a h) λb=>
 oP (pLen b) λc=>
 bO .gtr 3 c nZ (
 dF 2 o h λd=>
 oP (pLd a h) λe=>
 dX 1 e nZ h λf=>
 oP (pIx 6 d f) λg=>
 oP (pLdA 6 g h) λi=>
 cP C fR [i] h λj m=>
 (h.next<=m.next/\
 oP (pLd a m) λk=>
 oP (hsliceV 1 k (some nO) none m) λl=>
 valP (pSt 1 a l m) λt s=>
 jI C Q n [o,p,q,a,r,j,nZ] s)) (
 hZ C Q [p,q,nZ] h)
theorem qM{C Q}(I)(s:S5 I (jQ C Q)){k l h}(i:I k l h)(e:l.length=5:=by rfl):hK C Q l h:=JV.l5 I _ s i e
def gX (C:Cfg)(Q:QP1)(a:LP)(d e f g i j b:V)(h:Hp):Prop:=
 oP (hbin .add 3 b nO) λc=>
 a [d,e,f,g,i,j,c] h
theorem jy{C Q a}:R7 (gX C Q a) (gS C Q a):=JV.r7 _
def jN (C:Cfg)(Q:QP1)(g:LP)(i:LP)(k l m n j a b:V)(h:Hp):Prop:=
 oP (pLen a) λc=>
 bO .lss 3 b c (
 oP (pLd j h) λd=>
 dX 1 a b h λe=>
 calP C (hcall d [e]) h λo p=>
 (h.next<=p.next/\
 oP (hbin .add 3 b nO) λf=>
 i [k,l,m,n,j,a,f] p)) (
 g [k,l,m,n,j] h)
theorem qH{C Q a}(I)(s:S7 I (jN C Q a)){k l h}(i:I k l h)(e:l.length=7:=by rfl):jI C Q a l h:=JV.l7 I _ s i e
def jP (C:Cfg)(Q:QP1)(g:LP)(i j a:V)(h:Hp):Prop:=
 oP (pLd i h) λb=>
 oP (pLen b) λc=>
 bO .lss 3 a c (
 oP (pLd i h) λd=>
 dX 1 d a h λe=>
 bN e (
 Q bF h) (
 oP (hbin .add 3 a nO) λf=>
 g [i,j,f] h)) (
 jL C Q [j,nZ] h)
theorem qU{C Q}(I)(s:S3 I (jP C Q)){k l h}(i:I k l h)(e:l.length=3:=by rfl):hZ C Q l h:=JV.l3 I _ s i e
def jJ (C:Cfg)(Q:QP1)(g:LP)(i a:V)(h:Hp):Prop:=
 oP (pLd i h) λb=>
 oP (pLen b) λc=>
 bO .lss 3 a c (
 oP (pLd i h) λd=>
 dX 1 d a h λe=>
 bN e (
 Q bF h) (
 oP (hbin .add 3 a nO) λf=>
 g [i,f] h)) (
 Q bT h)
theorem qP{C Q}(I)(s:S2 I (jJ C Q)){k l h}(i:I k l h)(e:l.length=2:=by rfl):jL C Q l h:=JV.l2 I _ s i e
def kN (C:Cfg)(Q:QP1)(a0:V)(h:Hp):Prop:=
 alP (hbox 25 a0) h λG z=>
 oP (pLdA 3 G z) λf=>
 cP C iV [f] z λg H=>
 cP C t6 [g] H λi I=>
 alP (zC 30 [nZ,nZ,nS,nS,nS]) I λb J=>
 valP (pSt 5 b i J) λP K=>
 cP C jT [] K λj A=>
 oP (hun .not j) λa=>
 oP (pGd false a) λb3=>
 oP (gV b3 (pLdA 5 b A)) λk=>
 oP (pGd false a) λL=>
 oP (gC L (some (iE,[k]))) λM=>cgP C M A λl m=>
 oP (pOr a (hun .not l)) λn=>
 bP n (
 Q bF m) (
 dG 2 b m λc=>
 alP (hmakeSlice 4 1 1 bF c c) m λo N=>
 alP (zC 34 [nS]) N λp O=>
 valP (pSt 1 p o O) λB d=>
 dG 4 b d λe=>
 alP (hmakeSlice 4 1 1 bF e e) d λq r=>
 alP (zC 34 [nS]) r λs t=>
 valP (pSt 1 s q t) λD u=>
 alP (zC 23 [nS]) u λE v=>
 alP (zC 35 [V.nilFunc]) v λw x=>
 valP (pSt 1 w (V.func fO [] [p,E]) x) λF y=>
 ie C Q [b,p,s,E,w,(V.func fN [] [s,b,w]),nZ] y)
theorem rZ{C}(s:C.start=startF){a0 h Q}(k:C.K iJ [a0] h=none)(H:kN C Q a0 h):cP C iJ [a0] h Q:=cP.vd t4 s (by unfold P0;exact Tryd.func4) k H
def t15:List (Nat×List Nat):=[]
def ke (C:Cfg)(Q:QP1)(a0 a1 a2:V)(h:Hp):Prop:=
 oP (pLd a1 h) λg=>
 dX 1 g a0 h λi=>
 bN i (
 oP (pLd a1 h) λj=>
 oP (pIx 1 j a0) λa=>
 valP (pSt 1 a bT h) λn e=>
 oP (pLd a2 e) λb=>
 alP (pBS 3 1 1 nZ [(0,a0)]) e λc k=>
 valP (happend 3 1 8 b c k) λd l=>
 valP (pSt 1 a2 d l) λf m=>
 Q (V.tuple []) m) (
 Q (V.tuple []) h)
theorem rj{C}(s:C.start=startF){a0 a1 a2 h Q}(k:C.K fO [a0,a1,a2] h=none)(H:ke C Q a0 a1 a2 h):cP C fO [a0,a1,a2] h Q:=cP.vd t15 s (by unfold P0;exact Tryd.func15) k H
def t16:List (Nat×List Nat):=[(23,[0,2,3,5]),(5415,[0,2,3,5,6,7]),(5927,[0,2,3,5,6,8])]
def jm (C:Cfg)(Q:QP1):LP:=JV C Tryd.f16 t16 11 [0,2,3,5] [] Q
def jt (C:Cfg)(Q:QP1)(a:LP):LP:=JV C Tryd.f16 t16 2707 [0,2,3,5,6,7] [kf [0,2,3,5] a] Q
def js (C:Cfg)(Q:QP1)(a:LP):LP:=JV C Tryd.f16 t16 2963 [0,2,3,5,6,8] [kf [0,2,3,5] a] Q
def jq (C:Cfg)(Q:QP1)(a:LP)(b c m d:V)(h:Hp):Prop:=
 dF 4 c h λe=>
 oP (pIx 1 e b) λf=>
 dG 0 f h λg=>
 bO .lss 3 d g (
 dJ 4 c 1 b 0 h λi=>
 oP (pIx 4 i d) λj=>
 oP (pLdA 4 j h) λk=>
 alP (zC 40 [nZ,nZ,nS,nS]) h λl n=>
 valP (pSt 4 l k n) λp o=>
 jt C Q a [b,c,m,d,l,nZ] o) (
 Q (V.tuple []) h)
theorem pS{C Q}(I)(s:S4 I (jq C Q)){k l h}(i:I k l h)(e:l.length=4:=by rfl):jm C Q l h:=JV.l4 I _ s i e
def jr (C:Cfg)(Q:QP1)(b:LP)(c:LP)(k l d m a e:V)(h:Hp):Prop:=
 dG 2 a h λf=>
 bO .lss 3 e f (
 oP (pLd d h) λg=>
 dY 2 a 1 e h λi=>
 calP C (hcall g [i]) h λo n=>
 (h.next<=n.next/\
 oP (hbin .add 3 e nO) λj=>
 c [k,l,d,m,a,j] n)) (
 js C Q b [k,l,d,m,a,nZ] h)
theorem pT{C Q a}(I)(s:S6 I (jr C Q a)){k l h}(i:I k l h)(e:l.length=6:=by rfl):jt C Q a l h:=JV.l6 I _ s i e
def jp (C:Cfg)(Q:QP1)(a:LP)(b:LP)(l m c n d e:V)(h:Hp):Prop:=
 dG 3 d h λf=>
 bO .lss 3 e f (
 oP (pLd c h) λg=>
 dY 3 d 1 e h λi=>
 calP C (hcall g [i]) h λp o=>
 (h.next<=o.next/\
 oP (hbin .add 3 e nO) λj=>
 b [l,m,c,n,d,j] o)) (
 oP (hbin .add 3 n nO) λk=>
 a [l,m,c,k] h)
theorem pU{C Q a}(I)(s:S6 I (jp C Q a)){k l h}(i:I k l h)(e:l.length=6:=by rfl):js C Q a l h:=JV.l6 I _ s i e
def j5 (C:Cfg)(Q:QP1)(a0 a1 a2 a3:V)(h:Hp):Prop:=
 oP (pLd a1 h) λb=>
 oP (pIx 1 b a0) λa=>
 valP (pSt 1 a bT h) λd c=>
 jm C Q [a0,a2,a3,nZ] c
theorem rg{C}(s:C.start=startF){a0 a1 a2 a3 h Q}(k:C.K fN [a0,a1,a2,a3] h=none)(H:j5 C Q a0 a1 a2 a3 h):cP C fN [a0,a1,a2,a3] h Q:=cP.vd t16 s (by unfold P0;exact Tryd.func16) k H
end
