/- Parts. -/
import Derived.Test.YtkpicojjjifmgaaGreatDoorM14
namespace Go.Proofs.YtkpicojjjifmgaaGreatDoor.Hx
set_option maxRecDepth 100000
noncomputable section
def t6:List (Nat×List Nat):=[(175,[1,2,3,25,26,27]),(111406,[1,2,3,4,5,25,26,27,33,34]),(351,[1,2,3,54,55,56]),(3886,[1,2,3,25,26,27]),(504622,[1,2,3,4,25,26,27,45]),(7774,[1,2,3,54,55,56]),(319,[1,2,3]),(2815,[1,2,9,121,122,123]),(62206,[1,2,9,121,122,123])]
def Fo(C:ft)(Q:fy):LP:=JV C Tryz.f6 t6 87 [1,2,3,25,26,27] [] Q
def uy(C:ft)(Q:fy)(fT:LP):LP:=JV C Tryz.f6 t6 55703 [1,2,3,4,5,25,26,27,33,34] [kf [1,2,3,25,26,27] fT] Q
def EX(C:ft)(Q:fy):LP:=JV C Tryz.f6 t6 175 [1,2,3,54,55,56] [] Q
def pQ(C:ft)(Q:fy)(fT:LP):LP:=JV C Tryz.f6 t6 1943 [1,2,3,25,26,27] [kf [1,2,3,25,26,27] fT] Q
def uw(C:ft)(Q:fy)(fT:LP):LP:=JV C Tryz.f6 t6 252311 [1,2,3,4,25,26,27,45] [kf [1,2,3,25,26,27] fT] Q
def pH(C:ft)(Q:fy)(a:LP):LP:=JV C Tryz.f6 t6 3887 [1,2,3,54,55,56] [kf [1,2,3,54,55,56] a] Q
def Fl(C:ft)(Q:fy):LP:=JV C Tryz.f6 t6 159 [1,2,3] [] Q
def FA(C:ft)(Q:fy):LP:=JV C Tryz.f6 t6 1407 [1,2,9,121,122,123] [] Q
def yR(C:ft)(Q:fy)(a:LP):LP:=JV C Tryz.f6 t6 31103 [1,2,9,121,122,123] [kf [1,2,9,121,122,123] a] Q
def Fx(C:ft)(Q:fy)(fT:LP)(g j k c d a:V)(h:Hp):Prop:=bO .lss 3 a d (oP (gJ 6 c a) λl=>oP (fY 6 l h) λm=>hX (zC 45 [nZ,nZ,nZ,nZ,nS,nZ]) h λi q=>fk (gM 6 i m q) λr n=>dF 0 i n λb=>oP (ev .eql 3 b (V.I 22)) λe=>bP e (uy C Q fT [g,j,k,a,i,c,d,a,b,e] n) (oP (ev .eql 3 b (V.I 23)) λo=>uy C Q fT [g,j,k,a,i,c,d,a,b,o] n)) (dF 3 g h λf=>oP (fH f) λp=>EX C Q [g,j,k,f,p,nZ] h)
theorem LL{C Q}(I)(s:S6 I (Fx C Q)){k l h}(i:I k l h)(e:l.length=6:=by rfl):Fo C Q l h:=JV.l6 I _ s i e
def Ey(C:ft)(Q:fy)(fT:LP)(g i d j o a b c e k:V)(h:Hp):Prop:=bP k (dF 5 o h λl=>cP C mJ [d,l] h λp q=>hX (jG 3 1 1 nZ [(0,j)]) q λm r=>cP C je [d,m] r λs t=>pQ C Q fT [g,i,d,a,b,c] t) (oP (ev .eql 3 e (V.I 19)) λf=>bP f (uw C Q fT [g,i,d,j,a,b,c,f] h) (oP (ev .eql 3 e (V.I 20)) λn=>uw C Q fT [g,i,d,j,a,b,c,n] h))
theorem La{C Q fT}:DU (Ey C Q fT) (uy C Q fT):=JV.V6 _
def Fv(C:ft)(Q:fy)(d:LP)(i j e b c a:V)(h:Hp):Prop:=bO .lss 3 a c (oP (gJ 6 b a) λl=>oP (fY 6 l h) λm=>hX (zC 43 [nS,nZ,nZ,nS,nS,nZ]) h λk q=>fk (gM 6 k m q) λw f=>dF 1 k f λg=>bO .eql 3 g (V.I 2) (dF 2 k f λn=>hX (jG 3 1 1 nZ [(0,n)]) f λo r=>cP C je [e,o] r λs t=>pH C Q d [i,j,e,b,c,a] t) (bO .eql 3 g (V.I 3) (dF 5 k f λp=>cP C mJ [e,p] f λu v=>pH C Q d [i,j,e,b,c,a] v) (pH C Q d [i,j,e,b,c,a] f))) (Fl C Q [i,j,e] h)
theorem MO{C Q}(I)(s:S6 I (Fv C Q)){k l h}(i:I k l h)(e:l.length=6:=by rfl):EX C Q l h:=JV.l6 I _ s i e
def Ep(C:ft)(Q:fy)(fT:LP)(e f g a b c:V)(h:Hp):Prop:=oP (ev .add 3 c nO) λd=>fT [e,f,g,a,b,d] h
theorem K1{C Q fT}:R6 (Ep C Q fT) (pQ C Q fT):=JV.r6 _
def Eu(C:ft)(Q:fy)(fT:LP)(g i d j a b c e:V)(h:Hp):Prop:=bP e (hX (jG 3 1 1 nZ [(0,j)]) h λf k=>cP C je [d,f] k λl m=>pQ C Q fT [g,i,d,a,b,c] m) (pQ C Q fT [g,i,d,a,b,c] h)
theorem K8{C Q fT}:R8 (Eu C Q fT) (uw C Q fT):=JV.r8 _
def Em(C:ft)(Q:fy)(a:LP)(f g i b c d:V)(h:Hp):Prop:=oP (ev .add 3 d nO) λe=>a [f,g,i,b,c,e] h
theorem K4{C Q a}:R6 (Em C Q a) (pH C Q a):=JV.r6 _
def FV(C:ft)(Q:fy)(s:LP)(q B a:V)(h:Hp):Prop:=oP (iF a) λt=>dG 6 t h λu=>bO .gtr 3 u nZ (dN 6 a h λv=>oP (iF a) λw=>dG 6 w h λx=>oP (ev .sub 3 x nO) λy=>dX 1 v y h λz=>dN 6 a h λA=>oP (iF a) λc=>dG 6 c h λd=>oP (ev .sub 3 d nO) λe=>oP (jy 1 A none (some e) h) λf=>oP (iF a) λg=>oP (fI 6 g) λi=>fk (gM 1 i f h) λH r=>(h.next<=r.next/\dF 2 q r λj=>oP (gJ 6 j z) λk=>oP (fY 6 k r) λl=>cP C pA [l] r λm F=>cP C je [a,m] F λD G=>s [q,B,a] G)) (oP (fY 5 q h) λn=>cP C DE [n] h λo E=>dN 5 a E λb=>oP (fH b) λp=>FA C Q [q,B,o,b,p,nZ] E)
theorem LK{C Q}(I)(s:S3 I (FV C Q)){k l h}(i:I k l h)(e:l.length=3:=by rfl):Fl C Q l h:=JV.l3 I _ s i e
def E6(C:ft)(Q:fy)(d:LP)(l j k b c a:V)(h:Hp):Prop:=bO .lss 3 a c (dX 1 b a h λe=>bN e (oP (gJ 1 k a) λf=>fk (gM 1 f (V.I (-1)) h) λr o=>yR C Q d [l,j,k,b,c,a] o) (yR C Q d [l,j,k,b,c,a] h)) (oP (fY 5 l h) λg=>cP C Ap [g,k] h λi p=>fk (gM 5 j i p) λm n=>oP (fY 5 j n) λq=>Q q n)
theorem L7{C Q}(I)(s:S6 I (E6 C Q)){k l h}(i:I k l h)(e:l.length=6:=by rfl):FA C Q l h:=JV.l6 I _ s i e
def yX(C:ft)(Q:fy)(e:LP)(f g i a b c:V)(h:Hp):Prop:=oP (ev .add 3 c nO) λd=>e [f,g,i,a,b,d] h
theorem Ez{C Q a}:R6 (yX C Q a) (yR C Q a):=JV.r6 _
def Kz(C:ft)(Q:fy)(a0:V)(h:Hp):Prop:=hX (lX 30 a0) h λa x=>hX (zC 30 [nZ,nZ,nS,nS,nS]) x λj u=>oP (fY 5 a u) λk=>cP C BB [k] u λl b=>bN l (oP (fY 5 a b) λm=>cP C ye [m] b λn y=>fk (gM 5 j n y) λA v=>oP (fY 5 j v) λz=>Q z v) (oP (fY 5 a b) λd=>oP (fI 2 a) λe=>oP (eQ e b) λf=>oP (fH f) λg=>xE (iu 4 1 1 bF g g) b λo p w=>oP (fV [nZ,nZ,nS,nS,nS,nS,nS] [(0,5),(5,1),(6,1)] [(0,d),(1,p)]) λq=>xE (lX 58 q) w λr s c=>((c.get (w.next)=some r/\O.beq r r=true)/\((c.get (b.next)=some o/\O.beq o o=true)/\((eQ e c=some f)/\((fY 5 a c=some d)/\dF 2 a c λi=>oP (fH i) λt=>Fo C Q [a,j,s,i,t,nZ] c)))))
theorem Q5{C}(s:C.start=fO){a0 h Q}(k:C.K BD [a0] h=none)(H:Kz C Q a0 h):cP C BD [a0] h Q:=cP.vd t6 s (by unfold P0;exact Tryz.func6) k H
def t20:List (Nat×List Nat):=[(11,[0,14,15,16])]
def wU(C:ft)(Q:fy):LP:=JV C Tryz.f20 t20 5 [0,14,15,16] [] Q
def wD(C:ft)(Q:fy)(fT:LP)(d b c a:V)(h:Hp):Prop:=bO .lss 3 a c (oP (gJ 4 b a) λe=>oP (fY 4 e h) λf=>hX (zC 49 [nZ,nZ,nS,nS]) h λg n=>fk (gM 4 g f n) λr l=>dF 2 g l λi=>cP C je [d,i] l λo m=>dF 3 g m λj=>cP C je [d,j] m λp q=>oP (ev .add 3 a nO) λk=>fT [d,b,c,k] q) (Q (V.tuple []) h)
theorem Dn{C Q}(I)(s:S4 I (wD C Q)){k l h}(i:I k l h)(e:l.length=4:=by rfl):wU C Q l h:=JV.l4 I _ s i e
def zk(C:ft)(Q:fy)(a0 a1:V)(h:Hp):Prop:=oP (iF a0) λc=>oP (fI 0 c) λd=>dJ 4 d 1 a1 0 h λa=>oP (fH a) λb=>wU C Q [a0,a,b,nZ] h
theorem GW{C}(s:C.start=fO){a0 a1 h Q}(k:C.K mJ [a0,a1] h=none)(H:zk C Q a0 a1 h):cP C mJ [a0,a1] h Q:=cP.vd t20 s (by unfold P0;exact Tryz.func20) k H
def t21:List (Nat×List Nat):=[(11,[0,6,7,8]),(242,[0,6,7,8])]
def xH(C:ft)(Q:fy):LP:=JV C Tryz.f21 t21 5 [0,6,7,8] [] Q
def p7(C:ft)(Q:fy)(fT:LP):LP:=JV C Tryz.f21 t21 121 [0,6,7,8] [kf [0,6,7,8] fT] Q
def xN(C:ft)(Q:fy)(fT:LP)(b d e c:V)(h:Hp):Prop:=bO .lss 3 c e (dX 1 d c h λa=>dN 5 b h λf=>dX 1 f a h λg=>bN g (dN 5 b h λi=>oP (gJ 1 i a) λj=>fk (gM 1 j bT h) λu p=>dN 6 b p λk=>hX (jG 3 1 1 nZ [(0,a)]) p λl r=>fk (fg 3 1 8 k l r) λm s=>oP (iF b) λn=>oP (fI 6 n) λo=>fk (gM 1 o m s) λq t=>p7 C Q fT [b,d,e,c] t) (p7 C Q fT [b,d,e,c] h)) (Q (V.tuple []) h)
theorem EB{C Q}(I)(s:S4 I (xN C Q)){k l h}(i:I k l h)(e:l.length=4:=by rfl):xH C Q l h:=JV.l4 I _ s i e
def p8(C:ft)(Q:fy)(fT:LP)(b c d e:V)(h:Hp):Prop:=oP (ev .add 3 e nO) λa=>fT [b,c,d,a] h
theorem xM{C Q fT}:R4 (p8 C Q fT) (p7 C Q fT):=JV.r4 _
def Al(C:ft)(Q:fy)(a0 a1:V)(h:Hp):Prop:=oP (fH a1) λa=>xH C Q [a0,a1,a,nZ] h
theorem HX{C}(s:C.start=fO){a0 a1 h Q}(k:C.K je [a0,a1] h=none)(H:Al C Q a0 a1 h):cP C je [a0,a1] h Q:=cP.vd t21 s (by unfold P0;exact Tryz.func21) k H
end
set_option maxRecDepth 100000
noncomputable section
def t40:List (Nat×List Nat):=[(383,[1,2,3,4,5,10,11,12,13,14,15]),(40063,[1,2,3,4,5,10,11,12,13,14,15,16,17,18]),(4004990,[1,2,3,4,5,10,11,12,13,14,15,16,17,18,20]),(183311487,[1,2,3,4,5,10,11,12,13,14,15,16,17,18,19,20,21]),(31870,[1,2,3,4,5,10,11,12,13,14,16,17,18]),(179327,[1,2,3,4,5,10,11,12,13,14,16,17,18,22]),(162943,[1,2,3,4,5,10,11,12,13,14,16,18]),(1866878,[1,2,3,4,5,10,11,12,13,14,16,18]),(140737419443326,[1,2,3,4,5,10,11,12,13,14,16,18,23,24,298])]
def vw(C:ft)(Q:fy):LP:=JV C Tryz.f40 t40 191 [1,2,3,4,5,10,11,12,13,14,15] [] Q
def pd(C:ft)(Q:fy)(fT:LP):LP:=JV C Tryz.f40 t40 20031 [1,2,3,4,5,10,11,12,13,14,15,16,17,18] [kf [1,2,3,4,5,10,11,12,13,14,15] fT] Q
def jm(C:ft)(Q:fy)(fT:LP)(a:LP):LP:=JV C Tryz.f40 t40 2002495 [1,2,3,4,5,10,11,12,13,14,15,16,17,18,20] [kf [1,2,3,4,5,10,11,12,13,14,15] fT,kf [1,2,3,4,5,10,11,12,13,14,15,16,17,18] a] Q
def uU(C:ft)(Q:fy)(fT:LP)(a:LP):LP:=JV C Tryz.f40 t40 91655743 [1,2,3,4,5,10,11,12,13,14,15,16,17,18,19,20,21] [kf [1,2,3,4,5,10,11,12,13,14,15] fT,kf [1,2,3,4,5,10,11,12,13,14,15,16,17,18] a] Q
def jA(C:ft)(Q:fy)(fT:LP):LP:=JV C Tryz.f40 t40 15935 [1,2,3,4,5,10,11,12,13,14,16,17,18] [kf [1,2,3,4,5,10,11,12,13,14,15] fT] Q
def uQ(C:ft)(Q:fy)(fT:LP):LP:=JV C Tryz.f40 t40 89663 [1,2,3,4,5,10,11,12,13,14,16,17,18,22] [kf [1,2,3,4,5,10,11,12,13,14,15] fT] Q
def mm(C:ft)(Q:fy)(fT:LP):LP:=JV C Tryz.f40 t40 81471 [1,2,3,4,5,10,11,12,13,14,16,18] [kf [1,2,3,4,5,10,11,12,13,14,15] fT] Q
def fZ(C:ft)(Q:fy)(fT:LP)(a:LP):LP:=JV C Tryz.f40 t40 933439 [1,2,3,4,5,10,11,12,13,14,16,18] [kf [1,2,3,4,5,10,11,12,13,14,15] fT,kf [1,2,3,4,5,10,11,12,13,14,16,18] a] Q
def lN(C:ft)(Q:fy)(fT:LP)(a:LP):LP:=JV C Tryz.f40 t40 70368709721663 [1,2,3,4,5,10,11,12,13,14,16,18,23,24,298] [kf [1,2,3,4,5,10,11,12,13,14,15] fT,kf [1,2,3,4,5,10,11,12,13,14,16,18] a] Q
def ve(C:ft)(Q:fy)(fT:LP)(m n o p l c d e f a g:V)(h:Hp):Prop:=dF 3 l h λi=>oP (gJ 6 i a) λj=>oP (fY 6 j h) λk=>hX (zC 43 [nS,nZ,nZ,nS,nS,nZ]) h λb q=>fk (gM 6 b k q) λs r=>pd C Q fT [m,n,o,p,l,c,d,e,f,a,g,b,nS,nZ] r
theorem CN{C Q}(I)(s:S11 I (ve C Q)){k l h}(i:I k l h)(e:l.length=11:=by rfl):vw C Q l h:=JV.l11 I _ s i e
def vI(C:ft)(Q:fy)(fT:LP)(l:LP)(q m r s p d e f g i n a j b:V)(h:Hp):Prop:=dG 0 a h λB=>bO .lss 3 b B (oP (fI 2 p) λt=>oP (eQ t h) λu=>oP (fI 0 a) λv=>oP (eQ v h) λw=>oP (gJ 1 w b) λx=>oP (eQ x h) λy=>oP (gJ 6 u y) λz=>oP (fY 6 z h) λA=>xE (zC 45 [nZ,nZ,nZ,nZ,nS,nZ]) h λD c o=>((o.get (h.next)=some D/\O.beq D D=true)/\((fY 6 z o=some A)/\((eQ x o=some y)/\((eQ v o=some w)/\((eQ t o=some u)/\fk (gM 6 c A o) λK k=>(o.next<=k.next/\dF 0 c k λE=>bO .eql 3 E nO (dF 3 c k λF=>oP (fH m) λG=>bO .lss 3 F G (dF 3 c k λH=>dX 1 m H k λI=>jm C Q fT l [q,m,r,s,p,d,e,f,g,i,n,a,j,b,I] k) (jm C Q fT l [q,m,r,s,p,d,e,f,g,i,n,a,j,b,(V.int .u64 0)] k)) (dF 0 c k λJ=>bO .eql 3 J (V.I 21) (uU C Q fT l [q,m,r,s,p,d,e,f,g,i,n,a,j,b,c,(V.int .u64 0),nZ] k) (jA C Q fT [q,m,r,s,p,d,e,f,g,i,a,j,b] k))))))))) (jA C Q fT [q,m,r,s,p,d,e,f,g,i,a,j,b] h)
theorem Cu{C Q fT}(I)(s:S14 I (vI C Q fT)){k l h}(i:I k l h)(e:l.length=14:=by rfl):pd C Q fT l h:=JV.l14 I _ s i e
def tT(C:ft)(Q:fy)(fT:LP)(a:LP)(p q r s t b c d e f g i j k l:V)(h:Hp):Prop:=hX (jG 90 1 1 (V.int .u64 0) [(0,l)]) h λm u=>fk (fg 90 1 8 j m u) λn v=>oP (ev .add 3 k nO) λo=>a [p,q,r,s,t,b,c,d,e,f,g,i,n,o] v
theorem B6{C Q fT a}:R15 (tT C Q fT a) (jm C Q fT a):=JV.r15 _
def vn(C:ft)(Q:fy)(fT:LP)(l:LP)(o:LP)(p q r s t e b f g i c a j k m n d:V)(h:Hp):Prop:=dG 4 a h λu=>bO .lss 3 d u (dY 4 a 1 d h λv=>bO .eql 3 v c (dY 4 m 1 d h λw=>dX 1 b w h λx=>jm C Q fT l [p,q,r,s,t,e,b,f,g,i,c,a,j,k,x] h) (oP (ev .add 3 d nO) λy=>o [p,q,r,s,t,e,b,f,g,i,c,a,j,k,m,n,y] h)) (jm C Q fT l [p,q,r,s,t,e,b,f,g,i,c,a,j,k,n] h)
theorem CD{C Q fT a}(I)(s:S17 I (vn C Q fT a)){k l h}(i:I k l h)(e:l.length=17:=by rfl):uU C Q fT a l h:=JV.l17 I _ s i e
def vG(C:ft)(Q:fy)(fT:LP)(j k l m n a b c d e f g i:V)(h:Hp):Prop:=uQ C Q fT [j,k,l,m,n,a,b,c,d,e,f,g,i,nZ] h
theorem CU{C Q fT}:R13 (vG C Q fT) (jA C Q fT):=JV.r13 _
def uP(C:ft)(Q:fy)(fT:LP)(o:LP)(q r s t u e b f g i c j d a:V)(h:Hp):Prop:=bO .lss 3 a d (dY 0 c 1 a h λk=>dX 1 j a h λl=>oP (gJ 1 b k) λm=>fk (gM 1 m l h) λw v=>(h.next<=v.next/\oP (ev .add 3 f nO) λn=>oP (ev .add 3 a nO) λp=>o [q,r,s,t,u,e,b,n,g,i,c,j,d,p] v)) (mm C Q fT [q,r,s,t,u,e,b,f,g,i,c,d] h)
theorem C0{C Q fT}(I)(s:S14 I (uP C Q fT)){k l h}(i:I k l h)(e:l.length=14:=by rfl):uQ C Q fT l h:=JV.l14 I _ s i e
def vK(C:ft)(Q:fy)(fT:LP)(m:LP)(n r p q o b a t j k f l:V)(h:Hp):Prop:=dG 0 f h λB=>bO .lss 3 l B (bO .geq 3 t q (oP (fV [nZ,nZ,nZ,nS,nZ] [(0,1),(1,1),(2,1),(3,1),(4,1)] [(0,nZ),(1,(V.I (-1))),(2,(V.I (-1))),(4,t)]) λD=>fk (gM 5 b D h) λvu h1=>oP (fY 5 b h1) λV6=>Q V6 h1) (oP (ev .add 3 t nO) λd=>dY 0 f 1 l h λi=>dF 2 o h λE=>oP (gJ 6 E i) λF=>oP (fY 6 F h) λG=>hX (zC 45 [nZ,nZ,nZ,nZ,nS,nZ]) h λe h2=>fk (gM 6 e G h2) λbm c=>dF 0 e c λg=>bO .eql 3 g (V.I 2) (dF 3 e c λH=>oP (tK .u64 H) λI=>oP (gJ 1 a i) λJ=>fk (gM 1 J I c) λbo h4=>fZ C Q fT m [n,r,p,q,o,b,a,d,j,k,f,l] h4) (bO .eql 3 g (V.I 15) (dF 1 e c λK=>dX 1 a K c λL=>cP C lg [n,L] c λM h5=>oP (tK .u64 M) λN=>oP (gJ 1 a i) λO=>fk (gM 1 O N h5) λbr h6=>fZ C Q fT m [n,r,p,q,o,b,a,d,j,k,f,l] h6) (bO .eql 3 g (V.I 16) (dF 1 e c λP=>dX 1 a P c λR=>cP C jZ [n,R] c λS h7=>oP (tK .u64 S) λT=>oP (gJ 1 a i) λU=>fk (gM 1 U T h7) λbt h8=>fZ C Q fT m [n,r,p,q,o,b,a,d,j,k,f,l] h8) (bO .eql 3 g (V.I 17) (dF 1 e c λW=>dX 1 a W c λX=>dF 3 e c λY=>oP (tK .u64 Y) λZ=>oP (ev .add 90 X Z) λaa=>cP C iH [n,aa] c λab h9=>(c.next<=h9.next/\oP (gJ 1 a i) λac=>fk (gM 1 ac ab h9) λbu ae=>(h9.next<=ae.next/\fZ C Q fT m [n,r,p,q,o,b,a,d,j,k,f,l] ae))) (bO .eql 3 g (V.I 18) (dF 1 e c λag=>dX 1 a ag c λah=>oP (ev .add 90 ah (V.int .u64 1)) λai=>dF 2 e c λaj=>dX 1 a aj c λak=>oP (ev .add 90 ai ak) λal=>cP C iH [n,al] c λam w=>(c.next<=w.next/\oP (gJ 1 a i) λan=>fk (gM 1 an am w) λbw ao=>(w.next<=ao.next/\fZ C Q fT m [n,r,p,q,o,b,a,d,j,k,f,l] ao))) (bO .eql 3 g (V.I 19) (dF 1 e c λap=>dX 1 a ap c λaq=>dF 3 e c λar=>oP (tK .u64 ar) λau=>oP (ev .add 90 aq au) λaw=>dF 2 e c λax=>dX 1 a ax c λay=>cP C jl [n,aw,ay] c λbx aA=>(c.next<=aA.next/\fZ C Q fT m [n,r,p,q,o,b,a,d,j,k,f,l] aA)) (bO .eql 3 g (V.I 20) (dF 1 e c λaB=>dX 1 a aB c λaC=>oP (ev .add 90 aC (V.int .u64 1)) λaD=>dF 2 e c λaE=>dX 1 a aE c λaF=>oP (ev .add 90 aD aF) λaG=>dY 4 e 1 nZ c λaH=>dX 1 a aH c λaI=>cP C jl [n,aG,aI] c λbz aJ=>(c.next<=aJ.next/\fZ C Q fT m [n,r,p,q,o,b,a,d,j,k,f,l] aJ)) (bO .eql 3 g (V.I 22) (dF 1 e c λaK=>dX 1 a aK c λaL=>bO .eql 90 aL (V.int .u64 0) (oP (fY 5 o c) λaM=>dF 5 e c λaN=>cP C jh [aM,a,aN,i,d] c λaO bg=>fk (gM 5 b aO bg) λbA aP=>oP (fY 5 b aP) λx=>Q x aP) (fZ C Q fT m [n,r,p,q,o,b,a,d,j,k,f,l] c)) (bO .eql 3 g (V.I 23) (oP (ev .geq 3 p nZ) λaQ=>oP (kv aQ (oB (some j) λaR=>oB (some p) λaS=>ev .eql 3 aR aS)) λaT=>bP aT (oP (fY 5 o c) λaU=>dF 5 e c λaV=>cP C jh [aU,a,aV,i,d] c λaW bh=>fk (gM 5 b aW bh) λbC aX=>oP (fY 5 b aX) λy=>Q y aX) (oP (ev .add 3 j nO) λaY=>fZ C Q fT m [n,r,p,q,o,b,a,d,aY,k,f,l] c)) (oP (ev .eql 3 g (V.I 8)) λu=>bP u (lN C Q fT m [n,r,p,q,o,b,a,d,j,k,f,l,i,e,u] c) (oP (ev .eql 3 g (V.I 9)) λaZ=>lN C Q fT m [n,r,p,q,o,b,a,d,j,k,f,l,i,e,aZ] c)))))))))))) (bO .geq 3 t q (oP (fV [nZ,nZ,nZ,nS,nZ] [(0,1),(1,1),(2,1),(3,1),(4,1)] [(0,nZ),(1,(V.I (-1))),(2,(V.I (-1))),(4,t)]) λa5=>fk (gM 5 b a5 h) λbD a6=>oP (fY 5 b a6) λz=>Q z a6) (oP (ev .add 3 t nO) λs=>dF 1 f h λv=>bO .eql 3 v nO (dY 3 f 1 nZ h λa7=>fT [n,r,p,q,o,b,a,s,j,a7,k] h) (bO .eql 3 v (V.I 2) (dF 2 f h λa8=>dX 1 a a8 h λa9=>bO .neq 90 a9 (V.int .u64 0) (dY 3 f 1 nZ h λba=>fT [n,r,p,q,o,b,a,s,j,ba,k] h) (dY 3 f 1 nO h λbb=>fT [n,r,p,q,o,b,a,s,j,bb,k] h)) (oP (fY 5 o h) λbc=>dF 5 f h λbd=>cP C jh [bc,a,bd,(V.I (-1)),s] h λbe bi=>fk (gM 5 b be bi) λbj bf=>oP (fY 5 b bf) λA=>Q A bf))))
theorem C8{C Q fT}(I)(s:S12 I (vK C Q fT)){k l h}(i:I k l h)(e:l.length=12:=by rfl):mm C Q fT l h:=JV.l12 I _ s i e
def tQ(C:ft)(Q:fy)(fT:LP)(b:LP)(k l m n o c d e f g i j:V)(h:Hp):Prop:=oP (ev .add 3 j nO) λa=>b [k,l,m,n,o,c,d,e,f,g,i,a] h
theorem B4{C Q fT a}:R12 (tQ C Q fT a) (fZ C Q fT a):=JV.r12 _
def ue(C:ft)(Q:fy)(fT:LP)(e:LP)(D E F G H f a g i j k l m b n:V)(h:Hp):Prop:=bP n (dF 0 b h λo=>dF 1 b h λp=>dX 1 a p h λq=>cP C kK [o,q,(V.int .u64 0)] h λc A=>(h.next<=A.next/\oP (HO 0 c) λr=>oP (HO 1 c) λI=>oP (gJ 1 a m) λs=>fk (gM 1 s r A) λN J=>(A.next<=J.next/\fZ C Q fT e [D,E,F,G,H,f,a,g,i,j,k,l] J))) (dF 0 b h λt=>dF 1 b h λu=>dX 1 a u h λv=>dF 2 b h λw=>dX 1 a w h λx=>cP C kK [t,v,x] h λd B=>(h.next<=B.next/\oP (HO 0 d) λy=>oP (HO 1 d) λK=>oP (gJ 1 a m) λz=>fk (gM 1 z y B) λL M=>(B.next<=M.next/\fZ C Q fT e [D,E,F,G,H,f,a,g,i,j,k,l] M)))
theorem BJ{C Q fT a}:R15 (ue C Q fT a) (lN C Q fT a):=JV.r15 _
def yq(C:ft)(Q:fy)(a0 a1 a2 a3 a4:V)(h:Hp):Prop:=hX (lX 30 a0) h λd f=>hX (zC 83 [nZ,nZ,nZ,nS,nZ]) f λb e=>dG 2 d e λa=>hX (iu 90 1 8 (V.int .u64 0) a a) e λc g=>vw C Q [a1,a2,a3,a4,d,b,c,nZ,nZ,nZ,(V.I (-1))] g
theorem EP{C}(s:C.start=fO){a0 a1 a2 a3 a4 h Q}(k:C.K jF [a0,a1,a2,a3,a4] h=none)(H:yq C Q a0 a1 a2 a3 a4 h):cP C jF [a0,a1,a2,a3,a4] h Q:=cP.vd t40 s (by unfold P0;exact Tryz.func40) k H
def t71:List (Nat×List Nat):=[]
def wX(C:ft)(Q:fy)(a0 a1 a2:V)(h:Hp):Prop:=oP (tK .i64 a1) λb=>oP (tK .i64 a2) λa=>bO .eql 3 a0 (V.I 3) (oP (ev .add 90 a1 a2) λc=>Q (V.tuple [c,bT]) h) (bO .eql 3 a0 (V.I 4) (oP (ev .sub 90 a1 a2) λd=>Q (V.tuple [d,bT]) h) (bO .eql 3 a0 (V.I 5) (oP (ev .mul 90 a1 a2) λe=>Q (V.tuple [e,bT]) h) (bO .eql 3 a0 (V.I 6) (bO .eql 2 a nZ (Q (V.tuple [(V.int .u64 0),bT]) h) (bO .eql 2 a (V.I (-1)) (oP (pI .neg a1) λf=>Q (V.tuple [f,bT]) h) (oP (ev .quo 2 b a) λg=>oP (tK .u64 g) λi=>Q (V.tuple [i,bT]) h))) (bO .eql 3 a0 (V.I 7) (oP (ev .eql 2 a nZ) λj=>oP (nt j (oB (some a) λk=>ev .eql 2 k (V.I (-1)))) λl=>bP l (Q (V.tuple [(V.int .u64 0),bT]) h) (oP (ev .rem 2 b a) λm=>oP (tK .u64 m) λn=>Q (V.tuple [n,bT]) h)) (bO .eql 3 a0 (V.I 8) (oP (pI .neg a1) λo=>Q (V.tuple [o,bT]) h) (bO .eql 3 a0 (V.I 9) (oP (ev .eql 90 a1 (V.int .u64 0)) λp=>cP C iD [p] h λq B=>Q (V.tuple [q,bT]) B) (bO .eql 3 a0 (V.I 10) (oP (ev .eql 90 a1 a2) λr=>cP C iD [r] h λs D=>Q (V.tuple [s,bT]) D) (bO .eql 3 a0 (V.I 11) (oP (ev .neq 90 a1 a2) λt=>cP C iD [t] h λu E=>Q (V.tuple [u,bT]) E) (bO .eql 3 a0 (V.I 12) (oP (ev .lss 2 b a) λv=>cP C iD [v] h λw F=>Q (V.tuple [w,bT]) F) (bO .eql 3 a0 (V.I 13) (oP (ev .leq 2 b a) λx=>cP C iD [x] h λy G=>Q (V.tuple [y,bT]) G) (bO .eql 3 a0 (V.I 14) (oP (ev .lss 90 a1 a2) λz=>cP C iD [z] h λA H=>Q (V.tuple [A,bT]) H) (Q (V.tuple [(V.int .u64 0),bF]) h))))))))))))
theorem Dr{C}(s:C.start=fO){a0 a1 a2 h Q}(k:C.K kK [a0,a1,a2] h=none)(H:wX C Q a0 a1 a2 h):cP C kK [a0,a1,a2] h Q:=cP.vd t71 s (by unfold P0;exact Tryz.func71) k H
def t87:List (Nat×List Nat):=[]
def xD(C:ft)(Q:fy)(a0:V)(h:Hp):Prop:=bP a0 (Q (V.int .u64 1) h) (Q (V.int .u64 0) h)
theorem EH{C}(s:C.start=fO){a0 h Q}(k:C.K iD [a0] h=none)(H:xD C Q a0 h):cP C iD [a0] h Q:=cP.vd t87 s (by unfold P0;exact Tryz.func87) k H
def t70:List (Nat×List Nat):=[(87,[1,2,5,10,11,12]),(44183,[1,2,5,10,11,12,13,14,15]),(89239,[1,2,5,10,11,12,13,14,16])]
def sY(C:ft)(Q:fy):LP:=JV C Tryz.f70 t70 43 [1,2,5,10,11,12] [] Q
def sP(C:ft)(Q:fy)(fT:LP):LP:=JV C Tryz.f70 t70 22091 [1,2,5,10,11,12,13,14,15] [kf [1,2,5,10,11,12] fT] Q
def rS(C:ft)(Q:fy)(fT:LP):LP:=JV C Tryz.f70 t70 44619 [1,2,5,10,11,12,13,14,16] [kf [1,2,5,10,11,12] fT] Q
def si(C:ft)(Q:fy)(fT:LP)(w f g b d c:V)(h:Hp):Prop:=dF 4 g h λi=>oP (gJ 1 i f) λj=>dG 0 j h λk=>bO .lss 3 c k (dJ 4 g 1 f 0 h λl=>oP (gJ 4 l c) λm=>oP (fY 4 m h) λn=>hX (zC 49 [nZ,nZ,nS,nS]) h λa x=>fk (gM 4 a n x) λA o=>dF 0 a o λp=>dF 1 a o λq=>oP (fV [nZ,nZ,nS,nS] [(0,1),(1,1),(2,1),(3,1)] [(0,p),(1,q)]) λr=>hX (zC 115 [nZ,nZ,nS,nS]) o λe y=>fk (gM 4 e r y) λt z=>sP C Q fT [w,f,g,b,d,c,a,e,nZ] z) (oP (fY 5 d h) λs=>fk (gM 5 b s h) λu v=>oP (fY 5 b v) λV6=>Q V6 v)
theorem AS{C Q}(I)(s:S6 I (si C Q)){k l h}(i:I k l h)(e:l.length=6:=by rfl):sY C Q l h:=JV.l6 I _ s i e
def ti(C:ft)(Q:fy)(fT:LP)(r:LP)(s z A f g i a b c:V)(h:Hp):Prop:=dG 2 a h λt=>bO .lss 3 c t (oP (fI 2 b) λj=>oP (eQ j h) λk=>oP (fI 2 a) λl=>oP (eQ l h) λm=>oP (gJ 1 m c) λn=>oP (eQ n h) λo=>oP (gJ 1 s o) λp=>oP (eQ p h) λq=>xE (jG 90 1 1 (V.int .u64 0) [(0,q)]) h λd u e=>((e.get (h.next)=some d/\O.beq d d=true)/\((eQ p e=some q)/\((eQ n e=some o)/\((eQ l e=some m)/\((eQ j e=some k)/\fk (fg 90 1 8 k u e) λv w=>(e.next<=w.next/\oP (fI 2 b) λx=>fk (gM 1 x v w) λD B=>(w.next<=B.next/\oP (ev .add 3 c nO) λy=>r [s,z,A,f,g,i,a,b,y] B)))))))) (rS C Q fT [s,z,A,f,g,i,a,b,nZ] h)
theorem A9{C Q fT}(I)(s:S9 I (ti C Q fT)){k l h}(i:I k l h)(e:l.length=9:=by rfl):sP C Q fT l h:=JV.l9 I _ s i e
def rD(C:ft)(Q:fy)(fT:LP)(r:LP)(s G H g a i c b d:V)(h:Hp):Prop:=dG 3 c h λt=>bO .lss 3 d t (oP (fI 3 b) λj=>oP (eQ j h) λk=>oP (fI 3 c) λl=>oP (eQ l h) λm=>oP (gJ 1 m d) λn=>oP (eQ n h) λo=>oP (gJ 1 s o) λp=>oP (eQ p h) λq=>xE (jG 90 1 1 (V.int .u64 0) [(0,q)]) h λe u f=>((f.get (h.next)=some e/\O.beq e e=true)/\((eQ p f=some q)/\((eQ n f=some o)/\((eQ l f=some m)/\((eQ j f=some k)/\fk (fg 90 1 8 k u f) λv w=>(f.next<=w.next/\oP (fI 3 b) λx=>fk (gM 1 x v w) λN I=>(w.next<=I.next/\oP (ev .add 3 d nO) λy=>r [s,G,H,g,a,i,c,b,y] I)))))))) (dF 3 a h λz=>oP (fY 4 b h) λA=>hX (jG 115 4 1 (V.agg [nZ,nZ,nS,nS]) [(0,A)]) h λB K=>fk (fg 115 4 64 z B K) λD L=>oP (fI 3 a) λE=>fk (gM 1 E D L) λJ M=>oP (ev .add 3 i nO) λF=>fT [s,G,H,g,a,F] M)
theorem AK{C Q fT}(I)(s:S9 I (rD C Q fT)){k l h}(i:I k l h)(e:l.length=9:=by rfl):rS C Q fT l h:=JV.l9 I _ s i e
def xg(C:ft)(Q:fy)(a0 a1 a2 a3 a4:V)(h:Hp):Prop:=hX (lX 30 a0) h λd e=>hX (zC 83 [nZ,nZ,nZ,nS,nZ]) e λb f=>oP (fV [nZ,nZ,nZ,nS,nZ] [(0,1),(1,1),(2,1),(3,1),(4,1)] [(0,nO),(1,a2),(2,a3),(4,a4)]) λc=>hX (zC 83 [nZ,nZ,nZ,nS,nZ]) f λa g=>fk (gM 5 a c g) λj i=>sY C Q [a1,a2,d,b,a,nZ] i
theorem DL{C}(s:C.start=fO){a0 a1 a2 a3 a4 h Q}(k:C.K jh [a0,a1,a2,a3,a4] h=none)(H:xg C Q a0 a1 a2 a3 a4 h):cP C jh [a0,a1,a2,a3,a4] h Q:=cP.vd t70 s (by unfold P0;exact Tryz.func70) k H
section
variable (C:ft)(Q:X->gK->Hp->Prop)(ρ:gK)(h:Hp)
def Nb:=JL Tryz.f10
def zaE:=Nb.r
def zaX:=Nb.r.r
def zaQ:=Nb.r.r.r
def zaN:=Nb.r.r.r.r
def zae:=Nb.r.r.r.r.l.r
def zaH:=Nb.r.r.r.r.r
def zdO:=andThen (Wp C 64 zaH Q) Q
def zaI:=Nb.r.r.r.r.l.r.l.r
def za0:=Nb.r.r.r.r.r.r
def zao:=Nb.r.r.r.r.r.r.r
theorem K6:jU C 64 Nb Q ρ h=(hX (lX 30 (ρ 0)) h λb c=>
 hX (lX 30 (ρ 1)) c λd e=>
 oP (some (V.bool false)) λa=>
 Wp C 64 zaE Q (fu (fu (fu ρ 6 b) 7 d) 12 a) e):=by kernel_rfl
theorem zdC:jU C 64 zaE Q ρ h=(oP (some (ρ 2)) λa=>
 dcP C iI [a] h λb d=>
 oP (some b) λc=>
 Wp C 64 zaX Q (fu (fu (fu ρ 17 a) 18 b) 13 c) d):=by kernel_rfl
theorem zcG:jU C 64 zaX Q ρ h=(oP (some (ρ 2)) λa=>
 dcP C iI [a] h λb d=>
 oP (some b) λc=>
 Wp C 64 zaQ Q (fu (fu (fu ρ 19 a) 20 b) 14 c) d):=by kernel_rfl
theorem zcE:jU C 64 zaQ Q ρ h=(oP (fY 5 (ρ 6) h) λa=>
 oP (some (ρ 13)) λb=>
 oP (some (ρ 3)) λc=>
 oP (some (ρ 4)) λd=>
 oP (some (ρ 5)) λe=>
 dcP C jF [a,b,c,d,e] h λf i=>
 hX (some (.cells 83 1 true false [(V.I 0),(V.I 0),(V.I 0),V.ef,(V.I 0)],λl=> .ptr l 0)) i λg j=>
 fk (gM 5 g f j) λm k=>
 Wp C 64 zaN Q (fu (fu (fu (fu (fu (fu (fu ρ 21 a) 22 b) 23 c) 24 d) 25 e) 26 f) 15 g) k):=by kernel_rfl
theorem zdB:jU C 64 zaN Q ρ h=(oP (fI 0 (ρ 15)) λa=>
 oP (eQ a h) λb=>
 oP (ev .neq 3 b (V.I 1)) λc=>
 Wp C 64 zae (zdO C Q) (fu (fu (fu ρ 27 a) 28 b) 29 c) h):=by kernel_rfl
theorem zc5:jU C 64 zaH Q ρ h=(oP (fY 5 (ρ 7) h) λa=>
 oP (some (ρ 14)) λb=>
 oP (some (ρ 3)) λc=>
 oP (some (ρ 4)) λd=>
 oP (some (ρ 5)) λe=>
 dcP C jF [a,b,c,d,e] h λf i=>
 hX (some (.cells 83 1 true false [(V.I 0),(V.I 0),(V.I 0),V.ef,(V.I 0)],λl=> .ptr l 0)) i λg j=>
 fk (gM 5 g f j) λm k=>
 Wp C 64 za0 Q (fu (fu (fu (fu (fu (fu (fu ρ 30 a) 31 b) 32 c) 33 d) 34 e) 35 f) 16 g) k):=by kernel_rfl
theorem zcd:jU C 64 zae Q ρ h=(oP (some (ρ 29)) λc=>
 bP c (
 oP (some (V.bool true)) λa=>
 Wp C 64 zaI Q (fu ρ 12 a) h) (
 Q .normal ρ h)):=by kernel_rfl
theorem zc2:jU C 64 za0 Q ρ h=(oP (fI 0 (ρ 16)) λd=>
 oP (eQ d h) λe=>
 oP (ev .eql 3 e (V.I 1)) λf=>
 oP (some f) λb=>
 oP (fD true b) λY=>
 oP (gV Y (fI 4 (ρ 16))) λg=>
 oP (fD true b) λZ=>
 oP (gV Z (eQ g h)) λi=>
 oP (fD true b) λb6=>
 oP (gV b6 (fI 4 (ρ 15))) λj=>
 oP (fD true b) λb7=>
 oP (gV b7 (eQ j h)) λk=>
 oP (fD true b) λb8=>
 oP (gV b8 (ev .leq 3 i k)) λl=>
 oP (js b l (V.bool false)) λm=>
 oP (some m) λc=>
 oP (fD true c) λF=>
 oP (gV F (fI 3 (ρ 15))) λn=>
 oP (fD true c) λG=>
 oP (gV G (eQ n h)) λx=>
 oP (fD true c) λH=>
 oP (gV H (fI 3 (ρ 16))) λo=>
 oP (fD true c) λI=>
 oP (gV I (eQ o h)) λy=>
 ((gT I (eQ o h=some y))/\
 ((gT H (fI 3 (ρ 16)=some o))/\
 ((gT G (eQ n h=some x))/\
 ((gT F (fI 3 (ρ 15)=some n))/\
 ((some m=some c)/\
 ((js b l (V.bool false)=some m)/\
 ((gT b8 (ev .leq 3 i k=some l))/\
 ((gT b7 (eQ j h=some k))/\
 ((gT b6 (fI 4 (ρ 15)=some j))/\
 ((gT Z (eQ g h=some i))/\
 ((gT Y (fI 4 (ρ 16)=some g))/\
 ((some f=some b)/\
 ((ev .eql 3 e (V.I 1)=some f)/\
 ((eQ d h=some e)/\
 ((fI 0 (ρ 16)=some d)/\
 oP (fD true c) λT=>
 oP (gC T (some (jw,[x,y]))) λU=>qo C U h λz A=>
 (h.next<=A.next/\
 oP (js c z (V.bool false)) λp=>
 oP (some p) λa=>
 oP (fD true a) λJ=>
 oP (gV J (some (ρ 13))) λq=>
 oP (fD true a) λK=>
 oP (gV K (iF q)) λr=>
 oP (fD true a) λL=>
 oP (gV L (fI 1 r)) λs=>
 oP (fD true a) λM=>
 oP (gV M (eQ s A)) λB=>
 oP (fD true a) λN=>
 oP (gV N (some (ρ 14))) λt=>
 oP (fD true a) λO=>
 oP (gV O (iF t)) λu=>
 oP (fD true a) λP=>
 oP (gV P (fI 1 u)) λv=>
 oP (fD true a) λR=>
 oP (gV R (eQ v A)) λD=>
 ((gT R (eQ v A=some D))/\
 ((gT P (fI 1 u=some v))/\
 ((gT O (iF t=some u))/\
 ((gT N (some (ρ 14)=some t))/\
 ((gT M (eQ s A=some B))/\
 ((gT L (fI 1 r=some s))/\
 ((gT K (iF q=some r))/\
 ((gT J (some (ρ 13)=some q))/\
 ((some p=some a)/\
 ((js c z (V.bool false)=some p)/\
 oP (fD true a) λW=>
 oP (gC W (some (jQ,[B,D]))) λX=>qo C X A λE h2=>
 (A.next<=h2.next/\
 oP (js a E (V.bool false)) λw=>
 oP (some w) λS=>
 ((some w=some S)/\
 ((js a E (V.bool false)=some w)/\
 Wp C 64 zao Q (fu (fu (fu (fu (fu (fu (fu (fu (fu (fu (fu (fu (fu (fu (fu (fu (fu (fu (fu (fu (fu (fu (fu (fu (fu (fu (fu (fu (fu ρ 36 d) 37 e) 38 f) 39 b) 40 g) 41 i) 42 j) 43 k) 44 l) 45 m) 46 c) 47 n) 48 x) 49 o) 50 y) 51 z) 52 p) 53 a) 54 q) 55 r) 56 s) 57 B) 58 t) 59 u) 60 v) 61 D) 62 E) 63 w) 12 S) h2)))))))))))))))))))))))))))))):=by kernel_rfl
theorem zcR:jU C 64 zao Q ρ h=(Q .ret ρ h):=by kernel_rfl
theorem zdl:jU C 64 zaI Q ρ h=(Q .ret ρ h):=by kernel_rfl
theorem g10{C:ft}(hs:C.start=fO)(a0 a1 a2 a3 a4 a:V){h:Hp}{Q:fy}(b:C.K km [a0,a1,a2,a3,a4,a] h=none)(H:jU C 64 Nb (Hc [.tmp 12] Q) (Kv [a0,a1,a2,a3,a4,a]) h):cP C km [a0,a1,a2,a3,a4,a] h Q:=
 cP.Wf hs (show P0.funcs[10]? =some Tryz.f10 by unfold P0;exact Tryz.func10) (by kernel_rfl) (by kernel_rfl) (by kernel_rfl) b (JE rfl) (Wp.code _ H)
def qM(C:ft)(Q:fy)(a0 a1 a2 a3 a4 a5:V)(h:Hp):Prop:=hX (lX 30 a0) h λv6 h1=>hX (lX 30 a1) h1 λv7 h2=>cP C iI [a2] h2 λi h3=>cP C iI [a2] h3 λj h4=>oP (fY 5 v6 h4) λm=>cP C jF [m,i,a3,a4,a5] h4 λn h5=>hX (zC 83 [nZ,nZ,nZ,nS,nZ]) h5 λf h6=>fk (gM 5 f n h6) λvu l=>oP (fI 0 f) λo=>oP (eQ o l) λp=>oP (ev .neq 3 p nO) λq=>bP q (Q bT l) (oP (fY 5 v7 l) λr=>cP C jF [r,j,a3,a4,a5] l λs h8=>hX (zC 83 [nZ,nZ,nZ,nS,nZ]) h8 λg h9=>fk (gM 5 g s h9) λaj b=>oP (fI 0 g) λt=>oP (eQ t b) λu=>oP (ev .eql 3 u nO) λd=>oP (fD true d) λb4=>oP (gV b4 (fI 4 g)) λv=>oP (fD true d) λb5=>oP (gV b5 (eQ v b)) λw=>oP (fD true d) λb6=>oP (gV b6 (fI 4 f)) λx=>oP (fD true d) λb7=>oP (gV b7 (eQ x b)) λy=>oP (kv d (ev .leq 3 w y)) λc=>oP (fD true c) λz=>oP (gV z (fI 3 f)) λA=>oP (fD true c) λB=>oP (gV B (eQ A b)) λD=>oP (fD true c) λE=>oP (gV E (fI 3 g)) λF=>oP (fD true c) λG=>oP (gV G (eQ F b)) λH=>oP (fD true c) λI=>oP (gC I (some (jw,[D,H]))) λJ=>qo C J b λK e=>(b.next<=e.next/\oP (js c K bF) λa=>oP (fD true a) λL=>oP (gV L (some i)) λM=>oP (fD true a) λN=>oP (gV N (iF M)) λO=>oP (fD true a) λP=>oP (gV P (fI 1 O)) λR=>oP (fD true a) λS=>oP (gV S (eQ R e)) λT=>oP (fD true a) λU=>oP (gV U (some j)) λW=>oP (fD true a) λX=>oP (gV X (iF W)) λY=>oP (fD true a) λZ=>oP (gV Z (fI 1 Y)) λaa=>oP (fD true a) λab=>oP (gV ab (eQ aa e)) λac=>oP (fD true a) λae=>oP (gC ae (some (jQ,[T,ac]))) λag=>qo C ag e λah k=>(e.next<=k.next/\oP (js a ah bF) λai=>Q ai k)))
theorem Fs{C:ft}(hs:C.start=fO){a0 a1 a2 a3 a4 y:V}{h:Hp}{Q:fy}(B:C.K km [a0,a1,a2,a3,a4,y] h=none)(H:qM C Q a0 a1 a2 a3 a4 y h):cP C km [a0,a1,a2,a3,a4,y] h Q:=by
 unfold qM at H;exact g10 hs _ _ _ _ _ _ B ((K6 _ _ _ _).mpr (alM H λv6 h1 H=>alM H λv7 h2 H=>u0 (Wp.of (zdC _ _ _ _) (u0 (dcM H λD h3 H=>u0 (Wp.of (zcG _ _ _ _) (u0 (dcM H λE h4 H=>u0 (Wp.of (zcE _ _ _ _) (oM H λF _ H=>u0 (u0 (u0 (u0 (dcM H λG h5 H=>alM H λI h6 H=>zba H λvu h7 H=>Wp.of (zdB _ _ _ _) (oM H λJ _ H=>oM H λL _ H=>oM H λM _ H=>Wp.of (zcd _ _ _ _) (u0 (bM H (λH=>u0 (Wp.of (zdl _ _ _ _) (H))) (λH=>Wp.of (zc5 _ _ _ _) (oM H λN _ H=>u0 (u0 (u0 (u0 (dcM H λO h8 H=>alM H λP h9 H=>zba H λz R H=>Wp.of (zc2 _ _ _ _) (oM H λS a H=>oM H λT b H=>oM H λU c H=>u0 (oM H λb4 _ H=>oM H λW d H=>oM H λb5 _ H=>oM H λX e H=>oM H λb6 _ H=>oM H λY f H=>oM H λb7 _ H=>oM H λZ g H=>thn (Me H) λH=>oM H λb8 A H=>oM H λaa i H=>oM H λab j H=>u0 (oM H λac _ H=>oM H λae k H=>oM H λag _ H=>oM H λah l H=>oM H λai _ H=>oM H λaj m H=>oM H λak _ H=>oM H λal n H=>⟨(ik n),⟨(ik m),⟨(ik l),⟨(ik k),⟨rfl,⟨j,⟨(ik i),⟨(ik g),⟨(ik f),⟨(ik e),⟨(ik d),⟨rfl,⟨c,⟨b,⟨a,oM H λam _ H=>oM H λan _ H=>ZM H λao ap H=>Zs H λH=>oM H λaq o H=>u0 (oM H λar _ H=>oM H λau p H=>oM H λaw _ H=>oM H λax q H=>oM H λay _ H=>oM H λaA r H=>oM H λaB _ H=>oM H λaC s H=>oM H λaD _ H=>oM H λaE t H=>oM H λaF _ H=>oM H λaG u H=>oM H λaH _ H=>oM H λaI v H=>oM H λaJ _ H=>oM H λaK w H=>⟨(ik w),⟨(ik v),⟨(ik u),⟨(ik t),⟨(ik s),⟨(ik r),⟨(ik q),⟨(ik p),⟨rfl,⟨o,oM H λaL _ H=>oM H λaM _ H=>ZM H λaN aO H=>Zs H λH=>oM H λaP x H=>u0 (⟨rfl,⟨x,Wp.of (zcR _ _ _ _) (H)⟩⟩)⟩⟩⟩⟩⟩⟩⟩⟩⟩⟩)⟩⟩⟩⟩⟩⟩⟩⟩⟩⟩⟩⟩⟩⟩⟩))))))))))))))))))))))))))
end
def t11:List (Nat×List Nat):=[(87,[0,3,4]),(23703,[0,3,4,5,6,7,8])]
def qP(C:ft)(Q:fy):LP:=JV C Tryz.f11 t11 43 [0,3,4] [] Q
def qQ(C:ft)(Q:fy)(fT:LP):LP:=JV C Tryz.f11 t11 11851 [0,3,4,5,6,7,8] [kf [0,3,4] fT] Q
def qR(C:ft)(Q:fy)(fT:LP)(d e a:V)(h:Hp):Prop:=oP (fH d) λf=>oP (ev .lss 3 a f) λg=>oP (kv g (oB (some a) λi=>ev .lss 3 i (V.I 8))) λj=>bP j (oP (gJ 1 d a) λk=>oP (eQ k h) λl=>oP (ev .rem 90 l (V.int .u64 5)) λm=>oP (tK .i64 m) λb=>oP (gJ 1 d a) λn=>oP (eQ n h) λo=>oP (ev .rem 90 o (V.int .u64 3)) λp=>oP (tK .i64 p) λq=>oP (ev .add 3 (V.I 5) q) λr=>cP C kL [e,r,b] h λc u=>oP (HO 0 c) λs=>oP (HO 1 c) λt=>qQ C Q fT [d,e,a,b,s,t,nZ] u) (Q e h)
theorem Af{C Q}(I)(s:S3 I (qR C Q)){k l h}(i:I k l h)(e:l.length=3:=by rfl):qP C Q l h:=JV.l3 I _ s i e
def qx(C:ft)(Q:fy)(fT:LP)(b:LP)(c d e q r s a:V)(h:Hp):Prop:=oP (kv s (oB (some a) λf=>oB (some q) λg=>ev .lss 3 f g)) λi=>bP i (oP (gJ 1 c e) λj=>oP (eQ j h) λk=>oP (ev .mul 3 a (V.I 9)) λl=>oP (tK .u64 l) λm=>oP (ev .shr 90 k m) λn=>cP C lL [d,r,a,n] h λt u=>oP (ev .add 3 a nO) λo=>b [c,d,e,q,r,s,o] u) (oP (ev .add 3 e nO) λp=>fT [c,d,p] h)
theorem Av{C Q fT}(I)(s:S7 I (qx C Q fT)){k l h}(i:I k l h)(e:l.length=7:=by rfl):qQ C Q fT l h:=JV.l7 I _ s i e
def uT(C:ft)(Q:fy)(a0:V)(h:Hp):Prop:=cP C mn [(V.I 100)] h λa b=>qP C Q [a0,a,nZ] b
theorem CW{C}(s:C.start=fO){a0 h Q}(k:C.K mq [a0] h=none)(H:uT C Q a0 h):cP C mq [a0] h Q:=cP.vd t11 s (by unfold P0;exact Tryz.func11) k H
def t12:List (Nat×List Nat):=[(87,[0,3,4])]
def rU(C:ft)(Q:fy):LP:=JV C Tryz.f12 t12 43 [0,3,4] [] Q
def sk(C:ft)(Q:fy)(fT:LP)(b k a:V)(h:Hp):Prop:=oP (fH b) λl=>oP (ev .lss 3 a l) λm=>oP (kv m (oB (some a) λc=>ev .lss 3 c (V.I 6))) λd=>bP d (oP (gJ 1 b a) λe=>oP (eQ e h) λf=>hX (jG 90 1 1 (V.int .u64 0) [(0,f)]) h λg n=>fk (fg 90 1 8 k g n) λi o=>oP (ev .add 3 a nO) λj=>fT [b,i,j] o) (Q k h)
theorem A0{C Q}(I)(s:S3 I (sk C Q)){k l h}(i:I k l h)(e:l.length=3:=by rfl):rU C Q l h:=JV.l3 I _ s i e
def wI(C:ft)(Q:fy)(a0:V)(h:Hp):Prop:=rU C Q [a0,nS,nZ] h
theorem DV{C}(s:C.start=fO){a0 h Q}(k:C.K mL [a0] h=none)(H:wI C Q a0 h):cP C mL [a0] h Q:=cP.vd t12 s (by unfold P0;exact Tryz.func12) k H
def t42:List (Nat×List Nat):=[(87,[0,1,5])]
def pR(C:ft)(Q:fy):LP:=JV C Tryz.f42 t42 43 [0,1,5] [] Q
def pM(C:ft)(Q:fy)(fT:LP)(b l a:V)(h:Hp):Prop:=oP (fH b) λc=>oP (ev .lss 3 a c) λd=>bP d (oP (gJ 1 b a) λe=>oP (eQ e h) λf=>oP (gJ 1 l a) λg=>oP (eQ g h) λi=>oP (ev .neq 90 f i) λj=>bP j (Q bF h) (oP (ev .add 3 a nO) λk=>fT [b,l,k] h)) (Q bT h)
theorem yW{C Q}(I)(s:S3 I (pM C Q)){k l h}(i:I k l h)(e:l.length=3:=by rfl):pR C Q l h:=JV.l3 I _ s i e
def td(C:ft)(Q:fy)(a0 a1:V)(h:Hp):Prop:=oP (fH a0) λb=>oP (fH a1) λc=>oP (ev .neq 3 b c) λa=>bP a (Q bF h) (pR C Q [a0,a1,nZ] h)
theorem AT{C}(s:C.start=fO){a0 a1 h Q}(k:C.K jQ [a0,a1] h=none)(H:td C Q a0 a1 h):cP C jQ [a0,a1] h Q:=cP.vd t42 s (by unfold P0;exact Tryz.func42) k H
def t39:List (Nat×List Nat):=[]
def sS(C:ft)(Q:fy)(a0:V)(h:Hp):Prop:=oP (iF a0) λm=>oP (fI 0 m) λc=>oP (eQ c h) λd=>xE (jG 90 1 0 (V.int .u64 0) []) h λe n b=>dN 1 a0 b λf=>((b.get (h.next)=some e/\O.beq e e=true)/\((eQ c b=some d)/\fk (fg 90 1 8 n f b) λg i=>(b.next<=i.next/\oP (fV [nZ,nS] [(0,1),(1,1)] [(0,d),(1,g)]) λj=>xE (lX 88 j) i λa k l=>((l.get (i.next)=some a/\O.beq a a=true)/\((eQ c l=some d)/\Q k l)))))
theorem AZ{C}(s:C.start=fO){a0 h Q}(k:C.K iI [a0] h=none)(H:sS C Q a0 h):cP C iI [a0] h Q:=cP.vd t39 s (by unfold P0;exact Tryz.func39) k H
def t43:List (Nat×List Nat):=[]
def uZ(C:ft)(Q:fy)(a0:V)(h:Hp):Prop:=hX (jG 90 1 1 (V.int .u64 0) [(0,(V.int .u64 0))]) h λa b=>oP (fV [nZ,nS] [(0,1),(1,1)] [(0,a0),(1,a)]) λc=>hX (lX 88 c) b λd e=>Q d e
theorem CI{C}(s:C.start=fO){a0 h Q}(k:C.K mn [a0] h=none)(H:uZ C Q a0 h):cP C mn [a0] h Q:=cP.vd t43 s (by unfold P0;exact Tryz.func43) k H
def t44:List (Nat×List Nat):=[(351,[0,2,8,9])]
def pj(C:ft)(Q:fy):LP:=JV C Tryz.f44 t44 175 [0,2,8,9] [] Q
def pw(C:ft)(Q:fy)(fT:LP)(a i j k:V)(h:Hp):Prop:=bO .lss 3 k i (dN 1 a h λb=>hX (jG 90 1 1 (V.int .u64 0) [(0,(V.int .u64 0))]) h λc l=>fk (fg 90 1 8 b c l) λd m=>oP (iF a) λe=>oP (fI 1 e) λf=>fk (gM 1 f d m) λo n=>oP (ev .add 3 k nO) λg=>fT [a,i,j,g] n) (Q (V.tuple [j,bT]) h)
theorem yw{C Q}(I)(s:S4 I (pw C Q)){k l h}(i:I k l h)(e:l.length=4:=by rfl):pj C Q l h:=JV.l4 I _ s i e
def qw(C:ft)(Q:fy)(a0 a1 a2:V)(h:Hp):Prop:=oP (ev .lss 3 a1 nZ) λa=>oP (nt a (oB (some a1) λb=>ev .gtr 3 b (V.I 1048576))) λc=>oP (nt c (oB (some a2) λd=>ev .lss 3 d nZ)) λe=>oP (nt e (oB (some a2) λf=>ev .gtr 3 f (V.I 1048576))) λg=>oP (nt g (oB (some a2) λi=>oB (ev .add 3 i nO) λj=>oB (some a0) λk=>oB (iF k) λl=>oB (fI 0 l) λm=>oB (eQ m h) λn=>oB (some a0) λo=>oB (iF o) λp=>oB (fI 1 p) λq=>oB (eQ q h) λr=>oB (fH r) λs=>oB (ev .sub 3 n s) λt=>ev .gtr 3 j t)) λu=>bP u (Q (V.tuple [(V.int .u64 0),bF]) h) (oP (iF a0) λv=>dG 1 v h λw=>oP (tK .u64 w) λx=>dN 1 a0 h λy=>oP (tK .u64 a1) λz=>oP (ev .shl 90 z (V.int .u64 32)) λA=>oP (tK .u64 a2) λB=>oP (ev .add 90 A B) λD=>hX (jG 90 1 1 (V.int .u64 0) [(0,D)]) h λE I=>fk (fg 90 1 8 y E I) λF J=>oP (iF a0) λG=>oP (fI 1 G) λH=>fk (gM 1 H F J) λL K=>pj C Q [a0,a2,x,nZ] K)
theorem z6{C}(s:C.start=fO){a0 a1 a2 h Q}(k:C.K kL [a0,a1,a2] h=none)(H:qw C Q a0 a1 a2 h):cP C kL [a0,a1,a2] h Q:=cP.vd t44 s (by unfold P0;exact Tryz.func44) k H
def t45:List (Nat×List Nat):=[]
def tO(C:ft)(Q:fy)(a0 a1 a2 a3:V)(h:Hp):Prop:=oP (ev .eql 90 a1 (V.int .u64 0)) λb=>oP (nt b (oB (some a2) λc=>ev .lss 3 c nZ)) λa=>oP (fD false a) λq=>oP (gV q (some a2)) λd=>oP (fD false a) λr=>oP (gV r (some a0)) λe=>oP (fD false a) λs=>oP (gV s (some a1)) λf=>oP (fD false a) λg=>oP (gC g (some (jZ,[e,f]))) λi=>qo C i h λj p=>oP (nt a (ev .geq 3 d j)) λk=>bP k (Q bF p) (oP (ev .add 90 a1 (V.int .u64 1)) λl=>oP (tK .u64 a2) λm=>oP (ev .add 90 l m) λn=>cP C jl [a0,n,a3] p λo t=>Q o t)
theorem BL{C}(s:C.start=fO){a0 a1 a2 a3 h Q}(k:C.K lL [a0,a1,a2,a3] h=none)(H:tO C Q a0 a1 a2 a3 h):cP C lL [a0,a1,a2,a3] h Q:=cP.vd t45 s (by unfold P0;exact Tryz.func45) k H
def t66:List (Nat×List Nat):=[]
def rT(C:ft)(Q:fy)(a0 a1:V)(h:Hp):Prop:=cP C iH [a0,a1] h λa b=>oP (ev .shr 90 a (V.int .u64 32)) λc=>oP (tK .i64 c) λd=>Q d b
theorem AN{C}(s:C.start=fO){a0 a1 h Q}(k:C.K lg [a0,a1] h=none)(H:rT C Q a0 a1 h):cP C lg [a0,a1] h Q:=cP.vd t66 s (by unfold P0;exact Tryz.func66) k H
def t67:List (Nat×List Nat):=[]
def tN(C:ft)(Q:fy)(a0 a1:V)(h:Hp):Prop:=cP C iH [a0,a1] h λa b=>oP (ev .rem 90 a (V.int .u64 4294967296)) λc=>oP (tK .i64 c) λd=>Q d b
theorem B3{C}(s:C.start=fO){a0 a1 h Q}(k:C.K jZ [a0,a1] h=none)(H:tN C Q a0 a1 h):cP C jZ [a0,a1] h Q:=cP.vd t67 s (by unfold P0;exact Tryz.func67) k H
def t68:List (Nat×List Nat):=[]
def rR(C:ft)(Q:fy)(a0 a1:V)(h:Hp):Prop:=oP (iF a0) λe=>dG 1 e h λa=>oP (tK .u64 a) λb=>bO .geq 90 a1 b (Q (V.int .u64 0) h) (dN 1 a0 h λc=>dX 1 c a1 h λd=>Q d h)
theorem Ba{C}(s:C.start=fO){a0 a1 h Q}(k:C.K iH [a0,a1] h=none)(H:rR C Q a0 a1 h):cP C iH [a0,a1] h Q:=cP.vd t68 s (by unfold P0;exact Tryz.func68) k H
def t69:List (Nat×List Nat):=[]
def tW(C:ft)(Q:fy)(a0 a1 a2:V)(h:Hp):Prop:=oP (ev .eql 90 a1 (V.int .u64 0)) λl=>oP (nt l (oB (some a1) λa=>oB (some a0) λb=>oB (iF b) λc=>oB (fI 1 c) λd=>oB (eQ d h) λe=>oB (fH e) λf=>oB (tK .u64 f) λg=>ev .geq 90 a g)) λi=>bP i (Q bF h) (dN 1 a0 h λj=>oP (gJ 1 j a1) λk=>fk (gM 1 k a2 h) λn m=>Q bT m)
theorem BR{C}(s:C.start=fO){a0 a1 a2 h Q}(k:C.K jl [a0,a1,a2] h=none)(H:tW C Q a0 a1 a2 h):cP C jl [a0,a1,a2] h Q:=cP.vd t69 s (by unfold P0;exact Tryz.func69) k H
section
variable (C:ft)(Q:X->gK->Hp->Prop)(ρ:gK)(h:Hp)
def Td:=JL Tryz.f41
def zaj:=Td.r
def zaB:=Td.r.l.r
def zaM:=Td.r.r
def zcn:=andThen (Wp C 69 zaM Q) Q
def zaP:=Td.r.l.r.l.r
def zaU:=Td.r.r.l.r
def za1:=Td.r.r.r
def zaY:=andThen (Wp C 69 za1 Q) Q
def Ya:=Td.r.r.l.r.l.l
def zda(C:ft)(Q:XQ):XQ:=wH 0 Q
def zap:=Td.r.r.r.r
def za2:=Td.r.r.l.r.l.l.l.r
def zaG:=Td.r.r.l.r.l.l.r
def zdq:=andThen (Wp C 69 zaG Q) Q
def zaW:=Td.r.r.l.r.l.l.r.l.l.r
def Xa:=Td.r.r.l.r.l.l.r.r
def zcB:=andThen (Wp C 69 Xa Q) Q
def zdN:=wH 1 (zcB C Q)
def Xp:=Td.r.r.l.r.l.l.r.l.l.r.l.r
def zdz:=wH 0 (zaY C Q)
theorem e41:jU C 69 Td Q ρ h=(oP (some (V.bool false)) λa=>
 Wp C 69 zaj Q (fu ρ 4 a) h):=by kernel_rfl
theorem zcs:jU C 69 zaj Q ρ h=(oP (some (ρ 0)) λb=>
 oP (fH b) λc=>
 oP (some (ρ 1)) λd=>
 oP (fH d) λe=>
 oP (ev .neq 3 c e) λa=>
 Wp C 69 zaB (zcn C Q) (fu (fu (fu (fu (fu ρ 6 b) 7 c) 8 d) 9 e) 10 a) h):=by kernel_rfl
theorem zdr:jU C 69 zaM Q ρ h=(oP (some (V.I 0)) λa=>
 Wp C 69 zaU (zaY C Q) (fu ρ 5 a) h):=by kernel_rfl
theorem zde:jU C 69 zaB Q ρ h=(oP (some (ρ 10)) λc=>
 bP c (
 oP (some (V.bool false)) λa=>
 Wp C 69 zaP Q (fu ρ 4 a) h) (
 Q .normal ρ h)):=by kernel_rfl
theorem zdo:jU C 69 za1 Q ρ h=(oP (some (V.bool true)) λa=>
 Wp C 69 zap Q (fu ρ 4 a) h):=by kernel_rfl
theorem zdH:jU C 69 zaU Q ρ h=(Wp C 69 (.loop Ya) (zda C Q) ρ h):=by kernel_rfl
theorem zds:jU C 69 zap Q ρ h=(Q .ret ρ h):=by kernel_rfl
theorem zcF:jU C 69 zaP Q ρ h=(Q .ret ρ h):=by kernel_rfl
theorem zcl:jU C 69 Ya Q ρ h=(oP (some (ρ 5)) λa=>
 oP (some (ρ 0)) λb=>
 oP (fH b) λc=>
 oP (ev .lss 3 a c) λd=>
 Wp C 69 za2 (zdq C Q) (fu (fu (fu (fu ρ 11 a) 12 b) 13 c) 14 d) h):=by kernel_rfl
theorem zcN:jU C 69 zaG Q ρ h=(oP (some (ρ 0)) λd=>
 oP (some (ρ 5)) λe=>
 oP (gJ 4 d e) λf=>
 oP (fI 0 f) λg=>
 oP (eQ g h) λi=>
 oP (some (ρ 1)) λj=>
 oP (some (ρ 5)) λk=>
 oP (gJ 4 j k) λl=>
 oP (fI 0 l) λm=>
 oP (eQ m h) λn=>
 oP (ev .neq 3 i n) λo=>
 oP (some o) λc=>
 oP (fD false c) λae=>
 oP (gV ae (some (ρ 0))) λp=>
 oP (fD false c) λag=>
 oP (gV ag (some (ρ 5))) λq=>
 oP (fD false c) λah=>
 oP (gV ah (gJ 4 p q)) λr=>
 oP (fD false c) λai=>
 oP (gV ai (fI 1 r)) λs=>
 oP (fD false c) λaj=>
 oP (gV aj (eQ s h)) λt=>
 oP (fD false c) λak=>
 oP (gV ak (some (ρ 1))) λu=>
 oP (fD false c) λal=>
 oP (gV al (some (ρ 5))) λv=>
 oP (fD false c) λam=>
 oP (gV am (gJ 4 u v)) λw=>
 oP (fD false c) λan=>
 oP (gV an (fI 1 w)) λx=>
 oP (fD false c) λao=>
 oP (gV ao (eQ x h)) λy=>
 oP (fD false c) λap=>
 oP (gV ap (ev .neq 3 t y)) λz=>
 oP (js c (V.bool true) z) λA=>
 oP (some A) λa=>
 oP (fD false a) λaq=>
 oP (gV aq (some (ρ 0))) λB=>
 oP (fD false a) λar=>
 oP (gV ar (some (ρ 5))) λD=>
 oP (fD false a) λau=>
 oP (gV au (gJ 4 B D)) λE=>
 oP (fD false a) λaw=>
 oP (gV aw (fI 2 E)) λF=>
 oP (fD false a) λax=>
 oP (gV ax (eQ F h)) λX=>
 oP (fD false a) λay=>
 oP (gV ay (some (ρ 1))) λG=>
 oP (fD false a) λaA=>
 oP (gV aA (some (ρ 5))) λH=>
 oP (fD false a) λaB=>
 oP (gV aB (gJ 4 G H)) λI=>
 oP (fD false a) λaC=>
 oP (gV aC (fI 2 I)) λJ=>
 oP (fD false a) λaD=>
 oP (gV aD (eQ J h)) λY=>
 ((gT aD (eQ J h=some Y))/\
 ((gT aC (fI 2 I=some J))/\
 ((gT aB (gJ 4 G H=some I))/\
 ((gT aA (some (ρ 5)=some H))/\
 ((gT ay (some (ρ 1)=some G))/\
 ((gT ax (eQ F h=some X))/\
 ((gT aw (fI 2 E=some F))/\
 ((gT au (gJ 4 B D=some E))/\
 ((gT ar (some (ρ 5)=some D))/\
 ((gT aq (some (ρ 0)=some B))/\
 ((some A=some a)/\
 ((js c (V.bool true) z=some A)/\
 ((gT ap (ev .neq 3 t y=some z))/\
 ((gT ao (eQ x h=some y))/\
 ((gT an (fI 1 w=some x))/\
 ((gT am (gJ 4 u v=some w))/\
 ((gT al (some (ρ 5)=some v))/\
 ((gT ak (some (ρ 1)=some u))/\
 ((gT aj (eQ s h=some t))/\
 ((gT ai (fI 1 r=some s))/\
 ((gT ah (gJ 4 p q=some r))/\
 ((gT ag (some (ρ 5)=some q))/\
 ((gT ae (some (ρ 0)=some p))/\
 ((some o=some c)/\
 ((ev .neq 3 i n=some o)/\
 ((eQ m h=some n)/\
 ((fI 0 l=some m)/\
 ((gJ 4 j k=some l)/\
 ((some (ρ 5)=some k)/\
 ((some (ρ 1)=some j)/\
 ((eQ g h=some i)/\
 ((fI 0 f=some g)/\
 ((gJ 4 d e=some f)/\
 ((some (ρ 5)=some e)/\
 ((some (ρ 0)=some d)/\
 oP (fD false a) λaR=>
 oP (gC aR (some (jf,[X,Y]))) λaS=>qo C aS h λZ h1=>
 (h.next<=h1.next/\
 oP (fD false a) λaE=>
 oP (gV aE (pI .not Z)) λK=>
 oP (js a (V.bool true) K) λL=>
 oP (some L) λb=>
 oP (fD false b) λaF=>
 oP (gV aF (some (ρ 0))) λM=>
 oP (fD false b) λaG=>
 oP (gV aG (some (ρ 5))) λN=>
 oP (fD false b) λaH=>
 oP (gV aH (gJ 4 M N)) λO=>
 oP (fD false b) λaI=>
 oP (gV aI (fI 3 O)) λP=>
 oP (fD false b) λaJ=>
 oP (gV aJ (eQ P h1)) λaa=>
 oP (fD false b) λaK=>
 oP (gV aK (some (ρ 1))) λR=>
 oP (fD false b) λaL=>
 oP (gV aL (some (ρ 5))) λS=>
 oP (fD false b) λaM=>
 oP (gV aM (gJ 4 R S)) λT=>
 oP (fD false b) λaN=>
 oP (gV aN (fI 3 T)) λU=>
 oP (fD false b) λaO=>
 oP (gV aO (eQ U h1)) λab=>
 ((gT aO (eQ U h1=some ab))/\
 ((gT aN (fI 3 T=some U))/\
 ((gT aM (gJ 4 R S=some T))/\
 ((gT aL (some (ρ 5)=some S))/\
 ((gT aK (some (ρ 1)=some R))/\
 ((gT aJ (eQ P h1=some aa))/\
 ((gT aI (fI 3 O=some P))/\
 ((gT aH (gJ 4 M N=some O))/\
 ((gT aG (some (ρ 5)=some N))/\
 ((gT aF (some (ρ 0)=some M))/\
 ((some L=some b)/\
 ((js a (V.bool true) K=some L)/\
 ((gT aE (pI .not Z=some K))/\
 oP (fD false b) λaT=>
 oP (gC aT (some (jf,[aa,ab]))) λaU=>qo C aU h1 λac h2=>
 (h1.next<=h2.next/\
 oP (fD false b) λaP=>
 oP (gV aP (pI .not ac)) λW=>
 oP (js b (V.bool true) W) λaQ=>
 ((js b (V.bool true) W=some aQ)/\
 ((gT aP (pI .not ac=some W))/\
 Wp C 69 zaW (zdN C Q) (fu (fu (fu (fu (fu (fu (fu (fu (fu (fu (fu (fu (fu (fu (fu (fu (fu (fu (fu (fu (fu (fu (fu (fu (fu (fu (fu (fu (fu (fu (fu (fu (fu (fu (fu (fu (fu (fu (fu (fu (fu (fu (fu (fu (fu (fu (fu (fu (fu (fu (fu (fu ρ 17 d) 18 e) 19 f) 20 g) 21 i) 22 j) 23 k) 24 l) 25 m) 26 n) 27 o) 28 c) 29 p) 30 q) 31 r) 32 s) 33 t) 34 u) 35 v) 36 w) 37 x) 38 y) 39 z) 40 A) 41 a) 42 B) 43 D) 44 E) 45 F) 46 X) 47 G) 48 H) 49 I) 50 J) 51 Y) 52 Z) 53 K) 54 L) 55 b) 56 M) 57 N) 58 O) 59 P) 60 aa) 61 R) 62 S) 63 T) 64 U) 65 ab) 66 ac) 67 W) 68 aQ) h2))))))))))))))))))))))))))))))))))))))))))))))))))))):=by kernel_rfl
theorem zck:jU C 69 za2 Q ρ h=(oP (some (ρ 14)) λc=>
 bP c (
 Q .normal ρ h) (
 Q (.exit 0) ρ h)):=by kernel_rfl
theorem zbG:jU C 69 Xa Q ρ h=(oP (some (ρ 5)) λa=>
 oP (ev .add 3 a (V.I 1)) λb=>
 oP (some b) λc=>
 Q .normal (fu (fu (fu ρ 15 a) 16 b) 5 c) h):=by kernel_rfl
theorem zcQ:jU C 69 zaW Q ρ h=(oP (some (ρ 68)) λc=>
 bP c (
 oP (some (V.bool false)) λa=>
 Wp C 69 Xp Q (fu ρ 4 a) h) (
 Q .normal ρ h)):=by kernel_rfl
theorem zbz:jU C 69 Xp Q ρ h=(Q .ret ρ h):=by kernel_rfl
theorem g41{C:ft}(hs:C.start=fO)(a0 a1:V){h:Hp}{Q:fy}(a:C.K jw [a0,a1] h=none)(H:jU C 69 Td (Hc [.tmp 4] Q) (Kv [a0,a1]) h):cP C jw [a0,a1] h Q:=
 cP.Wf hs (show P0.funcs[41]? =some Tryz.f41 by unfold P0;exact Tryz.func41) (by kernel_rfl) (by kernel_rfl) (by kernel_rfl) a (JE rfl) (Wp.code _ H)
def tV(C:ft)(Q:fy)(a b c:V)(h:Hp):Prop:=∀ρ:gK,ρ 0=a->ρ 1=b->ρ 5=c->Wp C 69 (.loop Ya) (zdz C (Hc [.tmp 4] Q)) ρ h
def oE(C:ft)(Q:fy)(fT:RU)(e f d:V)(h:Hp):Prop:=oP (fH e) λi=>bO .lss 3 d i (dI 4 e d 0 h λj=>dI 4 f d 0 h λk=>oP (ev .neq 3 j k) λc=>oP (fD false c) λl=>oP (gV l (some e)) λm=>oP (fD false c) λn=>oP (gV n (some d)) λo=>oP (fD false c) λp=>oP (gV p (gJ 4 m o)) λq=>oP (fD false c) λr=>oP (gV r (fI 1 q)) λs=>oP (fD false c) λt=>oP (gV t (eQ s h)) λu=>oP (fD false c) λv=>oP (gV v (some f)) λw=>oP (fD false c) λx=>oP (gV x (some d)) λy=>oP (fD false c) λz=>oP (gV z (gJ 4 w y)) λA=>oP (fD false c) λB=>oP (gV B (fI 1 A)) λD=>oP (fD false c) λE=>oP (gV E (eQ D h)) λF=>oP (nt c (ev .neq 3 u F)) λa=>oP (fD false a) λG=>oP (gV G (some e)) λH=>oP (fD false a) λI=>oP (gV I (some d)) λJ=>oP (fD false a) λK=>oP (gV K (gJ 4 H J)) λL=>oP (fD false a) λM=>oP (gV M (fI 2 L)) λN=>oP (fD false a) λO=>oP (gV O (eQ N h)) λP=>oP (fD false a) λR=>oP (gV R (some f)) λS=>oP (fD false a) λT=>oP (gV T (some d)) λU=>oP (fD false a) λW=>oP (gV W (gJ 4 S U)) λX=>oP (fD false a) λY=>oP (gV Y (fI 2 X)) λZ=>oP (fD false a) λaa=>oP (gV aa (eQ Z h)) λab=>oP (fD false a) λac=>oP (gC ac (some (jf,[P,ab]))) λae=>qo C ae h λag g=>(h.next<=g.next/\oP (nt a (pI .not ag)) λb=>oP (fD false b) λah=>oP (gV ah (some e)) λai=>oP (fD false b) λaj=>oP (gV aj (some d)) λak=>oP (fD false b) λal=>oP (gV al (gJ 4 ai ak)) λam=>oP (fD false b) λan=>oP (gV an (fI 3 am)) λao=>oP (fD false b) λap=>oP (gV ap (eQ ao g)) λaq=>oP (fD false b) λar=>oP (gV ar (some f)) λau=>oP (fD false b) λaw=>oP (gV aw (some d)) λax=>oP (fD false b) λay=>oP (gV ay (gJ 4 au ax)) λaA=>oP (fD false b) λaB=>oP (gV aB (fI 3 aA)) λaC=>oP (fD false b) λaD=>oP (gV aD (eQ aC g)) λaE=>oP (fD false b) λaF=>oP (gC aF (some (jf,[aq,aE]))) λaG=>qo C aG g λaH h2=>(g.next<=h2.next/\oP (nt b (pI .not aH)) λaI=>bP aI (Q bF h2) (oP (ev .add 3 d nO) λaJ=>fT e f aJ h2)))) (Q bT h)
theorem BS{C:ft}{Q:fy}(I:Nat->RU)(step:∀(k:Nat)(a b c:V)(h:Hp),I k a b c h->oE C Q (λa b c h=>∃k',k' < k/\I k' a b c h) a b c h){k:Nat}{a b c:V}{h:Hp}(h0:I k a b c h):tV C Q a b c h:=by
 intro ρ e0 e1 e5;subst e0;subst e1;subst e5;refine Wp.zav (λk ρ h=>I k (ρ 0) (ρ 1) (ρ 5) h) (λk ρ h hi=>?_) h0;have H:=step k (ρ 0) (ρ 1) (ρ 5) h hi;unfold oE at H;exact Wp.of (zcl _ _ _ _) (u0 (u0 (oM H λag _ H=>oM H λah _ H=>Wp.of (zck _ _ _ _) (u0 (bM H (λH=>Wp.of (zcN _ _ _ _) (u0 (u0 (oM H λai d H=>oM H λaj e H=>oM H λak f H=>u0 (u0 (oM H λal g H=>oM H λam i H=>oM H λan j H=>oM H λao l H=>u0 (oM H λap _ H=>oM H λaq m H=>oM H λar _ H=>oM H λau n H=>oM H λaw _ H=>oM H λax o H=>oM H λay _ H=>oM H λaA p H=>oM H λaB _ H=>oM H λaC q H=>oM H λaD _ H=>oM H λaE r H=>oM H λaF _ H=>oM H λaG s H=>oM H λaH _ H=>oM H λaI t H=>oM H λaJ _ H=>oM H λaK u H=>oM H λaL _ H=>oM H λaM v H=>thn (Ji H) λH=>oM H λaN ab H=>oM H λaO w H=>oM H λaP x H=>u0 (oM H λaQ _ H=>oM H λaR y H=>oM H λaS _ H=>oM H λaT z H=>oM H λaU _ H=>oM H λaV A H=>oM H λaW _ H=>oM H λaX B H=>oM H λaY _ H=>oM H λaZ D H=>oM H λa5 _ H=>oM H λa6 E H=>oM H λa7 _ H=>oM H λa8 F H=>oM H λa9 _ H=>oM H λba G H=>oM H λbb _ H=>oM H λbc J H=>oM H λbd _ H=>oM H λbe K H=>⟨(ik K),⟨(ik J),⟨(ik G),⟨(ik F),⟨(ik E),⟨(ik D),⟨(ik B),⟨(ik A),⟨(ik z),⟨(ik y),⟨rfl,⟨x,⟨(ik w),⟨(ik v),⟨(ik u),⟨(ik t),⟨(ik s),⟨(ik r),⟨(ik q),⟨(ik p),⟨(ik o),⟨(ik n),⟨(ik m),⟨rfl,⟨l,⟨j,⟨i,⟨g,⟨rfl,⟨rfl,⟨f,⟨e,⟨d,⟨rfl,⟨rfl,oM H λbf _ H=>oM H λbg _ H=>ZM H λbh h1 H=>Zs H λH=>thn (Ji H) λH=>oM H λbi ac H=>oM H λbj L H=>oM H λbm M H=>u0 (oM H λbo _ H=>oM H λbr N H=>oM H λbt _ H=>oM H λbu O H=>oM H λbw _ H=>oM H λbx P H=>oM H λbz _ H=>oM H λbA R H=>oM H λbC _ H=>oM H λbD S H=>oM H λbE _ H=>oM H λbG T H=>oM H λbH _ H=>oM H λbI U H=>oM H λbJ _ H=>oM H λbK W H=>oM H λbL _ H=>oM H λbQ X H=>oM H λbR _ H=>oM H λbS Y H=>⟨(ik Y),⟨(ik X),⟨(ik W),⟨(ik U),⟨(ik T),⟨(ik S),⟨(ik R),⟨(ik P),⟨(ik O),⟨(ik N),⟨rfl,⟨M,⟨(ik L),oM H λbU _ H=>oM H λbV _ H=>ZM H λbW h2 H=>Zs H λH=>thn (Ji H) λH=>oM H λbX ae H=>oM H λbY Z H=>oM H λbZ aa H=>⟨aa,⟨(ik Z),Wp.of (zcQ _ _ _ _) (u0 (bM H (λH=>u0 (Wp.of (zbz _ _ _ _) (H))) (λH=>Wp.of (zbG _ _ _ _) (u0 (oM H λb4 _ H=>u0 (H))))))⟩⟩⟩⟩⟩⟩⟩⟩⟩⟩⟩⟩⟩⟩⟩)⟩⟩⟩⟩⟩⟩⟩⟩⟩⟩⟩⟩⟩⟩⟩⟩⟩⟩⟩⟩⟩⟩⟩⟩⟩⟩⟩⟩⟩⟩⟩⟩⟩⟩⟩)))))))) (λH=>Wp.of (zdo _ _ _ _) (u0 (Wp.of (zds _ _ _ _) (H)))))))))
def pZ(C:ft)(Q:fy)(a0 a1:V)(h:Hp):Prop:=oP (fH a0) λa=>oP (fH a1) λb=>bO .neq 3 a b (Q bF h) (tV C Q a0 a1 nZ h)
theorem EA{C:ft}(hs:C.start=fO){a0 a1:V}{h:Hp}{Q:fy}(a:C.K jw [a0,a1] h=none)(H:pZ C Q a0 a1 h):cP C jw [a0,a1] h Q:=by
 unfold pZ at H;exact g41 hs _ _ a ((e41 _ _ _ _).mpr (u0 (Wp.of (zcs _ _ _ _) (u0 (oM H λc _ H=>u0 (oM H λd _ H=>oM H λb _ H=>Wp.of (zde _ _ _ _) (u0 (bM H (λH=>u0 (Wp.of (zcF _ _ _ _) (H))) (λH=>Wp.of (zdr _ _ _ _) (u0 (Wp.of (zdH _ _ _ _) (H _ rfl rfl rfl))))))))))))
end
def t72:List (Nat×List Nat):=[(87,[0,1,5])]
def rP(C:ft)(Q:fy):LP:=JV C Tryz.f72 t72 43 [0,1,5] [] Q
def rZ(C:ft)(Q:fy)(fT:LP)(b g a:V)(h:Hp):Prop:=oP (fH b) λc=>bO .lss 3 a c (dX 1 b a h λd=>dX 1 g a h λe=>bO .neq 90 d e (Q bF h) (oP (ev .add 3 a nO) λf=>fT [b,g,f] h)) (Q bT h)
theorem Bc{C Q}(I)(s:S3 I (rZ C Q)){k l h}(i:I k l h)(e:l.length=3:=by rfl):rP C Q l h:=JV.l3 I _ s i e
def wz(C:ft)(Q:fy)(a0 a1:V)(h:Hp):Prop:=oP (fH a0) λa=>oP (fH a1) λb=>bO .neq 3 a b (Q bF h) (rP C Q [a0,a1,nZ] h)
theorem Dh{C}(s:C.start=fO){a0 a1 h Q}(k:C.K jf [a0,a1] h=none)(H:wz C Q a0 a1 h):cP C jf [a0,a1] h Q:=cP.vd t72 s (by unfold P0;exact Tryz.func72) k H
end
set_option maxRecDepth 100000
noncomputable section
def t8:List (Nat×List Nat):=[]
def LS(C:ft)(Q:fy)(a0 a1:V)(h:Hp):Prop:=hX (lX 30 a0) h λe Y=>hX (lX 30 a1) Y λf d=>dF 0 e d λZ=>dF 0 f d λv8=>oP (ev .eql 3 Z v8) λv9=>oP (kv v9 (oB (fI 1 e) λg=>oB (eQ g d) λi=>oB (fI 1 f) λj=>oB (eQ j d) λk=>ev .eql 3 i k)) λa=>oP (fD true a) λl=>oP (gV l (fI 2 e)) λm=>oP (fD true a) λn=>oP (gV n (eQ m d)) λo=>oP (fD true a) λp=>oP (gV p (fI 2 f)) λq=>oP (fD true a) λr=>oP (gV r (eQ q d)) λs=>oP (fD true a) λt=>oP (gC t (some (gR,[o,s,(V.func pU [] [])]))) λu=>qo C u d λv w=>oP (js a v bF) λb=>oP (fD true b) λx=>oP (gV x (fI 3 e)) λy=>oP (fD true b) λz=>oP (gV z (eQ y w)) λA=>oP (fD true b) λB=>oP (gV B (fI 3 f)) λD=>oP (fD true b) λE=>oP (gV E (eQ D w)) λF=>oP (fD true b) λG=>oP (gC G (some (gy,[A,F,(V.func nK [] [])]))) λH=>qo C H w λI J=>oP (js b I bF) λc=>oP (fD true c) λK=>oP (gV K (fI 4 e)) λL=>oP (fD true c) λM=>oP (gV M (eQ L J)) λN=>oP (fD true c) λO=>oP (gV O (fI 4 f)) λP=>oP (fD true c) λR=>oP (gV R (eQ P J)) λS=>oP (fD true c) λT=>oP (gC T (some (gw,[N,S,(V.func pG [] [])]))) λU=>qo C U J λW h5=>oP (js c W bF) λX=>Q X h5
theorem Sc{C}(s:C.start=fO){a0 a1 h Q}(k:C.K DN [a0,a1] h=none)(H:LS C Q a0 a1 h):cP C DN [a0,a1] h Q:=cP.vd t8 s (by unfold P0;exact Tryz.func8) k H
def t26:List (Nat×List Nat):=[]
def Hw(C:ft)(Q:fy)(a0 a1:V)(h:Hp):Prop:=hX (lX 45 a0) h λb E=>hX (lX 45 a1) E λd c=>dF 0 b c λF=>dF 0 d c λG=>oP (ev .neq 3 F G) λa=>oP (fD false a) λH=>oP (gV H (fY 6 b c)) λk=>oP (fD false a) λD=>oP (gV D (fY 6 d c)) λe=>oP (fD false a) λI=>oP (gC I (some (pA,[k]))) λJ=>qo C J c λl g=>(c.next<=g.next/\((gT D (fY 6 d g=some e))/\oP (fD false a) λK=>oP (gC K (some (pA,[e]))) λL=>qo C L g λm n=>(g.next<=n.next/\oP (fD false a) λo=>oP (gC o (some (g0,[l,m]))) λp=>qo C p n λq i=>(n.next<=i.next/\oP (nt a (pI .not q)) λr=>bP r (Q bF i) (dF 0 b i λs=>cP C wT [s] i λt f=>bP t (dF 3 b f λu=>dF 3 d f λv=>oP (ev .eql 2 u v) λw=>Q w f) (dF 0 b f λx=>cP C nT [x] f λy j=>bP y (dF 5 b j λz=>dF 5 d j λA=>oP (ev .eql 3 z A) λB=>Q B j) (Q bT j)))))))
theorem Np{C}(s:C.start=fO){a0 a1 h Q}(k:C.K pU [a0,a1] h=none)(H:Hw C Q a0 a1 h):cP C pU [a0,a1] h Q:=cP.vd t26 s (by unfold P0;exact Tryz.func26) k H
def t28:List (Nat×List Nat):=[]
def Eo(C:ft)(Q:fy)(a0 a1:V)(h:Hp):Prop:=hX (lX 43 a0) h λc h1=>hX (lX 43 a1) h1 λe g=>dF 1 c g λv6=>dF 1 e g λv8=>oP (ev .neq 3 v6 v8) λf=>oP (fD false f) λb6=>oP (gV b6 (fI 0 c)) λi=>oP (fD false f) λb7=>oP (gV b7 (eQ i g)) λj=>oP (fD false f) λb8=>oP (gV b8 (fI 0 e)) λk=>oP (fD false f) λb9=>oP (gV b9 (eQ k g)) λl=>oP (fD false f) λm=>oP (gC m (some (g0,[j,l]))) λn=>qo C n g λo p=>oP (nt f (pI .not o)) λa=>oP (fD false a) λq=>oP (gV q (fI 3 c)) λr=>oP (fD false a) λs=>oP (gV s (eQ r p)) λt=>oP (fD false a) λu=>oP (gV u (fI 3 e)) λv=>oP (fD false a) λw=>oP (gV w (eQ v p)) λx=>oP (fD false a) λy=>oP (gC y (some (g0,[t,x]))) λz=>qo C z p λA B=>oP (nt a (pI .not A)) λb=>oP (fD false b) λD=>oP (gV D (fI 4 c)) λE=>oP (fD false b) λF=>oP (gV F (eQ E B)) λG=>oP (fD false b) λH=>oP (gV H (fI 4 e)) λI=>oP (fD false b) λJ=>oP (gV J (eQ I B)) λK=>oP (fD false b) λL=>oP (gC L (some (g0,[G,K]))) λM=>qo C M B λN d=>oP (nt b (pI .not N)) λO=>bP O (Q bF d) (dF 1 c d λP=>oP (ev .neq 3 P (V.I 2)) λR=>oP (nt R (oB (fI 2 c) λS=>oB (eQ S d) λT=>oB (fI 2 e) λU=>oB (eQ U d) λW=>ev .eql 3 T W)) λX=>oP (kv X (oB (fI 1 c) λY=>oB (eQ Y d) λZ=>oB (ev .neq 3 Z (V.I 3)) λaa=>oB (some aa) λab=>nt ab (oB (fI 5 c) λac=>oB (eQ ac d) λae=>oB (fI 5 e) λag=>oB (eQ ag d) λah=>ev .eql 3 ae ah))) λai=>Q ai d)
theorem K3{C}(s:C.start=fO){a0 a1 h Q}(k:C.K nK [a0,a1] h=none)(H:Eo C Q a0 a1 h):cP C nK [a0,a1] h Q:=cP.vd t28 s (by unfold P0;exact Tryz.func28) k H
def t30:List (Nat×List Nat):=[]
def Et(C:ft)(Q:fy)(a0 a1:V)(h:Hp):Prop:=hX (lX 52 a0) h λb c=>hX (lX 52 a1) c λd a=>dF 0 b a λe=>dF 0 d a λf=>cP C gz [e,f,(V.func mr [] [])] a λg i=>Q g i
theorem K5{C}(s:C.start=fO){a0 a1 h Q}(k:C.K pG [a0,a1] h=none)(H:Et C Q a0 a1 h):cP C pG [a0,a1] h Q:=cP.vd t30 s (by unfold P0;exact Tryz.func30) k H
def t62:List (Nat×List Nat):=[]
def BE(C:ft)(Q:fy)(a0 a1:V)(h:Hp):Prop:=hX (lX 49 a0) h λd J=>hX (lX 49 a1) J λe c=>dF 0 d c λK=>dF 0 e c λL=>oP (ev .eql 3 K L) λM=>oP (kv M (oB (fI 1 d) λf=>oB (eQ f c) λg=>oB (fI 1 e) λi=>oB (eQ i c) λj=>ev .eql 3 g j)) λa=>oP (fD true a) λk=>oP (gV k (fI 2 d)) λl=>oP (fD true a) λm=>oP (gV m (eQ l c)) λn=>oP (fD true a) λo=>oP (gV o (fI 2 e)) λp=>oP (fD true a) λq=>oP (gV q (eQ p c)) λr=>oP (fD true a) λs=>oP (gC s (some (g0,[n,r]))) λt=>qo C t c λu v=>oP (js a u bF) λb=>oP (fD true b) λw=>oP (gV w (fI 3 d)) λx=>oP (fD true b) λy=>oP (gV y (eQ x v)) λz=>oP (fD true b) λA=>oP (gV A (fI 3 e)) λB=>oP (fD true b) λD=>oP (gV D (eQ B v)) λE=>oP (fD true b) λF=>oP (gC F (some (g0,[z,E]))) λG=>qo C G v λH N=>oP (js b H bF) λI=>Q I N
theorem Jk{C}(s:C.start=fO){a0 a1 h Q}(k:C.K mr [a0,a1] h=none)(H:BE C Q a0 a1 h):cP C mr [a0,a1] h Q:=cP.vd t62 s (by unfold P0;exact Tryz.func62) k H
def t59:List (Nat×List Nat):=[]
def Fj(C:ft)(Q:fy)(a0:V)(h:Hp):Prop:=oP (ev .eql 3 a0 nO) λe=>oP (nt e (oB (some a0) λf=>ev .eql 3 f (V.I 2))) λg=>oP (nt g (oB (some a0) λa=>ev .eql 3 a (V.I 17))) λb=>oP (nt b (oB (some a0) λc=>ev .eql 3 c (V.I 19))) λd=>Q d h
theorem LQ{C}(s:C.start=fO){a0 h Q}(k:C.K wT [a0] h=none)(H:Fj C Q a0 h):cP C wT [a0] h Q:=cP.vd t59 s (by unfold P0;exact Tryz.func59) k H
def t25:List (Nat×List Nat):=[(87,[1,2,15,16,17])]
def jr(C:ft)(Q:fy):LP:=JV C Tryz.f25 t25 43 [1,2,15,16,17] [] Q
def jn(C:ft)(Q:fy)(fT:LP)(n o b c a:V)(h:Hp):Prop:=bO .lss 3 a c (oP (gJ 6 b a) λd=>oP (fY 6 d h) λe=>hX (zC 45 [nZ,nZ,nZ,nZ,nS,nZ]) h λp u=>fk (gM 6 p e u) λw q=>oP (gJ 6 n a) λf=>oP (fY 6 f q) λg=>hX (zC 45 [nZ,nZ,nZ,nZ,nS,nZ]) q λr v=>fk (gM 6 r g v) λs i=>oP (fY 6 p i) λj=>oP (fY 6 r i) λk=>ic C (gh o [j,k]) i λl t=>bN l (Q bF t) (oP (ev .add 3 a nO) λm=>fT [n,o,b,c,m] t)) (Q bT h)
theorem mD{C Q}(I)(s:S5 I (jn C Q)){k l h}(i:I k l h)(e:l.length=5:=by rfl):jr C Q l h:=JV.l5 I _ s i e
def jH(C:ft)(Q:fy)(a0 a1 a2:V)(h:Hp):Prop:=oP (fH a0) λa=>oP (fH a1) λb=>bO .neq 3 a b (Q bF h) (oP (fH a0) λc=>jr C Q [a1,a2,a0,c,nZ] h)
theorem m0{C}(s:C.start=fO){a0 a1 a2 h Q}(k:C.K gR [a0,a1,a2] h=none)(H:jH C Q a0 a1 a2 h):cP C gR [a0,a1,a2] h Q:=cP.vd t25 s (by unfold P0;exact Tryz.func25) k H
def t27:List (Nat×List Nat):=[(87,[1,2,15,16,17])]
def iS(C:ft)(Q:fy):LP:=JV C Tryz.f27 t27 43 [1,2,15,16,17] [] Q
def iO(C:ft)(Q:fy)(fT:LP)(n o b c a:V)(h:Hp):Prop:=bO .lss 3 a c (oP (gJ 6 b a) λd=>oP (fY 6 d h) λe=>hX (zC 43 [nS,nZ,nZ,nS,nS,nZ]) h λp u=>fk (gM 6 p e u) λw q=>oP (gJ 6 n a) λf=>oP (fY 6 f q) λg=>hX (zC 43 [nS,nZ,nZ,nS,nS,nZ]) q λr v=>fk (gM 6 r g v) λs i=>oP (fY 6 p i) λj=>oP (fY 6 r i) λk=>ic C (gh o [j,k]) i λl t=>bN l (Q bF t) (oP (ev .add 3 a nO) λm=>fT [n,o,b,c,m] t)) (Q bT h)
theorem kQ{C Q}(I)(s:S5 I (iO C Q)){k l h}(i:I k l h)(e:l.length=5:=by rfl):iS C Q l h:=JV.l5 I _ s i e
def iY(C:ft)(Q:fy)(a0 a1 a2:V)(h:Hp):Prop:=oP (fH a0) λa=>oP (fH a1) λb=>bO .neq 3 a b (Q bF h) (oP (fH a0) λc=>iS C Q [a1,a2,a0,c,nZ] h)
theorem lJ{C}(s:C.start=fO){a0 a1 a2 h Q}(k:C.K gy [a0,a1,a2] h=none)(H:iY C Q a0 a1 a2 h):cP C gy [a0,a1,a2] h Q:=cP.vd t27 s (by unfold P0;exact Tryz.func27) k H
def t29:List (Nat×List Nat):=[(87,[1,2,15,16,17])]
def iP(C:ft)(Q:fy):LP:=JV C Tryz.f29 t29 43 [1,2,15,16,17] [] Q
def iQ(C:ft)(Q:fy)(fT:LP)(n o b c a:V)(h:Hp):Prop:=bO .lss 3 a c (oP (gJ 1 b a) λd=>oP (fY 1 d h) λe=>hX (zC 52 [nS]) h λp u=>fk (gM 1 p e u) λw q=>oP (gJ 1 n a) λf=>oP (fY 1 f q) λg=>hX (zC 52 [nS]) q λr v=>fk (gM 1 r g v) λs i=>oP (fY 1 p i) λj=>oP (fY 1 r i) λk=>ic C (gh o [j,k]) i λl t=>bN l (Q bF t) (oP (ev .add 3 a nO) λm=>fT [n,o,b,c,m] t)) (Q bT h)
theorem kO{C Q}(I)(s:S5 I (iQ C Q)){k l h}(i:I k l h)(e:l.length=5:=by rfl):iP C Q l h:=JV.l5 I _ s i e
def iX(C:ft)(Q:fy)(a0 a1 a2:V)(h:Hp):Prop:=oP (fH a0) λa=>oP (fH a1) λb=>bO .neq 3 a b (Q bF h) (oP (fH a0) λc=>iP C Q [a1,a2,a0,c,nZ] h)
theorem lF{C}(s:C.start=fO){a0 a1 a2 h Q}(k:C.K gw [a0,a1,a2] h=none)(H:iX C Q a0 a1 a2 h):cP C gw [a0,a1,a2] h Q:=cP.vd t29 s (by unfold P0;exact Tryz.func29) k H
def t61:List (Nat×List Nat):=[(87,[1,2,15,16,17])]
def iT(C:ft)(Q:fy):LP:=JV C Tryz.f61 t61 43 [1,2,15,16,17] [] Q
def iR(C:ft)(Q:fy)(fT:LP)(n o b c a:V)(h:Hp):Prop:=bO .lss 3 a c (oP (gJ 4 b a) λd=>oP (fY 4 d h) λe=>hX (zC 49 [nZ,nZ,nS,nS]) h λp u=>fk (gM 4 p e u) λw q=>oP (gJ 4 n a) λf=>oP (fY 4 f q) λg=>hX (zC 49 [nZ,nZ,nS,nS]) q λr v=>fk (gM 4 r g v) λs i=>oP (fY 4 p i) λj=>oP (fY 4 r i) λk=>ic C (gh o [j,k]) i λl t=>bN l (Q bF t) (oP (ev .add 3 a nO) λm=>fT [n,o,b,c,m] t)) (Q bT h)
theorem kP{C Q}(I)(s:S5 I (iR C Q)){k l h}(i:I k l h)(e:l.length=5:=by rfl):iT C Q l h:=JV.l5 I _ s i e
def iZ(C:ft)(Q:fy)(a0 a1 a2:V)(h:Hp):Prop:=oP (fH a0) λa=>oP (fH a1) λb=>bO .neq 3 a b (Q bF h) (oP (fH a0) λc=>iT C Q [a1,a2,a0,c,nZ] h)
theorem lI{C}(s:C.start=fO){a0 a1 a2 h Q}(k:C.K gz [a0,a1,a2] h=none)(H:iZ C Q a0 a1 a2 h):cP C gz [a0,a1,a2] h Q:=cP.vd t61 s (by unfold P0;exact Tryz.func61) k H
end
set_option maxRecDepth 100000
noncomputable section
def t3:List (Nat×List Nat):=[]
def sX(C:ft)(Q:fy)(a0 a1 a2 a3:V)(h:Hp):Prop:=hX (lX 24 a0) h λR L=>oP (fY 3 R L) λp=>cP C oi [p] L λq S=>hX (zC 30 [nZ,nZ,nS,nS,nS]) S λj T=>fk (gM 5 j q T) λvu M=>oP (fY 5 j M) λr=>cP C ye [r] M λs U=>hX (zC 30 [nZ,nZ,nS,nS,nS]) U λm W=>fk (gM 5 m s W) λN O=>oP (fY 5 j O) λt=>cP C BD [t] O λu X=>hX (zC 30 [nZ,nZ,nS,nS,nS]) X λa Y=>fk (gM 5 a u Y) λP v=>cP C pC [] v λw k=>oP (pI .not w) λf=>oP (fD false f) λb3=>oP (gV b3 (fY 5 j k)) λx=>oP (fD false f) λZ=>oP (gV Z (fY 5 m k)) λy=>oP (fD false f) λb5=>oP (gC b5 (some (DN,[x,y]))) λy5=>qo C y5 k λz n=>oP (nt f (pI .not z)) λl=>oP (fD false l) λb9=>oP (gV b9 (fY 5 a n)) λA=>oP (fD false l) λB=>oP (gC B (some (mR,[A]))) λD=>qo C D n λE b=>oP (nt l (pI .not E)) λF=>bP F (Q bF b) (oP (fY 5 j b) λg=>oP (fY 5 a b) λi=>cP C mq [a1] b λG c=>(b.next<=c.next/\((fY 5 a c=some i)/\((fY 5 j c=some g)/\cP C mL [a2] c λH d=>(c.next<=d.next/\((fY 5 a d=some i)/\((fY 5 j d=some g)/\cP C iM [a3,(V.I 9)] d λI e=>(d.next<=e.next/\oP (ev .sub 3 I nO) λJ=>((fY 5 a e=some i)/\((fY 5 j e=some g)/\cP C km [g,i,G,H,J,(V.I 1500)] e λK o=>(e.next<=o.next/\Q K o)))))))))))
theorem A1{C}(s:C.start=fO){a0 a1 a2 a3 h Q}(k:C.K nH [a0,a1,a2,a3] h=none)(H:sX C Q a0 a1 a2 a3 h):cP C nH [a0,a1,a2,a3] h Q:=cP.vd t3 s (by unfold P0;exact Tryz.func3) k H
end
