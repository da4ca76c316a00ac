/- Parts. -/
import Derived.Test.YtjgjgngfjopaaaaDoorM14
namespace Go.Proofs.YtjgjgngfjopaaaaDoor.Hx
set_option maxRecDepth 100000
noncomputable section
def t4:List (Nat×List Nat):=[(175,[1,2,3,25,26,27]),(111406,[1,2,3,4,5,25,26,27,33,34]),(351,[1,2,3,54,55,56]),(3886,[1,2,3,25,26,27]),(504622,[1,2,3,4,25,26,27,45]),(7774,[1,2,3,54,55,56]),(319,[1,2,3]),(2815,[1,2,9,121,122,123]),(62206,[1,2,9,121,122,123])]
def E9(C:fu)(Q:fy):LP:=JV C Tryd.f4 t4 87 [1,2,3,25,26,27] [] Q
def tR(C:fu)(Q:fy)(fS:LP):LP:=JV C Tryd.f4 t4 55703 [1,2,3,4,5,25,26,27,33,34] [kf [1,2,3,25,26,27] fS] Q
def EA(C:fu)(Q:fy):LP:=JV C Tryd.f4 t4 175 [1,2,3,54,55,56] [] Q
def oZ(C:fu)(Q:fy)(fS:LP):LP:=JV C Tryd.f4 t4 1943 [1,2,3,25,26,27] [kf [1,2,3,25,26,27] fS] Q
def tO(C:fu)(Q:fy)(fS:LP):LP:=JV C Tryd.f4 t4 252311 [1,2,3,4,25,26,27,45] [kf [1,2,3,25,26,27] fS] Q
def oX(C:fu)(Q:fy)(a:LP):LP:=JV C Tryd.f4 t4 3887 [1,2,3,54,55,56] [kf [1,2,3,54,55,56] a] Q
def Fb(C:fu)(Q:fy):LP:=JV C Tryd.f4 t4 159 [1,2,3] [] Q
def Fi(C:fu)(Q:fy):LP:=JV C Tryd.f4 t4 1407 [1,2,9,121,122,123] [] Q
def yu(C:fu)(Q:fy)(a:LP):LP:=JV C Tryd.f4 t4 31103 [1,2,9,121,122,123] [kf [1,2,9,121,122,123] a] Q
def E6(C:fu)(Q:fy)(fS:LP)(g j k c d a:V)(h:Hp):Prop:=bO .lss 3 a d (oP (gD 6 c a) λl=>oP (gg 6 l h) λm=>ik (zC 46 [nZ,nZ,nZ,nZ,nS,nZ]) h λi q=>fm (gK 6 i m q) λr n=>dF 0 i n λb=>oP (eo .eql 3 b (V.I 22)) λe=>bP e (tR C Q fS [g,j,k,a,i,c,d,a,b,e] n) (oP (eo .eql 3 b (V.I 23)) λo=>tR C Q fS [g,j,k,a,i,c,d,a,b,o] n)) (dF 3 g h λf=>oP (fF f) λp=>EA C Q [g,j,k,f,p,nZ] h)
theorem MC{C Q}(I)(s:S6 I (E6 C Q)){k l h}(i:I k l h)(e:l.length=6:=by rfl):E9 C Q l h:=JV.l6 I _ s i e
def Ec(C:fu)(Q:fy)(fS:LP)(g i d j o a b c e k:V)(h:Hp):Prop:=bP k (dF 5 o h λl=>cP C ma [d,l] h λp q=>ik (jt 3 1 1 nZ [(0,j)]) q λm r=>cP C iS [d,m] r λs t=>oZ C Q fS [g,i,d,a,b,c] t) (oP (eo .eql 3 e (V.I 19)) λf=>bP f (tO C Q fS [g,i,d,j,a,b,c,f] h) (oP (eo .eql 3 e (V.I 20)) λn=>tO C Q fS [g,i,d,j,a,b,c,n] h))
theorem KN{C Q fS}:DL (Ec C Q fS) (tR C Q fS):=JV.Vs _
def E5(C:fu)(Q:fy)(d:LP)(i j e b c a:V)(h:Hp):Prop:=bO .lss 3 a c (oP (gD 6 b a) λl=>oP (gg 6 l h) λm=>ik (zC 50 [nS,nZ,nZ,nS,nS,nZ]) h λk q=>fm (gK 6 k m q) λw f=>dF 1 k f λg=>bO .eql 3 g (V.I 2) (dF 2 k f λn=>ik (jt 3 1 1 nZ [(0,n)]) f λo r=>cP C iS [e,o] r λs t=>oX C Q d [i,j,e,b,c,a] t) (bO .eql 3 g (V.I 3) (dF 5 k f λp=>cP C ma [e,p] f λu v=>oX C Q d [i,j,e,b,c,a] v) (oX C Q d [i,j,e,b,c,a] f))) (Fb C Q [i,j,e] h)
theorem Mv{C Q}(I)(s:S6 I (E5 C Q)){k l h}(i:I k l h)(e:l.length=6:=by rfl):EA C Q l h:=JV.l6 I _ s i e
def Eb(C:fu)(Q:fy)(fS:LP)(e f g a b c:V)(h:Hp):Prop:=oP (eo .add 3 c nO) λd=>fS [e,f,g,a,b,d] h
theorem KK{C Q fS}:R6 (Eb C Q fS) (oZ C Q fS):=JV.r6 _
def DX(C:fu)(Q:fy)(fS:LP)(g i d j a b c e:V)(h:Hp):Prop:=bP e (ik (jt 3 1 1 nZ [(0,j)]) h λf k=>cP C iS [d,f] k λl m=>oZ C Q fS [g,i,d,a,b,c] m) (oZ C Q fS [g,i,d,a,b,c] h)
theorem KI{C Q fS}:R8 (DX C Q fS) (tO C Q fS):=JV.r8 _
def Ea(C:fu)(Q:fy)(a:LP)(f g i b c d:V)(h:Hp):Prop:=oP (eo .add 3 d nO) λe=>a [f,g,i,b,c,e] h
theorem KC{C Q a}:R6 (Ea C Q a) (oX C Q a):=JV.r6 _
def EW(C:fu)(Q:fy)(s:LP)(q B a:V)(h:Hp):Prop:=oP (ij a) λt=>dG 6 t h λu=>bO .gtr 3 u nZ (dN 6 a h λv=>oP (ij a) λw=>dG 6 w h λx=>oP (eo .sub 3 x nO) λy=>dX 1 v y h λz=>dN 6 a h λA=>oP (ij a) λc=>dG 6 c h λd=>oP (eo .sub 3 d nO) λe=>oP (jh 1 A none (some e) h) λf=>oP (ij a) λg=>oP (fH 6 g) λi=>fm (gK 1 i f h) λH r=>(h.next<=r.next/\dF 2 q r λj=>oP (gD 6 j z) λk=>oP (gg 6 k r) λl=>cP C tV [l] r λm F=>cP C iS [a,m] F λD G=>s [q,B,a] G)) (oP (gg 5 q h) λn=>cP C DA [n] h λo E=>dN 5 a E λb=>oP (fF b) λp=>Fi C Q [q,B,o,b,p,nZ] E)
theorem Lm{C Q}(I)(s:S3 I (EW C Q)){k l h}(i:I k l h)(e:l.length=3:=by rfl):Fb C Q l h:=JV.l3 I _ s i e
def EM(C:fu)(Q:fy)(d:LP)(l j k b c a:V)(h:Hp):Prop:=bO .lss 3 a c (dX 1 b a h λe=>bN e (oP (gD 1 k a) λf=>fm (gK 1 f (V.I (-1)) h) λr o=>yu C Q d [l,j,k,b,c,a] o) (yu C Q d [l,j,k,b,c,a] h)) (oP (gg 5 l h) λg=>cP C Ab [g,k] h λi p=>fm (gK 5 j i p) λm n=>oP (gg 5 j n) λq=>Q q n)
theorem Mh{C Q}(I)(s:S6 I (EM C Q)){k l h}(i:I k l h)(e:l.length=6:=by rfl):Fi C Q l h:=JV.l6 I _ s i e
def yr(C:fu)(Q:fy)(e:LP)(f g i a b c:V)(h:Hp):Prop:=oP (eo .add 3 c nO) λd=>e [f,g,i,a,b,d] h
theorem D0{C Q a}:R6 (yr C Q a) (yu C Q a):=JV.r6 _
def Ky(C:fu)(Q:fy)(a0:V)(h:Hp):Prop:=ik (m0 30 a0) h λa x=>ik (zC 30 [nZ,nZ,nS,nS,nS]) x λj u=>oP (gg 5 a u) λk=>cP C A4 [k] u λl b=>bN l (oP (gg 5 a b) λm=>cP C zP [m] b λn y=>fm (gK 5 j n y) λA v=>oP (gg 5 j v) λz=>Q z v) (oP (gg 5 a b) λd=>oP (fH 2 a) λe=>oP (ez e b) λf=>oP (fF f) λg=>wU (ig 4 1 1 bF g g) b λo p w=>oP (fV [nZ,nZ,nS,nS,nS,nS,nS] [(0,5),(5,1),(6,1)] [(0,d),(1,p)]) λq=>wU (m0 44 q) w λr s c=>((c.get (w.next)=some r/\O.beq r r=true)/\((c.get (b.next)=some o/\O.beq o o=true)/\((ez e c=some f)/\((gg 5 a c=some d)/\dF 2 a c λi=>oP (fF i) λt=>E9 C Q [a,j,s,i,t,nZ] c)))))
theorem Qz{C}(s:C.start=fR){a0 h Q}(k:C.K p6 [a0] h=none)(H:Ky C Q a0 h):cP C p6 [a0] h Q:=cP.vd t4 s (by unfold P0;exact Tryd.func4) k H
def t14:List (Nat×List Nat):=[(11,[0,14,15,16])]
def vn(C:fu)(Q:fy):LP:=JV C Tryd.f14 t14 5 [0,14,15,16] [] Q
def vj(C:fu)(Q:fy)(fS:LP)(d b c a:V)(h:Hp):Prop:=bO .lss 3 a c (oP (gD 4 b a) λe=>oP (gg 4 e h) λf=>ik (zC 57 [nZ,nZ,nS,nS]) h λg n=>fm (gK 4 g f n) λr l=>dF 2 g l λi=>cP C iS [d,i] l λo m=>dF 3 g m λj=>cP C iS [d,j] m λp q=>oP (eo .add 3 a nO) λk=>fS [d,b,c,k] q) (Q (V.tuple []) h)
theorem DG{C Q}(I)(s:S4 I (vj C Q)){k l h}(i:I k l h)(e:l.length=4:=by rfl):vn C Q l h:=JV.l4 I _ s i e
def yX(C:fu)(Q:fy)(a0 a1:V)(h:Hp):Prop:=oP (ij a0) λc=>oP (fH 0 c) λd=>dJ 4 d 1 a1 0 h λa=>oP (fF a) λb=>vn C Q [a0,a,b,nZ] h
theorem GA{C}(s:C.start=fR){a0 a1 h Q}(k:C.K ma [a0,a1] h=none)(H:yX C Q a0 a1 h):cP C ma [a0,a1] h Q:=cP.vd t14 s (by unfold P0;exact Tryd.func14) k H
def t15:List (Nat×List Nat):=[(11,[0,6,7,8]),(242,[0,6,7,8])]
def wN(C:fu)(Q:fy):LP:=JV C Tryd.f15 t15 5 [0,6,7,8] [] Q
def px(C:fu)(Q:fy)(fS:LP):LP:=JV C Tryd.f15 t15 121 [0,6,7,8] [kf [0,6,7,8] fS] Q
def wT(C:fu)(Q:fy)(fS:LP)(b d e c:V)(h:Hp):Prop:=bO .lss 3 c e (dX 1 d c h λa=>dN 5 b h λf=>dX 1 f a h λg=>bN g (dN 5 b h λi=>oP (gD 1 i a) λj=>fm (gK 1 j bT h) λu p=>dN 6 b p λk=>ik (jt 3 1 1 nZ [(0,a)]) p λl r=>fm (fe 3 1 8 k l r) λm s=>oP (ij b) λn=>oP (fH 6 n) λo=>fm (gK 1 o m s) λq t=>px C Q fS [b,d,e,c] t) (px C Q fS [b,d,e,c] h)) (Q (V.tuple []) h)
theorem Em{C Q}(I)(s:S4 I (wT C Q)){k l h}(i:I k l h)(e:l.length=4:=by rfl):wN C Q l h:=JV.l4 I _ s i e
def po(C:fu)(Q:fy)(fS:LP)(b c d e:V)(h:Hp):Prop:=oP (eo .add 3 e nO) λa=>fS [b,c,d,a] h
theorem wP{C Q fS}:R4 (po C Q fS) (px C Q fS):=JV.r4 _
def zL(C:fu)(Q:fy)(a0 a1:V)(h:Hp):Prop:=oP (fF a1) λa=>wN C Q [a0,a1,a,nZ] h
theorem Hf{C}(s:C.start=fR){a0 a1 h Q}(k:C.K iS [a0,a1] h=none)(H:zL C Q a0 a1 h):cP C iS [a0,a1] h Q:=cP.vd t15 s (by unfold P0;exact Tryd.func15) k H
end
set_option maxRecDepth 100000
noncomputable section
def t33:List (Nat×List Nat):=[(383,[1,2,3,4,5,10,11,12,13,14,15]),(40063,[1,2,3,4,5,10,11,12,13,14,15,16,17,18]),(4004990,[1,2,3,4,5,10,11,12,13,14,15,16,17,18,20]),(183311487,[1,2,3,4,5,10,11,12,13,14,15,16,17,18,19,20,21]),(31870,[1,2,3,4,5,10,11,12,13,14,16,17,18]),(179327,[1,2,3,4,5,10,11,12,13,14,16,17,18,22]),(162943,[1,2,3,4,5,10,11,12,13,14,16,18]),(1866878,[1,2,3,4,5,10,11,12,13,14,16,18]),(140737419443326,[1,2,3,4,5,10,11,12,13,14,16,18,23,24,298])]
def uU(C:fu)(Q:fy):LP:=JV C Tryd.f33 t33 191 [1,2,3,4,5,10,11,12,13,14,15] [] Q
def nY(C:fu)(Q:fy)(fS:LP):LP:=JV C Tryd.f33 t33 20031 [1,2,3,4,5,10,11,12,13,14,15,16,17,18] [kf [1,2,3,4,5,10,11,12,13,14,15] fS] Q
def iW(C:fu)(Q:fy)(fS:LP)(a:LP):LP:=JV C Tryd.f33 t33 2002495 [1,2,3,4,5,10,11,12,13,14,15,16,17,18,20] [kf [1,2,3,4,5,10,11,12,13,14,15] fS,kf [1,2,3,4,5,10,11,12,13,14,15,16,17,18] a] Q
def uD(C:fu)(Q:fy)(fS:LP)(a:LP):LP:=JV C Tryd.f33 t33 91655743 [1,2,3,4,5,10,11,12,13,14,15,16,17,18,19,20,21] [kf [1,2,3,4,5,10,11,12,13,14,15] fS,kf [1,2,3,4,5,10,11,12,13,14,15,16,17,18] a] Q
def jm(C:fu)(Q:fy)(fS:LP):LP:=JV C Tryd.f33 t33 15935 [1,2,3,4,5,10,11,12,13,14,16,17,18] [kf [1,2,3,4,5,10,11,12,13,14,15] fS] Q
def uH(C:fu)(Q:fy)(fS:LP):LP:=JV C Tryd.f33 t33 89663 [1,2,3,4,5,10,11,12,13,14,16,17,18,22] [kf [1,2,3,4,5,10,11,12,13,14,15] fS] Q
def lJ(C:fu)(Q:fy)(fS:LP):LP:=JV C Tryd.f33 t33 81471 [1,2,3,4,5,10,11,12,13,14,16,18] [kf [1,2,3,4,5,10,11,12,13,14,15] fS] Q
def fY(C:fu)(Q:fy)(fS:LP)(a:LP):LP:=JV C Tryd.f33 t33 933439 [1,2,3,4,5,10,11,12,13,14,16,18] [kf [1,2,3,4,5,10,11,12,13,14,15] fS,kf [1,2,3,4,5,10,11,12,13,14,16,18] a] Q
def kT(C:fu)(Q:fy)(fS:LP)(a:LP):LP:=JV C Tryd.f33 t33 70368709721663 [1,2,3,4,5,10,11,12,13,14,16,18,23,24,298] [kf [1,2,3,4,5,10,11,12,13,14,15] fS,kf [1,2,3,4,5,10,11,12,13,14,16,18] a] Q
def uW(C:fu)(Q:fy)(fS:LP)(m n o p l c d e f a g:V)(h:Hp):Prop:=dF 3 l h λi=>oP (gD 6 i a) λj=>oP (gg 6 j h) λk=>ik (zC 50 [nS,nZ,nZ,nS,nS,nZ]) h λb q=>fm (gK 6 b k q) λs r=>nY C Q fS [m,n,o,p,l,c,d,e,f,a,g,b,nS,nZ] r
theorem Cs{C Q}(I)(s:S11 I (uW C Q)){k l h}(i:I k l h)(e:l.length=11:=by rfl):uU C Q l h:=JV.l11 I _ s i e
def uM(C:fu)(Q:fy)(fS:LP)(l:LP)(q m r s p d e f g i n a j b:V)(h:Hp):Prop:=dG 0 a h λB=>bO .lss 3 b B (oP (fH 2 p) λt=>oP (ez t h) λu=>oP (fH 0 a) λv=>oP (ez v h) λw=>oP (gD 1 w b) λx=>oP (ez x h) λy=>oP (gD 6 u y) λz=>oP (gg 6 z h) λA=>wU (zC 46 [nZ,nZ,nZ,nZ,nS,nZ]) h λD c o=>((o.get (h.next)=some D/\O.beq D D=true)/\((gg 6 z o=some A)/\((ez x o=some y)/\((ez v o=some w)/\((ez t o=some u)/\fm (gK 6 c A o) λK k=>(o.next<=k.next/\dF 0 c k λE=>bO .eql 3 E nO (dF 3 c k λF=>oP (fF m) λG=>bO .lss 3 F G (dF 3 c k λH=>dX 1 m H k λI=>iW C Q fS l [q,m,r,s,p,d,e,f,g,i,n,a,j,b,I] k) (iW C Q fS l [q,m,r,s,p,d,e,f,g,i,n,a,j,b,(V.int .u64 0)] k)) (dF 0 c k λJ=>bO .eql 3 J (V.I 21) (uD C Q fS l [q,m,r,s,p,d,e,f,g,i,n,a,j,b,c,(V.int .u64 0),nZ] k) (jm C Q fS [q,m,r,s,p,d,e,f,g,i,a,j,b] k))))))))) (jm C Q fS [q,m,r,s,p,d,e,f,g,i,a,j,b] h)
theorem CA{C Q fS}(I)(s:S14 I (uM C Q fS)){k l h}(i:I k l h)(e:l.length=14:=by rfl):nY C Q fS l h:=JV.l14 I _ s i e
def th(C:fu)(Q:fy)(fS:LP)(a:LP)(p q r s t b c d e f g i j k l:V)(h:Hp):Prop:=ik (jt 83 1 1 (V.int .u64 0) [(0,l)]) h λm u=>fm (fe 83 1 8 j m u) λn v=>oP (eo .add 3 k nO) λo=>a [p,q,r,s,t,b,c,d,e,f,g,i,n,o] v
theorem BH{C Q fS a}:R15 (th C Q fS a) (iW C Q fS a):=JV.r15 _
def ui(C:fu)(Q:fy)(fS:LP)(l:LP)(o:LP)(p q r s t e b f g i c a j k m n d:V)(h:Hp):Prop:=dG 4 a h λu=>bO .lss 3 d u (dY 4 a 1 d h λv=>bO .eql 3 v c (dY 4 m 1 d h λw=>dX 1 b w h λx=>iW C Q fS l [p,q,r,s,t,e,b,f,g,i,c,a,j,k,x] h) (oP (eo .add 3 d nO) λy=>o [p,q,r,s,t,e,b,f,g,i,c,a,j,k,m,n,y] h)) (iW C Q fS l [p,q,r,s,t,e,b,f,g,i,c,a,j,k,n] h)
theorem B4{C Q fS a}(I)(s:S17 I (ui C Q fS a)){k l h}(i:I k l h)(e:l.length=17:=by rfl):uD C Q fS a l h:=JV.l17 I _ s i e
def uA(C:fu)(Q:fy)(fS:LP)(j k l m n a b c d e f g i:V)(h:Hp):Prop:=uH C Q fS [j,k,l,m,n,a,b,c,d,e,f,g,i,nZ] h
theorem CB{C Q fS}:R13 (uA C Q fS) (jm C Q fS):=JV.r13 _
def uu(C:fu)(Q:fy)(fS:LP)(o:LP)(q r s t u e b f g i c j d a:V)(h:Hp):Prop:=bO .lss 3 a d (dY 0 c 1 a h λk=>dX 1 j a h λl=>oP (gD 1 b k) λm=>fm (gK 1 m l h) λw v=>(h.next<=v.next/\oP (eo .add 3 f nO) λn=>oP (eo .add 3 a nO) λp=>o [q,r,s,t,u,e,b,n,g,i,c,j,d,p] v)) (lJ C Q fS [q,r,s,t,u,e,b,f,g,i,c,d] h)
theorem Ct{C Q fS}(I)(s:S14 I (uu C Q fS)){k l h}(i:I k l h)(e:l.length=14:=by rfl):uH C Q fS l h:=JV.l14 I _ s i e
def uc(C:fu)(Q:fy)(fS:LP)(m:LP)(n r p q o b a t j k f l:V)(h:Hp):Prop:=dG 0 f h λB=>bO .lss 3 l B (bO .geq 3 t q (oP (fV [nZ,nZ,nZ,nS,nZ] [(0,1),(1,1),(2,1),(3,1),(4,1)] [(0,nZ),(1,(V.I (-1))),(2,(V.I (-1))),(4,t)]) λD=>fm (gK 5 b D h) λvu h1=>oP (gg 5 b h1) λVs=>Q Vs h1) (oP (eo .add 3 t nO) λd=>dY 0 f 1 l h λi=>dF 2 o h λE=>oP (gD 6 E i) λF=>oP (gg 6 F h) λG=>ik (zC 46 [nZ,nZ,nZ,nZ,nS,nZ]) h λe h2=>fm (gK 6 e G h2) λbm c=>dF 0 e c λg=>bO .eql 3 g (V.I 2) (dF 3 e c λH=>oP (tn .u64 H) λI=>oP (gD 1 a i) λJ=>fm (gK 1 J I c) λbo h4=>fY C Q fS m [n,r,p,q,o,b,a,d,j,k,f,l] h4) (bO .eql 3 g (V.I 15) (dF 1 e c λK=>dX 1 a K c λL=>cP C kI [n,L] c λM h5=>oP (tn .u64 M) λN=>oP (gD 1 a i) λO=>fm (gK 1 O N h5) λbq h6=>fY C Q fS m [n,r,p,q,o,b,a,d,j,k,f,l] h6) (bO .eql 3 g (V.I 16) (dF 1 e c λP=>dX 1 a P c λR=>cP C jJ [n,R] c λS h7=>oP (tn .u64 S) λT=>oP (gD 1 a i) λU=>fm (gK 1 U T h7) λbr h8=>fY C Q fS m [n,r,p,q,o,b,a,d,j,k,f,l] h8) (bO .eql 3 g (V.I 17) (dF 1 e c λW=>dX 1 a W c λX=>dF 3 e c λY=>oP (tn .u64 Y) λZ=>oP (eo .add 83 X Z) λaa=>cP C iD [n,aa] c λab h9=>(c.next<=h9.next/\oP (gD 1 a i) λac=>fm (gK 1 ac ab h9) λbt ae=>(h9.next<=ae.next/\fY C Q fS m [n,r,p,q,o,b,a,d,j,k,f,l] ae))) (bO .eql 3 g (V.I 18) (dF 1 e c λag=>dX 1 a ag c λah=>oP (eo .add 83 ah (V.int .u64 1)) λai=>dF 2 e c λaj=>dX 1 a aj c λak=>oP (eo .add 83 ai ak) λal=>cP C iD [n,al] c λam w=>(c.next<=w.next/\oP (gD 1 a i) λan=>fm (gK 1 an am w) λbu ao=>(w.next<=ao.next/\fY C Q fS m [n,r,p,q,o,b,a,d,j,k,f,l] ao))) (bO .eql 3 g (V.I 19) (dF 1 e c λap=>dX 1 a ap c λaq=>dF 3 e c λar=>oP (tn .u64 ar) λau=>oP (eo .add 83 aq au) λaw=>dF 2 e c λax=>dX 1 a ax c λay=>cP C iX [n,aw,ay] c λbw aA=>(c.next<=aA.next/\fY C Q fS m [n,r,p,q,o,b,a,d,j,k,f,l] aA)) (bO .eql 3 g (V.I 20) (dF 1 e c λaB=>dX 1 a aB c λaC=>oP (eo .add 83 aC (V.int .u64 1)) λaD=>dF 2 e c λaE=>dX 1 a aE c λaF=>oP (eo .add 83 aD aF) λaG=>dY 4 e 1 nZ c λaH=>dX 1 a aH c λaI=>cP C iX [n,aG,aI] c λbx aJ=>(c.next<=aJ.next/\fY C Q fS m [n,r,p,q,o,b,a,d,j,k,f,l] aJ)) (bO .eql 3 g (V.I 22) (dF 1 e c λaK=>dX 1 a aK c λaL=>bO .eql 83 aL (V.int .u64 0) (oP (gg 5 o c) λaM=>dF 5 e c λaN=>cP C iT [aM,a,aN,i,d] c λaO bg=>fm (gK 5 b aO bg) λbz aP=>oP (gg 5 b aP) λx=>Q x aP) (fY C Q fS m [n,r,p,q,o,b,a,d,j,k,f,l] c)) (bO .eql 3 g (V.I 23) (oP (eo .geq 3 p nZ) λaQ=>oP (jZ aQ (oB (some j) λaR=>oB (some p) λaS=>eo .eql 3 aR aS)) λaT=>bP aT (oP (gg 5 o c) λaU=>dF 5 e c λaV=>cP C iT [aU,a,aV,i,d] c λaW bh=>fm (gK 5 b aW bh) λbA aX=>oP (gg 5 b aX) λy=>Q y aX) (oP (eo .add 3 j nO) λaY=>fY C Q fS m [n,r,p,q,o,b,a,d,aY,k,f,l] c)) (oP (eo .eql 3 g (V.I 8)) λu=>bP u (kT C Q fS m [n,r,p,q,o,b,a,d,j,k,f,l,i,e,u] c) (oP (eo .eql 3 g (V.I 9)) λaZ=>kT C Q fS m [n,r,p,q,o,b,a,d,j,k,f,l,i,e,aZ] c)))))))))))) (bO .geq 3 t q (oP (fV [nZ,nZ,nZ,nS,nZ] [(0,1),(1,1),(2,1),(3,1),(4,1)] [(0,nZ),(1,(V.I (-1))),(2,(V.I (-1))),(4,t)]) λa5=>fm (gK 5 b a5 h) λbC a6=>oP (gg 5 b a6) λz=>Q z a6) (oP (eo .add 3 t nO) λs=>dF 1 f h λv=>bO .eql 3 v nO (dY 3 f 1 nZ h λa7=>fS [n,r,p,q,o,b,a,s,j,a7,k] h) (bO .eql 3 v (V.I 2) (dF 2 f h λa8=>dX 1 a a8 h λa9=>bO .neq 83 a9 (V.int .u64 0) (dY 3 f 1 nZ h λba=>fS [n,r,p,q,o,b,a,s,j,ba,k] h) (dY 3 f 1 nO h λbb=>fS [n,r,p,q,o,b,a,s,j,bb,k] h)) (oP (gg 5 o h) λbc=>dF 5 f h λbd=>cP C iT [bc,a,bd,(V.I (-1)),s] h λbe bi=>fm (gK 5 b be bi) λbj bf=>oP (gg 5 b bf) λA=>Q A bf))))
theorem BQ{C Q fS}(I)(s:S12 I (uc C Q fS)){k l h}(i:I k l h)(e:l.length=12:=by rfl):lJ C Q fS l h:=JV.l12 I _ s i e
def sS(C:fu)(Q:fy)(fS:LP)(b:LP)(k l m n o c d e f g i j:V)(h:Hp):Prop:=oP (eo .add 3 j nO) λa=>b [k,l,m,n,o,c,d,e,f,g,i,a] h
theorem BJ{C Q fS a}:R12 (sS C Q fS a) (fY C Q fS a):=JV.r12 _
def tJ(C:fu)(Q:fy)(fS:LP)(e:LP)(D E F G H f a g i j k l m b n:V)(h:Hp):Prop:=bP n (dF 0 b h λo=>dF 1 b h λp=>dX 1 a p h λq=>cP C kj [o,q,(V.int .u64 0)] h λc A=>(h.next<=A.next/\oP (Hk 0 c) λr=>oP (Hk 1 c) λI=>oP (gD 1 a m) λs=>fm (gK 1 s r A) λN J=>(A.next<=J.next/\fY C Q fS e [D,E,F,G,H,f,a,g,i,j,k,l] J))) (dF 0 b h λt=>dF 1 b h λu=>dX 1 a u h λv=>dF 2 b h λw=>dX 1 a w h λx=>cP C kj [t,v,x] h λd B=>(h.next<=B.next/\oP (Hk 0 d) λy=>oP (Hk 1 d) λK=>oP (gD 1 a m) λz=>fm (gK 1 z y B) λL M=>(B.next<=M.next/\fY C Q fS e [D,E,F,G,H,f,a,g,i,j,k,l] M)))
theorem Bt{C Q fS a}:R15 (tJ C Q fS a) (kT C Q fS a):=JV.r15 _
def yg(C:fu)(Q:fy)(a0 a1 a2 a3 a4:V)(h:Hp):Prop:=ik (m0 30 a0) h λd f=>ik (zC 76 [nZ,nZ,nZ,nS,nZ]) f λb e=>dG 2 d e λa=>ik (ig 83 1 8 (V.int .u64 0) a a) e λc g=>uU C Q [a1,a2,a3,a4,d,b,c,nZ,nZ,nZ,(V.I (-1))] g
theorem E7{C}(s:C.start=fR){a0 a1 a2 a3 a4 h Q}(k:C.K jx [a0,a1,a2,a3,a4] h=none)(H:yg C Q a0 a1 a2 a3 a4 h):cP C jx [a0,a1,a2,a3,a4] h Q:=cP.vd t33 s (by unfold P0;exact Tryd.func33) k H
def t59:List (Nat×List Nat):=[]
def wC(C:fu)(Q:fy)(a0 a1 a2:V)(h:Hp):Prop:=oP (tn .i64 a1) λb=>oP (tn .i64 a2) λa=>bO .eql 3 a0 (V.I 3) (oP (eo .add 83 a1 a2) λc=>Q (V.tuple [c,bT]) h) (bO .eql 3 a0 (V.I 4) (oP (eo .sub 83 a1 a2) λd=>Q (V.tuple [d,bT]) h) (bO .eql 3 a0 (V.I 5) (oP (eo .mul 83 a1 a2) λe=>Q (V.tuple [e,bT]) h) (bO .eql 3 a0 (V.I 6) (bO .eql 2 a nZ (Q (V.tuple [(V.int .u64 0),bT]) h) (bO .eql 2 a (V.I (-1)) (oP (qz .neg a1) λf=>Q (V.tuple [f,bT]) h) (oP (eo .quo 2 b a) λg=>oP (tn .u64 g) λi=>Q (V.tuple [i,bT]) h))) (bO .eql 3 a0 (V.I 7) (oP (eo .eql 2 a nZ) λj=>oP (oD j (oB (some a) λk=>eo .eql 2 k (V.I (-1)))) λl=>bP l (Q (V.tuple [(V.int .u64 0),bT]) h) (oP (eo .rem 2 b a) λm=>oP (tn .u64 m) λn=>Q (V.tuple [n,bT]) h)) (bO .eql 3 a0 (V.I 8) (oP (qz .neg a1) λo=>Q (V.tuple [o,bT]) h) (bO .eql 3 a0 (V.I 9) (oP (eo .eql 83 a1 (V.int .u64 0)) λp=>cP C iy [p] h λq B=>Q (V.tuple [q,bT]) B) (bO .eql 3 a0 (V.I 10) (oP (eo .eql 83 a1 a2) λr=>cP C iy [r] h λs D=>Q (V.tuple [s,bT]) D) (bO .eql 3 a0 (V.I 11) (oP (eo .neq 83 a1 a2) λt=>cP C iy [t] h λu E=>Q (V.tuple [u,bT]) E) (bO .eql 3 a0 (V.I 12) (oP (eo .lss 2 b a) λv=>cP C iy [v] h λw F=>Q (V.tuple [w,bT]) F) (bO .eql 3 a0 (V.I 13) (oP (eo .leq 2 b a) λx=>cP C iy [x] h λy G=>Q (V.tuple [y,bT]) G) (bO .eql 3 a0 (V.I 14) (oP (eo .lss 83 a1 a2) λz=>cP C iy [z] h λA H=>Q (V.tuple [A,bT]) H) (Q (V.tuple [(V.int .u64 0),bF]) h))))))))))))
theorem CZ{C}(s:C.start=fR){a0 a1 a2 h Q}(k:C.K kj [a0,a1,a2] h=none)(H:wC C Q a0 a1 a2 h):cP C kj [a0,a1,a2] h Q:=cP.vd t59 s (by unfold P0;exact Tryd.func59) k H
def t77:List (Nat×List Nat):=[]
def wX(C:fu)(Q:fy)(a0:V)(h:Hp):Prop:=bP a0 (Q (V.int .u64 1) h) (Q (V.int .u64 0) h)
theorem Ef{C}(s:C.start=fR){a0 h Q}(k:C.K iy [a0] h=none)(H:wX C Q a0 h):cP C iy [a0] h Q:=cP.vd t77 s (by unfold P0;exact Tryd.func77) k H
def t58:List (Nat×List Nat):=[(87,[1,2,5,10,11,12]),(44183,[1,2,5,10,11,12,13,14,15]),(89239,[1,2,5,10,11,12,13,14,16])]
def qL(C:fu)(Q:fy):LP:=JV C Tryd.f58 t58 43 [1,2,5,10,11,12] [] Q
def qT(C:fu)(Q:fy)(fS:LP):LP:=JV C Tryd.f58 t58 22091 [1,2,5,10,11,12,13,14,15] [kf [1,2,5,10,11,12] fS] Q
def sk(C:fu)(Q:fy)(fS:LP):LP:=JV C Tryd.f58 t58 44619 [1,2,5,10,11,12,13,14,16] [kf [1,2,5,10,11,12] fS] Q
def rj(C:fu)(Q:fy)(fS:LP)(w f g b d c:V)(h:Hp):Prop:=dF 4 g h λi=>oP (gD 1 i f) λj=>dG 0 j h λk=>bO .lss 3 c k (dJ 4 g 1 f 0 h λl=>oP (gD 4 l c) λm=>oP (gg 4 m h) λn=>ik (zC 57 [nZ,nZ,nS,nS]) h λa x=>fm (gK 4 a n x) λA o=>dF 0 a o λp=>dF 1 a o λq=>oP (fV [nZ,nZ,nS,nS] [(0,1),(1,1),(2,1),(3,1)] [(0,p),(1,q)]) λr=>ik (zC 106 [nZ,nZ,nS,nS]) o λe y=>fm (gK 4 e r y) λt z=>qT C Q fS [w,f,g,b,d,c,a,e,nZ] z) (oP (gg 5 d h) λs=>fm (gK 5 b s h) λu v=>oP (gg 5 b v) λVs=>Q Vs v)
theorem AP{C Q}(I)(s:S6 I (rj C Q)){k l h}(i:I k l h)(e:l.length=6:=by rfl):qL C Q l h:=JV.l6 I _ s i e
def sx(C:fu)(Q:fy)(fS:LP)(r:LP)(s z A f g i a b c:V)(h:Hp):Prop:=dG 2 a h λt=>bO .lss 3 c t (oP (fH 2 b) λj=>oP (ez j h) λk=>oP (fH 2 a) λl=>oP (ez l h) λm=>oP (gD 1 m c) λn=>oP (ez n h) λo=>oP (gD 1 s o) λp=>oP (ez p h) λq=>wU (jt 83 1 1 (V.int .u64 0) [(0,q)]) h λd u e=>((e.get (h.next)=some d/\O.beq d d=true)/\((ez p e=some q)/\((ez n e=some o)/\((ez l e=some m)/\((ez j e=some k)/\fm (fe 83 1 8 k u e) λv w=>(e.next<=w.next/\oP (fH 2 b) λx=>fm (gK 1 x v w) λD B=>(w.next<=B.next/\oP (eo .add 3 c nO) λy=>r [s,z,A,f,g,i,a,b,y] B)))))))) (sk C Q fS [s,z,A,f,g,i,a,b,nZ] h)
theorem Al{C Q fS}(I)(s:S9 I (sx C Q fS)){k l h}(i:I k l h)(e:l.length=9:=by rfl):qT C Q fS l h:=JV.l9 I _ s i e
def qV(C:fu)(Q:fy)(fS:LP)(r:LP)(s G H g a i c b d:V)(h:Hp):Prop:=dG 3 c h λt=>bO .lss 3 d t (oP (fH 3 b) λj=>oP (ez j h) λk=>oP (fH 3 c) λl=>oP (ez l h) λm=>oP (gD 1 m d) λn=>oP (ez n h) λo=>oP (gD 1 s o) λp=>oP (ez p h) λq=>wU (jt 83 1 1 (V.int .u64 0) [(0,q)]) h λe u f=>((f.get (h.next)=some e/\O.beq e e=true)/\((ez p f=some q)/\((ez n f=some o)/\((ez l f=some m)/\((ez j f=some k)/\fm (fe 83 1 8 k u f) λv w=>(f.next<=w.next/\oP (fH 3 b) λx=>fm (gK 1 x v w) λN I=>(w.next<=I.next/\oP (eo .add 3 d nO) λy=>r [s,G,H,g,a,i,c,b,y] I)))))))) (dF 3 a h λz=>oP (gg 4 b h) λA=>ik (jt 106 4 1 (V.agg [nZ,nZ,nS,nS]) [(0,A)]) h λB K=>fm (fe 106 4 64 z B K) λD L=>oP (fH 3 a) λE=>fm (gK 1 E D L) λJ M=>oP (eo .add 3 i nO) λF=>fS [s,G,H,g,a,F] M)
theorem Au{C Q fS}(I)(s:S9 I (qV C Q fS)){k l h}(i:I k l h)(e:l.length=9:=by rfl):sk C Q fS l h:=JV.l9 I _ s i e
def vY(C:fu)(Q:fy)(a0 a1 a2 a3 a4:V)(h:Hp):Prop:=ik (m0 30 a0) h λd e=>ik (zC 76 [nZ,nZ,nZ,nS,nZ]) e λb f=>oP (fV [nZ,nZ,nZ,nS,nZ] [(0,1),(1,1),(2,1),(3,1),(4,1)] [(0,nO),(1,a2),(2,a3),(4,a4)]) λc=>ik (zC 76 [nZ,nZ,nZ,nS,nZ]) f λa g=>fm (gK 5 a c g) λj i=>qL C Q [a1,a2,d,b,a,nZ] i
theorem CY{C}(s:C.start=fR){a0 a1 a2 a3 a4 h Q}(k:C.K iT [a0,a1,a2,a3,a4] h=none)(H:vY C Q a0 a1 a2 a3 a4 h):cP C iT [a0,a1,a2,a3,a4] h Q:=cP.vd t58 s (by unfold P0;exact Tryd.func58) k H
section
variable (C:fu)(Q:X->gB->Hp->Prop)(ρ:gB)(h:Hp)
def k8:=HT Tryd.f8
def zcr:=k8.r
def zcc:=k8.r.r
def zdg:=k8.r.r.r
def zbY:=k8.r.r.r.r
def zc7:=k8.r.r.r.r.l.r
def zcS:=k8.r.r.r.r.r
def zdW:=andThen (Wp C 64 zcS Q) Q
def zbT:=k8.r.r.r.r.l.r.l.r
def zb4:=k8.r.r.r.r.r.r
def zck:=k8.r.r.r.r.r.r.r
theorem e8:jc C 64 k8 Q ρ h=(ik (m0 30 (ρ 0)) h λb c=>
 ik (m0 30 (ρ 1)) c λd e=>
 oP (some (V.bool false)) λa=>
 Wp C 64 zcr Q (fh (fh (fh ρ 6 b) 7 d) 12 a) e):=by kernel_rfl
theorem zdY:jc C 64 zcr Q ρ h=(oP (some (ρ 2)) λa=>
 XS C iE [a] h λb d=>
 oP (some b) λc=>
 Wp C 64 zcc Q (fh (fh (fh ρ 17 a) 18 b) 13 c) d):=by kernel_rfl
theorem zdw:jc C 64 zcc Q ρ h=(oP (some (ρ 2)) λa=>
 XS C iE [a] h λb d=>
 oP (some b) λc=>
 Wp C 64 zdg Q (fh (fh (fh ρ 19 a) 20 b) 14 c) d):=by kernel_rfl
theorem zdU:jc C 64 zdg Q ρ h=(oP (gg 5 (ρ 6) h) λa=>
 oP (some (ρ 13)) λb=>
 oP (some (ρ 3)) λc=>
 oP (some (ρ 4)) λd=>
 oP (some (ρ 5)) λe=>
 XS C jx [a,b,c,d,e] h λf i=>
 ik (some (.cells 76 1 true false [(V.I 0),(V.I 0),(V.I 0),V.ee,(V.I 0)],λl=> .ptr l 0)) i λg j=>
 fm (gK 5 g f j) λm k=>
 Wp C 64 zbY Q (fh (fh (fh (fh (fh (fh (fh ρ 21 a) 22 b) 23 c) 24 d) 25 e) 26 f) 15 g) k):=by kernel_rfl
theorem zdF:jc C 64 zbY Q ρ h=(oP (fH 0 (ρ 15)) λa=>
 oP (ez a h) λb=>
 oP (eo .neq 3 b (V.I 1)) λc=>
 Wp C 64 zc7 (zdW C Q) (fh (fh (fh ρ 27 a) 28 b) 29 c) h):=by kernel_rfl
theorem zdO:jc C 64 zcS Q ρ h=(oP (gg 5 (ρ 7) h) λa=>
 oP (some (ρ 14)) λb=>
 oP (some (ρ 3)) λc=>
 oP (some (ρ 4)) λd=>
 oP (some (ρ 5)) λe=>
 XS C jx [a,b,c,d,e] h λf i=>
 ik (some (.cells 76 1 true false [(V.I 0),(V.I 0),(V.I 0),V.ee,(V.I 0)],λl=> .ptr l 0)) i λg j=>
 fm (gK 5 g f j) λm k=>
 Wp C 64 zb4 Q (fh (fh (fh (fh (fh (fh (fh ρ 30 a) 31 b) 32 c) 33 d) 34 e) 35 f) 16 g) k):=by kernel_rfl
theorem zdI:jc C 64 zc7 Q ρ h=(oP (some (ρ 29)) λc=>
 bP c (
 oP (some (V.bool true)) λa=>
 Wp C 64 zbT Q (fh ρ 12 a) h) (
 Q .normal ρ h)):=by kernel_rfl
theorem zdC:jc C 64 zb4 Q ρ h=(oP (fH 0 (ρ 16)) λd=>
 oP (ez d h) λe=>
 oP (eo .eql 3 e (V.I 1)) λf=>
 oP (some f) λb=>
 oP (fx true b) λY=>
 oP (gV Y (fH 4 (ρ 16))) λg=>
 oP (fx true b) λZ=>
 oP (gV Z (ez g h)) λi=>
 oP (fx true b) λb6=>
 oP (gV b6 (fH 4 (ρ 15))) λj=>
 oP (fx true b) λb7=>
 oP (gV b7 (ez j h)) λk=>
 oP (fx true b) λb8=>
 oP (gV b8 (eo .leq 3 i k)) λl=>
 oP (iO b l (V.bool false)) λm=>
 oP (some m) λc=>
 oP (fx true c) λF=>
 oP (gV F (fH 3 (ρ 15))) λn=>
 oP (fx true c) λG=>
 oP (gV G (ez n h)) λx=>
 oP (fx true c) λH=>
 oP (gV H (fH 3 (ρ 16))) λo=>
 oP (fx true c) λI=>
 oP (gV I (ez o h)) λy=>
 ((gT I (ez o h=some y))/\
 ((gT H (fH 3 (ρ 16)=some o))/\
 ((gT G (ez n h=some x))/\
 ((gT F (fH 3 (ρ 15)=some n))/\
 ((some m=some c)/\
 ((iO b l (V.bool false)=some m)/\
 ((gT b8 (eo .leq 3 i k=some l))/\
 ((gT b7 (ez j h=some k))/\
 ((gT b6 (fH 4 (ρ 15)=some j))/\
 ((gT Z (ez g h=some i))/\
 ((gT Y (fH 4 (ρ 16)=some g))/\
 ((some f=some b)/\
 ((eo .eql 3 e (V.I 1)=some f)/\
 ((ez d h=some e)/\
 ((fH 0 (ρ 16)=some d)/\
 oP (fx true c) λT=>
 oP (gC T (some (jf,[x,y]))) λU=>qB C U h λz A=>
 (h.next<=A.next/\
 oP (iO c z (V.bool false)) λp=>
 oP (some p) λa=>
 oP (fx true a) λJ=>
 oP (gV J (some (ρ 13))) λq=>
 oP (fx true a) λK=>
 oP (gV K (ij q)) λr=>
 oP (fx true a) λL=>
 oP (gV L (fH 1 r)) λs=>
 oP (fx true a) λM=>
 oP (gV M (ez s A)) λB=>
 oP (fx true a) λN=>
 oP (gV N (some (ρ 14))) λt=>
 oP (fx true a) λO=>
 oP (gV O (ij t)) λu=>
 oP (fx true a) λP=>
 oP (gV P (fH 1 u)) λv=>
 oP (fx true a) λR=>
 oP (gV R (ez v A)) λD=>
 ((gT R (ez v A=some D))/\
 ((gT P (fH 1 u=some v))/\
 ((gT O (ij t=some u))/\
 ((gT N (some (ρ 14)=some t))/\
 ((gT M (ez s A=some B))/\
 ((gT L (fH 1 r=some s))/\
 ((gT K (ij q=some r))/\
 ((gT J (some (ρ 13)=some q))/\
 ((some p=some a)/\
 ((iO c z (V.bool false)=some p)/\
 oP (fx true a) λW=>
 oP (gC W (some (jC,[B,D]))) λX=>qB C X A λE h2=>
 (A.next<=h2.next/\
 oP (iO a E (V.bool false)) λw=>
 oP (some w) λS=>
 ((some w=some S)/\
 ((iO a E (V.bool false)=some w)/\
 Wp C 64 zck Q (fh (fh (fh (fh (fh (fh (fh (fh (fh (fh (fh (fh (fh (fh (fh (fh (fh (fh (fh (fh (fh (fh (fh (fh (fh (fh (fh (fh (fh ρ 36 d) 37 e) 38 f) 39 b) 40 g) 41 i) 42 j) 43 k) 44 l) 45 m) 46 c) 47 n) 48 x) 49 o) 50 y) 51 z) 52 p) 53 a) 54 q) 55 r) 56 s) 57 B) 58 t) 59 u) 60 v) 61 D) 62 E) 63 w) 12 S) h2)))))))))))))))))))))))))))))):=by kernel_rfl
theorem zd5:jc C 64 zck Q ρ h=(Q .ret ρ h):=by kernel_rfl
theorem zdK:jc C 64 zbT Q ρ h=(Q .ret ρ h):=by kernel_rfl
theorem g8{C:fu}(hs:C.start=fR)(a0 a1 a2 a3 a4 a:V){h:Hp}{Q:fy}(b:C.K ju [a0,a1,a2,a3,a4,a] h=none)(H:jc C 64 k8 (EJ [.tmp 12] Q) (IV [a0,a1,a2,a3,a4,a]) h):cP C ju [a0,a1,a2,a3,a4,a] h Q:=
 cP.T6 hs (show P0.funcs[8]? =some Tryd.f8 by unfold P0;exact Tryd.func8) (by kernel_rfl) (by kernel_rfl) (by kernel_rfl) b (Iu rfl) (Wp.code _ H)
def qa(C:fu)(Q:fy)(a0 a1 a2 a3 a4 a5:V)(h:Hp):Prop:=ik (m0 30 a0) h λv6 h1=>ik (m0 30 a1) h1 λv7 h2=>cP C iE [a2] h2 λi h3=>cP C iE [a2] h3 λj h4=>oP (gg 5 v6 h4) λm=>cP C jx [m,i,a3,a4,a5] h4 λn h5=>ik (zC 76 [nZ,nZ,nZ,nS,nZ]) h5 λf h6=>fm (gK 5 f n h6) λvu l=>oP (fH 0 f) λo=>oP (ez o l) λp=>oP (eo .neq 3 p nO) λq=>bP q (Q bT l) (oP (gg 5 v7 l) λr=>cP C jx [r,j,a3,a4,a5] l λs h8=>ik (zC 76 [nZ,nZ,nZ,nS,nZ]) h8 λg h9=>fm (gK 5 g s h9) λaj b=>oP (fH 0 g) λt=>oP (ez t b) λu=>oP (eo .eql 3 u nO) λd=>oP (fx true d) λb4=>oP (gV b4 (fH 4 g)) λv=>oP (fx true d) λb5=>oP (gV b5 (ez v b)) λw=>oP (fx true d) λb6=>oP (gV b6 (fH 4 f)) λx=>oP (fx true d) λb7=>oP (gV b7 (ez x b)) λy=>oP (jZ d (eo .leq 3 w y)) λc=>oP (fx true c) λz=>oP (gV z (fH 3 f)) λA=>oP (fx true c) λB=>oP (gV B (ez A b)) λD=>oP (fx true c) λE=>oP (gV E (fH 3 g)) λF=>oP (fx true c) λG=>oP (gV G (ez F b)) λH=>oP (fx true c) λI=>oP (gC I (some (jf,[D,H]))) λJ=>qB C J b λK e=>(b.next<=e.next/\oP (iO c K bF) λa=>oP (fx true a) λL=>oP (gV L (some i)) λM=>oP (fx true a) λN=>oP (gV N (ij M)) λO=>oP (fx true a) λP=>oP (gV P (fH 1 O)) λR=>oP (fx true a) λS=>oP (gV S (ez R e)) λT=>oP (fx true a) λU=>oP (gV U (some j)) λW=>oP (fx true a) λX=>oP (gV X (ij W)) λY=>oP (fx true a) λZ=>oP (gV Z (fH 1 Y)) λaa=>oP (fx true a) λab=>oP (gV ab (ez aa e)) λac=>oP (fx true a) λae=>oP (gC ae (some (jC,[T,ac]))) λag=>qB C ag e λah k=>(e.next<=k.next/\oP (iO a ah bF) λai=>Q ai k)))
theorem Fg{C:fu}(hs:C.start=fR){a0 a1 a2 a3 a4 y:V}{h:Hp}{Q:fy}(B:C.K ju [a0,a1,a2,a3,a4,y] h=none)(H:qa C Q a0 a1 a2 a3 a4 y h):cP C ju [a0,a1,a2,a3,a4,y] h Q:=by
 unfold qa at H;exact g8 hs _ _ _ _ _ _ B ((e8 _ _ _ _).mpr (alM H λv6 h1 H=>alM H λv7 h2 H=>rE (Wp.of (zdY _ _ _ _) (rE (YS H λD h3 H=>rE (Wp.of (zdw _ _ _ _) (rE (YS H λE h4 H=>rE (Wp.of (zdU _ _ _ _) (oM H λF _ H=>rE (rE (rE (rE (YS H λG h5 H=>alM H λI h6 H=>Wc H λvu h7 H=>Wp.of (zdF _ _ _ _) (oM H λJ _ H=>oM H λL _ H=>oM H λM _ H=>Wp.of (zdI _ _ _ _) (rE (bM H (λH=>rE (Wp.of (zdK _ _ _ _) (H))) (λH=>Wp.of (zdO _ _ _ _) (oM H λN _ H=>rE (rE (rE (rE (YS H λO h8 H=>alM H λP h9 H=>Wc H λz R H=>Wp.of (zdC _ _ _ _) (oM H λS a H=>oM H λT b H=>oM H λU c H=>rE (oM H λb4 _ H=>oM H λW d H=>oM H λb5 _ H=>oM H λX e H=>oM H λb6 _ H=>oM H λY f H=>oM H λb7 _ H=>oM H λZ g H=>X3 (FE H) λH=>oM H λb8 A H=>oM H λaa i H=>oM H λab j H=>rE (oM H λac _ H=>oM H λae k H=>oM H λag _ H=>oM H λah l H=>oM H λai _ H=>oM H λaj m H=>oM H λak _ H=>oM H λal n H=>⟨(gz n),⟨(gz m),⟨(gz l),⟨(gz k),⟨rfl,⟨j,⟨(gz i),⟨(gz g),⟨(gz f),⟨(gz e),⟨(gz d),⟨rfl,⟨c,⟨b,⟨a,oM H λam _ H=>oM H λan _ H=>Tf H λao ap H=>Nh H λH=>oM H λaq o H=>rE (oM H λar _ H=>oM H λau p H=>oM H λaw _ H=>oM H λax q H=>oM H λay _ H=>oM H λaA r H=>oM H λaB _ H=>oM H λaC s H=>oM H λaD _ H=>oM H λaE t H=>oM H λaF _ H=>oM H λaG u H=>oM H λaH _ H=>oM H λaI v H=>oM H λaJ _ H=>oM H λaK w H=>⟨(gz w),⟨(gz v),⟨(gz u),⟨(gz t),⟨(gz s),⟨(gz r),⟨(gz q),⟨(gz p),⟨rfl,⟨o,oM H λaL _ H=>oM H λaM _ H=>Tf H λaN aO H=>Nh H λH=>oM H λaP x H=>rE (⟨rfl,⟨x,Wp.of (zd5 _ _ _ _) (H)⟩⟩)⟩⟩⟩⟩⟩⟩⟩⟩⟩⟩)⟩⟩⟩⟩⟩⟩⟩⟩⟩⟩⟩⟩⟩⟩⟩))))))))))))))))))))))))))
end
def t9:List (Nat×List Nat):=[(87,[0,3,4]),(23703,[0,3,4,5,6,7,8])]
def pY(C:fu)(Q:fy):LP:=JV C Tryd.f9 t9 43 [0,3,4] [] Q
def qb(C:fu)(Q:fy)(fS:LP):LP:=JV C Tryd.f9 t9 11851 [0,3,4,5,6,7,8] [kf [0,3,4] fS] Q
def pU(C:fu)(Q:fy)(fS:LP)(d e a:V)(h:Hp):Prop:=oP (fF d) λf=>oP (eo .lss 3 a f) λg=>oP (jZ g (oB (some a) λi=>eo .lss 3 i (V.I 8))) λj=>bP j (oP (gD 1 d a) λk=>oP (ez k h) λl=>oP (eo .rem 83 l (V.int .u64 5)) λm=>oP (tn .i64 m) λb=>oP (gD 1 d a) λn=>oP (ez n h) λo=>oP (eo .rem 83 o (V.int .u64 3)) λp=>oP (tn .i64 p) λq=>oP (eo .add 3 (V.I 5) q) λr=>cP C j4 [e,r,b] h λc u=>oP (Hk 0 c) λs=>oP (Hk 1 c) λt=>qb C Q fS [d,e,a,b,s,t,nZ] u) (Q e h)
theorem zJ{C Q}(I)(s:S3 I (pU C Q)){k l h}(i:I k l h)(e:l.length=3:=by rfl):pY C Q l h:=JV.l3 I _ s i e
def p8(C:fu)(Q:fy)(fS:LP)(b:LP)(c d e q r s a:V)(h:Hp):Prop:=oP (jZ s (oB (some a) λf=>oB (some q) λg=>eo .lss 3 f g)) λi=>bP i (oP (gD 1 c e) λj=>oP (ez j h) λk=>oP (eo .mul 3 a (V.I 9)) λl=>oP (tn .u64 l) λm=>oP (eo .shr 83 k m) λn=>cP C kU [d,r,a,n] h λt u=>oP (eo .add 3 a nO) λo=>b [c,d,e,q,r,s,o] u) (oP (eo .add 3 e nO) λp=>fS [c,d,p] h)
theorem Af{C Q fS}(I)(s:S7 I (p8 C Q fS)){k l h}(i:I k l h)(e:l.length=7:=by rfl):qb C Q fS l h:=JV.l7 I _ s i e
def uF(C:fu)(Q:fy)(a0:V)(h:Hp):Prop:=cP C lL [(V.I 100)] h λa b=>pY C Q [a0,a,nZ] b
theorem BZ{C}(s:C.start=fR){a0 h Q}(k:C.K jT [a0] h=none)(H:uF C Q a0 h):cP C jT [a0] h Q:=cP.vd t9 s (by unfold P0;exact Tryd.func9) k H
def t10:List (Nat×List Nat):=[(87,[0,3,4])]
def rH(C:fu)(Q:fy):LP:=JV C Tryd.f10 t10 43 [0,3,4] [] Q
def qM(C:fu)(Q:fy)(fS:LP)(b k a:V)(h:Hp):Prop:=oP (fF b) λl=>oP (eo .lss 3 a l) λm=>oP (jZ m (oB (some a) λc=>eo .lss 3 c (V.I 6))) λd=>bP d (oP (gD 1 b a) λe=>oP (ez e h) λf=>ik (jt 83 1 1 (V.int .u64 0) [(0,f)]) h λg n=>fm (fe 83 1 8 k g n) λi o=>oP (eo .add 3 a nO) λj=>fS [b,i,j] o) (Q k h)
theorem AQ{C Q}(I)(s:S3 I (qM C Q)){k l h}(i:I k l h)(e:l.length=3:=by rfl):rH C Q l h:=JV.l3 I _ s i e
def vH(C:fu)(Q:fy)(a0:V)(h:Hp):Prop:=rH C Q [a0,nS,nZ] h
theorem Di{C}(s:C.start=fR){a0 h Q}(k:C.K j5 [a0] h=none)(H:vH C Q a0 h):cP C j5 [a0] h Q:=cP.vd t10 s (by unfold P0;exact Tryd.func10) k H
def t35:List (Nat×List Nat):=[(87,[0,1,5])]
def o0(C:fu)(Q:fy):LP:=JV C Tryd.f35 t35 43 [0,1,5] [] Q
def pd(C:fu)(Q:fy)(fS:LP)(b l a:V)(h:Hp):Prop:=oP (fF b) λc=>oP (eo .lss 3 a c) λd=>bP d (oP (gD 1 b a) λe=>oP (ez e h) λf=>oP (gD 1 l a) λg=>oP (ez g h) λi=>oP (eo .neq 83 f i) λj=>bP j (Q bF h) (oP (eo .add 3 a nO) λk=>fS [b,l,k] h)) (Q bT h)
theorem yp{C Q}(I)(s:S3 I (pd C Q)){k l h}(i:I k l h)(e:l.length=3:=by rfl):o0 C Q l h:=JV.l3 I _ s i e
def rX(C:fu)(Q:fy)(a0 a1:V)(h:Hp):Prop:=oP (fF a0) λb=>oP (fF a1) λc=>oP (eo .neq 3 b c) λa=>bP a (Q bF h) (o0 C Q [a0,a1,nZ] h)
theorem Ap{C}(s:C.start=fR){a0 a1 h Q}(k:C.K jC [a0,a1] h=none)(H:rX C Q a0 a1 h):cP C jC [a0,a1] h Q:=cP.vd t35 s (by unfold P0;exact Tryd.func35) k H
def t32:List (Nat×List Nat):=[]
def qZ(C:fu)(Q:fy)(a0:V)(h:Hp):Prop:=oP (ij a0) λm=>oP (fH 0 m) λc=>oP (ez c h) λd=>wU (jt 83 1 0 (V.int .u64 0) []) h λe n b=>dN 1 a0 b λf=>((b.get (h.next)=some e/\O.beq e e=true)/\((ez c b=some d)/\fm (fe 83 1 8 n f b) λg i=>(b.next<=i.next/\oP (fV [nZ,nS] [(0,1),(1,1)] [(0,d),(1,g)]) λj=>wU (m0 81 j) i λa k l=>((l.get (i.next)=some a/\O.beq a a=true)/\((ez c l=some d)/\Q k l)))))
theorem Ai{C}(s:C.start=fR){a0 h Q}(k:C.K iE [a0] h=none)(H:qZ C Q a0 h):cP C iE [a0] h Q:=cP.vd t32 s (by unfold P0;exact Tryd.func32) k H
def t36:List (Nat×List Nat):=[]
def tZ(C:fu)(Q:fy)(a0:V)(h:Hp):Prop:=ik (jt 83 1 1 (V.int .u64 0) [(0,(V.int .u64 0))]) h λa b=>oP (fV [nZ,nS] [(0,1),(1,1)] [(0,a0),(1,a)]) λc=>ik (m0 81 c) b λd e=>Q d e
theorem Cq{C}(s:C.start=fR){a0 h Q}(k:C.K lL [a0] h=none)(H:tZ C Q a0 h):cP C lL [a0] h Q:=cP.vd t36 s (by unfold P0;exact Tryd.func36) k H
def t37:List (Nat×List Nat):=[(351,[0,2,8,9])]
def oH(C:fu)(Q:fy):LP:=JV C Tryd.f37 t37 175 [0,2,8,9] [] Q
def oI(C:fu)(Q:fy)(fS:LP)(a i j k:V)(h:Hp):Prop:=bO .lss 3 k i (dN 1 a h λb=>ik (jt 83 1 1 (V.int .u64 0) [(0,(V.int .u64 0))]) h λc l=>fm (fe 83 1 8 b c l) λd m=>oP (ij a) λe=>oP (fH 1 e) λf=>fm (gK 1 f d m) λo n=>oP (eo .add 3 k nO) λg=>fS [a,i,j,g] n) (Q (V.tuple [j,bT]) h)
theorem yk{C Q}(I)(s:S4 I (oI C Q)){k l h}(i:I k l h)(e:l.length=4:=by rfl):oH C Q l h:=JV.l4 I _ s i e
def qp(C:fu)(Q:fy)(a0 a1 a2:V)(h:Hp):Prop:=oP (eo .lss 3 a1 nZ) λa=>oP (oD a (oB (some a1) λb=>eo .gtr 3 b (V.I 1048576))) λc=>oP (oD c (oB (some a2) λd=>eo .lss 3 d nZ)) λe=>oP (oD e (oB (some a2) λf=>eo .gtr 3 f (V.I 1048576))) λg=>oP (oD g (oB (some a2) λi=>oB (eo .add 3 i nO) λj=>oB (some a0) λk=>oB (ij k) λl=>oB (fH 0 l) λm=>oB (ez m h) λn=>oB (some a0) λo=>oB (ij o) λp=>oB (fH 1 p) λq=>oB (ez q h) λr=>oB (fF r) λs=>oB (eo .sub 3 n s) λt=>eo .gtr 3 j t)) λu=>bP u (Q (V.tuple [(V.int .u64 0),bF]) h) (oP (ij a0) λv=>dG 1 v h λw=>oP (tn .u64 w) λx=>dN 1 a0 h λy=>oP (tn .u64 a1) λz=>oP (eo .shl 83 z (V.int .u64 32)) λA=>oP (tn .u64 a2) λB=>oP (eo .add 83 A B) λD=>ik (jt 83 1 1 (V.int .u64 0) [(0,D)]) h λE I=>fm (fe 83 1 8 y E I) λF J=>oP (ij a0) λG=>oP (fH 1 G) λH=>fm (gK 1 H F J) λL K=>oH C Q [a0,a2,x,nZ] K)
theorem z6{C}(s:C.start=fR){a0 a1 a2 h Q}(k:C.K j4 [a0,a1,a2] h=none)(H:qp C Q a0 a1 a2 h):cP C j4 [a0,a1,a2] h Q:=cP.vd t37 s (by unfold P0;exact Tryd.func37) k H
def t38:List (Nat×List Nat):=[]
def te(C:fu)(Q:fy)(a0 a1 a2 a3:V)(h:Hp):Prop:=oP (eo .eql 83 a1 (V.int .u64 0)) λb=>oP (oD b (oB (some a2) λc=>eo .lss 3 c nZ)) λa=>oP (fx false a) λq=>oP (gV q (some a2)) λd=>oP (fx false a) λr=>oP (gV r (some a0)) λe=>oP (fx false a) λs=>oP (gV s (some a1)) λf=>oP (fx false a) λg=>oP (gC g (some (jJ,[e,f]))) λi=>qB C i h λj p=>oP (oD a (eo .geq 3 d j)) λk=>bP k (Q bF p) (oP (eo .add 83 a1 (V.int .u64 1)) λl=>oP (tn .u64 a2) λm=>oP (eo .add 83 l m) λn=>cP C iX [a0,n,a3] p λo t=>Q o t)
theorem Bq{C}(s:C.start=fR){a0 a1 a2 a3 h Q}(k:C.K kU [a0,a1,a2,a3] h=none)(H:te C Q a0 a1 a2 a3 h):cP C kU [a0,a1,a2,a3] h Q:=cP.vd t38 s (by unfold P0;exact Tryd.func38) k H
def t54:List (Nat×List Nat):=[]
def qN(C:fu)(Q:fy)(a0 a1:V)(h:Hp):Prop:=cP C iD [a0,a1] h λa b=>oP (eo .shr 83 a (V.int .u64 32)) λc=>oP (tn .i64 c) λd=>Q d b
theorem Az{C}(s:C.start=fR){a0 a1 h Q}(k:C.K kI [a0,a1] h=none)(H:qN C Q a0 a1 h):cP C kI [a0,a1] h Q:=cP.vd t54 s (by unfold P0;exact Tryd.func54) k H
def t55:List (Nat×List Nat):=[]
def tm(C:fu)(Q:fy)(a0 a1:V)(h:Hp):Prop:=cP C iD [a0,a1] h λa b=>oP (eo .rem 83 a (V.int .u64 4294967296)) λc=>oP (tn .i64 c) λd=>Q d b
theorem Bj{C}(s:C.start=fR){a0 a1 h Q}(k:C.K jJ [a0,a1] h=none)(H:tm C Q a0 a1 h):cP C jJ [a0,a1] h Q:=cP.vd t55 s (by unfold P0;exact Tryd.func55) k H
def t56:List (Nat×List Nat):=[]
def rh(C:fu)(Q:fy)(a0 a1:V)(h:Hp):Prop:=oP (ij a0) λe=>dG 1 e h λa=>oP (tn .u64 a) λb=>bO .geq 83 a1 b (Q (V.int .u64 0) h) (dN 1 a0 h λc=>dX 1 c a1 h λd=>Q d h)
theorem AB{C}(s:C.start=fR){a0 a1 h Q}(k:C.K iD [a0,a1] h=none)(H:rh C Q a0 a1 h):cP C iD [a0,a1] h Q:=cP.vd t56 s (by unfold P0;exact Tryd.func56) k H
def t57:List (Nat×List Nat):=[]
def sX(C:fu)(Q:fy)(a0 a1 a2:V)(h:Hp):Prop:=oP (eo .eql 83 a1 (V.int .u64 0)) λl=>oP (oD l (oB (some a1) λa=>oB (some a0) λb=>oB (ij b) λc=>oB (fH 1 c) λd=>oB (ez d h) λe=>oB (fF e) λf=>oB (tn .u64 f) λg=>eo .geq 83 a g)) λi=>bP i (Q bF h) (dN 1 a0 h λj=>oP (gD 1 j a1) λk=>fm (gK 1 k a2 h) λn m=>Q bT m)
theorem Bh{C}(s:C.start=fR){a0 a1 a2 h Q}(k:C.K iX [a0,a1,a2] h=none)(H:sX C Q a0 a1 a2 h):cP C iX [a0,a1,a2] h Q:=cP.vd t57 s (by unfold P0;exact Tryd.func57) k H
section
variable (C:fu)(Q:X->gB->Hp->Prop)(ρ:gB)(h:Hp)
def RT:=HT Tryd.f34
def zav:=RT.r
def zaf:=RT.r.l.r
def zaw:=RT.r.r
def zc8:=andThen (Wp C 69 zaw Q) Q
def ZX:=RT.r.l.r.l.r
def zao:=RT.r.r.l.r
def Z3:=RT.r.r.r
def zaB:=andThen (Wp C 69 Z3 Q) Q
def Xm:=RT.r.r.l.r.l.l
def zc2(C:fu)(Q:XQ):XQ:=vX 0 Q
def zaD:=RT.r.r.r.r
def zak:=RT.r.r.l.r.l.l.l.r
def Z8:=RT.r.r.l.r.l.l.r
def zco:=andThen (Wp C 69 Z8 Q) Q
def zan:=RT.r.r.l.r.l.l.r.l.l.r
def Xw:=RT.r.r.l.r.l.l.r.r
def zcx:=andThen (Wp C 69 Xw Q) Q
def zcX:=vX 1 (zcx C Q)
def WZ:=RT.r.r.l.r.l.l.r.l.l.r.l.r
def zb9:=vX 0 (zaB C Q)
theorem e34:jc C 69 RT Q ρ h=(oP (some (V.bool false)) λa=>
 Wp C 69 zav Q (fh ρ 4 a) h):=by kernel_rfl
theorem zde:jc C 69 zav Q ρ h=(oP (some (ρ 0)) λb=>
 oP (fF b) λc=>
 oP (some (ρ 1)) λd=>
 oP (fF d) λe=>
 oP (eo .neq 3 c e) λa=>
 Wp C 69 zaf (zc8 C Q) (fh (fh (fh (fh (fh ρ 6 b) 7 c) 8 d) 9 e) 10 a) h):=by kernel_rfl
theorem zb6:jc C 69 zaw Q ρ h=(oP (some (V.I 0)) λa=>
 Wp C 69 zao (zaB C Q) (fh ρ 5 a) h):=by kernel_rfl
theorem zcT:jc C 69 zaf Q ρ h=(oP (some (ρ 10)) λc=>
 bP c (
 oP (some (V.bool false)) λa=>
 Wp C 69 ZX Q (fh ρ 4 a) h) (
 Q .normal ρ h)):=by kernel_rfl
theorem zch:jc C 69 Z3 Q ρ h=(oP (some (V.bool true)) λa=>
 Wp C 69 zaD Q (fh ρ 4 a) h):=by kernel_rfl
theorem zda:jc C 69 zao Q ρ h=(Wp C 69 (.loop Xm) (zc2 C Q) ρ h):=by kernel_rfl
theorem zbV:jc C 69 zaD Q ρ h=(Q .ret ρ h):=by kernel_rfl
theorem zcJ:jc C 69 ZX Q ρ h=(Q .ret ρ h):=by kernel_rfl
theorem zb1:jc C 69 Xm Q ρ h=(oP (some (ρ 5)) λa=>
 oP (some (ρ 0)) λb=>
 oP (fF b) λc=>
 oP (eo .lss 3 a c) λd=>
 Wp C 69 zak (zco C Q) (fh (fh (fh (fh ρ 11 a) 12 b) 13 c) 14 d) h):=by kernel_rfl
theorem zcG:jc C 69 Z8 Q ρ h=(oP (some (ρ 0)) λd=>
 oP (some (ρ 5)) λe=>
 oP (gD 4 d e) λf=>
 oP (fH 0 f) λg=>
 oP (ez g h) λi=>
 oP (some (ρ 1)) λj=>
 oP (some (ρ 5)) λk=>
 oP (gD 4 j k) λl=>
 oP (fH 0 l) λm=>
 oP (ez m h) λn=>
 oP (eo .neq 3 i n) λo=>
 oP (some o) λc=>
 oP (fx false c) λae=>
 oP (gV ae (some (ρ 0))) λp=>
 oP (fx false c) λag=>
 oP (gV ag (some (ρ 5))) λq=>
 oP (fx false c) λah=>
 oP (gV ah (gD 4 p q)) λr=>
 oP (fx false c) λai=>
 oP (gV ai (fH 1 r)) λs=>
 oP (fx false c) λaj=>
 oP (gV aj (ez s h)) λt=>
 oP (fx false c) λak=>
 oP (gV ak (some (ρ 1))) λu=>
 oP (fx false c) λal=>
 oP (gV al (some (ρ 5))) λv=>
 oP (fx false c) λam=>
 oP (gV am (gD 4 u v)) λw=>
 oP (fx false c) λan=>
 oP (gV an (fH 1 w)) λx=>
 oP (fx false c) λao=>
 oP (gV ao (ez x h)) λy=>
 oP (fx false c) λap=>
 oP (gV ap (eo .neq 3 t y)) λz=>
 oP (iO c (V.bool true) z) λA=>
 oP (some A) λa=>
 oP (fx false a) λaq=>
 oP (gV aq (some (ρ 0))) λB=>
 oP (fx false a) λar=>
 oP (gV ar (some (ρ 5))) λD=>
 oP (fx false a) λau=>
 oP (gV au (gD 4 B D)) λE=>
 oP (fx false a) λaw=>
 oP (gV aw (fH 2 E)) λF=>
 oP (fx false a) λax=>
 oP (gV ax (ez F h)) λX=>
 oP (fx false a) λay=>
 oP (gV ay (some (ρ 1))) λG=>
 oP (fx false a) λaA=>
 oP (gV aA (some (ρ 5))) λH=>
 oP (fx false a) λaB=>
 oP (gV aB (gD 4 G H)) λI=>
 oP (fx false a) λaC=>
 oP (gV aC (fH 2 I)) λJ=>
 oP (fx false a) λaD=>
 oP (gV aD (ez J h)) λY=>
 ((gT aD (ez J h=some Y))/\
 ((gT aC (fH 2 I=some J))/\
 ((gT aB (gD 4 G H=some I))/\
 ((gT aA (some (ρ 5)=some H))/\
 ((gT ay (some (ρ 1)=some G))/\
 ((gT ax (ez F h=some X))/\
 ((gT aw (fH 2 E=some F))/\
 ((gT au (gD 4 B D=some E))/\
 ((gT ar (some (ρ 5)=some D))/\
 ((gT aq (some (ρ 0)=some B))/\
 ((some A=some a)/\
 ((iO c (V.bool true) z=some A)/\
 ((gT ap (eo .neq 3 t y=some z))/\
 ((gT ao (ez x h=some y))/\
 ((gT an (fH 1 w=some x))/\
 ((gT am (gD 4 u v=some w))/\
 ((gT al (some (ρ 5)=some v))/\
 ((gT ak (some (ρ 1)=some u))/\
 ((gT aj (ez s h=some t))/\
 ((gT ai (fH 1 r=some s))/\
 ((gT ah (gD 4 p q=some r))/\
 ((gT ag (some (ρ 5)=some q))/\
 ((gT ae (some (ρ 0)=some p))/\
 ((some o=some c)/\
 ((eo .neq 3 i n=some o)/\
 ((ez m h=some n)/\
 ((fH 0 l=some m)/\
 ((gD 4 j k=some l)/\
 ((some (ρ 5)=some k)/\
 ((some (ρ 1)=some j)/\
 ((ez g h=some i)/\
 ((fH 0 f=some g)/\
 ((gD 4 d e=some f)/\
 ((some (ρ 5)=some e)/\
 ((some (ρ 0)=some d)/\
 oP (fx false a) λaR=>
 oP (gC aR (some (iU,[X,Y]))) λaS=>qB C aS h λZ h1=>
 (h.next<=h1.next/\
 oP (fx false a) λaE=>
 oP (gV aE (qz .not Z)) λK=>
 oP (iO a (V.bool true) K) λL=>
 oP (some L) λb=>
 oP (fx false b) λaF=>
 oP (gV aF (some (ρ 0))) λM=>
 oP (fx false b) λaG=>
 oP (gV aG (some (ρ 5))) λN=>
 oP (fx false b) λaH=>
 oP (gV aH (gD 4 M N)) λO=>
 oP (fx false b) λaI=>
 oP (gV aI (fH 3 O)) λP=>
 oP (fx false b) λaJ=>
 oP (gV aJ (ez P h1)) λaa=>
 oP (fx false b) λaK=>
 oP (gV aK (some (ρ 1))) λR=>
 oP (fx false b) λaL=>
 oP (gV aL (some (ρ 5))) λS=>
 oP (fx false b) λaM=>
 oP (gV aM (gD 4 R S)) λT=>
 oP (fx false b) λaN=>
 oP (gV aN (fH 3 T)) λU=>
 oP (fx false b) λaO=>
 oP (gV aO (ez U h1)) λab=>
 ((gT aO (ez U h1=some ab))/\
 ((gT aN (fH 3 T=some U))/\
 ((gT aM (gD 4 R S=some T))/\
 ((gT aL (some (ρ 5)=some S))/\
 ((gT aK (some (ρ 1)=some R))/\
 ((gT aJ (ez P h1=some aa))/\
 ((gT aI (fH 3 O=some P))/\
 ((gT aH (gD 4 M N=some O))/\
 ((gT aG (some (ρ 5)=some N))/\
 ((gT aF (some (ρ 0)=some M))/\
 ((some L=some b)/\
 ((iO a (V.bool true) K=some L)/\
 ((gT aE (qz .not Z=some K))/\
 oP (fx false b) λaT=>
 oP (gC aT (some (iU,[aa,ab]))) λaU=>qB C aU h1 λac h2=>
 (h1.next<=h2.next/\
 oP (fx false b) λaP=>
 oP (gV aP (qz .not ac)) λW=>
 oP (iO b (V.bool true) W) λaQ=>
 ((iO b (V.bool true) W=some aQ)/\
 ((gT aP (qz .not ac=some W))/\
 Wp C 69 zan (zcX C Q) (fh (fh (fh (fh (fh (fh (fh (fh (fh (fh (fh (fh (fh (fh (fh (fh (fh (fh (fh (fh (fh (fh (fh (fh (fh (fh (fh (fh (fh (fh (fh (fh (fh (fh (fh (fh (fh (fh (fh (fh (fh (fh (fh (fh (fh (fh (fh (fh (fh (fh (fh (fh ρ 17 d) 18 e) 19 f) 20 g) 21 i) 22 j) 23 k) 24 l) 25 m) 26 n) 27 o) 28 c) 29 p) 30 q) 31 r) 32 s) 33 t) 34 u) 35 v) 36 w) 37 x) 38 y) 39 z) 40 A) 41 a) 42 B) 43 D) 44 E) 45 F) 46 X) 47 G) 48 H) 49 I) 50 J) 51 Y) 52 Z) 53 K) 54 L) 55 b) 56 M) 57 N) 58 O) 59 P) 60 aa) 61 R) 62 S) 63 T) 64 U) 65 ab) 66 ac) 67 W) 68 aQ) h2))))))))))))))))))))))))))))))))))))))))))))))))))))):=by kernel_rfl
theorem zcl:jc C 69 zak Q ρ h=(oP (some (ρ 14)) λc=>
 bP c (
 Q .normal ρ h) (
 Q (.exit 0) ρ h)):=by kernel_rfl
theorem za0:jc C 69 Xw Q ρ h=(oP (some (ρ 5)) λa=>
 oP (eo .add 3 a (V.I 1)) λb=>
 oP (some b) λc=>
 Q .normal (fh (fh (fh ρ 15 a) 16 b) 5 c) h):=by kernel_rfl
theorem zcF:jc C 69 zan Q ρ h=(oP (some (ρ 68)) λc=>
 bP c (
 oP (some (V.bool false)) λa=>
 Wp C 69 WZ Q (fh ρ 4 a) h) (
 Q .normal ρ h)):=by kernel_rfl
theorem zaF:jc C 69 WZ Q ρ h=(Q .ret ρ h):=by kernel_rfl
theorem g34{C:fu}(hs:C.start=fR)(a0 a1:V){h:Hp}{Q:fy}(a:C.K jf [a0,a1] h=none)(H:jc C 69 RT (EJ [.tmp 4] Q) (IV [a0,a1]) h):cP C jf [a0,a1] h Q:=
 cP.T6 hs (show P0.funcs[34]? =some Tryd.f34 by unfold P0;exact Tryd.func34) (by kernel_rfl) (by kernel_rfl) (by kernel_rfl) a (Iu rfl) (Wp.code _ H)
def tv(C:fu)(Q:fy)(a b c:V)(h:Hp):Prop:=∀ρ:gB,ρ 0=a->ρ 1=b->ρ 5=c->Wp C 69 (.loop Xm) (zb9 C (EJ [.tmp 4] Q)) ρ h
def nt(C:fu)(Q:fy)(fS:Rj)(e f d:V)(h:Hp):Prop:=oP (fF e) λi=>bO .lss 3 d i (dI 4 e d 0 h λj=>dI 4 f d 0 h λk=>oP (eo .neq 3 j k) λc=>oP (fx false c) λl=>oP (gV l (some e)) λm=>oP (fx false c) λn=>oP (gV n (some d)) λo=>oP (fx false c) λp=>oP (gV p (gD 4 m o)) λq=>oP (fx false c) λr=>oP (gV r (fH 1 q)) λs=>oP (fx false c) λt=>oP (gV t (ez s h)) λu=>oP (fx false c) λv=>oP (gV v (some f)) λw=>oP (fx false c) λx=>oP (gV x (some d)) λy=>oP (fx false c) λz=>oP (gV z (gD 4 w y)) λA=>oP (fx false c) λB=>oP (gV B (fH 1 A)) λD=>oP (fx false c) λE=>oP (gV E (ez D h)) λF=>oP (oD c (eo .neq 3 u F)) λa=>oP (fx false a) λG=>oP (gV G (some e)) λH=>oP (fx false a) λI=>oP (gV I (some d)) λJ=>oP (fx false a) λK=>oP (gV K (gD 4 H J)) λL=>oP (fx false a) λM=>oP (gV M (fH 2 L)) λN=>oP (fx false a) λO=>oP (gV O (ez N h)) λP=>oP (fx false a) λR=>oP (gV R (some f)) λS=>oP (fx false a) λT=>oP (gV T (some d)) λU=>oP (fx false a) λW=>oP (gV W (gD 4 S U)) λX=>oP (fx false a) λY=>oP (gV Y (fH 2 X)) λZ=>oP (fx false a) λaa=>oP (gV aa (ez Z h)) λab=>oP (fx false a) λac=>oP (gC ac (some (iU,[P,ab]))) λae=>qB C ae h λag g=>(h.next<=g.next/\oP (oD a (qz .not ag)) λb=>oP (fx false b) λah=>oP (gV ah (some e)) λai=>oP (fx false b) λaj=>oP (gV aj (some d)) λak=>oP (fx false b) λal=>oP (gV al (gD 4 ai ak)) λam=>oP (fx false b) λan=>oP (gV an (fH 3 am)) λao=>oP (fx false b) λap=>oP (gV ap (ez ao g)) λaq=>oP (fx false b) λar=>oP (gV ar (some f)) λau=>oP (fx false b) λaw=>oP (gV aw (some d)) λax=>oP (fx false b) λay=>oP (gV ay (gD 4 au ax)) λaA=>oP (fx false b) λaB=>oP (gV aB (fH 3 aA)) λaC=>oP (fx false b) λaD=>oP (gV aD (ez aC g)) λaE=>oP (fx false b) λaF=>oP (gC aF (some (iU,[aq,aE]))) λaG=>qB C aG g λaH h2=>(g.next<=h2.next/\oP (oD b (qz .not aH)) λaI=>bP aI (Q bF h2) (oP (eo .add 3 d nO) λaJ=>fS e f aJ h2)))) (Q bT h)
theorem Bu{C:fu}{Q:fy}(I:Nat->Rj)(step:∀(k:Nat)(a b c:V)(h:Hp),I k a b c h->nt C Q (λa b c h=>∃k',k' < k/\I k' a b c h) a b c h){k:Nat}{a b c:V}{h:Hp}(h0:I k a b c h):tv C Q a b c h:=by
 intro ρ e0 e1 e5;subst e0;subst e1;subst e5;refine Wp.zaj (λk ρ h=>I k (ρ 0) (ρ 1) (ρ 5) h) (λk ρ h hi=>?_) h0;have H:=step k (ρ 0) (ρ 1) (ρ 5) h hi;unfold nt at H;exact Wp.of (zb1 _ _ _ _) (rE (rE (oM H λag _ H=>oM H λah _ H=>Wp.of (zcl _ _ _ _) (rE (bM H (λH=>Wp.of (zcG _ _ _ _) (rE (rE (oM H λai d H=>oM H λaj e H=>oM H λak f H=>rE (rE (oM H λal g H=>oM H λam i H=>oM H λan j H=>oM H λao l H=>rE (oM H λap _ H=>oM H λaq m H=>oM H λar _ H=>oM H λau n H=>oM H λaw _ H=>oM H λax o H=>oM H λay _ H=>oM H λaA p H=>oM H λaB _ H=>oM H λaC q H=>oM H λaD _ H=>oM H λaE r H=>oM H λaF _ H=>oM H λaG s H=>oM H λaH _ H=>oM H λaI t H=>oM H λaJ _ H=>oM H λaK u H=>oM H λaL _ H=>oM H λaM v H=>X3 (IQ H) λH=>oM H λaN ab H=>oM H λaO w H=>oM H λaP x H=>rE (oM H λaQ _ H=>oM H λaR y H=>oM H λaS _ H=>oM H λaT z H=>oM H λaU _ H=>oM H λaV A H=>oM H λaW _ H=>oM H λaX B H=>oM H λaY _ H=>oM H λaZ D H=>oM H λa5 _ H=>oM H λa6 E H=>oM H λa7 _ H=>oM H λa8 F H=>oM H λa9 _ H=>oM H λba G H=>oM H λbb _ H=>oM H λbc J H=>oM H λbd _ H=>oM H λbe K H=>⟨(gz K),⟨(gz J),⟨(gz G),⟨(gz F),⟨(gz E),⟨(gz D),⟨(gz B),⟨(gz A),⟨(gz z),⟨(gz y),⟨rfl,⟨x,⟨(gz w),⟨(gz v),⟨(gz u),⟨(gz t),⟨(gz s),⟨(gz r),⟨(gz q),⟨(gz p),⟨(gz o),⟨(gz n),⟨(gz m),⟨rfl,⟨l,⟨j,⟨i,⟨g,⟨rfl,⟨rfl,⟨f,⟨e,⟨d,⟨rfl,⟨rfl,oM H λbf _ H=>oM H λbg _ H=>Tf H λbh h1 H=>Nh H λH=>X3 (IQ H) λH=>oM H λbi ac H=>oM H λbj L H=>oM H λbm M H=>rE (oM H λbo _ H=>oM H λbq N H=>oM H λbr _ H=>oM H λbt O H=>oM H λbu _ H=>oM H λbw P H=>oM H λbx _ H=>oM H λbz R H=>oM H λbA _ H=>oM H λbC S H=>oM H λbD _ H=>oM H λbE T H=>oM H λbG _ H=>oM H λbH U H=>oM H λbI _ H=>oM H λbJ W H=>oM H λbK _ H=>oM H λbL X H=>oM H λbQ _ H=>oM H λbR Y H=>⟨(gz Y),⟨(gz X),⟨(gz W),⟨(gz U),⟨(gz T),⟨(gz S),⟨(gz R),⟨(gz P),⟨(gz O),⟨(gz N),⟨rfl,⟨M,⟨(gz L),oM H λbS _ H=>oM H λbU _ H=>Tf H λbV h2 H=>Nh H λH=>X3 (IQ H) λH=>oM H λbW ae H=>oM H λbX Z H=>oM H λbY aa H=>⟨aa,⟨(gz Z),Wp.of (zcF _ _ _ _) (rE (bM H (λH=>rE (Wp.of (zaF _ _ _ _) (H))) (λH=>Wp.of (za0 _ _ _ _) (rE (oM H λbZ _ H=>rE (H))))))⟩⟩⟩⟩⟩⟩⟩⟩⟩⟩⟩⟩⟩⟩⟩)⟩⟩⟩⟩⟩⟩⟩⟩⟩⟩⟩⟩⟩⟩⟩⟩⟩⟩⟩⟩⟩⟩⟩⟩⟩⟩⟩⟩⟩⟩⟩⟩⟩⟩⟩)))))))) (λH=>Wp.of (zch _ _ _ _) (rE (Wp.of (zbV _ _ _ _) (H)))))))))
def pq(C:fu)(Q:fy)(a0 a1:V)(h:Hp):Prop:=oP (fF a0) λa=>oP (fF a1) λb=>bO .neq 3 a b (Q bF h) (tv C Q a0 a1 nZ h)
theorem Ei{C:fu}(hs:C.start=fR){a0 a1:V}{h:Hp}{Q:fy}(a:C.K jf [a0,a1] h=none)(H:pq C Q a0 a1 h):cP C jf [a0,a1] h Q:=by
 unfold pq at H;exact g34 hs _ _ a ((e34 _ _ _ _).mpr (rE (Wp.of (zde _ _ _ _) (rE (oM H λc _ H=>rE (oM H λd _ H=>oM H λb _ H=>Wp.of (zcT _ _ _ _) (rE (bM H (λH=>rE (Wp.of (zcJ _ _ _ _) (H))) (λH=>Wp.of (zb6 _ _ _ _) (rE (Wp.of (zda _ _ _ _) (H _ rfl rfl rfl))))))))))))
end
def t60:List (Nat×List Nat):=[(87,[0,1,5])]
def si(C:fu)(Q:fy):LP:=JV C Tryd.f60 t60 43 [0,1,5] [] Q
def qQ(C:fu)(Q:fy)(fS:LP)(b g a:V)(h:Hp):Prop:=oP (fF b) λc=>bO .lss 3 a c (dX 1 b a h λd=>dX 1 g a h λe=>bO .neq 83 d e (Q bF h) (oP (eo .add 3 a nO) λf=>fS [b,g,f] h)) (Q bT h)
theorem AI{C Q}(I)(s:S3 I (qQ C Q)){k l h}(i:I k l h)(e:l.length=3:=by rfl):si C Q l h:=JV.l3 I _ s i e
def wm(C:fu)(Q:fy)(a0 a1:V)(h:Hp):Prop:=oP (fF a0) λa=>oP (fF a1) λb=>bO .neq 3 a b (Q bF h) (si C Q [a0,a1,nZ] h)
theorem Dr{C}(s:C.start=fR){a0 a1 h Q}(k:C.K iU [a0,a1] h=none)(H:wm C Q a0 a1 h):cP C iU [a0,a1] h Q:=cP.vd t60 s (by unfold P0;exact Tryd.func60) k H
end
set_option maxRecDepth 100000
noncomputable section
section
variable (C:fu)(Q:X->gB->Hp->Prop)(ρ:gB)(h:Hp)
def k3:=HT Tryd.f3
def zbN:=k3.r
def zcy:=k3.r.r
def zcB:=k3.r.r.r
def zcd:=k3.r.r.r.r
theorem e3:jc C 51 k3 Q ρ h=(ik (m0 24 (ρ 0)) h λa b=>
 oP (some (V.bool false)) λc=>
 Wp C 51 zbN Q (fh (fh ρ 4 a) 8 c) b):=by kernel_rfl
theorem zd2:jc C 51 zbN Q ρ h=(oP (gg 3 (ρ 4) h) λa=>
 XS C lH [a] h λb e=>
 XS C p6 [b] e λc f=>
 ik (some (.cells 30 1 true false [(V.I 0),(V.I 0),V.ee,V.ee,V.ee],λl=> .ptr l 0)) f λd g=>
 fm (gK 5 d c g) λj i=>
 Wp C 51 zcy Q (fh (fh (fh (fh ρ 11 a) 12 b) 13 c) 9 d) i):=by kernel_rfl
theorem zdT:jc C 51 zcy Q ρ h=(oP (gg 5 (ρ 9) h) λa=>
 XS C p6 [a] h λb d=>
 ik (some (.cells 30 1 true false [(V.I 0),(V.I 0),V.ee,V.ee,V.ee],λl=> .ptr l 0)) d λc e=>
 fm (gK 5 c b e) λg f=>
 Wp C 51 zcB Q (fh (fh (fh ρ 14 a) 15 b) 10 c) f):=by kernel_rfl
theorem zdL:jc C 51 zcB Q ρ h=(XS C mj [] h λG O=>
 (h.next<=O.next/\
 oP (some G) λe=>
 oP (fx true e) λb2=>
 oP (gV b2 (gg 5 (ρ 10) O)) λH=>
 ((gT b2 (gg 5 (ρ 10) O=some H))/\
 ((some G=some e)/\
 oP (fx true e) λb3=>
 oP (gC b3 (some (ki,[H]))) λx3=>qB C x3 O λI d=>
 (O.next<=d.next/\
 oP (iO e I (V.bool false)) λl=>
 oP (some l) λb=>
 oP (fx true b) λb6=>
 oP (gV b6 (fH 2 (ρ 10))) λm=>
 oP (fx true b) λb7=>
 oP (gV b7 (ez m d)) λn=>
 oP (fx true b) λb8=>
 oP (gV b8 (fF n)) λo=>
 oP (fx true b) λb9=>
 oP (gV b9 (fH 2 (ρ 9))) λp=>
 oP (fx true b) λP=>
 oP (gV P (ez p d)) λq=>
 oP (fx true b) λR=>
 oP (gV R (fF q)) λr=>
 oP (fx true b) λS=>
 oP (gV S (eo .eql 3 o r)) λs=>
 oP (iO b s (V.bool false)) λt=>
 oP (some t) λc=>
 oP (fx true c) λT=>
 oP (gV T (fH 4 (ρ 10))) λu=>
 oP (fx true c) λU=>
 oP (gV U (ez u d)) λv=>
 oP (fx true c) λW=>
 oP (gV W (fF v)) λw=>
 oP (fx true c) λX=>
 oP (gV X (fH 4 (ρ 9))) λx=>
 oP (fx true c) λY=>
 oP (gV Y (ez x d)) λy=>
 oP (fx true c) λZ=>
 oP (gV Z (fF y)) λz=>
 oP (fx true c) λaa=>
 oP (gV aa (eo .eql 3 w z)) λA=>
 oP (iO c A (V.bool false)) λB=>
 oP (some B) λa=>
 oP (fx true a) λi=>
 oP (gV i (gg 5 (ρ 9) d)) λf=>
 oP (fx true a) λj=>
 oP (gV j (gg 5 (ρ 10) d)) λg=>
 oP (fx true a) λab=>
 oP (gV ab (some (ρ 1))) λJ=>
 oP (fx true a) λK=>
 oP (gV K (some (ρ 2))) λD=>
 oP (fx true a) λE=>
 oP (gV E (some (ρ 3))) λk=>
 ((gT E (some (ρ 3)=some k))/\
 ((gT K (some (ρ 2)=some D))/\
 ((gT ab (some (ρ 1)=some J))/\
 ((gT j (gg 5 (ρ 10) d=some g))/\
 ((gT i (gg 5 (ρ 9) d=some f))/\
 ((some B=some a)/\
 ((iO c A (V.bool false)=some B)/\
 ((gT aa (eo .eql 3 w z=some A))/\
 ((gT Z (fF y=some z))/\
 ((gT Y (ez x d=some y))/\
 ((gT X (fH 4 (ρ 9)=some x))/\
 ((gT W (fF v=some w))/\
 ((gT U (ez u d=some v))/\
 ((gT T (fH 4 (ρ 10)=some u))/\
 ((some t=some c)/\
 ((iO b s (V.bool false)=some t)/\
 ((gT S (eo .eql 3 o r=some s))/\
 ((gT R (fF q=some r))/\
 ((gT P (ez p d=some q))/\
 ((gT b9 (fH 2 (ρ 9)=some p))/\
 ((gT b8 (fF n=some o))/\
 ((gT b7 (ez m d=some n))/\
 ((gT b6 (fH 2 (ρ 10)=some m))/\
 ((some l=some b)/\
 ((iO e I (V.bool false)=some l)/\
 oP (fx true a) λah=>
 oP (gC ah (some (jT,[J]))) λai=>qB C ai d λac h3=>
 (d.next<=h3.next/\
 ((gT E (some (ρ 3)=some k))/\
 ((gT K (some (ρ 2)=some D))/\
 ((gT j (gg 5 (ρ 10) h3=some g))/\
 ((gT i (gg 5 (ρ 9) h3=some f))/\
 oP (fx true a) λaj=>
 oP (gC aj (some (j5,[D]))) λak=>qB C ak h3 λae h4=>
 (h3.next<=h4.next/\
 ((gT E (some (ρ 3)=some k))/\
 ((gT j (gg 5 (ρ 10) h4=some g))/\
 ((gT i (gg 5 (ρ 9) h4=some f))/\
 oP (fx true a) λal=>
 oP (gC al (some (im,[k,(V.I 9)]))) λam=>qB C am h4 λL h5=>
 (h4.next<=h5.next/\
 oP (fx true a) λag=>
 oP (gV ag (eo .sub 3 L (V.I 1))) λM=>
 ((gT ag (eo .sub 3 L (V.I 1)=some M))/\
 ((gT j (gg 5 (ρ 10) h5=some g))/\
 ((gT i (gg 5 (ρ 9) h5=some f))/\
 oP (fx true a) λan=>
 oP (gC an (some (ju,[f,g,ac,ae,M,(V.I 1500)]))) λao=>qB C ao h5 λN h6=>
 (h5.next<=h6.next/\
 oP (iO a N (V.bool false)) λF=>
 oP (some F) λv8=>
 ((some F=some v8)/\
 ((iO a N (V.bool false)=some F)/\
 Wp C 51 zcd Q (fh (fh (fh (fh (fh (fh (fh (fh (fh (fh (fh (fh (fh (fh (fh (fh (fh (fh (fh (fh (fh (fh (fh (fh (fh (fh (fh (fh (fh (fh (fh (fh (fh (fh (fh (fh ρ 16 G) 17 e) 18 H) 19 I) 20 l) 21 b) 22 m) 23 n) 24 o) 25 p) 26 q) 27 r) 28 s) 29 t) 30 c) 31 u) 32 v) 33 w) 34 x) 35 y) 36 z) 37 A) 38 B) 39 a) 40 f) 41 g) 42 J) 44 D) 46 k) 43 ac) 45 ae) 47 L) 48 M) 49 N) 50 F) 8 v8) h6)))))))))))))))))))))))))))))))))))))))))))))):=by kernel_rfl
theorem zd0:jc C 51 zcd Q ρ h=(Q .ret ρ h):=by kernel_rfl
theorem g3{C:fu}(hs:C.start=fR)(a0 a1 a2 a3:V){h:Hp}{Q:fy}(a:C.K jq [a0,a1,a2,a3] h=none)(H:jc C 51 k3 (EJ [.tmp 8] Q) (IV [a0,a1,a2,a3]) h):cP C jq [a0,a1,a2,a3] h Q:=
 cP.T6 hs (show P0.funcs[3]? =some Tryd.f3 by unfold P0;exact Tryd.func3) (by kernel_rfl) (by kernel_rfl) (by kernel_rfl) a (Iu rfl) (Wp.code _ H)
def mE(C:fu)(Q:fy)(a0 a1 a2 a3:V)(h:Hp):Prop:=ik (m0 24 a0) h λv4 h1=>oP (gg 3 v4 h1) λr=>cP C lH [r] h1 λs h2=>cP C p6 [s] h2 λt h3=>ik (zC 30 [nZ,nZ,nS,nS,nS]) h3 λn h4=>fm (gK 5 n t h4) λvu h5=>oP (gg 5 n h5) λu=>cP C p6 [u] h5 λv h6=>ik (zC 30 [nZ,nZ,nS,nS,nS]) h6 λc h7=>fm (gK 5 c v h7) λau h8=>cP C mj [] h8 λo q=>(h8.next<=q.next/\oP (fx true o) λb2=>oP (gV b2 (gg 5 c q)) λw=>oP (fx true o) λb3=>oP (gC b3 (some (ki,[w]))) λy3=>qB C y3 q λx b=>(q.next<=b.next/\oP (iO o x bF) λd=>oP (fx true d) λb6=>oP (gV b6 (fH 2 c)) λy=>oP (fx true d) λb7=>oP (gV b7 (ez y b)) λz=>oP (fx true d) λb8=>oP (gV b8 (fF z)) λA=>oP (fx true d) λb9=>oP (gV b9 (fH 2 n)) λB=>oP (fx true d) λD=>oP (gV D (ez B b)) λE=>oP (fx true d) λF=>oP (gV F (fF E)) λG=>oP (jZ d (eo .eql 3 A G)) λe=>oP (fx true e) λH=>oP (gV H (fH 4 c)) λI=>oP (fx true e) λJ=>oP (gV J (ez I b)) λK=>oP (fx true e) λL=>oP (gV L (fF K)) λM=>oP (fx true e) λN=>oP (gV N (fH 4 n)) λO=>oP (fx true e) λP=>oP (gV P (ez O b)) λR=>oP (fx true e) λS=>oP (gV S (fF R)) λT=>oP (jZ e (eo .eql 3 M T)) λa=>oP (fx true a) λj=>oP (gV j (gg 5 n b)) λk=>oP (fx true a) λl=>oP (gV l (gg 5 c b)) λm=>oP (fx true a) λU=>oP (gV U (some a1)) λW=>oP (fx true a) λX=>oP (gV X (some a2)) λY=>oP (fx true a) λZ=>oP (gV Z (some a3)) λaa=>oP (fx true a) λab=>oP (gC ab (some (jT,[W]))) λac=>qB C ac b λae f=>(b.next<=f.next/\((gT l (gg 5 c f=some m))/\((gT j (gg 5 n f=some k))/\oP (fx true a) λag=>oP (gC ag (some (j5,[Y]))) λah=>qB C ah f λai g=>(f.next<=g.next/\((gT l (gg 5 c g=some m))/\((gT j (gg 5 n g=some k))/\oP (fx true a) λaj=>oP (gC aj (some (im,[aa,(V.I 9)]))) λak=>qB C ak g λal i=>(g.next<=i.next/\oP (fx true a) λam=>oP (gV am (eo .sub 3 al nO)) λan=>((gT l (gg 5 c i=some m))/\((gT j (gg 5 n i=some k))/\oP (fx true a) λao=>oP (gC ao (some (ju,[k,m,ae,ai,an,(V.I 1500)]))) λap=>qB C ap i λaq p=>(i.next<=p.next/\oP (iO a aq bF) λar=>Q ar p))))))))))))
theorem Aa{C:fu}(hs:C.start=fR){a0 a1 a2 a3:V}{h:Hp}{Q:fy}(E:C.K jq [a0,a1,a2,a3] h=none)(H:mE C Q a0 a1 a2 a3 h):cP C jq [a0,a1,a2,a3] h Q:=by
 unfold mE at H;exact g3 hs _ _ _ _ E ((e3 _ _ _ _).mpr (alM H λv4 h1 H=>rE (Wp.of (zd2 _ _ _ _) (oM H λF _ H=>YS H λG h2 H=>YS H λI h3 H=>alM H λv9 h4 H=>Wc H λvu h5 H=>Wp.of (zdT _ _ _ _) (oM H λJ _ H=>YS H λL h6 H=>alM H λM h7 H=>Wc H λA h8 H=>Wp.of (zdL _ _ _ _) (YS H λN h9 H=>Nh H λH=>rE (oM H λb2 _ H=>oM H λO c H=>⟨(gz c),⟨rfl,oM H λb3 _ H=>oM H λy3 _ H=>Tf H λP R H=>Nh H λH=>oM H λS d H=>rE (oM H λb6 _ H=>oM H λT e H=>oM H λb7 _ H=>oM H λU f H=>oM H λb8 _ H=>oM H λW g H=>oM H λb9 _ H=>oM H λX i H=>oM H λY _ H=>oM H λZ j H=>oM H λaa _ H=>oM H λab k H=>X3 (FE H) λH=>oM H λac B H=>oM H λae l H=>oM H λag m H=>rE (oM H λah _ H=>oM H λai n H=>oM H λaj _ H=>oM H λak o H=>oM H λal _ H=>oM H λam p H=>oM H λan _ H=>oM H λao q H=>oM H λap _ H=>oM H λaq r H=>oM H λar _ H=>oM H λau s H=>X3 (FE H) λH=>oM H λaw D H=>oM H λax t H=>oM H λay u H=>rE (oM H λaA _ H=>oM H λaB v H=>oM H λaC _ H=>oM H λaD w H=>oM H λaE _ H=>oM H λaF x H=>oM H λaG _ H=>oM H λaH b H=>oM H λaI _ H=>oM H λaJ a H=>⟨(gz a),⟨(gz b),⟨(gz x),⟨(gz w),⟨(gz v),⟨rfl,⟨u,⟨(gz t),⟨(gz s),⟨(gz r),⟨(gz q),⟨(gz p),⟨(gz o),⟨(gz n),⟨rfl,⟨m,⟨(gz l),⟨(gz k),⟨(gz j),⟨(gz i),⟨(gz g),⟨(gz f),⟨(gz e),⟨rfl,⟨d,oM H λaK _ H=>oM H λaL _ H=>Tf H λaM aN H=>Nh H λH=>⟨(gz a),⟨(gz b),Nh H λH=>Nh H λH=>oM H λaO _ H=>oM H λaP _ H=>Tf H λaQ aR H=>Nh H λH=>⟨(gz a),Nh H λH=>Nh H λH=>oM H λaS _ H=>oM H λaT _ H=>Tf H λaU aV H=>Nh H λH=>oM H λaW _ H=>oM H λaX y H=>⟨(gz y),Nh H λH=>Nh H λH=>oM H λaY _ H=>oM H λaZ _ H=>Tf H λa5 a6 H=>Nh H λH=>oM H λa7 z H=>rE (⟨rfl,⟨z,Wp.of (zd0 _ _ _ _) (H)⟩⟩)⟩⟩⟩⟩⟩⟩⟩⟩⟩⟩⟩⟩⟩⟩⟩⟩⟩⟩⟩⟩⟩⟩⟩⟩⟩⟩⟩⟩⟩)))⟩⟩)))))))
end
end
