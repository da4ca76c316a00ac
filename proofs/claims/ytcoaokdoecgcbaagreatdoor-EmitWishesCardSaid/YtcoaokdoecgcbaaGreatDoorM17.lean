/- Parts. -/
import Derived.Test.YtcoaokdoecgcbaaGreatDoorM14
set_option maxHeartbeats 4000000
namespace Go.Proofs.YtcoaokdoecgcbaaGreatDoor.Hx
variable{Q:fo}{h:Hp}{c d e:V}
set_option maxRecDepth 100000
noncomputable section
def t51:List (Nat×List Nat):=[(87,[1,3,12,13]),(351,[3,4,5]),(23135,[3,4,5,6])]
def FM(Q:fo)(b c a gI:V)(h:Hp):Prop:=JV CS Tryz.f51 t51 43 [1,3,12,13] [] Q [b,c,a,gI] h
def F0(Q:fo)(a x4 b:V)(h:Hp):Prop:=JV CS Tryz.f51 t51 175 [3,4,5] [] Q [a,x4,b] h
def FQ(Q:fo)(gL:QP3)(a x4 b c:V)(h:Hp):Prop:=JV CS Tryz.f51 t51 11567 [3,4,5,6] [λρ h=>gL (ρ 3) (ρ 4) (ρ 5) h] Q [a,x4,b,c] h
def zr(Q:fo)(fE:Ro)(t k l gI:V)(h:Hp):Prop:=bO .lss 3 gI l (oP (fR k) λu=>oP (fV 5 u) λm=>oP (eD m h) λn=>oP (fV 2 t) λo=>oP (eD o h) λp=>oP (fM p) λq=>vV (jA 4 1 1 bF q q) h λv w N=>vV (iW 130 1 1 nS [(0,w)]) N λd x r=>oP (fR k) λy=>oP (fV 6 y) λe=>oP (eD e r) λf=>oP (fV 2 t) λg=>oP (eD g r) λi=>oP (fM i) λs=>vV (jA 4 1 1 bF s s) r λa z A=>vV (iW 130 1 1 nS [(0,z)]) A λb B c=>((c.get (A.next)=some b/\O.beq b b=true)/\((c.get (r.next)=some a/\O.beq a a=true)/\((eD g c=some i)/\((eD e c=some f)/\((c.get (N.next)=some d/\O.beq d d=true)/\((c.get (h.next)=some v/\O.beq v v=true)/\((eD o c=some p)/\((eD m c=some n)/\eJ (fg 130 1 24 n x c) λC j=>(c.next<=j.next/\((j.get (A.next)=some b/\O.beq b b=true)/\((j.get (r.next)=some a/\O.beq a a=true)/\((eD g j=some i)/\((eD e j=some f)/\eJ (fg 130 1 24 f B j) λD E=>(j.next<=E.next/\oP (fR k) λF=>oP (fV 5 F) λG=>eJ (gw 1 G C E) λT H=>(E.next<=H.next/\oP (fR k) λI=>oP (fV 6 I) λJ=>eJ (gw 1 J D H) λP R=>(H.next<=R.next/\oP (eh .add 3 gI nO) λK=>fE t k l K R))))))))))))))))) (oP (gi 5 t h) λL=>cP CS sJ [L] h λM S=>F0 Q k M bT S)
theorem NY{Q}(I)(s:P4 I (zr Q)){k b c a gI h}(i:I k b c a gI h):FM Q b c a gI h:=WA.ln 4 [b,c,a,gI] I (zr Q) s i
def zf(Q:fo)(gL:QP3)(c x4 d:V)(h:Hp):Prop:=bP d (oP (fM x4) λa=>oP (eh .sub 3 a nO) λb=>FQ Q gL c x4 bF b h) (Q c h)
theorem NX{Q}(I)(s:P3 I (zf Q)){k a x4 b h}(i:I k a x4 b h):F0 Q a x4 b h:=WA.ln 3 [a,x4,b] I (zf Q) s i
def zs(Q:fo)(gL:QP3)(a:Ro)(b x4 i c:V)(h:Hp):Prop:=bO .geq 3 c nZ (dX 1 x4 c h λd=>cP CS tT [b,d] h λe j=>oP (nr e (some i)) λf=>oP (eh .sub 3 c nO) λg=>a b x4 f g j) (gL b x4 i h)
theorem N2{Q gL}(I)(s:P4 I (zs Q gL)){k a x4 b c h}(i:I k a x4 b c h):FQ Q gL a x4 b c h:=WA.ln 4 [a,x4,b,c] I (zs Q gL) s i
theorem SU(H:hV (mO 34 c) h λa d=>oP (gi 5 a d) λf=>oP (fq [nZ,nZ,nS,nS,nS,nS,nS] [(0,5),(5,1),(6,1)] [(0,f)]) λg=>hV (mO 154 g) d λi e=>dG 3 a e λb=>FM Q a i b nZ e):cP CS Ae [c] h Q:=cP.ve t51 Tryz.func51 H
def t79:List (Nat×List Nat):=[(351,[0,1,5,6,7]),(1407,[0,1,5,8,55,56,57])]
def wA(Q:fo)(a b c d e:V)(h:Hp):Prop:=JV CS Tryz.f79 t79 175 [0,1,5,6,7] [] Q [a,b,c,d,e] h
def qE(Q:fo)(d e f g a b c:V)(h:Hp):Prop:=JV CS Tryz.f79 t79 703 [0,1,5,8,55,56,57] [] Q [d,e,f,g,a,b,c] h
def qA(Q:fo)(fE:JF)(c r b e d:V)(h:Hp):Prop:=oP (eh .geq 3 d nZ) λa=>oP (iE true a) λs=>oP (gV s (some c)) λf=>oP (iE true a) λt=>oP (gV t (some e)) λg=>oP (iE true a) λu=>oP (gV u (some d)) λi=>oP (iE true a) λv=>oP (gV v (gQ 1 g i)) λj=>oP (iE true a) λw=>oP (gV w (eD j h)) λk=>oP (iE true a) λx=>oP (gC x (some (iZ,[f,k]))) λy=>Gn CS y h λl m=>oP (jm a (za .not l)) λn=>bP n (dX 1 e d m λo=>cP CS pj [c,b,o] m λz A=>oP (eh .sub 3 d nO) λp=>fE c r b e p A) (oP (fM b) λq=>qE Q c r b bF b q nZ m)
theorem Fh{Q}(I)(s:P5 I (qA Q)){k a b c d e h}(i:I k a b c d e h):wA Q a b c d e h:=WA.ln 5 [a,b,c,d,e] I (qA Q) s i
def qo(Q:fo)(gL:NV)(d e w x b c a:V)(h:Hp):Prop:=bO .lss 3 a c (dX 1 b a h λf=>oP (nr x (oB (some f) λg=>oB (some d) λi=>oB (fR i) λj=>oB (fV 5 j) λk=>oB (eD k h) λl=>oB (some e) λm=>oB (gQ 1 l m) λn=>oB (eD n h) λo=>oB (some a) λp=>oB (gQ 1 o p) λq=>oB (eD q h) λr=>eh .neq 4 g r)) λs=>oP (eh .add 3 a nO) λt=>gL d e w s b c t h) (dN 5 d h λu=>oP (gQ 1 u e) λv=>eJ (gw 1 v w h) λz y=>Q x y)
theorem FE{Q}(I)(s:P7 I (qo Q)){k d e f g a b c h}(i:I k d e f g a b c h):qE Q d e f g a b c h:=WA.ln 7 [d,e,f,g,a,b,c] I (qo Q) s i
theorem IV(H:cP CS wR [c,d] h λe j=>oP (fR c) λk=>oP (fV 6 k) λa=>oP (eD a j) λb=>vV (iW 4 1 0 bF []) j λl m g=>((g.get (j.next)=some l/\O.beq l l=true)/\((eD a g=some b)/\eJ (fg 4 1 1 m e g) λn i=>(g.next<=i.next/\oP (gQ 1 b d) λo=>((eD a i=some b)/\eJ (gw 1 o n i) λu p=>(i.next<=p.next/\oP (fR c) λq=>oP (fV 0 q) λr=>dJ 3 r 6 d 0 p λf=>oP (fM f) λs=>oP (eh .sub 3 s nO) λt=>wA Q c d e f t p)))))):cP CS tT [c,d] h Q:=cP.ve t79 Tryz.func79 H
def t104:List (Nat×List Nat):=[(175,[0,1,5,6,37,38,39]),(176943,[0,1,5,6,9,37,38,39,57,58,59]),(351,[0,1,5,6,91,92,93]),(193327,[0,1,5,6,37,38,39,76,77,78]),(190047,[0,1,5,6,16,91,92,93,106,107,108]),(254,[5]),(3994414,[0,1,5,6,37,38,39,76,77,78]),(46982751,[0,1,5,6,16,17,18,91,92,93,106,107,108,114,115,116]),(1020061278,[0,1,5,6,16,17,18,91,92,93,106,107,108,114,115,116])]
def yA(Q:fo)(d e f g a b c:V)(h:Hp):Prop:=JV CS Tryz.f104 t104 87 [0,1,5,6,37,38,39] [] Q [d,e,f,g,a,b,c] h
def yz(Q:fo)(fE:NV)(g i j k l a b c d e f:V)(h:Hp):Prop:=JV CS Tryz.f104 t104 88471 [0,1,5,6,9,37,38,39,57,58,59] [λρ h=>fE (ρ 0) (ρ 1) (ρ 5) (ρ 6) (ρ 37) (ρ 38) (ρ 39) h] Q [g,i,j,k,l,a,b,c,d,e,f] h
def yF(Q:fo)(d e f g a b c:V)(h:Hp):Prop:=JV CS Tryz.f104 t104 175 [0,1,5,6,91,92,93] [] Q [d,e,f,g,a,b,c] h
def yI(Q:fo)(fE:NV)(g i j k a b c d e f:V)(h:Hp):Prop:=JV CS Tryz.f104 t104 96663 [0,1,5,6,37,38,39,76,77,78] [λρ h=>fE (ρ 0) (ρ 1) (ρ 5) (ρ 6) (ρ 37) (ρ 38) (ρ 39) h] Q [g,i,j,k,a,b,c,d,e,f] h
def yy(Q:fo)(gL:NV)(i j k l d e f g a b c:V)(h:Hp):Prop:=JV CS Tryz.f104 t104 95023 [0,1,5,6,16,91,92,93,106,107,108] [λρ h=>gL (ρ 0) (ρ 1) (ρ 5) (ρ 6) (ρ 91) (ρ 92) (ρ 93) h] Q [i,j,k,l,d,e,f,g,a,b,c] h
def lX(Q:fo)(a:V)(h:Hp):Prop:=JV CS Tryz.f104 t104 127 [5] [] Q [a] h
def qZ(Q:fo)(fE:NV)(a:MI)(i j k l b c d e f g:V)(h:Hp):Prop:=JV CS Tryz.f104 t104 1997207 [0,1,5,6,37,38,39,76,77,78] [λρ h=>fE (ρ 0) (ρ 1) (ρ 5) (ρ 6) (ρ 37) (ρ 38) (ρ 39) h,λρ h=>a (ρ 0) (ρ 1) (ρ 5) (ρ 6) (ρ 37) (ρ 38) (ρ 39) (ρ 76) (ρ 77) (ρ 78) h] Q [i,j,k,l,b,c,d,e,f,g] h
def yN(Q:fo)(gL:NV)(g:JQ)(o p q r i j k l m n a b c d e f:V)(h:Hp):Prop:=JV CS Tryz.f104 t104 23491375 [0,1,5,6,16,17,18,91,92,93,106,107,108,114,115,116] [λρ h=>gL (ρ 0) (ρ 1) (ρ 5) (ρ 6) (ρ 91) (ρ 92) (ρ 93) h,λρ h=>g (ρ 0) (ρ 1) (ρ 5) (ρ 6) (ρ 16) (ρ 91) (ρ 92) (ρ 93) (ρ 106) (ρ 107) (ρ 108) h] Q [o,p,q,r,i,j,k,l,m,n,a,b,c,d,e,f] h
def qV(Q:fo)(gL:NV)(g:JQ)(i:zdB)(p q r s j k l m n o a b c d e f:V)(h:Hp):Prop:=JV CS Tryz.f104 t104 510030639 [0,1,5,6,16,17,18,91,92,93,106,107,108,114,115,116] [λρ h=>gL (ρ 0) (ρ 1) (ρ 5) (ρ 6) (ρ 91) (ρ 92) (ρ 93) h,λρ h=>g (ρ 0) (ρ 1) (ρ 5) (ρ 6) (ρ 16) (ρ 91) (ρ 92) (ρ 93) (ρ 106) (ρ 107) (ρ 108) h,λρ h=>i (ρ 0) (ρ 1) (ρ 5) (ρ 6) (ρ 16) (ρ 17) (ρ 18) (ρ 91) (ρ 92) (ρ 93) (ρ 106) (ρ 107) (ρ 108) (ρ 114) (ρ 115) (ρ 116) h] Q [p,q,r,s,j,k,l,m,n,o,a,b,c,d,e,f] h
def td(Q:fo)(fE:NV)(g s t i b c a:V)(h:Hp):Prop:=bO .lss 3 a c (dX 1 b a h λd=>oP (fR g) λj=>oP (fV 0 j) λk=>dF 3 k h λl=>oP (gQ 6 l d) λm=>oP (gi 6 m h) λn=>hV (zC 79 [nS,nZ,nZ,nS,nS,nZ]) h λu v=>eJ (gw 6 u n v) λw o=>dN 5 g o λp=>dX 1 p d o λe=>oP (fM e) λq=>yz Q fE g s t i u b c a e q nZ o) (dF 3 i h λf=>oP (fM f) λr=>yF Q g s t i f r nZ h)
theorem Hw{Q}(I)(s:P7 I (td Q)){k d e f g a b c h}(i:I k d e f g a b c h):yA Q d e f g a b c h:=WA.ln 7 [d,e,f,g,a,b,c] I (td Q) s i
def si(Q:fo)(fE:NV)(j:JQ)(q r i s t b c d e f a:V)(h:Hp):Prop:=bO .lss 3 a f (dX 1 e a h λk=>dX 1 i a h λl=>oP (nr l (some k)) λm=>oP (gQ 1 i a) λn=>eJ (gw 1 n m h) λv u=>oP (eh .add 3 a nO) λo=>j q r i s t b c d e f o u) (dF 0 t h λg=>oP (fM g) λp=>yI Q fE q r i s b c d g p nZ h)
theorem GO{Q fE}(I)(s:P11 I (si Q fE)){k g j l m n a b c d e f h}(i:I k g j l m n a b c d e f h):yz Q fE g j l m n a b c d e f h:=WA.ln 11 [g,j,l,m,n,a,b,c,d,e,f] I (si Q fE) s i
def rV(Q:fo)(gL:NV)(q x e p f g c:V)(h:Hp):Prop:=bO .lss 3 c g (dX 1 f c h λr=>oP (fR q) λs=>oP (fV 0 s) λt=>dF 3 t h λi=>oP (gQ 6 i r) λj=>oP (gi 6 j h) λk=>hV (zC 79 [nS,nZ,nZ,nS,nS,nZ]) h λd y=>eJ (gw 6 d k y) λB u=>dF 4 d u λa=>oP (fM a) λl=>yy Q gL q x e p d f g c a l nZ u) (dF 1 p h λb=>bO .eql 3 b (V.I 2) (dF 2 p h λm=>oP (gQ 1 e m) λn=>eJ (gw 1 n bT h) λv z=>lX Q e z) (bO .eql 3 b (V.I 3) (dF 5 p h λo=>cP CS pq [q,e,o] h λw A=>lX Q e A) (lX Q e h)))
theorem HR{Q}(I)(s:P7 I (rV Q)){k d e f g a b c h}(i:I k d e f g a b c h):yF Q d e f g a b c h:=WA.ln 7 [d,e,f,g,a,b,c] I (rV Q) s i
def sZ(Q:fo)(fE:NV)(g:MI)(j l k m b c d e f a:V)(h:Hp):Prop:=bO .lss 3 a f (dX 1 e a h λi=>cP CS iZ [j,i] h λn q=>bP n (oP (gQ 1 k i) λo=>eJ (gw 1 o bF q) λs r=>qZ Q fE g j l k m b c d e f a r) (qZ Q fE g j l k m b c d e f a q)) (oP (eh .add 3 d nO) λp=>fE j l k m b c p h)
theorem Ih{Q fE}(I)(s:P10 I (sZ Q fE)){k g j l m a b c d e f h}(i:I k g j l m a b c d e f h):yI Q fE g j l m a b c d e f h:=WA.ln 10 [g,j,l,m,a,b,c,d,e,f] I (sZ Q fE) s i
def rN(Q:fo)(gL:NV)(m:JQ)(n o p q e f g i b c a:V)(h:Hp):Prop:=bO .lss 3 a c (dX 1 b a h λj=>dF 0 e h λd=>oP (fM d) λk=>yN Q gL m n o p q e a j f g i b c a d k nZ h) (oP (eh .add 3 i nO) λl=>gL n o p q f g l h)
theorem HC{Q gL}(I)(s:P11 I (rN Q gL)){k j l m n d e f g a b c h}(i:I k j l m n d e f g a b c h):yy Q gL j l m n d e f g a b c h:=WA.ln 11 [j,l,m,n,d,e,f,g,a,b,c] I (rN Q gL) s i
def sk(Q:fo)(a:V)(h:Hp):Prop:=Q a h
theorem HZ{Q a h}(H:sk Q a h):lX Q a h:=JV.wn 1 (sk Q) H
def nw(Q:fo)(fE:NV)(a:MI)(j k l m b c d e f g:V)(h:Hp):Prop:=oP (eh .add 3 g nO) λi=>a j k l m b c d e f i h
theorem xC{Q fE a i j k l b c d e f g h}(H:nw Q fE a i j k l b c d e f g h):qZ Q fE a i j k l b c d e f g h:=JV.wn 10 (nw Q fE a) H
def yG(Q:fo)(gL:NV)(i:JQ)(p:zdB)(q I J K j k l m n o b c d e f a:V)(h:Hp):Prop:=bO .lss 3 a f (dX 1 e a h λg=>oP (eh .eql 3 l I) λr=>oP (jm r (oB (some q) λs=>oB (fR s) λt=>oB (fV 0 t) λu=>oB (fV 2 u) λv=>oB (eD v h) λw=>oB (some g) λx=>oB (gQ 6 w x) λy=>oB (fV 0 y) λz=>oB (eD z h) λA=>eh .eql 3 A (V.I 21))) λB=>bP B (oP (fR q) λC=>oP (fV 0 C) λD=>dJ 2 D 6 g 4 h λE=>dX 1 E k h λF=>oP (gQ 1 J F) λG=>eJ (gw 1 G bT h) λM L=>qV Q gL i p q I J K j k l m n o b c d e f a L) (qV Q gL i p q I J K j k l m n o b c d e f a h)) (oP (eh .add 3 d nO) λH=>i q I J K j m n o b c H h)
theorem Hl{gL:NV}{s:JQ}(I:Nat->zdB)(step:∀(k:Nat)(o p q r g i j l m n a b c d e f:V)(h:Hp),I k o p q r g i j l m n a b c d e f h->yG Q gL s (λo p q r g i j l m n a b c d e f h=>∃k',k' < k/\I k' o p q r g i j l m n a b c d e f h) o p q r g i j l m n a b c d e f h){k:Nat}{o p q r g i j l m n a b c d e f:V}{h:Hp}(h0:I k o p q r g i j l m n a b c d e f h):yN Q gL s o p q r g i j l m n a b c d e f h:=by
 rintro ρ rfl rfl rfl rfl rfl rfl rfl rfl rfl rfl rfl rfl rfl rfl rfl rfl;exact WA.loop (λk ρ h=>I k (ρ 0) (ρ 1) (ρ 5) (ρ 6) (ρ 16) (ρ 17) (ρ 18) (ρ 91) (ρ 92) (ρ 93) (ρ 106) (ρ 107) (ρ 108) (ρ 114) (ρ 115) (ρ 116) h) (by kernel_rfl) (by kernel_rfl) (λk ρ h hi=>LA.of (by kernel_rfl) (step k (ρ 0) (ρ 1) (ρ 5) (ρ 6) (ρ 16) (ρ 17) (ρ 18) (ρ 91) (ρ 92) (ρ 93) (ρ 106) (ρ 107) (ρ 108) (ρ 114) (ρ 115) (ρ 116) h hi)) h0
def nA(Q:fo)(gL:NV)(p:JQ)(i:zdB)(q r s t j k l m n o a b c d e f:V)(h:Hp):Prop:=oP (eh .add 3 f nO) λg=>i q r s t j k l m n o a b c d e g h
theorem xm{Q gL g i p q r s j k l m n o a b c d e f h}(H:nA Q gL g i p q r s j k l m n o a b c d e f h):qV Q gL g i p q r s j k l m n o a b c d e f h:=JV.wn 16 (nA Q gL g i) H
theorem KW(H:oP (fR c) λe=>oP (fV 0 e) λf=>dG 2 f h λa=>hV (jA 4 1 1 bF a a) h λg i=>oP (fR c) λj=>oP (fV 0 j) λk=>dF 3 k i λl=>oP (gQ 6 l d) λm=>oP (gi 6 m i) λn=>hV (zC 79 [nS,nZ,nZ,nS,nS,nZ]) i λo r=>eJ (gw 6 o n r) λs q=>dF 3 o q λb=>oP (fM b) λp=>yA Q c d g o b p nZ q):cP CS wR [c,d] h Q:=cP.ve t104 Tryz.func104 H
theorem IS(H:oP (fR d) λu=>oP (fV 0 u) λv=>dF 2 v h λf=>oP (gQ 6 f e) λg=>oP (gi 6 g h) λi=>hV (zC 81 [nZ,nZ,nZ,nZ,nS,nZ]) h λa w=>eJ (gw 6 a i w) λC x=>oP (gQ 1 c e) λj=>eJ (gw 1 j bF x) λs t=>oP (gi 6 a t) λk=>cP CS A9 [k] t λl y=>cP CS wJ [c,l] y λz b=>dF 0 a b λm=>oP (eh .eql 3 m (V.I 22)) λn=>oP (nr n (oB (fV 0 a) λo=>oB (eD o b) λp=>eh .eql 3 p (V.I 23))) λq=>bP q (dF 5 a b λr=>cP CS pq [d,c,r] b λA B=>Q (V.tuple []) B) (Q (V.tuple []) b)):cP CS pj [d,c,e] h Q:=cP.ve [] Tryz.func82 H
def t106:List (Nat×List Nat):=[(11,[1,16,17,18])]
def wI(Q:fo)(d a b c:V)(h:Hp):Prop:=JV CS Tryz.f106 t106 5 [1,16,17,18] [] Q [d,a,b,c] h
def qk(Q:fo)(fE:Ro)(d b c a:V)(h:Hp):Prop:=bO .lss 3 a c (oP (gQ 4 b a) λe=>oP (gi 4 e h) λf=>hV (zC 85 [nZ,nZ,nS,nS]) h λg n=>eJ (gw 4 g f n) λr l=>dF 2 g l λi=>cP CS wJ [d,i] l λo m=>dF 3 g m λj=>cP CS wJ [d,j] m λp q=>oP (eh .add 3 a nO) λk=>fE d b c k q) (Q (V.tuple []) h)
theorem EB{Q}(I)(s:P4 I (qk Q)){k d a b c h}(i:I k d a b c h):wI Q d a b c h:=WA.ln 4 [d,a,b,c] I (qk Q) s i
theorem IU{f:V}(H:oP (fR d) λg=>oP (fV 0 g) λb=>dJ 4 b 1 f 0 h λa=>oP (fM a) λc=>wI Q e a c nZ h):cP CS pq [d,e,f] h Q:=cP.ve t106 Tryz.func106 H
theorem Ki{f:V}(H:oP (fR e) λg=>oP (fV 0 g) λi=>dJ 2 i 6 f 0 h λa=>oP (eh .eql 3 a (V.I 21)) λb=>oP (nr b (oB (some a) λc=>eh .eql 3 c nO)) λd=>Q d h):cP CS iZ [e,f] h Q:=cP.ve [] Tryz.func54 H
def t105:List (Nat×List Nat):=[(11,[0,6,7,8])]
def FO(Q:fo)(a b c d:V)(h:Hp):Prop:=JV CS Tryz.f105 t105 5 [0,6,7,8] [] Q [a,b,c,d] h
def zn(Q:fo)(fE:Ro)(e f g a:V)(h:Hp):Prop:=bO .lss 3 a g (dX 1 f a h λb=>oP (gQ 1 e b) λc=>eJ (gw 1 c bT h) λj i=>oP (eh .add 3 a nO) λd=>fE e f g d i) (Q (V.tuple []) h)
theorem NZ{Q}(I)(s:P4 I (zn Q)){k a b c d h}(i:I k a b c d h):FO Q a b c d h:=WA.ln 4 [a,b,c,d] I (zn Q) s i
theorem SA{b a:V}(H:oP (fM a) λc=>FO Q b a c nZ h):cP CS wJ [b,a] h Q:=cP.ve t105 Tryz.func105 H
end
set_option maxRecDepth 100000
noncomputable section
def t53:List (Nat×List Nat):=[(351,[0,5,6,7,8]),(3678,[0,5,6,7,8])]
def vn(Q:fo)(a b c d e:V)(h:Hp):Prop:=JV CS Tryz.f53 t53 175 [0,5,6,7,8] [] Q [a,b,c,d,e] h
def oD(Q:fo)(fE:JF)(a b c d e:V)(h:Hp):Prop:=JV CS Tryz.f53 t53 1839 [0,5,6,7,8] [λρ h=>fE (ρ 0) (ρ 5) (ρ 6) (ρ 7) (ρ 8) h] Q [a,b,c,d,e] h
def pP(Q:fo)(fE:JF)(b c d e a:V)(h:Hp):Prop:=bO .geq 3 a nZ (hV (iW 4 1 0 bF []) h λf o=>eJ (fg 4 1 1 f e o) λg p=>oP (gQ 1 d a) λi=>eJ (gw 1 i g p) λs n=>dX 1 c a n λj=>cP CS iZ [b,j] n λk l=>bN k (dX 1 c a l λm=>cP CS pj [b,e,m] l λq r=>oD Q fE b c d e a r) (oD Q fE b c d e a l)) (Q d h)
theorem Dx{Q}(I)(s:P5 I (pP Q)){k a b c d e h}(i:I k a b c d e h):vn Q a b c d e h:=WA.ln 5 [a,b,c,d,e] I (pP Q) s i
def lL(Q:fo)(fE:JF)(b c d e f:V)(h:Hp):Prop:=oP (eh .sub 3 f nO) λa=>fE b c d e a h
theorem uu{Q fE a b c d e h}(H:lL Q fE a b c d e h):oD Q fE a b c d e h:=JV.wn 5 (lL Q fE) H
theorem Hj(H:oP (fR c) λe=>oP (fV 0 e) λf=>dJ 3 f 6 d 0 h λa=>oP (fM a) λb=>hV (jA 130 1 24 nS b b) h λg p=>hV (iW 4 1 0 bF []) p λi j=>dN 6 c j λk=>dX 1 k d j λl=>eJ (fg 4 1 1 i l j) λm q=>oP (fM a) λn=>oP (eh .sub 3 n nO) λo=>vn Q c a g m o q):cP CS og [c,d] h Q:=cP.ve t53 Tryz.func53 H
def t27:List (Nat×List Nat):=[(87,[2,3,39,40,41]),(351,[3,7,66,67,68]),(190047,[3,7,9,10,66,67,68,76,77,78]),(130868830,[3,7,9,10,12,13,66,67,68,76,77,78]),(399304287,[3,7,9,10,13,66,67,68,76,77,78,109,110,111])]
def Er(Q:fo)(d e a b c:V)(h:Hp):Prop:=JV CS Tryz.f27 t27 43 [2,3,39,40,41] [] Q [d,e,a,b,c] h
def En(Q:fo)(d e a b c:V)(h:Hp):Prop:=JV CS Tryz.f27 t27 175 [3,7,66,67,68] [] Q [d,e,a,b,c] h
def DN(Q:fo)(gL:JF)(i j k a b c d e f g:V)(h:Hp):Prop:=JV CS Tryz.f27 t27 95023 [3,7,9,10,66,67,68,76,77,78] [λρ h=>gL (ρ 3) (ρ 7) (ρ 66) (ρ 67) (ρ 68) h] Q [i,j,k,a,b,c,d,e,f,g] h
def rC(Q:fo)(gL:JF)(a:MI)(k l m b c gI d e f g i j:V)(h:Hp):Prop:=JV CS Tryz.f27 t27 65434415 [3,7,9,10,12,13,66,67,68,76,77,78] [λρ h=>gL (ρ 3) (ρ 7) (ρ 66) (ρ 67) (ρ 68) h,λρ h=>a (ρ 3) (ρ 7) (ρ 9) (ρ 10) (ρ 66) (ρ 67) (ρ 68) (ρ 76) (ρ 77) (ρ 78) h] Q [k,l,m,b,c,gI,d,e,f,g,i,j] h
def Df(Q:fo)(gL:JF)(d:MI)(m n o e gI f g i j k l a b c:V)(h:Hp):Prop:=JV CS Tryz.f27 t27 199652143 [3,7,9,10,13,66,67,68,76,77,78,109,110,111] [λρ h=>gL (ρ 3) (ρ 7) (ρ 66) (ρ 67) (ρ 68) h,λρ h=>d (ρ 3) (ρ 7) (ρ 9) (ρ 10) (ρ 66) (ρ 67) (ρ 68) (ρ 76) (ρ 77) (ρ 78) h] Q [m,n,o,e,gI,f,g,i,j,k,l,a,b,c] h
def xN(Q:fo)(fE:JF)(f g c d b:V)(h:Hp):Prop:=bO .lss 3 b d (dX 1 c b h λa=>oP (eh .lss 3 a nZ) λi=>oP (nr i (oB (some a) λj=>eh .geq 3 j (V.I 12))) λk=>oP (jm k (oB (some a) λl=>oB (eh .lss 3 l (V.I 16)) λm=>oB (some m) λn=>nr n (oB (some a) λo=>oB (fV 1 g) λp=>oB (eD p h) λq=>oB (eh .add 3 (V.I 16) q) λr=>eh .geq 3 o r))) λs=>bP s (Q bF h) (oP (eh .add 3 b nO) λt=>fE f g c d t h)) (oP (gi 5 f h) λu=>cP CS Ae [u] h λv x=>dF 3 f x λe=>oP (fM e) λw=>En Q g v e w nZ x)
theorem M1{Q}(I)(s:P5 I (xN Q)){k d e a b c h}(i:I k d e a b c h):Er Q d e a b c h:=WA.ln 5 [d,e,a,b,c] I (xN Q) s i
def xR(Q:fo)(gL:JF)(m j b c a:V)(h:Hp):Prop:=bO .lss 3 a c (oP (gQ 6 b a) λe=>oP (gi 6 e h) λf=>hV (zC 79 [nS,nZ,nZ,nS,nS,nZ]) h λk n=>eJ (gw 6 k f n) λr o=>hV (some (.map [] 0,λl=> .map l)) o λg p=>cP CS og [j,a] p λd q=>oP (fM d) λi=>DN Q gL m j k g b c a d i nZ q) (Q bT h)
theorem Mq{Q}(I)(s:P5 I (xR Q)){k d e a b c h}(i:I k d e a b c h):En Q d e a b c h:=WA.ln 5 [d,e,a,b,c] I (xR Q) s i
def xW(Q:fo)(gL:JF)(j:MI)(k l r c d e f g i b:V)(h:Hp):Prop:=bO .lss 3 b i (dX 1 g b h λm=>dY 0 r 1 b h λa=>cP CS iZ [l,a] h λs n=>oP (jm s (oB (some c) λt=>oB (fV 0 k) λu=>oB (eD u n) λv=>oB (some a) λw=>oB (gQ 1 v w) λx=>oB (eD x n) λy=>rG 3 none bF false t y n)) λz=>bP z (Q bF n) (cP CS iZ [l,a] n λo A=>bP o (dY 0 k 1 a A λp=>eJ (zk 3 none c p bT A) λC B=>rC Q gL j k l r c m a d e f g i b B) (rC Q gL j k l r c m a d e f g i b A))) (oP (eh .add 3 f nO) λq=>gL k l d e q h)
theorem Mw{Q gL}(I)(s:P10 I (xW Q gL)){k j l m a b c d e f g h}(i:I k j l m a b c d e f g h):DN Q gL j l m a b c d e f g h:=WA.ln 10 [j,l,m,a,b,c,d,e,f,g] I (xW Q gL) s i
def wU(Q:fo)(gL:JF)(c:MI)(l m n d a gI e f g i j k:V)(h:Hp):Prop:=oP (fM a) λb=>Df Q gL c l m n d gI e f g i j k a b nZ h
theorem LY{Q gL a k l m b c gI d e f g i j h}(H:wU Q gL a k l m b c gI d e f g i j h):rC Q gL a k l m b c gI d e f g i j h:=JV.wn 12 (wU Q gL a) H
def xS(Q:fo)(gL:JF)(D:MI)(E:zct)(C F G d gI e f g i j k b c a:V)(h:Hp):Prop:=bO .lss 3 a c (dX 1 b a h λl=>oP (jm l (oB (some a) λm=>oB (some gI) λn=>eh .neq 3 m n)) λo=>oP (jm o (oB (fV 0 C) λp=>oB (eD p h) λq=>oB (some a) λr=>oB (gQ 1 q r) λs=>oB (eD s h) λt=>oB (fV 0 C) λu=>oB (eD u h) λv=>oB (some gI) λw=>oB (gQ 1 v w) λx=>oB (eD x h) λy=>eh .eql 3 t y)) λz=>bP z (Q bF h) (oP (eh .add 3 a nO) λA=>E C F G d gI e f g i j k b c A h)) (oP (eh .add 3 k nO) λB=>D C F G d e f g i j B h)
theorem Mh{Q gL d}(I)(s:P14 I (xS Q gL d)){k o p q e gI f g j l m n a b c h}(i:I k o p q e gI f g j l m n a b c h):Df Q gL d o p q e gI f g j l m n a b c h:=WA.ln 14 [o,p,q,e,gI,f,g,j,l,m,n,a,b,c] I (xS Q gL d) s i
theorem Qx{w x:V}(H:hV (mO 34 w) h λd z=>hV (mO 37 x) z λb y=>oP (gi 5 d y) λe=>cP CS yY [e] y λf a=>oP (za .not f) λg=>oP (nr g (oB (fV 0 b) λi=>oB (eD i a) λj=>oB (fM j) λk=>oB (fV 2 d) λl=>oB (eD l a) λm=>oB (fM m) λn=>eh .neq 3 k n)) λo=>oP (nr o (oB (fV 1 b) λp=>oB (eD p a) λq=>eh .lss 3 q nZ)) λr=>oP (nr r (oB (fV 1 b) λs=>oB (eD s a) λt=>eh .gtr 3 t (V.I 399))) λu=>bP u (Q bF a) (dF 0 b a λc=>oP (fM c) λv=>Er Q d b c v nZ a)):cP CS Cc [w,x] h Q:=cP.ve t27 Tryz.func27 H
end
