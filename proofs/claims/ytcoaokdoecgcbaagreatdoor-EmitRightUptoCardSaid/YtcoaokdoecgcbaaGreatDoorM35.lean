/- Parts. -/
import Derived.Test.YtcoaokdoecgcbaaGreatDoorM14
set_option maxHeartbeats 4000000
namespace Go.Proofs.YtcoaokdoecgcbaaGreatDoor.Hx
set_option maxRecDepth 100000
noncomputable section
def t8:List (Nat×List Nat):=[(175,[2,4,6,30,31]),(351,[2,4,6,62,63,64])]
def GL(C:fj)(Q:fo):LP:=JV C Tryz.f8 t8 87 [2,4,6,30,31] [] Q
def Gl(C:fj)(Q:fo):LP:=JV C Tryz.f8 t8 175 [2,4,6,62,63,64] [] Q
def E0(C:fj)(Q:fo)(m:LP)(B l a d b:V)(h:Hp):Prop:=bO .lss 3 b d (oP (gq a) λn=>oP (fK 8 n) λe=>oP (eC e h) λf=>oP (gq a) λo=>oP (fK 7 o) λg=>oP (eC g h) λi=>oP (fD i) λp=>vj (iK 3 1 1 nZ [(0,p)]) h λc q j=>((j.get (h.next)=some c/\O.beq c c=true)/\((eC g j=some i)/\((eC e j=some f)/\fg (eQ 3 1 8 f q j) λr s=>(j.next<=s.next/\oP (gq a) λt=>oP (fK 8 t) λu=>fg (gL 1 u r s) λH D=>(s.next<=D.next/\cP C mO [a,b] D λG v=>oP (gq a) λw=>dG 7 w v λx=>bO .gtr 3 x (V.I 32768) (oP (fm [nZ,nZ,nS,nS,nS] [(0,1),(1,1),(2,1),(3,1),(4,1)] []) λy=>fg (gL 5 l y v) λE F=>oP (gy 5 l F) λr4=>Q (V.tuple [r4,(V.I 2)]) F) (oP (ef .add 3 b nO) λz=>m [B,l,a,d,z] v))))))) (dN 9 a h λk=>oP (fD k) λA=>Gl C Q [B,l,a,k,A,nZ] h)
theorem N9{C Q}(I)(s:S5 I (E0 C Q)){k l h}(i:I k l h)(e:l.length=5:=by rfl):GL C Q l h:=JV.l5 I _ s i e
def Ft(C:fj)(Q:fo)(A:LP)(B o c p q d:V)(h:Hp):Prop:=bO .lss 3 d q (dX 1 p d h λr=>dN 7 c h λD=>dN 8 c h λE=>dN 7 c h λF=>dI 5 F r 4 h λG=>dX 1 E G h λH=>oP (gP 5 D r) λI=>oP (fK 4 I) λJ=>fg (gL 1 J H h) λvu P=>(h.next<=P.next/\oP (ef .add 3 d nO) λK=>A [B,o,c,p,q,K] P)) (oP (fK 0 B) λe=>oP (eC e h) λf=>oP (fK 1 B) λg=>oP (eC g h) λi=>oP (gq c) λL=>oP (fK 10 L) λj=>oP (eC j h) λk=>vj (zC 29 [nZ,nZ,nS,nS,nS]) h λa l n=>((n.get (h.next)=some a/\O.beq a a=true)/\((eC j n=some k)/\((eC g n=some i)/\((eC e n=some f)/\cP C mZ [c] n λM m=>(n.next<=m.next/\oP (fm [nZ,nZ,nS,nS,nS] [(0,1),(1,1),(2,1),(3,1),(4,1)] [(0,f),(1,i),(3,k),(4,M)]) λs=>((m.get (h.next)=some a/\O.beq a a=true)/\((eC j m=some k)/\((eC g m=some i)/\((eC e m=some f)/\fg (gL 5 l s m) λR N=>(m.next<=N.next/\dN 7 c N λt=>cP C qM [t] N λb S=>oP (Dh 0 b) λu=>oP (Dh 1 b) λv=>bO .neq 40 v nZ (oP (fm [nZ,nZ,nS,nS,nS] [(0,1),(1,1),(2,1),(3,1),(4,1)] []) λw=>fg (gL 5 o w S) λT U=>oP (gy 5 o U) λr4=>Q (V.tuple [r4,(V.I 2)]) U) (oP (fK 2 l) λx=>fg (gL 1 x u S) λW X=>oP (gy 5 l X) λy=>fg (gL 5 o y X) λY Z=>oP (gy 5 o Z) λz=>Q (V.tuple [z,nZ]) Z))))))))))))
theorem NC{C Q}(I)(s:S6 I (Ft C Q)){k l h}(i:I k l h)(e:l.length=6:=by rfl):Gl C Q l h:=JV.l6 I _ s i e
def L4(C:fj)(Q:fo)(x y:V)(h:Hp):Prop:=hZ (nj 34 x) h λb z=>hZ (nj 37 y) z λt A=>hZ (zC 29 [nZ,nZ,nS,nS,nS]) A λd u=>oP (gy 5 b u) λe=>cP C tL [e] u λf g=>oP (qH .not f) λa=>oP (gW false a) λB=>oP (gV B (gy 5 b g)) λi=>oP (gW false a) λD=>oP (gV D (gy 2 t g)) λj=>oP (gW false a) λE=>oP (gC E (some (wK,[i,j]))) λF=>AS C F g λk c=>oP (mm a (qH .not k)) λl=>bP l (oP (fm [nZ,nZ,nS,nS,nS] [(0,1),(1,1),(2,1),(3,1),(4,1)] []) λm=>fg (gL 5 d m c) λG v=>oP (gy 5 d v) λr4=>Q (V.tuple [r4,nO]) v) (oP (gy 2 t c) λn=>oP (fm [nS,nZ] [(0,2)] [(0,n)]) λo=>oP (gy 5 b c) λp=>oP (fm [nS,nZ,nZ,nZ,nS,nS,nS,nS,nS,nS,nS] [(0,2),(2,5),(7,1),(8,1),(9,1),(10,1)] [(0,o),(1,p)]) λq=>hZ (nj 99 q) c λr w=>dG 3 b w λs=>GL C Q [b,d,r,s,nZ] w)
theorem RT{C}(s:C.start=fy){a b h Q}(k:C.K Bg [a,b] h=none)(H:L4 C Q a b h):cP C Bg [a,b] h Q:=cP.vd t8 s (by unfold P0;exact Tryz.func8) k H
def t28:List (Nat×List Nat):=[(14,[0,1,4]),(87,[0,1,4,42,43,44])]
def jM(C:fj)(Q:fo):LP:=JV C Tryz.f28 t28 7 [0,1,4] [] Q
def tj(C:fj)(Q:fo):LP:=JV C Tryz.f28 t28 43 [0,1,4,42,43,44] [] Q
def sS(C:fj)(Q:fo)(d e c:V)(h:Hp):Prop:=dF 0 c h λa=>oP (fD a) λb=>tj C Q [d,e,c,a,b,nZ] h
theorem B4{C Q}:R3 (sS C Q) (jM C Q):=JV.r3 _
def td(C:fj)(Q:fo)(m:LP)(a B b d e c:V)(h:Hp):Prop:=bO .lss 3 c e (dX 1 d c h λn=>cP C nq [a,n] h λE F=>oP (ef .add 3 c nO) λo=>m [a,B,b,d,e,o] F) (dF 1 b h λf=>bO .eql 3 f nO (dY 3 b 1 nZ h λp=>cP C lV [a,B,p] h λG D=>oP (fm [nZ,nZ,nZ,nZ,nZ] [(0,1),(1,1),(2,1),(3,1),(4,1)] [(0,(V.I 23))]) λq=>dY 3 b 1 nZ D λr=>cP C j8 [a,q,r] D λH I=>Q (V.tuple []) I) (bO .eql 3 f (V.I 2) (dF 2 b h λs=>oP (fK 3 b) λg=>oP (eC g h) λi=>oP (gP 1 i nO) λj=>oP (eC j h) λk=>cP C gR [a,s,(V.I 12)] h λt l=>(h.next<=l.next/\oP (fm [nZ,nZ,nZ,nZ,nZ] [(0,1),(1,1),(2,1),(3,1),(4,1)] [(0,(V.I 24)),(1,t)]) λu=>((eC j l=some k)/\((eC g l=some i)/\cP C j8 [a,u,k] l λJ v=>(l.next<=v.next/\oP (fm [nZ,nZ,nZ,nZ,nZ] [(0,1),(1,1),(2,1),(3,1),(4,1)] [(0,(V.I 23))]) λw=>dY 3 b 1 nZ v λx=>cP C j8 [a,w,x] v λK L=>Q (V.tuple []) L))))) (dF 5 b h λy=>cP C j7 [a,y,(V.I (-1))] h λz M=>oP (fm [nZ,nZ,nZ,nZ,nZ] [(0,1),(1,1),(2,1),(3,1),(4,1)] [(0,(V.I 27)),(4,z)]) λA=>cP C fV [a,A] M λN O=>Q (V.tuple []) O)))
theorem CM{C Q}(I)(s:S6 I (td C Q)){k l h}(i:I k l h)(e:l.length=6:=by rfl):tj C Q l h:=JV.l6 I _ s i e
def xd(C:fj)(Q:fo)(c d:V)(h:Hp):Prop:=oP (gq c) λy=>oP (fK 2 y) λz=>dF 3 z h λe=>oP (gP 6 e d) λf=>oP (gy 6 f h) λg=>hZ (zC 79 [nS,nZ,nZ,nS,nS,nZ]) h λb A=>fg (gL 6 b g A) λE a=>dG 4 b a λi=>oP (ef .eql 3 i nO) λj=>oP (iM j (oB (some c) λk=>oB (gq k) λl=>oB (fK 2 l) λm=>oB (fK 3 m) λn=>oB (eC n a) λo=>oB (fK 4 b) λp=>oB (eC p a) λq=>oB (gP 1 q nZ) λr=>oB (eC r a) λs=>oB (gP 6 o s) λt=>oB (fK 1 t) λu=>oB (eC u a) λv=>ef .eql 3 v (V.I 2))) λw=>bP w (dY 4 b 1 nZ a λx=>cP C lV [c,x,d] a λB D=>jM C Q [c,d,b] D) (jM C Q [c,d,b] a)
theorem Fz{C}(s:C.start=fy){a b h Q}(k:C.K mO [a,b] h=none)(H:xd C Q a b h):cP C mO [a,b] h Q:=cP.vd t28 s (by unfold P0;exact Tryz.func28) k H
def t29:List (Nat×List Nat):=[(87,[0,3,10,11,12]),(1942,[0,3,10,11,12]),(39319,[0,3,4,5,10,11,12])]
def tH(C:fj)(Q:fo):LP:=JV C Tryz.f29 t29 43 [0,3,10,11,12] [] Q
def lG(C:fj)(Q:fo)(a:LP):LP:=JV C Tryz.f29 t29 971 [0,3,10,11,12] [kf [0,3,10,11,12] a] Q
def ti(C:fj)(Q:fo)(a:LP):LP:=JV C Tryz.f29 t29 19659 [0,3,4,5,10,11,12] [kf [0,3,10,11,12] a] Q
def tN(C:fj)(Q:fo)(d:LP)(l e b c a:V)(h:Hp):Prop:=bO .lss 3 a c (oP (gP 6 b a) λf=>oP (gy 6 f h) λg=>hZ (zC 81 [nZ,nZ,nZ,nZ,nS,nZ]) h λi m=>fg (gL 6 i g m) λn j=>dF 0 i j λk=>bO .neq 3 k nO (lG C Q d [l,e,b,c,a] j) (ti C Q d [l,e,a,i,b,c,a] j)) (Q e h)
theorem CK{C Q}(I)(s:S5 I (tN C Q)){k l h}(i:I k l h)(e:l.length=5:=by rfl):tH C Q l h:=JV.l5 I _ s i e
def tB(C:fj)(Q:fo)(a:LP)(f g b c d:V)(h:Hp):Prop:=oP (ef .add 3 d nO) λe=>a [f,g,b,c,e] h
theorem CB{C Q a}:R5 (tB C Q a) (lG C Q a):=JV.r5 _
def tJ(C:fj)(Q:fo)(i:LP)(j:LP)(k f w l a b c:V)(h:Hp):Prop:=oP (fD f) λm=>dF 3 l h λn=>bO .leq 2 m n (oP (fm [nZ,nZ] [(0,1),(1,1)] [(0,(V.I 4))]) λo=>hZ (iK 46 2 1 (V.agg [nZ,nZ]) [(0,o)]) h λp y=>fg (eQ 46 2 16 f p y) λq z=>j [k,q,w,l,a,b,c] z) (oP (fK 3 l) λd=>oP (eC d h) λe=>oP (gq k) λr=>oP (fK 0 r) λs=>oP (gy 2 s h) λt=>cP C iV [t,w] h λu g=>(h.next<=g.next/\oP (gP 2 f e) λv=>((eC d g=some e)/\fg (gL 2 v u g) λA x=>(g.next<=x.next/\lG C Q i [k,f,a,b,c] x))))
theorem Cb{C Q a}(I)(s:S7 I (tJ C Q a)){k l h}(i:I k l h)(e:l.length=7:=by rfl):ti C Q a l h:=JV.l7 I _ s i e
def xy(C:fj)(Q:fo)(c:V)(h:Hp):Prop:=oP (gq c) λd=>oP (fK 2 d) λe=>dF 2 e h λa=>oP (fD a) λb=>tH C Q [c,nS,a,b,nZ] h
theorem FM{C}(s:C.start=fy){a h Q}(k:C.K mZ [a] h=none)(H:xy C Q a h):cP C mZ [a] h Q:=cP.vd t29 s (by unfold P0;exact Tryz.func29) k H
def t65:List (Nat×List Nat):=[(39,[0,1,6,7]),(351,[0,7,8,40,41,42]),(7774,[0,7,8,40,41,42]),(383,[0,85,86,87])]
def ud(C:fj)(Q:fo):LP:=JV C Tryz.f65 t65 19 [0,1,6,7] [] Q
def vx(C:fj)(Q:fo):LP:=JV C Tryz.f65 t65 175 [0,7,8,40,41,42] [] Q
def lH(C:fj)(Q:fo)(a:LP):LP:=JV C Tryz.f65 t65 3887 [0,7,8,40,41,42] [kf [0,7,8,40,41,42] a] Q
def tS(C:fj)(Q:fo):LP:=JV C Tryz.f65 t65 191 [0,85,86,87] [] Q
def uY(C:fj)(Q:fo)(d:LP)(r s b c:V)(h:Hp):Prop:=dG 4 b h λe=>oP (ef .sub 3 e nO) λf=>oP (ef .lss 3 c f) λg=>oP (iM g (oB (fK 4 b) λi=>oB (eC i h) λj=>oB (some c) λk=>oB (gP 1 j k) λl=>oB (eC l h) λm=>oB (some s) λn=>ef .neq 3 m n)) λo=>bP o (oP (ef .add 3 c nO) λp=>d [r,s,b,p] h) (dF 0 b h λa=>oP (fD a) λq=>vx C Q [r,c,nS,a,q,nZ] h)
theorem CP{C Q}(I)(s:S4 I (uY C Q)){k l h}(i:I k l h)(e:l.length=4:=by rfl):ud C Q l h:=JV.l4 I _ s i e
def uB(C:fj)(Q:fo)(j:LP)(i y z d e b:V)(h:Hp):Prop:=bO .lss 3 b e (dX 1 d b h λk=>oP (gq i) λA=>oP (fK 2 A) λB=>dF 2 B h λD=>oP (gP 6 D k) λE=>oP (gy 6 E h) λF=>hZ (zC 81 [nZ,nZ,nZ,nZ,nS,nZ]) h λf U=>fg (gL 6 f F U) λX a=>dF 0 f a λG=>bO .eql 3 G (V.I 21) (oP (gq i) λH=>oP (fK 0 H) λI=>oP (fK 0 I) λJ=>oP (fK 0 J) λl=>oP (eC l a) λm=>oP (fK 4 f) λn=>oP (eC n a) λo=>oP (gP 1 o y) λp=>oP (eC p a) λq=>oP (gP 1 m q) λr=>oP (eC r a) λs=>oP (gq i) λK=>oP (fK 0 K) λL=>oP (fK 0 L) λM=>oP (fK 0 M) λt=>oP (eC t a) λu=>oP (gP 1 u k) λv=>oP (eC v a) λw=>oP (fm [nZ,nZ] [(0,1),(1,1)] [(0,s),(1,w)]) λN=>vj (iK 177 2 1 (V.agg [nZ,nZ]) [(0,N)]) a λg P c=>((c.get (a.next)=some g/\O.beq g g=true)/\((eC v c=some w)/\((eC t c=some u)/\((eC r c=some s)/\((eC p c=some q)/\((eC n c=some o)/\((eC l c=some m)/\fg (eQ 177 2 16 z P c) λR T=>(c.next<=T.next/\lH C Q j [i,y,R,d,e,b] T))))))))) (lH C Q j [i,y,z,d,e,b] a)) (cP C AY [z,(V.I 15)] h λx W=>oP (fD x) λS=>tS C Q [i,x,S,nZ] W)
theorem Dl{C Q}(I)(s:S6 I (uB C Q)){k l h}(i:I k l h)(e:l.length=6:=by rfl):vx C Q l h:=JV.l6 I _ s i e
def tq(C:fj)(Q:fo)(a:LP)(f g i b c d:V)(h:Hp):Prop:=oP (ef .add 3 d nO) λe=>a [f,g,i,b,c,e] h
theorem Cg{C Q a}:R6 (tq C Q a) (lH C Q a):=JV.r6 _
def uc(C:fj)(Q:fo)(j:LP)(r c d a:V)(h:Hp):Prop:=bO .lss 3 a d (oP (gP 2 c a) λk=>oP (gy 2 k h) λl=>hZ (zC 177 [nZ,nZ]) h λb t=>fg (gL 2 b l t) λv g=>dF 0 b g λm=>oP (fK 1 b) λe=>oP (eC e g) λf=>cP C wB [m] g λn i=>(g.next<=i.next/\((eC e i=some f)/\cP C wB [f] i λo p=>(i.next<=p.next/\cP C og [r,n,o] p λu s=>(p.next<=s.next/\oP (ef .add 3 a nO) λq=>j [r,c,d,q] s))))) (Q (V.tuple []) h)
theorem Dv{C Q}(I)(s:S4 I (uc C Q)){k l h}(i:I k l h)(e:l.length=4:=by rfl):tS C Q l h:=JV.l4 I _ s i e
def zo(C:fj)(Q:fo)(f i j:V)(h:Hp):Prop:=oP (gq f) λa=>oP (fK 2 a) λb=>dF 3 b h λc=>oP (gP 6 c j) λd=>oP (gy 6 d h) λe=>hZ (zC 79 [nS,nZ,nZ,nS,nS,nZ]) h λg k=>fg (gL 6 g e k) λm l=>ud C Q [f,i,g,nZ] l
theorem Hg{C}(s:C.start=fy){a b c h Q}(k:C.K lV [a,b,c] h=none)(H:zo C Q a b c h):cP C lV [a,b,c] h Q:=cP.vd t65 s (by unfold P0;exact Tryz.func65) k H
def t66:List (Nat×List Nat):=[(54,[0,1,4,20,37]),(262134,[0,1,4,110]),(1966070,[0,1,4,9])]
def lK(C:fj)(Q:fo):LP:=JV C Tryz.f66 t66 27 [0,1,4,20,37] [] Q
def ir(C:fj)(Q:fo):LP:=JV C Tryz.f66 t66 131067 [0,1,4,110] [] Q
def kR(C:fj)(Q:fo):LP:=JV C Tryz.f66 t66 983035 [0,1,4,9] [] Q
def tg(C:fj)(Q:fo)(b d c a r:V)(h:Hp):Prop:=bP r (Q (V.tuple []) h) (bO .eql 3 a (V.I 2) (dF 3 c h λs=>oP (fm [nZ,nZ,nZ,nZ,nZ] [(0,1),(1,1),(2,1),(3,1),(4,1)] [(0,nO),(4,s)]) λt=>cP C kH [b,d,t] h λX Y=>Q (V.tuple []) Y) (bO .eql 3 a (V.I 19) (dF 1 c h λu=>cP C gR [b,u,(V.I 12)] h λv p=>dF 2 c p λw=>oP (fK 3 c) λj=>oP (eC j p) λk=>cP C gR [b,w,(V.I 13)] p λx q=>(p.next<=q.next/\oP (fm [nZ,nZ,nZ,nZ,nZ] [(0,1),(1,1),(2,1),(3,1),(4,1)] [(0,(V.I 21)),(1,v),(2,x),(4,k)]) λy=>((eC j q=some k)/\cP C fV [b,y] q λZ R=>(q.next<=R.next/\Q (V.tuple []) R)))) (bO .eql 3 a (V.I 20) (dF 1 c h λz=>cP C gR [b,z,(V.I 12)] h λA S=>dF 2 c S λB=>cP C gR [b,B,(V.I 13)] S λD T=>dY 4 c 1 nZ T λE=>cP C gR [b,E,(V.I 14)] T λF h7=>oP (fm [nZ,nZ,nZ,nZ,nZ] [(0,1),(1,1),(2,1),(3,1),(4,1)] [(0,(V.I 22)),(1,A),(2,D),(3,F)]) λG=>cP C fV [b,G] h7 λaa h8=>Q (V.tuple []) h8) (bO .eql 3 a (V.I 22) (dF 1 c h λH=>cP C gR [b,H,(V.I 12)] h λI U=>dF 5 c U λJ=>cP C j7 [b,J,d] U λK L=>oP (fm [nZ,nZ,nZ,nZ,nZ] [(0,1),(1,1),(2,1),(3,1),(4,1)] [(0,(V.I 25)),(1,I),(4,K)]) λM=>cP C fV [b,M] L λab N=>Q (V.tuple []) N) (bO .eql 3 a (V.I 23) (dF 5 c h λl=>cP C j7 [b,l,d] h λm O=>oP (fm [nZ,nZ,nZ,nZ,nZ] [(0,1),(1,1),(2,1),(3,1),(4,1)] [(0,(V.I 26)),(4,m)]) λn=>cP C fV [b,n] O λW P=>Q (V.tuple []) P) (oP (ef .eql 3 a (V.I 8)) λe=>bP e (ir C Q [b,d,c,e] h) (oP (ef .eql 3 a (V.I 9)) λf=>bP f (ir C Q [b,d,c,f] h) (oP (ef .eql 3 a (V.I 15)) λg=>bP g (ir C Q [b,d,c,g] h) (oP (ef .eql 3 a (V.I 16)) λi=>bP i (ir C Q [b,d,c,i] h) (oP (ef .eql 3 a (V.I 17)) λo=>ir C Q [b,d,c,o] h))))))))))
theorem BR{C Q}:R5 (tg C Q) (lK C Q):=JV.r5 _
def rN(C:fj)(Q:fo)(b k a c:V)(h:Hp):Prop:=bP c (dF 3 a h λd=>dF 0 a h λe=>bO .neq 3 e (V.I 17) (kR C Q [b,k,a,nZ] h) (kR C Q [b,k,a,d] h)) (dF 1 a h λl=>cP C gR [b,l,(V.I 12)] h λm i=>dF 0 a i λn=>oP (fK 2 a) λf=>oP (eC f i) λg=>cP C Cj [n] i λo j=>(i.next<=j.next/\((eC f j=some g)/\cP C gR [b,g,(V.I 13)] j λp q=>(j.next<=q.next/\oP (fm [nZ,nZ,nZ,nZ,nZ] [(0,1),(1,1),(2,1),(3,1),(4,1)] [(0,o),(2,m),(3,p)]) λr=>cP C kH [b,k,r] q λt s=>(q.next<=s.next/\Q (V.tuple []) s)))))
theorem Bx{C Q}:R4 (rN C Q) (ir C Q):=JV.r4 _
def rY(C:fj)(Q:fo)(j n k o:V)(h:Hp):Prop:=dF 0 k h λc=>oP (fK 1 k) λa=>oP (eC a h) λb=>cP C Cj [c] h λd g=>(h.next<=g.next/\((eC a g=some b)/\cP C gR [j,b,(V.I 12)] g λe i=>(g.next<=i.next/\oP (fm [nZ,nZ,nZ,nZ,nZ] [(0,1),(1,1),(2,1),(3,1),(4,1)] [(0,d),(2,e),(4,o)]) λf=>cP C kH [j,n,f] i λl m=>(i.next<=m.next/\Q (V.tuple []) m))))
theorem BO{C Q}:R4 (rY C Q) (kR C Q):=JV.r4 _
def xH(C:fj)(Q:fo)(d e:V)(h:Hp):Prop:=oP (gq d) λf=>oP (fK 2 f) λg=>dF 2 g h λi=>oP (gP 6 i e) λj=>oP (gy 6 j h) λk=>hZ (zC 81 [nZ,nZ,nZ,nZ,nS,nZ]) h λc n=>fg (gL 6 c k n) λo l=>dF 0 c l λa=>oP (ef .eql 3 a nO) λb=>bP b (lK C Q [d,e,c,a,b] l) (oP (ef .eql 3 a (V.I 21)) λm=>lK C Q [d,e,c,a,m] l)
theorem GJ{C}(s:C.start=fy){a b h Q}(k:C.K nq [a,b] h=none)(H:xH C Q a b h):cP C nq [a,b] h Q:=cP.vd t66 s (by unfold P0;exact Tryz.func66) k H
def t67:List (Nat×List Nat):=[]
def zd(C:fj)(Q:fo)(g v w:V)(h:Hp):Prop:=hZ (nj 102 v) h λt x=>oP (fK 4 t) λy=>fg (gL 1 y w x) λB i=>oP (gq g) λj=>oP (fK 9 j) λb=>oP (eC b i) λc=>oP (gq g) λk=>oP (fK 7 k) λd=>oP (eC d i) λe=>oP (fD e) λl=>vj (iK 3 1 1 nZ [(0,l)]) i λa m f=>((f.get (i.next)=some a/\O.beq a a=true)/\((eC d f=some e)/\((eC b f=some c)/\fg (eQ 3 1 8 c m f) λn o=>(f.next<=o.next/\oP (gq g) λp=>oP (fK 9 p) λq=>fg (gL 1 q n o) λu r=>(o.next<=r.next/\oP (gy 5 t r) λs=>cP C fV [g,s] r λz A=>Q (V.tuple []) A)))))
theorem HJ{C}(s:C.start=fy){a b c h Q}(k:C.K j8 [a,b,c] h=none)(H:zd C Q a b c h):cP C j8 [a,b,c] h Q:=cP.vd t67 s (by unfold P0;exact Tryz.func67) k H
def t68:List (Nat×List Nat):=[]
def Af(C:fj)(Q:fo)(k m l:V)(h:Hp):Prop:=oP (gq k) λn=>oP (fK 0 n) λc=>oP (gy 2 c h) λd=>cP C iV [d,m] h λe o=>hZ (zC 46 [nZ,nZ]) o λb p=>fg (gL 2 b e p) λs a=>dF 0 b a λf=>bO .eql 3 f nO (dF 1 b a λg=>Q g a) (dF 1 b a λi=>oP (fm [nZ,nZ,nZ,nZ,nZ] [(0,1),(1,1),(2,1),(3,1),(4,1)] [(0,(V.I 3)),(1,l),(4,i)]) λj=>cP C fV [k,j] a λq r=>Q l r)
theorem IP{C}(s:C.start=fy){a b c h Q}(k:C.K gR [a,b,c] h=none)(H:Af C Q a b c h):cP C gR [a,b,c] h Q:=cP.vd t68 s (by unfold P0;exact Tryz.func68) k H
def t69:List (Nat×List Nat):=[]
def z8(C:fj)(Q:fo)(j p:V)(h:Hp):Prop:=hZ (nj 102 p) h λk b=>oP (gq j) λq=>oP (fK 7 q) λl=>oP (eC l b) λm=>oP (gy 5 k b) λn=>vj (iK 102 5 1 (V.agg [nZ,nZ,nZ,nZ,nZ]) [(0,n)]) b λc d a=>((a.get (b.next)=some c/\O.beq c c=true)/\((gy 5 k a=some n)/\((eC l a=some m)/\fg (eQ 102 5 40 m d a) λe f=>(a.next<=f.next/\oP (gq j) λg=>oP (fK 7 g) λi=>fg (gL 1 i e f) λr o=>(f.next<=o.next/\Q (V.tuple []) o)))))
theorem IG{C}(s:C.start=fy){a b h Q}(k:C.K fV [a,b] h=none)(H:z8 C Q a b h):cP C fV [a,b] h Q:=cP.vd t69 s (by unfold P0;exact Tryz.func69) k H
def t70:List (Nat×List Nat):=[(175,[3,7,8,23,24,25])]
def uP(C:fj)(Q:fo):LP:=JV C Tryz.f70 t70 87 [3,7,8,23,24,25] [] Q
def vC(C:fj)(Q:fo)(B:LP)(c r D s t d:V)(h:Hp):Prop:=bO .lss 3 d t (oP (gP 4 s d) λE=>oP (gy 4 E h) λF=>hZ (zC 85 [nZ,nZ,nS,nS]) h λa h1=>fg (gL 4 a F h1) λvu e=>oP (fK 0 r) λf=>oP (eC f e) λg=>oP (fK 0 a) λi=>oP (eC i e) λj=>oP (fK 1 a) λk=>oP (eC k e) λl=>dF 2 a e λG=>oP (fK 3 a) λu=>oP (eC u e) λv=>gO C (fX D [G]) e λH m=>(e.next<=m.next/\((eC u m=some v)/\((eC k m=some l)/\((eC i m=some j)/\((eC f m=some g)/\gO C (fX D [v]) m λI J=>(m.next<=J.next/\oP (fm [nZ,nZ,nS,nS] [(0,1),(1,1),(2,1),(3,1)] [(0,j),(1,l),(2,H),(3,I)]) λK=>vj (iK 48 4 1 (V.agg [nZ,nZ,nS,nS]) [(0,K)]) J λn L q=>((q.get (J.next)=some n/\O.beq n n=true)/\((eC k q=some l)/\((eC i q=some j)/\((eC f q=some g)/\fg (eQ 48 4 64 g L q) λM N=>(q.next<=N.next/\oP (fK 0 r) λP=>fg (gL 1 P M N) λae h7=>(N.next<=h7.next/\oP (ef .add 3 d nO) λR=>B [c,r,D,s,t,R] h7))))))))))))) (oP (eC c h) λo=>oP (eC c h) λw=>oP (gq w) λS=>oP (fK 10 S) λx=>oP (eC x h) λy=>oP (gy 3 r h) λz=>vj (iK 51 3 1 (V.agg [nS,nZ,nZ]) [(0,z)]) h λT U p=>((p.get (h.next)=some T/\O.beq T T=true)/\((gy 3 r p=some z)/\((eC x p=some y)/\((eC c p=some w)/\((eC c p=some o)/\fg (eQ 51 3 40 y U p) λW A=>(p.next<=A.next/\oP (gq o) λX=>oP (fK 10 X) λY=>((eC c A=some o)/\fg (gL 1 Y W A) λag b=>(A.next<=b.next/\oP (eC c b) λZ=>oP (gq Z) λaa=>dG 10 aa b λab=>oP (ef .sub 3 ab nO) λac=>Q ac b)))))))))
theorem CT{C Q}(I)(s:S6 I (vC C Q)){k l h}(i:I k l h)(e:l.length=6:=by rfl):uP C Q l h:=JV.l6 I _ s i e
def za(C:fj)(Q:fo)(l j m:V)(h:Hp):Prop:=hZ (nj 95 l) h λb n=>oP (fm [nS,nZ,nZ] [(0,1),(1,1),(2,1)] [(1,j),(2,m)]) λc=>hZ (zC 51 [nS,nZ,nZ]) n λk o=>fg (gL 3 k c o) λp d=>oP (eC b d) λe=>oP (gq e) λf=>oP (fK 2 f) λg=>dJ 4 g 1 j 0 d λa=>oP (fD a) λi=>uP C Q [b,k,(V.func ku [] [b]),a,i,nZ] d
theorem Hq{C}(s:C.start=fy){a b c h Q}(k:C.K j7 [a,b,c] h=none)(H:za C Q a b c h):cP C j7 [a,b,c] h Q:=cP.vd t70 s (by unfold P0;exact Tryz.func70) k H
def t101:List (Nat×List Nat):=[(87,[1,4,7,8,9])]
def sj(C:fj)(Q:fo):LP:=JV C Tryz.f101 t101 43 [1,4,7,8,9] [] Q
def rQ(C:fj)(Q:fo)(a:LP)(m n o p b:V)(h:Hp):Prop:=bO .lss 3 b p (dX 1 o b h λc=>oP (eC m h) λd=>oP (gq d) λe=>oP (fK 0 e) λf=>oP (gy 2 f h) λg=>cP C iV [g,c] h λi q=>hZ (iK 46 2 1 (V.agg [nZ,nZ]) [(0,i)]) q λj r=>fg (eQ 46 2 16 n j r) λk s=>oP (ef .add 3 b nO) λl=>a [m,k,o,p,l] s) (Q n h)
theorem BK{C Q}(I)(s:S5 I (rQ C Q)){k l h}(i:I k l h)(e:l.length=5:=by rfl):sj C Q l h:=JV.l5 I _ s i e
def vY(C:fj)(Q:fo)(a b:V)(h:Hp):Prop:=oP (fD a) λc=>sj C Q [b,nS,a,c,nZ] h
theorem EJ{C}(s:C.start=fy){a b h Q}(k:C.K ku [a,b] h=none)(H:vY C Q a b h):cP C ku [a,b] h Q:=cP.vd t101 s (by unfold P0;exact Tryz.func101) k H
def t97:List (Nat×List Nat):=[(30,[0,5,6])]
def mf(C:fj)(Q:fo):LP:=JV C Tryz.f97 t97 15 [0,5,6] [] Q
def u9(C:fj)(Q:fo)(g a i:V)(h:Hp):Prop:=dF 0 a h λb=>bO .eql 3 b nO (dF 1 a h λc=>oP (fm [nZ,nZ,nZ,nZ,nZ] [(0,1),(1,1),(2,1),(3,1),(4,1)] [(0,(V.I 2)),(1,c),(2,i)]) λd=>cP C fV [g,d] h λj k=>Q (V.tuple []) k) (dF 1 a h λe=>oP (fm [nZ,nZ,nZ,nZ,nZ] [(0,1),(1,1),(2,1),(3,1),(4,1)] [(0,(V.I 4)),(1,i),(4,e)]) λf=>cP C fV [g,f] h λl m=>Q (V.tuple []) m)
theorem CY{C Q}:R3 (u9 C Q) (mf C Q):=JV.r3 _
def zf(C:fj)(Q:fo)(b m n:V)(h:Hp):Prop:=hZ (nj 46 m) h λc o=>hZ (nj 46 n) o λd a=>dF 0 c a λp=>bO .eql 3 p nO (dF 1 c a λe=>mf C Q [b,d,e] a) (dF 0 d a λf=>bO .eql 3 f nO (dF 1 d a λg=>dF 1 c a λi=>oP (fm [nZ,nZ,nZ,nZ,nZ] [(0,1),(1,1),(2,1),(3,1),(4,1)] [(0,(V.I 3)),(1,g),(4,i)]) λj=>cP C fV [b,j] a λq r=>Q (V.tuple []) r) (dF 1 c a λk=>oP (fm [nZ,nZ,nZ,nZ,nZ] [(0,1),(1,1),(2,1),(3,1),(4,1)] [(0,(V.I 3)),(1,(V.I 13)),(4,k)]) λl=>cP C fV [b,l] a λs t=>mf C Q [b,d,(V.I 13)] t))
theorem HL{C}(s:C.start=fy){a b c h Q}(k:C.K og [a,b,c] h=none)(H:zf C Q a b c h):cP C og [a,b,c] h Q:=cP.vd t97 s (by unfold P0;exact Tryz.func97) k H
def t99:List (Nat×List Nat):=[(62,[0,5,6])]
def mD(C:fj)(Q:fo):LP:=JV C Tryz.f99 t99 31 [0,5,6] [] Q
def vT(C:fj)(Q:fo)(f i g:V)(h:Hp):Prop:=oP (gy 5 i h) λb=>cP C fV [f,b] h λj a=>dF 0 g a λc=>bO .eql 3 c (V.I 2) (dF 1 g a λd=>oP (fm [nZ,nZ,nZ,nZ,nZ] [(0,1),(1,1),(2,1),(3,1),(4,1)] [(0,(V.I 4)),(1,(V.I 14)),(4,d)]) λe=>cP C fV [f,e] a λk l=>Q (V.tuple []) l) (Q (V.tuple []) a)
theorem EH{C Q}:R3 (vT C Q) (mD C Q):=JV.r3 _
def zO(C:fj)(Q:fo)(d o p:V)(h:Hp):Prop:=hZ (nj 102 p) h λb l=>oP (gq d) λq=>oP (fK 0 q) λr=>oP (gy 2 r l) λe=>cP C iV [e,o] l λf s=>hZ (zC 46 [nZ,nZ]) s λa t=>fg (gL 2 a f t) λw u=>oP (fK 1 b) λg=>fg (gL 1 g (V.I 14) u) λm c=>dF 0 a c λi=>bO .eql 3 i nO (dF 1 a c λj=>oP (fK 1 b) λk=>fg (gL 1 k j c) λn v=>mD C Q [d,b,a] v) (mD C Q [d,b,a] c)
theorem IM{C}(s:C.start=fy){a b c h Q}(k:C.K kH [a,b,c] h=none)(H:zO C Q a b c h):cP C kH [a,b,c] h Q:=cP.vd t99 s (by unfold P0;exact Tryz.func99) k H
def t71:List (Nat×List Nat):=[]
def uW(C:fj)(Q:fo)(f g:V)(h:Hp):Prop:=hZ (nj 97 f) h λi j=>hZ (zC 46 [nZ,nZ]) j λc d=>oP (fK 0 i) λk=>dY 0 k 1 g d λa=>cP C wB [a] d λb l=>fg (gL 2 c b l) λm e=>oP (gy 2 c e) λr4=>Q r4 e
theorem Bi{C}(s:C.start=fy){a b h Q}(k:C.K iV [a,b] h=none)(H:uW C Q a b h):cP C iV [a,b] h Q:=cP.vd t71 s (by unfold P0;exact Tryz.func71) k H
def t98:List (Nat×List Nat):=[]
def M1(C:fj)(Q:fo)(c:V)(h:Hp):Prop:=hZ (zC 46 [nZ,nZ]) h λb d=>bO .lss 3 c (V.I 16) (oP (fm [nZ,nZ] [(0,1),(1,1)] [(0,nO),(1,c)]) λi=>fg (gL 2 b i d) λl e=>oP (gy 2 b e) λr2=>Q r2 e) (oP (ef .sub 3 c (V.I 16)) λj=>oP (fm [nZ,nZ] [(0,1),(1,1)] [(0,(V.I 2)),(1,j)]) λk=>fg (gL 2 b k d) λf g=>oP (gy 2 b g) λa=>Q a g)
theorem T2{C}(s:C.start=fy){a h Q}(k:C.K wB [a] h=none)(H:M1 C Q a h):cP C wB [a] h Q:=cP.vd t98 s (by unfold P0;exact Tryz.func98) k H
def t100:List (Nat×List Nat):=[]
def Pr(C:fj)(Q:fo)(a:V)(h:Hp):Prop:=bO .eql 3 a (V.I 17) (Q (V.I 19) h) (bO .eql 3 a (V.I 18) (Q (V.I 20) h) (oP (ef .add 3 (V.I 5) a) λc=>oP (ef .sub 3 c (V.I 3)) λb=>Q b h))
theorem Wt{C}(s:C.start=fy){a h Q}(k:C.K Cj [a] h=none)(H:Pr C Q a h):cP C Cj [a] h Q:=cP.vd t100 s (by unfold P0;exact Tryz.func100) k H
end
