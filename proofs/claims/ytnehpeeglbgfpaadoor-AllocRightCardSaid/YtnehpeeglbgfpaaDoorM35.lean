/- Parts. -/
import Derived.Test.YtnehpeeglbgfpaaDoorM14
set_option maxHeartbeats 4000000
namespace Go.Proofs.YtnehpeeglbgfpaaDoor.Hx
set_option maxRecDepth 100000
noncomputable section
def t3:List (Nat×List Nat):=[]
end
set_option maxRecDepth 100000
noncomputable section
def t29:List (Nat×List Nat):=[(43,[0,1,2,7])]
def pt(C:fg)(Q:fm):LP:=JV C Tryd.f29 t29 21 [0,1,2,7] [] Q
def oL(C:fg)(Q:fm)(c:LP)(v b d a:V)(h:Hp):Prop:=oP (fF b) λe=>bO .lss 3 a e (oP (ef .neq 3 a d) λf=>oP (jq f (oB (some v) λg=>oB (some a) λi=>oB (gy 1 g i) λj=>en j h)) λk=>oP (jq k (oB (some b) λl=>oB (some a) λm=>oB (gy 1 l m) λn=>oB (en n h) λo=>oB (some b) λp=>oB (some d) λq=>oB (gy 1 p q) λr=>oB (en r h) λs=>ef .eql 3 o s)) λt=>bP t (Q bT h) (oP (ef .add 3 a nO) λu=>c [v,b,d,u] h)) (Q bF h)
theorem xj{C Q}(I)(s:S4 I (oL C Q)){k l h}(i:I k l h)(e:l.length=4:=by rfl):pt C Q l h:=JV.l4 I _ s i e
def rN(C:fg)(Q:fm)(a b c:V)(h:Hp):Prop:=pt C Q [a,b,c,nZ] h
theorem zz{C}(s:C.start=fT){a b c h Q}(k:C.K jz [a,b,c] h=none)(H:rN C Q a b c h):cP C jz [a,b,c] h Q:=cP.vd t29 s (by unfold P0;exact Tryd.func29) k H
def t10:List (Nat×List Nat):=[(87,[1,2,3,7]),(351,[1,3,9,10]),(160351,[1,3,9,10,11,12,13]),(127582,[1,3,9,10,11,12,13]),(1864286,[1,3,9,10,11,12,13]),(389727,[1,3,9,10,11,12,13,15]),(46789215,[1,3,9,10,11,12,13,15,16])]
def oY(C:fg)(Q:fm):LP:=JV C Tryd.f10 t10 43 [1,2,3,7] [] Q
def pj(C:fg)(Q:fm):LP:=JV C Tryd.f10 t10 175 [1,3,9,10] [] Q
def oS(C:fg)(Q:fm)(a:LP):LP:=JV C Tryd.f10 t10 80175 [1,3,9,10,11,12,13] [kf [1,3,9,10] a] Q
def jE(C:fg)(Q:fm)(a:LP):LP:=JV C Tryd.f10 t10 63791 [1,3,9,10,11,12,13] [kf [1,3,9,10] a] Q
def jx(C:fg)(Q:fm)(a:LP)(b:LP):LP:=JV C Tryd.f10 t10 932143 [1,3,9,10,11,12,13] [kf [1,3,9,10] a,kf [1,3,9,10,11,12,13] b] Q
def pB(C:fg)(Q:fm)(a:LP):LP:=JV C Tryd.f10 t10 194863 [1,3,9,10,11,12,13,15] [kf [1,3,9,10] a] Q
def oR(C:fg)(Q:fm)(a:LP)(b:LP):LP:=JV C Tryd.f10 t10 23394607 [1,3,9,10,11,12,13,15,16] [kf [1,3,9,10] a,kf [1,3,9,10,11,12,13,15] b] Q
def pd(C:fg)(Q:fm)(d:LP)(a F e b:V)(h:Hp):Prop:=oP (fF a) λf=>bO .lss 3 b f (dX 1 a b h λg=>oP (ef .geq 3 g nZ) λi=>oP (jq i (oB (some a) λj=>oB (some b) λk=>oB (gy 1 j k) λl=>oB (en l h) λm=>ef .lss 3 m (V.I 12))) λn=>oP (mh n (oB (some a) λo=>oB (some b) λp=>oB (gy 1 o p) λq=>oB (en q h) λr=>oB (ef .geq 3 r (V.I 16)) λs=>oB (some s) λt=>jq t (oB (some a) λu=>oB (some b) λv=>oB (gy 1 u v) λw=>oB (en w h) λx=>oB (some F) λy=>oB (ef .add 3 (V.I 16) y) λz=>ef .lss 3 x z))) λA=>bN A (Q bF h) (oP (ef .add 3 b nO) λB=>d [a,F,e,B] h)) (oP (fZ 5 e h) λD=>cP C jP [D] h λc G=>oP (ML 0 c) λH=>oP (ML 1 c) λE=>pj C Q [a,e,E,nZ] G)
theorem xm{C Q}(I)(s:S4 I (pd C Q)){k l h}(i:I k l h)(e:l.length=4:=by rfl):oY C Q l h:=JV.l4 I _ s i e
def pz(C:fg)(Q:fm)(c:LP)(o d m a:V)(h:Hp):Prop:=dG 3 d h λe=>bO .lss 3 a e (dX 1 m a h λf=>dF 3 d h λg=>oP (gy 6 g a) λi=>oP (fZ 6 i h) λj=>iQ (zC 44 [nS,nZ,nZ,nS,nS,nZ]) h λb p=>fi (gW 6 b j p) λq n=>dG 0 b n λk=>oP (ef .sub 3 k nO) λl=>oS C Q c [o,d,m,a,f,b,l] n) (Q bT h)
theorem xk{C Q}(I)(s:S4 I (pz C Q)){k l h}(i:I k l h)(e:l.length=4:=by rfl):pj C Q l h:=JV.l4 I _ s i e
def pf(C:fg)(Q:fm)(e:LP)(p:LP)(q n T f a c b:V)(h:Hp):Prop:=bO .geq 3 b nZ (oP (fI 2 n) λr=>oP (en r h) λs=>oP (fI 0 c) λt=>oP (en t h) λu=>oP (gy 1 u b) λg=>oP (en g h) λi=>oP (gy 6 s i) λj=>oP (fZ 6 j h) λk=>uN (zC 46 [nZ,nZ,nZ,nZ,nS,nZ]) h λU d l=>((l.get (h.next)=some U/\O.beq U U=true)/\((fZ 6 j l=some k)/\((en g l=some i)/\((en t l=some u)/\((en r l=some s)/\fi (gW 6 d k l) λvu o=>(l.next<=o.next/\dF 0 d o λv=>oP (ef .eql 3 v (V.I 21)) λw=>oP (mh w (oB (fI 0 d) λx=>oB (en x o) λy=>ef .eql 3 y nO)) λz=>bP z (jE C Q e [q,n,T,f,a,c,b] o) (dY 0 c 1 b o λA=>cP C jz [a,q,A] o λB W=>bP B (Q bF W) (dY 0 c 1 b W λD=>oP (gy 1 a D) λE=>fi (gW 1 E bF W) λX Y=>oP (fZ 6 d Y) λF=>cP C jS [F] Y λG h5=>cP C gP [a,G] h5 λZ m=>dF 0 d m λH=>oP (ef .eql 3 H (V.I 22)) λI=>oP (mh I (oB (fI 0 d) λJ=>oB (en J m) λK=>ef .eql 3 K (V.I 23))) λL=>bP L (dF 4 n m λM=>dF 5 d m λN=>oP (gy 1 M N) λP=>oP (fZ 1 P m) λR=>cP C iq [R] m λS h7=>cP C gP [a,S] h7 λaa h8=>jx C Q e p [q,n,T,f,a,c,b] h8) (jx C Q e p [q,n,T,f,a,c,b] m)))))))))) (jE C Q e [q,n,T,f,a,c,b] h)
theorem xn{C Q a}(I)(s:S7 I (pf C Q a)){k l h}(i:I k l h)(e:l.length=7:=by rfl):oS C Q a l h:=JV.l7 I _ s i e
def nM(C:fg)(Q:fm)(a:LP)(f g i b c d e:V)(h:Hp):Prop:=pB C Q a [f,g,i,b,c,d,e,nZ] h
theorem wH{C Q a}:R7 (nM C Q a) (jE C Q a):=JV.r7 _
def nr(C:fg)(Q:fm)(g:LP)(a:LP)(i j k b c d e:V)(h:Hp):Prop:=oP (ef .sub 3 e nO) λf=>a [i,j,k,b,c,d,f] h
theorem wm{C Q a b}:R7 (nr C Q a b) (jx C Q a b):=JV.r7 _
def oQ(C:fg)(Q:fm)(b:LP)(j:LP)(k m n c d e f a:V)(h:Hp):Prop:=bO .leq 3 a f (dY 0 e 1 a h λg=>cP C jz [d,k,g] h λi o=>bP i (Q bF o) (oR C Q b j [k,m,n,c,d,e,f,a,nZ] o)) (oP (ef .add 3 c nO) λl=>b [k,m,n,l] h)
theorem xf{C Q a}(I)(s:S8 I (oQ C Q a)){k l h}(i:I k l h)(e:l.length=8:=by rfl):pB C Q a l h:=JV.l8 I _ s i e
def pb(C:fg)(Q:fm)(s:LP)(o:LP)(p:LP)(n q r d e a f b c:V)(h:Hp):Prop:=bO .lss 3 c b (dY 0 a 1 c h λg=>dX 1 n g h λi=>dY 0 a 1 b h λj=>dX 1 n j h λk=>bO .eql 3 i k (Q bF h) (oP (ef .add 3 c nO) λl=>p [n,q,r,d,e,a,f,b,l] h)) (oP (ef .add 3 b nO) λm=>o [n,q,r,d,e,a,f,m] h)
theorem xx{C Q a b}(I)(s:S9 I (pb C Q a b)){k l h}(i:I k l h)(e:l.length=9:=by rfl):oR C Q a b l h:=JV.l9 I _ s i e
def qZ(C:fg)(Q:fm)(m k a:V)(h:Hp):Prop:=iQ (sO 29 m) h λl b=>oP (fF k) λc=>dG 2 l b λd=>oP (ef .neq 3 c d) λe=>oP (mh e (oB (some a) λf=>ef .lss 3 f nZ)) λg=>oP (mh g (oB (some a) λi=>ef .gtr 3 i (V.I 399))) λj=>bP j (Q bF b) (oY C Q [k,a,l,nZ] b)
theorem zV{C}(s:C.start=fT){a b c h Q}(k:C.K gJ [a,b,c] h=none)(H:qZ C Q a b c h):cP C gJ [a,b,c] h Q:=cP.vd t10 s (by unfold P0;exact Tryd.func10) k H
section
variable (C:fg)(Q:X->fN->Hp->Prop)(ρ:fN)(h:Hp)
def k4:=Fe Tryd.f4
noncomputable def Yf:=k4.r
noncomputable def Yk:=k4.r.r
noncomputable def XO:=k4.r.r.r
noncomputable def WU:=k4.r.r.r.l.r
noncomputable def Xb:=k4.r.r.r.r
noncomputable def Yb:=andThen (Wp C 141 Xb Q) Q
noncomputable def Va:=k4.r.r.r.l.r.l.l
noncomputable def Y8(C:fg)(Q:XQ):XQ:=pE 0 Q
noncomputable def Xn:=k4.r.r.r.r.r
noncomputable def Yy:=k4.r.r.r.l.r.l.l.l.r
noncomputable def WN:=k4.r.r.r.l.r.l.l.r
noncomputable def Zk:=andThen (Wp C 141 WN Q) Q
noncomputable def Yu:=k4.r.r.r.r.r.l.r
noncomputable def XK:=k4.r.r.r.r.r.r
noncomputable def Zl:=andThen (Wp C 141 XK Q) Q
noncomputable def Uo:=k4.r.r.r.l.r.l.l.r.l.l.r
noncomputable def Uk:=k4.r.r.r.l.r.l.l.r.r
noncomputable def ZJ:=andThen (Wp C 141 Uk Q) Q
noncomputable def VV:=pE 1 (ZJ C Q)
noncomputable def UX:=k4.r.r.r.r.r.l.r.l.r
noncomputable def Up:=k4.r.r.r.r.r.r.r
noncomputable def US:=k4.r.r.r.l.r.l.l.r.l.l.r.l.r
noncomputable def QB:=k4.r.r.r.l.r.l.l.r.l.l.r.r
noncomputable def Y7:=andThen (Wp C 141 QB Q) Q
noncomputable def UE:=k4.r.r.r.r.r.r.r.l.r
noncomputable def UZ:=k4.r.r.r.r.r.r.r.r
noncomputable def X6:=andThen (Wp C 141 UZ Q) Q
noncomputable def Uz:=k4.r.r.r.l.r.l.l.r.l.l.r.r.r
noncomputable def Vw:=k4.r.r.r.r.r.r.r.l.r.l.l
noncomputable def Zb(C:fg)(Q:XQ):XQ:=pE 2 Q
noncomputable def Ur:=k4.r.r.r.r.r.r.r.r.r
noncomputable def Us:=k4.r.r.r.l.r.l.l.r.l.l.r.r.r.l.r
noncomputable def Sl:=k4.r.r.r.l.r.l.l.r.l.l.r.r.r.r
noncomputable def Y1:=andThen (Wp C 141 Sl Q) Q
noncomputable def Uh:=k4.r.r.r.r.r.r.r.l.r.l.l.l.r
noncomputable def UN:=k4.r.r.r.r.r.r.r.l.r.l.l.r
noncomputable def W1:=andThen (Wp C 141 UN Q) Q
noncomputable def Uq:=k4.r.r.r.r.r.r.r.l.r.l.l.r.r
noncomputable def Ss:=pE 0 (Yb C Q)
noncomputable def W4:=pE 2 (X6 C Q)
theorem e4:iE C 141 k4 Q ρ h=(iQ (sO 24 (ρ 0)) h λa b=>
 oP (some (V.bool false)) λc=>
 Wp C 141 Yf Q (eC (eC ρ 4 a) 8 c) b):=by kernel_rfl
theorem Y0:iE C 141 Yf Q ρ h=(oP (fZ 3 (ρ 4) h) λa=>
 Qa C ki [a] h λb d=>
 iQ (some (.cells 29 1 true false [(V.I 0),(V.I 0),V.ed,V.ed,V.ed],λl=> .ptr l 0)) d λc e=>
 fi (gW 5 c b e) λg f=>
 Wp C 141 Yk Q (eC (eC (eC ρ 17 a) 18 b) 9 c) f):=by kernel_rfl
theorem ZN:iE C 141 Yk Q ρ h=(oP (some (ρ 2)) λa=>
 Qa C fP [a,(V.I 40)] h λb e=>
 oP (fG [V.ed,(V.I 0)] [(0,1),(1,1)] [(1,b)]) λc=>
 iQ (some (.cells 32 1 true false [V.ed,(V.I 0)],λl=> .ptr l 0)) e λd f=>
 fi (gW 2 d c f) λi g=>
 Wp C 141 XO Q (eC (eC (eC (eC ρ 19 a) 20 b) 21 c) 10 d) g):=by kernel_rfl
theorem ZI:iE C 141 XO Q ρ h=(oP (some (V.I 0)) λa=>
 Wp C 141 WU (Yb C Q) (eC ρ 11 a) h):=by kernel_rfl
theorem YX:iE C 141 Xb Q ρ h=(oP (fZ 5 (ρ 9) h) λb=>
 Qa C mn [b] h λc i=>
 oP (some c) λa=>
 oP (ML 0 a) λd=>
 oP (ML 1 a) λe=>
 iQ (some (.cells 32 1 true false [V.ed,(V.I 0)],λl=> .ptr l 0)) i λf j=>
 fi (gW 2 f d j) λm k=>
 oP (some e) λg=>
 Wp C 141 Xn Q (eC (eC (eC (eC (eC (eC (eC ρ 56 b) 57 c) 55 a) 58 d) 59 e) 13 f) 14 g) k):=by kernel_rfl
theorem ZM:iE C 141 WU Q ρ h=(Wp C 141 (.loop Va) (Y8 C Q) ρ h):=by kernel_rfl
theorem Zh:iE C 141 Xn Q ρ h=(Qa C kW [] h λx i=>
 (h.next<=i.next/\
 oP (tk .not x) λj=>
 oP (some j) λd=>
 oP (gg false d) λb3=>
 oP (gV b3 (some (ρ 14))) λk=>
 oP (gg false d) λb4=>
 oP (gV b4 (ef .neq 33 k (V.I 0))) λl=>
 oP (ma d (V.bool true) l) λm=>
 oP (some m) λb=>
 oP (gg false b) λb7=>
 oP (gV b7 (fZ 5 (ρ 9) i)) λy=>
 oP (gg false b) λb8=>
 oP (gV b8 (fI 0 (ρ 13))) λn=>
 oP (gg false b) λb9=>
 oP (gV b9 (en n i)) λz=>
 oP (gg false b) λS=>
 oP (gV S (fI 1 (ρ 13))) λo=>
 oP (gg false b) λT=>
 oP (gV T (en o i)) λA=>
 ((gT T (en o i=some A))/\
 ((gT S (fI 1 (ρ 13)=some o))/\
 ((gT b9 (en n i=some z))/\
 ((gT b8 (fI 0 (ρ 13)=some n))/\
 ((gT b7 (fZ 5 (ρ 9) i=some y))/\
 ((some m=some b)/\
 ((ma d (V.bool true) l=some m)/\
 ((gT b4 (ef .neq 33 k (V.I 0)=some l))/\
 ((gT b3 (some (ρ 14)=some k))/\
 ((some j=some d)/\
 ((tk .not x=some j)/\
 oP (gg false b) λae=>
 oP (gC ae (some (gJ,[y,z,A]))) λag=>xa C ag i λB D=>
 (i.next<=D.next/\
 oP (gg false b) λU=>
 oP (gV U (tk .not B)) λp=>
 oP (ma b (V.bool true) p) λq=>
 oP (some q) λc=>
 oP (gg false c) λW=>
 oP (gV W (fZ 5 (ρ 9) D)) λE=>
 oP (gg false c) λX=>
 oP (gV X (fZ 2 (ρ 13) D)) λF=>
 ((gT X (fZ 2 (ρ 13) D=some F))/\
 ((gT W (fZ 5 (ρ 9) D=some E))/\
 ((some q=some c)/\
 ((ma b (V.bool true) p=some q)/\
 ((gT U (tk .not B=some p))/\
 oP (gg false c) λah=>
 oP (gC ah (some (j5,[E,F]))) λai=>xa C ai D λG e=>
 (D.next<=e.next/\
 oP (gg false c) λY=>
 oP (gV Y (tk .not G)) λr=>
 oP (ma c (V.bool true) r) λs=>
 oP (some s) λa=>
 oP (gg false a) λZ=>
 oP (gV Z (fZ 5 (ρ 9) e)) λH=>
 oP (gg false a) λaa=>
 oP (gV aa (fZ 2 (ρ 10) e)) λI=>
 oP (gg false a) λJ=>
 oP (gV J (fZ 5 (ρ 9) e)) λt=>
 oP (gg false a) λK=>
 oP (gV K (fI 0 (ρ 10))) λf=>
 oP (gg false a) λL=>
 oP (gV L (en f e)) λu=>
 oP (gg false a) λM=>
 oP (gV M (fI 1 (ρ 10))) λg=>
 oP (gg false a) λN=>
 oP (gV N (en g e)) λv=>
 ((gT N (en g e=some v))/\
 ((gT M (fI 1 (ρ 10)=some g))/\
 ((gT L (en f e=some u))/\
 ((gT K (fI 0 (ρ 10)=some f))/\
 ((gT J (fZ 5 (ρ 9) e=some t))/\
 ((gT aa (fZ 2 (ρ 10) e=some I))/\
 ((gT Z (fZ 5 (ρ 9) e=some H))/\
 ((some s=some a)/\
 ((ma c (V.bool true) r=some s)/\
 ((gT Y (tk .not G=some r))/\
 oP (gg false a) λaj=>
 oP (gC aj (some (j5,[H,I]))) λak=>xa C ak e λO R=>
 (e.next<=R.next/\
 ((gT N (en g R=some v))/\
 ((gT M (fI 1 (ρ 10)=some g))/\
 ((gT L (en f R=some u))/\
 ((gT K (fI 0 (ρ 10)=some f))/\
 ((gT J (fZ 5 (ρ 9) R=some t))/\
 oP (gg false a) λal=>
 oP (gC al (some (gJ,[t,u,v]))) λam=>xa C am R λP h5=>
 (R.next<=h5.next/\
 oP (gg false a) λab=>
 oP (gV ab (ef .neq 4 O P)) λw=>
 oP (ma a (V.bool true) w) λac=>
 ((ma a (V.bool true) w=some ac)/\
 ((gT ab (ef .neq 4 O P=some w))/\
 Wp C 141 Yu (Zl C Q) (eC (eC (eC (eC (eC (eC (eC (eC (eC (eC (eC (eC (eC (eC (eC (eC (eC (eC (eC (eC (eC (eC (eC (eC (eC (eC (eC (eC (eC (eC (eC (eC (eC ρ 60 x) 61 j) 62 d) 63 k) 64 l) 65 m) 66 b) 67 y) 68 n) 69 z) 70 o) 71 A) 72 B) 73 p) 74 q) 75 c) 76 E) 77 F) 78 G) 79 r) 80 s) 81 a) 82 H) 83 I) 85 t) 86 f) 87 u) 88 g) 89 v) 84 O) 90 P) 91 w) 92 ac) h5))))))))))))))))))))))))))))))))))))))):=by kernel_rfl
theorem Zi:iE C 141 XK Q ρ h=(uN (ju 3 1 0 (V.I 0) []) h λo j k=>
 oP (fI 0 (ρ 13)) λc=>
 oP (en c k) λd=>
 oP (fI 1 (ρ 13)) λa=>
 oP (en a k) λb=>
 uN (some (.cells 32 1 true false [V.ed,(V.I 0)],λl=> .ptr l 0)) k λg m i=>
 ((i.get (k.next)=some g/\O.beq g g=true)/\
 ((en a i=some b)/\
 ((fI 1 (ρ 13)=some a)/\
 ((en c i=some d)/\
 ((fI 0 (ρ 13)=some c)/\
 ((i.get (h.next)=some o/\O.beq o o=true)/\
 fi (fh 3 1 8 j d i) λe n=>
 (i.next<=n.next/\
 oP (fG [V.ed,(V.I 0)] [(0,1),(1,1)] [(0,e),(1,b)]) λf=>
 ((fG [V.ed,(V.I 0)] [(0,1),(1,1)] [(0,e),(1,b)]=some f)/\
 ((n.get (k.next)=some g/\O.beq g g=true)/\
 ((en a n=some b)/\
 ((fI 1 (ρ 13)=some a)/\
 fi (gW 2 m f n) λq p=>
 (n.next<=p.next/\
 Wp C 141 Up Q (eC (eC (eC (eC (eC (eC (eC (eC ρ 93 j) 94 c) 95 d) 97 a) 98 b) 15 m) 96 e) 99 f) p))))))))))))):=by kernel_rfl
theorem Zu:iE C 141 Va Q ρ h=(oP (some (ρ 11)) λa=>
 oP (fI 2 (ρ 9)) λb=>
 oP (en b h) λc=>
 oP (fF c) λd=>
 oP (ef .lss 3 a d) λe=>
 Wp C 141 Yy (Zk C Q) (eC (eC (eC (eC (eC ρ 22 a) 23 b) 24 c) 25 d) 26 e) h):=by kernel_rfl
theorem Zp:iE C 141 Yu Q ρ h=(oP (some (ρ 92)) λc=>
 bP c (
 oP (some (V.bool false)) λa=>
 Wp C 141 UX Q (eC ρ 8 a) h) (
 Q .normal ρ h)):=by kernel_rfl
theorem X9:iE C 141 Up Q ρ h=(oP (some (V.I 0)) λa=>
 Wp C 141 UE (X6 C Q) (eC ρ 16 a) h):=by kernel_rfl
theorem ZS:iE C 141 WN Q ρ h=(oP (some (ρ 11)) λa=>
 oP (some a) λb=>
 Wp C 141 Uo (VV C Q) (eC (eC ρ 29 a) 12 b) h):=by kernel_rfl
theorem Xg:iE C 141 UZ Q ρ h=(oP (fZ 5 (ρ 9) h) λg=>
 oP (fZ 2 (ρ 15) h) λi=>
 oP (fZ 5 (ρ 9) h) λc=>
 oP (fI 0 (ρ 15)) λa=>
 oP (en a h) λd=>
 oP (fI 1 (ρ 15)) λb=>
 oP (en b h) λe=>
 ((en b h=some e)/\
 ((fI 1 (ρ 15)=some b)/\
 ((en a h=some d)/\
 ((fI 0 (ρ 15)=some a)/\
 ((fZ 5 (ρ 9) h=some c)/\
 ((fZ 2 (ρ 15) h=some i)/\
 ((fZ 5 (ρ 9) h=some g)/\
 Qa C j5 [g,i] h λj l=>
 (h.next<=l.next/\
 ((en b l=some e)/\
 ((fI 1 (ρ 15)=some b)/\
 ((en a l=some d)/\
 ((fI 0 (ρ 15)=some a)/\
 ((fZ 5 (ρ 9) l=some c)/\
 Qa C gJ [c,d,e] l λk m=>
 (l.next<=m.next/\
 oP (ef .eql 4 j k) λf=>
 oP (some f) λn=>
 ((some f=some n)/\
 ((ef .eql 4 j k=some f)/\
 Wp C 141 Ur Q (eC (eC (eC (eC (eC (eC (eC (eC (eC (eC (eC ρ 131 g) 132 i) 134 c) 135 a) 136 d) 137 b) 138 e) 133 j) 139 k) 140 f) 8 n) m))))))))))))))))):=by kernel_rfl
theorem YU:iE C 141 Yy Q ρ h=(oP (some (ρ 26)) λc=>
 bP c (
 Q .normal ρ h) (
 Q (.exit 0) ρ h)):=by kernel_rfl
theorem X7:iE C 141 Uk Q ρ h=(oP (some (ρ 11)) λa=>
 oP (ef .add 3 a (V.I 1)) λb=>
 oP (some b) λc=>
 Q .normal (eC (eC (eC ρ 27 a) 28 b) 11 c) h):=by kernel_rfl
theorem XI:iE C 141 UX Q ρ h=(Q .ret ρ h):=by kernel_rfl
theorem Yp:iE C 141 UE Q ρ h=(Wp C 141 (.loop Vw) (Zb C Q) ρ h):=by kernel_rfl
theorem Xu:iE C 141 Ur Q ρ h=(Q .ret ρ h):=by kernel_rfl
theorem WW:iE C 141 Uo Q ρ h=(oP (some (ρ 11)) λa=>
 oP (some (ρ 1)) λb=>
 oP (fF b) λc=>
 oP (ef .lss 3 a c) λd=>
 Wp C 141 US (Y7 C Q) (eC (eC (eC (eC ρ 30 a) 31 b) 32 c) 33 d) h):=by kernel_rfl
theorem Zt:iE C 141 Vw Q ρ h=(oP (some (ρ 16)) λb=>
 oP (some (ρ 3)) λc=>
 oP (fF c) λd=>
 oP (ef .lss 3 b d) λe=>
 oP (some e) λa=>
 oP (gg true a) λj=>
 oP (gV j (some (ρ 16))) λf=>
 oP (gg true a) λk=>
 oP (gV k (ef .lss 3 f (V.I 2))) λg=>
 oP (ma a g (V.bool false)) λi=>
 Wp C 141 Uh (W1 C Q) (eC (eC (eC (eC (eC (eC (eC (eC ρ 100 b) 101 c) 102 d) 103 e) 104 a) 105 f) 106 g) 107 i) h):=by kernel_rfl
theorem XA:iE C 141 QB Q ρ h=(oP (some (ρ 12)) λa=>
 oP (fI 1 (ρ 10)) λb=>
 oP (en b h) λc=>
 oP (ef .add 3 (V.I 16) c) λd=>
 Qa C fP [a,d] h λe g=>
 oP (some e) λf=>
 Wp C 141 Uz Q (eC (eC (eC (eC (eC (eC ρ 38 a) 39 b) 40 c) 41 d) 42 e) 12 f) g):=by kernel_rfl
theorem X1:iE C 141 UN Q ρ h=(oP (fI 0 (ρ 15)) λa=>
 oP (en a h) λb=>
 oP (some (ρ 3)) λj=>
 oP (some (ρ 16)) λk=>
 oP (gy 1 j k) λl=>
 oP (en l h) λq=>
 oP (fI 0 (ρ 15)) λm=>
 oP (en m h) λn=>
 oP (fF n) λr=>
 oP (some (ρ 3)) λc=>
 oP (some (ρ 16)) λd=>
 oP (gy 1 c d) λe=>
 oP (en e h) λf=>
 oP (ef .quo 3 f (V.I 200)) λo=>
 oP (fI 1 (ρ 13)) λg=>
 oP (en g h) λi=>
 oP (ef .add 3 (V.I 20) i) λp=>
 ((ef .add 3 (V.I 20) i=some p)/\
 ((en g h=some i)/\
 ((fI 1 (ρ 13)=some g)/\
 ((ef .quo 3 f (V.I 200)=some o)/\
 ((en e h=some f)/\
 ((gy 1 c d=some e)/\
 ((some (ρ 16)=some d)/\
 ((some (ρ 3)=some c)/\
 ((fF n=some r)/\
 ((en m h=some n)/\
 ((fI 0 (ρ 15)=some m)/\
 ((en l h=some q)/\
 ((gy 1 j k=some l)/\
 ((some (ρ 16)=some k)/\
 ((some (ρ 3)=some j)/\
 ((en a h=some b)/\
 ((fI 0 (ρ 15)=some a)/\
 Qa C fP [q,r] h λs w=>
 (h.next<=w.next/\
 ((ef .add 3 (V.I 20) i=some p)/\
 ((en g w=some i)/\
 ((fI 1 (ρ 13)=some g)/\
 ((ef .quo 3 f (V.I 200)=some o)/\
 ((en e w=some f)/\
 ((gy 1 c d=some e)/\
 ((some (ρ 16)=some d)/\
 ((some (ρ 3)=some c)/\
 ((en a w=some b)/\
 ((fI 0 (ρ 15)=some a)/\
 Qa C fP [o,p] w λt x=>
 (w.next<=x.next/\
 oP (ef .sub 3 t (V.I 1)) λu=>
 oP (gy 1 b s) λv=>
 ((gy 1 b s=some v)/\
 ((ef .sub 3 t (V.I 1)=some u)/\
 ((en a x=some b)/\
 ((fI 0 (ρ 15)=some a)/\
 fi (gW 1 v u x) λz y=>
 (x.next<=y.next/\
 Wp C 141 Uq Q (eC (eC (eC (eC (eC (eC (eC (eC (eC (eC (eC (eC (eC (eC (eC (eC (eC (eC (eC (eC (eC ρ 110 a) 111 b) 112 j) 113 k) 114 l) 115 q) 116 m) 117 n) 118 r) 120 c) 121 d) 122 e) 123 f) 124 o) 125 g) 126 i) 127 p) 119 s) 128 t) 129 u) 130 v) y))))))))))))))))))))))))))))))))))):=by kernel_rfl
theorem XC:iE C 141 US Q ρ h=(oP (some (ρ 33)) λc=>
 bP c (
 oP (some (ρ 1)) λa=>
 oP (some (ρ 11)) λb=>
 oP (gy 1 a b) λd=>
 oP (en d h) λe=>
 oP (some e) λf=>
 Q .normal (eC (eC (eC (eC (eC ρ 34 a) 35 b) 36 d) 37 e) 12 f) h) (
 Q .normal ρ h)):=by kernel_rfl
theorem Yt:iE C 141 Uz Q ρ h=(oP (some (ρ 12)) λb=>
 oP (ef .geq 3 b (V.I 12)) λc=>
 oP (some c) λa=>
 oP (gg true a) λg=>
 oP (gV g (some (ρ 12))) λd=>
 oP (gg true a) λi=>
 oP (gV i (ef .lss 3 d (V.I 16))) λe=>
 oP (ma a e (V.bool false)) λf=>
 Wp C 141 Us (Y1 C Q) (eC (eC (eC (eC (eC (eC ρ 43 b) 44 c) 45 a) 46 d) 47 e) 48 f) h):=by kernel_rfl
theorem Yd:iE C 141 Uh Q ρ h=(oP (some (ρ 107)) λc=>
 bP c (
 Q .normal ρ h) (
 Q (.exit 2) ρ h)):=by kernel_rfl
theorem X5:iE C 141 Uq Q ρ h=(oP (some (ρ 16)) λa=>
 oP (ef .add 3 a (V.I 1)) λb=>
 oP (some b) λc=>
 Q .normal (eC (eC (eC ρ 108 a) 109 b) 16 c) h):=by kernel_rfl
theorem Ye:iE C 141 Sl Q ρ h=(oP (fI 0 (ρ 10)) λa=>
 oP (en a h) λb=>
 oP (some (ρ 12)) λc=>
 iQ (ju 3 1 1 (V.I 0) [(0,c)]) h λd g=>
 fi (fh 3 1 8 b d g) λe i=>
 oP (fI 0 (ρ 10)) λf=>
 fi (gW 1 f e i) λk j=>
 Q .normal (eC (eC (eC (eC (eC (eC ρ 49 a) 50 b) 51 c) 52 d) 53 e) 54 f) j):=by kernel_rfl
theorem Xd:iE C 141 Us Q ρ h=(oP (some (ρ 48)) λc=>
 bP c (
 oP (some (V.I 0)) λa=>
 Q .normal (eC ρ 12 a) h) (
 Q .normal ρ h)):=by kernel_rfl
theorem g4{C:fg}(e:C.start=fT)(a b c d:V){h:Hp}{Q:fm}(f:C.K iF [a,b,c,d] h=none)(H:iE C 141 k4 (yM [.tmp 8] Q) (GA [a,b,c,d]) h):cP C iF [a,b,c,d] h Q:=
 cP.RN e (show P0.funcs[4]? =some Tryd.f4 by unfold P0;exact Tryd.func4) (by kernel_rfl) (by kernel_rfl) (by kernel_rfl) f (FY rfl) (Wp.code _ H)
noncomputable def mr(C:fg)(Q:fm)(c d e a b:V)(h:Hp):Prop:=∀ρ:fN,ρ 1=c->ρ 3=d->ρ 9=e->ρ 10=a->ρ 11=b->Wp C 141 (.loop Va) (Ss C (yM [.tmp 8] Q)) ρ h
noncomputable def iJ(C:fg)(Q:fm)(a:ly)(e f g b c d:V)(h:Hp):Prop:=∀ρ:fN,ρ 1=e->ρ 3=f->ρ 9=g->ρ 10=b->ρ 11=c->ρ 12=d->Wp C 141 QB (VV C (andThen (λρ h=>a (ρ 1) (ρ 3) (ρ 9) (ρ 10) (ρ 11) h) (Ss C (yM [.tmp 8] Q)))) ρ h
noncomputable def mm(C:fg)(Q:fm)(d e a b c:V)(h:Hp):Prop:=∀ρ:fN,ρ 3=d->ρ 9=e->ρ 13=a->ρ 15=b->ρ 16=c->Wp C 141 (.loop Vw) (W4 C (yM [.tmp 8] Q)) ρ h
noncomputable def iI(C:fg)(Q:fm)(a:ly)(e f g b c d:V)(h:Hp):Prop:=∀ρ:fN,ρ 1=e->ρ 3=f->ρ 9=g->ρ 10=b->ρ 11=c->ρ 12=d->Wp C 141 Sl (VV C (andThen (λρ h=>a (ρ 1) (ρ 3) (ρ 9) (ρ 10) (ρ 11) h) (Ss C (yM [.tmp 8] Q)))) ρ h
noncomputable def jU(C:fg) (Q:fm) (r:ly) (I K i f d:V) (h:Hp):Prop:=oP (fI 2 i) λL=>oP (en L h) λM=>oP (fF M) λN=>oP (ef .lss 3 d N) λP=>bP P (oP (fF I) λR=>oP (ef .lss 3 d R) λS=>bP S (oP (gy 1 I d) λT=>oP (en T h) λU=>iJ C Q r I K i f d U h) (iJ C Q r I K i f d d h)) (oP (fZ 5 i h) λW=>cP C mn [W] h λs h1=>oP (ML 0 s) λX=>oP (ML 1 s) λY=>iQ (some (.cells 32 1 true false [V.ed,(V.I 0)],λl=> .ptr l 0)) h1 λb h2=>fi (gW 2 b X h2) λvu h3=>cP C kW [] h3 λZ o=>(h3.next<=o.next/\oP (tk .not Z) λaa=>oP (mh aa (oB (some Y) λab=>ef .neq 33 ab (V.I 0))) λc=>oP (gg false c) λb7=>oP (gV b7 (fZ 5 i o)) λac=>oP (gg false c) λb8=>oP (gV b8 (fI 0 b)) λae=>oP (gg false c) λb9=>oP (gV b9 (en ae o)) λag=>oP (gg false c) λah=>oP (gV ah (fI 1 b)) λai=>oP (gg false c) λaj=>oP (gV aj (en ai o)) λak=>oP (gg false c) λal=>oP (gC al (some (gJ,[ac,ag,ak]))) λam=>xa C am o λan t=>(o.next<=t.next/\oP (mh c (tk .not an)) λj=>oP (gg false j) λao=>oP (gV ao (fZ 5 i t)) λaq=>oP (gg false j) λar=>oP (gV ar (fZ 2 b t)) λau=>oP (gg false j) λaw=>oP (gC aw (some (j5,[aq,au]))) λax=>xa C ax t λay k=>(t.next<=k.next/\oP (mh j (tk .not ay)) λa=>oP (gg false a) λaz=>oP (gV az (fZ 5 i k)) λaA=>oP (gg false a) λaB=>oP (gV aB (fZ 2 f k)) λaC=>oP (gg false a) λu=>oP (gV u (fZ 5 i k)) λv=>oP (gg false a) λaD=>oP (gV aD (fI 0 f)) λw=>oP (gg false a) λx=>oP (gV x (en w k)) λy=>oP (gg false a) λaE=>oP (gV aE (fI 1 f)) λz=>oP (gg false a) λA=>oP (gV A (en z k)) λB=>oP (gg false a) λaF=>oP (gC aF (some (j5,[aA,aC]))) λaG=>xa C aG k λaH p=>(k.next<=p.next/\((gT A (en z p=some B))/\((gT x (en w p=some y))/\((gT u (fZ 5 i p=some v))/\oP (gg false a) λaI=>oP (gC aI (some (gJ,[v,y,B]))) λaJ=>xa C aJ p λaK J=>(p.next<=J.next/\oP (mh a (ef .neq 4 aH aK)) λaL=>bP aL (Q (V.bool false) J) (uN (ju 3 1 0 (V.I 0) []) J λo0 aM D=>oP (fI 0 b) λE=>oP (en E D) λF=>oP (fI 1 b) λm=>oP (en m D) λn=>uN (some (.cells 32 1 true false [V.ed,(V.I 0)],λl=> .ptr l 0)) D λq G e=>((e.get (D.next)=some q/\O.beq q q=true)/\((en m e=some n)/\((en E e=some F)/\((e.get (J.next)=some o0/\O.beq o0 o0=true)/\fi (fh 3 1 8 aM F e) λaN g=>(e.next<=g.next/\oP (fG [V.ed,(V.I 0)] [(0,1),(1,1)] [(0,aN),(1,n)]) λaO=>((g.get (D.next)=some q/\O.beq q q=true)/\((en m g=some n)/\fi (gW 2 G aO g) λaP H=>(g.next<=H.next/\mm C Q K i b G (V.I 0) H))))))))))))))))))
theorem tz{C:fg}{Q:fm}(I:Nat->ly)(step:∀(k:Nat)(f g i a b:V)(h:Hp),I k f g i a b h->jU C Q (λf g i a b h=>∃k',k' < k/\I k' f g i a b h) f g i a b h){k:Nat}{f g i a b:V}{h:Hp}(h0:I k f g i a b h):mr C Q f g i a b h:=by
 intro ρ e1 X Y L M;subst e1;subst X;subst Y;subst L;subst M;refine Wp.QY (λk ρ h=>I k (ρ 1) (ρ 3) (ρ 9) (ρ 10) (ρ 11) h) (λk ρ h hi=>?_) h0;have H:=step k (ρ 1) (ρ 3) (ρ 9) (ρ 10) (ρ 11) h hi;unfold jU at H;exact Wp.of (Zu _ _ _ _) (pD (oM H λZ _ H=>oM H λaa _ H=>oM H λab _ H=>oM H λac _ H=>Wp.of (YU _ _ _ _) (pD (bM H (λH=>Wp.of (ZS _ _ _ _) (pD (pD (Wp.of (WW _ _ _ _) (pD (pD (oM H λae _ H=>oM H λag _ H=>Wp.of (XC _ _ _ _) (pD (bM H (λH=>pD (pD (oM H λah _ H=>oM H λai _ H=>pD (H _ rfl rfl rfl rfl rfl rfl)))) (λH=>H _ rfl rfl rfl rfl rfl rfl)))))))))) (λH=>Wp.of (YX _ _ _ _) (oM H λaj _ H=>SB H λak h1 H=>pD (oM H λal _ H=>oM H λam _ H=>WI H λan h2 H=>HO H λvu h3 H=>pD (Wp.of (Zh _ _ _ _) (SB H λao h4 H=>AB H λH=>oM H λaq j H=>pD (St (BL H) λH=>Xr H λb3 N ar l H=>oM H λb4 O H=>oM H λau m H=>oM H λaw n H=>pD (oM H λb7 _ H=>oM H λax o H=>oM H λb8 _ H=>oM H λay p H=>oM H λb9 _ H=>oM H λaz q H=>oM H λaA _ H=>oM H λaB r H=>oM H λaC _ H=>oM H λaD s H=>⟨(jJ s),⟨(jJ r),⟨(jJ q),⟨(jJ p),⟨(jJ o),⟨rfl,⟨n,⟨(jJ m),⟨(jJ l),⟨rfl,⟨j,oM H λaE _ H=>oM H λaF _ H=>Tv H λaG h5 H=>AB H λH=>St (BL H) λH=>oM H λaH P H=>oM H λaI t H=>oM H λaJ u H=>pD (oM H λaK _ H=>oM H λaL v H=>oM H λaM _ H=>oM H λaN w H=>⟨(jJ w),⟨(jJ v),⟨rfl,⟨u,⟨(jJ t),oM H λaO _ H=>oM H λaP _ H=>Tv H λaQ h6 H=>AB H λH=>St (BL H) λH=>oM H λaR R H=>oM H λaS x H=>oM H λaT y H=>pD (oM H λaU _ H=>oM H λaV z H=>oM H λaW _ H=>oM H λaX A H=>oM H λaY _ H=>oM H λaZ B H=>oM H λa0 _ H=>oM H λa1 c H=>oM H λa2 _ H=>oM H λa3 D H=>oM H λa4 _ H=>oM H λa5 d H=>oM H λa6 _ H=>oM H λa7 E H=>⟨(jJ E),⟨(jJ d),⟨(jJ D),⟨(jJ c),⟨(jJ B),⟨(jJ A),⟨(jJ z),⟨rfl,⟨y,⟨(jJ x),oM H λa8 _ H=>oM H λa9 _ H=>Tv H λba h7 H=>AB H λH=>AB H λH=>⟨(jJ d),AB H λH=>⟨(jJ c),AB H λH=>oM H λbb _ H=>oM H λbc _ H=>Tv H λbd h8 H=>AB H λH=>St (BL H) λH=>oM H λbe S H=>oM H λbf F H=>oM H λbg G H=>⟨G,⟨(jJ F),Wp.of (Zp _ _ _ _) (pD (bM H (λH=>pD (Wp.of (XI _ _ _ _) (H))) (λH=>Wp.of (Zi _ _ _ _) (VM H λo0 bi h9 H=>oM H λbj J H=>oM H λbm T H=>oM H λbn e H=>oM H λbo U H=>VM H λo7 bp bq H=>AB H λH=>AB H λH=>⟨e,AB H λH=>⟨J,AB H λH=>HO H λbr bt H=>AB H λH=>oM H λbu K H=>⟨K,AB H λH=>AB H λH=>⟨e,HO H λW bv H=>AB H λH=>Wp.of (X9 _ _ _ _) (pD (Wp.of (Yp _ _ _ _) (H _ rfl rfl rfl rfl rfl)))⟩⟩⟩⟩))))⟩⟩⟩⟩⟩⟩⟩⟩⟩⟩⟩⟩⟩⟩)⟩⟩⟩⟩⟩)⟩⟩⟩⟩⟩⟩⟩⟩⟩⟩⟩)))))))))))
noncomputable def jL(C:fg) (Q:fm) (c:ly) (m n o a d e:V) (h:Hp):Prop:=oP (fI 1 a) λf=>oP (en f h) λg=>oP (ef .add 3 (V.I 16) g) λi=>cP C fP [e,i] h λb p=>oP (ef .geq 3 b (V.I 12)) λj=>oP (jq j (oB (some b) λk=>ef .lss 3 k (V.I 16))) λl=>bP l (iI C Q c m n o a d (V.I 0) p) (iI C Q c m n o a d b p)
theorem sM{C:fg}{Q:fm}{a:ly}{i j k b c d:V}{h:Hp}(H:jL C Q a i j k b c d h):iJ C Q a i j k b c d h:=by
 intro ρ e1 q r e f g;subst e1;subst q;subst r;subst e;subst f;subst g;unfold jL at H;exact Wp.of (XA _ _ _ _) (pD (oM H λs _ H=>oM H λt _ H=>oM H λu _ H=>SB H λv A H=>pD (Wp.of (Yt _ _ _ _) (pD (oM H λw _ H=>pD (St (D1 H) λH=>Xr H λB l x m H=>oM H λD n H=>oM H λy o H=>oM H λz p H=>Wp.of (Xd _ _ _ _) (pD (bM H (λH=>pD (H _ rfl rfl rfl rfl rfl rfl)) (λH=>H _ rfl rfl rfl rfl rfl rfl)))))))))
noncomputable def jT(C:fg) (Q:fm) (R:ly) (N O q a b:V) (h:Hp):Prop:=oP (fF N) λr=>oP (ef .lss 3 b r) λs=>oP (jq s (oB (some b) λt=>ef .lss 3 t (V.I 2))) λu=>bP u (oP (fI 0 a) λc=>oP (en c h) λd=>oP (gy 1 N b) λv=>oP (en v h) λw=>oP (fI 0 a) λx=>oP (en x h) λy=>oP (fF y) λz=>oP (gy 1 N b) λe=>oP (en e h) λf=>oP (ef .quo 3 f (V.I 200)) λA=>oP (fI 1 q) λg=>oP (en g h) λi=>oP (ef .add 3 (V.I 20) i) λB=>cP C fP [w,z] h λD o=>(h.next<=o.next/\((en g o=some i)/\((en e o=some f)/\((en c o=some d)/\cP C fP [A,B] o λE P=>(o.next<=P.next/\oP (ef .sub 3 E (V.I 1)) λF=>oP (gy 1 d D) λG=>((en c P=some d)/\fi (gW 1 G F P) λU S=>(P.next<=S.next/\oP (ef .add 3 b (V.I 1)) λH=>R N O q a H S)))))))) (oP (fZ 5 O h) λI=>oP (fZ 2 a h) λJ=>oP (fZ 5 O h) λj=>oP (fI 0 a) λk=>oP (en k h) λl=>oP (fI 1 a) λm=>oP (en m h) λn=>cP C j5 [I,J] h λK p=>(h.next<=p.next/\((en m p=some n)/\((en k p=some l)/\((fZ 5 O p=some j)/\cP C gJ [j,l,n] p λL T=>(p.next<=T.next/\oP (ef .eql 4 K L) λM=>Q M T))))))
theorem tE{C:fg}{Q:fm}(I:Nat->ly)(step:∀(k:Nat)(m n a b c:V)(h:Hp),I k m n a b c h->jT C Q (λm n a b c h=>∃k',k' < k/\I k' m n a b c h) m n a b c h){k:Nat}{m n a b c:V}{h:Hp}(h0:I k m n a b c h):mm C Q m n a b c h:=by
 intro ρ e3 e9 F G J;subst e3;subst e9;subst F;subst G;subst J;refine Wp.QY (λk ρ h=>I k (ρ 3) (ρ 9) (ρ 13) (ρ 15) (ρ 16) h) (λk ρ h hi=>?_) h0;have H:=step k (ρ 3) (ρ 9) (ρ 13) (ρ 15) (ρ 16) h hi;unfold jT at H;exact Wp.of (Zt _ _ _ _) (pD (pD (oM H λP _ H=>oM H λR _ H=>pD (St (D1 H) λH=>Xr H λb5 K S L H=>oM H λb6 M H=>oM H λT N H=>oM H λU O H=>Wp.of (Yd _ _ _ _) (pD (bM H (λH=>Wp.of (X1 _ _ _ _) (oM H λW d H=>oM H λX o H=>pD (pD (oM H λY p H=>oM H λZ q H=>oM H λaa r H=>oM H λab s H=>oM H λac t H=>pD (pD (oM H λae e H=>oM H λag u H=>oM H λah f H=>oM H λai g H=>oM H λaj v H=>oM H λak i H=>⟨i,⟨v,⟨g,⟨f,⟨u,⟨e,⟨rfl,⟨rfl,⟨t,⟨s,⟨r,⟨q,⟨p,⟨rfl,⟨rfl,⟨o,⟨d,SB H λal h1 H=>AB H λH=>⟨i,AB H λH=>⟨g,⟨f,AB H λH=>⟨e,⟨rfl,⟨rfl,AB H λH=>⟨d,SB H λam h2 H=>AB H λH=>oM H λan w H=>oM H λao x H=>⟨x,⟨w,AB H λH=>⟨d,HO H λvu h3 H=>AB H λH=>Wp.of (X5 _ _ _ _) (pD (oM H λaq _ H=>pD (H)))⟩⟩⟩⟩⟩⟩⟩⟩⟩⟩⟩⟩⟩⟩⟩⟩⟩⟩⟩⟩⟩⟩⟩⟩⟩⟩⟩)))))) (λH=>Wp.of (Xg _ _ _ _) (oM H λar y H=>oM H λau z H=>oM H λaw A H=>oM H λax j H=>oM H λay B H=>oM H λaz l H=>oM H λaA D H=>⟨D,⟨l,⟨B,⟨j,⟨A,⟨z,⟨y,SB H λaB h4 H=>AB H λH=>AB H λH=>⟨l,AB H λH=>⟨j,AB H λH=>SB H λaC h5 H=>AB H λH=>oM H λaD E H=>pD (⟨rfl,⟨E,Wp.of (Xu _ _ _ _) (H)⟩⟩)⟩⟩⟩⟩⟩⟩⟩⟩⟩))))))))
noncomputable def jK(C:fg) (Q:fm) (b:ly) (l m n a c d:V) (h:Hp):Prop:=oP (fI 0 a) λe=>oP (en e h) λf=>iQ (ju 3 1 1 (V.I 0) [(0,d)]) h λg o=>fi (fh 3 1 8 f g o) λi p=>oP (fI 0 a) λj=>fi (gW 1 j i p) λr q=>oP (ef .add 3 c (V.I 1)) λk=>b l m n a k q
theorem sN{C:fg}{Q:fm}{a:ly}{i j k b c d:V}{h:Hp}(H:jK C Q a i j k b c d h):iI C Q a i j k b c d h:=by
 intro ρ e1 l m e f g;subst e1;subst l;subst m;subst e;subst f;subst g;unfold jK at H;exact Wp.of (Ye _ _ _ _) (oM H λn _ H=>oM H λo _ H=>pD (WI H λp t H=>HO H λq u H=>oM H λr _ H=>HO H λv w H=>Wp.of (X7 _ _ _ _) (pD (oM H λs _ H=>pD (H)))))
noncomputable def kS(C:fg) (Q:fm) (j k m n:V) (h:Hp):Prop:=iQ (sO 24 j) h λo f=>oP (fZ 3 o f) λb=>cP C ki [b] f λc p=>iQ (some (.cells 29 1 true false [(V.I 0),(V.I 0),V.ed,V.ed,V.ed],λl=> .ptr l 0)) p λg q=>fi (gW 5 g c q) λv r=>cP C fP [m,(V.I 40)] r λd s=>oP (fG [V.ed,(V.I 0)] [(0,1),(1,1)] [(1,d)]) λe=>iQ (some (.cells 32 1 true false [V.ed,(V.I 0)],λl=> .ptr l 0)) s λa t=>fi (gW 2 a e t) λi u=>mr C Q k n g a (V.I 0) u
theorem vQ{C:fg}(f:C.start=fT){a b c d:V}{h:Hp}{Q:fm}(g:C.K iF [a,b,c,d] h=none)(H:kS C Q a b c d h):cP C iF [a,b,c,d] h Q:=by
 unfold kS at H;exact g4 f _ _ _ _ g ((e4 _ _ _ _).mpr (WI H λn o H=>pD (Wp.of (Y0 _ _ _ _) (oM H λi _ H=>SB H λj p H=>WI H λq r H=>HO H λs t H=>Wp.of (ZN _ _ _ _) (pD (SB H λk u H=>oM H λl _ H=>WI H λm v H=>HO H λe w H=>Wp.of (ZI _ _ _ _) (pD (Wp.of (ZM _ _ _ _) (H _ rfl rfl rfl rfl rfl)))))))))
end
end
