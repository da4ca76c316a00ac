/- Parts. -/
import Derived.Test.YtnehpeeglbgfpaaDoorM14
set_option maxHeartbeats 4000000
namespace Go.Proofs.YtnehpeeglbgfpaaDoor.Hx
set_option maxRecDepth 100000
noncomputable section
def t43:List (Nat×List Nat):=[]
def sZ(C:fg)(Q:fm)(a d:V)(h:Hp):Prop:=
 gv C (jj "Push" a [d] h) h λj c=>
 gv C (jj "Len" a [] c) c λe f=>
 oP (ef .sub 3 e nO) λb=>
 cP C mj [a,b] f λg i=>
 Q (V.tuple []) i
theorem Ax{C}(s:C.start=fT){a b h Q}(k:C.K jQ [a,b] h=none)(H:sZ C Q a b h):cP C jQ [a,b] h Q:=cP.vd t43 s (by unfold P0;exact Tryd.func43) k H
def t44:List (Nat×List Nat):=[]
def ug(C:fg)(Q:fm)(a:V)(h:Hp):Prop:=
 gv C (jj "Len" a [] h) h λf c=>
 oP (ef .sub 3 f nO) λd=>
 gv C (jj "Swap" a [nZ,d] c) c λk g=>
 cP C lB [a,nZ,d] g λi e=>
 gv C (jj "Pop" a [] e) e λb j=>
 Q b j
theorem AL{C}(s:C.start=fT){a h Q}(k:C.K lT [a] h=none)(H:ug C Q a h):cP C lT [a] h Q:=cP.vd t44 s (by unfold P0;exact Tryd.func44) k H
def t59:List (Nat×List Nat):=[(5,[0,1])]
def rC(C:fg)(Q:fm):LP:=JV C Tryd.f59 t59 2 [0,1] [] Q
def sk(C:fg)(Q:fm)(d:LP)(e b:V)(h:Hp):Prop:=
 oP (ef .sub 3 b nO) λm=>
 oP (ef .quo 3 m (V.I 2)) λc=>
 oP (ef .eql 3 c b) λa=>
 oP (gg false a) λn=>
 oP (gV n (some e)) λf=>
 oP (gg false a) λo=>
 oP (gV o (some b)) λg=>
 oP (gg false a) λp=>
 oP (gV p (some c)) λi=>
 oP (gg false a) λq=>
 oP (gC q (oB (jj "Less" f [g,i] h) ye)) λr=>xa C r h λj k=>
 oP (mh a (tk .not j)) λl=>
 bP l (
 Q (V.tuple []) k) (
 gv C (jj "Swap" e [c,b] k) k λs t=>
 d [e,c] t)
theorem zM{C Q}(I)(s:S2 I (sk C Q)){k l h}(i:I k l h)(e:l.length=2:=by rfl):rC C Q l h:=JV.l2 I _ s i e
def uY(C:fg)(Q:fm)(a b:V)(h:Hp):Prop:=rC C Q [a,b] h
theorem B9{C}(s:C.start=fT){a b h Q}(k:C.K mj [a,b] h=none)(H:uY C Q a b h):cP C mj [a,b] h Q:=cP.vd t59 s (by unfold P0;exact Tryd.func59) k H
def t60:List (Nat×List Nat):=[(39,[0,1,2,7]),(30,[1,7]),(3974,[0,1,2,7,9])]
def p9(C:fg)(Q:fm):LP:=JV C Tryd.f60 t60 19 [0,1,2,7] [] Q
def jZ(C:fg)(Q:fm):LP:=JV C Tryd.f60 t60 15 [1,7] [] Q
def j6(C:fg)(Q:fm)(a:LP):LP:=JV C Tryd.f60 t60 1987 [0,1,2,7,9] [kf [0,1,2,7] a] Q
def qf(C:fg)(Q:fm)(d:LP)(j k g i:V)(h:Hp):Prop:=
 oP (ef .mul 3 (V.I 2) i) λl=>
 oP (ef .add 3 l nO) λa=>
 oP (ef .geq 3 a g) λm=>
 oP (mh m (oB (some a) λn=>ef .lss 3 n nZ)) λo=>
 bP o (
 jZ C Q [k,i] h) (
 oP (ef .add 3 a nO) λc=>
 oP (ef .lss 3 c g) λb=>
 oP (gg true b) λe=>
 oP (gV e (some j)) λp=>
 oP (gg true b) λf=>
 oP (gV f (some c)) λq=>
 oP (gg true b) λv=>
 oP (gV v (some a)) λr=>
 oP (gg true b) λw=>
 oP (gC w (oB (jj "Less" p [q,r] h) ye)) λx=>xa C x h λs u=>
 oP (ma b s bF) λt=>
 bP t (
 j6 C Q d [j,k,g,i,c] u) (
 j6 C Q d [j,k,g,i,a] u))
theorem yB{C Q}(I)(s:S4 I (qf C Q)){k l h}(i:I k l h)(e:l.length=4:=by rfl):p9 C Q l h:=JV.l4 I _ s i e
def pW(C:fg)(Q:fm)(b c:V)(h:Hp):Prop:=oP (ef .gtr 3 c b) λa=>Q a h
theorem yo{C Q}:R2 (pW C Q) (jZ C Q):=JV.r2 _
def pV(C:fg)(Q:fm)(a:LP)(b g i c d:V)(h:Hp):Prop:=
 gv C (jj "Less" b [d,c] h) h λe f=>
 bN e (
 jZ C Q [g,c] f) (
 gv C (jj "Swap" b [c,d] f) f λj k=>
 a [b,g,i,d] k)
theorem yx{C Q a}:R5 (pV C Q a) (j6 C Q a):=JV.r5 _
def te(C:fg)(Q:fm)(b a c:V)(h:Hp):Prop:=p9 C Q [b,a,c,a] h
theorem AE{C}(s:C.start=fT){a b c h Q}(k:C.K lB [a,b,c] h=none)(H:te C Q a b c h):cP C lB [a,b,c] h Q:=cP.vd t60 s (by unfold P0;exact Tryd.func60) k H
def t96:List (Nat×List Nat):=[]
def yR(C:fg)(Q:fm)(a:V)(h:Hp):Prop:=oP (fF a) λb=>Q b h
theorem Fw{C}(s:C.start=fT){a h Q}(k:C.K tD [a] h=none)(H:yR C Q a h):cP C tD [a] h Q:=cP.vd t96 s (by unfold P0;exact Tryd.func96) k H
def t97:List (Nat×List Nat):=[]
def xM(C:fg)(Q:fm)(d e f:V)(h:Hp):Prop:=dX 1 d e h λa=>dX 1 d f h λb=>oP (ef .lss 3 a b) λc=>Q c h
theorem EJ{C}(s:C.start=fT){a b c h Q}(k:C.K ni [a,b,c] h=none)(H:xM C Q a b c h):cP C ni [a,b,c] h Q:=cP.vd t97 s (by unfold P0;exact Tryd.func97) k H
def t98:List (Nat×List Nat):=[]
def xK(C:fg)(Q:fm)(a g i:V)(h:Hp):Prop:=dX 1 a i h λb=>dX 1 a g h λc=>oP (gy 1 a g) λd=>fi (gW 1 d b h) λl e=>(h.next<=e.next/\oP (gy 1 a i) λf=>fi (gW 1 f c e) λj k=>(e.next<=k.next/\Q (V.tuple []) k))
theorem DY{C}(s:C.start=fT){a b c h Q}(k:C.K ru [a,b,c] h=none)(H:xK C Q a b c h):cP C ru [a,b,c] h Q:=cP.vd t98 s (by unfold P0;exact Tryd.func98) k H
def t99:List (Nat×List Nat):=[]
def y5(C:fg)(Q:fm)(a:V)(h:Hp):Prop:=oP (iu a) λk=>oP (en k h) λl=>oP (fF l) λm=>oP (ef .sub 3 m nO) λj=>oP (iu a) λb=>oP (en b h) λc=>dX 1 c j h λd=>oP (iu a) λe=>oP (en e h) λf=>oP (iZ 1 f none (some j) h) λg=>oP (iu a) λi=>fi (gW 1 i g h) λo n=>Q (V.iface 3 d) n
theorem FW{C}(s:C.start=fT){a h Q}(k:C.K tG [a] h=none)(H:y5 C Q a h):cP C tG [a] h Q:=cP.vd t99 s (by unfold P0;exact Tryd.func99) k H
section
variable (C:fg)(Q:X->fN->Hp->Prop)(ρ:fN)(h:Hp)
def XM:=Fe Tryd.f100
theorem ZC:iE C 13 XM Q ρ h=(oP (some (ρ 0)) λb=>
 oP (some (ρ 0)) λe=>
 oP (iu e) λf=>
 oP (en f h) λj=>
 oP (some (ρ 1)) λg=>
 oP (J0 3 (V.I 0) g) λk=>
 uN (ju 3 1 1 (V.I 0) [(0,k)]) h λl c i=>
 ((i.get (h.next)=some l/\O.beq l l=true)/\
 ((J0 3 (V.I 0) g=some k)/\
 ((some (ρ 1)=some g)/\
 ((en f i=some j)/\
 ((iu e=some f)/\
 ((some (ρ 0)=some e)/\
 ((some (ρ 0)=some b)/\
 fi (fh 3 1 8 j c i) λd m=>
 (i.next<=m.next/\
 oP (iu b) λa=>
 ((iu b=some a)/\
 ((some (ρ 0)=some b)/\
 fi (gW 1 a d m) λo n=>
 (m.next<=n.next/\
 Q .normal (eC (eC (eC (eC (eC (eC (eC (eC (eC ρ 4 b) 5 e) 6 f) 7 j) 8 g) 9 k) 10 c) 11 d) 12 a) n)))))))))))):=by kernel_rfl
theorem Zj{C:fg}(c:C.start=fT)(a b:V){h:Hp}{Q:fm}(d:C.K lO [a,b] h=none)(H:iE C 13 XM (yM [] Q) (GA [a,b]) h):cP C lO [a,b] h Q:=
 cP.RN c (show P0.funcs[100]? =some Tryd.f100 by unfold P0;exact Tryd.func100) (by kernel_rfl) (by kernel_rfl) (by kernel_rfl) d (FY rfl) (Wp.code _ H)
noncomputable def rz(C:fg) (Q:fm) (g l:V) (h:Hp):Prop:=oP (iu g) λi=>oP (en i h) λj=>oP (J0 3 (V.I 0) l) λm=>uN (ju 3 1 1 (V.I 0) [(0,m)]) h λb c a=>((a.get (h.next)=some b/\O.beq b b=true)/\((en i a=some j)/\fi (fh 3 1 8 j c a) λd e=>(a.next<=e.next/\oP (iu g) λf=>fi (gW 1 f d e) λn k=>(e.next<=k.next/\Q (V.tuple []) k))))
theorem Ex{C:fg}(f:C.start=fT){b c:V}{h:Hp}{Q:fm}(g:C.K lO [b,c] h=none)(H:rz C Q b c h):cP C lO [b,c] h Q:=by
 unfold rz at H;exact Zj f _ _ g ((ZC _ _ _ _).mpr (pD (pD (oM H λm d H=>oM H λn i H=>pD (oM H λo e H=>VM H λp j q H=>AB H λH=>⟨e,⟨rfl,AB H λH=>⟨d,⟨rfl,⟨rfl,HO H λk r H=>AB H λH=>oM H λl a H=>⟨a,⟨rfl,HO H λs t H=>AB H λH=>H⟩⟩⟩⟩⟩⟩⟩)))))
end
def t22:List (Nat×List Nat):=[(87,[0,3,4]),(918,[0,3,4]),(175,[0,3,5]),(1838,[0,3,5])]
def yZ(C:fg)(Q:fm):LP:=JV C Tryd.f22 t22 43 [0,3,4] [] Q
def rm(C:fg)(Q:fm)(a:LP):LP:=JV C Tryd.f22 t22 459 [0,3,4] [kf [0,3,4] a] Q
def tm(C:fg)(Q:fm):LP:=JV C Tryd.f22 t22 87 [0,3,5] [] Q
def sh(C:fg)(Q:fm)(a:LP):LP:=JV C Tryd.f22 t22 919 [0,3,5] [kf [0,3,5] a] Q
def zp(C:fg)(Q:fm)(a:LP)(c d b:V)(h:Hp):Prop:=bO .lss 3 b (V.I 12) (oP (CK 3 none bF false c b h) λe=>bN e (cP C jQ [(V.iface 90 d),(V.iface 3 b)] h λf g=>rm C Q a [c,d,b] g) (rm C Q a [c,d,b] h)) (tm C Q [c,d,(V.I 16)] h)
theorem Fv{C Q}(I)(s:S3 I (zp C Q)){k l h}(i:I k l h)(e:l.length=3:=by rfl):yZ C Q l h:=JV.l3 I _ s i e
def sy(C:fg)(Q:fm)(a:LP)(c d e:V)(h:Hp):Prop:=oP (ef .add 3 e nO) λb=>a [c,d,b] h
theorem xU{C Q a}:R3 (sy C Q a) (rm C Q a):=JV.r3 _
def yN(C:fg)(Q:fm)(a:LP)(d b c:V)(h:Hp):Prop:=oP (en b h) λe=>oP (fF e) λf=>bO .eql 3 f nZ (oP (CK 3 none bF false d c h) λg=>bN g (cP C jQ [(V.iface 90 b),(V.iface 3 c)] h λk l=>sh C Q a [d,b,c] l) (sh C Q a [d,b,c] h)) (cP C lT [(V.iface 90 b)] h λi m=>oP (J0 3 nZ i) λj=>Q j m)
theorem FM{C Q}(I)(s:S3 I (yN C Q)){k l h}(i:I k l h)(e:l.length=3:=by rfl):tm C Q l h:=JV.l3 I _ s i e
def rU(C:fg)(Q:fm)(a:LP)(c d e:V)(h:Hp):Prop:=oP (ef .add 3 e nO) λb=>a [c,d,b] h
theorem xQ{C Q a}:R3 (rU C Q a) (sh C Q a):=JV.r3 _
def CM(C:fg)(Q:fm)(b:V)(h:Hp):Prop:=iQ (ju 3 1 0 nZ []) h λc d=>iQ (zC 88 [nS]) d λa e=>fi (gW 1 a c e) λg f=>yZ C Q [b,a,nZ] f
theorem Jf{C}(s:C.start=fT){a h Q}(k:C.K tL [a] h=none)(H:CM C Q a h):cP C tL [a] h Q:=cP.vd t22 s (by unfold P0;exact Tryd.func22) k H
def t6:List (Nat×List Nat):=[(703,[1,2,4,5,6,33,34,35]),(380095,[1,2,4,5,6,8,9,33,34,35,42,43,44]),(2878983359,[1,2,4,5,6,8,9,11,12,13,33,34,35,42,43,44,63]),(261737662,[1,2,4,5,6,8,9,11,12,13,33,34,35,42,43,44]),(1469697215,[1,2,4,5,6,8,9,12,13,33,34,35,42,43,44,70,71,72]),(32608210110,[1,2,4,5,6,8,9,12,13,33,34,35,42,43,44,70,71,72]),(2140785854,[1,2,4,5,6,8,9,12,33,34,35,42,43,44])]
def vz(C:fg)(Q:fm):LP:=JV C Tryd.f6 t6 351 [1,2,4,5,6,33,34,35] [] Q
def vI(C:fg)(Q:fm)(a:LP):LP:=JV C Tryd.f6 t6 190047 [1,2,4,5,6,8,9,33,34,35,42,43,44] [kf [1,2,4,5,6,33,34,35] a] Q
def vt(C:fg)(Q:fm)(a:LP)(b:LP):LP:=JV C Tryd.f6 t6 1439491679 [1,2,4,5,6,8,9,11,12,13,33,34,35,42,43,44,63] [kf [1,2,4,5,6,33,34,35] a,kf [1,2,4,5,6,8,9,33,34,35,42,43,44] b] Q
def lU(C:fg)(Q:fm)(a:LP)(b:LP):LP:=JV C Tryd.f6 t6 130868831 [1,2,4,5,6,8,9,11,12,13,33,34,35,42,43,44] [kf [1,2,4,5,6,33,34,35] a,kf [1,2,4,5,6,8,9,33,34,35,42,43,44] b] Q
def vw(C:fg)(Q:fm)(a:LP)(b:LP):LP:=JV C Tryd.f6 t6 734848607 [1,2,4,5,6,8,9,12,13,33,34,35,42,43,44,70,71,72] [kf [1,2,4,5,6,33,34,35] a,kf [1,2,4,5,6,8,9,33,34,35,42,43,44] b] Q
def lJ(C:fg)(Q:fm)(a:LP)(b:LP)(c:LP):LP:=JV C Tryd.f6 t6 16304105055 [1,2,4,5,6,8,9,12,13,33,34,35,42,43,44,70,71,72] [kf [1,2,4,5,6,33,34,35] a,kf [1,2,4,5,6,8,9,33,34,35,42,43,44] b,kf [1,2,4,5,6,8,9,12,13,33,34,35,42,43,44,70,71,72] c] Q
def lK(C:fg)(Q:fm)(a:LP)(b:LP):LP:=JV C Tryd.f6 t6 1070392927 [1,2,4,5,6,8,9,12,33,34,35,42,43,44] [kf [1,2,4,5,6,33,34,35] a,kf [1,2,4,5,6,8,9,33,34,35,42,43,44] b] Q
def vg(C:fg)(Q:fm)(m:LP)(u b q n v c d a:V)(h:Hp):Prop:=bO .lss 3 a d (dX 1 c a h λe=>iQ (some (.map [] 0,λl=> .map l)) h λo w=>cP C j9 [q,e] w λf x=>oP (fF f) λp=>vI C Q m [u,b,q,n,v,e,o,c,d,a,f,p,nZ] x) (dF 1 n h λg=>bO .gtr 3 g (V.I 399) (oP (fG [nS,nZ] [(0,1),(1,1)] []) λi=>fi (gW 2 b i h) λy r=>oP (fZ 2 b r) λr2=>Q (V.tuple [r2,(V.I 2)]) r) (oP (fZ 2 n h) λj=>fi (gW 2 b j h) λs t=>oP (fZ 2 b t) λk=>Q (V.tuple [k,nZ]) t))
theorem Ce{C Q}(I)(s:S8 I (vg C Q)){k l h}(i:I k l h)(e:l.length=8:=by rfl):vz C Q l h:=JV.l8 I _ s i e
def vM(C:fg)(Q:fm)(b:LP)(j:LP)(o q p r s t u c d e f g a:V)(h:Hp):Prop:=bO .lss 3 a g (dX 1 f a h λk=>dJ 3 o 6 t 0 h λv=>dX 1 v a h λi=>iQ (some (.map [] 0,λl=> .map l)) h λm z=>cP C hY [p,i] z λw y=>bP w (fi (BA u y) λx A=>vt C Q b j [o,q,p,r,s,t,u,k,i,m,c,d,e,f,g,a,x] A) (lU C Q b j [o,q,p,r,s,t,u,k,i,m,c,d,e,f,g,a] y)) (oP (ef .add 3 e nO) λn=>b [o,q,p,r,s,c,d,n] h)
theorem Cp{C Q a}(I)(s:Z7 I (vM C Q a)){k l h}(i:I k l h)(e:l.length=13:=by rfl):vI C Q a l h:=JV.Wy I _ s i e
def om(C:fg)(Q:fm)(b:LP)(c:LP)(n o p q r s t a d e f g i j k l:V)(h:Hp):Prop:=oP (fF a) λm=>vw C Q b c [n,o,p,q,r,s,t,d,e,f,g,i,j,k,l,a,m,nZ] h
theorem BE{C:fg}{Q:fm}{a:LP}{b:LP}{m n o p q r s c d e f g i j k l:V}{h:Hp}(H:om C Q a b m n o p q r s c d e f g i j k l h):lU C Q a b [m,n,o,p,q,r,s,c,d,e,f,g,i,j,k,l] h:=JV.mk 16 (om C Q a b) (λ_ _=>by kernel_rfl) rfl H
def vE(C:fg)(Q:fm)(c:LP)(d:LP)(q:LP)(A B r m p D s a e f g i j k l n o b:V)(h:Hp):Prop:=bO .lss 3 b o (dX 1 n b h λF=>oP (jq F (oB (some b) λG=>oB (some a) λH=>ef .neq 3 G H)) λI=>oP (jq I (oB (some p) λJ=>oB (some b) λK=>oB (gy 1 J K) λL=>en L h)) λM=>bP M (dY 0 m 1 b h λN=>fi (yQ 3 none e N bT h) λY W=>lJ C Q c d q [A,B,r,m,p,D,s,a,e,f,g,i,j,k,l,n,o,b] W) (lJ C Q c d q [A,B,r,m,p,D,s,a,e,f,g,i,j,k,l,n,o,b] h)) (oP (fI 0 m) λt=>oP (en t h) λu=>cP C tL [e] h λv E=>(h.next<=E.next/\oP (gy 1 u a) λw=>((en t E=some u)/\fi (gW 1 w v E) λR O=>(E.next<=O.next/\oP (gy 1 p a) λx=>fi (gW 1 x bT O) λS T=>(O.next<=T.next/\cP C hY [r,a] T λy P=>bP y (dY 0 m 1 a P λz=>fi (yQ 3 none s z bT P) λU X=>lK C Q c d [A,B,r,m,p,D,s,a,f,g,i,j,k,l] X) (lK C Q c d [A,B,r,m,p,D,s,a,f,g,i,j,k,l] P))))))
theorem Cf{C Q a b}(I)(s:ZX I (vE C Q a b)){k l h}(i:I k l h)(e:l.length=18:=by rfl):vw C Q a b l h:=JV.Z6 I _ s i e
def uz(C:fg)(Q:fm)(o:LP)(p:LP)(a:LP)(q r s t u v w b c d e f g i j k l m:V)(h:Hp):Prop:=oP (ef .add 3 m nO) λn=>a [q,r,s,t,u,v,w,b,c,d,e,f,g,i,j,k,l,n] h
theorem A6{C Q a b c}:Xt (uz C Q a b c) (lJ C Q a b c):=JV.ZH _
def tW(C:fg)(Q:fm)(s:LP)(j:LP)(t u v i w x y k l m n o p q:V)(h:Hp):Prop:=dF 1 i h λa=>dY 0 i 1 k h λb=>oP (ef .sub 3 b (V.I 16)) λc=>oP (ef .add 3 c nO) λd=>oP (K1 true a [d]) λe=>oP (fI 1 i) λf=>fi (gW 1 f e h) λz r=>(h.next<=r.next/\oP (ef .add 3 q nO) λg=>j [t,u,v,i,w,x,y,l,m,n,o,p,g] r)
theorem Bp{C Q a b}:YR (tW C Q a b) (lK C Q a b):=JV.r14 _
def yP(C:fg)(Q:fm)(z:V)(h:Hp):Prop:=iQ (sO 29 z) h λa A=>iQ (zC 32 [nS,nZ]) A λe s=>oP (fZ 5 a s) λf=>cP C uh [f] s λg i=>bN g (oP (fG [nS,nZ] [(0,1),(1,1)] []) λj=>fi (gW 2 e j i) λE t=>oP (fZ 2 e t) λr2=>Q (V.tuple [r2,nO]) t) (oP (fZ 5 a i) λk=>cP C rl [k] i λl u=>dG 2 a u λb=>iQ (hZ 3 1 8 nZ b b) u λm B=>oP (fG [nS,nZ] [(0,1),(1,1)] [(0,m)]) λn=>iQ (zC 32 [nS,nZ]) B λv D=>fi (gW 2 v n D) λw x=>dG 2 a x λc=>iQ (hZ 4 1 1 bF c c) x λo y=>oP (fZ 5 a y) λp=>cP C mF [p] y λd q=>oP (fF d) λr=>vz C Q [a,e,l,v,o,d,r,nZ] q)
theorem EW{C}(s:C.start=fT){a h Q}(k:C.K mn [a] h=none)(H:yP C Q a h):cP C mn [a] h Q:=cP.vd t6 s (by unfold P0;exact Tryd.func6) k H
end
