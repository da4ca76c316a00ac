/- Parts. -/
import Derived.Test.YtcoaokdoecgcbaaGreatDoorM34
set_option maxHeartbeats 4000000
namespace Go.Proofs.YtcoaokdoecgcbaaGreatDoor.Hx
set_option maxRecDepth 100000
noncomputable section
def t154:List (Nat×List Nat):=[]
def Jd(C:fj)(Q:fo)(a:V)(h:Hp):Prop:=oP (fD a) λb=>Q b h
theorem Jh{C}(s:C.start=fy){a h Q}(k:C.K sL [a] h=none)(H:Jd C Q a h):cP C sL [a] h Q:=cP.vd t154 s (by unfold P0;exact Tryz.func154) k H
def t155:List (Nat×List Nat):=[]
def Ia(C:fj)(Q:fo)(d e f:V)(h:Hp):Prop:=dX 1 d e h λa=>dX 1 d f h λb=>oP (ef .lss 3 a b) λc=>Q c h
theorem HO{C}(s:C.start=fy){a b c h Q}(k:C.K rD [a,b,c] h=none)(H:Ia C Q a b c h):cP C rD [a,b,c] h Q:=cP.vd t155 s (by unfold P0;exact Tryz.func155) k H
def t156:List (Nat×List Nat):=[]
def Hy(C:fj)(Q:fo)(a g i:V)(h:Hp):Prop:=dX 1 a i h λb=>dX 1 a g h λc=>oP (gP 1 a g) λd=>fg (gL 1 d b h) λl e=>(h.next<=e.next/\oP (gP 1 a i) λf=>fg (gL 1 f c e) λj k=>(e.next<=k.next/\Q (V.tuple []) k))
theorem HZ{C}(s:C.start=fy){a b c h Q}(k:C.K rF [a,b,c] h=none)(H:Hy C Q a b c h):cP C rF [a,b,c] h Q:=cP.vd t156 s (by unfold P0;exact Tryz.func156) k H
def t157:List (Nat×List Nat):=[]
def I8(C:fj)(Q:fo)(a:V)(h:Hp):Prop:=oP (gq a) λk=>oP (eC k h) λl=>oP (fD l) λm=>oP (ef .sub 3 m nO) λj=>oP (gq a) λb=>oP (eC b h) λc=>dX 1 c j h λd=>oP (gq a) λe=>oP (eC e h) λf=>oP (iL 1 f none (some j) h) λg=>oP (gq a) λi=>fg (gL 1 i g h) λo n=>Q (V.iface 3 d) n
theorem Jf{C}(s:C.start=fy){a h Q}(k:C.K sI [a] h=none)(H:I8 C Q a h):cP C sI [a] h Q:=cP.vd t157 s (by unfold P0;exact Tryz.func157) k H
section
variable (C:fj)(Q:X->gg->Hp->Prop)(ρ:gg)(h:Hp)
def zff:=ES Tryz.f158
theorem zgT:gJ C 13 zff Q ρ h=(oP (some (ρ 0)) λb=>
 oP (some (ρ 0)) λe=>
 oP (gq e) λf=>
 oP (eC f h) λj=>
 oP (some (ρ 1)) λg=>
 oP (Ek 3 (V.I 0) g) λk=>
 vj (iK 3 1 1 (V.I 0) [(0,k)]) h λl c i=>
 ((i.get (h.next)=some l/\O.beq l l=true)/\
 ((Ek 3 (V.I 0) g=some k)/\
 ((some (ρ 1)=some g)/\
 ((eC f i=some j)/\
 ((gq e=some f)/\
 ((some (ρ 0)=some e)/\
 ((some (ρ 0)=some b)/\
 fg (eQ 3 1 8 j c i) λd m=>
 (i.next<=m.next/\
 oP (gq b) λa=>
 ((gq b=some a)/\
 ((some (ρ 0)=some b)/\
 fg (gL 1 a d m) λo n=>
 (m.next<=n.next/\
 Q .normal (fc (fc (fc (fc (fc (fc (fc (fc (fc ρ 4 b) 5 e) 6 f) 7 j) 8 g) 9 k) 10 c) 11 d) 12 a) n)))))))))))):=by kernel_rfl
theorem zgZ{C:fj}(hs:C.start=fy)(a b:V){h:Hp}{Q:fo}(c:C.K lX [a,b] h=none)(H:gJ C 13 zff (zK [] Q) (Il [a,b]) h):cP C lX [a,b] h Q:=
 cP.Sh hs (show P0.funcs[158]? =some Tryz.f158 by unfold P0;exact Tryz.func158) (by kernel_rfl) (by kernel_rfl) (by kernel_rfl) c (Iv rfl) (Wp.code _ H)
noncomputable def yB(C:fj) (Q:fo) (g l:V) (h:Hp):Prop:=oP (gq g) λi=>oP (eC i h) λj=>oP (Ek 3 (V.I 0) l) λm=>vj (iK 3 1 1 (V.I 0) [(0,m)]) h λb c a=>((a.get (h.next)=some b/\O.beq b b=true)/\((eC i a=some j)/\fg (eQ 3 1 8 j c a) λd e=>(a.next<=e.next/\oP (gq g) λf=>fg (gL 1 f d e) λn k=>(e.next<=k.next/\Q (V.tuple []) k))))
theorem HG{C:fj}(hs:C.start=fy){b c:V}{h:Hp}{Q:fo}(f:C.K lX [b,c] h=none)(H:yB C Q b c h):cP C lX [b,c] h Q:=by
 unfold yB at H;exact zgZ hs _ _ f ((zgT _ _ _ _).mpr (km (km (oM H λl d H=>oM H λm g H=>km (oM H λn e H=>zbY H λo i p H=>Mn H λH=>⟨e,⟨rfl,Mn H λH=>⟨d,⟨rfl,⟨rfl,Nq H λj q H=>Mn H λH=>oM H λk a H=>⟨a,⟨rfl,Nq H λr s H=>Mn H λH=>H⟩⟩⟩⟩⟩⟩⟩)))))
end
def t96:List (Nat×List Nat):=[(175,[1,5,6,19,20,21]),(3886,[1,5,6,19,20,21]),(351,[1,5,6,52,53,54]),(7774,[1,5,6,52,53,54]),(1407,[1,5,75,76,77]),(31102,[1,5,75,76,77])]
def Fw(C:fj)(Q:fo):LP:=JV C Tryz.f96 t96 87 [1,5,6,19,20,21] [] Q
def sr(C:fj)(Q:fo)(a:LP):LP:=JV C Tryz.f96 t96 1943 [1,5,6,19,20,21] [kf [1,5,6,19,20,21] a] Q
def GD(C:fj)(Q:fo):LP:=JV C Tryz.f96 t96 175 [1,5,6,52,53,54] [] Q
def sm(C:fj)(Q:fo)(a:LP):LP:=JV C Tryz.f96 t96 3887 [1,5,6,52,53,54] [kf [1,5,6,52,53,54] a] Q
def EZ(C:fj)(Q:fo):LP:=JV C Tryz.f96 t96 703 [1,5,75,76,77] [] Q
def su(C:fj)(Q:fo)(a:LP):LP:=JV C Tryz.f96 t96 15551 [1,5,75,76,77] [kf [1,5,75,76,77] a] Q
def Fu(C:fj)(Q:fo)(g:LP)(m i j c d a:V)(h:Hp):Prop:=bO .lss 3 a d (oP (gP 2 c a) λn=>oP (gy 2 n h) λo=>hZ (zC 177 [nZ,nZ]) h λe E=>fg (gL 2 e o E) λH b=>dF 0 e b λp=>dF 1 e b λq=>bO .neq 3 p q (dN 0 i b λr=>dF 1 e b λs=>dF 0 e b λt=>fg (xh 3 none r s t b) λB f=>(b.next<=f.next/\dN 1 i f λk=>dF 0 e f λl=>oP (p5 3 none nZ false k l f) λu=>oP (ef .add 3 u nO) λv=>fg (xh 3 none k l v f) λD w=>(f.next<=w.next/\dF 1 e w λx=>hZ (iK 3 1 1 nZ [(0,x)]) w λy F=>fg (eQ 3 1 8 j y F) λz G=>sr C Q g [m,i,z,c,d,a] G))) (sr C Q g [m,i,j,c,d,a] b)) (oP (fD j) λA=>GD C Q [m,i,j,j,A,nZ] h)
theorem Om{C Q}(I)(s:S6 I (Fu C Q)){k l h}(i:I k l h)(e:l.length=6:=by rfl):Fw C Q l h:=JV.l6 I _ s i e
def El(C:fj)(Q:fo)(a:LP)(f g i b c d:V)(h:Hp):Prop:=oP (ef .add 3 d nO) λe=>a [f,g,i,b,c,e] h
theorem Mr{C Q a}:R6 (El C Q a) (sr C Q a):=JV.r6 _
def FQ(C:fj)(Q:fo)(e:LP)(i d g b c a:V)(h:Hp):Prop:=bO .lss 3 a c (dX 1 b a h λf=>dN 1 d h λj=>oP (p5 3 none nZ false j f h) λk=>bO .eql 3 k nZ (oP (gq d) λl=>oP (fK 2 l) λm=>cP C iT [(V.iface 198 m),(V.iface 3 f)] h λo p=>sm C Q e [i,d,g,b,c,a] p) (sm C Q e [i,d,g,b,c,a] h)) (cP C ni [d] h λq r=>oP (fD g) λn=>EZ C Q [i,d,g,n,nZ] r)
theorem OA{C Q}(I)(s:S6 I (FQ C Q)){k l h}(i:I k l h)(e:l.length=6:=by rfl):GD C Q l h:=JV.l6 I _ s i e
def Ey(C:fj)(Q:fo)(a:LP)(f g i b c d:V)(h:Hp):Prop:=oP (ef .add 3 d nO) λe=>a [f,g,i,b,c,e] h
theorem Mo{C Q a}:R6 (Ey C Q a) (sm C Q a):=JV.r6 _
def Gi(C:fj)(Q:fo)(f:LP)(m b c d a:V)(h:Hp):Prop:=bO .lss 3 a d (dX 1 c a h λe=>dN 0 b h λn=>oP (p5 3 none nZ true n e h) λg=>oP (Dh 0 g) λt=>oP (Dh 1 g) λo=>bP o (dN 3 b h λp=>oP (fm [nZ,nZ] [(0,1),(1,1)] [(0,e),(1,m)]) λq=>hZ (iK 177 2 1 (V.agg [nZ,nZ]) [(0,q)]) h λr u=>fg (eQ 177 2 16 p r u) λi v=>oP (gq b) λj=>oP (fK 3 j) λk=>fg (gL 1 k i v) λy w=>cP C mU [b,e,m] w λs x=>su C Q f [m,b,c,d,a] x) (su C Q f [m,b,c,d,a] h)) (dN 3 b h λl=>Q l h)
theorem Oj{C Q}(I)(s:S5 I (Gi C Q)){k l h}(i:I k l h)(e:l.length=5:=by rfl):EZ C Q l h:=JV.l5 I _ s i e
def Ee(C:fj)(Q:fo)(b:LP)(f g c d e:V)(h:Hp):Prop:=oP (ef .add 3 e nO) λa=>b [f,g,c,d,a] h
theorem Mu{C Q a}:R5 (Ee C Q a) (su C Q a):=JV.r5 _
def Md(C:fj)(Q:fo)(f g:V)(h:Hp):Prop:=hZ (some (.map [] 0,λl=> .map l)) h λa i=>hZ (some (.map [] 0,λl=> .map l)) i λb j=>oP (fm [V.ke,V.ke,nS,nS] [(0,1),(1,1),(2,1),(3,1)] [(0,a),(1,b)]) λc=>hZ (nj 197 c) j λd k=>oP (fD f) λe=>Fw C Q [g,d,nS,f,e,nZ] k
theorem Sa{C}(s:C.start=fy){a b h Q}(k:C.K AY [a,b] h=none)(H:Md C Q a b h):cP C AY [a,b] h Q:=cP.vd t96 s (by unfold P0;exact Tryz.func96) k H
def t112:List (Nat×List Nat):=[(5,[0])]
def tu(C:fj)(Q:fo):LP:=JV C Tryz.f112 t112 2 [0] [] Q
def sW(C:fj)(Q:fo)(e:LP)(b:V)(h:Hp):Prop:=oP (gq b) λN=>dG 2 N h λj=>bO .gtr 3 j nZ (oP (gq b) λk=>oP (fK 2 k) λl=>cP C lg [(V.iface 198 l)] h λm i=>oP (Ek 3 nZ m) λc=>dN 0 b i λn=>oP (p5 3 none nZ false n c i) λa=>dN 3 b i λo=>oP (fm [nZ,nZ] [(0,1),(1,1)] [(0,a),(1,c)]) λp=>hZ (iK 177 2 1 (V.agg [nZ,nZ]) [(0,p)]) i λq O=>fg (eQ 177 2 16 o q O) λr P=>oP (gq b) λs=>oP (fK 3 s) λt=>fg (gL 1 t r P) λU K=>dN 0 b K λu=>fg (Bf 3 none u c K) λL v=>dN 1 b v λf=>oP (p5 3 none nZ false f a v) λw=>oP (ef .sub 3 w nO) λx=>fg (xh 3 none f a x v) λM d=>dN 0 b d λy=>oP (p5 3 none nZ true y a d) λg=>oP (Dh 0 g) λR=>oP (Dh 1 g) λz=>oP (iM z (oB (some b) λA=>oB (gq A) λB=>oB (fK 1 B) λD=>oB (eC D d) λE=>oB (some a) λF=>oB (p5 3 none nZ false E F d) λG=>ef .eql 3 G nZ)) λH=>bP H (oP (gq b) λI=>oP (fK 2 I) λJ=>cP C iT [(V.iface 198 J),(V.iface 3 a)] d λS T=>e [b] T) (e [b] d)) (Q (V.tuple []) h)
theorem CH{C Q}(I)(s:S1 I (sW C Q)){k l h}(i:I k l h)(e:l.length=1:=by rfl):tu C Q l h:=JV.l1 I _ s i e
def xu(C:fj)(Q:fo)(a:V)(h:Hp):Prop:=tu C Q [a] h
theorem Fx{C}(s:C.start=fy){a h Q}(k:C.K ni [a] h=none)(H:xu C Q a h):cP C ni [a] h Q:=cP.vd t112 s (by unfold P0;exact Tryz.func112) k H
def t113:List (Nat×List Nat):=[(11,[0,1,2,6])]
def tk(C:fj)(Q:fo):LP:=JV C Tryz.f113 t113 5 [0,1,2,6] [] Q
def tf(C:fj)(Q:fo)(e:LP)(a u v c:V)(h:Hp):Prop:=dN 0 a h λf=>oP (p5 3 none nZ false f c h) λb=>dN 0 a h λg=>fg (Bf 3 none g c h) λF d=>bO .eql 3 b u (dN 3 a d λi=>oP (fm [nZ,nZ] [(0,1),(1,1)] [(0,v),(1,c)]) λj=>hZ (iK 177 2 1 (V.agg [nZ,nZ]) [(0,j)]) d λk y=>fg (eQ 177 2 16 i k y) λl z=>oP (gq a) λm=>oP (fK 3 m) λn=>fg (gL 1 n l z) λw A=>Q (V.tuple []) A) (dN 3 a d λo=>oP (fm [nZ,nZ] [(0,1),(1,1)] [(0,b),(1,c)]) λp=>hZ (iK 177 2 1 (V.agg [nZ,nZ]) [(0,p)]) d λq B=>fg (eQ 177 2 16 o q B) λr D=>oP (gq a) λs=>oP (fK 3 s) λt=>fg (gL 1 t r D) λx E=>e [a,u,v,b] E)
theorem Co{C Q}(I)(s:S4 I (tf C Q)){k l h}(i:I k l h)(e:l.length=4:=by rfl):tk C Q l h:=JV.l4 I _ s i e
def xS(C:fj)(Q:fo)(b a c:V)(h:Hp):Prop:=tk C Q [b,a,c,a] h
theorem Fv{C}(s:C.start=fy){a b c h Q}(k:C.K mU [a,b,c] h=none)(H:xS C Q a b c h):cP C mU [a,b,c] h Q:=cP.vd t113 s (by unfold P0;exact Tryz.func113) k H
end
set_option maxRecDepth 100000
noncomputable section
def t7:List (Nat×List Nat):=[(175,[2,4,8,9])]
def zW(C:fj)(Q:fo):LP:=JV C Tryz.f7 t7 87 [2,4,8,9] [] Q
def tO(C:fj)(Q:fo)(s t:V)(h:Hp):Prop:=hZ (nj 34 s) h λc u=>hZ (zC 37 [nS,nZ]) u λd b=>bN t (oP (gy 5 c b) λe=>cP C qO [e] b λa v=>oP (Dh 0 a) λf=>oP (Dh 1 a) λg=>hZ (zC 37 [nS,nZ]) v λm w=>fg (gL 2 m f w) λz n=>oP (gy 2 m n) λi=>oP (ef .eql 40 g nZ) λj=>fg (gL 2 d i n) λo p=>oP (gy 2 d p) λr4=>Q (V.tuple [r4,j]) p) (dG 2 c b λk=>oP (fm [nS,nZ] [(0,1),(1,1)] [(1,k)]) λl=>hZ (zC 37 [nS,nZ]) b λq x=>fg (gL 2 q l x) λr y=>zW C Q [c,d,q,nZ] y)
theorem Cw{C}(s:C.start=fy){a b h Q}(k:C.K lI [a,b] h=none)(H:tO C Q a b h):cP C lI [a,b] h Q:=cP.vd t7 s (by unfold P0;exact Tryz.func7) k H
def t3:List (Nat×List Nat):=[(254,[4,8,14]),(510,[14])]
def fZ(C:fj)(Q:fo):LP:=JV C Tryz.f3 t3 127 [4,8,14] [] Q
def jk(C:fj)(Q:fo):LP:=JV C Tryz.f3 t3 255 [14] [] Q
def oW(C:fj)(Q:fo)(c d a:V)(h:Hp):Prop:=bP c (oP (gy 5 d h) λb=>fg (gL 5 a b h) λf e=>jk C Q [a] e) (jk C Q [a] h)
theorem xm{C Q}:R3 (oW C Q) (fZ C Q):=JV.r3 _
def ox(C:fj)(Q:fo)(b:V)(h:Hp):Prop:=oP (gy 5 b h) λc=>oP (gy 5 b h) λa=>cP C zx [c] h λd g=>(h.next<=g.next/\((gy 5 b g=some a)/\cP C jF [a] g λe i=>(g.next<=i.next/\oP (ef .eql 4 d e) λf=>Q f i)))
theorem wy{C Q}:R1 (ox C Q) (jk C Q):=JV.r1 _
def qo(C:fj)(Q:fo)(a0 L M a3 j:V)(h:Hp):Prop:=hZ (nj 24 a0) h λv5 h1=>hZ (nj 29 a3) h1 λk h2=>oP (gy 3 v5 h2) λN=>cP C ng [N] h2 λO h3=>hZ (zC 34 [nZ,nZ,nS,nS,nS]) h3 λg h4=>fg (gL 5 g O h4) λvu h5=>oP (gy 5 g h5) λP=>cP C lI [P,bF] h5 λl h6=>oP (Dh 0 l) λR=>oP (Dh 1 l) λS=>hZ (zC 37 [nS,nZ]) h6 λm h7=>fg (gL 2 m R h7) λbo T=>oP (gy 5 g T) λU=>oP (gy 2 m T) λW=>cP C Bg [U,W] T λn h9=>oP (Dh 0 n) λX=>oP (Dh 1 n) λY=>hZ (zC 29 [nZ,nZ,nS,nS,nS]) h9 λa Z=>fg (gL 5 a X Z) λbp aa=>cP C pg [] aa λab e=>oP (qH .not ab) λac=>oP (mm ac (oB (some S) λae=>qH .not ae)) λag=>oP (mm ag (oB (some Y) λah=>ef .neq 40 ah nZ)) λai=>oP (mm ai (oB (fK 3 a) λaj=>oB (eC aj e) λak=>oB (fD ak) λal=>ef .eql 3 al nZ)) λam=>oP (mm am (oB (fK 2 a) λan=>oB (eC an e) λao=>oB (fD ao) λaq=>ef .eql 3 aq nZ)) λar=>bP ar (Q bF e) (cP C gj [M,(V.I 6)] e λc b=>bO .eql 3 c nZ (hZ (iK 5 1 0 (V.int .u8 0) []) b λau o=>dF 2 a o λaw=>fg (eQ 5 1 1 au aw o) λi ax=>oP (fD i) λay=>cP C gj [L,ay] ax λaz aA=>oP (ef .quo 3 M (V.I 6)) λaB=>oP (jT .u8 aB) λaC=>oP (gP 1 i az) λaD=>fg (gL 1 aD aC aA) λbr aE=>oP (fK 2 a) λaF=>fg (gL 1 aF i aE) λbt aG=>fZ C Q [j,k,a] aG) (bO .eql 3 c nO (dF 3 a b λaH=>oP (iL 3 aH (some nO) none b) λaI=>oP (fK 3 a) λaJ=>fg (gL 1 aJ aI b) λbu aK=>fZ C Q [j,k,a] aK) (bO .eql 3 c (V.I 2) (hZ (iK 46 2 0 (V.agg [nZ,nZ]) []) b λaL p=>dF 4 a p λaM=>fg (eQ 46 2 16 aL aM p) λaN aO=>oP (ef .quo 3 M (V.I 6)) λaP=>cP C gj [aP,(V.I 6)] aO λaQ aR=>cP C gj [L,(V.I 410)] aR λaS aT=>oP (ef .sub 3 aS (V.I 2)) λaU=>oP (fm [nZ,nZ] [(0,1),(1,1)] [(0,aQ),(1,aU)]) λaV=>hZ (iK 46 2 1 (V.agg [nZ,nZ]) [(0,aV)]) aT λaW aX=>fg (eQ 46 2 16 aN aW aX) λaY aZ=>oP (fK 4 a) λa5=>fg (gL 1 a5 aY aZ) λbv a6=>fZ C Q [j,k,a] a6) (bO .eql 3 c (V.I 3) (hZ (iK 51 3 0 (V.agg [nS,nZ,nZ]) []) b λa7 q=>dF 3 a q λa8=>fg (eQ 51 3 40 a7 a8 q) λf a9=>oP (ef .quo 3 M (V.I 6)) λr=>cP C gj [r,(V.I 6)] a9 λs ba=>cP C gj [L,(V.I 410)] ba λt bb=>oP (ef .sub 3 t (V.I 2)) λu=>oP (fm [nZ,nZ] [(0,1),(1,1)] [(0,s),(1,u)]) λv=>hZ (iK 46 2 1 (V.agg [nZ,nZ]) [(0,v)]) bb λw bc=>oP (fm [nZ,nZ,nS,nS] [(0,1),(1,1),(2,1),(3,1)] [(2,w)]) λx=>hZ (iK 48 4 1 (V.agg [nZ,nZ,nS,nS]) [(0,x)]) bc λy bd=>oP (gP 3 f nZ) λz=>oP (fK 0 z) λA=>fg (gL 1 A y bd) λbw be=>oP (fK 3 a) λB=>fg (gL 1 B f be) λbx bf=>fZ C Q [j,k,a] bf) (bO .eql 3 c (V.I 4) (hZ (iK 51 3 0 (V.agg [nS,nZ,nZ]) []) b λD E=>dF 3 a E λF=>fg (eQ 51 3 40 D F E) λd bg=>oP (fD d) λG=>cP C gj [L,G] bg λH bi=>oP (gP 3 d H) λI=>oP (fK 0 I) λJ=>fg (gL 1 J nS bi) λbz bj=>oP (fK 3 a) λK=>fg (gL 1 K d bj) λbm bn=>fZ C Q [j,k,a] bn) (fZ C Q [j,k,a] b))))))
theorem Al{C}(s:C.start=fy){a b c d e h Q}(k:C.K mz [a,b,c,d,e] h=none)(H:qo C Q a b c d e h):cP C mz [a,b,c,d,e] h Q:=cP.vd t3 s (by unfold P0;exact Tryz.func3) k H
end
