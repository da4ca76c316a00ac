/- Parts. -/
import Derived.Test.YtbdcpiokodljaaaGreatDoorM14
set_option maxHeartbeats 4000000
namespace Go.Proofs.YtbdcpiokodljaaaGreatDoor.Hx
set_option maxRecDepth 100000
noncomputable section
def t8:List (Nat×List Nat):=[]
def Nv(C:fk)(Q:fo)(a0 a1:V)(h:Hp):Prop:=hH (mn 30 a0) h λe Y=>hH (mn 30 a1) Y λf d=>dF 0 e d λZ=>dF 0 f d λv8=>oP (en .eql 3 Z v8) λv9=>oP (jX v9 (oB (fF 1 e) λg=>oB (ez g d) λi=>oB (fF 1 f) λj=>oB (ez j d) λk=>en .eql 3 i k)) λa=>oP (fu true a) λl=>oP (gV l (fF 2 e)) λm=>oP (fu true a) λn=>oP (gV n (ez m d)) λo=>oP (fu true a) λp=>oP (gV p (fF 2 f)) λq=>oP (fu true a) λr=>oP (gV r (ez q d)) λs=>oP (fu true a) λt=>oP (gC t (some (gR,[o,s,(V.func qp [] [])]))) λu=>qN C u d λv w=>oP (jw a v bF) λb=>oP (fu true b) λx=>oP (gV x (fF 3 e)) λy=>oP (fu true b) λz=>oP (gV z (ez y w)) λA=>oP (fu true b) λB=>oP (gV B (fF 3 f)) λD=>oP (fu true b) λE=>oP (gV E (ez D w)) λF=>oP (fu true b) λG=>oP (gC G (some (gD,[A,F,(V.func oC [] [])]))) λH=>qN C H w λI J=>oP (jw b I bF) λc=>oP (fu true c) λK=>oP (gV K (fF 4 e)) λL=>oP (fu true c) λM=>oP (gV M (ez L J)) λN=>oP (fu true c) λO=>oP (gV O (fF 4 f)) λP=>oP (fu true c) λR=>oP (gV R (ez P J)) λS=>oP (fu true c) λT=>oP (gC T (some (gz,[N,S,(V.func qi [] [])]))) λU=>qN C U J λW h5=>oP (jw c W bF) λX=>Q X h5
theorem UF{C}(s:C.start=fG){a0 a1 h Q}(k:C.K Fc [a0,a1] h=none)(H:Nv C Q a0 a1 h):cP C Fc [a0,a1] h Q:=cP.vd t8 s (by unfold P0;exact Tryz.func8) k H
def t25:List (Nat×List Nat):=[]
def Je(C:fk)(Q:fo)(a0 a1:V)(h:Hp):Prop:=hH (mn 45 a0) h λb E=>hH (mn 45 a1) E λd c=>dF 0 b c λF=>dF 0 d c λG=>oP (en .neq 3 F G) λa=>oP (fu false a) λH=>oP (gV H (fX 6 b c)) λk=>oP (fu false a) λD=>oP (gV D (fX 6 d c)) λe=>oP (fu false a) λI=>oP (gC I (some (qb,[k]))) λJ=>qN C J c λl g=>(c.next<=g.next/\((gT D (fX 6 d g=some e))/\oP (fu false a) λK=>oP (gC K (some (qb,[e]))) λL=>qN C L g λm n=>(g.next<=n.next/\oP (fu false a) λo=>oP (gC o (some (gX,[l,m]))) λp=>qN C p n λq i=>(n.next<=i.next/\oP (nt a (pA .not q)) λr=>bP r (Q bF i) (dF 0 b i λs=>cP C xY [s] i λt f=>bP t (dF 3 b f λu=>dF 3 d f λv=>oP (en .eql 2 u v) λw=>Q w f) (dF 0 b f λx=>cP C oL [x] f λy j=>bP y (dF 5 b j λz=>dF 5 d j λA=>oP (en .eql 3 z A) λB=>Q B j) (Q bT j)))))))
theorem O3{C}(s:C.start=fG){a0 a1 h Q}(k:C.K qp [a0,a1] h=none)(H:Je C Q a0 a1 h):cP C qp [a0,a1] h Q:=cP.vd t25 s (by unfold P0;exact Tryz.func25) k H
def t27:List (Nat×List Nat):=[]
def F0(C:fk)(Q:fo)(a0 a1:V)(h:Hp):Prop:=hH (mn 43 a0) h λc h1=>hH (mn 43 a1) h1 λe g=>dF 1 c g λv6=>dF 1 e g λv8=>oP (en .neq 3 v6 v8) λf=>oP (fu false f) λb6=>oP (gV b6 (fF 0 c)) λi=>oP (fu false f) λb7=>oP (gV b7 (ez i g)) λj=>oP (fu false f) λb8=>oP (gV b8 (fF 0 e)) λk=>oP (fu false f) λb9=>oP (gV b9 (ez k g)) λl=>oP (fu false f) λm=>oP (gC m (some (gX,[j,l]))) λn=>qN C n g λo p=>oP (nt f (pA .not o)) λa=>oP (fu false a) λq=>oP (gV q (fF 3 c)) λr=>oP (fu false a) λs=>oP (gV s (ez r p)) λt=>oP (fu false a) λu=>oP (gV u (fF 3 e)) λv=>oP (fu false a) λw=>oP (gV w (ez v p)) λx=>oP (fu false a) λy=>oP (gC y (some (gX,[t,x]))) λz=>qN C z p λA B=>oP (nt a (pA .not A)) λb=>oP (fu false b) λD=>oP (gV D (fF 4 c)) λE=>oP (fu false b) λF=>oP (gV F (ez E B)) λG=>oP (fu false b) λH=>oP (gV H (fF 4 e)) λI=>oP (fu false b) λJ=>oP (gV J (ez I B)) λK=>oP (fu false b) λL=>oP (gC L (some (gX,[G,K]))) λM=>qN C M B λN d=>oP (nt b (pA .not N)) λO=>bP O (Q bF d) (dF 1 c d λP=>oP (en .neq 3 P (V.I 2)) λR=>oP (nt R (oB (fF 2 c) λS=>oB (ez S d) λT=>oB (fF 2 e) λU=>oB (ez U d) λW=>en .eql 3 T W)) λX=>oP (jX X (oB (fF 1 c) λY=>oB (ez Y d) λZ=>oB (en .neq 3 Z (V.I 3)) λaa=>oB (some aa) λab=>nt ab (oB (fF 5 c) λac=>oB (ez ac d) λae=>oB (fF 5 e) λag=>oB (ez ag d) λah=>en .eql 3 ae ah))) λai=>Q ai d)
theorem MD{C}(s:C.start=fG){a0 a1 h Q}(k:C.K oC [a0,a1] h=none)(H:F0 C Q a0 a1 h):cP C oC [a0,a1] h Q:=cP.vd t27 s (by unfold P0;exact Tryz.func27) k H
def t29:List (Nat×List Nat):=[]
def FV(C:fk)(Q:fo)(a0 a1:V)(h:Hp):Prop:=hH (mn 52 a0) h λb c=>hH (mn 52 a1) c λd a=>dF 0 b a λe=>dF 0 d a λf=>cP C gB [e,f,(V.func mG [] [])] a λg i=>Q g i
theorem ME{C}(s:C.start=fG){a0 a1 h Q}(k:C.K qi [a0,a1] h=none)(H:FV C Q a0 a1 h):cP C qi [a0,a1] h Q:=cP.vd t29 s (by unfold P0;exact Tryz.func29) k H
def t63:List (Nat×List Nat):=[]
def CK(C:fk)(Q:fo)(a0 a1:V)(h:Hp):Prop:=hH (mn 49 a0) h λd J=>hH (mn 49 a1) J λe c=>dF 0 d c λK=>dF 0 e c λL=>oP (en .eql 3 K L) λM=>oP (jX M (oB (fF 1 d) λf=>oB (ez f c) λg=>oB (fF 1 e) λi=>oB (ez i c) λj=>en .eql 3 g j)) λa=>oP (fu true a) λk=>oP (gV k (fF 2 d)) λl=>oP (fu true a) λm=>oP (gV m (ez l c)) λn=>oP (fu true a) λo=>oP (gV o (fF 2 e)) λp=>oP (fu true a) λq=>oP (gV q (ez p c)) λr=>oP (fu true a) λs=>oP (gC s (some (gX,[n,r]))) λt=>qN C t c λu v=>oP (jw a u bF) λb=>oP (fu true b) λw=>oP (gV w (fF 3 d)) λx=>oP (fu true b) λy=>oP (gV y (ez x v)) λz=>oP (fu true b) λA=>oP (gV A (fF 3 e)) λB=>oP (fu true b) λD=>oP (gV D (ez B v)) λE=>oP (fu true b) λF=>oP (gC F (some (gX,[z,E]))) λG=>qN C G v λH N=>oP (jw b H bF) λI=>Q I N
theorem KH{C}(s:C.start=fG){a0 a1 h Q}(k:C.K mG [a0,a1] h=none)(H:CK C Q a0 a1 h):cP C mG [a0,a1] h Q:=cP.vd t63 s (by unfold P0;exact Tryz.func63) k H
def t60:List (Nat×List Nat):=[]
def Hj(C:fk)(Q:fo)(a0:V)(h:Hp):Prop:=oP (en .eql 3 a0 nO) λe=>oP (nt e (oB (some a0) λf=>en .eql 3 f (V.I 2))) λg=>oP (nt g (oB (some a0) λa=>en .eql 3 a (V.I 17))) λb=>oP (nt b (oB (some a0) λc=>en .eql 3 c (V.I 19))) λd=>Q d h
theorem NQ{C}(s:C.start=fG){a0 h Q}(k:C.K xY [a0] h=none)(H:Hj C Q a0 h):cP C xY [a0] h Q:=cP.vd t60 s (by unfold P0;exact Tryz.func60) k H
def t24:List (Nat×List Nat):=[(87,[1,2,15,16,17])]
def jo(C:fk)(Q:fo):LP:=JV C Tryz.f24 t24 43 [1,2,15,16,17] [] Q
def jq(C:fk)(Q:fo)(fN:LP)(n o b c a:V)(h:Hp):Prop:=bO .lss 3 a c (oP (gG 6 b a) λd=>oP (fX 6 d h) λe=>hH (zC 45 [nZ,nZ,nZ,nZ,nS,nZ]) h λp u=>fg (gJ 6 p e u) λw q=>oP (gG 6 n a) λf=>oP (fX 6 f q) λg=>hH (zC 45 [nZ,nZ,nZ,nZ,nS,nZ]) q λr v=>fg (gJ 6 r g v) λs i=>oP (fX 6 p i) λj=>oP (fX 6 r i) λk=>hV C (gi o [j,k]) i λl t=>bN l (Q bF t) (oP (en .add 3 a nO) λm=>fN [n,o,b,c,m] t)) (Q bT h)
theorem mU{C Q}(I)(s:S5 I (jq C Q)){k l h}(i:I k l h)(e:l.length=5:=by rfl):jo C Q l h:=JV.l5 I _ s i e
def jH(C:fk)(Q:fo)(a0 a1 a2:V)(h:Hp):Prop:=oP (fD a0) λa=>oP (fD a1) λb=>bO .neq 3 a b (Q bF h) (oP (fD a0) λc=>jo C Q [a1,a2,a0,c,nZ] h)
theorem ny{C}(s:C.start=fG){a0 a1 a2 h Q}(k:C.K gR [a0,a1,a2] h=none)(H:jH C Q a0 a1 a2 h):cP C gR [a0,a1,a2] h Q:=cP.vd t24 s (by unfold P0;exact Tryz.func24) k H
def t26:List (Nat×List Nat):=[(87,[1,2,15,16,17])]
def iS(C:fk)(Q:fo):LP:=JV C Tryz.f26 t26 43 [1,2,15,16,17] [] Q
def iW(C:fk)(Q:fo)(fN:LP)(n o b c a:V)(h:Hp):Prop:=bO .lss 3 a c (oP (gG 6 b a) λd=>oP (fX 6 d h) λe=>hH (zC 43 [nS,nZ,nZ,nS,nS,nZ]) h λp u=>fg (gJ 6 p e u) λw q=>oP (gG 6 n a) λf=>oP (fX 6 f q) λg=>hH (zC 43 [nS,nZ,nZ,nS,nS,nZ]) q λr v=>fg (gJ 6 r g v) λs i=>oP (fX 6 p i) λj=>oP (fX 6 r i) λk=>hV C (gi o [j,k]) i λl t=>bN l (Q bF t) (oP (en .add 3 a nO) λm=>fN [n,o,b,c,m] t)) (Q bT h)
theorem kY{C Q}(I)(s:S5 I (iW C Q)){k l h}(i:I k l h)(e:l.length=5:=by rfl):iS C Q l h:=JV.l5 I _ s i e
def je(C:fk)(Q:fo)(a0 a1 a2:V)(h:Hp):Prop:=oP (fD a0) λa=>oP (fD a1) λb=>bO .neq 3 a b (Q bF h) (oP (fD a0) λc=>iS C Q [a1,a2,a0,c,nZ] h)
theorem lR{C}(s:C.start=fG){a0 a1 a2 h Q}(k:C.K gD [a0,a1,a2] h=none)(H:je C Q a0 a1 a2 h):cP C gD [a0,a1,a2] h Q:=cP.vd t26 s (by unfold P0;exact Tryz.func26) k H
def t28:List (Nat×List Nat):=[(87,[1,2,15,16,17])]
def iX(C:fk)(Q:fo):LP:=JV C Tryz.f28 t28 43 [1,2,15,16,17] [] Q
def iV(C:fk)(Q:fo)(fN:LP)(n o b c a:V)(h:Hp):Prop:=bO .lss 3 a c (oP (gG 1 b a) λd=>oP (fX 1 d h) λe=>hH (zC 52 [nS]) h λp u=>fg (gJ 1 p e u) λw q=>oP (gG 1 n a) λf=>oP (fX 1 f q) λg=>hH (zC 52 [nS]) q λr v=>fg (gJ 1 r g v) λs i=>oP (fX 1 p i) λj=>oP (fX 1 r i) λk=>hV C (gi o [j,k]) i λl t=>bN l (Q bF t) (oP (en .add 3 a nO) λm=>fN [n,o,b,c,m] t)) (Q bT h)
theorem kZ{C Q}(I)(s:S5 I (iV C Q)){k l h}(i:I k l h)(e:l.length=5:=by rfl):iX C Q l h:=JV.l5 I _ s i e
def jf(C:fk)(Q:fo)(a0 a1 a2:V)(h:Hp):Prop:=oP (fD a0) λa=>oP (fD a1) λb=>bO .neq 3 a b (Q bF h) (oP (fD a0) λc=>iX C Q [a1,a2,a0,c,nZ] h)
theorem lQ{C}(s:C.start=fG){a0 a1 a2 h Q}(k:C.K gz [a0,a1,a2] h=none)(H:jf C Q a0 a1 a2 h):cP C gz [a0,a1,a2] h Q:=cP.vd t28 s (by unfold P0;exact Tryz.func28) k H
def t62:List (Nat×List Nat):=[(87,[1,2,15,16,17])]
def iU(C:fk)(Q:fo):LP:=JV C Tryz.f62 t62 43 [1,2,15,16,17] [] Q
def iT(C:fk)(Q:fo)(fN:LP)(n o b c a:V)(h:Hp):Prop:=bO .lss 3 a c (oP (gG 4 b a) λd=>oP (fX 4 d h) λe=>hH (zC 49 [nZ,nZ,nS,nS]) h λp u=>fg (gJ 4 p e u) λw q=>oP (gG 4 n a) λf=>oP (fX 4 f q) λg=>hH (zC 49 [nZ,nZ,nS,nS]) q λr v=>fg (gJ 4 r g v) λs i=>oP (fX 4 p i) λj=>oP (fX 4 r i) λk=>hV C (gi o [j,k]) i λl t=>bN l (Q bF t) (oP (en .add 3 a nO) λm=>fN [n,o,b,c,m] t)) (Q bT h)
theorem lg{C Q}(I)(s:S5 I (iT C Q)){k l h}(i:I k l h)(e:l.length=5:=by rfl):iU C Q l h:=JV.l5 I _ s i e
def jd(C:fk)(Q:fo)(a0 a1 a2:V)(h:Hp):Prop:=oP (fD a0) λa=>oP (fD a1) λb=>bO .neq 3 a b (Q bF h) (oP (fD a0) λc=>iU C Q [a1,a2,a0,c,nZ] h)
theorem lV{C}(s:C.start=fG){a0 a1 a2 h Q}(k:C.K gB [a0,a1,a2] h=none)(H:jd C Q a0 a1 a2 h):cP C gB [a0,a1,a2] h Q:=cP.vd t62 s (by unfold P0;exact Tryz.func62) k H
end
set_option maxRecDepth 100000
noncomputable section
def t3:List (Nat×List Nat):=[]
def tT(C:fk)(Q:fo)(a0 a1 a2 a3:V)(h:Hp):Prop:=hH (mn 24 a0) h λR L=>oP (fX 3 R L) λp=>cP C oK [p] L λq S=>hH (zC 30 [nZ,nZ,nS,nS,nS]) S λj T=>fg (gJ 5 j q T) λvu M=>oP (fX 5 j M) λr=>cP C vj [r] M λs U=>hH (zC 30 [nZ,nZ,nS,nS,nS]) U λm W=>fg (gJ 5 m s W) λN O=>oP (fX 5 j O) λt=>cP C Cy [t] O λu X=>hH (zC 30 [nZ,nZ,nS,nS,nS]) X λa Y=>fg (gJ 5 a u Y) λP v=>cP C p7 [] v λw k=>oP (pA .not w) λf=>oP (fu false f) λb3=>oP (gV b3 (fX 5 j k)) λx=>oP (fu false f) λZ=>oP (gV Z (fX 5 m k)) λy=>oP (fu false f) λb5=>oP (gC b5 (some (Fc,[x,y]))) λy5=>qN C y5 k λz n=>oP (nt f (pA .not z)) λl=>oP (fu false l) λb9=>oP (gV b9 (fX 5 a n)) λA=>oP (fu false l) λB=>oP (gC B (some (m0,[A]))) λD=>qN C D n λE b=>oP (nt l (pA .not E)) λF=>bP F (Q bF b) (oP (fX 5 j b) λg=>oP (fX 5 a b) λi=>cP C mE [a1] b λG c=>(b.next<=c.next/\((fX 5 a c=some i)/\((fX 5 j c=some g)/\cP C nf [a2] c λH d=>(c.next<=d.next/\((fX 5 a d=some i)/\((fX 5 j d=some g)/\cP C iQ [a3,(V.I 9)] d λI e=>(d.next<=e.next/\oP (en .sub 3 I nO) λJ=>((fX 5 a e=some i)/\((fX 5 j e=some g)/\cP C kH [g,i,G,H,J,(V.I 1500)] e λK o=>(e.next<=o.next/\Q K o)))))))))))
theorem BK{C}(s:C.start=fG){a0 a1 a2 a3 h Q}(k:C.K ou [a0,a1,a2,a3] h=none)(H:tT C Q a0 a1 a2 a3 h):cP C ou [a0,a1,a2,a3] h Q:=cP.vd t3 s (by unfold P0;exact Tryz.func3) k H
end
