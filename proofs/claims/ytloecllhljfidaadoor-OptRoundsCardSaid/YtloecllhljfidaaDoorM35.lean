/- Parts. -/
import Derived.Test.YtloecllhljfidaaDoorM14
set_option maxHeartbeats 4000000
namespace Go.Proofs.YtloecllhljfidaaDoor.Hx
set_option maxRecDepth 100000
noncomputable section
def t8:List (Nat×List Nat):=[]
def KY(C:fm)(Q:fq)(a0 a1:V)(h:Hp):Prop:=gX (mm 29 a0) h λe Y=>gX (mm 29 a1) Y λf d=>dF 0 e d λZ=>dF 0 f d λv8=>oP (eJ .eql 3 Z v8) λv9=>oP (mn v9 (oB (fQ 1 e) λg=>oB (eQ g d) λi=>oB (fQ 1 f) λj=>oB (eQ j d) λk=>eJ .eql 3 i k)) λa=>oP (gq true a) λl=>oP (gV l (fQ 2 e)) λm=>oP (gq true a) λn=>oP (gV n (eQ m d)) λo=>oP (gq true a) λp=>oP (gV p (fQ 2 f)) λq=>oP (gq true a) λr=>oP (gV r (eQ q d)) λs=>oP (gq true a) λt=>oP (gC t (some (gy,[o,s,(V.func oD [] [])]))) λu=>vD C u d λv w=>oP (nM a v bF) λb=>oP (gq true b) λx=>oP (gV x (fQ 3 e)) λy=>oP (gq true b) λz=>oP (gV z (eQ y w)) λA=>oP (gq true b) λB=>oP (gV B (fQ 3 f)) λD=>oP (gq true b) λE=>oP (gV E (eQ D w)) λF=>oP (gq true b) λG=>oP (gC G (some (fV,[A,F,(V.func mA [] [])]))) λH=>vD C H w λI J=>oP (nM b I bF) λc=>oP (gq true c) λK=>oP (gV K (fQ 4 e)) λL=>oP (gq true c) λM=>oP (gV M (eQ L J)) λN=>oP (gq true c) λO=>oP (gV O (fQ 4 f)) λP=>oP (gq true c) λR=>oP (gV R (eQ P J)) λS=>oP (gq true c) λT=>oP (gC T (some (fW,[N,S,(V.func om [] [])]))) λU=>vD C U J λW h5=>oP (nM c W bF) λX=>Q X h5
theorem Rt{C}(s:C.start=fK){a0 a1 h Q}(k:C.K vK [a0,a1] h=none)(H:KY C Q a0 a1 h):cP C vK [a0,a1] h Q:=cP.vd t8 s (by unfold P0;exact Tryd.func8) k H
def t17:List (Nat×List Nat):=[]
def Fk(C:fm)(Q:fq)(a0 a1:V)(h:Hp):Prop:=gX (mm 40 a0) h λb E=>gX (mm 40 a1) E λd c=>dF 0 b c λF=>dF 0 d c λG=>oP (eJ .neq 3 F G) λa=>oP (gq false a) λH=>oP (gV H (fM 6 b c)) λk=>oP (gq false a) λD=>oP (gV D (fM 6 d c)) λe=>oP (gq false a) λI=>oP (gC I (some (mc,[k]))) λJ=>vD C J c λl g=>(c.next<=g.next/\((gT D (fM 6 d g=some e))/\oP (gq false a) λK=>oP (gC K (some (mc,[e]))) λL=>vD C L g λm n=>(g.next<=n.next/\oP (gq false a) λo=>oP (gC o (some (gJ,[l,m]))) λp=>vD C p n λq i=>(n.next<=i.next/\oP (uP a (vC .not q)) λr=>bP r (Q bF i) (dF 0 b i λs=>cP C tZ [s] i λt f=>bP t (dF 3 b f λu=>dF 3 d f λv=>oP (eJ .eql 2 u v) λw=>Q w f) (dF 0 b f λx=>cP C mG [x] f λy j=>bP y (dF 5 b j λz=>dF 5 d j λA=>oP (eJ .eql 3 z A) λB=>Q B j) (Q bT j)))))))
theorem MC{C}(s:C.start=fK){a0 a1 h Q}(k:C.K oD [a0,a1] h=none)(H:Fk C Q a0 a1 h):cP C oD [a0,a1] h Q:=cP.vd t17 s (by unfold P0;exact Tryd.func17) k H
def t19:List (Nat×List Nat):=[]
def Cq(C:fm)(Q:fq)(a0 a1:V)(h:Hp):Prop:=gX (mm 38 a0) h λc h1=>gX (mm 38 a1) h1 λe g=>dF 1 c g λv6=>dF 1 e g λv8=>oP (eJ .neq 3 v6 v8) λf=>oP (gq false f) λb6=>oP (gV b6 (fQ 0 c)) λi=>oP (gq false f) λb7=>oP (gV b7 (eQ i g)) λj=>oP (gq false f) λb8=>oP (gV b8 (fQ 0 e)) λk=>oP (gq false f) λb9=>oP (gV b9 (eQ k g)) λl=>oP (gq false f) λm=>oP (gC m (some (gJ,[j,l]))) λn=>vD C n g λo p=>oP (uP f (vC .not o)) λa=>oP (gq false a) λq=>oP (gV q (fQ 3 c)) λr=>oP (gq false a) λs=>oP (gV s (eQ r p)) λt=>oP (gq false a) λu=>oP (gV u (fQ 3 e)) λv=>oP (gq false a) λw=>oP (gV w (eQ v p)) λx=>oP (gq false a) λy=>oP (gC y (some (gJ,[t,x]))) λz=>vD C z p λA B=>oP (uP a (vC .not A)) λb=>oP (gq false b) λD=>oP (gV D (fQ 4 c)) λE=>oP (gq false b) λF=>oP (gV F (eQ E B)) λG=>oP (gq false b) λH=>oP (gV H (fQ 4 e)) λI=>oP (gq false b) λJ=>oP (gV J (eQ I B)) λK=>oP (gq false b) λL=>oP (gC L (some (gJ,[G,K]))) λM=>vD C M B λN d=>oP (uP b (vC .not N)) λO=>bP O (Q bF d) (dF 1 c d λP=>oP (eJ .neq 3 P (V.I 2)) λR=>oP (uP R (oB (fQ 2 c) λS=>oB (eQ S d) λT=>oB (fQ 2 e) λU=>oB (eQ U d) λW=>eJ .eql 3 T W)) λX=>oP (mn X (oB (fQ 1 c) λY=>oB (eQ Y d) λZ=>oB (eJ .neq 3 Z (V.I 3)) λaa=>oB (some aa) λab=>uP ab (oB (fQ 5 c) λac=>oB (eQ ac d) λae=>oB (fQ 5 e) λag=>oB (eQ ag d) λah=>eJ .eql 3 ae ah))) λai=>Q ai d)
theorem JG{C}(s:C.start=fK){a0 a1 h Q}(k:C.K mA [a0,a1] h=none)(H:Cq C Q a0 a1 h):cP C mA [a0,a1] h Q:=cP.vd t19 s (by unfold P0;exact Tryd.func19) k H
def t21:List (Nat×List Nat):=[]
def Cg(C:fm)(Q:fq)(a0 a1:V)(h:Hp):Prop:=gX (mm 47 a0) h λb c=>gX (mm 47 a1) c λd a=>dF 0 b a λe=>dF 0 d a λf=>cP C fU [e,f,(V.func lF [] [])] a λg i=>Q g i
theorem JB{C}(s:C.start=fK){a0 a1 h Q}(k:C.K om [a0,a1] h=none)(H:Cg C Q a0 a1 h):cP C om [a0,a1] h Q:=cP.vd t21 s (by unfold P0;exact Tryd.func21) k H
def t31:List (Nat×List Nat):=[]
def zF(C:fm)(Q:fq)(a0 a1:V)(h:Hp):Prop:=gX (mm 44 a0) h λd J=>gX (mm 44 a1) J λe c=>dF 0 d c λK=>dF 0 e c λL=>oP (eJ .eql 3 K L) λM=>oP (mn M (oB (fQ 1 d) λf=>oB (eQ f c) λg=>oB (fQ 1 e) λi=>oB (eQ i c) λj=>eJ .eql 3 g j)) λa=>oP (gq true a) λk=>oP (gV k (fQ 2 d)) λl=>oP (gq true a) λm=>oP (gV m (eQ l c)) λn=>oP (gq true a) λo=>oP (gV o (fQ 2 e)) λp=>oP (gq true a) λq=>oP (gV q (eQ p c)) λr=>oP (gq true a) λs=>oP (gC s (some (gJ,[n,r]))) λt=>vD C t c λu v=>oP (nM a u bF) λb=>oP (gq true b) λw=>oP (gV w (fQ 3 d)) λx=>oP (gq true b) λy=>oP (gV y (eQ x v)) λz=>oP (gq true b) λA=>oP (gV A (fQ 3 e)) λB=>oP (gq true b) λD=>oP (gV D (eQ B v)) λE=>oP (gq true b) λF=>oP (gC F (some (gJ,[z,E]))) λG=>vD C G v λH N=>oP (nM b H bF) λI=>Q I N
theorem Ha{C}(s:C.start=fK){a0 a1 h Q}(k:C.K lF [a0,a1] h=none)(H:zF C Q a0 a1 h):cP C lF [a0,a1] h Q:=cP.vd t31 s (by unfold P0;exact Tryd.func31) k H
def t28:List (Nat×List Nat):=[]
def DG(C:fm)(Q:fq)(a0:V)(h:Hp):Prop:=oP (eJ .eql 3 a0 nO) λe=>oP (uP e (oB (some a0) λf=>eJ .eql 3 f (V.I 2))) λg=>oP (uP g (oB (some a0) λa=>eJ .eql 3 a (V.I 17))) λb=>oP (uP b (oB (some a0) λc=>eJ .eql 3 c (V.I 19))) λd=>Q d h
theorem KP{C}(s:C.start=fK){a0 h Q}(k:C.K tZ [a0] h=none)(H:DG C Q a0 h):cP C tZ [a0] h Q:=cP.vd t28 s (by unfold P0;exact Tryd.func28) k H
def t16:List (Nat×List Nat):=[(87,[1,2,15,16,17])]
def iO(C:fm)(Q:fq):LP:=JV C Tryd.f16 t16 43 [1,2,15,16,17] [] Q
def iK(C:fm)(Q:fq)(d:LP)(o p b c a:V)(h:Hp):Prop:=bO .lss 3 a c (oP (hV 6 b a) λe=>oP (fM 6 e h) λf=>gX (zC 40 [nZ,nZ,nZ,nZ,nS,nZ]) h λq v=>fc (gh 6 q f v) λx r=>oP (hV 6 o a) λg=>oP (fM 6 g r) λi=>gX (zC 40 [nZ,nZ,nZ,nZ,nS,nZ]) r λs w=>fc (gh 6 s i w) λt j=>oP (fM 6 q j) λk=>oP (fM 6 s j) λl=>gN C (fO p [k,l]) j λm u=>bN m (Q bF u) (oP (eJ .add 3 a nO) λn=>d [o,p,b,c,n] u)) (Q bT h)
theorem lK{C Q}(I)(s:S5 I (iK C Q)){k l h}(i:I k l h)(e:l.length=5:=by rfl):iO C Q l h:=JV.l5 I _ s i e
def iV(C:fm)(Q:fq)(a0 a1 a2:V)(h:Hp):Prop:=oP (fD a0) λa=>oP (fD a1) λb=>bO .neq 3 a b (Q bF h) (oP (fD a0) λc=>iO C Q [a1,a2,a0,c,nZ] h)
theorem l0{C}(s:C.start=fK){a0 a1 a2 h Q}(k:C.K gy [a0,a1,a2] h=none)(H:iV C Q a0 a1 a2 h):cP C gy [a0,a1,a2] h Q:=cP.vd t16 s (by unfold P0;exact Tryd.func16) k H
def t18:List (Nat×List Nat):=[(87,[1,2,15,16,17])]
def ij(C:fm)(Q:fq):LP:=JV C Tryd.f18 t18 43 [1,2,15,16,17] [] Q
def iq(C:fm)(Q:fq)(d:LP)(o p b c a:V)(h:Hp):Prop:=bO .lss 3 a c (oP (hV 6 b a) λe=>oP (fM 6 e h) λf=>gX (zC 38 [nS,nZ,nZ,nS,nS,nZ]) h λq v=>fc (gh 6 q f v) λx r=>oP (hV 6 o a) λg=>oP (fM 6 g r) λi=>gX (zC 38 [nS,nZ,nZ,nS,nS,nZ]) r λs w=>fc (gh 6 s i w) λt j=>oP (fM 6 q j) λk=>oP (fM 6 s j) λl=>gN C (fO p [k,l]) j λm u=>bN m (Q bF u) (oP (eJ .add 3 a nO) λn=>d [o,p,b,c,n] u)) (Q bT h)
theorem jT{C Q}(I)(s:S5 I (iq C Q)){k l h}(i:I k l h)(e:l.length=5:=by rfl):ij C Q l h:=JV.l5 I _ s i e
def iC(C:fm)(Q:fq)(a0 a1 a2:V)(h:Hp):Prop:=oP (fD a0) λa=>oP (fD a1) λb=>bO .neq 3 a b (Q bF h) (oP (fD a0) λc=>ij C Q [a1,a2,a0,c,nZ] h)
theorem kF{C}(s:C.start=fK){a0 a1 a2 h Q}(k:C.K fV [a0,a1,a2] h=none)(H:iC C Q a0 a1 a2 h):cP C fV [a0,a1,a2] h Q:=cP.vd t18 s (by unfold P0;exact Tryd.func18) k H
def t20:List (Nat×List Nat):=[(87,[1,2,15,16,17])]
def im(C:fm)(Q:fq):LP:=JV C Tryd.f20 t20 43 [1,2,15,16,17] [] Q
def ir(C:fm)(Q:fq)(d:LP)(o p b c a:V)(h:Hp):Prop:=bO .lss 3 a c (oP (hV 1 b a) λe=>oP (fM 1 e h) λf=>gX (zC 47 [nS]) h λq v=>fc (gh 1 q f v) λx r=>oP (hV 1 o a) λg=>oP (fM 1 g r) λi=>gX (zC 47 [nS]) r λs w=>fc (gh 1 s i w) λt j=>oP (fM 1 q j) λk=>oP (fM 1 s j) λl=>gN C (fO p [k,l]) j λm u=>bN m (Q bF u) (oP (eJ .add 3 a nO) λn=>d [o,p,b,c,n] u)) (Q bT h)
theorem jW{C Q}(I)(s:S5 I (ir C Q)){k l h}(i:I k l h)(e:l.length=5:=by rfl):im C Q l h:=JV.l5 I _ s i e
def iB(C:fm)(Q:fq)(a0 a1 a2:V)(h:Hp):Prop:=oP (fD a0) λa=>oP (fD a1) λb=>bO .neq 3 a b (Q bF h) (oP (fD a0) λc=>im C Q [a1,a2,a0,c,nZ] h)
theorem kr{C}(s:C.start=fK){a0 a1 a2 h Q}(k:C.K fW [a0,a1,a2] h=none)(H:iB C Q a0 a1 a2 h):cP C fW [a0,a1,a2] h Q:=cP.vd t20 s (by unfold P0;exact Tryd.func20) k H
def t30:List (Nat×List Nat):=[(87,[1,2,15,16,17])]
def il(C:fm)(Q:fq):LP:=JV C Tryd.f30 t30 43 [1,2,15,16,17] [] Q
def ik(C:fm)(Q:fq)(d:LP)(o p b c a:V)(h:Hp):Prop:=bO .lss 3 a c (oP (hV 4 b a) λe=>oP (fM 4 e h) λf=>gX (zC 44 [nZ,nZ,nS,nS]) h λq v=>fc (gh 4 q f v) λx r=>oP (hV 4 o a) λg=>oP (fM 4 g r) λi=>gX (zC 44 [nZ,nZ,nS,nS]) r λs w=>fc (gh 4 s i w) λt j=>oP (fM 4 q j) λk=>oP (fM 4 s j) λl=>gN C (fO p [k,l]) j λm u=>bN m (Q bF u) (oP (eJ .add 3 a nO) λn=>d [o,p,b,c,n] u)) (Q bT h)
theorem jU{C Q}(I)(s:S5 I (ik C Q)){k l h}(i:I k l h)(e:l.length=5:=by rfl):il C Q l h:=JV.l5 I _ s i e
def iD(C:fm)(Q:fq)(a0 a1 a2:V)(h:Hp):Prop:=oP (fD a0) λa=>oP (fD a1) λb=>bO .neq 3 a b (Q bF h) (oP (fD a0) λc=>il C Q [a1,a2,a0,c,nZ] h)
theorem ko{C}(s:C.start=fK){a0 a1 a2 h Q}(k:C.K fU [a0,a1,a2] h=none)(H:iD C Q a0 a1 a2 h):cP C fU [a0,a1,a2] h Q:=cP.vd t30 s (by unfold P0;exact Tryd.func30) k H
end
