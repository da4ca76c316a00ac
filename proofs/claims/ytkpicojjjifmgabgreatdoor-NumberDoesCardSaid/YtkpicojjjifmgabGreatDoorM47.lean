/- Parts. -/
import Derived.Test.YtkpicojjjifmgabGreatDoorM48
set_option maxHeartbeats 4000000
namespace Go.Proofs.YtkpicojjjifmgabGreatDoor.Hx
set_option maxRecDepth 100000
noncomputable section
section
variable (C:fu)(Q:X->gO->Hp->Prop)(ρ:gO)(h:Hp)
def Ud:=K4 Tryz.f41
def zbT:=Ud.r
def zbF:=Ud.r.l.r
def zbN:=Ud.r.r
def zec:=andThen (Wp C 69 zbN Q) Q
def zbs:=Ud.r.l.r.l.r
def zb4:=Ud.r.r.l.r
def zbA:=Ud.r.r.r
def zbB:=andThen (Wp C 69 zbA Q) Q
def ZB:=Ud.r.r.l.r.l.l
def zeq(C:fu)(Q:XQ):XQ:=xU 0 Q
def zce:=Ud.r.r.r.r
def zcg:=Ud.r.r.l.r.l.l.l.r
def zbZ:=Ud.r.r.l.r.l.l.r
def zdV:=andThen (Wp C 69 zbZ Q) Q
def zbI:=Ud.r.r.l.r.l.l.r.l.l.r
def Yf:=Ud.r.r.l.r.l.l.r.r
def zeu:=andThen (Wp C 69 Yf Q) Q
def zeR:=xU 1 (zeu C Q)
def X6:=Ud.r.r.l.r.l.l.r.l.l.r.l.r
def zep:=xU 0 (zbB C Q)
theorem e41:j4 C 69 Ud Q ρ h=(oP (some (V.bool false)) λa=>
 Wp C 69 zbT Q (fx ρ 4 a) h):=by kernel_rfl
theorem ze4:j4 C 69 zbT Q ρ h=(oP (some (ρ 0)) λb=>
 oP (fI b) λc=>
 oP (some (ρ 1)) λd=>
 oP (fI d) λe=>
 oP (ez .neq 3 c e) λa=>
 Wp C 69 zbF (zec C Q) (fx (fx (fx (fx (fx ρ 6 b) 7 c) 8 d) 9 e) 10 a) h):=by kernel_rfl
theorem zed:j4 C 69 zbN Q ρ h=(oP (some (V.I 0)) λa=>
 Wp C 69 zb4 (zbB C Q) (fx ρ 5 a) h):=by kernel_rfl
theorem zdL:j4 C 69 zbF Q ρ h=(oP (some (ρ 10)) λc=>
 bP c (
 oP (some (V.bool false)) λa=>
 Wp C 69 zbs Q (fx ρ 4 a) h) (
 Q .normal ρ h)):=by kernel_rfl
theorem zeP:j4 C 69 zbA Q ρ h=(oP (some (V.bool true)) λa=>
 Wp C 69 zce Q (fx ρ 4 a) h):=by kernel_rfl
theorem zeG:j4 C 69 zb4 Q ρ h=(Wp C 69 (.loop ZB) (zeq C Q) ρ h):=by kernel_rfl
theorem zei:j4 C 69 zce Q ρ h=(Q .ret ρ h):=by kernel_rfl
theorem ze2:j4 C 69 zbs Q ρ h=(Q .ret ρ h):=by kernel_rfl
theorem zdD:j4 C 69 ZB Q ρ h=(oP (some (ρ 5)) λa=>
 oP (some (ρ 0)) λb=>
 oP (fI b) λc=>
 oP (ez .lss 3 a c) λd=>
 Wp C 69 zcg (zdV C Q) (fx (fx (fx (fx ρ 11 a) 12 b) 13 c) 14 d) h):=by kernel_rfl
theorem zeF:j4 C 69 zbZ Q ρ h=(oP (some (ρ 0)) λd=>
 oP (some (ρ 5)) λe=>
 oP (gB 4 d e) λf=>
 oP (fJ 0 f) λg=>
 oP (fe g h) λi=>
 oP (some (ρ 1)) λj=>
 oP (some (ρ 5)) λk=>
 oP (gB 4 j k) λl=>
 oP (fJ 0 l) λm=>
 oP (fe m h) λn=>
 oP (ez .neq 3 i n) λo=>
 oP (some o) λc=>
 oP (fF false c) λae=>
 oP (gV ae (some (ρ 0))) λp=>
 oP (fF false c) λag=>
 oP (gV ag (some (ρ 5))) λq=>
 oP (fF false c) λah=>
 oP (gV ah (gB 4 p q)) λr=>
 oP (fF false c) λai=>
 oP (gV ai (fJ 1 r)) λs=>
 oP (fF false c) λaj=>
 oP (gV aj (fe s h)) λt=>
 oP (fF false c) λak=>
 oP (gV ak (some (ρ 1))) λu=>
 oP (fF false c) λal=>
 oP (gV al (some (ρ 5))) λv=>
 oP (fF false c) λam=>
 oP (gV am (gB 4 u v)) λw=>
 oP (fF false c) λan=>
 oP (gV an (fJ 1 w)) λx=>
 oP (fF false c) λao=>
 oP (gV ao (fe x h)) λy=>
 oP (fF false c) λap=>
 oP (gV ap (ez .neq 3 t y)) λz=>
 oP (jB c (V.bool true) z) λA=>
 oP (some A) λa=>
 oP (fF false a) λaq=>
 oP (gV aq (some (ρ 0))) λB=>
 oP (fF false a) λar=>
 oP (gV ar (some (ρ 5))) λD=>
 oP (fF false a) λau=>
 oP (gV au (gB 4 B D)) λE=>
 oP (fF false a) λaw=>
 oP (gV aw (fJ 2 E)) λF=>
 oP (fF false a) λax=>
 oP (gV ax (fe F h)) λX=>
 oP (fF false a) λay=>
 oP (gV ay (some (ρ 1))) λG=>
 oP (fF false a) λaA=>
 oP (gV aA (some (ρ 5))) λH=>
 oP (fF false a) λaB=>
 oP (gV aB (gB 4 G H)) λI=>
 oP (fF false a) λaC=>
 oP (gV aC (fJ 2 I)) λJ=>
 oP (fF false a) λaD=>
 oP (gV aD (fe J h)) λY=>
 ((gT aD (fe J h=some Y))/\
 ((gT aC (fJ 2 I=some J))/\
 ((gT aB (gB 4 G H=some I))/\
 ((gT aA (some (ρ 5)=some H))/\
 ((gT ay (some (ρ 1)=some G))/\
 ((gT ax (fe F h=some X))/\
 ((gT aw (fJ 2 E=some F))/\
 ((gT au (gB 4 B D=some E))/\
 ((gT ar (some (ρ 5)=some D))/\
 ((gT aq (some (ρ 0)=some B))/\
 ((some A=some a)/\
 ((jB c (V.bool true) z=some A)/\
 ((gT ap (ez .neq 3 t y=some z))/\
 ((gT ao (fe x h=some y))/\
 ((gT an (fJ 1 w=some x))/\
 ((gT am (gB 4 u v=some w))/\
 ((gT al (some (ρ 5)=some v))/\
 ((gT ak (some (ρ 1)=some u))/\
 ((gT aj (fe s h=some t))/\
 ((gT ai (fJ 1 r=some s))/\
 ((gT ah (gB 4 p q=some r))/\
 ((gT ag (some (ρ 5)=some q))/\
 ((gT ae (some (ρ 0)=some p))/\
 ((some o=some c)/\
 ((ez .neq 3 i n=some o)/\
 ((fe m h=some n)/\
 ((fJ 0 l=some m)/\
 ((gB 4 j k=some l)/\
 ((some (ρ 5)=some k)/\
 ((some (ρ 1)=some j)/\
 ((fe g h=some i)/\
 ((fJ 0 f=some g)/\
 ((gB 4 d e=some f)/\
 ((some (ρ 5)=some e)/\
 ((some (ρ 0)=some d)/\
 oP (fF false a) λaR=>
 oP (gC aR (some (jl,[X,Y]))) λaS=>qP C aS h λZ h1=>
 (h.next<=h1.next/\
 oP (fF false a) λaE=>
 oP (gV aE (qf .not Z)) λK=>
 oP (jB a (V.bool true) K) λL=>
 oP (some L) λb=>
 oP (fF false b) λaF=>
 oP (gV aF (some (ρ 0))) λM=>
 oP (fF false b) λaG=>
 oP (gV aG (some (ρ 5))) λN=>
 oP (fF false b) λaH=>
 oP (gV aH (gB 4 M N)) λO=>
 oP (fF false b) λaI=>
 oP (gV aI (fJ 3 O)) λP=>
 oP (fF false b) λaJ=>
 oP (gV aJ (fe P h1)) λaa=>
 oP (fF false b) λaK=>
 oP (gV aK (some (ρ 1))) λR=>
 oP (fF false b) λaL=>
 oP (gV aL (some (ρ 5))) λS=>
 oP (fF false b) λaM=>
 oP (gV aM (gB 4 R S)) λT=>
 oP (fF false b) λaN=>
 oP (gV aN (fJ 3 T)) λU=>
 oP (fF false b) λaO=>
 oP (gV aO (fe U h1)) λab=>
 ((gT aO (fe U h1=some ab))/\
 ((gT aN (fJ 3 T=some U))/\
 ((gT aM (gB 4 R S=some T))/\
 ((gT aL (some (ρ 5)=some S))/\
 ((gT aK (some (ρ 1)=some R))/\
 ((gT aJ (fe P h1=some aa))/\
 ((gT aI (fJ 3 O=some P))/\
 ((gT aH (gB 4 M N=some O))/\
 ((gT aG (some (ρ 5)=some N))/\
 ((gT aF (some (ρ 0)=some M))/\
 ((some L=some b)/\
 ((jB a (V.bool true) K=some L)/\
 ((gT aE (qf .not Z=some K))/\
 oP (fF false b) λaT=>
 oP (gC aT (some (jl,[aa,ab]))) λaU=>qP C aU h1 λac h2=>
 (h1.next<=h2.next/\
 oP (fF false b) λaP=>
 oP (gV aP (qf .not ac)) λW=>
 oP (jB b (V.bool true) W) λaQ=>
 ((jB b (V.bool true) W=some aQ)/\
 ((gT aP (qf .not ac=some W))/\
 Wp C 69 zbI (zeR C Q) (fx (fx (fx (fx (fx (fx (fx (fx (fx (fx (fx (fx (fx (fx (fx (fx (fx (fx (fx (fx (fx (fx (fx (fx (fx (fx (fx (fx (fx (fx (fx (fx (fx (fx (fx (fx (fx (fx (fx (fx (fx (fx (fx (fx (fx (fx (fx (fx (fx (fx (fx (fx ρ 17 d) 18 e) 19 f) 20 g) 21 i) 22 j) 23 k) 24 l) 25 m) 26 n) 27 o) 28 c) 29 p) 30 q) 31 r) 32 s) 33 t) 34 u) 35 v) 36 w) 37 x) 38 y) 39 z) 40 A) 41 a) 42 B) 43 D) 44 E) 45 F) 46 X) 47 G) 48 H) 49 I) 50 J) 51 Y) 52 Z) 53 K) 54 L) 55 b) 56 M) 57 N) 58 O) 59 P) 60 aa) 61 R) 62 S) 63 T) 64 U) 65 ab) 66 ac) 67 W) 68 aQ) h2))))))))))))))))))))))))))))))))))))))))))))))))))))):=by kernel_rfl
theorem zdG:j4 C 69 zcg Q ρ h=(oP (some (ρ 14)) λc=>
 bP c (
 Q .normal ρ h) (
 Q (.exit 0) ρ h)):=by kernel_rfl
theorem zc1:j4 C 69 Yf Q ρ h=(oP (some (ρ 5)) λa=>
 oP (ez .add 3 a (V.I 1)) λb=>
 oP (some b) λc=>
 Q .normal (fx (fx (fx ρ 15 a) 16 b) 5 c) h):=by kernel_rfl
theorem zeD:j4 C 69 zbI Q ρ h=(oP (some (ρ 68)) λc=>
 bP c (
 oP (some (V.bool false)) λa=>
 Wp C 69 X6 Q (fx ρ 4 a) h) (
 Q .normal ρ h)):=by kernel_rfl
theorem zck:j4 C 69 X6 Q ρ h=(Q .ret ρ h):=by kernel_rfl
theorem g41{C:fu}(hs:C.start=fQ)(a0 a1:V){h:Hp}{Q:fD}(a:C.K jy [a0,a1] h=none)(H:j4 C 69 Ud (IZ [.tmp 4] Q) (L0 [a0,a1]) h):cP C jy [a0,a1] h Q:=
 cP.Y9 hs (show P0.funcs[41]? =some Tryz.f41 by unfold P0;exact Tryz.func41) (by kernel_rfl) (by kernel_rfl) (by kernel_rfl) a (KS rfl) (Wp.code _ H)
def uX(C:fu)(Q:fD)(a b c:V)(h:Hp):Prop:=∀ρ:gO,ρ 0=a->ρ 1=b->ρ 5=c->Wp C 69 (.loop ZB) (zep C (IZ [.tmp 4] Q)) ρ h
def pq(C:fu)(Q:fD)(fU:Tu)(e f d:V)(h:Hp):Prop:=oP (fI e) λi=>bO .lss 3 d i (dI 4 e d 0 h λj=>dI 4 f d 0 h λk=>oP (ez .neq 3 j k) λc=>oP (fF false c) λl=>oP (gV l (some e)) λm=>oP (fF false c) λn=>oP (gV n (some d)) λo=>oP (fF false c) λp=>oP (gV p (gB 4 m o)) λq=>oP (fF false c) λr=>oP (gV r (fJ 1 q)) λs=>oP (fF false c) λt=>oP (gV t (fe s h)) λu=>oP (fF false c) λv=>oP (gV v (some f)) λw=>oP (fF false c) λx=>oP (gV x (some d)) λy=>oP (fF false c) λz=>oP (gV z (gB 4 w y)) λA=>oP (fF false c) λB=>oP (gV B (fJ 1 A)) λD=>oP (fF false c) λE=>oP (gV E (fe D h)) λF=>oP (og c (ez .neq 3 u F)) λa=>oP (fF false a) λG=>oP (gV G (some e)) λH=>oP (fF false a) λI=>oP (gV I (some d)) λJ=>oP (fF false a) λK=>oP (gV K (gB 4 H J)) λL=>oP (fF false a) λM=>oP (gV M (fJ 2 L)) λN=>oP (fF false a) λO=>oP (gV O (fe N h)) λP=>oP (fF false a) λR=>oP (gV R (some f)) λS=>oP (fF false a) λT=>oP (gV T (some d)) λU=>oP (fF false a) λW=>oP (gV W (gB 4 S U)) λX=>oP (fF false a) λY=>oP (gV Y (fJ 2 X)) λZ=>oP (fF false a) λaa=>oP (gV aa (fe Z h)) λab=>oP (fF false a) λac=>oP (gC ac (some (jl,[P,ab]))) λae=>qP C ae h λag g=>(h.next<=g.next/\oP (og a (qf .not ag)) λb=>oP (fF false b) λah=>oP (gV ah (some e)) λai=>oP (fF false b) λaj=>oP (gV aj (some d)) λak=>oP (fF false b) λal=>oP (gV al (gB 4 ai ak)) λam=>oP (fF false b) λan=>oP (gV an (fJ 3 am)) λao=>oP (fF false b) λap=>oP (gV ap (fe ao g)) λaq=>oP (fF false b) λar=>oP (gV ar (some f)) λau=>oP (fF false b) λaw=>oP (gV aw (some d)) λax=>oP (fF false b) λay=>oP (gV ay (gB 4 au ax)) λaA=>oP (fF false b) λaB=>oP (gV aB (fJ 3 aA)) λaC=>oP (fF false b) λaD=>oP (gV aD (fe aC g)) λaE=>oP (fF false b) λaF=>oP (gC aF (some (jl,[aq,aE]))) λaG=>qP C aG g λaH h2=>(g.next<=h2.next/\oP (og b (qf .not aH)) λaI=>bP aI (Q bF h2) (oP (ez .add 3 d nO) λaJ=>fU e f aJ h2)))) (Q bT h)
theorem De{C:fu}{Q:fD}(I:Nat->Tu)(step:∀(k:Nat)(a b c:V)(h:Hp),I k a b c h->pq C Q (λa b c h=>∃k',k' < k/\I k' a b c h) a b c h){k:Nat}{a b c:V}{h:Hp}(h0:I k a b c h):uX C Q a b c h:=by
 intro ρ e0 e1 e5;subst e0;subst e1;subst e5;refine Wp.zbP (λk ρ h=>I k (ρ 0) (ρ 1) (ρ 5) h) (λk ρ h hi=>?_) h0;have H:=step k (ρ 0) (ρ 1) (ρ 5) h hi;unfold pq at H;exact Wp.of (zdD _ _ _ _) (wL (wL (oM H λag _ H=>oM H λah _ H=>Wp.of (zdG _ _ _ _) (wL (bM H (λH=>Wp.of (zeF _ _ _ _) (wL (wL (oM H λai d H=>oM H λaj e H=>oM H λak f H=>wL (wL (oM H λal g H=>oM H λam i H=>oM H λan j H=>oM H λao l H=>wL (oM H λap _ H=>oM H λaq m H=>oM H λar _ H=>oM H λau n H=>oM H λaw _ H=>oM H λax o H=>oM H λay _ H=>oM H λaA p H=>oM H λaB _ H=>oM H λaC q H=>oM H λaD _ H=>oM H λaE r H=>oM H λaF _ H=>oM H λaG s H=>oM H λaH _ H=>oM H λaI t H=>oM H λaJ _ H=>oM H λaK u H=>oM H λaL _ H=>oM H λaM v H=>thn (Kr H) λH=>oM H λaN ab H=>oM H λaO w H=>oM H λaP x H=>wL (oM H λaQ _ H=>oM H λaR y H=>oM H λaS _ H=>oM H λaT z H=>oM H λaU _ H=>oM H λaV A H=>oM H λaW _ H=>oM H λaX B H=>oM H λaY _ H=>oM H λaZ D H=>oM H λa4 _ H=>oM H λa5 E H=>oM H λa6 _ H=>oM H λa7 F H=>oM H λa8 _ H=>oM H λa9 G H=>oM H λba _ H=>oM H λbb J H=>oM H λbc _ H=>oM H λbd K H=>⟨(iq K),⟨(iq J),⟨(iq G),⟨(iq F),⟨(iq E),⟨(iq D),⟨(iq B),⟨(iq A),⟨(iq z),⟨(iq y),⟨rfl,⟨x,⟨(iq w),⟨(iq v),⟨(iq u),⟨(iq t),⟨(iq s),⟨(iq r),⟨(iq q),⟨(iq p),⟨(iq o),⟨(iq n),⟨(iq m),⟨rfl,⟨l,⟨j,⟨i,⟨g,⟨rfl,⟨rfl,⟨f,⟨e,⟨d,⟨rfl,⟨rfl,oM H λbe _ H=>oM H λbf _ H=>Z7 H λbg h1 H=>anM H λH=>thn (Kr H) λH=>oM H λbh ac H=>oM H λbi L H=>oM H λbj M H=>wL (oM H λbm _ H=>oM H λbo N H=>oM H λbr _ H=>oM H λbt O H=>oM H λbu _ H=>oM H λbw P H=>oM H λbx _ H=>oM H λbz R H=>oM H λbA _ H=>oM H λbC S H=>oM H λbD _ H=>oM H λbE T H=>oM H λbG _ H=>oM H λbH U H=>oM H λbI _ H=>oM H λbJ W H=>oM H λbK _ H=>oM H λbL X H=>oM H λbQ _ H=>oM H λbR Y H=>⟨(iq Y),⟨(iq X),⟨(iq W),⟨(iq U),⟨(iq T),⟨(iq S),⟨(iq R),⟨(iq P),⟨(iq O),⟨(iq N),⟨rfl,⟨M,⟨(iq L),oM H λbS _ H=>oM H λbU _ H=>Z7 H λbV h2 H=>anM H λH=>thn (Kr H) λH=>oM H λbW ae H=>oM H λbX Z H=>oM H λbY aa H=>⟨aa,⟨(iq Z),Wp.of (zeD _ _ _ _) (wL (bM H (λH=>wL (Wp.of (zck _ _ _ _) (H))) (λH=>Wp.of (zc1 _ _ _ _) (wL (oM H λbZ _ H=>wL (H))))))⟩⟩⟩⟩⟩⟩⟩⟩⟩⟩⟩⟩⟩⟩⟩)⟩⟩⟩⟩⟩⟩⟩⟩⟩⟩⟩⟩⟩⟩⟩⟩⟩⟩⟩⟩⟩⟩⟩⟩⟩⟩⟩⟩⟩⟩⟩⟩⟩⟩⟩)))))))) (λH=>Wp.of (zeP _ _ _ _) (wL (Wp.of (zei _ _ _ _) (H)))))))))
def qw(C:fu)(Q:fD)(a0 a1:V)(h:Hp):Prop:=oP (fI a0) λa=>oP (fI a1) λb=>bO .neq 3 a b (Q bF h) (uX C Q a0 a1 nZ h)
theorem FU{C:fu}(hs:C.start=fQ){a0 a1:V}{h:Hp}{Q:fD}(a:C.K jy [a0,a1] h=none)(H:qw C Q a0 a1 h):cP C jy [a0,a1] h Q:=by
 unfold qw at H;exact g41 hs _ _ a ((e41 _ _ _ _).mpr (wL (Wp.of (ze4 _ _ _ _) (wL (oM H λc _ H=>wL (oM H λd _ H=>oM H λb _ H=>Wp.of (zdL _ _ _ _) (wL (bM H (λH=>wL (Wp.of (ze2 _ _ _ _) (H))) (λH=>Wp.of (zed _ _ _ _) (wL (Wp.of (zeG _ _ _ _) (H _ rfl rfl rfl))))))))))))
end
def t75:List (Nat×List Nat):=[(87,[0,1,5])]
def tX(C:fu)(Q:fD):LP:=JV C Tryz.f75 t75 43 [0,1,5] [] Q
def tF(C:fu)(Q:fD)(fU:LP)(b g a:V)(h:Hp):Prop:=oP (fI b) λc=>bO .lss 3 a c (dX 1 b a h λd=>dX 1 g a h λe=>bO .neq 89 d e (Q bF h) (oP (ez .add 3 a nO) λf=>fU [b,g,f] h)) (Q bT h)
theorem B1{C Q}(I)(s:S3 I (tF C Q)){k l h}(i:I k l h)(e:l.length=3:=by rfl):tX C Q l h:=JV.l3 I _ s i e
def xA(C:fu)(Q:fD)(a0 a1:V)(h:Hp):Prop:=oP (fI a0) λa=>oP (fI a1) λb=>bO .neq 3 a b (Q bF h) (tX C Q [a0,a1,nZ] h)
theorem Fy{C}(s:C.start=fQ){a0 a1 h Q}(k:C.K jl [a0,a1] h=none)(H:xA C Q a0 a1 h):cP C jl [a0,a1] h Q:=cP.vd t75 s (by unfold P0;exact Tryz.func75) k H
end
