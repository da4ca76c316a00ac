/- Parts. -/
import Derived.Test.YtcoaokdoecgcbaaGreatDoorM14
set_option maxHeartbeats 4000000
namespace Go.Proofs.YtcoaokdoecgcbaaGreatDoor.Hx
set_option maxRecDepth 100000
noncomputable section
section
variable (C:fj)(Q:X->gg->Hp->Prop)(ρ:gg)(h:Hp)
def Hi:=ES Tryz.f16
noncomputable def zcm:=Hi.r
noncomputable def zcA:=Hi.r.l.r
noncomputable def zcR:=Hi.r.r
noncomputable def zfb:=andThen (Wp C 79 zcR Q) Q
noncomputable def zcW:=Hi.r.l.r.l.r
noncomputable def zcp:=Hi.r.r.r
noncomputable def zcv:=Hi.r.r.r.l.r
noncomputable def zcN:=Hi.r.r.r.r
noncomputable def zcQ:=andThen (Wp C 79 zcN Q) Q
noncomputable def Zq:=Hi.r.r.r.l.r.l.l
noncomputable def zfo(C:fj)(Q:XQ):XQ:=oI 0 Q
noncomputable def zcK:=Hi.r.r.r.r.l.r
noncomputable def zca:=Hi.r.r.r.r.r
noncomputable def zfc:=andThen (Wp C 79 zca Q) Q
noncomputable def zcH:=Hi.r.r.r.l.r.l.l.l.r
noncomputable def ZG:=Hi.r.r.r.l.r.l.l.r
noncomputable def zfh:=andThen (Wp C 79 ZG Q) Q
noncomputable def Z1:=Hi.r.r.r.r.l.r.l.r
noncomputable def Ym:=Hi.r.r.r.r.r.r
noncomputable def Y2:=Hi.r.r.r.l.r.l.l.r.l.l.r
noncomputable def ZK:=Hi.r.r.r.l.r.l.l.r.r
noncomputable def zft:=andThen (Wp C 79 ZK Q) Q
noncomputable def YL:=oI 1 (zft C Q)
noncomputable def Z6:=Hi.r.r.r.l.r.l.l.r.l.l.r.r
noncomputable def ZF:=Hi.r.r.r.l.r.l.l.r.l.l.r.r.l.r
noncomputable def Ud:=Hi.r.r.r.l.r.l.l.r.l.l.r.r.r
noncomputable def zgj:=andThen (Wp C 79 Ud Q) Q
noncomputable def zaL:=Hi.r.r.r.l.r.l.l.r.l.l.r.r.l.r.l.l
noncomputable def zfV(C:fj)(Q:XQ):XQ:=oI 2 Q
noncomputable def zak:=Hi.r.r.r.l.r.l.l.r.l.l.r.r.r.r
noncomputable def Ye:=Hi.r.r.r.l.r.l.l.r.l.l.r.r.l.r.l.l.l.r
noncomputable def Y0:=Hi.r.r.r.l.r.l.l.r.l.l.r.r.l.r.l.l.r
noncomputable def zfp:=andThen (Wp C 79 Y0 Q) Q
noncomputable def YP:=Hi.r.r.r.l.r.l.l.r.l.l.r.r.r.r.l.r
noncomputable def Zi:=Hi.r.r.r.l.r.l.l.r.l.l.r.r.r.r.r
noncomputable def zc4:=andThen (Wp C 79 Zi Q) Q
noncomputable def Yg:=Hi.r.r.r.l.r.l.l.r.l.l.r.r.l.r.l.l.r.r
noncomputable def Zs:=Hi.r.r.r.l.r.l.l.r.l.l.r.r.r.r.l.r.l.r
noncomputable def YM:=oI 0 (zcQ C Q)
noncomputable def zen:=andThen (Wp C 79 Ud (YL C Q)) (YL C Q)
noncomputable def zdv:=oI 2 (zen C Q)
theorem e16:gJ C 79 Hi Q ρ h=(oP (some V.ed) λa=>
 oP (some (V.I 0)) λb=>
 Wp C 79 zcm Q (fc (fc ρ 2 a) 3 b) h):=by kernel_rfl
theorem zfC:gJ C 79 zcm Q ρ h=(oP (some (ρ 0)) λd=>
 oP (fD d) λa=>
 oP (ef .rem 3 a (V.I 11)) λb=>
 oP (ef .neq 3 b (V.I 0)) λc=>
 Wp C 79 zcA (zfb C Q) (fc (fc (fc (fc ρ 9 d) 10 a) 11 b) 12 c) h):=by kernel_rfl
theorem zgl:gJ C 79 zcR Q ρ h=(oP (some V.ed) λa=>
 Wp C 79 zcp Q (fc ρ 4 a) h):=by kernel_rfl
theorem zeR:gJ C 79 zcA Q ρ h=(oP (some (ρ 12)) λc=>
 bP c (
 oP (some V.ed) λa=>
 oP (some (V.I 7)) λb=>
 Wp C 79 zcW Q (fc (fc ρ 2 a) 3 b) h) (
 Q .normal ρ h)):=by kernel_rfl
theorem zgg:gJ C 79 zcp Q ρ h=(oP (some (V.I 0)) λa=>
 Wp C 79 zcv (zcQ C Q) (fc ρ 5 a) h):=by kernel_rfl
theorem zfA:gJ C 79 zcN Q ρ h=(oP (some (ρ 4)) λa=>
 dcP C jd [a] h λb d=>
 oP (qH .not b) λc=>
 Wp C 79 zcK (zfc C Q) (fc (fc (fc ρ 75 a) 76 b) 77 c) d):=by kernel_rfl
theorem zf7:gJ C 79 zcW Q ρ h=(Q .ret ρ h):=by kernel_rfl
theorem zeB:gJ C 79 zcv Q ρ h=(Wp C 79 (.loop Zq) (zfo C Q) ρ h):=by kernel_rfl
theorem ze7:gJ C 79 zca Q ρ h=(oP (some (ρ 4)) λa=>
 oP (some a) λb=>
 oP (some (V.I 0)) λc=>
 Wp C 79 Ym Q (fc (fc (fc ρ 78 a) 2 b) 3 c) h):=by kernel_rfl
theorem zfN:gJ C 79 zcK Q ρ h=(oP (some (ρ 77)) λc=>
 bP c (
 oP (some V.ed) λa=>
 oP (some (V.I 5)) λb=>
 Wp C 79 Z1 Q (fc (fc ρ 2 a) 3 b) h) (
 Q .normal ρ h)):=by kernel_rfl
theorem zc7:gJ C 79 Ym Q ρ h=(Q .ret ρ h):=by kernel_rfl
theorem ze8:gJ C 79 Zq Q ρ h=(oP (some (ρ 5)) λa=>
 oP (some (ρ 0)) λb=>
 oP (fD b) λc=>
 oP (ef .lss 3 a c) λd=>
 Wp C 79 zcH (zfh C Q) (fc (fc (fc (fc ρ 13 a) 14 b) 15 c) 16 d) h):=by kernel_rfl
theorem zdD:gJ C 79 ZG Q ρ h=(oP (some (ρ 0)) λa=>
 oP (some (ρ 5)) λb=>
 oP (gP 1 a b) λc=>
 oP (eC c h) λd=>
 oP (jT .i64 d) λe=>
 oP (some (ρ 0)) λf=>
 oP (some (ρ 5)) λg=>
 oP (ef .add 3 g (V.I 1)) λi=>
 oP (gP 1 f i) λj=>
 oP (eC j h) λk=>
 oP (ef .quo 5 k (V.int .u8 16)) λm=>
 oP (jT .i64 m) λn=>
 oP (some (ρ 0)) λo=>
 oP (some (ρ 5)) λp=>
 oP (ef .add 3 p (V.I 1)) λq=>
 oP (gP 1 o q) λr=>
 oP (eC r h) λs=>
 oP (ef .rem 5 s (V.int .u8 16)) λt=>
 oP (jT .i64 t) λu=>
 oP (some (ρ 0)) λv=>
 oP (some (ρ 5)) λw=>
 oP (ef .add 3 w (V.I 2)) λx=>
 oP (gP 1 v x) λy=>
 oP (eC y h) λz=>
 oP (jT .i64 z) λA=>
 oP (fm [(V.I 0),(V.I 0),(V.I 0),(V.I 0),(V.I 0)] [(0,1),(1,1),(2,1),(3,1),(4,1)] [(0,e),(1,n),(2,u),(3,A)]) λB=>
 vj (some (.cells 102 1 true false [(V.I 0),(V.I 0),(V.I 0),(V.I 0),(V.I 0)],λl=> .ptr l 0)) h λD F E=>
 ((E.get (h.next)=some D/\O.beq D D=true)/\
 ((fm [(V.I 0),(V.I 0),(V.I 0),(V.I 0),(V.I 0)] [(0,1),(1,1),(2,1),(3,1),(4,1)] [(0,e),(1,n),(2,u),(3,A)]=some B)/\
 ((jT .i64 z=some A)/\
 ((eC y E=some z)/\
 ((gP 1 v x=some y)/\
 ((ef .add 3 w (V.I 2)=some x)/\
 ((some (ρ 5)=some w)/\
 ((some (ρ 0)=some v)/\
 ((jT .i64 t=some u)/\
 ((ef .rem 5 s (V.int .u8 16)=some t)/\
 ((eC r E=some s)/\
 ((gP 1 o q=some r)/\
 ((ef .add 3 p (V.I 1)=some q)/\
 ((some (ρ 5)=some p)/\
 ((some (ρ 0)=some o)/\
 ((jT .i64 m=some n)/\
 ((ef .quo 5 k (V.int .u8 16)=some m)/\
 ((eC j E=some k)/\
 ((gP 1 f i=some j)/\
 ((ef .add 3 g (V.I 1)=some i)/\
 ((some (ρ 5)=some g)/\
 ((some (ρ 0)=some f)/\
 ((jT .i64 d=some e)/\
 ((eC c E=some d)/\
 ((gP 1 a b=some c)/\
 ((some (ρ 5)=some b)/\
 ((some (ρ 0)=some a)/\
 fg (gL 5 F B E) λH G=>
 (E.next<=G.next/\
 Wp C 79 Y2 (YL C Q) (fc (fc (fc (fc (fc (fc (fc (fc (fc (fc (fc (fc (fc (fc (fc (fc (fc (fc (fc (fc (fc (fc (fc (fc (fc (fc (fc ρ 19 a) 20 b) 21 c) 22 d) 23 e) 24 f) 25 g) 26 i) 27 j) 28 k) 29 m) 30 n) 31 o) 32 p) 33 q) 34 r) 35 s) 36 t) 37 u) 38 v) 39 w) 40 x) 41 y) 42 z) 43 A) 44 B) 6 F) G))))))))))))))))))))))))))))):=by kernel_rfl
theorem zej:gJ C 79 Z1 Q ρ h=(Q .ret ρ h):=by kernel_rfl
theorem zeL:gJ C 79 zcH Q ρ h=(oP (some (ρ 16)) λc=>
 bP c (
 Q .normal ρ h) (
 Q (.exit 0) ρ h)):=by kernel_rfl
theorem zdH:gJ C 79 ZK Q ρ h=(oP (some (ρ 5)) λa=>
 oP (ef .add 3 a (V.I 11)) λb=>
 oP (some b) λc=>
 Q .normal (fc (fc (fc ρ 17 a) 18 b) 5 c) h):=by kernel_rfl
theorem zeq:gJ C 79 Y2 Q ρ h=(oP (some (V.int .u64 0)) λa=>
 Wp C 79 Z6 Q (fc ρ 7 a) h):=by kernel_rfl
theorem zer:gJ C 79 Z6 Q ρ h=(oP (some (V.I 7)) λa=>
 Wp C 79 ZF (zgj C Q) (fc ρ 8 a) h):=by kernel_rfl
theorem zdP:gJ C 79 Ud Q ρ h=(oP (some (ρ 7)) λa=>
 oP (jT .i64 a) λb=>
 oP (fK 4 (ρ 6)) λc=>
 fg (gL 1 c b h) λe d=>
 Wp C 79 zak Q (fc (fc (fc ρ 60 a) 61 b) 62 c) d):=by kernel_rfl
theorem zdf:gJ C 79 ZF Q ρ h=(Wp C 79 (.loop zaL) (zfV C Q) ρ h):=by kernel_rfl
theorem zdO:gJ C 79 zak Q ρ h=(oP (fK 0 (ρ 6)) λb=>
 oP (eC b h) λc=>
 oP (ef .lss 3 c (V.I 1)) λd=>
 oP (some d) λa=>
 oP (gW false a) λj=>
 oP (gV j (fK 0 (ρ 6))) λe=>
 oP (gW false a) λk=>
 oP (gV k (eC e h)) λf=>
 oP (gW false a) λl=>
 oP (gV l (ef .gtr 3 f (V.I 27))) λg=>
 oP (tA a (V.bool true) g) λi=>
 Wp C 79 YP (zc4 C Q) (fc (fc (fc (fc (fc (fc (fc (fc ρ 63 b) 64 c) 65 d) 66 a) 67 e) 68 f) 69 g) 70 i) h):=by kernel_rfl
theorem zd4:gJ C 79 Zi Q ρ h=(oP (some (ρ 4)) λa=>
 oP (gy 5 (ρ 6) h) λb=>
 hZ (iK 102 5 1 (V.agg [(V.I 0),(V.I 0),(V.I 0),(V.I 0),(V.I 0)]) [(0,b)]) h λc e=>
 fg (eQ 102 5 40 a c e) λd f=>
 oP (some d) λg=>
 Q .normal (fc (fc (fc (fc (fc ρ 71 a) 72 b) 73 c) 74 d) 4 g) f):=by kernel_rfl
theorem zfM:gJ C 79 zaL Q ρ h=(oP (some (ρ 8)) λa=>
 oP (ef .geq 3 a (V.I 0)) λb=>
 Wp C 79 Ye (zfp C Q) (fc (fc ρ 45 a) 46 b) h):=by kernel_rfl
theorem zdW:gJ C 79 YP Q ρ h=(oP (some (ρ 70)) λc=>
 bP c (
 oP (some V.ed) λa=>
 oP (some (V.I 30)) λb=>
 Wp C 79 Zs Q (fc (fc ρ 2 a) 3 b) h) (
 Q .normal ρ h)):=by kernel_rfl
theorem zds:gJ C 79 Y0 Q ρ h=(oP (some (ρ 7)) λa=>
 oP (ef .mul 63 (V.int .u64 256) a) λb=>
 oP (some (ρ 0)) λc=>
 oP (some (ρ 5)) λd=>
 oP (ef .add 3 d (V.I 3)) λe=>
 oP (some (ρ 8)) λf=>
 oP (ef .add 3 e f) λg=>
 oP (gP 1 c g) λi=>
 oP (eC i h) λj=>
 oP (jT .u64 j) λk=>
 oP (ef .add 63 b k) λl=>
 oP (some l) λm=>
 Wp C 79 Yg Q (fc (fc (fc (fc (fc (fc (fc (fc (fc (fc (fc (fc ρ 49 a) 50 b) 51 c) 52 d) 53 e) 54 f) 55 g) 56 i) 57 j) 58 k) 59 l) 7 m) h):=by kernel_rfl
theorem zdY:gJ C 79 Ye Q ρ h=(oP (some (ρ 46)) λc=>
 bP c (
 Q .normal ρ h) (
 Q (.exit 2) ρ h)):=by kernel_rfl
theorem zdQ:gJ C 79 Yg Q ρ h=(oP (some (ρ 8)) λa=>
 oP (ef .sub 3 a (V.I 1)) λb=>
 oP (some b) λc=>
 Q .normal (fc (fc (fc ρ 47 a) 48 b) 8 c) h):=by kernel_rfl
theorem zd9:gJ C 79 Zs Q ρ h=(Q .ret ρ h):=by kernel_rfl
theorem g16{C:fj}(hs:C.start=fy)(a:V){h:Hp}{Q:fo}(b:C.K iW [a] h=none)(H:gJ C 79 Hi (zK [.tmp 2,.tmp 3] Q) (Il [a]) h):cP C iW [a] h Q:=
 cP.Sh hs (show P0.funcs[16]? =some Tryz.f16 by unfold P0;exact Tryz.func16) (by kernel_rfl) (by kernel_rfl) (by kernel_rfl) b (Iv rfl) (Wp.code _ H)
noncomputable def p8(C:fj)(Q:fo)(a b c:V)(h:Hp):Prop:=∀ρ:gg,ρ 0=a->ρ 4=b->ρ 5=c->Wp C 79 (.loop Zq) (YM C (zK [.tmp 2,.tmp 3] Q)) ρ h
noncomputable def qF(C:fj)(Q:fo)(a:MA)(b c d e f g:V)(h:Hp):Prop:=∀ρ:gg,ρ 0=b->ρ 4=c->ρ 5=d->ρ 6=e->ρ 7=f->ρ 8=g->Wp C 79 (.loop zaL) (zdv C (andThen (λρ h=>a (ρ 0) (ρ 4) (ρ 5) h) (YM C (zK [.tmp 2,.tmp 3] Q)))) ρ h
noncomputable def mC(C:fj) (Q:fo) (o:MA) (c p d:V) (h:Hp):Prop:=oP (fD c) λq=>oP (ef .lss 3 d q) λr=>bP r (oP (gP 1 c d) λe=>oP (eC e h) λf=>oP (jT .i64 f) λs=>oP (ef .add 3 d (V.I 1)) λt=>oP (gP 1 c t) λg=>oP (eC g h) λi=>oP (ef .quo 5 i (V.int .u8 16)) λu=>oP (jT .i64 u) λv=>oP (ef .add 3 d (V.I 1)) λw=>oP (gP 1 c w) λj=>oP (eC j h) λk=>oP (ef .rem 5 k (V.int .u8 16)) λx=>oP (jT .i64 x) λy=>oP (ef .add 3 d (V.I 2)) λz=>oP (gP 1 c z) λm=>oP (eC m h) λn=>oP (jT .i64 n) λA=>oP (fm [(V.I 0),(V.I 0),(V.I 0),(V.I 0),(V.I 0)] [(0,1),(1,1),(2,1),(3,1),(4,1)] [(0,s),(1,v),(2,y),(3,A)]) λB=>vj (some (.cells 102 1 true false [(V.I 0),(V.I 0),(V.I 0),(V.I 0),(V.I 0)],λl=> .ptr l 0)) h λa F b=>((b.get (h.next)=some a/\O.beq a a=true)/\((eC m b=some n)/\((eC j b=some k)/\((eC g b=some i)/\((eC e b=some f)/\fg (gL 5 F B b) λI G=>(b.next<=G.next/\qF C Q o c p d F (V.int .u64 0) (V.I 7) G))))))) (cP C jd [p] h λD H=>oP (qH .not D) λE=>bP E (Q (V.tuple [V.ed,(V.I 5)]) H) (Q (V.tuple [p,(V.I 0)]) H))
theorem zV{C:fj}{Q:fo}(I:Nat->MA)(step:∀(k:Nat)(a b c:V)(h:Hp),I k a b c h->mC C Q (λa b c h=>∃k',k' < k/\I k' a b c h) a b c h){k:Nat}{a b c:V}{h:Hp}(h0:I k a b c h):p8 C Q a b c h:=by
 intro ρ e0 x y;subst e0;subst x;subst y;refine Wp.Te (λk ρ h=>I k (ρ 0) (ρ 4) (ρ 5) h) (λk ρ h hi=>?_) h0;have H:=step k (ρ 0) (ρ 4) (ρ 5) h hi;unfold mC at H;exact Wp.of (ze8 _ _ _ _) (km (km (oM H λz _ H=>oM H λA _ H=>Wp.of (zeL _ _ _ _) (km (bM H (λH=>Wp.of (zdD _ _ _ _) (km (km (oM H λB d H=>oM H λD t H=>oM H λE e H=>km (km (oM H λF f H=>oM H λG g H=>oM H λJ u H=>oM H λK i H=>oM H λL j H=>km (km (oM H λM l H=>oM H λN m H=>oM H λO v H=>oM H λP n H=>oM H λR o H=>km (km (oM H λS p H=>oM H λT q H=>oM H λU w H=>oM H λW r H=>oM H λX s H=>zbY H λY v6 h1 H=>Mn H λH=>⟨s,⟨r,Mn H λH=>⟨q,⟨p,⟨rfl,⟨rfl,⟨o,⟨n,Mn H λH=>⟨m,⟨l,⟨rfl,⟨rfl,⟨j,⟨i,Mn H λH=>⟨g,⟨f,⟨rfl,⟨rfl,⟨e,Mn H λH=>⟨d,⟨rfl,⟨rfl,Nq H λvu h2 H=>Mn H λH=>Wp.of (zeq _ _ _ _) (km (Wp.of (zer _ _ _ _) (km (Wp.of (zdf _ _ _ _) (H _ rfl rfl rfl rfl rfl rfl)))))⟩⟩⟩⟩⟩⟩⟩⟩⟩⟩⟩⟩⟩⟩⟩⟩⟩⟩⟩⟩⟩⟩)))))))))) (λH=>Wp.of (zfA _ _ _ _) (km (dcM H λZ h3 H=>oM H λaa _ H=>Wp.of (zfN _ _ _ _) (km (bM H (λH=>km (km (Wp.of (zej _ _ _ _) (H)))) (λH=>Wp.of (ze7 _ _ _ _) (km (km (km (Wp.of (zc7 _ _ _ _) (H))))))))))))))))
noncomputable def my(C:fj) (Q:fo) (c:MA) (d:OF) (e E f a F g:V) (h:Hp):Prop:=oP (ef .geq 3 g (V.I 0)) λi=>bP i (oP (ef .mul 63 (V.int .u64 256) F) λj=>oP (ef .add 3 f (V.I 3)) λk=>oP (ef .add 3 k g) λl=>oP (gP 1 e l) λm=>oP (eC m h) λn=>oP (jT .u64 n) λo=>oP (ef .add 63 j o) λp=>oP (ef .sub 3 g (V.I 1)) λq=>d e E f a p q h) (oP (jT .i64 F) λr=>oP (fK 4 a) λs=>fg (gL 1 s r h) λI b=>oP (fK 0 a) λt=>oP (eC t b) λu=>oP (ef .lss 3 u (V.I 1)) λv=>oP (mm v (oB (fK 0 a) λw=>oB (eC w b) λx=>ef .gtr 3 x (V.I 27))) λy=>bP y (Q (V.tuple [V.ed,(V.I 30)]) b) (oP (gy 5 a b) λz=>hZ (iK 102 5 1 (V.agg [(V.I 0),(V.I 0),(V.I 0),(V.I 0),(V.I 0)]) [(0,z)]) b λA G=>fg (eQ 102 5 40 E A G) λB H=>oP (ef .add 3 f (V.I 11)) λD=>c e B D H))
theorem zX{C:fj}{Q:fo}{g:MA}(I:Nat->OF)(step:∀(k:Nat)(a b c d e f:V)(h:Hp),I k a b c d e f h->my C Q g (λa b c d e f h=>∃k',k' < k/\I k' a b c d e f h) a b c d e f h){k:Nat}{a b c d e f:V}{h:Hp}(h0:I k a b c d e f h):qF C Q g a b c d e f h:=by
 intro ρ e0 q r s t u;subst e0;subst q;subst r;subst s;subst t;subst u;refine Wp.Te (λk ρ h=>I k (ρ 0) (ρ 4) (ρ 5) (ρ 6) (ρ 7) (ρ 8) h) (λk ρ h hi=>?_) h0;have H:=step k (ρ 0) (ρ 4) (ρ 5) (ρ 6) (ρ 7) (ρ 8) h hi;unfold my at H;exact Wp.of (zfM _ _ _ _) (km (oM H λv _ H=>Wp.of (zdY _ _ _ _) (km (bM H (λH=>Wp.of (zds _ _ _ _) (km (oM H λw _ H=>km (km (oM H λx _ H=>km (oM H λy _ H=>oM H λz _ H=>oM H λA _ H=>oM H λB _ H=>oM H λD _ H=>km (Wp.of (zdQ _ _ _ _) (km (oM H λE _ H=>km (H)))))))))) (λH=>Wp.of (zdP _ _ _ _) (km (oM H λF _ H=>oM H λG _ H=>Nq H λW X H=>Wp.of (zdO _ _ _ _) (oM H λJ _ H=>oM H λK _ H=>oM H λL _ H=>km (thn (Q7 H) λH=>sG1 H λY i M j H=>sG1 H λZ l N m H=>oM H λb6 n H=>oM H λO o H=>oM H λP p H=>Wp.of (zdW _ _ _ _) (km (bM H (λH=>km (km (Wp.of (zd9 _ _ _ _) (H)))) (λH=>Wp.of (zd4 _ _ _ _) (km (oM H λR _ H=>alM H λS h2 H=>Nq H λT h3 H=>km (Wp.of (zdH _ _ _ _) (km (oM H λU _ H=>km (H))))))))))))))))))
noncomputable def ou(C:fj) (Q:fo) (d:V) (h:Hp):Prop:=oP (fD d) λa=>oP (ef .rem 3 a (V.I 11)) λb=>oP (ef .neq 3 b (V.I 0)) λc=>bP c (Q (V.tuple [V.ed,(V.I 7)]) h) (p8 C Q d V.ed (V.I 0) h)
theorem CD{C:fj}(hs:C.start=fy){a:V}{h:Hp}{Q:fo}(b:C.K iW [a] h=none)(H:ou C Q a h):cP C iW [a] h Q:=by
 unfold ou at H;exact g16 hs _ b ((e16 _ _ _ _).mpr (km (km (Wp.of (zfC _ _ _ _) (km (oM H λc _ H=>oM H λd _ H=>oM H λe _ H=>Wp.of (zeR _ _ _ _) (km (bM H (λH=>km (km (Wp.of (zf7 _ _ _ _) (H)))) (λH=>Wp.of (zgl _ _ _ _) (km (Wp.of (zgg _ _ _ _) (km (Wp.of (zeB _ _ _ _) (H _ rfl rfl rfl))))))))))))))
end
def t42:List (Nat×List Nat):=[(87,[0,3])]
def pd(C:fj)(Q:fo):LP:=JV C Tryz.f42 t42 43 [0,3] [] Q
def oZ(C:fj)(Q:fo)(b:LP)(a c:V)(h:Hp):Prop:=oP (fD a) λk=>bO .lss 3 c k (oP (gP 5 a c) λd=>oP (gy 5 d h) λe=>oP (fD a) λf=>cP C ki [e,f] h λg j=>bN g (Q bF j) (oP (ef .add 3 c nO) λi=>b [a,i] j)) (Q bT h)
theorem xg{C Q}(I)(s:S2 I (oZ C Q)){k l h}(i:I k l h)(e:l.length=2:=by rfl):pd C Q l h:=JV.l2 I _ s i e
def qD(C:fj)(Q:fo)(a:V)(h:Hp):Prop:=oP (fD a) λb=>bO .gtr 3 b (V.I 32768) (Q bF h) (pd C Q [a,nZ] h)
theorem Ak{C}(s:C.start=fy){a h Q}(k:C.K jd [a] h=none)(H:qD C Q a h):cP C jd [a] h Q:=cP.vd t42 s (by unfold P0;exact Tryz.func42) k H
def t49:List (Nat×List Nat):=[(351,[1,2,5,6,7,8]),(3454,[1,2,66,67]),(15742,[1,2,66,78]),(64894,[2,90])]
def py(C:fj)(Q:fo):LP:=JV C Tryz.f49 t49 175 [1,2,5,6,7,8] [] Q
def jx(C:fj)(Q:fo):LP:=JV C Tryz.f49 t49 1727 [1,2,66,67] [] Q
def jy(C:fj)(Q:fo):LP:=JV C Tryz.f49 t49 7871 [1,2,66,78] [] Q
def iI(C:fj)(Q:fo):LP:=JV C Tryz.f49 t49 32447 [2,90] [] Q
def pt(C:fj)(Q:fo)(f:LP)(g c i G e b:V)(h:Hp):Prop:=bO .lss 3 b (V.I 3) (oP (ef .lss 3 b i) λj=>oP (iM j (oB (some b) λk=>oB (zbN 3 1 e k) λl=>oB (eC l h) λm=>oB (ef .lss 3 m nZ) λn=>oB (some n) λo=>mm o (oB (some b) λp=>oB (zbN 3 1 e p) λq=>oB (eC q h) λr=>ef .gtr 3 r (V.I 15)))) λs=>oP (mm s (oB (some b) λt=>oB (some i) λu=>oB (ef .geq 3 t u) λv=>oB (some v) λw=>iM w (oB (some b) λx=>oB (zbN 3 1 e x) λy=>oB (eC y h) λz=>ef .neq 3 z nZ))) λA=>bP A (Q bF h) (oP (ef .add 3 b nO) λB=>f [g,c,i,G,e,B] h)) (bN G (dF 4 c h λD=>oP (ef .eql 2 D nZ) λE=>Q E h) (dF 0 c h λa=>oP (ef .eql 3 a (V.I 3)) λd=>bP d (jx C Q [g,c,a,d] h) (oP (ef .eql 3 a (V.I 4)) λF=>jx C Q [g,c,a,F] h)))
theorem yk{C Q}(I)(s:S6 I (pt C Q)){k l h}(i:I k l h)(e:l.length=6:=by rfl):py C Q l h:=JV.l6 I _ s i e
def oV(C:fj)(Q:fo)(l c a d:V)(h:Hp):Prop:=bP d (dF 4 c h λe=>oP (ef .geq 2 e nZ) λf=>oP (iM f (oB (fK 4 c) λg=>oB (eC g h) λi=>ef .lss 2 i (V.I 400))) λj=>Q j h) (oP (ef .eql 3 a (V.I 23)) λb=>bP b (jy C Q [l,c,a,b] h) (oP (ef .eql 3 a (V.I 24)) λk=>jy C Q [l,c,a,k] h))
theorem yh{C Q}:R4 (oV C Q) (jx C Q):=JV.r4 _
def oU(C:fj)(Q:fo)(n b a e:V)(h:Hp):Prop:=bP e (dF 4 b h λf=>oP (ef .geq 2 f nZ) λg=>oP (iM g (oB (fK 4 b) λi=>oB (eC i h) λj=>oB (some n) λk=>ef .leq 2 j k)) λl=>Q l h) (oP (ef .eql 3 a (V.I 25)) λc=>bP c (iI C Q [b,c] h) (oP (ef .eql 3 a (V.I 26)) λd=>bP d (iI C Q [b,d] h) (oP (ef .eql 3 a (V.I 27)) λm=>iI C Q [b,m] h)))
theorem xi{C Q}:R4 (oU C Q) (jy C Q):=JV.r4 _
def oT(C:fj)(Q:fo)(g b:V)(h:Hp):Prop:=bP b (dF 4 g h λc=>oP (ef .geq 2 c nZ) λd=>oP (iM d (oB (fK 4 g) λe=>oB (eC e h) λf=>ef .leq 2 f (V.I 1048576))) λa=>Q a h) (Q bT h)
theorem xL{C Q}:R2 (oT C Q) (iI C Q):=JV.r2 _
def rm(C:fj)(Q:fo)(s t:V)(h:Hp):Prop:=hZ (nj 102 s) h λa b=>dF 0 a b λe=>oP (ef .lss 3 e nO) λf=>oP (mm f (oB (fK 0 a) λg=>oB (eC g b) λi=>ef .gtr 3 i (V.I 27))) λj=>bP j (Q bF b) (dF 0 a b λk=>cP C mg [k] b λc d=>oP (Dh 0 c) λl=>oP (Dh 1 c) λm=>dF 1 a d λn=>dF 2 a d λo=>dF 3 a d λp=>oP (zbm 1 [nZ,nZ,nZ] [(0,n),(1,o),(2,p)]) λq=>hZ (zC 152 [nZ,nZ,nZ]) d λr u=>fg (gL 3 r q u) λw v=>py C Q [t,a,l,m,r,nZ] v)
theorem AG{C}(s:C.start=fy){a b h Q}(k:C.K ki [a,b] h=none)(H:rm C Q a b h):cP C ki [a,b] h Q:=cP.vd t49 s (by unfold P0;exact Tryz.func49) k H
def t78:List (Nat×List Nat):=[(106,[4,5]),(490,[4,11]),(2026,[4,17]),(8170,[20])]
def ik(C:fj)(Q:fo):LP:=JV C Tryz.f78 t78 53 [4,5] [] Q
def ij(C:fj)(Q:fo):LP:=JV C Tryz.f78 t78 245 [4,11] [] Q
def jR(C:fj)(Q:fo):LP:=JV C Tryz.f78 t78 1013 [4,17] [] Q
def jf(C:fj)(Q:fo):LP:=JV C Tryz.f78 t78 4085 [20] [] Q
def rh(C:fj)(Q:fo)(a g:V)(h:Hp):Prop:=bP g (Q (V.tuple [nO,bT]) h) (oP (ef .eql 3 a (V.I 2)) λb=>bP b (ij C Q [a,b] h) (oP (ef .eql 3 a (V.I 10)) λc=>bP c (ij C Q [a,c] h) (oP (ef .eql 3 a (V.I 11)) λd=>bP d (ij C Q [a,d] h) (oP (ef .eql 3 a (V.I 17)) λe=>bP e (ij C Q [a,e] h) (oP (ef .eql 3 a (V.I 18)) λf=>ij C Q [a,f] h)))))
theorem AN{C Q}:R2 (rh C Q) (ik C Q):=JV.r2 _
def qY(C:fj)(Q:fo)(b c:V)(h:Hp):Prop:=bP c (Q (V.tuple [(V.I 2),bF]) h) (oP (ef .eql 3 b (V.I 19)) λa=>bP a (jR C Q [b,a] h) (oP (ef .eql 3 b (V.I 21)) λd=>jR C Q [b,d] h))
theorem AP{C Q}:R2 (qY C Q) (ij C Q):=JV.r2 _
def p7(C:fj)(Q:fo)(c d:V)(h:Hp):Prop:=bP d (Q (V.tuple [(V.I 2),bT]) h) (oP (ef .eql 3 c (V.I 23)) λa=>bP a (jf C Q [a] h) (oP (ef .eql 3 c (V.I 26)) λb=>bP b (jf C Q [b] h) (oP (ef .eql 3 c (V.I 27)) λe=>jf C Q [e] h)))
theorem Az{C Q}:R2 (p7 C Q) (jR C Q):=JV.r2 _
def qm(C:fj)(Q:fo)(a:V)(h:Hp):Prop:=bP a (Q (V.tuple [nZ,bT]) h) (Q (V.tuple [(V.I 3),bF]) h)
theorem zI{C Q}:R1 (qm C Q) (jf C Q):=JV.r1 _
def um(C:fj)(Q:fo)(a:V)(h:Hp):Prop:=oP (ef .eql 3 a nO) λc=>bP c (ik C Q [a,c] h) (oP (ef .eql 3 a (V.I 3)) λd=>bP d (ik C Q [a,d] h) (oP (ef .eql 3 a (V.I 4)) λe=>bP e (ik C Q [a,e] h) (oP (ef .eql 3 a (V.I 24)) λf=>bP f (ik C Q [a,f] h) (oP (ef .eql 3 a (V.I 25)) λb=>ik C Q [a,b] h))))
theorem Dk{C}(s:C.start=fy){a h Q}(k:C.K mg [a] h=none)(H:um C Q a h):cP C mg [a] h Q:=cP.vd t78 s (by unfold P0;exact Tryz.func78) k H
def t12:List (Nat×List Nat):=[(175,[1,3,5]),(351,[1,6]),(94815,[1,6,7,8]),(703,[1,11]),(24277599,[1,6,7,8,9,10])]
def nU(C:fj)(Q:fo):LP:=JV C Tryz.f12 t12 87 [1,3,5] [] Q
def nH(C:fj)(Q:fo):LP:=JV C Tryz.f12 t12 175 [1,6] [] Q
def nR(C:fj)(Q:fo)(a:LP):LP:=JV C Tryz.f12 t12 47407 [1,6,7,8] [kf [1,6] a] Q
def nT(C:fj)(Q:fo):LP:=JV C Tryz.f12 t12 351 [1,11] [] Q
def nM(C:fj)(Q:fo)(a:LP)(b:LP):LP:=JV C Tryz.f12 t12 12138799 [1,6,7,8,9,10] [kf [1,6] a,kf [1,6,7,8] b] Q
def nJ(C:fj)(Q:fo)(c:LP)(d a b:V)(h:Hp):Prop:=oP (fD a) λe=>bO .lss 3 b e (dI 5 a b 0 h λf=>oP (ef .eql 3 f (V.I 25)) λg=>oP (mm g (oB (some a) λi=>oB (some b) λj=>oB (gP 5 i j) λk=>oB (fK 0 k) λl=>oB (eC l h) λm=>ef .eql 3 m (V.I 26))) λn=>oP (mm n (oB (some a) λo=>oB (some b) λp=>oB (gP 5 o p) λq=>oB (fK 0 q) λr=>oB (eC r h) λs=>ef .eql 3 s (V.I 27))) λt=>oP (iM t (oB (some a) λu=>oB (some b) λv=>oB (gP 5 u v) λw=>oB (fK 4 w) λx=>oB (eC x h) λy=>oB (fK 3 d) λz=>oB (eC z h) λA=>oB (fD A) λB=>ef .geq 2 y B)) λD=>bP D (Q bF h) (oP (ef .add 3 b nO) λE=>c [d,a,E] h)) (nH C Q [d,nZ] h)
theorem vI{C Q}(I)(s:S3 I (nJ C Q)){k l h}(i:I k l h)(e:l.length=3:=by rfl):nU C Q l h:=JV.l3 I _ s i e
def nQ(C:fj)(Q:fo)(c:LP)(b d:V)(h:Hp):Prop:=dG 3 b h λe=>bO .lss 3 d e (dJ 3 b 3 d 0 h λa=>oP (fD a) λf=>oP (ef .lss 3 f nO) λg=>oP (mm g (oB (some a) λi=>oB (fD i) λj=>ef .gtr 3 j (V.I 30))) λk=>bP k (Q bF h) (nR C Q c [b,d,a,nZ] h)) (nT C Q [b,nZ] h)
theorem vF{C Q}(I)(s:S2 I (nQ C Q)){k l h}(i:I k l h)(e:l.length=2:=by rfl):nH C Q l h:=JV.l2 I _ s i e
def nE(C:fj)(Q:fo)(e:LP)(o:LP)(B D c d:V)(h:Hp):Prop:=oP (fD c) λp=>bO .lss 3 d p (oP (gP 4 c d) λq=>dG 2 q h λr=>oP (ef .gtr 3 r (V.I 40)) λs=>oP (mm s (oB (some c) λt=>oB (some d) λu=>oB (gP 4 t u) λv=>oB (fK 3 v) λw=>oB (eC w h) λx=>oB (fD x) λy=>ef .gtr 3 y (V.I 60))) λf=>bP f (Q bF h) (vj (iK 46 2 0 (V.agg [nZ,nZ]) []) h λz g i=>dI 4 c d 2 i λj=>oP (gP 4 c d) λk=>oP (fK 3 k) λa=>oP (eC a i) λb=>((i.get (h.next)=some z/\O.beq z z=true)/\fg (eQ 46 2 16 g j i) λl n=>(i.next<=n.next/\((eC a n=some b)/\fg (eQ 46 2 16 l b n) λm E=>(n.next<=E.next/\nM C Q e o [B,D,c,d,m,nZ] E)))))) (oP (ef .add 3 D nO) λA=>e [B,A] h)
theorem vH{C Q a}(I)(s:S4 I (nE C Q a)){k l h}(i:I k l h)(e:l.length=4:=by rfl):nR C Q a l h:=JV.l4 I _ s i e
def nN(C:fj)(Q:fo)(i:LP)(j a:V)(h:Hp):Prop:=dG 4 j h λb=>bO .lss 3 a b (dF 4 j h λc=>oP (gP 2 c a) λd=>oP (gy 2 d h) λe=>cP C lB [e,bT] h λf k=>bN f (Q bF k) (oP (ef .add 3 a nO) λg=>i [j,g] k)) (Q bT h)
theorem vK{C Q}(I)(s:S2 I (nN C Q)){k l h}(i:I k l h)(e:l.length=2:=by rfl):nT C Q l h:=JV.l2 I _ s i e
def nG(C:fj)(Q:fo)(q:LP)(g:LP)(i:LP)(l m n o j a:V)(h:Hp):Prop:=oP (fD j) λb=>bO .lss 3 a b (oP (gP 2 j a) λc=>oP (gy 2 c h) λd=>cP C lB [d,bF] h λe p=>bN e (Q bF p) (oP (ef .add 3 a nO) λf=>i [l,m,n,o,j,f] p)) (oP (ef .add 3 o nO) λk=>g [l,m,n,k] h)
theorem vG{C Q a b}(I)(s:S6 I (nG C Q a b)){k l h}(i:I k l h)(e:l.length=6:=by rfl):nM C Q a b l h:=JV.l6 I _ s i e
def pz(C:fj)(Q:fo)(i:V)(h:Hp):Prop:=hZ (nj 29 i) h λe f=>dF 2 e f λb=>cP C iW [b] f λa g=>oP (Dh 0 a) λc=>oP (Dh 1 a) λd=>bO .neq 40 d nZ (Q bF g) (nU C Q [e,c,nZ] g)
theorem yp{C}(s:C.start=fy){a h Q}(k:C.K jF [a] h=none)(H:pz C Q a h):cP C jF [a] h Q:=cP.vd t12 s (by unfold P0;exact Tryz.func12) k H
def t36:List (Nat×List Nat):=[]
def xj(C:fj)(Q:fo)(t s:V)(h:Hp):Prop:=hZ (nj 46 t) h λb a=>dF 0 b a λc=>bO .eql 3 c nO (dF 1 b a λd=>oP (ef .geq 2 d nZ) λe=>oP (iM e (oB (fK 1 b) λf=>oB (eC f a) λg=>ef .lss 2 g (V.I 16))) λi=>Q i a) (bO .eql 3 c (V.I 2) (dF 1 b a λj=>oP (ef .geq 2 j nZ) λk=>oP (iM k (oB (fK 1 b) λl=>oB (eC l a) λm=>ef .lss 2 m (V.I 400))) λn=>Q n a) (bO .eql 3 c (V.I 3) (oP (qH .not s) λo=>Q o a) (bO .eql 3 c (V.I 4) (oP (iM s (oB (fK 1 b) λp=>oB (eC p a) λq=>ef .eql 2 q nZ)) λr=>Q r a) (Q bF a))))
theorem FH{C}(s:C.start=fy){a b h Q}(k:C.K lB [a,b] h=none)(H:xj C Q a b h):cP C lB [a,b] h Q:=cP.vd t36 s (by unfold P0;exact Tryz.func36) k H
end
