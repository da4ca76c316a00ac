/- Parts. -/
import Derived.Test.YtflkbfabonggkaaGreatDoorM35
set_option maxHeartbeats 4000000
namespace Go.Proofs.YtflkbfabonggkaaGreatDoor.Hx
set_option maxRecDepth 100000
noncomputable section
section
variable (C:fm)(Q:X->gD->Hp->Prop)(ρ:gD)(h:Hp)
def k9:=KA Tryz.f9
def zd6:=k9.r
def zec:=k9.r.r
def zdF:=k9.r.r.r
def zdN:=k9.r.r.r.r
def zex:=k9.r.r.r.r.l.r
def zeq:=k9.r.r.r.r.r
def zfd:=andThen (Wp C 64 zeq Q) Q
def zdO:=k9.r.r.r.r.l.r.l.r
def zeA:=k9.r.r.r.r.r.r
def zdr:=k9.r.r.r.r.r.r.r
theorem e9:jH C 64 k9 Q ρ h=(ig (om 30 (ρ 0)) h λb c=>
 ig (om 30 (ρ 1)) c λd e=>
 oP (some (V.bool false)) λa=>
 Wp C 64 zd6 Q (fo (fo (fo ρ 6 b) 7 d) 12 a) e):=by kernel_rfl
theorem zfk:jH C 64 zd6 Q ρ h=(oP (some (ρ 2)) λa=>
 dcP C iF [a] h λb d=>
 oP (some b) λc=>
 Wp C 64 zec Q (fo (fo (fo ρ 17 a) 18 b) 13 c) d):=by kernel_rfl
theorem zfA:jH C 64 zec Q ρ h=(oP (some (ρ 2)) λa=>
 dcP C iF [a] h λb d=>
 oP (some b) λc=>
 Wp C 64 zdF Q (fo (fo (fo ρ 19 a) 20 b) 14 c) d):=by kernel_rfl
theorem zfs:jH C 64 zdF Q ρ h=(oP (gv 5 (ρ 6) h) λa=>
 oP (some (ρ 13)) λb=>
 oP (some (ρ 3)) λc=>
 oP (some (ρ 4)) λd=>
 oP (some (ρ 5)) λe=>
 dcP C jq [a,b,c,d,e] h λf i=>
 ig (some (.cells 77 1 true false [(V.I 0),(V.I 0),(V.I 0),V.ee,(V.I 0)],λl=> .ptr l 0)) i λg j=>
 fi (gI 5 g f j) λm k=>
 Wp C 64 zdN Q (fo (fo (fo (fo (fo (fo (fo ρ 21 a) 22 b) 23 c) 24 d) 25 e) 26 f) 15 g) k):=by kernel_rfl
theorem zfB:jH C 64 zdN Q ρ h=(oP (fH 0 (ρ 15)) λa=>
 oP (ez a h) λb=>
 oP (en .neq 3 b (V.I 1)) λc=>
 Wp C 64 zex (zfd C Q) (fo (fo (fo ρ 27 a) 28 b) 29 c) h):=by kernel_rfl
theorem zfF:jH C 64 zeq Q ρ h=(oP (gv 5 (ρ 7) h) λa=>
 oP (some (ρ 14)) λb=>
 oP (some (ρ 3)) λc=>
 oP (some (ρ 4)) λd=>
 oP (some (ρ 5)) λe=>
 dcP C jq [a,b,c,d,e] h λf i=>
 ig (some (.cells 77 1 true false [(V.I 0),(V.I 0),(V.I 0),V.ee,(V.I 0)],λl=> .ptr l 0)) i λg j=>
 fi (gI 5 g f j) λm k=>
 Wp C 64 zeA Q (fo (fo (fo (fo (fo (fo (fo ρ 30 a) 31 b) 32 c) 33 d) 34 e) 35 f) 16 g) k):=by kernel_rfl
theorem zfC:jH C 64 zex Q ρ h=(oP (some (ρ 29)) λc=>
 bP c (
 oP (some (V.bool true)) λa=>
 Wp C 64 zdO Q (fo ρ 12 a) h) (
 Q .normal ρ h)):=by kernel_rfl
theorem zfy:jH C 64 zeA Q ρ h=(oP (fH 0 (ρ 16)) λd=>
 oP (ez d h) λe=>
 oP (en .eql 3 e (V.I 1)) λf=>
 oP (some f) λb=>
 oP (fy true b) λY=>
 oP (gV Y (fH 4 (ρ 16))) λg=>
 oP (fy true b) λZ=>
 oP (gV Z (ez g h)) λi=>
 oP (fy true b) λb6=>
 oP (gV b6 (fH 4 (ρ 15))) λj=>
 oP (fy true b) λb7=>
 oP (gV b7 (ez j h)) λk=>
 oP (fy true b) λb8=>
 oP (gV b8 (en .leq 3 i k)) λl=>
 oP (jt b l (V.bool false)) λm=>
 oP (some m) λc=>
 oP (fy true c) λF=>
 oP (gV F (fH 3 (ρ 15))) λn=>
 oP (fy true c) λG=>
 oP (gV G (ez n h)) λx=>
 oP (fy true c) λH=>
 oP (gV H (fH 3 (ρ 16))) λo=>
 oP (fy true c) λI=>
 oP (gV I (ez o h)) λy=>
 ((gT I (ez o h=some y))/\
 ((gT H (fH 3 (ρ 16)=some o))/\
 ((gT G (ez n h=some x))/\
 ((gT F (fH 3 (ρ 15)=some n))/\
 ((some m=some c)/\
 ((jt b l (V.bool false)=some m)/\
 ((gT b8 (en .leq 3 i k=some l))/\
 ((gT b7 (ez j h=some k))/\
 ((gT b6 (fH 4 (ρ 15)=some j))/\
 ((gT Z (ez g h=some i))/\
 ((gT Y (fH 4 (ρ 16)=some g))/\
 ((some f=some b)/\
 ((en .eql 3 e (V.I 1)=some f)/\
 ((ez d h=some e)/\
 ((fH 0 (ρ 16)=some d)/\
 oP (fy true c) λT=>
 oP (gC T (some (iY,[x,y]))) λU=>uj C U h λz A=>
 (h.next<=A.next/\
 oP (jt c z (V.bool false)) λp=>
 oP (some p) λa=>
 oP (fy true a) λJ=>
 oP (gV J (some (ρ 13))) λq=>
 oP (fy true a) λK=>
 oP (gV K (gY q)) λr=>
 oP (fy true a) λL=>
 oP (gV L (fH 1 r)) λs=>
 oP (fy true a) λM=>
 oP (gV M (ez s A)) λB=>
 oP (fy true a) λN=>
 oP (gV N (some (ρ 14))) λt=>
 oP (fy true a) λO=>
 oP (gV O (gY t)) λu=>
 oP (fy true a) λP=>
 oP (gV P (fH 1 u)) λv=>
 oP (fy true a) λR=>
 oP (gV R (ez v A)) λD=>
 ((gT R (ez v A=some D))/\
 ((gT P (fH 1 u=some v))/\
 ((gT O (gY t=some u))/\
 ((gT N (some (ρ 14)=some t))/\
 ((gT M (ez s A=some B))/\
 ((gT L (fH 1 r=some s))/\
 ((gT K (gY q=some r))/\
 ((gT J (some (ρ 13)=some q))/\
 ((some p=some a)/\
 ((jt c z (V.bool false)=some p)/\
 oP (fy true a) λW=>
 oP (gC W (some (jz,[B,D]))) λX=>uj C X A λE h2=>
 (A.next<=h2.next/\
 oP (jt a E (V.bool false)) λw=>
 oP (some w) λS=>
 ((some w=some S)/\
 ((jt a E (V.bool false)=some w)/\
 Wp C 64 zdr Q (fo (fo (fo (fo (fo (fo (fo (fo (fo (fo (fo (fo (fo (fo (fo (fo (fo (fo (fo (fo (fo (fo (fo (fo (fo (fo (fo (fo (fo ρ 36 d) 37 e) 38 f) 39 b) 40 g) 41 i) 42 j) 43 k) 44 l) 45 m) 46 c) 47 n) 48 x) 49 o) 50 y) 51 z) 52 p) 53 a) 54 q) 55 r) 56 s) 57 B) 58 t) 59 u) 60 v) 61 D) 62 E) 63 w) 12 S) h2)))))))))))))))))))))))))))))):=by kernel_rfl
theorem zfn:jH C 64 zdr Q ρ h=(Q .ret ρ h):=by kernel_rfl
theorem zfc:jH C 64 zdO Q ρ h=(Q .ret ρ h):=by kernel_rfl
theorem g9{C:fm}(hs:C.start=fN)(a0 a1 a2 a3 a b:V){h:Hp}{Q:ft}(hk:C.K j4 [a0,a1,a2,a3,a,b] h=none)(H:jH C 64 k9 (ID [.tmp 12] Q) (Lv [a0,a1,a2,a3,a,b]) h):cP C j4 [a0,a1,a2,a3,a,b] h Q:=
 cP.XL hs (show P0.funcs[9]? =some Tryz.f9 by unfold P0;exact Tryz.func9) (by kernel_rfl) (by kernel_rfl) (by kernel_rfl) hk (Kj rfl) (Wp.code _ H)
def qH(C:fm)(Q:ft)(a0 a1 a2 a3 a4 a5:V)(h:Hp):Prop:=ig (om 30 a0) h λv6 h1=>ig (om 30 a1) h1 λv7 h2=>cP C iF [a2] h2 λi h3=>cP C iF [a2] h3 λj h4=>oP (gv 5 v6 h4) λm=>cP C jq [m,i,a3,a4,a5] h4 λn h5=>ig (zC 77 [nZ,nZ,nZ,nS,nZ]) h5 λf h6=>fi (gI 5 f n h6) λvu l=>oP (fH 0 f) λo=>oP (ez o l) λp=>oP (en .neq 3 p nO) λq=>bP q (Q bT l) (oP (gv 5 v7 l) λr=>cP C jq [r,j,a3,a4,a5] l λs h8=>ig (zC 77 [nZ,nZ,nZ,nS,nZ]) h8 λg h9=>fi (gI 5 g s h9) λaj b=>oP (fH 0 g) λt=>oP (ez t b) λu=>oP (en .eql 3 u nO) λd=>oP (fy true d) λb4=>oP (gV b4 (fH 4 g)) λv=>oP (fy true d) λb5=>oP (gV b5 (ez v b)) λw=>oP (fy true d) λb6=>oP (gV b6 (fH 4 f)) λx=>oP (fy true d) λb7=>oP (gV b7 (ez x b)) λy=>oP (jO d (en .leq 3 w y)) λc=>oP (fy true c) λz=>oP (gV z (fH 3 f)) λA=>oP (fy true c) λB=>oP (gV B (ez A b)) λD=>oP (fy true c) λE=>oP (gV E (fH 3 g)) λF=>oP (fy true c) λG=>oP (gV G (ez F b)) λH=>oP (fy true c) λI=>oP (gC I (some (iY,[D,H]))) λJ=>uj C J b λK e=>(b.next<=e.next/\oP (jt c K bF) λa=>oP (fy true a) λL=>oP (gV L (some i)) λM=>oP (fy true a) λN=>oP (gV N (gY M)) λO=>oP (fy true a) λP=>oP (gV P (fH 1 O)) λR=>oP (fy true a) λS=>oP (gV S (ez R e)) λT=>oP (fy true a) λU=>oP (gV U (some j)) λW=>oP (fy true a) λX=>oP (gV X (gY W)) λY=>oP (fy true a) λZ=>oP (gV Z (fH 1 Y)) λaa=>oP (fy true a) λab=>oP (gV ab (ez aa e)) λac=>oP (fy true a) λae=>oP (gC ae (some (jz,[T,ac]))) λag=>uj C ag e λah k=>(e.next<=k.next/\oP (jt a ah bF) λai=>Q ai k)))
theorem GX{C:fm}(hs:C.start=fN){a0 a1 a2 a3 y z:V}{h:Hp}{Q:ft}(hk:C.K j4 [a0,a1,a2,a3,y,z] h=none)(H:qH C Q a0 a1 a2 a3 y z h):cP C j4 [a0,a1,a2,a3,y,z] h Q:=by
 unfold qH at H;exact g9 hs _ _ _ _ _ _ hk ((e9 _ _ _ _).mpr (alM H λv6 h1 H=>alM H λv7 h2 H=>vB (Wp.of (zfk _ _ _ _) (vB (dcM H λD h3 H=>vB (Wp.of (zfA _ _ _ _) (vB (dcM H λE h4 H=>vB (Wp.of (zfs _ _ _ _) (oM H λF _ H=>vB (vB (vB (vB (dcM H λG h5 H=>alM H λI h6 H=>zcI H λvu h7 H=>Wp.of (zfB _ _ _ _) (oM H λJ _ H=>oM H λL _ H=>oM H λM _ H=>Wp.of (zfC _ _ _ _) (vB (bM H (λH=>vB (Wp.of (zfc _ _ _ _) (H))) (λH=>Wp.of (zfF _ _ _ _) (oM H λN _ H=>vB (vB (vB (vB (dcM H λO h8 H=>alM H λP h9 H=>zcI H λA R H=>Wp.of (zfy _ _ _ _) (oM H λS a H=>oM H λT b H=>oM H λU c H=>vB (oM H λb4 _ H=>oM H λW d H=>oM H λb5 _ H=>oM H λX e H=>oM H λb6 _ H=>oM H λY f H=>oM H λb7 _ H=>oM H λZ g H=>thn (MV H) λH=>oM H λb8 B H=>oM H λaa i H=>oM H λab j H=>vB (oM H λac _ H=>oM H λae k H=>oM H λag _ H=>oM H λah l H=>oM H λai _ H=>oM H λaj m H=>oM H λak _ H=>oM H λal n H=>⟨(hK n),⟨(hK m),⟨(hK l),⟨(hK k),⟨rfl,⟨j,⟨(hK i),⟨(hK g),⟨(hK f),⟨(hK e),⟨(hK d),⟨rfl,⟨c,⟨b,⟨a,oM H λam _ H=>oM H λan _ H=>cgM H λao ap H=>anM H λH=>oM H λaq o H=>vB (oM H λar _ H=>oM H λau p H=>oM H λaw _ H=>oM H λax q H=>oM H λay _ H=>oM H λaA r H=>oM H λaB _ H=>oM H λaC s H=>oM H λaD _ H=>oM H λaE t H=>oM H λaF _ H=>oM H λaG u H=>oM H λaH _ H=>oM H λaI v H=>oM H λaJ _ H=>oM H λaK w H=>⟨(hK w),⟨(hK v),⟨(hK u),⟨(hK t),⟨(hK s),⟨(hK r),⟨(hK q),⟨(hK p),⟨rfl,⟨o,oM H λaL _ H=>oM H λaM _ H=>cgM H λaN aO H=>anM H λH=>oM H λaP x H=>vB (⟨rfl,⟨x,Wp.of (zfn _ _ _ _) (H)⟩⟩)⟩⟩⟩⟩⟩⟩⟩⟩⟩⟩)⟩⟩⟩⟩⟩⟩⟩⟩⟩⟩⟩⟩⟩⟩⟩))))))))))))))))))))))))))
end
def t34:List (Nat×List Nat):=[(87,[0,1,5])]
def pG(C:fm)(Q:ft):LP:=JV C Tryz.f34 t34 43 [0,1,5] [] Q
def pA(C:fm)(Q:ft)(fM:LP)(b l a:V)(h:Hp):Prop:=oP (fE b) λc=>oP (en .lss 3 a c) λd=>bP d (oP (gz 1 b a) λe=>oP (ez e h) λf=>oP (gz 1 l a) λg=>oP (ez g h) λi=>oP (en .neq 59 f i) λj=>bP j (Q bF h) (oP (en .add 3 a nO) λk=>fM [b,l,k] h)) (Q bT h)
theorem zh{C Q}(I)(s:S3 I (pA C Q)){k l h}(i:I k l h)(e:l.length=3:=by rfl):pG C Q l h:=JV.l3 I _ s i e
def tf(C:fm)(Q:ft)(a0 a1:V)(h:Hp):Prop:=oP (fE a0) λb=>oP (fE a1) λc=>oP (en .neq 3 b c) λa=>bP a (Q bF h) (pG C Q [a0,a1,nZ] h)
theorem Bb{C}(s:C.start=fN){a0 a1 h Q}(k:C.K jz [a0,a1] h=none)(H:tf C Q a0 a1 h):cP C jz [a0,a1] h Q:=cP.vd t34 s (by unfold P0;exact Tryz.func34) k H
def t31:List (Nat×List Nat):=[]
def tj(C:fm)(Q:ft)(a0:V)(h:Hp):Prop:=oP (gY a0) λm=>oP (fH 0 m) λc=>oP (ez c h) λd=>yn (jr 59 1 0 (V.int .u64 0) []) h λe n b=>dN 1 a0 b λf=>((b.get (h.next)=some e/\O.beq e e=true)/\((ez c b=some d)/\fi (eR 59 1 8 n f b) λg i=>(b.next<=i.next/\oP (fV [nZ,nS] [(0,1),(1,1)] [(0,d),(1,g)]) λj=>yn (om 82 j) i λa k l=>((l.get (i.next)=some a/\O.beq a a=true)/\((ez c l=some d)/\Q k l)))))
theorem A9{C}(s:C.start=fN){a0 h Q}(k:C.K iF [a0] h=none)(H:tj C Q a0 h):cP C iF [a0] h Q:=cP.vd t31 s (by unfold P0;exact Tryz.func31) k H
def t35:List (Nat×List Nat):=[]
def uH(C:fm)(Q:ft)(a0:V)(h:Hp):Prop:=ig (jr 59 1 1 (V.int .u64 0) [(0,(V.int .u64 0))]) h λa b=>oP (fV [nZ,nS] [(0,1),(1,1)] [(0,a0),(1,a)]) λc=>ig (om 82 c) b λd e=>Q d e
theorem CX{C}(s:C.start=fN){a0 h Q}(k:C.K lT [a0] h=none)(H:uH C Q a0 h):cP C lT [a0] h Q:=cP.vd t35 s (by unfold P0;exact Tryz.func35) k H
def t36:List (Nat×List Nat):=[(351,[0,2,8,9])]
def oX(C:fm)(Q:ft):LP:=JV C Tryz.f36 t36 175 [0,2,8,9] [] Q
def o0(C:fm)(Q:ft)(fM:LP)(a i j k:V)(h:Hp):Prop:=bO .lss 3 k i (dN 1 a h λb=>ig (jr 59 1 1 (V.int .u64 0) [(0,(V.int .u64 0))]) h λc l=>fi (eR 59 1 8 b c l) λd m=>oP (gY a) λe=>oP (fH 1 e) λf=>fi (gI 1 f d m) λo n=>oP (en .add 3 k nO) λg=>fM [a,i,j,g] n) (Q (V.tuple [j,bT]) h)
theorem yZ{C Q}(I)(s:S4 I (o0 C Q)){k l h}(i:I k l h)(e:l.length=4:=by rfl):oX C Q l h:=JV.l4 I _ s i e
def qQ(C:fm)(Q:ft)(a0 a1 a2:V)(h:Hp):Prop:=oP (en .lss 3 a1 nZ) λa=>oP (nP a (oB (some a1) λb=>en .gtr 3 b (V.I 1048576))) λc=>oP (nP c (oB (some a2) λd=>en .lss 3 d nZ)) λe=>oP (nP e (oB (some a2) λf=>en .gtr 3 f (V.I 1048576))) λg=>oP (nP g (oB (some a2) λi=>oB (en .add 3 i nO) λj=>oB (some a0) λk=>oB (gY k) λl=>oB (fH 0 l) λm=>oB (ez m h) λn=>oB (some a0) λo=>oB (gY o) λp=>oB (fH 1 p) λq=>oB (ez q h) λr=>oB (fE r) λs=>oB (en .sub 3 n s) λt=>en .gtr 3 j t)) λu=>bP u (Q (V.tuple [(V.int .u64 0),bF]) h) (oP (gY a0) λv=>dG 1 v h λw=>oP (oO .u64 w) λx=>dN 1 a0 h λy=>oP (oO .u64 a1) λz=>oP (en .shl 59 z (V.int .u64 32)) λA=>oP (oO .u64 a2) λB=>oP (en .add 59 A B) λD=>ig (jr 59 1 1 (V.int .u64 0) [(0,D)]) h λE I=>fi (eR 59 1 8 y E I) λF J=>oP (gY a0) λG=>oP (fH 1 G) λH=>fi (gI 1 H F J) λL K=>oX C Q [a0,a2,x,nZ] K)
theorem A1{C}(s:C.start=fN){a0 a1 a2 h Q}(k:C.K kj [a0,a1,a2] h=none)(H:qQ C Q a0 a1 a2 h):cP C kj [a0,a1,a2] h Q:=cP.vd t36 s (by unfold P0;exact Tryz.func36) k H
def t37:List (Nat×List Nat):=[]
def tX(C:fm)(Q:ft)(a0 a1 a2 a3:V)(h:Hp):Prop:=oP (en .eql 59 a1 (V.int .u64 0)) λb=>oP (nP b (oB (some a2) λc=>en .lss 3 c nZ)) λa=>oP (fy false a) λq=>oP (gV q (some a2)) λd=>oP (fy false a) λr=>oP (gV r (some a0)) λe=>oP (fy false a) λs=>oP (gV s (some a1)) λf=>oP (fy false a) λg=>oP (gC g (some (jL,[e,f]))) λi=>uj C i h λj p=>oP (nP a (en .geq 3 d j)) λk=>bP k (Q bF p) (oP (en .add 59 a1 (V.int .u64 1)) λl=>oP (oO .u64 a2) λm=>oP (en .add 59 l m) λn=>cP C iW [a0,n,a3] p λo t=>Q o t)
theorem CI{C}(s:C.start=fN){a0 a1 a2 a3 h Q}(k:C.K lB [a0,a1,a2,a3] h=none)(H:tX C Q a0 a1 a2 a3 h):cP C lB [a0,a1,a2,a3] h Q:=cP.vd t37 s (by unfold P0;exact Tryz.func37) k H
def t54:List (Nat×List Nat):=[]
def rU(C:fm)(Q:ft)(a0 a1:V)(h:Hp):Prop:=cP C iG [a0,a1] h λa b=>oP (en .shr 59 a (V.int .u64 32)) λc=>oP (oO .i64 c) λd=>Q d b
theorem Bv{C}(s:C.start=fN){a0 a1 h Q}(k:C.K kO [a0,a1] h=none)(H:rU C Q a0 a1 h):cP C kO [a0,a1] h Q:=cP.vd t54 s (by unfold P0;exact Tryz.func54) k H
def t55:List (Nat×List Nat):=[]
def tB(C:fm)(Q:ft)(a0 a1:V)(h:Hp):Prop:=cP C iG [a0,a1] h λa b=>oP (en .rem 59 a (V.int .u64 4294967296)) λc=>oP (oO .i64 c) λd=>Q d b
theorem Cg{C}(s:C.start=fN){a0 a1 h Q}(k:C.K jL [a0,a1] h=none)(H:tB C Q a0 a1 h):cP C jL [a0,a1] h Q:=cP.vd t55 s (by unfold P0;exact Tryz.func55) k H
def t56:List (Nat×List Nat):=[]
def rC(C:fm)(Q:ft)(a0 a1:V)(h:Hp):Prop:=oP (gY a0) λe=>dG 1 e h λa=>oP (oO .u64 a) λb=>bO .geq 59 a1 b (Q (V.int .u64 0) h) (dN 1 a0 h λc=>dX 1 c a1 h λd=>Q d h)
theorem Bo{C}(s:C.start=fN){a0 a1 h Q}(k:C.K iG [a0,a1] h=none)(H:rC C Q a0 a1 h):cP C iG [a0,a1] h Q:=cP.vd t56 s (by unfold P0;exact Tryz.func56) k H
def t57:List (Nat×List Nat):=[]
def tF(C:fm)(Q:ft)(a0 a1 a2:V)(h:Hp):Prop:=oP (en .eql 59 a1 (V.int .u64 0)) λl=>oP (nP l (oB (some a1) λa=>oB (some a0) λb=>oB (gY b) λc=>oB (fH 1 c) λd=>oB (ez d h) λe=>oB (fE e) λf=>oB (oO .u64 f) λg=>en .geq 59 a g)) λi=>bP i (Q bF h) (dN 1 a0 h λj=>oP (gz 1 j a1) λk=>fi (gI 1 k a2 h) λn m=>Q bT m)
theorem Ct{C}(s:C.start=fN){a0 a1 a2 h Q}(k:C.K iW [a0,a1,a2] h=none)(H:tF C Q a0 a1 a2 h):cP C iW [a0,a1,a2] h Q:=cP.vd t57 s (by unfold P0;exact Tryz.func57) k H
section
variable (C:fm)(Q:X->gD->Hp->Prop)(ρ:gD)(h:Hp)
def UC:=KA Tryz.f33
def zbP:=UC.r
def zbC:=UC.r.l.r
def zbA:=UC.r.r
def zeN:=andThen (Wp C 69 zbA Q) Q
def zby:=UC.r.l.r.l.r
def zbX:=UC.r.r.l.r
def zbF:=UC.r.r.r
def zbU:=andThen (Wp C 69 zbF Q) Q
def XA:=UC.r.r.l.r.l.l
def zeL(C:fm)(Q:XQ):XQ:=xm 0 Q
def zbx:=UC.r.r.r.r
def zbz:=UC.r.r.l.r.l.l.l.r
def zbE:=UC.r.r.l.r.l.l.r
def zd2:=andThen (Wp C 69 zbE Q) Q
def zbD:=UC.r.r.l.r.l.l.r.l.l.r
def Ym:=UC.r.r.l.r.l.l.r.r
def zdU:=andThen (Wp C 69 Ym Q) Q
def zeI:=xm 1 (zdU C Q)
def Yu:=UC.r.r.l.r.l.l.r.l.l.r.l.r
def zdR:=xm 0 (zbU C Q)
theorem e33:jH C 69 UC Q ρ h=(oP (some (V.bool false)) λa=>
 Wp C 69 zbP Q (fo ρ 4 a) h):=by kernel_rfl
theorem zd9:jH C 69 zbP Q ρ h=(oP (some (ρ 0)) λb=>
 oP (fE b) λc=>
 oP (some (ρ 1)) λd=>
 oP (fE d) λe=>
 oP (en .neq 3 c e) λa=>
 Wp C 69 zbC (zeN C Q) (fo (fo (fo (fo (fo ρ 6 b) 7 c) 8 d) 9 e) 10 a) h):=by kernel_rfl
theorem zd0:jH C 69 zbA Q ρ h=(oP (some (V.I 0)) λa=>
 Wp C 69 zbX (zbU C Q) (fo ρ 5 a) h):=by kernel_rfl
theorem zez:jH C 69 zbC Q ρ h=(oP (some (ρ 10)) λc=>
 bP c (
 oP (some (V.bool false)) λa=>
 Wp C 69 zby Q (fo ρ 4 a) h) (
 Q .normal ρ h)):=by kernel_rfl
theorem zdS:jH C 69 zbF Q ρ h=(oP (some (V.bool true)) λa=>
 Wp C 69 zbx Q (fo ρ 4 a) h):=by kernel_rfl
theorem zd7:jH C 69 zbX Q ρ h=(Wp C 69 (.loop XA) (zeL C Q) ρ h):=by kernel_rfl
theorem zeT:jH C 69 zbx Q ρ h=(Q .ret ρ h):=by kernel_rfl
theorem zdC:jH C 69 zby Q ρ h=(Q .ret ρ h):=by kernel_rfl
theorem zd5:jH C 69 XA Q ρ h=(oP (some (ρ 5)) λa=>
 oP (some (ρ 0)) λb=>
 oP (fE b) λc=>
 oP (en .lss 3 a c) λd=>
 Wp C 69 zbz (zd2 C Q) (fo (fo (fo (fo ρ 11 a) 12 b) 13 c) 14 d) h):=by kernel_rfl
theorem zdI:jH C 69 zbE Q ρ h=(oP (some (ρ 0)) λd=>
 oP (some (ρ 5)) λe=>
 oP (gz 4 d e) λf=>
 oP (fH 0 f) λg=>
 oP (ez g h) λi=>
 oP (some (ρ 1)) λj=>
 oP (some (ρ 5)) λk=>
 oP (gz 4 j k) λl=>
 oP (fH 0 l) λm=>
 oP (ez m h) λn=>
 oP (en .neq 3 i n) λo=>
 oP (some o) λc=>
 oP (fy false c) λae=>
 oP (gV ae (some (ρ 0))) λp=>
 oP (fy false c) λag=>
 oP (gV ag (some (ρ 5))) λq=>
 oP (fy false c) λah=>
 oP (gV ah (gz 4 p q)) λr=>
 oP (fy false c) λai=>
 oP (gV ai (fH 1 r)) λs=>
 oP (fy false c) λaj=>
 oP (gV aj (ez s h)) λt=>
 oP (fy false c) λak=>
 oP (gV ak (some (ρ 1))) λu=>
 oP (fy false c) λal=>
 oP (gV al (some (ρ 5))) λv=>
 oP (fy false c) λam=>
 oP (gV am (gz 4 u v)) λw=>
 oP (fy false c) λan=>
 oP (gV an (fH 1 w)) λx=>
 oP (fy false c) λao=>
 oP (gV ao (ez x h)) λy=>
 oP (fy false c) λap=>
 oP (gV ap (en .neq 3 t y)) λz=>
 oP (jt c (V.bool true) z) λA=>
 oP (some A) λa=>
 oP (fy false a) λaq=>
 oP (gV aq (some (ρ 0))) λB=>
 oP (fy false a) λar=>
 oP (gV ar (some (ρ 5))) λD=>
 oP (fy false a) λau=>
 oP (gV au (gz 4 B D)) λE=>
 oP (fy false a) λaw=>
 oP (gV aw (fH 2 E)) λF=>
 oP (fy false a) λax=>
 oP (gV ax (ez F h)) λX=>
 oP (fy false a) λay=>
 oP (gV ay (some (ρ 1))) λG=>
 oP (fy false a) λaA=>
 oP (gV aA (some (ρ 5))) λH=>
 oP (fy false a) λaB=>
 oP (gV aB (gz 4 G H)) λI=>
 oP (fy false a) λaC=>
 oP (gV aC (fH 2 I)) λJ=>
 oP (fy false a) λaD=>
 oP (gV aD (ez J h)) λY=>
 ((gT aD (ez J h=some Y))/\
 ((gT aC (fH 2 I=some J))/\
 ((gT aB (gz 4 G H=some I))/\
 ((gT aA (some (ρ 5)=some H))/\
 ((gT ay (some (ρ 1)=some G))/\
 ((gT ax (ez F h=some X))/\
 ((gT aw (fH 2 E=some F))/\
 ((gT au (gz 4 B D=some E))/\
 ((gT ar (some (ρ 5)=some D))/\
 ((gT aq (some (ρ 0)=some B))/\
 ((some A=some a)/\
 ((jt c (V.bool true) z=some A)/\
 ((gT ap (en .neq 3 t y=some z))/\
 ((gT ao (ez x h=some y))/\
 ((gT an (fH 1 w=some x))/\
 ((gT am (gz 4 u v=some w))/\
 ((gT al (some (ρ 5)=some v))/\
 ((gT ak (some (ρ 1)=some u))/\
 ((gT aj (ez s h=some t))/\
 ((gT ai (fH 1 r=some s))/\
 ((gT ah (gz 4 p q=some r))/\
 ((gT ag (some (ρ 5)=some q))/\
 ((gT ae (some (ρ 0)=some p))/\
 ((some o=some c)/\
 ((en .neq 3 i n=some o)/\
 ((ez m h=some n)/\
 ((fH 0 l=some m)/\
 ((gz 4 j k=some l)/\
 ((some (ρ 5)=some k)/\
 ((some (ρ 1)=some j)/\
 ((ez g h=some i)/\
 ((fH 0 f=some g)/\
 ((gz 4 d e=some f)/\
 ((some (ρ 5)=some e)/\
 ((some (ρ 0)=some d)/\
 oP (fy false a) λaR=>
 oP (gC aR (some (iR,[X,Y]))) λaS=>uj C aS h λZ h1=>
 (h.next<=h1.next/\
 oP (fy false a) λaE=>
 oP (gV aE (pt .not Z)) λK=>
 oP (jt a (V.bool true) K) λL=>
 oP (some L) λb=>
 oP (fy false b) λaF=>
 oP (gV aF (some (ρ 0))) λM=>
 oP (fy false b) λaG=>
 oP (gV aG (some (ρ 5))) λN=>
 oP (fy false b) λaH=>
 oP (gV aH (gz 4 M N)) λO=>
 oP (fy false b) λaI=>
 oP (gV aI (fH 3 O)) λP=>
 oP (fy false b) λaJ=>
 oP (gV aJ (ez P h1)) λaa=>
 oP (fy false b) λaK=>
 oP (gV aK (some (ρ 1))) λR=>
 oP (fy false b) λaL=>
 oP (gV aL (some (ρ 5))) λS=>
 oP (fy false b) λaM=>
 oP (gV aM (gz 4 R S)) λT=>
 oP (fy false b) λaN=>
 oP (gV aN (fH 3 T)) λU=>
 oP (fy false b) λaO=>
 oP (gV aO (ez U h1)) λab=>
 ((gT aO (ez U h1=some ab))/\
 ((gT aN (fH 3 T=some U))/\
 ((gT aM (gz 4 R S=some T))/\
 ((gT aL (some (ρ 5)=some S))/\
 ((gT aK (some (ρ 1)=some R))/\
 ((gT aJ (ez P h1=some aa))/\
 ((gT aI (fH 3 O=some P))/\
 ((gT aH (gz 4 M N=some O))/\
 ((gT aG (some (ρ 5)=some N))/\
 ((gT aF (some (ρ 0)=some M))/\
 ((some L=some b)/\
 ((jt a (V.bool true) K=some L)/\
 ((gT aE (pt .not Z=some K))/\
 oP (fy false b) λaT=>
 oP (gC aT (some (iR,[aa,ab]))) λaU=>uj C aU h1 λac h2=>
 (h1.next<=h2.next/\
 oP (fy false b) λaP=>
 oP (gV aP (pt .not ac)) λW=>
 oP (jt b (V.bool true) W) λaQ=>
 ((jt b (V.bool true) W=some aQ)/\
 ((gT aP (pt .not ac=some W))/\
 Wp C 69 zbD (zeI C Q) (fo (fo (fo (fo (fo (fo (fo (fo (fo (fo (fo (fo (fo (fo (fo (fo (fo (fo (fo (fo (fo (fo (fo (fo (fo (fo (fo (fo (fo (fo (fo (fo (fo (fo (fo (fo (fo (fo (fo (fo (fo (fo (fo (fo (fo (fo (fo (fo (fo (fo (fo (fo ρ 17 d) 18 e) 19 f) 20 g) 21 i) 22 j) 23 k) 24 l) 25 m) 26 n) 27 o) 28 c) 29 p) 30 q) 31 r) 32 s) 33 t) 34 u) 35 v) 36 w) 37 x) 38 y) 39 z) 40 A) 41 a) 42 B) 43 D) 44 E) 45 F) 46 X) 47 G) 48 H) 49 I) 50 J) 51 Y) 52 Z) 53 K) 54 L) 55 b) 56 M) 57 N) 58 O) 59 P) 60 aa) 61 R) 62 S) 63 T) 64 U) 65 ab) 66 ac) 67 W) 68 aQ) h2))))))))))))))))))))))))))))))))))))))))))))))))))))):=by kernel_rfl
theorem zeu:jH C 69 zbz Q ρ h=(oP (some (ρ 14)) λc=>
 bP c (
 Q .normal ρ h) (
 Q (.exit 0) ρ h)):=by kernel_rfl
theorem zcm:jH C 69 Ym Q ρ h=(oP (some (ρ 5)) λa=>
 oP (en .add 3 a (V.I 1)) λb=>
 oP (some b) λc=>
 Q .normal (fo (fo (fo ρ 15 a) 16 b) 5 c) h):=by kernel_rfl
theorem zep:jH C 69 zbD Q ρ h=(oP (some (ρ 68)) λc=>
 bP c (
 oP (some (V.bool false)) λa=>
 Wp C 69 Yu Q (fo ρ 4 a) h) (
 Q .normal ρ h)):=by kernel_rfl
theorem zcB:jH C 69 Yu Q ρ h=(Q .ret ρ h):=by kernel_rfl
theorem g33{C:fm}(hs:C.start=fN)(a0 a1:V){h:Hp}{Q:ft}(hk:C.K iY [a0,a1] h=none)(H:jH C 69 UC (ID [.tmp 4] Q) (Lv [a0,a1]) h):cP C iY [a0,a1] h Q:=
 cP.XL hs (show P0.funcs[33]? =some Tryz.f33 by unfold P0;exact Tryz.func33) (by kernel_rfl) (by kernel_rfl) (by kernel_rfl) hk (Kj rfl) (Wp.code _ H)
def ue(C:fm)(Q:ft)(a b c:V)(h:Hp):Prop:=∀ρ:gD,ρ 0=a->ρ 1=b->ρ 5=c->Wp C 69 (.loop XA) (zdR C (ID [.tmp 4] Q)) ρ h
def nW(C:fm)(Q:ft)(fM:Rk)(e f d:V)(h:Hp):Prop:=oP (fE e) λi=>bO .lss 3 d i (dI 4 e d 0 h λj=>dI 4 f d 0 h λk=>oP (en .neq 3 j k) λc=>oP (fy false c) λl=>oP (gV l (some e)) λm=>oP (fy false c) λn=>oP (gV n (some d)) λo=>oP (fy false c) λp=>oP (gV p (gz 4 m o)) λq=>oP (fy false c) λr=>oP (gV r (fH 1 q)) λs=>oP (fy false c) λt=>oP (gV t (ez s h)) λu=>oP (fy false c) λv=>oP (gV v (some f)) λw=>oP (fy false c) λx=>oP (gV x (some d)) λy=>oP (fy false c) λz=>oP (gV z (gz 4 w y)) λA=>oP (fy false c) λB=>oP (gV B (fH 1 A)) λD=>oP (fy false c) λE=>oP (gV E (ez D h)) λF=>oP (nP c (en .neq 3 u F)) λa=>oP (fy false a) λG=>oP (gV G (some e)) λH=>oP (fy false a) λI=>oP (gV I (some d)) λJ=>oP (fy false a) λK=>oP (gV K (gz 4 H J)) λL=>oP (fy false a) λM=>oP (gV M (fH 2 L)) λN=>oP (fy false a) λO=>oP (gV O (ez N h)) λP=>oP (fy false a) λR=>oP (gV R (some f)) λS=>oP (fy false a) λT=>oP (gV T (some d)) λU=>oP (fy false a) λW=>oP (gV W (gz 4 S U)) λX=>oP (fy false a) λY=>oP (gV Y (fH 2 X)) λZ=>oP (fy false a) λaa=>oP (gV aa (ez Z h)) λab=>oP (fy false a) λac=>oP (gC ac (some (iR,[P,ab]))) λae=>uj C ae h λag g=>(h.next<=g.next/\oP (nP a (pt .not ag)) λb=>oP (fy false b) λah=>oP (gV ah (some e)) λai=>oP (fy false b) λaj=>oP (gV aj (some d)) λak=>oP (fy false b) λal=>oP (gV al (gz 4 ai ak)) λam=>oP (fy false b) λan=>oP (gV an (fH 3 am)) λao=>oP (fy false b) λap=>oP (gV ap (ez ao g)) λaq=>oP (fy false b) λar=>oP (gV ar (some f)) λau=>oP (fy false b) λaw=>oP (gV aw (some d)) λax=>oP (fy false b) λay=>oP (gV ay (gz 4 au ax)) λaA=>oP (fy false b) λaB=>oP (gV aB (fH 3 aA)) λaC=>oP (fy false b) λaD=>oP (gV aD (ez aC g)) λaE=>oP (fy false b) λaF=>oP (gC aF (some (iR,[aq,aE]))) λaG=>uj C aG g λaH h2=>(g.next<=h2.next/\oP (nP b (pt .not aH)) λaI=>bP aI (Q bF h2) (oP (en .add 3 d nO) λaJ=>fM e f aJ h2)))) (Q bT h)
theorem Cb{C:fm}{Q:ft}(I:Nat->Rk)(step:∀(k:Nat)(a b c:V)(h:Hp),I k a b c h->nW C Q (λa b c h=>∃k',k' < k/\I k' a b c h) a b c h){k:Nat}{a b c:V}{h:Hp}(h0:I k a b c h):ue C Q a b c h:=by
 intro ρ e0 e1 e5;subst e0;subst e1;subst e5;refine Wp.zbK (λk ρ h=>I k (ρ 0) (ρ 1) (ρ 5) h) (λk ρ h hi=>?_) h0;have H:=step k (ρ 0) (ρ 1) (ρ 5) h hi;unfold nW at H;exact Wp.of (zd5 _ _ _ _) (vB (vB (oM H λag _ H=>oM H λah _ H=>Wp.of (zeu _ _ _ _) (vB (bM H (λH=>Wp.of (zdI _ _ _ _) (vB (vB (oM H λai d H=>oM H λaj e H=>oM H λak f H=>vB (vB (oM H λal g H=>oM H λam i H=>oM H λan j H=>oM H λao l H=>vB (oM H λap _ H=>oM H λaq m H=>oM H λar _ H=>oM H λau n H=>oM H λaw _ H=>oM H λax o H=>oM H λay _ H=>oM H λaA p H=>oM H λaB _ H=>oM H λaC q H=>oM H λaD _ H=>oM H λaE r H=>oM H λaF _ H=>oM H λaG s H=>oM H λaH _ H=>oM H λaI t H=>oM H λaJ _ H=>oM H λaK u H=>oM H λaL _ H=>oM H λaM v H=>thn (Jw H) λH=>oM H λaN ab H=>oM H λaO w H=>oM H λaP x H=>vB (oM H λaQ _ H=>oM H λaR y H=>oM H λaS _ H=>oM H λaT z H=>oM H λaU _ H=>oM H λaV A H=>oM H λaW _ H=>oM H λaX B H=>oM H λaY _ H=>oM H λaZ D H=>oM H λa4 _ H=>oM H λa5 E H=>oM H λa6 _ H=>oM H λa7 F H=>oM H λa8 _ H=>oM H λa9 G H=>oM H λba _ H=>oM H λbb J H=>oM H λbc _ H=>oM H λbd K H=>⟨(hK K),⟨(hK J),⟨(hK G),⟨(hK F),⟨(hK E),⟨(hK D),⟨(hK B),⟨(hK A),⟨(hK z),⟨(hK y),⟨rfl,⟨x,⟨(hK w),⟨(hK v),⟨(hK u),⟨(hK t),⟨(hK s),⟨(hK r),⟨(hK q),⟨(hK p),⟨(hK o),⟨(hK n),⟨(hK m),⟨rfl,⟨l,⟨j,⟨i,⟨g,⟨rfl,⟨rfl,⟨f,⟨e,⟨d,⟨rfl,⟨rfl,oM H λbe _ H=>oM H λbf _ H=>cgM H λbg h1 H=>anM H λH=>thn (Jw H) λH=>oM H λbh ac H=>oM H λbi L H=>oM H λbj M H=>vB (oM H λbm _ H=>oM H λbo N H=>oM H λbr _ H=>oM H λbt O H=>oM H λbu _ H=>oM H λbw P H=>oM H λbx _ H=>oM H λbz R H=>oM H λbA _ H=>oM H λbC S H=>oM H λbD _ H=>oM H λbE T H=>oM H λbG _ H=>oM H λbH U H=>oM H λbI _ H=>oM H λbJ W H=>oM H λbK _ H=>oM H λbL X H=>oM H λbQ _ H=>oM H λbR Y H=>⟨(hK Y),⟨(hK X),⟨(hK W),⟨(hK U),⟨(hK T),⟨(hK S),⟨(hK R),⟨(hK P),⟨(hK O),⟨(hK N),⟨rfl,⟨M,⟨(hK L),oM H λbS _ H=>oM H λbU _ H=>cgM H λbV h2 H=>anM H λH=>thn (Jw H) λH=>oM H λbW ae H=>oM H λbX Z H=>oM H λbY aa H=>⟨aa,⟨(hK Z),Wp.of (zep _ _ _ _) (vB (bM H (λH=>vB (Wp.of (zcB _ _ _ _) (H))) (λH=>Wp.of (zcm _ _ _ _) (vB (oM H λbZ _ H=>vB (H))))))⟩⟩⟩⟩⟩⟩⟩⟩⟩⟩⟩⟩⟩⟩⟩)⟩⟩⟩⟩⟩⟩⟩⟩⟩⟩⟩⟩⟩⟩⟩⟩⟩⟩⟩⟩⟩⟩⟩⟩⟩⟩⟩⟩⟩⟩⟩⟩⟩⟩⟩)))))))) (λH=>Wp.of (zdS _ _ _ _) (vB (Wp.of (zeT _ _ _ _) (H)))))))))
def pP(C:fm)(Q:ft)(a0 a1:V)(h:Hp):Prop:=oP (fE a0) λa=>oP (fE a1) λb=>bO .neq 3 a b (Q bF h) (ue C Q a0 a1 nZ h)
theorem Fy{C:fm}(hs:C.start=fN){a0 a1:V}{h:Hp}{Q:ft}(hk:C.K iY [a0,a1] h=none)(H:pP C Q a0 a1 h):cP C iY [a0,a1] h Q:=by
 unfold pP at H;exact g33 hs _ _ hk ((e33 _ _ _ _).mpr (vB (Wp.of (zd9 _ _ _ _) (vB (oM H λb _ H=>vB (oM H λc _ H=>oM H λa _ H=>Wp.of (zez _ _ _ _) (vB (bM H (λH=>vB (Wp.of (zdC _ _ _ _) (H))) (λH=>Wp.of (zd0 _ _ _ _) (vB (Wp.of (zd7 _ _ _ _) (H _ rfl rfl rfl))))))))))))
end
def t60:List (Nat×List Nat):=[(87,[0,1,5])]
def sU(C:fm)(Q:ft):LP:=JV C Tryz.f60 t60 43 [0,1,5] [] Q
def rq(C:fm)(Q:ft)(fM:LP)(b g a:V)(h:Hp):Prop:=oP (fE b) λc=>bO .lss 3 a c (dX 1 b a h λd=>dX 1 g a h λe=>bO .neq 59 d e (Q bF h) (oP (en .add 3 a nO) λf=>fM [b,g,f] h)) (Q bT h)
theorem Be{C Q}(I)(s:S3 I (rq C Q)){k l h}(i:I k l h)(e:l.length=3:=by rfl):sU C Q l h:=JV.l3 I _ s i e
def wH(C:fm)(Q:ft)(a0 a1:V)(h:Hp):Prop:=oP (fE a0) λa=>oP (fE a1) λb=>bO .neq 3 a b (Q bF h) (sU C Q [a0,a1,nZ] h)
theorem D1{C}(s:C.start=fN){a0 a1 h Q}(k:C.K iR [a0,a1] h=none)(H:wH C Q a0 a1 h):cP C iR [a0,a1] h Q:=cP.vd t60 s (by unfold P0;exact Tryz.func60) k H
end
