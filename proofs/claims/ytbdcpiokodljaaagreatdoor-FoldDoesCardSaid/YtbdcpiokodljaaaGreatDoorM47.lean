/- Parts. -/
import Derived.Test.YtbdcpiokodljaaaGreatDoorM35
set_option maxHeartbeats 4000000
namespace Go.Proofs.YtbdcpiokodljaaaGreatDoor.Hx
set_option maxRecDepth 100000
noncomputable section
section
variable (C:fk)(Q:X->gL->Hp->Prop)(ρ:gL)(h:Hp)
def Po:=LS Tryz.f10
def zcu:=Po.r
def zcb:=Po.r.r
def zb6:=Po.r.r.r
def zcz:=Po.r.r.r.r
def zcm:=Po.r.r.r.r.l.r
def zb4:=Po.r.r.r.r.r
def zep:=andThen (Wp C 64 zb4 Q) Q
def zcA:=Po.r.r.r.r.l.r.l.r
def zcn:=Po.r.r.r.r.r.r
def zcf:=Po.r.r.r.r.r.r.r
theorem Nj:j5 C 64 Po Q ρ h=(hH (mn 30 (ρ 0)) h λb c=>
 hH (mn 30 (ρ 1)) c λd e=>
 oP (some (V.bool false)) λa=>
 Wp C 64 zcu Q (fq (fq (fq ρ 6 b) 7 d) 12 a) e):=by kernel_rfl
theorem zek:j5 C 64 zcu Q ρ h=(oP (some (ρ 2)) λa=>
 dcP C iM [a] h λb d=>
 oP (some b) λc=>
 Wp C 64 zcb Q (fq (fq (fq ρ 17 a) 18 b) 13 c) d):=by kernel_rfl
theorem zez:j5 C 64 zcb Q ρ h=(oP (some (ρ 2)) λa=>
 dcP C iM [a] h λb d=>
 oP (some b) λc=>
 Wp C 64 zb6 Q (fq (fq (fq ρ 19 a) 20 b) 14 c) d):=by kernel_rfl
theorem zee:j5 C 64 zb6 Q ρ h=(oP (fX 5 (ρ 6) h) λa=>
 oP (some (ρ 13)) λb=>
 oP (some (ρ 3)) λc=>
 oP (some (ρ 4)) λd=>
 oP (some (ρ 5)) λe=>
 dcP C jJ [a,b,c,d,e] h λf i=>
 hH (some (.cells 84 1 true false [(V.I 0),(V.I 0),(V.I 0),V.ee,(V.I 0)],λl=> .ptr l 0)) i λg j=>
 fg (gJ 5 g f j) λm k=>
 Wp C 64 zcz Q (fq (fq (fq (fq (fq (fq (fq ρ 21 a) 22 b) 23 c) 24 d) 25 e) 26 f) 15 g) k):=by kernel_rfl
theorem zeq:j5 C 64 zcz Q ρ h=(oP (fF 0 (ρ 15)) λa=>
 oP (ez a h) λb=>
 oP (en .neq 3 b (V.I 1)) λc=>
 Wp C 64 zcm (zep C Q) (fq (fq (fq ρ 27 a) 28 b) 29 c) h):=by kernel_rfl
theorem zev:j5 C 64 zb4 Q ρ h=(oP (fX 5 (ρ 7) h) λa=>
 oP (some (ρ 14)) λb=>
 oP (some (ρ 3)) λc=>
 oP (some (ρ 4)) λd=>
 oP (some (ρ 5)) λe=>
 dcP C jJ [a,b,c,d,e] h λf i=>
 hH (some (.cells 84 1 true false [(V.I 0),(V.I 0),(V.I 0),V.ee,(V.I 0)],λl=> .ptr l 0)) i λg j=>
 fg (gJ 5 g f j) λm k=>
 Wp C 64 zcn Q (fq (fq (fq (fq (fq (fq (fq ρ 30 a) 31 b) 32 c) 33 d) 34 e) 35 f) 16 g) k):=by kernel_rfl
theorem zfz:j5 C 64 zcm Q ρ h=(oP (some (ρ 29)) λc=>
 bP c (
 oP (some (V.bool true)) λa=>
 Wp C 64 zcA Q (fq ρ 12 a) h) (
 Q .normal ρ h)):=by kernel_rfl
theorem zen:j5 C 64 zcn Q ρ h=(oP (fF 0 (ρ 16)) λd=>
 oP (ez d h) λe=>
 oP (en .eql 3 e (V.I 1)) λf=>
 oP (some f) λb=>
 oP (fu true b) λY=>
 oP (gV Y (fF 4 (ρ 16))) λg=>
 oP (fu true b) λZ=>
 oP (gV Z (ez g h)) λi=>
 oP (fu true b) λb6=>
 oP (gV b6 (fF 4 (ρ 15))) λj=>
 oP (fu true b) λb7=>
 oP (gV b7 (ez j h)) λk=>
 oP (fu true b) λb8=>
 oP (gV b8 (en .leq 3 i k)) λl=>
 oP (jw b l (V.bool false)) λm=>
 oP (some m) λc=>
 oP (fu true c) λF=>
 oP (gV F (fF 3 (ρ 15))) λn=>
 oP (fu true c) λG=>
 oP (gV G (ez n h)) λx=>
 oP (fu true c) λH=>
 oP (gV H (fF 3 (ρ 16))) λo=>
 oP (fu true c) λI=>
 oP (gV I (ez o h)) λy=>
 ((gT I (ez o h=some y))/\
 ((gT H (fF 3 (ρ 16)=some o))/\
 ((gT G (ez n h=some x))/\
 ((gT F (fF 3 (ρ 15)=some n))/\
 ((some m=some c)/\
 ((jw b l (V.bool false)=some m)/\
 ((gT b8 (en .leq 3 i k=some l))/\
 ((gT b7 (ez j h=some k))/\
 ((gT b6 (fF 4 (ρ 15)=some j))/\
 ((gT Z (ez g h=some i))/\
 ((gT Y (fF 4 (ρ 16)=some g))/\
 ((some f=some b)/\
 ((en .eql 3 e (V.I 1)=some f)/\
 ((ez d h=some e)/\
 ((fF 0 (ρ 16)=some d)/\
 oP (fu true c) λT=>
 oP (gC T (some (jt,[x,y]))) λU=>qN C U h λz A=>
 (h.next<=A.next/\
 oP (jw c z (V.bool false)) λp=>
 oP (some p) λa=>
 oP (fu true a) λJ=>
 oP (gV J (some (ρ 13))) λq=>
 oP (fu true a) λK=>
 oP (gV K (hZ q)) λr=>
 oP (fu true a) λL=>
 oP (gV L (fF 1 r)) λs=>
 oP (fu true a) λM=>
 oP (gV M (ez s A)) λB=>
 oP (fu true a) λN=>
 oP (gV N (some (ρ 14))) λt=>
 oP (fu true a) λO=>
 oP (gV O (hZ t)) λu=>
 oP (fu true a) λP=>
 oP (gV P (fF 1 u)) λv=>
 oP (fu true a) λR=>
 oP (gV R (ez v A)) λD=>
 ((gT R (ez v A=some D))/\
 ((gT P (fF 1 u=some v))/\
 ((gT O (hZ t=some u))/\
 ((gT N (some (ρ 14)=some t))/\
 ((gT M (ez s A=some B))/\
 ((gT L (fF 1 r=some s))/\
 ((gT K (hZ q=some r))/\
 ((gT J (some (ρ 13)=some q))/\
 ((some p=some a)/\
 ((jw c z (V.bool false)=some p)/\
 oP (fu true a) λW=>
 oP (gC W (some (jQ,[B,D]))) λX=>qN C X A λE h2=>
 (A.next<=h2.next/\
 oP (jw a E (V.bool false)) λw=>
 oP (some w) λS=>
 ((some w=some S)/\
 ((jw a E (V.bool false)=some w)/\
 Wp C 64 zcf Q (fq (fq (fq (fq (fq (fq (fq (fq (fq (fq (fq (fq (fq (fq (fq (fq (fq (fq (fq (fq (fq (fq (fq (fq (fq (fq (fq (fq (fq ρ 36 d) 37 e) 38 f) 39 b) 40 g) 41 i) 42 j) 43 k) 44 l) 45 m) 46 c) 47 n) 48 x) 49 o) 50 y) 51 z) 52 p) 53 a) 54 q) 55 r) 56 s) 57 B) 58 t) 59 u) 60 v) 61 D) 62 E) 63 w) 12 S) h2)))))))))))))))))))))))))))))):=by kernel_rfl
theorem zem:j5 C 64 zcf Q ρ h=(Q .ret ρ h):=by kernel_rfl
theorem zea:j5 C 64 zcA Q ρ h=(Q .ret ρ h):=by kernel_rfl
theorem g10{C:fk}(hs:C.start=fG)(a0 a1 a2 a3 a b:V){h:Hp}{Q:fo}(hk:C.K kH [a0,a1,a2,a3,a,b] h=none)(H:j5 C 64 Po (Jb [.tmp 12] Q) (Mq [a0,a1,a2,a3,a,b]) h):cP C kH [a0,a1,a2,a3,a,b] h Q:=
 cP.Z2 hs (show P0.funcs[10]? =some Tryz.f10 by unfold P0;exact Tryz.func10) (by kernel_rfl) (by kernel_rfl) (by kernel_rfl) hk (K7 rfl) (Wp.code _ H)
def rj(C:fk)(Q:fo)(a0 a1 a2 a3 a4 a5:V)(h:Hp):Prop:=hH (mn 30 a0) h λv6 h1=>hH (mn 30 a1) h1 λv7 h2=>cP C iM [a2] h2 λi h3=>cP C iM [a2] h3 λj h4=>oP (fX 5 v6 h4) λm=>cP C jJ [m,i,a3,a4,a5] h4 λn h5=>hH (zC 84 [nZ,nZ,nZ,nS,nZ]) h5 λf h6=>fg (gJ 5 f n h6) λvu l=>oP (fF 0 f) λo=>oP (ez o l) λp=>oP (en .neq 3 p nO) λq=>bP q (Q bT l) (oP (fX 5 v7 l) λr=>cP C jJ [r,j,a3,a4,a5] l λs h8=>hH (zC 84 [nZ,nZ,nZ,nS,nZ]) h8 λg h9=>fg (gJ 5 g s h9) λaj b=>oP (fF 0 g) λt=>oP (ez t b) λu=>oP (en .eql 3 u nO) λd=>oP (fu true d) λb4=>oP (gV b4 (fF 4 g)) λv=>oP (fu true d) λb5=>oP (gV b5 (ez v b)) λw=>oP (fu true d) λb6=>oP (gV b6 (fF 4 f)) λx=>oP (fu true d) λb7=>oP (gV b7 (ez x b)) λy=>oP (jX d (en .leq 3 w y)) λc=>oP (fu true c) λz=>oP (gV z (fF 3 f)) λA=>oP (fu true c) λB=>oP (gV B (ez A b)) λD=>oP (fu true c) λE=>oP (gV E (fF 3 g)) λF=>oP (fu true c) λG=>oP (gV G (ez F b)) λH=>oP (fu true c) λI=>oP (gC I (some (jt,[D,H]))) λJ=>qN C J b λK e=>(b.next<=e.next/\oP (jw c K bF) λa=>oP (fu true a) λL=>oP (gV L (some i)) λM=>oP (fu true a) λN=>oP (gV N (hZ M)) λO=>oP (fu true a) λP=>oP (gV P (fF 1 O)) λR=>oP (fu true a) λS=>oP (gV S (ez R e)) λT=>oP (fu true a) λU=>oP (gV U (some j)) λW=>oP (fu true a) λX=>oP (gV X (hZ W)) λY=>oP (fu true a) λZ=>oP (gV Z (fF 1 Y)) λaa=>oP (fu true a) λab=>oP (gV ab (ez aa e)) λac=>oP (fu true a) λae=>oP (gC ae (some (jQ,[T,ac]))) λag=>qN C ag e λah k=>(e.next<=k.next/\oP (jw a ah bF) λai=>Q ai k)))
theorem Hy{C:fk}(hs:C.start=fG){a0 a1 a2 a3 y z:V}{h:Hp}{Q:fo}(hk:C.K kH [a0,a1,a2,a3,y,z] h=none)(H:rj C Q a0 a1 a2 a3 y z h):cP C kH [a0,a1,a2,a3,y,z] h Q:=by
 unfold rj at H;exact g10 hs _ _ _ _ _ _ hk ((Nj _ _ _ _).mpr (alM H λv6 h1 H=>alM H λv7 h2 H=>vP (Wp.of (zek _ _ _ _) (vP (dcM H λD h3 H=>vP (Wp.of (zez _ _ _ _) (vP (dcM H λE h4 H=>vP (Wp.of (zee _ _ _ _) (oM H λF _ H=>vP (vP (vP (vP (dcM H λG h5 H=>alM H λI h6 H=>zcV H λvu h7 H=>Wp.of (zeq _ _ _ _) (oM H λJ _ H=>oM H λL _ H=>oM H λM _ H=>Wp.of (zfz _ _ _ _) (vP (bM H (λH=>vP (Wp.of (zea _ _ _ _) (H))) (λH=>Wp.of (zev _ _ _ _) (oM H λN _ H=>vP (vP (vP (vP (dcM H λO h8 H=>alM H λP h9 H=>zcV H λA R H=>Wp.of (zen _ _ _ _) (oM H λS a H=>oM H λT b H=>oM H λU c H=>vP (oM H λb4 _ H=>oM H λW d H=>oM H λb5 _ H=>oM H λX e H=>oM H λb6 _ H=>oM H λY f H=>oM H λb7 _ H=>oM H λZ g H=>thn (N3 H) λH=>oM H λb8 B H=>oM H λaa i H=>oM H λab j H=>vP (oM H λac _ H=>oM H λae k H=>oM H λag _ H=>oM H λah l H=>oM H λai _ H=>oM H λaj m H=>oM H λak _ H=>oM H λal n H=>⟨(ig n),⟨(ig m),⟨(ig l),⟨(ig k),⟨rfl,⟨j,⟨(ig i),⟨(ig g),⟨(ig f),⟨(ig e),⟨(ig d),⟨rfl,⟨c,⟨b,⟨a,oM H λam _ H=>oM H λan _ H=>cgM H λao ap H=>anM H λH=>oM H λaq o H=>vP (oM H λar _ H=>oM H λau p H=>oM H λaw _ H=>oM H λax q H=>oM H λay _ H=>oM H λaA r H=>oM H λaB _ H=>oM H λaC s H=>oM H λaD _ H=>oM H λaE t H=>oM H λaF _ H=>oM H λaG u H=>oM H λaH _ H=>oM H λaI v H=>oM H λaJ _ H=>oM H λaK w H=>⟨(ig w),⟨(ig v),⟨(ig u),⟨(ig t),⟨(ig s),⟨(ig r),⟨(ig q),⟨(ig p),⟨rfl,⟨o,oM H λaL _ H=>oM H λaM _ H=>cgM H λaN aO H=>anM H λH=>oM H λaP x H=>vP (⟨rfl,⟨x,Wp.of (zem _ _ _ _) (H)⟩⟩)⟩⟩⟩⟩⟩⟩⟩⟩⟩⟩)⟩⟩⟩⟩⟩⟩⟩⟩⟩⟩⟩⟩⟩⟩⟩))))))))))))))))))))))))))
end
def t41:List (Nat×List Nat):=[(87,[0,1,5])]
def qe(C:fk)(Q:fo):LP:=JV C Tryz.f41 t41 43 [0,1,5] [] Q
def qn(C:fk)(Q:fo)(fN:LP)(b l a:V)(h:Hp):Prop:=oP (fD b) λc=>oP (en .lss 3 a c) λd=>bP d (oP (gG 1 b a) λe=>oP (ez e h) λf=>oP (gG 1 l a) λg=>oP (ez g h) λi=>oP (en .neq 60 f i) λj=>bP j (Q bF h) (oP (en .add 3 a nO) λk=>fN [b,l,k] h)) (Q bT h)
theorem zU{C Q}(I)(s:S3 I (qn C Q)){k l h}(i:I k l h)(e:l.length=3:=by rfl):qe C Q l h:=JV.l3 I _ s i e
def sP(C:fk)(Q:fo)(a0 a1:V)(h:Hp):Prop:=oP (fD a0) λb=>oP (fD a1) λc=>oP (en .neq 3 b c) λa=>bP a (Q bF h) (qe C Q [a0,a1,nZ] h)
theorem BR{C}(s:C.start=fG){a0 a1 h Q}(k:C.K jQ [a0,a1] h=none)(H:sP C Q a0 a1 h):cP C jQ [a0,a1] h Q:=cP.vd t41 s (by unfold P0;exact Tryz.func41) k H
def t38:List (Nat×List Nat):=[]
def tZ(C:fk)(Q:fo)(a0:V)(h:Hp):Prop:=oP (hZ a0) λm=>oP (fF 0 m) λc=>oP (ez c h) λd=>yU (jK 60 1 0 (V.int .u64 0) []) h λe n b=>dN 1 a0 b λf=>((b.get (h.next)=some e/\O.beq e e=true)/\((ez c b=some d)/\fg (eR 60 1 8 n f b) λg i=>(b.next<=i.next/\oP (fW [nZ,nS] [(0,1),(1,1)] [(0,d),(1,g)]) λj=>yU (mn 89 j) i λa k l=>((l.get (i.next)=some a/\O.beq a a=true)/\((ez c l=some d)/\Q k l)))))
theorem B0{C}(s:C.start=fG){a0 h Q}(k:C.K iM [a0] h=none)(H:tZ C Q a0 h):cP C iM [a0] h Q:=cP.vd t38 s (by unfold P0;exact Tryz.func38) k H
def t42:List (Nat×List Nat):=[]
def wk(C:fk)(Q:fo)(a0:V)(h:Hp):Prop:=hH (jK 60 1 1 (V.int .u64 0) [(0,(V.int .u64 0))]) h λa b=>oP (fW [nZ,nS] [(0,1),(1,1)] [(0,a0),(1,a)]) λc=>hH (mn 89 c) b λd e=>Q d e
theorem Ew{C}(s:C.start=fG){a0 h Q}(k:C.K mF [a0] h=none)(H:wk C Q a0 h):cP C mF [a0] h Q:=cP.vd t42 s (by unfold P0;exact Tryz.func42) k H
def t43:List (Nat×List Nat):=[(351,[0,2,8,9])]
def pV(C:fk)(Q:fo):LP:=JV C Tryz.f43 t43 175 [0,2,8,9] [] Q
def pW(C:fk)(Q:fo)(fN:LP)(a i j k:V)(h:Hp):Prop:=bO .lss 3 k i (dN 1 a h λb=>hH (jK 60 1 1 (V.int .u64 0) [(0,(V.int .u64 0))]) h λc l=>fg (eR 60 1 8 b c l) λd m=>oP (hZ a) λe=>oP (fF 1 e) λf=>fg (gJ 1 f d m) λo n=>oP (en .add 3 k nO) λg=>fN [a,i,j,g] n) (Q (V.tuple [j,bT]) h)
theorem zv{C Q}(I)(s:S4 I (pW C Q)){k l h}(i:I k l h)(e:l.length=4:=by rfl):pV C Q l h:=JV.l4 I _ s i e
def rH(C:fk)(Q:fo)(a0 a1 a2:V)(h:Hp):Prop:=oP (en .lss 3 a1 nZ) λa=>oP (nt a (oB (some a1) λb=>en .gtr 3 b (V.I 1048576))) λc=>oP (nt c (oB (some a2) λd=>en .lss 3 d nZ)) λe=>oP (nt e (oB (some a2) λf=>en .gtr 3 f (V.I 1048576))) λg=>oP (nt g (oB (some a2) λi=>oB (en .add 3 i nO) λj=>oB (some a0) λk=>oB (hZ k) λl=>oB (fF 0 l) λm=>oB (ez m h) λn=>oB (some a0) λo=>oB (hZ o) λp=>oB (fF 1 p) λq=>oB (ez q h) λr=>oB (fD r) λs=>oB (en .sub 3 n s) λt=>en .gtr 3 j t)) λu=>bP u (Q (V.tuple [(V.int .u64 0),bF]) h) (oP (hZ a0) λv=>dG 1 v h λw=>oP (pN .u64 w) λx=>dN 1 a0 h λy=>oP (pN .u64 a1) λz=>oP (en .shl 60 z (V.int .u64 32)) λA=>oP (pN .u64 a2) λB=>oP (en .add 60 A B) λD=>hH (jK 60 1 1 (V.int .u64 0) [(0,D)]) h λE I=>fg (eR 60 1 8 y E I) λF J=>oP (hZ a0) λG=>oP (fF 1 G) λH=>fg (gJ 1 H F J) λL K=>pV C Q [a0,a2,x,nZ] K)
theorem Bq{C}(s:C.start=fG){a0 a1 a2 h Q}(k:C.K kN [a0,a1,a2] h=none)(H:rH C Q a0 a1 a2 h):cP C kN [a0,a1,a2] h Q:=cP.vd t43 s (by unfold P0;exact Tryz.func43) k H
def t44:List (Nat×List Nat):=[]
def uz(C:fk)(Q:fo)(a0 a1 a2 a3:V)(h:Hp):Prop:=oP (en .eql 60 a1 (V.int .u64 0)) λb=>oP (nt b (oB (some a2) λc=>en .lss 3 c nZ)) λa=>oP (fu false a) λq=>oP (gV q (some a2)) λd=>oP (fu false a) λr=>oP (gV r (some a0)) λe=>oP (fu false a) λs=>oP (gV s (some a1)) λf=>oP (fu false a) λg=>oP (gC g (some (ka,[e,f]))) λi=>qN C i h λj p=>oP (nt a (en .geq 3 d j)) λk=>bP k (Q bF p) (oP (en .add 60 a1 (V.int .u64 1)) λl=>oP (pN .u64 a2) λm=>oP (en .add 60 l m) λn=>cP C jm [a0,n,a3] p λo t=>Q o t)
theorem CZ{C}(s:C.start=fG){a0 a1 a2 a3 h Q}(k:C.K mg [a0,a1,a2,a3] h=none)(H:uz C Q a0 a1 a2 a3 h):cP C mg [a0,a1,a2,a3] h Q:=cP.vd t44 s (by unfold P0;exact Tryz.func44) k H
def t67:List (Nat×List Nat):=[]
def th(C:fk)(Q:fo)(a0 a1:V)(h:Hp):Prop:=cP C iO [a0,a1] h λa b=>oP (en .shr 60 a (V.int .u64 32)) λc=>oP (pN .i64 c) λd=>Q d b
theorem BQ{C}(s:C.start=fG){a0 a1 h Q}(k:C.K lF [a0,a1] h=none)(H:th C Q a0 a1 h):cP C lF [a0,a1] h Q:=cP.vd t67 s (by unfold P0;exact Tryz.func67) k H
def t68:List (Nat×List Nat):=[]
def uy(C:fk)(Q:fo)(a0 a1:V)(h:Hp):Prop:=cP C iO [a0,a1] h λa b=>oP (en .rem 60 a (V.int .u64 4294967296)) λc=>oP (pN .i64 c) λd=>Q d b
theorem CR{C}(s:C.start=fG){a0 a1 h Q}(k:C.K ka [a0,a1] h=none)(H:uy C Q a0 a1 h):cP C ka [a0,a1] h Q:=cP.vd t68 s (by unfold P0;exact Tryz.func68) k H
def t69:List (Nat×List Nat):=[]
def sR(C:fk)(Q:fo)(a0 a1:V)(h:Hp):Prop:=oP (hZ a0) λe=>dG 1 e h λa=>oP (pN .u64 a) λb=>bO .geq 60 a1 b (Q (V.int .u64 0) h) (dN 1 a0 h λc=>dX 1 c a1 h λd=>Q d h)
theorem B8{C}(s:C.start=fG){a0 a1 h Q}(k:C.K iO [a0,a1] h=none)(H:sR C Q a0 a1 h):cP C iO [a0,a1] h Q:=cP.vd t69 s (by unfold P0;exact Tryz.func69) k H
def t70:List (Nat×List Nat):=[]
def uh(C:fk)(Q:fo)(a0 a1 a2:V)(h:Hp):Prop:=oP (en .eql 60 a1 (V.int .u64 0)) λl=>oP (nt l (oB (some a1) λa=>oB (some a0) λb=>oB (hZ b) λc=>oB (fF 1 c) λd=>oB (ez d h) λe=>oB (fD e) λf=>oB (pN .u64 f) λg=>en .geq 60 a g)) λi=>bP i (Q bF h) (dN 1 a0 h λj=>oP (gG 1 j a1) λk=>fg (gJ 1 k a2 h) λn m=>Q bT m)
theorem CP{C}(s:C.start=fG){a0 a1 a2 h Q}(k:C.K jm [a0,a1,a2] h=none)(H:uh C Q a0 a1 a2 h):cP C jm [a0,a1,a2] h Q:=cP.vd t70 s (by unfold P0;exact Tryz.func70) k H
section
variable (C:fk)(Q:X->gL->Hp->Prop)(ρ:gL)(h:Hp)
def RZ:=LS Tryz.f40
def zcp:=RZ.r
def zb7:=RZ.r.l.r
def zb5:=RZ.r.r
def zfL:=andThen (Wp C 69 zb5 Q) Q
def zcS:=RZ.r.l.r.l.r
def zcD:=RZ.r.r.l.r
def zct:=RZ.r.r.r
def zcT:=andThen (Wp C 69 zct Q) Q
def zac:=RZ.r.r.l.r.l.l
def zeb(C:fk)(Q:XQ):XQ:=w7 0 Q
def zch:=RZ.r.r.r.r
def zcl:=RZ.r.r.l.r.l.l.l.r
def zcK:=RZ.r.r.l.r.l.l.r
def zeV:=andThen (Wp C 69 zcK Q) Q
def zcQ:=RZ.r.r.l.r.l.l.r.l.l.r
def YA:=RZ.r.r.l.r.l.l.r.r
def zfx:=andThen (Wp C 69 YA Q) Q
def zfB:=w7 1 (zfx C Q)
def zaj:=RZ.r.r.l.r.l.l.r.l.l.r.l.r
def ze6:=w7 0 (zcT C Q)
theorem e40:j5 C 69 RZ Q ρ h=(oP (some (V.bool false)) λa=>
 Wp C 69 zcp Q (fq ρ 4 a) h):=by kernel_rfl
theorem zeo:j5 C 69 zcp Q ρ h=(oP (some (ρ 0)) λb=>
 oP (fD b) λc=>
 oP (some (ρ 1)) λd=>
 oP (fD d) λe=>
 oP (en .neq 3 c e) λa=>
 Wp C 69 zb7 (zfL C Q) (fq (fq (fq (fq (fq ρ 6 b) 7 c) 8 d) 9 e) 10 a) h):=by kernel_rfl
theorem zeK:j5 C 69 zb5 Q ρ h=(oP (some (V.I 0)) λa=>
 Wp C 69 zcD (zcT C Q) (fq ρ 5 a) h):=by kernel_rfl
theorem zfe:j5 C 69 zb7 Q ρ h=(oP (some (ρ 10)) λc=>
 bP c (
 oP (some (V.bool false)) λa=>
 Wp C 69 zcS Q (fq ρ 4 a) h) (
 Q .normal ρ h)):=by kernel_rfl
theorem ze3:j5 C 69 zct Q ρ h=(oP (some (V.bool true)) λa=>
 Wp C 69 zch Q (fq ρ 4 a) h):=by kernel_rfl
theorem zfl:j5 C 69 zcD Q ρ h=(Wp C 69 (.loop zac) (zeb C Q) ρ h):=by kernel_rfl
theorem zfr:j5 C 69 zch Q ρ h=(Q .ret ρ h):=by kernel_rfl
theorem zeL:j5 C 69 zcS Q ρ h=(Q .ret ρ h):=by kernel_rfl
theorem zfh:j5 C 69 zac Q ρ h=(oP (some (ρ 5)) λa=>
 oP (some (ρ 0)) λb=>
 oP (fD b) λc=>
 oP (en .lss 3 a c) λd=>
 Wp C 69 zcl (zeV C Q) (fq (fq (fq (fq ρ 11 a) 12 b) 13 c) 14 d) h):=by kernel_rfl
theorem zeC:j5 C 69 zcK Q ρ h=(oP (some (ρ 0)) λd=>
 oP (some (ρ 5)) λe=>
 oP (gG 4 d e) λf=>
 oP (fF 0 f) λg=>
 oP (ez g h) λi=>
 oP (some (ρ 1)) λj=>
 oP (some (ρ 5)) λk=>
 oP (gG 4 j k) λl=>
 oP (fF 0 l) λm=>
 oP (ez m h) λn=>
 oP (en .neq 3 i n) λo=>
 oP (some o) λc=>
 oP (fu false c) λae=>
 oP (gV ae (some (ρ 0))) λp=>
 oP (fu false c) λag=>
 oP (gV ag (some (ρ 5))) λq=>
 oP (fu false c) λah=>
 oP (gV ah (gG 4 p q)) λr=>
 oP (fu false c) λai=>
 oP (gV ai (fF 1 r)) λs=>
 oP (fu false c) λaj=>
 oP (gV aj (ez s h)) λt=>
 oP (fu false c) λak=>
 oP (gV ak (some (ρ 1))) λu=>
 oP (fu false c) λal=>
 oP (gV al (some (ρ 5))) λv=>
 oP (fu false c) λam=>
 oP (gV am (gG 4 u v)) λw=>
 oP (fu false c) λan=>
 oP (gV an (fF 1 w)) λx=>
 oP (fu false c) λao=>
 oP (gV ao (ez x h)) λy=>
 oP (fu false c) λap=>
 oP (gV ap (en .neq 3 t y)) λz=>
 oP (jw c (V.bool true) z) λA=>
 oP (some A) λa=>
 oP (fu false a) λaq=>
 oP (gV aq (some (ρ 0))) λB=>
 oP (fu false a) λar=>
 oP (gV ar (some (ρ 5))) λD=>
 oP (fu false a) λau=>
 oP (gV au (gG 4 B D)) λE=>
 oP (fu false a) λaw=>
 oP (gV aw (fF 2 E)) λF=>
 oP (fu false a) λax=>
 oP (gV ax (ez F h)) λX=>
 oP (fu false a) λay=>
 oP (gV ay (some (ρ 1))) λG=>
 oP (fu false a) λaA=>
 oP (gV aA (some (ρ 5))) λH=>
 oP (fu false a) λaB=>
 oP (gV aB (gG 4 G H)) λI=>
 oP (fu false a) λaC=>
 oP (gV aC (fF 2 I)) λJ=>
 oP (fu false a) λaD=>
 oP (gV aD (ez J h)) λY=>
 ((gT aD (ez J h=some Y))/\
 ((gT aC (fF 2 I=some J))/\
 ((gT aB (gG 4 G H=some I))/\
 ((gT aA (some (ρ 5)=some H))/\
 ((gT ay (some (ρ 1)=some G))/\
 ((gT ax (ez F h=some X))/\
 ((gT aw (fF 2 E=some F))/\
 ((gT au (gG 4 B D=some E))/\
 ((gT ar (some (ρ 5)=some D))/\
 ((gT aq (some (ρ 0)=some B))/\
 ((some A=some a)/\
 ((jw c (V.bool true) z=some A)/\
 ((gT ap (en .neq 3 t y=some z))/\
 ((gT ao (ez x h=some y))/\
 ((gT an (fF 1 w=some x))/\
 ((gT am (gG 4 u v=some w))/\
 ((gT al (some (ρ 5)=some v))/\
 ((gT ak (some (ρ 1)=some u))/\
 ((gT aj (ez s h=some t))/\
 ((gT ai (fF 1 r=some s))/\
 ((gT ah (gG 4 p q=some r))/\
 ((gT ag (some (ρ 5)=some q))/\
 ((gT ae (some (ρ 0)=some p))/\
 ((some o=some c)/\
 ((en .neq 3 i n=some o)/\
 ((ez m h=some n)/\
 ((fF 0 l=some m)/\
 ((gG 4 j k=some l)/\
 ((some (ρ 5)=some k)/\
 ((some (ρ 1)=some j)/\
 ((ez g h=some i)/\
 ((fF 0 f=some g)/\
 ((gG 4 d e=some f)/\
 ((some (ρ 5)=some e)/\
 ((some (ρ 0)=some d)/\
 oP (fu false a) λaR=>
 oP (gC aR (some (ji,[X,Y]))) λaS=>qN C aS h λZ h1=>
 (h.next<=h1.next/\
 oP (fu false a) λaE=>
 oP (gV aE (pA .not Z)) λK=>
 oP (jw a (V.bool true) K) λL=>
 oP (some L) λb=>
 oP (fu false b) λaF=>
 oP (gV aF (some (ρ 0))) λM=>
 oP (fu false b) λaG=>
 oP (gV aG (some (ρ 5))) λN=>
 oP (fu false b) λaH=>
 oP (gV aH (gG 4 M N)) λO=>
 oP (fu false b) λaI=>
 oP (gV aI (fF 3 O)) λP=>
 oP (fu false b) λaJ=>
 oP (gV aJ (ez P h1)) λaa=>
 oP (fu false b) λaK=>
 oP (gV aK (some (ρ 1))) λR=>
 oP (fu false b) λaL=>
 oP (gV aL (some (ρ 5))) λS=>
 oP (fu false b) λaM=>
 oP (gV aM (gG 4 R S)) λT=>
 oP (fu false b) λaN=>
 oP (gV aN (fF 3 T)) λU=>
 oP (fu false b) λaO=>
 oP (gV aO (ez U h1)) λab=>
 ((gT aO (ez U h1=some ab))/\
 ((gT aN (fF 3 T=some U))/\
 ((gT aM (gG 4 R S=some T))/\
 ((gT aL (some (ρ 5)=some S))/\
 ((gT aK (some (ρ 1)=some R))/\
 ((gT aJ (ez P h1=some aa))/\
 ((gT aI (fF 3 O=some P))/\
 ((gT aH (gG 4 M N=some O))/\
 ((gT aG (some (ρ 5)=some N))/\
 ((gT aF (some (ρ 0)=some M))/\
 ((some L=some b)/\
 ((jw a (V.bool true) K=some L)/\
 ((gT aE (pA .not Z=some K))/\
 oP (fu false b) λaT=>
 oP (gC aT (some (ji,[aa,ab]))) λaU=>qN C aU h1 λac h2=>
 (h1.next<=h2.next/\
 oP (fu false b) λaP=>
 oP (gV aP (pA .not ac)) λW=>
 oP (jw b (V.bool true) W) λaQ=>
 ((jw b (V.bool true) W=some aQ)/\
 ((gT aP (pA .not ac=some W))/\
 Wp C 69 zcQ (zfB C Q) (fq (fq (fq (fq (fq (fq (fq (fq (fq (fq (fq (fq (fq (fq (fq (fq (fq (fq (fq (fq (fq (fq (fq (fq (fq (fq (fq (fq (fq (fq (fq (fq (fq (fq (fq (fq (fq (fq (fq (fq (fq (fq (fq (fq (fq (fq (fq (fq (fq (fq (fq (fq ρ 17 d) 18 e) 19 f) 20 g) 21 i) 22 j) 23 k) 24 l) 25 m) 26 n) 27 o) 28 c) 29 p) 30 q) 31 r) 32 s) 33 t) 34 u) 35 v) 36 w) 37 x) 38 y) 39 z) 40 A) 41 a) 42 B) 43 D) 44 E) 45 F) 46 X) 47 G) 48 H) 49 I) 50 J) 51 Y) 52 Z) 53 K) 54 L) 55 b) 56 M) 57 N) 58 O) 59 P) 60 aa) 61 R) 62 S) 63 T) 64 U) 65 ab) 66 ac) 67 W) 68 aQ) h2))))))))))))))))))))))))))))))))))))))))))))))))))))):=by kernel_rfl
theorem zet:j5 C 69 zcl Q ρ h=(oP (some (ρ 14)) λc=>
 bP c (
 Q .normal ρ h) (
 Q (.exit 0) ρ h)):=by kernel_rfl
theorem zdV:j5 C 69 YA Q ρ h=(oP (some (ρ 5)) λa=>
 oP (en .add 3 a (V.I 1)) λb=>
 oP (some b) λc=>
 Q .normal (fq (fq (fq ρ 15 a) 16 b) 5 c) h):=by kernel_rfl
theorem zfD:j5 C 69 zcQ Q ρ h=(oP (some (ρ 68)) λc=>
 bP c (
 oP (some (V.bool false)) λa=>
 Wp C 69 zaj Q (fq ρ 4 a) h) (
 Q .normal ρ h)):=by kernel_rfl
theorem zdA:j5 C 69 zaj Q ρ h=(Q .ret ρ h):=by kernel_rfl
theorem g40{C:fk}(hs:C.start=fG)(a0 a1:V){h:Hp}{Q:fo}(hk:C.K jt [a0,a1] h=none)(H:j5 C 69 RZ (Jb [.tmp 4] Q) (Mq [a0,a1]) h):cP C jt [a0,a1] h Q:=
 cP.Z2 hs (show P0.funcs[40]? =some Tryz.f40 by unfold P0;exact Tryz.func40) (by kernel_rfl) (by kernel_rfl) (by kernel_rfl) hk (K7 rfl) (Wp.code _ H)
def uT(C:fk)(Q:fo)(a b c:V)(h:Hp):Prop:=∀ρ:gL,ρ 0=a->ρ 1=b->ρ 5=c->Wp C 69 (.loop zac) (ze6 C (Jb [.tmp 4] Q)) ρ h
def po(C:fk)(Q:fo)(fN:SJ)(e f d:V)(h:Hp):Prop:=oP (fD e) λi=>bO .lss 3 d i (dI 4 e d 0 h λj=>dI 4 f d 0 h λk=>oP (en .neq 3 j k) λc=>oP (fu false c) λl=>oP (gV l (some e)) λm=>oP (fu false c) λn=>oP (gV n (some d)) λo=>oP (fu false c) λp=>oP (gV p (gG 4 m o)) λq=>oP (fu false c) λr=>oP (gV r (fF 1 q)) λs=>oP (fu false c) λt=>oP (gV t (ez s h)) λu=>oP (fu false c) λv=>oP (gV v (some f)) λw=>oP (fu false c) λx=>oP (gV x (some d)) λy=>oP (fu false c) λz=>oP (gV z (gG 4 w y)) λA=>oP (fu false c) λB=>oP (gV B (fF 1 A)) λD=>oP (fu false c) λE=>oP (gV E (ez D h)) λF=>oP (nt c (en .neq 3 u F)) λa=>oP (fu false a) λG=>oP (gV G (some e)) λH=>oP (fu false a) λI=>oP (gV I (some d)) λJ=>oP (fu false a) λK=>oP (gV K (gG 4 H J)) λL=>oP (fu false a) λM=>oP (gV M (fF 2 L)) λN=>oP (fu false a) λO=>oP (gV O (ez N h)) λP=>oP (fu false a) λR=>oP (gV R (some f)) λS=>oP (fu false a) λT=>oP (gV T (some d)) λU=>oP (fu false a) λW=>oP (gV W (gG 4 S U)) λX=>oP (fu false a) λY=>oP (gV Y (fF 2 X)) λZ=>oP (fu false a) λaa=>oP (gV aa (ez Z h)) λab=>oP (fu false a) λac=>oP (gC ac (some (ji,[P,ab]))) λae=>qN C ae h λag g=>(h.next<=g.next/\oP (nt a (pA .not ag)) λb=>oP (fu false b) λah=>oP (gV ah (some e)) λai=>oP (fu false b) λaj=>oP (gV aj (some d)) λak=>oP (fu false b) λal=>oP (gV al (gG 4 ai ak)) λam=>oP (fu false b) λan=>oP (gV an (fF 3 am)) λao=>oP (fu false b) λap=>oP (gV ap (ez ao g)) λaq=>oP (fu false b) λar=>oP (gV ar (some f)) λau=>oP (fu false b) λaw=>oP (gV aw (some d)) λax=>oP (fu false b) λay=>oP (gV ay (gG 4 au ax)) λaA=>oP (fu false b) λaB=>oP (gV aB (fF 3 aA)) λaC=>oP (fu false b) λaD=>oP (gV aD (ez aC g)) λaE=>oP (fu false b) λaF=>oP (gC aF (some (ji,[aq,aE]))) λaG=>qN C aG g λaH h2=>(g.next<=h2.next/\oP (nt b (pA .not aH)) λaI=>bP aI (Q bF h2) (oP (en .add 3 d nO) λaJ=>fN e f aJ h2)))) (Q bT h)
theorem CO{C:fk}{Q:fo}(I:Nat->SJ)(step:∀(k:Nat)(a b c:V)(h:Hp),I k a b c h->po C Q (λa b c h=>∃k',k' < k/\I k' a b c h) a b c h){k:Nat}{a b c:V}{h:Hp}(h0:I k a b c h):uT C Q a b c h:=by
 intro ρ e0 e1 e5;subst e0;subst e1;subst e5;refine Wp.zca (λk ρ h=>I k (ρ 0) (ρ 1) (ρ 5) h) (λk ρ h hi=>?_) h0;have H:=step k (ρ 0) (ρ 1) (ρ 5) h hi;unfold po at H;exact Wp.of (zfh _ _ _ _) (vP (vP (oM H λag _ H=>oM H λah _ H=>Wp.of (zet _ _ _ _) (vP (bM H (λH=>Wp.of (zeC _ _ _ _) (vP (vP (oM H λai d H=>oM H λaj e H=>oM H λak f H=>vP (vP (oM H λal g H=>oM H λam i H=>oM H λan j H=>oM H λao l H=>vP (oM H λap _ H=>oM H λaq m H=>oM H λar _ H=>oM H λau n H=>oM H λaw _ H=>oM H λax o H=>oM H λay _ H=>oM H λaA p H=>oM H λaB _ H=>oM H λaC q H=>oM H λaD _ H=>oM H λaE r H=>oM H λaF _ H=>oM H λaG s H=>oM H λaH _ H=>oM H λaI t H=>oM H λaJ _ H=>oM H λaK u H=>oM H λaL _ H=>oM H λaM v H=>thn (KW H) λH=>oM H λaN ab H=>oM H λaO w H=>oM H λaP x H=>vP (oM H λaQ _ H=>oM H λaR y H=>oM H λaS _ H=>oM H λaT z H=>oM H λaU _ H=>oM H λaV A H=>oM H λaW _ H=>oM H λaX B H=>oM H λaY _ H=>oM H λaZ D H=>oM H λa4 _ H=>oM H λa5 E H=>oM H λa6 _ H=>oM H λa7 F H=>oM H λa8 _ H=>oM H λa9 G H=>oM H λba _ H=>oM H λbb J H=>oM H λbc _ H=>oM H λbd K H=>⟨(ig K),⟨(ig J),⟨(ig G),⟨(ig F),⟨(ig E),⟨(ig D),⟨(ig B),⟨(ig A),⟨(ig z),⟨(ig y),⟨rfl,⟨x,⟨(ig w),⟨(ig v),⟨(ig u),⟨(ig t),⟨(ig s),⟨(ig r),⟨(ig q),⟨(ig p),⟨(ig o),⟨(ig n),⟨(ig m),⟨rfl,⟨l,⟨j,⟨i,⟨g,⟨rfl,⟨rfl,⟨f,⟨e,⟨d,⟨rfl,⟨rfl,oM H λbe _ H=>oM H λbf _ H=>cgM H λbg h1 H=>anM H λH=>thn (KW H) λH=>oM H λbh ac H=>oM H λbi L H=>oM H λbj M H=>vP (oM H λbm _ H=>oM H λbo N H=>oM H λbr _ H=>oM H λbt O H=>oM H λbu _ H=>oM H λbw P H=>oM H λbx _ H=>oM H λbz R H=>oM H λbA _ H=>oM H λbC S H=>oM H λbD _ H=>oM H λbE T H=>oM H λbG _ H=>oM H λbH U H=>oM H λbI _ H=>oM H λbJ W H=>oM H λbK _ H=>oM H λbL X H=>oM H λbQ _ H=>oM H λbR Y H=>⟨(ig Y),⟨(ig X),⟨(ig W),⟨(ig U),⟨(ig T),⟨(ig S),⟨(ig R),⟨(ig P),⟨(ig O),⟨(ig N),⟨rfl,⟨M,⟨(ig L),oM H λbS _ H=>oM H λbU _ H=>cgM H λbV h2 H=>anM H λH=>thn (KW H) λH=>oM H λbW ae H=>oM H λbX Z H=>oM H λbY aa H=>⟨aa,⟨(ig Z),Wp.of (zfD _ _ _ _) (vP (bM H (λH=>vP (Wp.of (zdA _ _ _ _) (H))) (λH=>Wp.of (zdV _ _ _ _) (vP (oM H λbZ _ H=>vP (H))))))⟩⟩⟩⟩⟩⟩⟩⟩⟩⟩⟩⟩⟩⟩⟩)⟩⟩⟩⟩⟩⟩⟩⟩⟩⟩⟩⟩⟩⟩⟩⟩⟩⟩⟩⟩⟩⟩⟩⟩⟩⟩⟩⟩⟩⟩⟩⟩⟩⟩⟩)))))))) (λH=>Wp.of (ze3 _ _ _ _) (vP (Wp.of (zfr _ _ _ _) (H)))))))))
def qt(C:fk)(Q:fo)(a0 a1:V)(h:Hp):Prop:=oP (fD a0) λa=>oP (fD a1) λb=>bO .neq 3 a b (Q bF h) (uT C Q a0 a1 nZ h)
theorem GA{C:fk}(hs:C.start=fG){a0 a1:V}{h:Hp}{Q:fo}(hk:C.K jt [a0,a1] h=none)(H:qt C Q a0 a1 h):cP C jt [a0,a1] h Q:=by
 unfold qt at H;exact g40 hs _ _ hk ((e40 _ _ _ _).mpr (vP (Wp.of (zeo _ _ _ _) (vP (oM H λb _ H=>vP (oM H λc _ H=>oM H λa _ H=>Wp.of (zfe _ _ _ _) (vP (bM H (λH=>vP (Wp.of (zeL _ _ _ _) (H))) (λH=>Wp.of (zeK _ _ _ _) (vP (Wp.of (zfl _ _ _ _) (H _ rfl rfl rfl))))))))))))
end
def t73:List (Nat×List Nat):=[(87,[0,1,5])]
def tp(C:fk)(Q:fo):LP:=JV C Tryz.f73 t73 43 [0,1,5] [] Q
def tX(C:fk)(Q:fo)(fN:LP)(b g a:V)(h:Hp):Prop:=oP (fD b) λc=>bO .lss 3 a c (dX 1 b a h λd=>dX 1 g a h λe=>bO .neq 60 d e (Q bF h) (oP (en .add 3 a nO) λf=>fN [b,g,f] h)) (Q bT h)
theorem BJ{C Q}(I)(s:S3 I (tX C Q)){k l h}(i:I k l h)(e:l.length=3:=by rfl):tp C Q l h:=JV.l3 I _ s i e
def xm(C:fk)(Q:fo)(a0 a1:V)(h:Hp):Prop:=oP (fD a0) λa=>oP (fD a1) λb=>bO .neq 3 a b (Q bF h) (tp C Q [a0,a1,nZ] h)
theorem E0{C}(s:C.start=fG){a0 a1 h Q}(k:C.K ji [a0,a1] h=none)(H:xm C Q a0 a1 h):cP C ji [a0,a1] h Q:=cP.vd t73 s (by unfold P0;exact Tryz.func73) k H
end
