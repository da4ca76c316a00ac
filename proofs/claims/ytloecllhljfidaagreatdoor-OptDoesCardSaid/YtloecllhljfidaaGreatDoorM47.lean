/- Parts. -/
import Derived.Test.YtloecllhljfidaaGreatDoorM35
set_option maxHeartbeats 4000000
namespace Go.Proofs.YtloecllhljfidaaGreatDoor.Hx
set_option maxRecDepth 100000
noncomputable section
section
variable (C:kW)(Q:X->iE->Hp->Prop)(ρ:iE)(h:Hp)
def UB:=JP Tryz.f11
def zc2:=UB.r
def zc0:=UB.r.r
def zcV:=UB.r.r.r
def zc4:=UB.r.r.r.r
def zdd:=UB.r.r.r.r.l.r
def zcU:=UB.r.r.r.r.r
def zfB:=andThen (Wp C 64 zcU Q) Q
def zcX:=UB.r.r.r.r.l.r.l.r
def zcB:=UB.r.r.r.r.r.r
def zcC:=UB.r.r.r.r.r.r.r
theorem Yr:jB C 64 UB Q ρ h=(gS (mi 30 (ρ 0)) h λb c=>
 gS (mi 30 (ρ 1)) c λd e=>
 oP (some (V.bool false)) λa=>
 Wp C 64 zc2 Q (fx (fx (fx ρ 6 b) 7 d) 12 a) e):=by kernel_rfl
theorem zf2:jB C 64 zc2 Q ρ h=(oP (some (ρ 2)) λa=>
 dcP C iR [a] h λb d=>
 oP (some b) λc=>
 Wp C 64 zc0 Q (fx (fx (fx ρ 17 a) 18 b) 13 c) d):=by kernel_rfl
theorem zeJ:jB C 64 zc0 Q ρ h=(oP (some (ρ 2)) λa=>
 dcP C iR [a] h λb d=>
 oP (some b) λc=>
 Wp C 64 zcV Q (fx (fx (fx ρ 19 a) 20 b) 14 c) d):=by kernel_rfl
theorem zfD:jB C 64 zcV Q ρ h=(oP (fO 5 (ρ 6) h) λa=>
 oP (some (ρ 13)) λb=>
 oP (some (ρ 3)) λc=>
 oP (some (ρ 4)) λd=>
 oP (some (ρ 5)) λe=>
 dcP C jU [a,b,c,d,e] h λf i=>
 gS (some (.cells 72 1 true false [(V.I 0),(V.I 0),(V.I 0),V.ei,(V.I 0)],λl=> .ptr l 0)) i λg j=>
 fj (gq 5 g f j) λm k=>
 Wp C 64 zc4 Q (fx (fx (fx (fx (fx (fx (fx ρ 21 a) 22 b) 23 c) 24 d) 25 e) 26 f) 15 g) k):=by kernel_rfl
theorem zeG:jB C 64 zc4 Q ρ h=(oP (fI 0 (ρ 15)) λa=>
 oP (fe a h) λb=>
 oP (ez .neq 3 b (V.I 1)) λc=>
 Wp C 64 zdd (zfB C Q) (fx (fx (fx ρ 27 a) 28 b) 29 c) h):=by kernel_rfl
theorem zf7:jB C 64 zcU Q ρ h=(oP (fO 5 (ρ 7) h) λa=>
 oP (some (ρ 14)) λb=>
 oP (some (ρ 3)) λc=>
 oP (some (ρ 4)) λd=>
 oP (some (ρ 5)) λe=>
 dcP C jU [a,b,c,d,e] h λf i=>
 gS (some (.cells 72 1 true false [(V.I 0),(V.I 0),(V.I 0),V.ei,(V.I 0)],λl=> .ptr l 0)) i λg j=>
 fj (gq 5 g f j) λm k=>
 Wp C 64 zcB Q (fx (fx (fx (fx (fx (fx (fx ρ 30 a) 31 b) 32 c) 33 d) 34 e) 35 f) 16 g) k):=by kernel_rfl
theorem zfb:jB C 64 zdd Q ρ h=(oP (some (ρ 29)) λc=>
 bP c (
 oP (some (V.bool true)) λa=>
 Wp C 64 zcX Q (fx ρ 12 a) h) (
 Q .normal ρ h)):=by kernel_rfl
theorem zfR:jB C 64 zcB Q ρ h=(oP (fI 0 (ρ 16)) λd=>
 oP (fe d h) λe=>
 oP (ez .eql 3 e (V.I 1)) λf=>
 oP (some f) λb=>
 oP (fH true b) λY=>
 oP (gV Y (fI 4 (ρ 16))) λg=>
 oP (fH true b) λZ=>
 oP (gV Z (fe g h)) λi=>
 oP (fH true b) λb6=>
 oP (gV b6 (fI 4 (ρ 15))) λj=>
 oP (fH true b) λb7=>
 oP (gV b7 (fe j h)) λk=>
 oP (fH true b) λb8=>
 oP (gV b8 (ez .leq 3 i k)) λl=>
 oP (jA b l (V.bool false)) λm=>
 oP (some m) λc=>
 oP (fH true c) λF=>
 oP (gV F (fI 3 (ρ 15))) λn=>
 oP (fH true c) λG=>
 oP (gV G (fe n h)) λx=>
 oP (fH true c) λH=>
 oP (gV H (fI 3 (ρ 16))) λo=>
 oP (fH true c) λI=>
 oP (gV I (fe o h)) λy=>
 ((gT I (fe o h=some y))/\
 ((gT H (fI 3 (ρ 16)=some o))/\
 ((gT G (fe n h=some x))/\
 ((gT F (fI 3 (ρ 15)=some n))/\
 ((some m=some c)/\
 ((jA b l (V.bool false)=some m)/\
 ((gT b8 (ez .leq 3 i k=some l))/\
 ((gT b7 (fe j h=some k))/\
 ((gT b6 (fI 4 (ρ 15)=some j))/\
 ((gT Z (fe g h=some i))/\
 ((gT Y (fI 4 (ρ 16)=some g))/\
 ((some f=some b)/\
 ((ez .eql 3 e (V.I 1)=some f)/\
 ((fe d h=some e)/\
 ((fI 0 (ρ 16)=some d)/\
 oP (fH true c) λT=>
 oP (gC T (some (jh,[x,y]))) λU=>vB C U h λz A=>
 (h.next<=A.next/\
 oP (jA c z (V.bool false)) λp=>
 oP (some p) λa=>
 oP (fH true a) λJ=>
 oP (gV J (some (ρ 13))) λq=>
 oP (fH true a) λK=>
 oP (gV K (gP q)) λr=>
 oP (fH true a) λL=>
 oP (gV L (fI 1 r)) λs=>
 oP (fH true a) λM=>
 oP (gV M (fe s A)) λB=>
 oP (fH true a) λN=>
 oP (gV N (some (ρ 14))) λt=>
 oP (fH true a) λO=>
 oP (gV O (gP t)) λu=>
 oP (fH true a) λP=>
 oP (gV P (fI 1 u)) λv=>
 oP (fH true a) λR=>
 oP (gV R (fe v A)) λD=>
 ((gT R (fe v A=some D))/\
 ((gT P (fI 1 u=some v))/\
 ((gT O (gP t=some u))/\
 ((gT N (some (ρ 14)=some t))/\
 ((gT M (fe s A=some B))/\
 ((gT L (fI 1 r=some s))/\
 ((gT K (gP q=some r))/\
 ((gT J (some (ρ 13)=some q))/\
 ((some p=some a)/\
 ((jA c z (V.bool false)=some p)/\
 oP (fH true a) λW=>
 oP (gC W (some (kL,[B,D]))) λX=>vB C X A λE h2=>
 (A.next<=h2.next/\
 oP (jA a E (V.bool false)) λw=>
 oP (some w) λS=>
 ((some w=some S)/\
 ((jA a E (V.bool false)=some w)/\
 Wp C 64 zcC Q (fx (fx (fx (fx (fx (fx (fx (fx (fx (fx (fx (fx (fx (fx (fx (fx (fx (fx (fx (fx (fx (fx (fx (fx (fx (fx (fx (fx (fx ρ 36 d) 37 e) 38 f) 39 b) 40 g) 41 i) 42 j) 43 k) 44 l) 45 m) 46 c) 47 n) 48 x) 49 o) 50 y) 51 z) 52 p) 53 a) 54 q) 55 r) 56 s) 57 B) 58 t) 59 u) 60 v) 61 D) 62 E) 63 w) 12 S) h2)))))))))))))))))))))))))))))):=by kernel_rfl
theorem zft:jB C 64 zcC Q ρ h=(Q .ret ρ h):=by kernel_rfl
theorem zfj:jB C 64 zcX Q ρ h=(Q .ret ρ h):=by kernel_rfl
theorem g11{C:kW}(hs:C.start=zt)(a0 a1 a2 a3 a4 a:V){h:Hp}{Q:fq}(hk:C.K jm [a0,a1,a2,a3,a4,a] h=none)(H:jB C 64 UB (Je [.tmp 12] Q) (Lt [a0,a1,a2,a3,a4,a]) h):cP C jm [a0,a1,a2,a3,a4,a] h Q:=
 cP.ZN hs (show P0.funcs[11]? =some Tryz.f11 by unfold P0;exact Tryz.func11) (by kernel_rfl) (by kernel_rfl) (by kernel_rfl) hk (MY rfl) (Wp.code _ H)
def si(C:kW)(Q:fq)(a0 a1 a2 a3 a4 a5:V)(h:Hp):Prop:=gS (mi 30 a0) h λv6 h1=>gS (mi 30 a1) h1 λv7 h2=>cP C iR [a2] h2 λi h3=>cP C iR [a2] h3 λj h4=>oP (fO 5 v6 h4) λm=>cP C jU [m,i,a3,a4,a5] h4 λn h5=>gS (zC 72 [nZ,nZ,nZ,nS,nZ]) h5 λf h6=>fj (gq 5 f n h6) λvu l=>oP (fI 0 f) λo=>oP (fe o l) λp=>oP (ez .neq 3 p nO) λq=>bP q (Q bT l) (oP (fO 5 v7 l) λr=>cP C jU [r,j,a3,a4,a5] l λs h8=>gS (zC 72 [nZ,nZ,nZ,nS,nZ]) h8 λg h9=>fj (gq 5 g s h9) λai b=>oP (fI 0 g) λt=>oP (fe t b) λu=>oP (ez .eql 3 u nO) λd=>oP (fH true d) λb4=>oP (gV b4 (fI 4 g)) λv=>oP (fH true d) λb5=>oP (gV b5 (fe v b)) λw=>oP (fH true d) λb6=>oP (gV b6 (fI 4 f)) λx=>oP (fH true d) λb7=>oP (gV b7 (fe x b)) λy=>oP (jI d (ez .leq 3 w y)) λc=>oP (fH true c) λz=>oP (gV z (fI 3 f)) λA=>oP (fH true c) λB=>oP (gV B (fe A b)) λD=>oP (fH true c) λE=>oP (gV E (fI 3 g)) λF=>oP (fH true c) λG=>oP (gV G (fe F b)) λH=>oP (fH true c) λI=>oP (gC I (some (jh,[D,H]))) λJ=>vB C J b λK e=>(b.next<=e.next/\oP (jA c K bF) λa=>oP (fH true a) λL=>oP (gV L (some i)) λM=>oP (fH true a) λN=>oP (gV N (gP M)) λO=>oP (fH true a) λP=>oP (gV P (fI 1 O)) λR=>oP (fH true a) λS=>oP (gV S (fe R e)) λT=>oP (fH true a) λU=>oP (gV U (some j)) λW=>oP (fH true a) λX=>oP (gV X (gP W)) λY=>oP (fH true a) λZ=>oP (gV Z (fI 1 Y)) λaa=>oP (fH true a) λab=>oP (gV ab (fe aa e)) λac=>oP (fH true a) λad=>oP (gC ad (some (kL,[T,ac]))) λae=>vB C ae e λag k=>(e.next<=k.next/\oP (jA a ag bF) λah=>Q ah k)))
theorem GG{C:kW}(hs:C.start=zt){a0 a1 a2 a3 a4 y:V}{h:Hp}{Q:fq}(hk:C.K jm [a0,a1,a2,a3,a4,y] h=none)(H:si C Q a0 a1 a2 a3 a4 y h):cP C jm [a0,a1,a2,a3,a4,y] h Q:=by
 unfold si at H;exact g11 hs _ _ _ _ _ _ hk ((Yr _ _ _ _).mpr (alM H λv6 h1 H=>alM H λv7 h2 H=>wF (Wp.of (zf2 _ _ _ _) (wF (dcM H λB h3 H=>wF (Wp.of (zeJ _ _ _ _) (wF (dcM H λD h4 H=>wF (Wp.of (zfD _ _ _ _) (oM H λE _ H=>wF (wF (wF (wF (dcM H λF h5 H=>alM H λG h6 H=>zdM H λvu h7 H=>Wp.of (zeG _ _ _ _) (oM H λI _ H=>oM H λJ _ H=>oM H λL _ H=>Wp.of (zfb _ _ _ _) (wF (bM H (λH=>wF (Wp.of (zfj _ _ _ _) (H))) (λH=>Wp.of (zf7 _ _ _ _) (oM H λM _ H=>wF (wF (wF (wF (dcM H λN h8 H=>alM H λO h9 H=>zdM H λz P H=>Wp.of (zfR _ _ _ _) (oM H λR a H=>oM H λS b H=>oM H λT c H=>wF (oM H λb4 _ H=>oM H λU d H=>oM H λb5 _ H=>oM H λW e H=>oM H λb6 _ H=>oM H λX f H=>oM H λb7 _ H=>oM H λY g H=>thn (Oy H) λH=>oM H λb8 A H=>oM H λZ i H=>oM H λaa j H=>wF (oM H λab _ H=>oM H λac k H=>oM H λad _ H=>oM H λae l H=>oM H λag _ H=>oM H λah m H=>oM H λai _ H=>oM H λaj n H=>⟨(hK n),⟨(hK m),⟨(hK l),⟨(hK k),⟨rfl,⟨j,⟨(hK i),⟨(hK g),⟨(hK f),⟨(hK e),⟨(hK d),⟨rfl,⟨c,⟨b,⟨a,oM H λak _ H=>oM H λal _ H=>cgM H λam an H=>anM H λH=>oM H λao o H=>wF (oM H λap _ H=>oM H λaq p H=>oM H λar _ H=>oM H λau q H=>oM H λaw _ H=>oM H λax r H=>oM H λay _ H=>oM H λaA s H=>oM H λaB _ H=>oM H λaC t H=>oM H λaD _ H=>oM H λaE u H=>oM H λaF _ H=>oM H λaG v H=>oM H λaH _ H=>oM H λaI w H=>⟨(hK w),⟨(hK v),⟨(hK u),⟨(hK t),⟨(hK s),⟨(hK r),⟨(hK q),⟨(hK p),⟨rfl,⟨o,oM H λaJ _ H=>oM H λaK _ H=>cgM H λaL aM H=>anM H λH=>oM H λaN x H=>wF (⟨rfl,⟨x,Wp.of (zft _ _ _ _) (H)⟩⟩)⟩⟩⟩⟩⟩⟩⟩⟩⟩⟩)⟩⟩⟩⟩⟩⟩⟩⟩⟩⟩⟩⟩⟩⟩⟩))))))))))))))))))))))))))
end
def t35:List (Nat×List Nat):=[(87,[0,1,5])]
def qn(Q:fq):LP:=JV CS Tryz.f35 t35 43 [0,1,5] [] Q
def ql(Q:fq)(fy:LP)(b l a:V)(h:Hp):Prop:=oP (fE b) λc=>oP (ez .lss 3 a c) λd=>bP d (oP (gB 1 b a) λe=>oP (fe e h) λf=>oP (gB 1 l a) λg=>oP (fe g h) λi=>oP (ez .neq 79 f i) λj=>bP j (Q bF h) (oP (ez .add 3 a nO) λk=>fy [b,l,k] h)) (Q bT h)
theorem zw{Q}:LN 3 (ql Q) (qn Q):=JV.lm 3 _
theorem Bu{a0 a1:V}{h:Hp}{Q:fq}(H:oP (fE a0) λb=>oP (fE a1) λc=>oP (ez .neq 3 b c) λa=>bP a (Q bF h) (qn Q [a0,a1,nZ] h)):cP CS kL [a0,a1] h Q:=cP.ve t35 Tryz.func35 H
theorem Bp{a0:V}{h:Hp}{Q:fq}(H:oP (gP a0) λm=>oP (fI 0 m) λc=>oP (fe c h) λd=>xB (iS 79 1 0 (V.int .u64 0) []) h λe n b=>dN 1 a0 b λf=>((b.get (h.next)=some e/\O.beq e e=true)/\((fe c b=some d)/\fj (fi 79 1 8 n f b) λg i=>(b.next<=i.next/\oP (fT [nZ,nS] [(0,1),(1,1)] [(0,d),(1,g)]) λj=>xB (mi 77 j) i λa k l=>((l.get (i.next)=some a/\O.beq a a=true)/\((fe c l=some d)/\Q k l)))))):cP CS iR [a0] h Q:=cP.ve [] Tryz.func32 H
theorem DL{a0:V}{h:Hp}{Q:fq}(H:gS (iS 79 1 1 (V.int .u64 0) [(0,(V.int .u64 0))]) h λa b=>oP (fT [nZ,nS] [(0,1),(1,1)] [(0,a0),(1,a)]) λc=>gS (mi 77 c) b λd e=>Q d e):cP CS pD [a0] h Q:=cP.ve [] Tryz.func36 H
def t37:List (Nat×List Nat):=[(351,[0,2,8,9])]
def pQ(Q:fq):LP:=JV CS Tryz.f37 t37 175 [0,2,8,9] [] Q
def pO(Q:fq)(fy:LP)(a i j k:V)(h:Hp):Prop:=bO .lss 3 k i (dN 1 a h λb=>gS (iS 79 1 1 (V.int .u64 0) [(0,(V.int .u64 0))]) h λc l=>fj (fi 79 1 8 b c l) λd m=>oP (gP a) λe=>oP (fI 1 e) λf=>fj (gq 1 f d m) λo n=>oP (ez .add 3 k nO) λg=>fy [a,i,j,g] n) (Q (V.tuple [j,bT]) h)
theorem zm{Q}:LN 4 (pO Q) (pQ Q):=JV.lm 4 _
theorem AT{a0 a1 a2:V}{h:Hp}{Q:fq}(H:oP (ez .lss 3 a1 nZ) λa=>oP (nY a (oB (some a1) λb=>ez .gtr 3 b (V.I 1048576))) λc=>oP (nY c (oB (some a2) λd=>ez .lss 3 d nZ)) λe=>oP (nY e (oB (some a2) λf=>ez .gtr 3 f (V.I 1048576))) λg=>oP (nY g (oB (some a2) λi=>oB (ez .add 3 i nO) λj=>oB (some a0) λk=>oB (gP k) λl=>oB (fI 0 l) λm=>oB (fe m h) λn=>oB (some a0) λo=>oB (gP o) λp=>oB (fI 1 p) λq=>oB (fe q h) λr=>oB (fE r) λs=>oB (ez .sub 3 n s) λt=>ez .gtr 3 j t)) λu=>bP u (Q (V.tuple [(V.int .u64 0),bF]) h) (oP (gP a0) λv=>dG 1 v h λw=>oP (pq .u64 w) λx=>dN 1 a0 h λy=>oP (pq .u64 a1) λz=>oP (ez .shl 79 z (V.int .u64 32)) λA=>oP (pq .u64 a2) λB=>oP (ez .add 79 A B) λC=>gS (iS 79 1 1 (V.int .u64 0) [(0,C)]) h λD I=>fj (fi 79 1 8 y D I) λE J=>oP (gP a0) λF=>oP (fI 1 F) λG=>fj (gq 1 G E J) λL K=>pQ Q [a0,a2,x,nZ] K)):cP CS mR [a0,a1,a2] h Q:=cP.ve t37 Tryz.func37 H
theorem Cr{a0 a1 a2 a3:V}{h:Hp}{Q:fq}(H:oP (ez .eql 79 a1 (V.int .u64 0)) λb=>oP (nY b (oB (some a2) λc=>ez .lss 3 c nZ)) λa=>oP (fH false a) λq=>oP (gV q (some a2)) λd=>oP (fH false a) λr=>oP (gV r (some a0)) λe=>oP (fH false a) λs=>oP (gV s (some a1)) λf=>oP (fH false a) λg=>oP (gC g (some (lK,[e,f]))) λi=>vB CS i h λj p=>oP (nY a (ez .geq 3 d j)) λk=>bP k (Q bF p) (oP (ez .add 79 a1 (V.int .u64 1)) λl=>oP (pq .u64 a2) λm=>oP (ez .add 79 l m) λn=>cP CS jF [a0,n,a3] p λo t=>Q o t)):cP CS oI [a0,a1,a2,a3] h Q:=cP.ve [] Tryz.func38 H
theorem Bq{a0 a1:V}{h:Hp}{Q:fq}(H:cP CS iT [a0,a1] h λa b=>oP (ez .shr 79 a (V.int .u64 32)) λc=>oP (pq .i64 c) λd=>Q d b):cP CS nf [a0,a1] h Q:=cP.ve [] Tryz.func57 H
theorem Cy{a0 a1:V}{h:Hp}{Q:fq}(H:cP CS iT [a0,a1] h λa b=>oP (ez .rem 79 a (V.int .u64 4294967296)) λc=>oP (pq .i64 c) λd=>Q d b):cP CS lK [a0,a1] h Q:=cP.ve [] Tryz.func58 H
theorem BT{a0 a1:V}{h:Hp}{Q:fq}(H:oP (gP a0) λe=>dG 1 e h λa=>oP (pq .u64 a) λb=>bO .geq 79 a1 b (Q (V.int .u64 0) h) (dN 1 a0 h λc=>dX 1 c a1 h λd=>Q d h)):cP CS iT [a0,a1] h Q:=cP.ve [] Tryz.func59 H
theorem Cu{a0 a1 a2:V}{h:Hp}{Q:fq}(H:oP (ez .eql 79 a1 (V.int .u64 0)) λl=>oP (nY l (oB (some a1) λa=>oB (some a0) λb=>oB (gP b) λc=>oB (fI 1 c) λd=>oB (fe d h) λe=>oB (fE e) λf=>oB (pq .u64 f) λg=>ez .geq 79 a g)) λi=>bP i (Q bF h) (dN 1 a0 h λj=>oP (gB 1 j a1) λk=>fj (gq 1 k a2 h) λn m=>Q bT m)):cP CS jF [a0,a1,a2] h Q:=cP.ve [] Tryz.func60 H
section
variable (C:kW)(Q:X->iE->Hp->Prop)(ρ:iE)(h:Hp)
def VZ:=JP Tryz.f34
def zcy:=VZ.r
def zcE:=VZ.r.l.r
def zcx:=VZ.r.r
def zfO:=andThen (Wp C 69 zcx Q) Q
def zdc:=VZ.r.l.r.l.r
def zcr:=VZ.r.r.l.r
def zcQ:=VZ.r.r.r
def zcD:=andThen (Wp C 69 zcQ Q) Q
def Z2:=VZ.r.r.l.r.l.l
def zfn(C:kW)(Q:XQ):XQ:=xO 0 Q
def zcK:=VZ.r.r.r.r
def zcv:=VZ.r.r.l.r.l.l.l.r
def zcI:=VZ.r.r.l.r.l.l.r
def zf8:=andThen (Wp C 69 zcI Q) Q
def zcH:=VZ.r.r.l.r.l.l.r.l.l.r
def ZA:=VZ.r.r.l.r.l.l.r.r
def ze4:=andThen (Wp C 69 ZA Q) Q
def zfT:=xO 1 (ze4 C Q)
def zaj:=VZ.r.r.l.r.l.l.r.l.l.r.l.r
def zeZ:=xO 0 (zcD C Q)
theorem e34:jB C 69 VZ Q ρ h=(oP (some (V.bool false)) λa=>
 Wp C 69 zcy Q (fx ρ 4 a) h):=by kernel_rfl
theorem ze3:jB C 69 zcy Q ρ h=(oP (some (ρ 0)) λb=>
 oP (fE b) λc=>
 oP (some (ρ 1)) λd=>
 oP (fE d) λe=>
 oP (ez .neq 3 c e) λa=>
 Wp C 69 zcE (zfO C Q) (fx (fx (fx (fx (fx ρ 6 b) 7 c) 8 d) 9 e) 10 a) h):=by kernel_rfl
theorem zeX:jB C 69 zcx Q ρ h=(oP (some (V.I 0)) λa=>
 Wp C 69 zcr (zcD C Q) (fx ρ 5 a) h):=by kernel_rfl
theorem zeM:jB C 69 zcE Q ρ h=(oP (some (ρ 10)) λc=>
 bP c (
 oP (some (V.bool false)) λa=>
 Wp C 69 zdc Q (fx ρ 4 a) h) (
 Q .normal ρ h)):=by kernel_rfl
theorem zf6:jB C 69 zcQ Q ρ h=(oP (some (V.bool true)) λa=>
 Wp C 69 zcK Q (fx ρ 4 a) h):=by kernel_rfl
theorem zf1:jB C 69 zcr Q ρ h=(Wp C 69 (.loop Z2) (zfn C Q) ρ h):=by kernel_rfl
theorem zfs:jB C 69 zcK Q ρ h=(Q .ret ρ h):=by kernel_rfl
theorem zfv:jB C 69 zdc Q ρ h=(Q .ret ρ h):=by kernel_rfl
theorem ze2:jB C 69 Z2 Q ρ h=(oP (some (ρ 5)) λa=>
 oP (some (ρ 0)) λb=>
 oP (fE b) λc=>
 oP (ez .lss 3 a c) λd=>
 Wp C 69 zcv (zf8 C Q) (fx (fx (fx (fx ρ 11 a) 12 b) 13 c) 14 d) h):=by kernel_rfl
theorem zeS:jB C 69 zcI Q ρ h=(oP (some (ρ 0)) λd=>
 oP (some (ρ 5)) λe=>
 oP (gB 4 d e) λf=>
 oP (fI 0 f) λg=>
 oP (fe g h) λi=>
 oP (some (ρ 1)) λj=>
 oP (some (ρ 5)) λk=>
 oP (gB 4 j k) λl=>
 oP (fI 0 l) λm=>
 oP (fe m h) λn=>
 oP (ez .neq 3 i n) λo=>
 oP (some o) λc=>
 oP (fH false c) λad=>
 oP (gV ad (some (ρ 0))) λp=>
 oP (fH false c) λae=>
 oP (gV ae (some (ρ 5))) λq=>
 oP (fH false c) λag=>
 oP (gV ag (gB 4 p q)) λr=>
 oP (fH false c) λah=>
 oP (gV ah (fI 1 r)) λs=>
 oP (fH false c) λai=>
 oP (gV ai (fe s h)) λt=>
 oP (fH false c) λaj=>
 oP (gV aj (some (ρ 1))) λu=>
 oP (fH false c) λak=>
 oP (gV ak (some (ρ 5))) λv=>
 oP (fH false c) λal=>
 oP (gV al (gB 4 u v)) λw=>
 oP (fH false c) λam=>
 oP (gV am (fI 1 w)) λx=>
 oP (fH false c) λan=>
 oP (gV an (fe x h)) λy=>
 oP (fH false c) λao=>
 oP (gV ao (ez .neq 3 t y)) λz=>
 oP (jA c (V.bool true) z) λA=>
 oP (some A) λa=>
 oP (fH false a) λap=>
 oP (gV ap (some (ρ 0))) λB=>
 oP (fH false a) λaq=>
 oP (gV aq (some (ρ 5))) λD=>
 oP (fH false a) λar=>
 oP (gV ar (gB 4 B D)) λE=>
 oP (fH false a) λau=>
 oP (gV au (fI 2 E)) λF=>
 oP (fH false a) λaw=>
 oP (gV aw (fe F h)) λX=>
 oP (fH false a) λax=>
 oP (gV ax (some (ρ 1))) λG=>
 oP (fH false a) λay=>
 oP (gV ay (some (ρ 5))) λH=>
 oP (fH false a) λaA=>
 oP (gV aA (gB 4 G H)) λI=>
 oP (fH false a) λaB=>
 oP (gV aB (fI 2 I)) λJ=>
 oP (fH false a) λaC=>
 oP (gV aC (fe J h)) λY=>
 ((gT aC (fe J h=some Y))/\
 ((gT aB (fI 2 I=some J))/\
 ((gT aA (gB 4 G H=some I))/\
 ((gT ay (some (ρ 5)=some H))/\
 ((gT ax (some (ρ 1)=some G))/\
 ((gT aw (fe F h=some X))/\
 ((gT au (fI 2 E=some F))/\
 ((gT ar (gB 4 B D=some E))/\
 ((gT aq (some (ρ 5)=some D))/\
 ((gT ap (some (ρ 0)=some B))/\
 ((some A=some a)/\
 ((jA c (V.bool true) z=some A)/\
 ((gT ao (ez .neq 3 t y=some z))/\
 ((gT an (fe x h=some y))/\
 ((gT am (fI 1 w=some x))/\
 ((gT al (gB 4 u v=some w))/\
 ((gT ak (some (ρ 5)=some v))/\
 ((gT aj (some (ρ 1)=some u))/\
 ((gT ai (fe s h=some t))/\
 ((gT ah (fI 1 r=some s))/\
 ((gT ag (gB 4 p q=some r))/\
 ((gT ae (some (ρ 5)=some q))/\
 ((gT ad (some (ρ 0)=some p))/\
 ((some o=some c)/\
 ((ez .neq 3 i n=some o)/\
 ((fe m h=some n)/\
 ((fI 0 l=some m)/\
 ((gB 4 j k=some l)/\
 ((some (ρ 5)=some k)/\
 ((some (ρ 1)=some j)/\
 ((fe g h=some i)/\
 ((fI 0 f=some g)/\
 ((gB 4 d e=some f)/\
 ((some (ρ 5)=some e)/\
 ((some (ρ 0)=some d)/\
 oP (fH false a) λaQ=>
 oP (gC aQ (some (jr,[X,Y]))) λaR=>vB C aR h λZ h1=>
 (h.next<=h1.next/\
 oP (fH false a) λaD=>
 oP (gV aD (pK .not Z)) λK=>
 oP (jA a (V.bool true) K) λL=>
 oP (some L) λb=>
 oP (fH false b) λaE=>
 oP (gV aE (some (ρ 0))) λM=>
 oP (fH false b) λaF=>
 oP (gV aF (some (ρ 5))) λN=>
 oP (fH false b) λaG=>
 oP (gV aG (gB 4 M N)) λO=>
 oP (fH false b) λaH=>
 oP (gV aH (fI 3 O)) λP=>
 oP (fH false b) λaI=>
 oP (gV aI (fe P h1)) λaa=>
 oP (fH false b) λaJ=>
 oP (gV aJ (some (ρ 1))) λR=>
 oP (fH false b) λaK=>
 oP (gV aK (some (ρ 5))) λS=>
 oP (fH false b) λaL=>
 oP (gV aL (gB 4 R S)) λT=>
 oP (fH false b) λaM=>
 oP (gV aM (fI 3 T)) λU=>
 oP (fH false b) λaN=>
 oP (gV aN (fe U h1)) λab=>
 ((gT aN (fe U h1=some ab))/\
 ((gT aM (fI 3 T=some U))/\
 ((gT aL (gB 4 R S=some T))/\
 ((gT aK (some (ρ 5)=some S))/\
 ((gT aJ (some (ρ 1)=some R))/\
 ((gT aI (fe P h1=some aa))/\
 ((gT aH (fI 3 O=some P))/\
 ((gT aG (gB 4 M N=some O))/\
 ((gT aF (some (ρ 5)=some N))/\
 ((gT aE (some (ρ 0)=some M))/\
 ((some L=some b)/\
 ((jA a (V.bool true) K=some L)/\
 ((gT aD (pK .not Z=some K))/\
 oP (fH false b) λaS=>
 oP (gC aS (some (jr,[aa,ab]))) λaT=>vB C aT h1 λac h2=>
 (h1.next<=h2.next/\
 oP (fH false b) λaO=>
 oP (gV aO (pK .not ac)) λW=>
 oP (jA b (V.bool true) W) λaP=>
 ((jA b (V.bool true) W=some aP)/\
 ((gT aO (pK .not ac=some W))/\
 Wp C 69 zcH (zfT C Q) (fx (fx (fx (fx (fx (fx (fx (fx (fx (fx (fx (fx (fx (fx (fx (fx (fx (fx (fx (fx (fx (fx (fx (fx (fx (fx (fx (fx (fx (fx (fx (fx (fx (fx (fx (fx (fx (fx (fx (fx (fx (fx (fx (fx (fx (fx (fx (fx (fx (fx (fx (fx ρ 17 d) 18 e) 19 f) 20 g) 21 i) 22 j) 23 k) 24 l) 25 m) 26 n) 27 o) 28 c) 29 p) 30 q) 31 r) 32 s) 33 t) 34 u) 35 v) 36 w) 37 x) 38 y) 39 z) 40 A) 41 a) 42 B) 43 D) 44 E) 45 F) 46 X) 47 G) 48 H) 49 I) 50 J) 51 Y) 52 Z) 53 K) 54 L) 55 b) 56 M) 57 N) 58 O) 59 P) 60 aa) 61 R) 62 S) 63 T) 64 U) 65 ab) 66 ac) 67 W) 68 aP) h2))))))))))))))))))))))))))))))))))))))))))))))))))))):=by kernel_rfl
theorem zeL:jB C 69 zcv Q ρ h=(oP (some (ρ 14)) λc=>
 bP c (
 Q .normal ρ h) (
 Q (.exit 0) ρ h)):=by kernel_rfl
theorem zdp:jB C 69 ZA Q ρ h=(oP (some (ρ 5)) λa=>
 oP (ez .add 3 a (V.I 1)) λb=>
 oP (some b) λc=>
 Q .normal (fx (fx (fx ρ 15 a) 16 b) 5 c) h):=by kernel_rfl
theorem zeI:jB C 69 zcH Q ρ h=(oP (some (ρ 68)) λc=>
 bP c (
 oP (some (V.bool false)) λa=>
 Wp C 69 zaj Q (fx ρ 4 a) h) (
 Q .normal ρ h)):=by kernel_rfl
theorem zdi:jB C 69 zaj Q ρ h=(Q .ret ρ h):=by kernel_rfl
theorem g34{C:kW}(hs:C.start=zt)(a0 a1:V){h:Hp}{Q:fq}(hk:C.K jh [a0,a1] h=none)(H:jB C 69 VZ (Je [.tmp 4] Q) (Lt [a0,a1]) h):cP C jh [a0,a1] h Q:=
 cP.ZN hs (show P0.funcs[34]? =some Tryz.f34 by unfold P0;exact Tryz.func34) (by kernel_rfl) (by kernel_rfl) (by kernel_rfl) hk (MY rfl) (Wp.code _ H)
def vn(C:kW)(Q:fq)(a b c:V)(h:Hp):Prop:=∀ρ:iE,ρ 0=a->ρ 1=b->ρ 5=c->Wp C 69 (.loop Z2) (zeZ C (Je [.tmp 4] Q)) ρ h
def oD(C:kW)(Q:fq)(fy:QP3)(e f d:V)(h:Hp):Prop:=oP (fE e) λi=>bO .lss 3 d i (dI 4 e d 0 h λj=>dI 4 f d 0 h λk=>oP (ez .neq 3 j k) λc=>oP (fH false c) λl=>oP (gV l (some e)) λm=>oP (fH false c) λn=>oP (gV n (some d)) λo=>oP (fH false c) λp=>oP (gV p (gB 4 m o)) λq=>oP (fH false c) λr=>oP (gV r (fI 1 q)) λs=>oP (fH false c) λt=>oP (gV t (fe s h)) λu=>oP (fH false c) λv=>oP (gV v (some f)) λw=>oP (fH false c) λx=>oP (gV x (some d)) λy=>oP (fH false c) λz=>oP (gV z (gB 4 w y)) λA=>oP (fH false c) λB=>oP (gV B (fI 1 A)) λD=>oP (fH false c) λE=>oP (gV E (fe D h)) λF=>oP (nY c (ez .neq 3 u F)) λa=>oP (fH false a) λG=>oP (gV G (some e)) λH=>oP (fH false a) λI=>oP (gV I (some d)) λJ=>oP (fH false a) λK=>oP (gV K (gB 4 H J)) λL=>oP (fH false a) λM=>oP (gV M (fI 2 L)) λN=>oP (fH false a) λO=>oP (gV O (fe N h)) λP=>oP (fH false a) λR=>oP (gV R (some f)) λS=>oP (fH false a) λT=>oP (gV T (some d)) λU=>oP (fH false a) λW=>oP (gV W (gB 4 S U)) λX=>oP (fH false a) λY=>oP (gV Y (fI 2 X)) λZ=>oP (fH false a) λaa=>oP (gV aa (fe Z h)) λab=>oP (fH false a) λac=>oP (gC ac (some (jr,[P,ab]))) λad=>vB C ad h λae g=>(h.next<=g.next/\oP (nY a (pK .not ae)) λb=>oP (fH false b) λag=>oP (gV ag (some e)) λah=>oP (fH false b) λai=>oP (gV ai (some d)) λaj=>oP (fH false b) λak=>oP (gV ak (gB 4 ah aj)) λal=>oP (fH false b) λam=>oP (gV am (fI 3 al)) λan=>oP (fH false b) λao=>oP (gV ao (fe an g)) λap=>oP (fH false b) λaq=>oP (gV aq (some f)) λar=>oP (fH false b) λau=>oP (gV au (some d)) λaw=>oP (fH false b) λax=>oP (gV ax (gB 4 ar aw)) λay=>oP (fH false b) λaA=>oP (gV aA (fI 3 ay)) λaB=>oP (fH false b) λaC=>oP (gV aC (fe aB g)) λaD=>oP (fH false b) λaE=>oP (gC aE (some (jr,[ap,aD]))) λaF=>vB C aF g λaG h2=>(g.next<=h2.next/\oP (nY b (pK .not aG)) λaH=>bP aH (Q bF h2) (oP (ez .add 3 d nO) λaI=>fy e f aI h2)))) (Q bT h)
theorem CJ{C:kW}{Q:fq}(I:Nat->QP3)(step:∀(k:Nat)(a b c:V)(h:Hp),I k a b c h->oD C Q (λa b c h=>∃k',k' < k/\I k' a b c h) a b c h){k:Nat}{a b c:V}{h:Hp}(h0:I k a b c h):vn C Q a b c h:=by
 intro ρ e0 e1 e5;subst e0;subst e1;subst e5;refine Wp.zcM (λk ρ h=>I k (ρ 0) (ρ 1) (ρ 5) h) (λk ρ h hi=>?_) h0;have H:=step k (ρ 0) (ρ 1) (ρ 5) h hi;unfold oD at H;exact Wp.of (ze2 _ _ _ _) (wF (wF (oM H λae _ H=>oM H λag _ H=>Wp.of (zeL _ _ _ _) (wF (bM H (λH=>Wp.of (zeS _ _ _ _) (wF (wF (oM H λah d H=>oM H λai e H=>oM H λaj f H=>wF (wF (oM H λak g H=>oM H λal i H=>oM H λam j H=>oM H λan l H=>wF (oM H λao _ H=>oM H λap m H=>oM H λaq _ H=>oM H λar n H=>oM H λau _ H=>oM H λaw o H=>oM H λax _ H=>oM H λay p H=>oM H λaA _ H=>oM H λaB q H=>oM H λaC _ H=>oM H λaD r H=>oM H λaE _ H=>oM H λaF s H=>oM H λaG _ H=>oM H λaH t H=>oM H λaI _ H=>oM H λaJ u H=>oM H λaK _ H=>oM H λaL v H=>thn (K5 H) λH=>oM H λaM ab H=>oM H λaN w H=>oM H λaO x H=>wF (oM H λaP _ H=>oM H λaQ y H=>oM H λaR _ H=>oM H λaS z H=>oM H λaT _ H=>oM H λaU A H=>oM H λaV _ H=>oM H λaW B H=>oM H λaX _ H=>oM H λaY D H=>oM H λaZ _ H=>oM H λa5 E H=>oM H λa6 _ H=>oM H λa7 F H=>oM H λa8 _ H=>oM H λa9 G H=>oM H λba _ H=>oM H λbb J H=>oM H λbc _ H=>oM H λbd K H=>⟨(hK K),⟨(hK J),⟨(hK G),⟨(hK F),⟨(hK E),⟨(hK D),⟨(hK B),⟨(hK A),⟨(hK z),⟨(hK y),⟨rfl,⟨x,⟨(hK w),⟨(hK v),⟨(hK u),⟨(hK t),⟨(hK s),⟨(hK r),⟨(hK q),⟨(hK p),⟨(hK o),⟨(hK n),⟨(hK m),⟨rfl,⟨l,⟨j,⟨i,⟨g,⟨rfl,⟨rfl,⟨f,⟨e,⟨d,⟨rfl,⟨rfl,oM H λbe _ H=>oM H λbf _ H=>cgM H λbg h1 H=>anM H λH=>thn (K5 H) λH=>oM H λbh ac H=>oM H λbi L H=>oM H λbj M H=>wF (oM H λbm _ H=>oM H λbo N H=>oM H λbr _ H=>oM H λbt O H=>oM H λbu _ H=>oM H λbw P H=>oM H λbx _ H=>oM H λbz R H=>oM H λbA _ H=>oM H λbC S H=>oM H λbD _ H=>oM H λbE T H=>oM H λbG _ H=>oM H λbH U H=>oM H λbI _ H=>oM H λbJ W H=>oM H λbK _ H=>oM H λbL X H=>oM H λbQ _ H=>oM H λbR Y H=>⟨(hK Y),⟨(hK X),⟨(hK W),⟨(hK U),⟨(hK T),⟨(hK S),⟨(hK R),⟨(hK P),⟨(hK O),⟨(hK N),⟨rfl,⟨M,⟨(hK L),oM H λbS _ H=>oM H λbU _ H=>cgM H λbV h2 H=>anM H λH=>thn (K5 H) λH=>oM H λbW ad H=>oM H λbX Z H=>oM H λbY aa H=>⟨aa,⟨(hK Z),Wp.of (zeI _ _ _ _) (wF (bM H (λH=>wF (Wp.of (zdi _ _ _ _) (H))) (λH=>Wp.of (zdp _ _ _ _) (wF (oM H λbZ _ H=>wF (H))))))⟩⟩⟩⟩⟩⟩⟩⟩⟩⟩⟩⟩⟩⟩⟩)⟩⟩⟩⟩⟩⟩⟩⟩⟩⟩⟩⟩⟩⟩⟩⟩⟩⟩⟩⟩⟩⟩⟩⟩⟩⟩⟩⟩⟩⟩⟩⟩⟩⟩⟩)))))))) (λH=>Wp.of (zf6 _ _ _ _) (wF (Wp.of (zfs _ _ _ _) (H)))))))))
def qF(C:kW)(Q:fq)(a0 a1:V)(h:Hp):Prop:=oP (fE a0) λa=>oP (fE a1) λb=>bO .neq 3 a b (Q bF h) (vn C Q a0 a1 nZ h)
theorem Gp{C:kW}(hs:C.start=zt){a0 a1:V}{h:Hp}{Q:fq}(hk:C.K jh [a0,a1] h=none)(H:qF C Q a0 a1 h):cP C jh [a0,a1] h Q:=by
 unfold qF at H;exact g34 hs _ _ hk ((e34 _ _ _ _).mpr (wF (Wp.of (ze3 _ _ _ _) (wF (oM H λb _ H=>wF (oM H λc _ H=>oM H λa _ H=>Wp.of (zeM _ _ _ _) (wF (bM H (λH=>wF (Wp.of (zfv _ _ _ _) (H))) (λH=>Wp.of (zeX _ _ _ _) (wF (Wp.of (zf1 _ _ _ _) (H _ rfl rfl rfl))))))))))))
end
def t63:List (Nat×List Nat):=[(87,[0,1,5])]
def uh(Q:fq):LP:=JV CS Tryz.f63 t63 43 [0,1,5] [] Q
def tK(Q:fq)(fy:LP)(b g a:V)(h:Hp):Prop:=oP (fE b) λc=>bO .lss 3 a c (dX 1 b a h λd=>dX 1 g a h λe=>bO .neq 79 d e (Q bF h) (oP (ez .add 3 a nO) λf=>fy [b,g,f] h)) (Q bT h)
theorem Bv{Q}:LN 3 (tK Q) (uh Q):=JV.lm 3 _
theorem Ff{a0 a1:V}{h:Hp}{Q:fq}(H:oP (fE a0) λa=>oP (fE a1) λb=>bO .neq 3 a b (Q bF h) (uh Q [a0,a1,nZ] h)):cP CS jr [a0,a1] h Q:=cP.ve t63 Tryz.func63 H
end
