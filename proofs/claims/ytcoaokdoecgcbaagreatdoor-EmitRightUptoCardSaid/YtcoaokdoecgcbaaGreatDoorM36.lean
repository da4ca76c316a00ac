/- Parts. -/
import Derived.Test.YtcoaokdoecgcbaaGreatDoorM14
set_option maxHeartbeats 4000000
namespace Go.Proofs.YtcoaokdoecgcbaaGreatDoor.Hx
set_option maxRecDepth 100000
noncomputable section
def t74:List (Nat×List Nat):=[]
def Gt(C:fj)(Q:fo)(a:V)(h:Hp):Prop:=oP (ef .lss 3 a nO) λe=>oP (mm e (oB (some a) λf=>ef .gtr 3 f (V.I 27))) λg=>bP g (Q (V.str []) h) (cP C Mf [(V.str [83,101,116,32,77,111,118,32,71,101,116,32,75,101,101,112,32,65,100,100,32,83,117,98,32,77,117,108,32,68,105,118,32,82,101,109,32,78,101,103,32,78,111,116,32,69,113,32,78,101,32,76,116,32,76,101,32,66,101,108,111,119,32,84,121,112,101,79,102,32,76,101,110,79,102,32,87,111,114,100,32,87,111,114,100,65,116,32,80,117,116,32,80,117,116,65,116,32,74,117,109,112,32,74,122,32,71,117,97,114,100,32,80,111,108,108,32,76,101,97,118,101]),(V.str [32])] h λi d=>oP (ef .sub 3 a nO) λb=>dX 1 i b d λc=>Q c d)
theorem Ov{C}(s:C.start=fy){a h Q}(k:C.K lD [a] h=none)(H:Gt C Q a h):cP C lD [a] h Q:=cP.vd t74 s (by unfold P0;exact Tryz.func74) k H
def t114:List (Nat×List Nat):=[(106,[1,2,7,8]),(490,[1,2,7,12]),(2026,[1,2,7,21]),(8170,[1,31])]
def lZ(C:fj)(Q:fo):LP:=JV C Tryz.f114 t114 53 [1,2,7,8] [] Q
def oe(C:fj)(Q:fo):LP:=JV C Tryz.f114 t114 245 [1,2,7,12] [] Q
def nr(C:fj)(Q:fo):LP:=JV C Tryz.f114 t114 1013 [1,2,7,21] [] Q
def kY(C:fj)(Q:fo):LP:=JV C Tryz.f114 t114 4085 [1,31] [] Q
def zb(C:fj)(Q:fo)(d e b f:V)(h:Hp):Prop:=bP f (Q bT h) (oP (ef .eql 3 b (V.I 3)) λa=>bP a (oe C Q [d,e,b,a] h) (oP (ef .eql 3 b (V.I 4)) λc=>oe C Q [d,e,b,c] h))
theorem Hw{C Q}:R4 (zb C Q) (lZ C Q):=JV.r4 _
def yF(C:fj)(Q:fo)(b j c d:V)(h:Hp):Prop:=bP d (oP (ef .geq 2 b nZ) λe=>oP (iM e (oB (some b) λf=>ef .lss 2 f (V.I 400))) λg=>Q g h) (oP (ef .eql 3 c (V.I 23)) λa=>bP a (nr C Q [b,j,c,a] h) (oP (ef .eql 3 c (V.I 24)) λi=>nr C Q [b,j,c,i] h))
theorem HS{C Q}:R4 (yF C Q) (oe C Q):=JV.r4 _
def wV(C:fj)(Q:fo)(a l d e:V)(h:Hp):Prop:=bP e (oP (ef .geq 2 a nZ) λf=>oP (iM f (oB (some a) λg=>oB (some l) λi=>ef .leq 2 g i)) λj=>Q j h) (oP (ef .eql 3 d (V.I 25)) λb=>bP b (kY C Q [a,b] h) (oP (ef .eql 3 d (V.I 26)) λc=>bP c (kY C Q [a,c] h) (oP (ef .eql 3 d (V.I 27)) λk=>kY C Q [a,k] h)))
theorem FU{C Q}:R4 (wV C Q) (nr C Q):=JV.r4 _
def xK(C:fj)(Q:fo)(a b:V)(h:Hp):Prop:=bP b (oP (ef .geq 2 a nZ) λc=>oP (iM c (oB (some a) λd=>ef .leq 2 d (V.I 1048576))) λe=>Q e h) (oP (ef .eql 2 a nZ) λf=>Q f h)
theorem FN{C Q}:R2 (xK C Q) (kY C Q):=JV.r2 _
def BZ(C:fj)(Q:fo)(a c d:V)(h:Hp):Prop:=oP (ef .eql 3 a nO) λf=>bP f (lZ C Q [c,d,a,f] h) (oP (ef .eql 3 a (V.I 19)) λb=>bP b (lZ C Q [c,d,a,b] h) (oP (ef .eql 3 a (V.I 21)) λe=>lZ C Q [c,d,a,e] h))
theorem La{C}(s:C.start=fy){a b c h Q}(k:C.K qR [a,b,c] h=none)(H:BZ C Q a b c h):cP C qR [a,b,c] h Q:=cP.vd t114 s (by unfold P0;exact Tryz.func114) k H
def t115:List (Nat×List Nat):=[(106,[3,4]),(490,[3,10]),(2026,[18])]
def jX(C:fj)(Q:fo):LP:=JV C Tryz.f115 t115 53 [3,4] [] Q
def iU(C:fj)(Q:fo):LP:=JV C Tryz.f115 t115 245 [3,10] [] Q
def gI(C:fj)(Q:fo):LP:=JV C Tryz.f115 t115 1013 [18] [] Q
def AU(C:fj)(Q:fo)(a j:V)(h:Hp):Prop:=bP j (Q nO h) (oP (ef .eql 3 a (V.I 2)) λb=>bP b (iU C Q [a,b] h) (oP (ef .eql 3 a (V.I 10)) λc=>bP c (iU C Q [a,c] h) (oP (ef .eql 3 a (V.I 11)) λd=>bP d (iU C Q [a,d] h) (oP (ef .eql 3 a (V.I 17)) λe=>bP e (iU C Q [a,e] h) (oP (ef .eql 3 a (V.I 18)) λf=>bP f (iU C Q [a,f] h) (oP (ef .eql 3 a (V.I 19)) λg=>bP g (iU C Q [a,g] h) (oP (ef .eql 3 a (V.I 21)) λi=>iU C Q [a,i] h)))))))
theorem KD{C Q}:R2 (AU C Q) (jX C Q):=JV.r2 _
def AZ(C:fj)(Q:fo)(a n:V)(h:Hp):Prop:=bP n (Q (V.I 2) h) (oP (ef .eql 3 a (V.I 5)) λb=>bP b (gI C Q [b] h) (oP (ef .eql 3 a (V.I 6)) λc=>bP c (gI C Q [c] h) (oP (ef .eql 3 a (V.I 7)) λd=>bP d (gI C Q [d] h) (oP (ef .eql 3 a (V.I 8)) λe=>bP e (gI C Q [e] h) (oP (ef .eql 3 a (V.I 9)) λf=>bP f (gI C Q [f] h) (oP (ef .eql 3 a (V.I 12)) λg=>bP g (gI C Q [g] h) (oP (ef .eql 3 a (V.I 13)) λi=>bP i (gI C Q [i] h) (oP (ef .eql 3 a (V.I 14)) λj=>bP j (gI C Q [j] h) (oP (ef .eql 3 a (V.I 15)) λk=>bP k (gI C Q [k] h) (oP (ef .eql 3 a (V.I 16)) λl=>bP l (gI C Q [l] h) (oP (ef .eql 3 a (V.I 20)) λm=>bP m (gI C Q [m] h) (oP (ef .eql 3 a (V.I 22)) λo=>gI C Q [o] h))))))))))))
theorem Kz{C Q}:R2 (AZ C Q) (iU C Q):=JV.r2 _
def Ar(C:fj)(Q:fo)(a:V)(h:Hp):Prop:=bP a (Q (V.I 3) h) (Q nZ h)
theorem IA{C Q}:R1 (Ar C Q) (gI C Q):=JV.r1 _
def Fh(C:fj)(Q:fo)(a:V)(h:Hp):Prop:=oP (ef .eql 3 a nO) λb=>bP b (jX C Q [a,b] h) (oP (ef .eql 3 a (V.I 3)) λc=>bP c (jX C Q [a,c] h) (oP (ef .eql 3 a (V.I 4)) λd=>bP d (jX C Q [a,d] h) (oP (ef .eql 3 a (V.I 24)) λe=>bP e (jX C Q [a,e] h) (oP (ef .eql 3 a (V.I 25)) λf=>jX C Q [a,f] h))))
theorem Od{C}(s:C.start=fy){a h Q}(k:C.K ui [a] h=none)(H:Fh C Q a h):cP C ui [a] h Q:=cP.vd t115 s (by unfold P0;exact Tryz.func115) k H
def t102:List (Nat×List Nat):=[(87,[2,26,27,28])]
def z9(C:fj)(Q:fo):LP:=JV C Tryz.f102 t102 43 [2,26,27,28] [] Q
def Ac(C:fj)(Q:fo)(f:LP)(u d e b:V)(h:Hp):Prop:=bO .lss 3 b e (dX 1 d b h λc=>oP (ef .lss 3 c nZ) λg=>oP (mm g (oB (some c) λi=>ef .geq 3 i (V.I 16))) λa=>oP (gW false a) λw=>oP (gV w (some b)) λj=>oP (gW false a) λx=>oP (gV x (fK 0 u)) λk=>oP (gW false a) λy=>oP (gV y (eC k h)) λl=>oP (gW false a) λm=>oP (gC m (some (ui,[l]))) λn=>AS C n h λo v=>oP (mm a (oB (ef .geq 3 j o) λp=>oB (some p) λq=>iM q (oB (some c) λr=>ef .neq 3 r nZ))) λs=>bP s (Q bF v) (oP (ef .add 3 b nO) λt=>f [u,d,e,t] v)) (Q bT h)
theorem IH{C Q}(I)(s:S4 I (Ac C Q)){k l h}(i:I k l h)(e:l.length=4:=by rfl):z9 C Q l h:=JV.l4 I _ s i e
def DZ(C:fj)(Q:fo)(u v:V)(h:Hp):Prop:=hZ (nj 102 u) h λb t=>dF 0 b t λw=>cP C lD [w] t λx e=>oP (ef .eql 9 x (V.str [])) λa=>oP (gW false a) λy=>oP (gV y (fK 0 b)) λf=>oP (gW false a) λz=>oP (gV z (eC f e)) λg=>oP (gW false a) λA=>oP (gV A (fK 4 b)) λi=>oP (gW false a) λB=>oP (gV B (eC i e)) λj=>oP (gW false a) λD=>oP (gV D (some v)) λk=>oP (gW false a) λl=>oP (gC l (some (qR,[g,j,k]))) λm=>AS C m e λn c=>oP (mm a (qH .not n)) λo=>bP o (Q bF c) (dF 1 b c λp=>dF 2 b c λq=>dF 3 b c λr=>hZ (iK 3 1 3 nZ [(0,p),(1,q),(2,r)]) c λd E=>oP (fD d) λs=>z9 C Q [b,d,s,nZ] E)
theorem Mw{C}(s:C.start=fy){a b h Q}(k:C.K sy [a,b] h=none)(H:DZ C Q a b h):cP C sy [a,b] h Q:=cP.vd t102 s (by unfold P0;exact Tryz.func102) k H
def t72:List (Nat×List Nat):=[(87,[0,8,9,10])]
def Ah(C:fj)(Q:fo):LP:=JV C Tryz.f72 t72 43 [0,8,9,10] [] Q
def Ai(C:fj)(Q:fo)(b:LP)(j k l a:V)(h:Hp):Prop:=bO .lss 3 a l (oP (gP 5 k a) λc=>oP (gy 5 c h) λd=>hZ (zC 102 [nZ,nZ,nZ,nZ,nZ]) h λm p=>fg (gL 5 m d p) λq n=>oP (gy 5 m n) λe=>oP (fD j) λf=>cP C sy [e,f] n λg o=>bN g (Q bF o) (oP (ef .add 3 a nO) λi=>b [j,k,l,i] o)) (Q bT h)
theorem Jk{C Q}(I)(s:S4 I (Ai C Q)){k l h}(i:I k l h)(e:l.length=4:=by rfl):Ah C Q l h:=JV.l4 I _ s i e
def Eu(C:fj)(Q:fo)(a:V)(h:Hp):Prop:=oP (fD a) λb=>bO .gtr 3 b (V.I 32768) (Q bF h) (oP (fD a) λc=>Ah C Q [a,a,c,nZ] h)
theorem Mg{C}(s:C.start=fy){a h Q}(k:C.K mI [a] h=none)(H:Eu C Q a h):cP C mI [a] h Q:=cP.vd t72 s (by unfold P0;exact Tryz.func72) k H
def t30:List (Nat×List Nat):=[(175,[4,11,12,13]),(95023,[4,6,7,11,12,13])]
def yT(C:fj)(Q:fo):LP:=JV C Tryz.f30 t30 87 [4,11,12,13] [] Q
def yI(C:fj)(Q:fo)(a:LP):LP:=JV C Tryz.f30 t30 47511 [4,6,7,11,12,13] [kf [4,11,12,13] a] Q
def yW(C:fj)(Q:fo)(f:LP)(u c d a:V)(h:Hp):Prop:=bO .lss 3 a d (oP (gP 5 c a) λg=>oP (gy 5 g h) λi=>hZ (zC 102 [nZ,nZ,nZ,nZ,nZ]) h λb v=>fg (gL 5 b i v) λy e=>dF 0 b e λj=>oP (jT .u8 j) λk=>dF 1 b e λl=>oP (ef .mul 3 (V.I 16) l) λm=>dF 2 b e λn=>oP (ef .add 3 m n) λo=>oP (jT .u8 o) λp=>dF 3 b e λq=>oP (jT .u8 q) λr=>hZ (iK 5 1 3 (V.int .u8 0) [(0,k),(1,p),(2,r)]) e λs w=>fg (eQ 5 1 1 u s w) λt x=>yI C Q f [t,b,nZ,c,d,a] x) (Q (V.tuple [u,nZ]) h)
theorem Ho{C Q}(I)(s:S4 I (yW C Q)){k l h}(i:I k l h)(e:l.length=4:=by rfl):yT C Q l h:=JV.l4 I _ s i e
def yD(C:fj)(Q:fo)(d:LP)(e:LP)(q r f a b c:V)(h:Hp):Prop:=bO .lss 3 f (V.I 8) (dF 4 r h λg=>oP (jT .u64 g) λi=>oP (ef .mul 3 (V.I 8) f) λj=>oP (ef .shr 63 i j) λk=>oP (jT .u8 k) λl=>hZ (iK 5 1 1 (V.int .u8 0) [(0,l)]) h λm s=>fg (eQ 5 1 1 q m s) λn t=>oP (ef .add 3 f nO) λo=>e [n,r,o,a,b,c] t) (oP (ef .add 3 c nO) λp=>d [q,a,b,p] h)
theorem Hh{C Q a}(I)(s:S6 I (yD C Q a)){k l h}(i:I k l h)(e:l.length=6:=by rfl):yI C Q a l h:=JV.l6 I _ s i e
def CI(C:fj)(Q:fo)(a:V)(h:Hp):Prop:=cP C mI [a] h λd c=>bN d (Q (V.tuple [nS,nO]) c) (oP (fD a) λb=>yT C Q [nS,a,b,nZ] c)
theorem Lj{C}(s:C.start=fy){a h Q}(k:C.K qM [a] h=none)(H:CI C Q a h):cP C qM [a] h Q:=cP.vd t30 s (by unfold P0;exact Tryz.func30) k H
section
variable (C:fj)(Q:X->gg->Hp->Prop)(ρ:gg)(h:Hp)
def KM:=ES Tryz.f34
noncomputable def zco:=KM.r
noncomputable def zcL:=KM.r.l.r
noncomputable def zcG:=KM.r.r
noncomputable def zeI:=andThen (Wp C 66 zcG Q) Q
noncomputable def zcl:=KM.r.l.r.l.r
noncomputable def zcr:=KM.r.r.r
noncomputable def Zv:=KM.r.r.r.l.l.l
noncomputable def zb8:=KM.r.r.r.r
noncomputable def zfw:=andThen (Wp C 66 zb8 Q) Q
noncomputable def ZZ:=oI 0 (zfw C Q)
noncomputable def zcJ:=KM.r.r.r.l.l.l.l.r
noncomputable def zcD:=KM.r.r.r.l.l.l.r
noncomputable def ze4:=andThen (Wp C 66 zcD Q) Q
noncomputable def zcu:=KM.r.r.r.r.l.r
noncomputable def zcI:=KM.r.r.r.r.r
noncomputable def ze2:=andThen (Wp C 66 zcI Q) Q
noncomputable def YF:=KM.r.r.r.l.l.l.r.l.l.r
noncomputable def YZ:=KM.r.r.r.l.l.l.r.r
noncomputable def zf2:=andThen (Wp C 66 YZ Q) Q
noncomputable def YE:=oI 1 (zf2 C Q)
noncomputable def zao:=KM.r.r.r.r.l.r.l.r
noncomputable def zah:=KM.r.r.r.r.r.r
noncomputable def Y1:=KM.r.r.r.l.l.l.r.l.l.r.l.r
noncomputable def ZL:=KM.r.r.r.l.l.l.r.l.l.r.r
noncomputable def zf1:=andThen (Wp C 66 ZL Q) Q
noncomputable def ZV:=KM.r.r.r.l.l.l.r.l.l.r.l.r.l.r
noncomputable def ZQ:=KM.r.r.r.l.l.l.r.l.l.r.r.r
noncomputable def zaE:=KM.r.r.r.l.l.l.r.l.l.r.r.r.l.r
noncomputable def Uc:=KM.r.r.r.l.l.l.r.l.l.r.r.r.r
noncomputable def zf0:=andThen (Wp C 66 Uc Q) Q
noncomputable def Zn:=KM.r.r.r.l.l.l.r.l.l.r.r.r.l.r.l.l
noncomputable def zfY(C:fj)(Q:XQ):XQ:=oI 2 Q
noncomputable def YX:=KM.r.r.r.l.l.l.r.l.l.r.r.r.r.r
noncomputable def Yl:=KM.r.r.r.l.l.l.r.l.l.r.r.r.l.r.l.l.l.r
noncomputable def X6:=KM.r.r.r.l.l.l.r.l.l.r.r.r.l.r.l.l.r
noncomputable def zd7:=andThen (Wp C 66 X6 Q) Q
noncomputable def zaH:=KM.r.r.r.l.l.l.r.l.l.r.r.r.l.r.l.l.r.r
noncomputable def zdL:=andThen (Wp C 66 Uc (YE C Q)) (YE C Q)
noncomputable def zed:=oI 2 (zdL C Q)
theorem e34:gJ C 66 KM Q ρ h=(oP (some V.ed) λa=>
 oP (some (V.I 0)) λb=>
 Wp C 66 zco Q (fc (fc ρ 2 a) 3 b) h):=by kernel_rfl
theorem zeX:gJ C 66 zco Q ρ h=(oP (some (ρ 0)) λc=>
 oP (fD c) λd=>
 oP (ef .rem 3 d (V.I 11)) λa=>
 oP (ef .neq 3 a (V.I 0)) λb=>
 Wp C 66 zcL (zeI C Q) (fc (fc (fc (fc ρ 8 c) 9 d) 10 a) 11 b) h):=by kernel_rfl
theorem zfZ:gJ C 66 zcG Q ρ h=(oP (some V.ed) λa=>
 Wp C 66 zcr Q (fc ρ 4 a) h):=by kernel_rfl
theorem zfH:gJ C 66 zcL Q ρ h=(oP (some (ρ 11)) λc=>
 bP c (
 oP (some V.ed) λa=>
 oP (some (V.I 7)) λb=>
 Wp C 66 zcl Q (fc (fc ρ 2 a) 3 b) h) (
 Q .normal ρ h)):=by kernel_rfl
theorem zgi:gJ C 66 zcr Q ρ h=(Wp C 66 (.loop Zv) (ZZ C Q) ρ h):=by kernel_rfl
theorem zge:gJ C 66 zb8 Q ρ h=(oP (some (ρ 4)) λa=>
 dcP C mI [a] h λb d=>
 oP (qH .not b) λc=>
 Wp C 66 zcu (ze2 C Q) (fc (fc (fc ρ 62 a) 63 b) 64 c) d):=by kernel_rfl
theorem zgd:gJ C 66 zcl Q ρ h=(Q .ret ρ h):=by kernel_rfl
theorem ze5:gJ C 66 zcI Q ρ h=(oP (some (ρ 4)) λa=>
 oP (some a) λb=>
 oP (some (V.I 0)) λc=>
 Wp C 66 zah Q (fc (fc (fc ρ 65 a) 2 b) 3 c) h):=by kernel_rfl
theorem zeZ:gJ C 66 Zv Q ρ h=(oP (some (ρ 0)) λa=>
 oP (fD a) λb=>
 oP (ef .gtr 3 b (V.I 0)) λc=>
 Wp C 66 zcJ (ze4 C Q) (fc (fc (fc ρ 12 a) 13 b) 14 c) h):=by kernel_rfl
theorem zfu:gJ C 66 zcu Q ρ h=(oP (some (ρ 64)) λc=>
 bP c (
 oP (some V.ed) λa=>
 oP (some (V.I 5)) λb=>
 Wp C 66 zao Q (fc (fc ρ 2 a) 3 b) h) (
 Q .normal ρ h)):=by kernel_rfl
theorem zdb:gJ C 66 zah Q ρ h=(Q .ret ρ h):=by kernel_rfl
theorem zfm:gJ C 66 zcD Q ρ h=(oP (some (ρ 0)) λa=>
 oP (gP 1 a (V.I 0)) λb=>
 oP (eC b h) λc=>
 oP (jT .i64 c) λd=>
 oP (some (ρ 0)) λe=>
 oP (gP 1 e (V.I 1)) λf=>
 oP (eC f h) λg=>
 oP (ef .quo 5 g (V.int .u8 16)) λi=>
 oP (jT .i64 i) λj=>
 oP (some (ρ 0)) λk=>
 oP (gP 1 k (V.I 1)) λm=>
 oP (eC m h) λn=>
 oP (ef .rem 5 n (V.int .u8 16)) λo=>
 oP (jT .i64 o) λp=>
 oP (some (ρ 0)) λq=>
 oP (gP 1 q (V.I 2)) λr=>
 oP (eC r h) λs=>
 oP (jT .i64 s) λt=>
 oP (fm [(V.I 0),(V.I 0),(V.I 0),(V.I 0),(V.I 0)] [(0,1),(1,1),(2,1),(3,1),(4,1)] [(0,d),(1,j),(2,p),(3,t)]) λu=>
 vj (some (.cells 102 1 true false [(V.I 0),(V.I 0),(V.I 0),(V.I 0),(V.I 0)],λl=> .ptr l 0)) h λv x w=>
 ((w.get (h.next)=some v/\O.beq v v=true)/\
 ((fm [(V.I 0),(V.I 0),(V.I 0),(V.I 0),(V.I 0)] [(0,1),(1,1),(2,1),(3,1),(4,1)] [(0,d),(1,j),(2,p),(3,t)]=some u)/\
 ((jT .i64 s=some t)/\
 ((eC r w=some s)/\
 ((gP 1 q (V.I 2)=some r)/\
 ((some (ρ 0)=some q)/\
 ((jT .i64 o=some p)/\
 ((ef .rem 5 n (V.int .u8 16)=some o)/\
 ((eC m w=some n)/\
 ((gP 1 k (V.I 1)=some m)/\
 ((some (ρ 0)=some k)/\
 ((jT .i64 i=some j)/\
 ((ef .quo 5 g (V.int .u8 16)=some i)/\
 ((eC f w=some g)/\
 ((gP 1 e (V.I 1)=some f)/\
 ((some (ρ 0)=some e)/\
 ((jT .i64 c=some d)/\
 ((eC b w=some c)/\
 ((gP 1 a (V.I 0)=some b)/\
 ((some (ρ 0)=some a)/\
 fg (gL 5 x u w) λz y=>
 (w.next<=y.next/\
 Wp C 66 YF (YE C Q) (fc (fc (fc (fc (fc (fc (fc (fc (fc (fc (fc (fc (fc (fc (fc (fc (fc (fc (fc (fc ρ 17 a) 18 b) 19 c) 20 d) 21 e) 22 f) 23 g) 24 i) 25 j) 26 k) 27 m) 28 n) 29 o) 30 p) 31 q) 32 r) 33 s) 34 t) 35 u) 5 x) y)))))))))))))))))))))):=by kernel_rfl
theorem zfQ:gJ C 66 zcJ Q ρ h=(oP (some (ρ 14)) λc=>
 bP c (
 Q .normal ρ h) (
 Q (.exit 0) ρ h)):=by kernel_rfl
theorem zdU:gJ C 66 YZ Q ρ h=(oP (some (ρ 0)) λa=>
 oP (iL 1 a (some (V.I 11)) none h) λb=>
 oP (some b) λc=>
 Q .normal (fc (fc (fc ρ 15 a) 16 b) 0 c) h):=by kernel_rfl
theorem zdx:gJ C 66 zao Q ρ h=(Q .ret ρ h):=by kernel_rfl
theorem zeo:gJ C 66 YF Q ρ h=(oP (fK 0 (ρ 5)) λa=>
 oP (eC a h) λb=>
 dcP C lD [b] h λc e=>
 oP (ef .eql 9 c (V.str [])) λd=>
 Wp C 66 Y1 (zf1 C Q) (fc (fc (fc (fc ρ 36 a) 37 b) 38 c) 39 d) e):=by kernel_rfl
theorem zdc:gJ C 66 ZL Q ρ h=(oP (some (V.int .u64 0)) λa=>
 Wp C 66 ZQ Q (fc ρ 6 a) h):=by kernel_rfl
theorem zdg:gJ C 66 Y1 Q ρ h=(oP (some (ρ 39)) λc=>
 bP c (
 oP (some V.ed) λa=>
 oP (some (V.I 30)) λb=>
 Wp C 66 ZV Q (fc (fc ρ 2 a) 3 b) h) (
 Q .normal ρ h)):=by kernel_rfl
theorem zdr:gJ C 66 ZQ Q ρ h=(oP (some (V.I 0)) λa=>
 Wp C 66 zaE (zf0 C Q) (fc ρ 7 a) h):=by kernel_rfl
theorem zdA:gJ C 66 Uc Q ρ h=(oP (some (ρ 6)) λa=>
 oP (jT .i64 a) λb=>
 oP (fK 4 (ρ 5)) λc=>
 fg (gL 1 c b h) λe d=>
 Wp C 66 YX Q (fc (fc (fc ρ 55 a) 56 b) 57 c) d):=by kernel_rfl
theorem zdR:gJ C 66 ZV Q ρ h=(Q .ret ρ h):=by kernel_rfl
theorem zdj:gJ C 66 zaE Q ρ h=(Wp C 66 (.loop Zn) (zfY C Q) ρ h):=by kernel_rfl
theorem zdV:gJ C 66 YX Q ρ h=(oP (some (ρ 4)) λa=>
 oP (gy 5 (ρ 5) h) λb=>
 hZ (iK 102 5 1 (V.agg [(V.I 0),(V.I 0),(V.I 0),(V.I 0),(V.I 0)]) [(0,b)]) h λc e=>
 fg (eQ 102 5 40 a c e) λd f=>
 oP (some d) λg=>
 Q .normal (fc (fc (fc (fc (fc ρ 58 a) 59 b) 60 c) 61 d) 4 g) f):=by kernel_rfl
theorem zfa:gJ C 66 Zn Q ρ h=(oP (some (ρ 7)) λa=>
 oP (ef .lss 3 a (V.I 8)) λb=>
 Wp C 66 Yl (zd7 C Q) (fc (fc ρ 40 a) 41 b) h):=by kernel_rfl
theorem zd1:gJ C 66 X6 Q ρ h=(oP (some (ρ 6)) λa=>
 oP (some (ρ 0)) λb=>
 oP (some (ρ 7)) λc=>
 oP (ef .add 3 (V.I 3) c) λd=>
 oP (gP 1 b d) λe=>
 oP (eC e h) λf=>
 oP (jT .u64 f) λg=>
 oP (some (ρ 7)) λi=>
 oP (ef .mul 3 (V.I 8) i) λj=>
 oP (ef .shl 63 g j) λk=>
 oP (ef .or 63 a k) λl=>
 oP (some l) λm=>
 Wp C 66 zaH Q (fc (fc (fc (fc (fc (fc (fc (fc (fc (fc (fc (fc ρ 44 a) 45 b) 46 c) 47 d) 48 e) 49 f) 50 g) 51 i) 52 j) 53 k) 54 l) 6 m) h):=by kernel_rfl
theorem zdG:gJ C 66 Yl Q ρ h=(oP (some (ρ 41)) λc=>
 bP c (
 Q .normal ρ h) (
 Q (.exit 2) ρ h)):=by kernel_rfl
theorem zdB:gJ C 66 zaH Q ρ h=(oP (some (ρ 7)) λa=>
 oP (ef .add 3 a (V.I 1)) λb=>
 oP (some b) λc=>
 Q .normal (fc (fc (fc ρ 42 a) 43 b) 7 c) h):=by kernel_rfl
theorem g34{C:fj}(hs:C.start=fy)(a:V){h:Hp}{Q:fo}(b:C.K ml [a] h=none)(H:gJ C 66 KM (zK [.tmp 2,.tmp 3] Q) (Il [a]) h):cP C ml [a] h Q:=
 cP.Sh hs (show P0.funcs[34]? =some Tryz.f34 by unfold P0;exact Tryz.func34) (by kernel_rfl) (by kernel_rfl) (by kernel_rfl) b (Iv rfl) (Wp.code _ H)
noncomputable def yS(C:fj)(Q:fo)(a b:V)(h:Hp):Prop:=∀ρ:gg,ρ 0=a->ρ 4=b->Wp C 66 (.loop Zv) (ZZ C (zK [.tmp 2,.tmp 3] Q)) ρ h
noncomputable def zm(C:fj)(Q:fo)(a:Xw)(b c d e f:V)(h:Hp):Prop:=∀ρ:gg,ρ 0=b->ρ 4=c->ρ 5=d->ρ 6=e->ρ 7=f->Wp C 66 (.loop Zn) (zed C (andThen (λρ h=>a (ρ 0) (ρ 4) h) (ZZ C (zK [.tmp 2,.tmp 3] Q)))) ρ h
noncomputable def rI(C:fj) (Q:fo) (n:Xw) (c o:V) (h:Hp):Prop:=oP (fD c) λp=>oP (ef .gtr 3 p (V.I 0)) λq=>bP q (oP (gP 1 c (V.I 0)) λd=>oP (eC d h) λe=>oP (jT .i64 e) λr=>oP (gP 1 c (V.I 1)) λf=>oP (eC f h) λg=>oP (ef .quo 5 g (V.int .u8 16)) λs=>oP (jT .i64 s) λt=>oP (gP 1 c (V.I 1)) λi=>oP (eC i h) λj=>oP (ef .rem 5 j (V.int .u8 16)) λu=>oP (jT .i64 u) λv=>oP (gP 1 c (V.I 2)) λk=>oP (eC k h) λm=>oP (jT .i64 m) λw=>oP (fm [(V.I 0),(V.I 0),(V.I 0),(V.I 0),(V.I 0)] [(0,1),(1,1),(2,1),(3,1),(4,1)] [(0,r),(1,t),(2,v),(3,w)]) λx=>vj (some (.cells 102 1 true false [(V.I 0),(V.I 0),(V.I 0),(V.I 0),(V.I 0)],λl=> .ptr l 0)) h λa y b=>((b.get (h.next)=some a/\O.beq a a=true)/\((eC k b=some m)/\((eC i b=some j)/\((eC f b=some g)/\((eC d b=some e)/\fg (gL 5 y x b) λJ z=>(b.next<=z.next/\oP (fK 0 y) λA=>oP (eC A z) λB=>cP C lD [B] z λD H=>oP (ef .eql 9 D (V.str [])) λE=>bP E (Q (V.tuple [V.ed,(V.I 30)]) H) (zm C Q n c o y (V.int .u64 0) (V.I 0) H)))))))) (cP C mI [o] h λF I=>oP (qH .not F) λG=>bP G (Q (V.tuple [V.ed,(V.I 5)]) I) (Q (V.tuple [o,(V.I 0)]) I))
theorem Hu{C:fj}{Q:fo}(I:Nat->Xw)(step:∀(k:Nat)(a b:V)(h:Hp),I k a b h->rI C Q (λa b h=>∃k',k' < k/\I k' a b h) a b h){k:Nat}{a b:V}{h:Hp}(h0:I k a b h):yS C Q a b h:=by
 intro ρ e0 t;subst e0;subst t;refine Wp.Te (λk ρ h=>I k (ρ 0) (ρ 4) h) (λk ρ h hi=>?_) h0;have H:=step k (ρ 0) (ρ 4) h hi;unfold rI at H;exact Wp.of (zeZ _ _ _ _) (km (oM H λu _ H=>oM H λv _ H=>Wp.of (zfQ _ _ _ _) (km (bM H (λH=>Wp.of (zfm _ _ _ _) (km (oM H λw c H=>oM H λx p H=>oM H λy d H=>km (oM H λz e H=>oM H λA q H=>oM H λB f H=>oM H λD g H=>km (oM H λE i H=>oM H λF r H=>oM H λG j H=>oM H λJ l H=>km (oM H λK m H=>oM H λL s H=>oM H λM n H=>oM H λN o H=>zbY H λO X Y H=>Mn H λH=>⟨o,⟨n,Mn H λH=>⟨m,⟨rfl,⟨l,⟨j,Mn H λH=>⟨i,⟨rfl,⟨g,⟨f,Mn H λH=>⟨e,⟨rfl,⟨d,Mn H λH=>⟨c,⟨rfl,Nq H λZ h2 H=>Mn H λH=>Wp.of (zeo _ _ _ _) (oM H λP _ H=>oM H λR _ H=>dcM H λS h3 H=>oM H λT _ H=>Wp.of (zdg _ _ _ _) (km (bM H (λH=>km (km (Wp.of (zdR _ _ _ _) (H)))) (λH=>Wp.of (zdc _ _ _ _) (km (Wp.of (zdr _ _ _ _) (km (Wp.of (zdj _ _ _ _) (H _ rfl rfl rfl rfl rfl)))))))))⟩⟩⟩⟩⟩⟩⟩⟩⟩⟩⟩⟩⟩⟩⟩)))))) (λH=>Wp.of (zge _ _ _ _) (km (dcM H λU h4 H=>oM H λW _ H=>Wp.of (zfu _ _ _ _) (km (bM H (λH=>km (km (Wp.of (zdx _ _ _ _) (H)))) (λH=>Wp.of (ze5 _ _ _ _) (km (km (km (Wp.of (zdb _ _ _ _) (H)))))))))))))))
noncomputable def rC(C:fj) (Q:fo) (b:Xw) (c:AE) (d v e w a:V) (h:Hp):Prop:=oP (ef .lss 3 a (V.I 8)) λf=>bP f (oP (ef .add 3 (V.I 3) a) λg=>oP (gP 1 d g) λi=>oP (eC i h) λj=>oP (jT .u64 j) λk=>oP (ef .mul 3 (V.I 8) a) λl=>oP (ef .shl 63 k l) λm=>oP (ef .or 63 w m) λn=>oP (ef .add 3 a (V.I 1)) λo=>c d v e n o h) (oP (jT .i64 w) λp=>oP (fK 4 e) λq=>fg (gL 1 q p h) λA x=>oP (gy 5 e x) λr=>hZ (iK 102 5 1 (V.agg [(V.I 0),(V.I 0),(V.I 0),(V.I 0),(V.I 0)]) [(0,r)]) x λs z=>fg (eQ 102 5 40 v s z) λt y=>oP (iL 1 d (some (V.I 11)) none y) λu=>b u t y)
theorem HE{C:fj}{Q:fo}{f:Xw}(I:Nat->AE)(step:∀(k:Nat)(a b c d e:V)(h:Hp),I k a b c d e h->rC C Q f (λa b c d e h=>∃k',k' < k/\I k' a b c d e h) a b c d e h){k:Nat}{a b c d e:V}{h:Hp}(h0:I k a b c d e h):zm C Q f a b c d e h:=by
 intro ρ e0 g i j l;subst e0;subst g;subst i;subst j;subst l;refine Wp.Te (λk ρ h=>I k (ρ 0) (ρ 4) (ρ 5) (ρ 6) (ρ 7) h) (λk ρ h hi=>?_) h0;have H:=step k (ρ 0) (ρ 4) (ρ 5) (ρ 6) (ρ 7) h hi;unfold rC at H;exact Wp.of (zfa _ _ _ _) (km (oM H λm _ H=>Wp.of (zdG _ _ _ _) (km (bM H (λH=>Wp.of (zd1 _ _ _ _) (km (km (km (oM H λn _ H=>oM H λo _ H=>oM H λp _ H=>oM H λq _ H=>km (oM H λr _ H=>oM H λs _ H=>oM H λt _ H=>km (Wp.of (zdB _ _ _ _) (km (oM H λu _ H=>km (H)))))))))) (λH=>Wp.of (zdA _ _ _ _) (km (oM H λv _ H=>oM H λw _ H=>Nq H λB D H=>Wp.of (zdV _ _ _ _) (km (oM H λx _ H=>alM H λy E H=>Nq H λz F H=>km (Wp.of (zdU _ _ _ _) (km (oM H λA _ H=>km (H)))))))))))))
noncomputable def wh(C:fj) (Q:fo) (c:V) (h:Hp):Prop:=oP (fD c) λd=>oP (ef .rem 3 d (V.I 11)) λa=>oP (ef .neq 3 a (V.I 0)) λb=>bP b (Q (V.tuple [V.ed,(V.I 7)]) h) (yS C Q c V.ed h)
theorem Ld{C:fj}(hs:C.start=fy){a:V}{h:Hp}{Q:fo}(b:C.K ml [a] h=none)(H:wh C Q a h):cP C ml [a] h Q:=by
 unfold wh at H;exact g34 hs _ b ((e34 _ _ _ _).mpr (km (km (Wp.of (zeX _ _ _ _) (km (oM H λe _ H=>oM H λc _ H=>oM H λd _ H=>Wp.of (zfH _ _ _ _) (km (bM H (λH=>km (km (Wp.of (zgd _ _ _ _) (H)))) (λH=>Wp.of (zfZ _ _ _ _) (km (Wp.of (zgi _ _ _ _) (H _ rfl rfl))))))))))))
end
def t11:List (Nat×List Nat):=[(175,[1,25,26,27]),(351,[54,55,56]),(190047,[54,55,56,71,72,73])]
def En(C:fj)(Q:fo):LP:=JV C Tryz.f11 t11 87 [1,25,26,27] [] Q
def Er(C:fj)(Q:fo):LP:=JV C Tryz.f11 t11 175 [54,55,56] [] Q
def Eo(C:fj)(Q:fo)(a:LP):LP:=JV C Tryz.f11 t11 95023 [54,55,56,71,72,73] [kf [54,55,56] a] Q
def Et(C:fj)(Q:fo)(g:LP)(i c d a:V)(h:Hp):Prop:=bO .lss 3 a d (oP (gP 5 c a) λj=>oP (gy 5 j h) λk=>hZ (zC 102 [nZ,nZ,nZ,nZ,nZ]) h λe B=>fg (gL 5 e k B) λD b=>dF 0 e b λl=>oP (ef .eql 3 l (V.I 25)) λm=>oP (mm m (oB (fK 0 e) λn=>oB (eC n b) λo=>ef .eql 3 o (V.I 26))) λp=>oP (mm p (oB (fK 0 e) λq=>oB (eC q b) λr=>ef .eql 3 r (V.I 27))) λs=>oP (iM s (oB (fK 4 e) λt=>oB (eC t b) λu=>oB (fK 3 i) λv=>oB (eC v b) λw=>oB (fD w) λx=>ef .geq 2 u x)) λy=>bP y (Q bF b) (oP (ef .add 3 a nO) λz=>g [i,c,d,z] b)) (dF 3 i h λf=>oP (fD f) λA=>Er C Q [f,A,nZ] h)
theorem My{C Q}(I)(s:S4 I (Et C Q)){k l h}(i:I k l h)(e:l.length=4:=by rfl):En C Q l h:=JV.l4 I _ s i e
def Es(C:fj)(Q:fo)(g:LP)(b c a:V)(h:Hp):Prop:=bO .lss 3 a c (oP (gP 3 b a) λi=>oP (gy 3 i h) λj=>hZ (zC 51 [nS,nZ,nZ]) h λf r=>fg (gL 3 f j r) λs d=>dG 0 f d λk=>oP (ef .eql 3 k nZ) λl=>oP (mm l (oB (fK 0 f) λm=>oB (eC m d) λn=>oB (fD n) λo=>ef .gtr 3 o (V.I 30))) λp=>bP p (Q bF d) (dF 0 f d λe=>oP (fD e) λq=>Eo C Q g [b,c,a,e,q,nZ] d)) (Q bT h)
theorem Mk{C Q}(I)(s:S3 I (Es C Q)){k l h}(i:I k l h)(e:l.length=3:=by rfl):Er C Q l h:=JV.l3 I _ s i e
def Ep(C:fj)(Q:fo)(m:LP)(n:LP)(e f g i j d:V)(h:Hp):Prop:=bO .lss 3 d j (oP (gP 4 i d) λo=>oP (gy 4 o h) λp=>hZ (zC 48 [nZ,nZ,nS,nS]) h λa O=>fg (gL 4 a p O) λP l=>dG 2 a l λq=>oP (ef .gtr 3 q (V.I 40)) λr=>oP (mm r (oB (fK 3 a) λs=>oB (eC s l) λt=>oB (fD t) λu=>ef .gtr 3 u (V.I 60))) λb=>oP (gW false b) λv=>oP (gV v (fK 2 a)) λw=>oP (gW false b) λx=>oP (gV x (eC w l)) λy=>oP (gW false b) λz=>oP (gC z (some (wE,[y,bF]))) λA=>AS C A l λB M=>oP (mm b (qH .not B)) λc=>oP (gW false c) λD=>oP (gV D (fK 3 a)) λE=>oP (gW false c) λF=>oP (gV F (eC E M)) λG=>oP (gW false c) λH=>oP (gC H (some (wE,[G,bF]))) λI=>AS C I M λJ N=>oP (mm c (qH .not J)) λK=>bP K (Q bF N) (oP (ef .add 3 d nO) λL=>n [e,f,g,i,j,L] N)) (oP (ef .add 3 g nO) λk=>m [e,f,k] h)
theorem Mj{C Q a}(I)(s:S6 I (Ep C Q a)){k l h}(i:I k l h)(e:l.length=6:=by rfl):Eo C Q a l h:=JV.l6 I _ s i e
def Kr(C:fj)(Q:fo)(p:V)(h:Hp):Prop:=hZ (nj 29 p) h λd m=>dF 2 d m λe=>cP C ml [e] m λb n=>oP (Dh 0 b) λc=>oP (Dh 1 b) λf=>oP (ef .neq 40 f nZ) λa=>oP (gW false a) λq=>oP (gV q (fK 4 d)) λg=>oP (gW false a) λr=>oP (gV r (eC g n)) λi=>oP (gW false a) λs=>oP (gC s (some (wE,[i,bT]))) λt=>AS C t n λj o=>oP (mm a (qH .not j)) λk=>bP k (Q bF o) (oP (fD c) λl=>En C Q [d,c,l,nZ] o)
theorem QZ{C}(s:C.start=fy){a h Q}(k:C.K zx [a] h=none)(H:Kr C Q a h):cP C zx [a] h Q:=cP.vd t11 s (by unfold P0;exact Tryz.func11) k H
def t35:List (Nat×List Nat):=[(43,[1,7,8,9])]
def Ir(C:fj)(Q:fo):LP:=JV C Tryz.f35 t35 21 [1,7,8,9] [] Q
def Iw(C:fj)(Q:fo)(a:LP)(i j k b:V)(h:Hp):Prop:=bO .lss 3 b k (oP (gP 2 j b) λc=>oP (gy 2 c h) λd=>hZ (zC 46 [nZ,nZ]) h λl o=>fg (gL 2 l d o) λp m=>oP (gy 2 l m) λe=>cP C zv [e,i] m λf n=>bN f (Q bF n) (oP (ef .add 3 b nO) λg=>a [i,j,k,g] n)) (Q bT h)
theorem OS{C Q}(I)(s:S4 I (Iw C Q)){k l h}(i:I k l h)(e:l.length=4:=by rfl):Ir C Q l h:=JV.l4 I _ s i e
def NY(C:fj)(Q:fo)(a b:V)(h:Hp):Prop:=oP (fD a) λc=>Ir C Q [b,a,c,nZ] h
theorem Vb{C}(s:C.start=fy){a b h Q}(k:C.K wE [a,b] h=none)(H:NY C Q a b h):cP C wE [a,b] h Q:=cP.vd t35 s (by unfold P0;exact Tryz.func35) k H
def t75:List (Nat×List Nat):=[]
def J7(C:fj)(Q:fo)(w v:V)(h:Hp):Prop:=hZ (nj 46 w) h λb a=>dF 0 b a λc=>bO .eql 3 c nO (dF 1 b a λd=>oP (ef .geq 2 d nZ) λe=>oP (iM e (oB (fK 1 b) λf=>oB (eC f a) λg=>ef .lss 2 g (V.I 16))) λi=>Q i a) (bO .eql 3 c (V.I 2) (dF 1 b a λj=>oP (ef .geq 2 j nZ) λk=>oP (iM k (oB (fK 1 b) λl=>oB (eC l a) λm=>ef .lss 2 m (V.I 400))) λn=>Q n a) (bO .eql 3 c (V.I 3) (oP (qH .not v) λo=>Q o a) (dF 0 b a λp=>oP (ef .eql 3 p (V.I 4)) λq=>oP (iM q (some v)) λr=>oP (iM r (oB (fK 1 b) λs=>oB (eC s a) λt=>ef .eql 2 t nZ)) λu=>Q u a)))
theorem Q9{C}(s:C.start=fy){a b h Q}(k:C.K zv [a,b] h=none)(H:J7 C Q a b h):cP C zv [a,b] h Q:=cP.vd t75 s (by unfold P0;exact Tryz.func75) k H
end
