/- Parts. -/
import Derived.Test.YtkpicojjjifmgabGreatDoorM35
set_option maxHeartbeats 4000000
namespace Go.Proofs.YtkpicojjjifmgabGreatDoor.Hx
set_option maxRecDepth 100000
noncomputable section
def t12:List (Nat×List Nat):=[(87,[0,3,4]),(23703,[0,3,4,5,6,7,8])]
def rz(C:fu)(Q:fD):LP:=JV C Tryz.f12 t12 43 [0,3,4] [] Q
def rF(C:fu)(Q:fD)(fU:LP):LP:=JV C Tryz.f12 t12 11851 [0,3,4,5,6,7,8] [kf [0,3,4] fU] Q
def rS(C:fu)(Q:fD)(fU:LP)(d e a:V)(h:Hp):Prop:=oP (fI d) λf=>oP (ez .lss 3 a f) λg=>oP (kE g (oB (some a) λi=>ez .lss 3 i (V.I 8))) λj=>bP j (oP (gB 1 d a) λk=>oP (fe k h) λl=>oP (ez .rem 89 l (V.int .u64 5)) λm=>oP (ur .i64 m) λb=>oP (gB 1 d a) λn=>oP (fe n h) λo=>oP (ez .rem 89 o (V.int .u64 3)) λp=>oP (ur .i64 p) λq=>oP (ez .add 3 (V.I 5) q) λr=>cP C kR [e,r,b] h λc u=>oP (CN 0 c) λs=>oP (CN 1 c) λt=>rF C Q fU [d,e,a,b,s,t,nZ] u) (Q e h)
theorem A1{C Q}(I)(s:S3 I (rS C Q)){k l h}(i:I k l h)(e:l.length=3:=by rfl):rz C Q l h:=JV.l3 I _ s i e
def ri(C:fu)(Q:fD)(fU:LP)(b:LP)(c d e q r s a:V)(h:Hp):Prop:=oP (kE s (oB (some a) λf=>oB (some q) λg=>ez .lss 3 f g)) λi=>bP i (oP (gB 1 c e) λj=>oP (fe j h) λk=>oP (ez .mul 3 a (V.I 9)) λl=>oP (ur .u64 l) λm=>oP (ez .shr 89 k m) λn=>cP C mh [d,r,a,n] h λt u=>oP (ez .add 3 a nO) λo=>b [c,d,e,q,r,s,o] u) (oP (ez .add 3 e nO) λp=>fU [c,d,p] h)
theorem Be{C Q fU}(I)(s:S7 I (ri C Q fU)){k l h}(i:I k l h)(e:l.length=7:=by rfl):rF C Q fU l h:=JV.l7 I _ s i e
def wE(C:fu)(Q:fD)(a0:V)(h:Hp):Prop:=cP C mB [(V.I 100)] h λa b=>rz C Q [a0,a,nZ] b
theorem DU{C}(s:C.start=fQ){a0 h Q}(k:C.K mD [a0] h=none)(H:wE C Q a0 h):cP C mD [a0] h Q:=cP.vd t12 s (by unfold P0;exact Tryz.func12) k H
def t13:List (Nat×List Nat):=[(87,[0,3,4])]
def sh(C:fu)(Q:fD):LP:=JV C Tryz.f13 t13 43 [0,3,4] [] Q
def sj(C:fu)(Q:fD)(fU:LP)(b k a:V)(h:Hp):Prop:=oP (fI b) λl=>oP (ez .lss 3 a l) λm=>oP (kE m (oB (some a) λc=>ez .lss 3 c (V.I 6))) λd=>bP d (oP (gB 1 b a) λe=>oP (fe e h) λf=>hV (jz 89 1 1 (V.int .u64 0) [(0,f)]) h λg n=>fm (fh 89 1 8 k g n) λi o=>oP (ez .add 3 a nO) λj=>fU [b,i,j] o) (Q k h)
theorem B7{C Q}(I)(s:S3 I (sj C Q)){k l h}(i:I k l h)(e:l.length=3:=by rfl):sh C Q l h:=JV.l3 I _ s i e
def xV(C:fu)(Q:fD)(a0:V)(h:Hp):Prop:=sh C Q [a0,nS,nZ] h
theorem EE{C}(s:C.start=fQ){a0 h Q}(k:C.K mX [a0] h=none)(H:xV C Q a0 h):cP C mX [a0] h Q:=cP.vd t13 s (by unfold P0;exact Tryz.func13) k H
def t42:List (Nat×List Nat):=[(87,[0,1,5])]
def qi(C:fu)(Q:fD):LP:=JV C Tryz.f42 t42 43 [0,1,5] [] Q
def qk(C:fu)(Q:fD)(fU:LP)(b l a:V)(h:Hp):Prop:=oP (fI b) λc=>oP (ez .lss 3 a c) λd=>bP d (oP (gB 1 b a) λe=>oP (fe e h) λf=>oP (gB 1 l a) λg=>oP (fe g h) λi=>oP (ez .neq 89 f i) λj=>bP j (Q bF h) (oP (ez .add 3 a nO) λk=>fU [b,l,k] h)) (Q bT h)
theorem zN{C Q}(I)(s:S3 I (qk C Q)){k l h}(i:I k l h)(e:l.length=3:=by rfl):qi C Q l h:=JV.l3 I _ s i e
def tJ(C:fu)(Q:fD)(a0 a1:V)(h:Hp):Prop:=oP (fI a0) λb=>oP (fI a1) λc=>oP (ez .neq 3 b c) λa=>bP a (Q bF h) (qi C Q [a0,a1,nZ] h)
theorem BO{C}(s:C.start=fQ){a0 a1 h Q}(k:C.K jX [a0,a1] h=none)(H:tJ C Q a0 a1 h):cP C jX [a0,a1] h Q:=cP.vd t42 s (by unfold P0;exact Tryz.func42) k H
def t39:List (Nat×List Nat):=[]
def tw(C:fu)(Q:fD)(a0:V)(h:Hp):Prop:=oP (iL a0) λm=>oP (fJ 0 m) λc=>oP (fe c h) λd=>yp (jz 89 1 0 (V.int .u64 0) []) h λe n b=>dN 1 a0 b λf=>((b.get (h.next)=some e/\O.beq e e=true)/\((fe c b=some d)/\fm (fh 89 1 8 n f b) λg i=>(b.next<=i.next/\oP (fV [nZ,nS] [(0,1),(1,1)] [(0,d),(1,g)]) λj=>yp (lR 87 j) i λa k l=>((l.get (i.next)=some a/\O.beq a a=true)/\((fe c l=some d)/\Q k l)))))
theorem BN{C}(s:C.start=fQ){a0 h Q}(k:C.K iR [a0] h=none)(H:tw C Q a0 h):cP C iR [a0] h Q:=cP.vd t39 s (by unfold P0;exact Tryz.func39) k H
def t43:List (Nat×List Nat):=[]
def vR(C:fu)(Q:fD)(a0:V)(h:Hp):Prop:=hV (jz 89 1 1 (V.int .u64 0) [(0,(V.int .u64 0))]) h λa b=>oP (fV [nZ,nS] [(0,1),(1,1)] [(0,a0),(1,a)]) λc=>hV (lR 87 c) b λd e=>Q d e
theorem Eh{C}(s:C.start=fQ){a0 h Q}(k:C.K mB [a0] h=none)(H:vR C Q a0 h):cP C mB [a0] h Q:=cP.vd t43 s (by unfold P0;exact Tryz.func43) k H
def t44:List (Nat×List Nat):=[(351,[0,2,8,9])]
def p6(C:fu)(Q:fD):LP:=JV C Tryz.f44 t44 175 [0,2,8,9] [] Q
def pV(C:fu)(Q:fD)(fU:LP)(a i j k:V)(h:Hp):Prop:=bO .lss 3 k i (dN 1 a h λb=>hV (jz 89 1 1 (V.int .u64 0) [(0,(V.int .u64 0))]) h λc l=>fm (fh 89 1 8 b c l) λd m=>oP (iL a) λe=>oP (fJ 1 e) λf=>fm (gJ 1 f d m) λo n=>oP (ez .add 3 k nO) λg=>fU [a,i,j,g] n) (Q (V.tuple [j,bT]) h)
theorem zm{C Q}(I)(s:S4 I (pV C Q)){k l h}(i:I k l h)(e:l.length=4:=by rfl):p6 C Q l h:=JV.l4 I _ s i e
def ru(C:fu)(Q:fD)(a0 a1 a2:V)(h:Hp):Prop:=oP (ez .lss 3 a1 nZ) λa=>oP (og a (oB (some a1) λb=>ez .gtr 3 b (V.I 1048576))) λc=>oP (og c (oB (some a2) λd=>ez .lss 3 d nZ)) λe=>oP (og e (oB (some a2) λf=>ez .gtr 3 f (V.I 1048576))) λg=>oP (og g (oB (some a2) λi=>oB (ez .add 3 i nO) λj=>oB (some a0) λk=>oB (iL k) λl=>oB (fJ 0 l) λm=>oB (fe m h) λn=>oB (some a0) λo=>oB (iL o) λp=>oB (fJ 1 p) λq=>oB (fe q h) λr=>oB (fI r) λs=>oB (ez .sub 3 n s) λt=>ez .gtr 3 j t)) λu=>bP u (Q (V.tuple [(V.int .u64 0),bF]) h) (oP (iL a0) λv=>dG 1 v h λw=>oP (ur .u64 w) λx=>dN 1 a0 h λy=>oP (ur .u64 a1) λz=>oP (ez .shl 89 z (V.int .u64 32)) λA=>oP (ur .u64 a2) λB=>oP (ez .add 89 A B) λD=>hV (jz 89 1 1 (V.int .u64 0) [(0,D)]) h λE I=>fm (fh 89 1 8 y E I) λF J=>oP (iL a0) λG=>oP (fJ 1 G) λH=>fm (gJ 1 H F J) λL K=>p6 C Q [a0,a2,x,nZ] K)
theorem A3{C}(s:C.start=fQ){a0 a1 a2 h Q}(k:C.K kR [a0,a1,a2] h=none)(H:ru C Q a0 a1 a2 h):cP C kR [a0,a1,a2] h Q:=cP.vd t44 s (by unfold P0;exact Tryz.func44) k H
def t45:List (Nat×List Nat):=[]
def uL(C:fu)(Q:fD)(a0 a1 a2 a3:V)(h:Hp):Prop:=oP (ez .eql 89 a1 (V.int .u64 0)) λb=>oP (og b (oB (some a2) λc=>ez .lss 3 c nZ)) λa=>oP (fF false a) λq=>oP (gV q (some a2)) λd=>oP (fF false a) λr=>oP (gV r (some a0)) λe=>oP (fF false a) λs=>oP (gV s (some a1)) λf=>oP (fF false a) λg=>oP (gC g (some (j9,[e,f]))) λi=>qP C i h λj p=>oP (og a (ez .geq 3 d j)) λk=>bP k (Q bF p) (oP (ez .add 89 a1 (V.int .u64 1)) λl=>oP (ur .u64 a2) λm=>oP (ez .add 89 l m) λn=>cP C js [a0,n,a3] p λo t=>Q o t)
theorem Dc{C}(s:C.start=fQ){a0 a1 a2 a3 h Q}(k:C.K mh [a0,a1,a2,a3] h=none)(H:uL C Q a0 a1 a2 a3 h):cP C mh [a0,a1,a2,a3] h Q:=cP.vd t45 s (by unfold P0;exact Tryz.func45) k H
def t69:List (Nat×List Nat):=[]
def tq(C:fu)(Q:fD)(a0 a1:V)(h:Hp):Prop:=cP C iP [a0,a1] h λa b=>oP (ez .shr 89 a (V.int .u64 32)) λc=>oP (ur .i64 c) λd=>Q d b
theorem Bw{C}(s:C.start=fQ){a0 a1 h Q}(k:C.K lH [a0,a1] h=none)(H:tq C Q a0 a1 h):cP C lH [a0,a1] h Q:=cP.vd t69 s (by unfold P0;exact Tryz.func69) k H
def t70:List (Nat×List Nat):=[]
def uT(C:fu)(Q:fD)(a0 a1:V)(h:Hp):Prop:=cP C iP [a0,a1] h λa b=>oP (ez .rem 89 a (V.int .u64 4294967296)) λc=>oP (ur .i64 c) λd=>Q d b
theorem CO{C}(s:C.start=fQ){a0 a1 h Q}(k:C.K j9 [a0,a1] h=none)(H:uT C Q a0 a1 h):cP C j9 [a0,a1] h Q:=cP.vd t70 s (by unfold P0;exact Tryz.func70) k H
def t71:List (Nat×List Nat):=[]
def te(C:fu)(Q:fD)(a0 a1:V)(h:Hp):Prop:=oP (iL a0) λe=>dG 1 e h λa=>oP (ur .u64 a) λb=>bO .geq 89 a1 b (Q (V.int .u64 0) h) (dN 1 a0 h λc=>dX 1 c a1 h λd=>Q d h)
theorem By{C}(s:C.start=fQ){a0 a1 h Q}(k:C.K iP [a0,a1] h=none)(H:te C Q a0 a1 h):cP C iP [a0,a1] h Q:=cP.vd t71 s (by unfold P0;exact Tryz.func71) k H
def t72:List (Nat×List Nat):=[]
def uP(C:fu)(Q:fD)(a0 a1 a2:V)(h:Hp):Prop:=oP (ez .eql 89 a1 (V.int .u64 0)) λl=>oP (og l (oB (some a1) λa=>oB (some a0) λb=>oB (iL b) λc=>oB (fJ 1 c) λd=>oB (fe d h) λe=>oB (fI e) λf=>oB (ur .u64 f) λg=>ez .geq 89 a g)) λi=>bP i (Q bF h) (dN 1 a0 h λj=>oP (gB 1 j a1) λk=>fm (gJ 1 k a2 h) λn m=>Q bT m)
theorem C8{C}(s:C.start=fQ){a0 a1 a2 h Q}(k:C.K js [a0,a1,a2] h=none)(H:uP C Q a0 a1 a2 h):cP C js [a0,a1,a2] h Q:=cP.vd t72 s (by unfold P0;exact Tryz.func72) k H
