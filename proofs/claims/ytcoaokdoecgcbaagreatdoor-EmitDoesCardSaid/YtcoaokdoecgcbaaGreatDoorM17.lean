/- Parts. -/
import Derived.Test.YtcoaokdoecgcbaaGreatDoorM14
set_option maxHeartbeats 4000000
namespace Go.Proofs.YtcoaokdoecgcbaaGreatDoor.Hx
variable{Q:fj}{h:Hp}{c d e:V}
set_option maxRecDepth 100000
noncomputable section
def t51:List (Nat×List Nat):=[(87,[1,3,12,13]),(351,[3,4,5]),(23135,[3,4,5,6])]
def GP(Q:fj)(b c a gL:V)(h:Hp):Prop:=JV CS Tryz.f51 t51 43 [1,3,12,13] [] Q [b,c,a,gL] h
def GJ(Q:fj)(a x4 b:V)(h:Hp):Prop:=JV CS Tryz.f51 t51 175 [3,4,5] [] Q [a,x4,b] h
def GD(Q:fj)(a:QP3)(b x4 c d:V)(h:Hp):Prop:=JV CS Tryz.f51 t51 11567 [3,4,5,6] [λρ h=>a (ρ 3) (ρ 4) (ρ 5) h] Q [b,x4,c,d] h
def zN(Q:fj)(fu:S3)(t k l gL:V)(h:Hp):Prop:=bO .lss 3 gL l (oP (fR k) λu=>oP (fJ 5 u) λm=>oP (ez m h) λn=>oP (fJ 2 t) λo=>oP (ez o h) λp=>oP (fE p) λq=>uj (jy 4 1 1 bF q q) h λv w N=>uj (iO 130 1 1 nS [(0,w)]) N λd x r=>oP (fR k) λy=>oP (fJ 6 y) λe=>oP (ez e r) λf=>oP (fJ 2 t) λg=>oP (ez g r) λi=>oP (fE i) λs=>uj (jy 4 1 1 bF s s) r λa z A=>uj (iO 130 1 1 nS [(0,z)]) A λb B c=>((c.get (A.next)=some b/\O.beq b b=true)/\((c.get (r.next)=some a/\O.beq a a=true)/\((ez g c=some i)/\((ez e c=some f)/\((c.get (N.next)=some d/\O.beq d d=true)/\((c.get (h.next)=some v/\O.beq v v=true)/\((ez o c=some p)/\((ez m c=some n)/\eJ (fg 130 1 24 n x c) λC j=>(c.next<=j.next/\((j.get (A.next)=some b/\O.beq b b=true)/\((j.get (r.next)=some a/\O.beq a a=true)/\((ez g j=some i)/\((ez e j=some f)/\eJ (fg 130 1 24 f B j) λD E=>(j.next<=E.next/\oP (fR k) λF=>oP (fJ 5 F) λG=>eJ (gj 1 G C E) λT H=>(E.next<=H.next/\oP (fR k) λI=>oP (fJ 6 I) λJ=>eJ (gj 1 J D H) λP R=>(H.next<=R.next/\oP (ef .add 3 gL nO) λK=>fu t k l K R))))))))))))))))) (oP (fZ 5 t h) λL=>cP CS sL [L] h λM S=>GJ Q k M bT S)
theorem OY{Q}(I)(s:P4 I (zN Q)){k b c a gL h}(i:I k b c a gL h):GP Q b c a gL h:=WA.ln 4 [b,c,a,gL] I (zN Q) s i
def zE(Q:fj)(a:QP3)(d x4 e:V)(h:Hp):Prop:=bP e (oP (fE x4) λb=>oP (ef .sub 3 b nO) λc=>GD Q a d x4 bF c h) (Q d h)
theorem OU{Q}(I)(s:P3 I (zE Q)){k a x4 b h}(i:I k a x4 b h):GJ Q a x4 b h:=WA.ln 3 [a,x4,b] I (zE Q) s i
def zS(Q:fj)(a:QP3)(b:S3)(c x4 j d:V)(h:Hp):Prop:=bO .geq 3 d nZ (dX 1 x4 d h λe=>cP CS uo [c,e] h λf k=>oP (mi f (some j)) λg=>oP (ef .sub 3 d nO) λi=>b c x4 g i k) (a c x4 j h)
theorem OS{Q a}(I)(s:P4 I (zS Q a)){k b x4 c d h}(i:I k b x4 c d h):GD Q a b x4 c d h:=WA.ln 4 [b,x4,c,d] I (zS Q a) s i
theorem TB(H:gU (kZ 34 c) h λa d=>oP (fZ 5 a d) λf=>oP (fq [nZ,nZ,nS,nS,nS,nS,nS] [(0,5),(5,1),(6,1)] [(0,f)]) λg=>gU (kZ 154 g) d λi e=>dG 3 a e λb=>GP Q a i b nZ e):cP CS AJ [c] h Q:=cP.ve t51 Tryz.func51 H
def t79:List (Nat×List Nat):=[(351,[0,1,5,6,7]),(1407,[0,1,5,8,55,56,57])]
def wQ(Q:fj)(a b c d e:V)(h:Hp):Prop:=JV CS Tryz.f79 t79 175 [0,1,5,6,7] [] Q [a,b,c,d,e] h
def qo(Q:fj)(d e f g a b c:V)(h:Hp):Prop:=JV CS Tryz.f79 t79 703 [0,1,5,8,55,56,57] [] Q [d,e,f,g,a,b,c] h
def qe(Q:fj)(fu:KJ)(c r b e d:V)(h:Hp):Prop:=oP (ef .geq 3 d nZ) λa=>oP (gD true a) λs=>oP (gV s (some c)) λf=>oP (gD true a) λt=>oP (gV t (some e)) λg=>oP (gD true a) λu=>oP (gV u (some d)) λi=>oP (gD true a) λv=>oP (gV v (gM 1 g i)) λj=>oP (gD true a) λw=>oP (gV w (ez j h)) λk=>oP (gD true a) λx=>oP (gC x (some (iW,[f,k]))) λy=>zL CS y h λl m=>oP (iM a (wI .not l)) λn=>bP n (dX 1 e d m λo=>cP CS pe [c,b,o] m λz A=>oP (ef .sub 3 d nO) λp=>fu c r b e p A) (oP (fE b) λq=>qo Q c r b bF b q nZ m)
theorem Fz{Q}(I)(s:P5 I (qe Q)){k a b c d e h}(i:I k a b c d e h):wQ Q a b c d e h:=WA.ln 5 [a,b,c,d,e] I (qe Q) s i
def qf(Q:fj)(d:Pb)(e f x y b c a:V)(h:Hp):Prop:=bO .lss 3 a c (dX 1 b a h λg=>oP (mi y (oB (some g) λi=>oB (some e) λj=>oB (fR j) λk=>oB (fJ 5 k) λl=>oB (ez l h) λm=>oB (some f) λn=>oB (gM 1 m n) λo=>oB (ez o h) λp=>oB (some a) λq=>oB (gM 1 p q) λr=>oB (ez r h) λs=>ef .neq 4 i s)) λt=>oP (ef .add 3 a nO) λu=>d e f x t b c u h) (dN 5 e h λv=>oP (gM 1 v f) λw=>eJ (gj 1 w x h) λA z=>Q y z)
theorem FL{Q}(I)(s:P7 I (qf Q)){k d e f g a b c h}(i:I k d e f g a b c h):qo Q d e f g a b c h:=WA.ln 7 [d,e,f,g,a,b,c] I (qf Q) s i
theorem JZ(H:cP CS xG [c,d] h λe j=>oP (fR c) λk=>oP (fJ 6 k) λa=>oP (ez a j) λb=>uj (iO 4 1 0 bF []) j λl m g=>((g.get (j.next)=some l/\O.beq l l=true)/\((ez a g=some b)/\eJ (fg 4 1 1 m e g) λn i=>(g.next<=i.next/\oP (gM 1 b d) λo=>((ez a i=some b)/\eJ (gj 1 o n i) λu p=>(i.next<=p.next/\oP (fR c) λq=>oP (fJ 0 q) λr=>dJ 3 r 6 d 0 p λf=>oP (fE f) λs=>oP (ef .sub 3 s nO) λt=>wQ Q c d e f t p)))))):cP CS uo [c,d] h Q:=cP.ve t79 Tryz.func79 H
def t104:List (Nat×List Nat):=[(175,[0,1,5,6,37,38,39]),(176943,[0,1,5,6,9,37,38,39,57,58,59]),(351,[0,1,5,6,91,92,93]),(193327,[0,1,5,6,37,38,39,76,77,78]),(190047,[0,1,5,6,16,91,92,93,106,107,108]),(254,[5]),(3994414,[0,1,5,6,37,38,39,76,77,78]),(46982751,[0,1,5,6,16,17,18,91,92,93,106,107,108,114,115,116]),(1020061278,[0,1,5,6,16,17,18,91,92,93,106,107,108,114,115,116])]
def zt(Q:fj)(d e f g a b c:V)(h:Hp):Prop:=JV CS Tryz.f104 t104 87 [0,1,5,6,37,38,39] [] Q [d,e,f,g,a,b,c] h
def zk(Q:fj)(fu:Pb)(g i j k l a b c d e f:V)(h:Hp):Prop:=JV CS Tryz.f104 t104 88471 [0,1,5,6,9,37,38,39,57,58,59] [λρ h=>fu (ρ 0) (ρ 1) (ρ 5) (ρ 6) (ρ 37) (ρ 38) (ρ 39) h] Q [g,i,j,k,l,a,b,c,d,e,f] h
def yV(Q:fj)(d e f g a b c:V)(h:Hp):Prop:=JV CS Tryz.f104 t104 175 [0,1,5,6,91,92,93] [] Q [d,e,f,g,a,b,c] h
def zb(Q:fj)(fu:Pb)(g i j k a b c d e f:V)(h:Hp):Prop:=JV CS Tryz.f104 t104 96663 [0,1,5,6,37,38,39,76,77,78] [λρ h=>fu (ρ 0) (ρ 1) (ρ 5) (ρ 6) (ρ 37) (ρ 38) (ρ 39) h] Q [g,i,j,k,a,b,c,d,e,f] h
def zm(Q:fj)(d:Pb)(j k l m e f g i a b c:V)(h:Hp):Prop:=JV CS Tryz.f104 t104 95023 [0,1,5,6,16,91,92,93,106,107,108] [λρ h=>d (ρ 0) (ρ 1) (ρ 5) (ρ 6) (ρ 91) (ρ 92) (ρ 93) h] Q [j,k,l,m,e,f,g,i,a,b,c] h
def lO(Q:fj)(a:V)(h:Hp):Prop:=JV CS Tryz.f104 t104 127 [5] [] Q [a] h
def qS(Q:fj)(fu:Pb)(a:NM)(i j k l b c d e f g:V)(h:Hp):Prop:=JV CS Tryz.f104 t104 1997207 [0,1,5,6,37,38,39,76,77,78] [λρ h=>fu (ρ 0) (ρ 1) (ρ 5) (ρ 6) (ρ 37) (ρ 38) (ρ 39) h,λρ h=>a (ρ 0) (ρ 1) (ρ 5) (ρ 6) (ρ 37) (ρ 38) (ρ 39) (ρ 76) (ρ 77) (ρ 78) h] Q [i,j,k,l,b,c,d,e,f,g] h
def y6(Q:fj)(g:Pb)(i:KP)(p q r s j k l m n o a b c d e f:V)(h:Hp):Prop:=JV CS Tryz.f104 t104 23491375 [0,1,5,6,16,17,18,91,92,93,106,107,108,114,115,116] [λρ h=>g (ρ 0) (ρ 1) (ρ 5) (ρ 6) (ρ 91) (ρ 92) (ρ 93) h,λρ h=>i (ρ 0) (ρ 1) (ρ 5) (ρ 6) (ρ 16) (ρ 91) (ρ 92) (ρ 93) (ρ 106) (ρ 107) (ρ 108) h] Q [p,q,r,s,j,k,l,m,n,o,a,b,c,d,e,f] h
def qR(Q:fj)(g:Pb)(i:KP)(j:zeD)(q r s t k l m n o p a b c d e f:V)(h:Hp):Prop:=JV CS Tryz.f104 t104 510030639 [0,1,5,6,16,17,18,91,92,93,106,107,108,114,115,116] [λρ h=>g (ρ 0) (ρ 1) (ρ 5) (ρ 6) (ρ 91) (ρ 92) (ρ 93) h,λρ h=>i (ρ 0) (ρ 1) (ρ 5) (ρ 6) (ρ 16) (ρ 91) (ρ 92) (ρ 93) (ρ 106) (ρ 107) (ρ 108) h,λρ h=>j (ρ 0) (ρ 1) (ρ 5) (ρ 6) (ρ 16) (ρ 17) (ρ 18) (ρ 91) (ρ 92) (ρ 93) (ρ 106) (ρ 107) (ρ 108) (ρ 114) (ρ 115) (ρ 116) h] Q [q,r,s,t,k,l,m,n,o,p,a,b,c,d,e,f] h
def sJ(Q:fj)(fu:Pb)(g s t i b c a:V)(h:Hp):Prop:=bO .lss 3 a c (dX 1 b a h λd=>oP (fR g) λj=>oP (fJ 0 j) λk=>dF 3 k h λl=>oP (gM 6 l d) λm=>oP (fZ 6 m h) λn=>gU (zC 79 [nS,nZ,nZ,nS,nS,nZ]) h λu v=>eJ (gj 6 u n v) λw o=>dN 5 g o λp=>dX 1 p d o λe=>oP (fE e) λq=>zk Q fu g s t i u b c a e q nZ o) (dF 3 i h λf=>oP (fE f) λr=>yV Q g s t i f r nZ h)
theorem IH{Q}(I)(s:P7 I (sJ Q)){k d e f g a b c h}(i:I k d e f g a b c h):zt Q d e f g a b c h:=WA.ln 7 [d,e,f,g,a,b,c] I (sJ Q) s i
def si(Q:fj)(fu:Pb)(j:KP)(q r i s t b c d e f a:V)(h:Hp):Prop:=bO .lss 3 a f (dX 1 e a h λk=>dX 1 i a h λl=>oP (mi l (some k)) λm=>oP (gM 1 i a) λn=>eJ (gj 1 n m h) λv u=>oP (ef .add 3 a nO) λo=>j q r i s t b c d e f o u) (dF 0 t h λg=>oP (fE g) λp=>zb Q fu q r i s b c d g p nZ h)
theorem Jg{Q fu}(I)(s:P11 I (si Q fu)){k g j l m n a b c d e f h}(i:I k g j l m n a b c d e f h):zk Q fu g j l m n a b c d e f h:=WA.ln 11 [g,j,l,m,n,a,b,c,d,e,f] I (si Q fu) s i
def sh(Q:fj)(q:Pb)(r y e p f g c:V)(h:Hp):Prop:=bO .lss 3 c g (dX 1 f c h λs=>oP (fR r) λt=>oP (fJ 0 t) λu=>dF 3 u h λi=>oP (gM 6 i s) λj=>oP (fZ 6 j h) λk=>gU (zC 79 [nS,nZ,nZ,nS,nS,nZ]) h λd z=>eJ (gj 6 d k z) λC v=>dF 4 d v λa=>oP (fE a) λl=>zm Q q r y e p d f g c a l nZ v) (dF 1 p h λb=>bO .eql 3 b (V.I 2) (dF 2 p h λm=>oP (gM 1 e m) λn=>eJ (gj 1 n bT h) λw A=>lO Q e A) (bO .eql 3 b (V.I 3) (dF 5 p h λo=>cP CS pd [r,e,o] h λx B=>lO Q e B) (lO Q e h)))
theorem Ij{Q}(I)(s:P7 I (sh Q)){k d e f g a b c h}(i:I k d e f g a b c h):yV Q d e f g a b c h:=WA.ln 7 [d,e,f,g,a,b,c] I (sh Q) s i
def sj(Q:fj)(fu:Pb)(g:NM)(j l k m b c d e f a:V)(h:Hp):Prop:=bO .lss 3 a f (dX 1 e a h λi=>cP CS iW [j,i] h λn q=>bP n (oP (gM 1 k i) λo=>eJ (gj 1 o bF q) λs r=>qS Q fu g j l k m b c d e f a r) (qS Q fu g j l k m b c d e f a q)) (oP (ef .add 3 d nO) λp=>fu j l k m b c p h)
theorem Hw{Q fu}(I)(s:P10 I (sj Q fu)){k g j l m a b c d e f h}(i:I k g j l m a b c d e f h):zb Q fu g j l m a b c d e f h:=WA.ln 10 [g,j,l,m,a,b,c,d,e,f] I (sj Q fu) s i
def sK(Q:fj)(e:Pb)(n:KP)(o p q r f g i j b c a:V)(h:Hp):Prop:=bO .lss 3 a c (dX 1 b a h λk=>dF 0 f h λd=>oP (fE d) λl=>y6 Q e n o p q r f a k g i j b c a d l nZ h) (oP (ef .add 3 j nO) λm=>e o p q r g i m h)
theorem Hq{Q d}(I)(s:P11 I (sK Q d)){k l m n o e f g j a b c h}(i:I k l m n o e f g j a b c h):zm Q d l m n o e f g j a b c h:=WA.ln 11 [l,m,n,o,e,f,g,j,a,b,c] I (sK Q d) s i
def sD(Q:fj)(a:V)(h:Hp):Prop:=Q a h
theorem ID{Q a h}(H:sD Q a h):lO Q a h:=JV.wn 1 (sD Q) H
def nr(Q:fj)(fu:Pb)(a:NM)(j k l m b c d e f g:V)(h:Hp):Prop:=oP (ef .add 3 g nO) λi=>a j k l m b c d e f i h
theorem xY{Q fu a i j k l b c d e f g h}(H:nr Q fu a i j k l b c d e f g h):qS Q fu a i j k l b c d e f g h:=JV.wn 10 (nr Q fu a) H
def yY(Q:fj)(p:Pb)(i:KP)(q:zeD)(r J K L j k l m n o b c d e f a:V)(h:Hp):Prop:=bO .lss 3 a f (dX 1 e a h λg=>oP (ef .eql 3 l J) λs=>oP (iM s (oB (some r) λt=>oB (fR t) λu=>oB (fJ 0 u) λv=>oB (fJ 2 v) λw=>oB (ez w h) λx=>oB (some g) λy=>oB (gM 6 x y) λz=>oB (fJ 0 z) λA=>oB (ez A h) λB=>ef .eql 3 B (V.I 21))) λC=>bP C (oP (fR r) λD=>oP (fJ 0 D) λE=>dJ 2 E 6 g 4 h λF=>dX 1 F k h λG=>oP (gM 1 K G) λH=>eJ (gj 1 H bT h) λN M=>qR Q p i q r J K L j k l m n o b c d e f a M) (qR Q p i q r J K L j k l m n o b c d e f a h)) (oP (ef .add 3 d nO) λI=>i r J K L j m n o b c I h)
theorem IL{s:Pb}{t:KP}(I:Nat->zeD)(step:∀(k:Nat)(o p q r g i j l m n a b c d e f:V)(h:Hp),I k o p q r g i j l m n a b c d e f h->yY Q s t (λo p q r g i j l m n a b c d e f h=>∃k',k' < k/\I k' o p q r g i j l m n a b c d e f h) o p q r g i j l m n a b c d e f h){k:Nat}{o p q r g i j l m n a b c d e f:V}{h:Hp}(h0:I k o p q r g i j l m n a b c d e f h):y6 Q s t o p q r g i j l m n a b c d e f h:=by
 rintro ρ rfl rfl rfl rfl rfl rfl rfl rfl rfl rfl rfl rfl rfl rfl rfl rfl;exact WA.loop (λk ρ h=>I k (ρ 0) (ρ 1) (ρ 5) (ρ 6) (ρ 16) (ρ 17) (ρ 18) (ρ 91) (ρ 92) (ρ 93) (ρ 106) (ρ 107) (ρ 108) (ρ 114) (ρ 115) (ρ 116) h) (by kernel_rfl) (by kernel_rfl) (λk ρ h hi=>LA.of (by kernel_rfl) (step k (ρ 0) (ρ 1) (ρ 5) (ρ 6) (ρ 16) (ρ 17) (ρ 18) (ρ 91) (ρ 92) (ρ 93) (ρ 106) (ρ 107) (ρ 108) (ρ 114) (ρ 115) (ρ 116) h hi)) h0
def nk(Q:fj)(p:Pb)(q:KP)(i:zeD)(r s t u j k l m n o a b c d e f:V)(h:Hp):Prop:=oP (ef .add 3 f nO) λg=>i r s t u j k l m n o a b c d e g h
theorem xV{Q g i j q r s t k l m n o p a b c d e f h}(H:nk Q g i j q r s t k l m n o p a b c d e f h):qR Q g i j q r s t k l m n o p a b c d e f h:=JV.wn 16 (nk Q g i j) H
theorem LW(H:oP (fR c) λe=>oP (fJ 0 e) λf=>dG 2 f h λa=>gU (jy 4 1 1 bF a a) h λg i=>oP (fR c) λj=>oP (fJ 0 j) λk=>dF 3 k i λl=>oP (gM 6 l d) λm=>oP (fZ 6 m i) λn=>gU (zC 79 [nS,nZ,nZ,nS,nS,nZ]) i λo r=>eJ (gj 6 o n r) λs q=>dF 3 o q λb=>oP (fE b) λp=>zt Q c d g o b p nZ q):cP CS xG [c,d] h Q:=cP.ve t104 Tryz.func104 H
theorem Ko(H:oP (fR d) λu=>oP (fJ 0 u) λv=>dF 2 v h λf=>oP (gM 6 f e) λg=>oP (fZ 6 g h) λi=>gU (zC 81 [nZ,nZ,nZ,nZ,nS,nZ]) h λa w=>eJ (gj 6 a i w) λC x=>oP (gM 1 c e) λj=>eJ (gj 1 j bF x) λs t=>oP (fZ 6 a t) λk=>cP CS BR [k] t λl y=>cP CS wY [c,l] y λz b=>dF 0 a b λm=>oP (ef .eql 3 m (V.I 22)) λn=>oP (mi n (oB (fJ 0 a) λo=>oB (ez o b) λp=>ef .eql 3 p (V.I 23))) λq=>bP q (dF 5 a b λr=>cP CS pd [d,c,r] b λA B=>Q (V.tuple []) B) (Q (V.tuple []) b)):cP CS pe [d,c,e] h Q:=cP.ve [] Tryz.func82 H
def t106:List (Nat×List Nat):=[(11,[1,16,17,18])]
def wM(Q:fj)(d a b c:V)(h:Hp):Prop:=JV CS Tryz.f106 t106 5 [1,16,17,18] [] Q [d,a,b,c] h
def qh(Q:fj)(fu:S3)(d b c a:V)(h:Hp):Prop:=bO .lss 3 a c (oP (gM 4 b a) λe=>oP (fZ 4 e h) λf=>gU (zC 85 [nZ,nZ,nS,nS]) h λg n=>eJ (gj 4 g f n) λr l=>dF 2 g l λi=>cP CS wY [d,i] l λo m=>dF 3 g m λj=>cP CS wY [d,j] m λp q=>oP (ef .add 3 a nO) λk=>fu d b c k q) (Q (V.tuple []) h)
theorem FP{Q}(I)(s:P4 I (qh Q)){k d a b c h}(i:I k d a b c h):wM Q d a b c h:=WA.ln 4 [d,a,b,c] I (qh Q) s i
theorem Kr{f:V}(H:oP (fR d) λg=>oP (fJ 0 g) λb=>dJ 4 b 1 f 0 h λa=>oP (fE a) λc=>wM Q e a c nZ h):cP CS pd [d,e,f] h Q:=cP.ve t106 Tryz.func106 H
theorem Lp{f:V}(H:oP (fR e) λg=>oP (fJ 0 g) λi=>dJ 2 i 6 f 0 h λa=>oP (ef .eql 3 a (V.I 21)) λb=>oP (mi b (oB (some a) λc=>ef .eql 3 c nO)) λd=>Q d h):cP CS iW [e,f] h Q:=cP.ve [] Tryz.func54 H
def t105:List (Nat×List Nat):=[(11,[0,6,7,8])]
def Gu(Q:fj)(a b c d:V)(h:Hp):Prop:=JV CS Tryz.f105 t105 5 [0,6,7,8] [] Q [a,b,c,d] h
def zF(Q:fj)(fu:S3)(e f g a:V)(h:Hp):Prop:=bO .lss 3 a g (dX 1 f a h λb=>oP (gM 1 e b) λc=>eJ (gj 1 c bT h) λj i=>oP (ef .add 3 a nO) λd=>fu e f g d i) (Q (V.tuple []) h)
theorem OX{Q}(I)(s:P4 I (zF Q)){k a b c d h}(i:I k a b c d h):Gu Q a b c d h:=WA.ln 4 [a,b,c,d] I (zF Q) s i
theorem TK{b a:V}(H:oP (fE a) λc=>Gu Q b a c nZ h):cP CS wY [b,a] h Q:=cP.ve t105 Tryz.func105 H
end
set_option maxRecDepth 100000
noncomputable section
def t53:List (Nat×List Nat):=[(351,[0,5,6,7,8]),(3678,[0,5,6,7,8])]
def wE(Q:fj)(a b c d e:V)(h:Hp):Prop:=JV CS Tryz.f53 t53 175 [0,5,6,7,8] [] Q [a,b,c,d,e] h
def ox(Q:fj)(fu:KJ)(a b c d e:V)(h:Hp):Prop:=JV CS Tryz.f53 t53 1839 [0,5,6,7,8] [λρ h=>fu (ρ 0) (ρ 5) (ρ 6) (ρ 7) (ρ 8) h] Q [a,b,c,d,e] h
def pE(Q:fj)(fu:KJ)(b c d e a:V)(h:Hp):Prop:=bO .geq 3 a nZ (gU (iO 4 1 0 bF []) h λf o=>eJ (fg 4 1 1 f e o) λg p=>oP (gM 1 d a) λi=>eJ (gj 1 i g p) λs n=>dX 1 c a n λj=>cP CS iW [b,j] n λk l=>bN k (dX 1 c a l λm=>cP CS pe [b,e,m] l λq r=>ox Q fu b c d e a r) (ox Q fu b c d e a l)) (Q d h)
theorem DW{Q}(I)(s:P5 I (pE Q)){k a b c d e h}(i:I k a b c d e h):wE Q a b c d e h:=WA.ln 5 [a,b,c,d,e] I (pE Q) s i
def lH(Q:fj)(fu:KJ)(b c d e f:V)(h:Hp):Prop:=oP (ef .sub 3 f nO) λa=>fu b c d e a h
theorem uI{Q fu a b c d e h}(H:lH Q fu a b c d e h):ox Q fu a b c d e h:=JV.wn 5 (lH Q fu) H
theorem HE(H:oP (fR c) λe=>oP (fJ 0 e) λf=>dJ 3 f 6 d 0 h λa=>oP (fE a) λb=>gU (jy 130 1 24 nS b b) h λg p=>gU (iO 4 1 0 bF []) p λi j=>dN 6 c j λk=>dX 1 k d j λl=>eJ (fg 4 1 1 i l j) λm q=>oP (fE a) λn=>oP (ef .sub 3 n nO) λo=>wE Q c a g m o q):cP CS nV [c,d] h Q:=cP.ve t53 Tryz.func53 H
def t27:List (Nat×List Nat):=[(87,[2,3,39,40,41]),(351,[3,7,66,67,68]),(190047,[3,7,9,10,66,67,68,76,77,78]),(130868830,[3,7,9,10,12,13,66,67,68,76,77,78]),(399304287,[3,7,9,10,13,66,67,68,76,77,78,109,110,111])]
def EM(Q:fj)(d e a b c:V)(h:Hp):Prop:=JV CS Tryz.f27 t27 43 [2,3,39,40,41] [] Q [d,e,a,b,c] h
def Ef(Q:fj)(d e a b c:V)(h:Hp):Prop:=JV CS Tryz.f27 t27 175 [3,7,66,67,68] [] Q [d,e,a,b,c] h
def ET(Q:fj)(a:KJ)(j k l b c d e f g i:V)(h:Hp):Prop:=JV CS Tryz.f27 t27 95023 [3,7,9,10,66,67,68,76,77,78] [λρ h=>a (ρ 3) (ρ 7) (ρ 66) (ρ 67) (ρ 68) h] Q [j,k,l,b,c,d,e,f,g,i] h
def qZ(Q:fj)(a:KJ)(b:NM)(l m n c d gL e f g i j k:V)(h:Hp):Prop:=JV CS Tryz.f27 t27 65434415 [3,7,9,10,12,13,66,67,68,76,77,78] [λρ h=>a (ρ 3) (ρ 7) (ρ 66) (ρ 67) (ρ 68) h,λρ h=>b (ρ 3) (ρ 7) (ρ 9) (ρ 10) (ρ 66) (ρ 67) (ρ 68) (ρ 76) (ρ 77) (ρ 78) h] Q [l,m,n,c,d,gL,e,f,g,i,j,k] h
def EI(Q:fj)(d:KJ)(e:NM)(n o p f gL g i j k l m a b c:V)(h:Hp):Prop:=JV CS Tryz.f27 t27 199652143 [3,7,9,10,13,66,67,68,76,77,78,109,110,111] [λρ h=>d (ρ 3) (ρ 7) (ρ 66) (ρ 67) (ρ 68) h,λρ h=>e (ρ 3) (ρ 7) (ρ 9) (ρ 10) (ρ 66) (ρ 67) (ρ 68) (ρ 76) (ρ 77) (ρ 78) h] Q [n,o,p,f,gL,g,i,j,k,l,m,a,b,c] h
def yj(Q:fj)(fu:KJ)(f g c d b:V)(h:Hp):Prop:=bO .lss 3 b d (dX 1 c b h λa=>oP (ef .lss 3 a nZ) λi=>oP (mi i (oB (some a) λj=>ef .geq 3 j (V.I 12))) λk=>oP (iM k (oB (some a) λl=>oB (ef .lss 3 l (V.I 16)) λm=>oB (some m) λn=>mi n (oB (some a) λo=>oB (fJ 1 g) λp=>oB (ez p h) λq=>oB (ef .add 3 (V.I 16) q) λr=>ef .geq 3 o r))) λs=>bP s (Q bF h) (oP (ef .add 3 b nO) λt=>fu f g c d t h)) (oP (fZ 5 f h) λu=>cP CS AJ [u] h λv x=>dF 3 f x λe=>oP (fE e) λw=>Ef Q g v e w nZ x)
theorem N0{Q}(I)(s:P5 I (yj Q)){k d e a b c h}(i:I k d e a b c h):EM Q d e a b c h:=WA.ln 5 [d,e,a,b,c] I (yj Q) s i
def yp(Q:fj)(e:KJ)(n k b c a:V)(h:Hp):Prop:=bO .lss 3 a c (oP (gM 6 b a) λf=>oP (fZ 6 f h) λg=>gU (zC 79 [nS,nZ,nZ,nS,nS,nZ]) h λm o=>eJ (gj 6 m g o) λs p=>gU (some (.map [] 0,λl=> .map l)) p λi q=>cP CS nV [k,a] q λd r=>oP (fE d) λj=>ET Q e n k m i b c a d j nZ r) (Q bT h)
theorem Oa{Q}(I)(s:P5 I (yp Q)){k d e a b c h}(i:I k d e a b c h):Ef Q d e a b c h:=WA.ln 5 [d,e,a,b,c] I (yp Q) s i
def yg(Q:fj)(d:KJ)(k:NM)(l m s c e f g i j b:V)(h:Hp):Prop:=bO .lss 3 b j (dX 1 i b h λn=>dY 0 s 1 b h λa=>cP CS iW [m,a] h λt o=>oP (iM t (oB (some c) λu=>oB (fJ 0 l) λv=>oB (ez v o) λw=>oB (some a) λx=>oB (gM 1 w x) λy=>oB (ez y o) λz=>rH 3 none bF false u z o)) λA=>bP A (Q bF o) (cP CS iW [m,a] o λp B=>bP p (dY 0 l 1 a B λq=>eJ (xN 3 none c q bT B) λD C=>qZ Q d k l m s c n a e f g i j b C) (qZ Q d k l m s c n a e f g i j b B))) (oP (ef .add 3 g nO) λr=>d l m e f r h)
theorem Nj{Q a}(I)(s:P10 I (yg Q a)){k l m n b c d e f g j h}(i:I k l m n b c d e f g j h):ET Q a l m n b c d e f g j h:=WA.ln 10 [l,m,n,b,c,d,e,f,g,j] I (yg Q a) s i
def wO(Q:fj)(c:KJ)(d:NM)(m n o e a gL f g i j k l:V)(h:Hp):Prop:=oP (fE a) λb=>EI Q c d m n o e gL f g i j k l a b nZ h
theorem L8{Q a b l m n c d gL e f g i j k h}(H:wO Q a b l m n c d gL e f g i j k h):qZ Q a b l m n c d gL e f g i j k h:=JV.wn 12 (wO Q a b) H
def yy(Q:fj)(H:KJ)(D:NM)(E:zeN)(C F G d gL e f g i j k b c a:V)(h:Hp):Prop:=bO .lss 3 a c (dX 1 b a h λl=>oP (iM l (oB (some a) λm=>oB (some gL) λn=>ef .neq 3 m n)) λo=>oP (iM o (oB (fJ 0 C) λp=>oB (ez p h) λq=>oB (some a) λr=>oB (gM 1 q r) λs=>oB (ez s h) λt=>oB (fJ 0 C) λu=>oB (ez u h) λv=>oB (some gL) λw=>oB (gM 1 v w) λx=>oB (ez x h) λy=>ef .eql 3 t y)) λz=>bP z (Q bF h) (oP (ef .add 3 a nO) λA=>E C F G d gL e f g i j k b c A h)) (oP (ef .add 3 k nO) λB=>D C F G d e f g i j B h)
theorem Nb{Q d e}(I)(s:P14 I (yy Q d e)){k p q r f gL g j l m n o a b c h}(i:I k p q r f gL g j l m n o a b c h):EI Q d e p q r f gL g j l m n o a b c h:=WA.ln 14 [p,q,r,f,gL,g,j,l,m,n,o,a,b,c] I (yy Q d e) s i
theorem Rz{w x:V}(H:gU (kZ 34 w) h λd z=>gU (kZ 37 x) z λb y=>oP (fZ 5 d y) λe=>cP CS zz [e] y λf a=>oP (wI .not f) λg=>oP (mi g (oB (fJ 0 b) λi=>oB (ez i a) λj=>oB (fE j) λk=>oB (fJ 2 d) λl=>oB (ez l a) λm=>oB (fE m) λn=>ef .neq 3 k n)) λo=>oP (mi o (oB (fJ 1 b) λp=>oB (ez p a) λq=>ef .lss 3 q nZ)) λr=>oP (mi r (oB (fJ 1 b) λs=>oB (ez s a) λt=>ef .gtr 3 t (V.I 399))) λu=>bP u (Q bF a) (dF 0 b a λc=>oP (fE c) λv=>EM Q d b c v nZ a)):cP CS Dk [w,x] h Q:=cP.ve t27 Tryz.func27 H
end
