/- Parts. -/
import Derived.Test.YtpnddokajmjpbaaDoorM10
namespace Go.Proofs.YtpnddokajmjpbaaDoor.Hx
abbrev iJ:Nat:=4
abbrev jT:Nat:=11
abbrev t6:Nat:=12
abbrev iV:Nat:=13
abbrev iE:Nat:=14
abbrev fO:Nat:=15
abbrev fN:Nat:=16
abbrev fR:Nat:=17
abbrev fK:Nat:=21
abbrev iL:Nat:=25
abbrev tN:Nat:=31
abbrev si:Nat:=33
abbrev iA:Nat:=34
abbrev fL:Nat:=35
abbrev nz:Nat:=36
abbrev vK:Nat:=37
abbrev sQ:Nat:=38
abbrev eo:Nat:=39
abbrev eh:Nat:=40
abbrev eJ:Nat:=41
abbrev fZ:Nat:=42
abbrev gI:Nat:=43
abbrev iB:Nat:=44
abbrev iC:Nat:=45
abbrev iM:Nat:=46
abbrev gi:Nat:=47
abbrev fq:Nat:=48
abbrev fM:Nat:=49
abbrev lC:Nat:=57
abbrev ge:Nat:=61
abbrev iz:Nat:=62
abbrev jv:Nat:=63
abbrev gD:Nat:=64
abbrev iF:Nat:=65
abbrev iW:Nat:=66
abbrev mK:Nat:=67
abbrev iu:Nat:=68
abbrev oC:Nat:=70
abbrev iX:Nat:=71
abbrev gR:Nat:=72
abbrev gy:Nat:=73
abbrev fh:Nat:=74
abbrev f0:Nat:=75
abbrev kI:Nat:=82
abbrev qO:Nat:=83
abbrev fY:Nat:=84
abbrev fQ:Nat:=89
abbrev gJ:Nat:=90
abbrev vF:Nat:=91
abbrev jW:Nat:=92
abbrev fo:Nat:=93
abbrev gc:Nat:=94
abbrev iD:Nat:=95
abbrev fW:Nat:=96
abbrev fT:Nat:=97
abbrev gO:Nat:=98
abbrev fH:Nat:=99
abbrev fX:Nat:=100
abbrev ex:Nat:=101
abbrev gY:Nat:=102
abbrev gq:Nat:=110
abbrev ij:Nat:=111
abbrev jU:Nat:=112
set_option maxRecDepth 100000
noncomputable section
def t21:List (Nat×List Nat):=[(30,[0])]
def jD (C:Cfg)(Q:QP1)(a:V)(h:Hp):Prop:=∀ρ:Rho,ρ 0=a->WA C Tryd.f21 t21 15 [] Q ρ h
def jH (C:Cfg)(Q:QP1)(a:V)(h:Hp):Prop:=
 Q a h
theorem nP {C:Cfg}{Q:QP1}{a:V}{h:Hp}(H:jH C Q a h):jD C Q a h:=by
 rintro ρ rfl;exact WA.of (by kernel_rfl) H
def qS (C:Cfg)(Q:QP1)(a0 a1:V)(h:Hp):Prop:=
 oP (hbin .rem 3 a0 a1) λa=>
 oP (hbin .lss 3 a nZ) λc=>
 bP c (
 oP (hbin .add 3 a a1) λb=>
 jD C Q b h) (
 jD C Q a h)
theorem wR{C}(s:C.start=startF){a0 a1 h Q}(k:C.K fK [a0,a1] h=none)(H:qS C Q a0 a1 h):cP C fK [a0,a1] h Q:=cP.vd t21 s (by unfold P0;exact Tryd.func21) k H
def t70:List (Nat×List Nat):=[(106,[3,4]),(490,[18])]
def fE (C:Cfg)(Q:QP1)(a b:V)(h:Hp):Prop:=∀ρ:Rho,ρ 3=a->ρ 4=b->WA C Tryd.f70 t70 53 [] Q ρ h
def ic (C:Cfg)(Q:QP1)(a:V)(h:Hp):Prop:=∀ρ:Rho,ρ 18=a->WA C Tryd.f70 t70 245 [] Q ρ h
def wN (C:Cfg)(Q:QP1)(a i:V)(h:Hp):Prop:=
 bP i (
 Q (V.int .i64 2) h) (
 oP (hbin .eql 3 a (V.int .i64 8)) λb=>
 bP b (
 ic C Q b h) (
 oP (hbin .eql 3 a (V.int .i64 9)) λc=>
 bP c (
 ic C Q c h) (
 oP (hbin .eql 3 a (V.int .i64 15)) λd=>
 bP d (
 ic C Q d h) (
 oP (hbin .eql 3 a (V.int .i64 16)) λe=>
 bP e (
 ic C Q e h) (
 oP (hbin .eql 3 a (V.int .i64 17)) λf=>
 bP f (
 ic C Q f h) (
 oP (hbin .eql 3 a (V.int .i64 22)) λg=>
 ic C Q g h))))))
theorem BO {C:Cfg}{Q:QP1}{a b:V}{h:Hp}(H:wN C Q a b h):fE C Q a b h:=by
 rintro ρ rfl rfl;exact WA.of (by kernel_rfl) H
def xh (C:Cfg)(Q:QP1)(a:V)(h:Hp):Prop:=
 bP a (
 Q nO h) (
 Q nZ h)
theorem Ba {C:Cfg}{Q:QP1}{a:V}{h:Hp}(H:xh C Q a h):ic C Q a h:=by
 rintro ρ rfl;exact WA.of (by kernel_rfl) H
def Ak (C:Cfg)(Q:QP1)(a0:V)(h:Hp):Prop:=
 oP (hbin .eql 3 a0 (V.int .i64 3)) λj=>
 bP j (
 fE C Q a0 j h) (
 oP (hbin .eql 3 a0 (V.int .i64 4)) λk=>
 bP k (
 fE C Q a0 k h) (
 oP (hbin .eql 3 a0 (V.int .i64 5)) λl=>
 bP l (
 fE C Q a0 l h) (
 oP (hbin .eql 3 a0 (V.int .i64 6)) λm=>
 bP m (
 fE C Q a0 m h) (
 oP (hbin .eql 3 a0 (V.int .i64 7)) λn=>
 bP n (
 fE C Q a0 n h) (
 oP (hbin .eql 3 a0 (V.int .i64 10)) λa=>
 bP a (
 fE C Q a0 a h) (
 oP (hbin .eql 3 a0 (V.int .i64 11)) λb=>
 bP b (
 fE C Q a0 b h) (
 oP (hbin .eql 3 a0 (V.int .i64 12)) λc=>
 bP c (
 fE C Q a0 c h) (
 oP (hbin .eql 3 a0 (V.int .i64 13)) λd=>
 bP d (
 fE C Q a0 d h) (
 oP (hbin .eql 3 a0 (V.int .i64 14)) λe=>
 bP e (
 fE C Q a0 e h) (
 oP (hbin .eql 3 a0 (V.int .i64 18)) λf=>
 bP f (
 fE C Q a0 f h) (
 oP (hbin .eql 3 a0 (V.int .i64 19)) λg=>
 bP g (
 fE C Q a0 g h) (
 oP (hbin .eql 3 a0 (V.int .i64 20)) λi=>
 fE C Q a0 i h))))))))))))
theorem DV{C}(s:C.start=startF){a0 h Q}(k:C.K oC [a0] h=none)(H:Ak C Q a0 h):cP C oC [a0] h Q:=cP.vd t70 s (by unfold P0;exact Tryd.func70) k H
def t92:List (Nat×List Nat):=[]
def yX (C:Cfg)(Q:QP1)(a0:V)(h:Hp):Prop:=
 oP (hbin .eql 3 a0 (V.int .i64 22)) λa=>
 oP (pOr a (oB (some a0) λb=>hbin .eql 3 b (V.int .i64 23))) λc=>
 Q c h
theorem CX{C}(s:C.start=startF){a0 h Q}(k:C.K jW [a0] h=none)(H:yX C Q a0 h):cP C jW [a0] h Q:=cP.vd t92 s (by unfold P0;exact Tryd.func92) k H
def t90:List (Nat×List Nat):=[]
def Ai (C:Cfg)(Q:QP1)(a0 a1:V)(h:Hp):Prop:=
 oP (hbin .geq 3 a0 nZ) λb=>
 oP (pAnd b (oB (some a0) λc=>oB (some a1) λd=>hbin .lss 3 c d)) λa=>
 Q a h
theorem DL{C}(s:C.start=startF){a0 a1 h Q}(k:C.K gJ [a0,a1] h=none)(H:Ai C Q a0 a1 h):cP C gJ [a0,a1] h Q:=cP.vd t90 s (by unfold P0;exact Tryd.func90) k H
def t36:List (Nat×List Nat):=[(30,[3])]
def nr (C:Cfg)(Q:QP1)(a:V)(h:Hp):Prop:=∀ρ:Rho,ρ 3=a->WA C Tryd.f36 t36 15 [] Q ρ h
def ym (C:Cfg)(Q:QP1)(a:V)(h:Hp):Prop:=
 Q a h
theorem B1 {C:Cfg}{Q:QP1}{a:V}{h:Hp}(H:ym C Q a h):nr C Q a h:=by
 rintro ρ rfl;exact WA.of (by kernel_rfl) H
def BK (C:Cfg)(Q:QP1)(a0:V)(h:Hp):Prop:=
 alP (hbox 42 a0) h λc k=>
 alO (pBS 3 1 0 nZ []) k λf I i=>
 oP (pFA 1 c) λl=>
 oP (pLd l i) λm=>
 oP (pFA 2 c) λn=>
 oP (pLd n i) λo=>
 alO (pBS 3 1 2 nZ [(0,m),(1,o)]) i λg J d=>
 oP (pFA 0 c) λp=>
 oP (pLd p d) λq=>
 ((d.get (i.next)=some g/\O.beq g g=true)/\
 ((pLd n d=some o)/\
 ((pLd l d=some m)/\
 ((d.get (k.next)=some f/\O.beq f f=true)/\
 cP C oC [q] d λr b=>
 (d.next<=b.next/\
 oP (hsliceV 1 J none (some r) b) λs=>
 ((b.get (i.next)=some g/\O.beq g g=true)/\
 ((pLd n b=some o)/\
 ((pLd l b=some m)/\
 ((b.get (k.next)=some f/\O.beq f f=true)/\
 valP (happend 3 1 8 I s b) λe a=>
 (b.next<=a.next/\
 oP (pFA 0 c) λt=>
 oP (pLd t a) λj=>
 oP (hbin .eql 3 j (V.int .i64 20)) λu=>
 bP u (
 oP (pFA 4 c) λv=>
 oP (pLd v a) λw=>
 oP (pFA 4 c) λx=>
 oP (pLd x a) λy=>
 oP (pLen y) λz=>
 oP (hmin false nO [z]) λA=>
 oP (hsliceV 1 w none (some A) a) λB=>
 valP (happend 3 1 8 e B a) λD K=>
 nr C Q D K) (
 oP (hbin .eql 3 j (V.int .i64 21)) λE=>
 bP E (
 oP (pFA 4 c) λF=>
 oP (pLd F a) λG=>
 valP (happend 3 1 8 e G a) λH L=>
 nr C Q H L) (
 nr C Q e a))))))))))))
theorem EJ{C}(s:C.start=startF){a0 h Q}(k:C.K nz [a0] h=none)(H:BK C Q a0 h):cP C nz [a0] h Q:=cP.vd t36 s (by unfold P0;exact Tryd.func36) k H
def t17:List (Nat×List Nat):=[(106,[1,4,5]),(490,[1,4,23])]
def eQ (C:Cfg)(Q:QP1)(a b c:V)(h:Hp):Prop:=∀ρ:Rho,ρ 1=a->ρ 4=b->ρ 5=c->WA C Tryd.f17 t17 53 [] Q ρ h
def fx (C:Cfg)(Q:QP1)(b c a:V)(h:Hp):Prop:=∀ρ:Rho,ρ 1=b->ρ 4=c->ρ 23=a->WA C Tryd.f17 t17 245 [] Q ρ h
def mN (C:Cfg)(Q:QP1)(b a o:V)(h:Hp):Prop:=
 bP o (
 oP (pFA 1 b) λi=>
 oP (pLd i h) λj=>
 oP (pFA 2 b) λk=>
 oP (pLd k h) λl=>
 alP (pBS 3 1 2 nZ [(0,j),(1,l)]) h λm p=>
 Q m p) (
 oP (hbin .eql 3 a (V.int .i64 8)) λc=>
 bP c (
 fx C Q b a c h) (
 oP (hbin .eql 3 a (V.int .i64 9)) λd=>
 bP d (
 fx C Q b a d h) (
 oP (hbin .eql 3 a (V.int .i64 15)) λe=>
 bP e (
 fx C Q b a e h) (
 oP (hbin .eql 3 a (V.int .i64 16)) λf=>
 bP f (
 fx C Q b a f h) (
 oP (hbin .eql 3 a (V.int .i64 17)) λg=>
 bP g (
 fx C Q b a g h) (
 oP (hbin .eql 3 a (V.int .i64 22)) λn=>
 fx C Q b a n h))))))
theorem uk {C:Cfg}{Q:QP1}{a b c:V}{h:Hp}(H:mN C Q a b c h):eQ C Q a b c h:=by
 rintro ρ rfl rfl rfl;exact WA.of (by kernel_rfl) H
def nj (C:Cfg)(Q:QP1)(a F l:V)(h:Hp):Prop:=
 bP l (
 oP (pFA 1 a) λm=>
 oP (pLd m h) λn=>
 alP (pBS 3 1 1 nZ [(0,n)]) h λo G=>
 Q o G) (
 oP (hbin .eql 3 F (V.int .i64 20)) λp=>
 bP p (
 oP (pFA 4 a) λq=>
 oP (pLd q h) λr=>
 oP (pLen r) λs=>
 oP (hbin .eql 3 s nZ) λt=>
 bP t (
 oP (pFA 1 a) λu=>
 oP (pLd u h) λv=>
 oP (pFA 2 a) λw=>
 oP (pLd w h) λx=>
 alP (pBS 3 1 2 nZ [(0,v),(1,x)]) h λy H=>
 Q y H) (
 oP (pFA 1 a) λc=>
 oP (pLd c h) λd=>
 oP (pFA 2 a) λe=>
 oP (pLd e h) λf=>
 oP (pFA 4 a) λg=>
 oP (pLd g h) λi=>
 oP (pIx 1 i nZ) λj=>
 oP (pLd j h) λk=>
 alO (pBS 3 1 3 nZ [(0,d),(1,f),(2,k)]) h λz A b=>
 ((b.get (h.next)=some z/\O.beq z z=true)/\
 ((pLd j b=some k)/\
 ((pLd g b=some i)/\
 ((pLd e b=some f)/\
 ((pLd c b=some d)/\
 Q A b))))))) (
 oP (hbin .eql 3 F (V.int .i64 21)) λB=>
 bP B (
 oP (pFA 4 a) λD=>
 oP (pLd D h) λE=>
 Q E h) (
 Q nS h)))
theorem uh {C:Cfg}{Q:QP1}{b c a:V}{h:Hp}(H:nj C Q b c a h):fx C Q b c a h:=by
 rintro ρ rfl rfl rfl;exact WA.of (by kernel_rfl) H
def qh (C:Cfg)(Q:QP1)(a0:V)(h:Hp):Prop:=
 alP (hbox 42 a0) h λb c=>
 oP (pFA 0 b) λq=>
 oP (pLd q c) λa=>
 oP (hbin .eql 3 a (V.int .i64 3)) λm=>
 bP m (
 eQ C Q b a m c) (
 oP (hbin .eql 3 a (V.int .i64 4)) λn=>
 bP n (
 eQ C Q b a n c) (
 oP (hbin .eql 3 a (V.int .i64 5)) λo=>
 bP o (
 eQ C Q b a o c) (
 oP (hbin .eql 3 a (V.int .i64 6)) λp=>
 bP p (
 eQ C Q b a p c) (
 oP (hbin .eql 3 a (V.int .i64 7)) λd=>
 bP d (
 eQ C Q b a d c) (
 oP (hbin .eql 3 a (V.int .i64 10)) λe=>
 bP e (
 eQ C Q b a e c) (
 oP (hbin .eql 3 a (V.int .i64 11)) λf=>
 bP f (
 eQ C Q b a f c) (
 oP (hbin .eql 3 a (V.int .i64 12)) λg=>
 bP g (
 eQ C Q b a g c) (
 oP (hbin .eql 3 a (V.int .i64 13)) λi=>
 bP i (
 eQ C Q b a i c) (
 oP (hbin .eql 3 a (V.int .i64 14)) λj=>
 bP j (
 eQ C Q b a j c) (
 oP (hbin .eql 3 a (V.int .i64 18)) λk=>
 bP k (
 eQ C Q b a k c) (
 oP (hbin .eql 3 a (V.int .i64 19)) λl=>
 eQ C Q b a l c)))))))))))
theorem wi{C}(s:C.start=startF){a0 h Q}(k:C.K fR [a0] h=none)(H:qh C Q a0 h):cP C fR [a0] h Q:=cP.vd t17 s (by unfold P0;exact Tryd.func17) k H
def t95:List (Nat×List Nat):=[(87,[0,1,12,13])]
def lG (C:Cfg)(Q:QP1)(c d a b:V)(h:Hp):Prop:=∀ρ:Rho,ρ 0=c->ρ 1=d->ρ 12=a->ρ 13=b->WA C Tryd.f95 t95 43 [] Q ρ h
def mH (C:Cfg)(Q:QP1)(c:QP4)(g i b a:V)(h:Hp):Prop:=
 bO .lss 3 a b (
 dX 1 g a h λd=>
 dX 1 i a h λe=>
 bO .neq 3 d e (
 Q bF h) (
 oP (hbin .add 3 a nO) λf=>
 c g i b f h)) (
 Q bT h)
theorem tK{C Q}(I)(s:P4 I (mH C Q)){k c d a b h}(i:I k c d a b h):lG C Q c d a b h:=WA.l4 I _ s i
def oW (C:Cfg)(Q:QP1)(a0 a1:V)(h:Hp):Prop:=
 oP (pLen a0) λb=>
 oP (pLen a1) λc=>
 bO .neq 3 b c (
 Q bF h) (
 oP (pLen a0) λa=>
 lG C Q a0 a1 a nZ h)
theorem vG{C}(s:C.start=startF){a0 a1 h Q}(k:C.K iD [a0,a1] h=none)(H:oW C Q a0 a1 h):cP C iD [a0,a1] h Q:=cP.vd t95 s (by unfold P0;exact Tryd.func95) k H
def t93:List (Nat×List Nat):=[]
def il (C:Cfg)(Q:QP1)(a0 a1:V)(h:Hp):Prop:=
 cP C gq [a0,a1] h λa b=>
 oP (hbin .geq 3 a nZ) λc=>
 Q c b
theorem lB{C}(s:C.start=startF){a0 a1 h Q}(k:C.K fo [a0,a1] h=none)(H:il C Q a0 a1 h):cP C fo [a0,a1] h Q:=cP.vd t93 s (by unfold P0;exact Tryd.func93) k H
def t110:List (Nat×List Nat):=[(43,[0,1,7,8])]
def ig (C:Cfg)(Q:QP1)(a b c d:V)(h:Hp):Prop:=∀ρ:Rho,ρ 0=a->ρ 1=b->ρ 7=c->ρ 8=d->WA C Tryd.f110 t110 21 [] Q ρ h
def im (C:Cfg)(Q:QP1)(b:QP4)(g i j a:V)(h:Hp):Prop:=
 bO .lss 3 a j (
 oP (pIx 6 g a) λc=>
 oP (pLdA 6 c h) λd=>
 calP C (hcall i [d]) h λe k=>
 bP e (
 Q a k) (
 oP (hbin .add 3 a nO) λf=>
 b g i j f k)) (
 Q (V.int .i64 (-1)) h)
theorem lw{C Q}(I)(s:P4 I (im C Q)){k a b c d h}(i:I k a b c d h):ig C Q a b c d h:=WA.l4 I _ s i
def iI (C:Cfg)(Q:QP1)(a0 a1:V)(h:Hp):Prop:=
 oP (pLen a0) λa=>
 ig C Q a0 a1 a nZ h
theorem nB{C}(s:C.start=startF){a0 a1 h Q}(k:C.K gq [a0,a1] h=none)(H:iI C Q a0 a1 h):cP C gq [a0,a1] h Q:=cP.vd t110 s (by unfold P0;exact Tryd.func110) k H
def t94:List (Nat×List Nat):=[]
def rF (C:Cfg)(Q:QP1)(a0 a1:V)(h:Hp):Prop:=
 alP (hbox 42 a0) h λe a=>
 dF 0 e a λf=>
 oP (hbin .eql 3 f nO) λg=>
 oP (pAnd g (oB (pFA 3 e) λi=>oB (pLd i a) λj=>oB (pFA 3 a1) λb=>oB (pLd b a) λc=>hbin .eql 2 j c)) λd=>
 Q d a
theorem yd{C}(s:C.start=startF){a0 a1 h Q}(k:C.K gc [a0,a1] h=none)(H:rF C Q a0 a1 h):cP C gc [a0,a1] h Q:=cP.vd t94 s (by unfold P0;exact Tryd.func94) k H
def t102:List (Nat×List Nat):=[(11,[0,2,3])]
def kv (C:Cfg)(Q:QP1)(a b c:V)(h:Hp):Prop:=∀ρ:Rho,ρ 0=a->ρ 2=b->ρ 3=c->WA C Tryd.f102 t102 5 [] Q ρ h
def kE (C:Cfg)(Q:QP1)(d:QP3)(a b c:V)(h:Hp):Prop:=
 bO .lss 3 b c (
 dX 1 a c h λe=>
 dX 1 a b h λf=>
 oP (pIx 1 a b) λg=>
 valP (pSt 1 g e h) λo i=>
 (h.next<=i.next/\
 oP (pIx 1 a c) λj=>
 valP (pSt 1 j f i) λm n=>
 (i.next<=n.next/\
 oP (hbin .add 3 b nO) λk=>
 oP (hbin .sub 3 c nO) λl=>
 d a k l n))) (
 Q (V.tuple []) h)
theorem rU{C Q}(I)(s:P3 I (kE C Q)){k a b c h}(i:I k a b c h):kv C Q a b c h:=WA.l3 I _ s i
def mO (C:Cfg)(Q:QP1)(a0:V)(h:Hp):Prop:=
 oP (pLen a0) λa=>
 oP (hbin .sub 3 a nO) λb=>
 kv C Q a0 nZ b h
theorem uf{C}(s:C.start=startF){a0 h Q}(k:C.K gY [a0] h=none)(H:mO C Q a0 h):cP C gY [a0] h Q:=cP.vd t102 s (by unfold P0;exact Tryd.func102) k H
end
