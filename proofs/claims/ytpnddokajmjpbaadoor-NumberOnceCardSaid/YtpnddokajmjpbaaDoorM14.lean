/- Parts. -/
import Derived.Test.YtpnddokajmjpbaaDoorM10
namespace Go.Proofs.YtpnddokajmjpbaaDoor.Hx
abbrev lF:Nat:=7
abbrev mr:Nat:=13
abbrev lE:Nat:=14
abbrev iu:Nat:=17
abbrev iF:Nat:=21
abbrev nR:Nat:=22
abbrev sh:Nat:=23
abbrev mi:Nat:=24
abbrev jW:Nat:=25
abbrev lX:Nat:=26
abbrev lG:Nat:=27
abbrev Aa:Nat:=31
abbrev vM:Nat:=33
abbrev sx:Nat:=36
abbrev Cj:Nat:=37
abbrev yp:Nat:=38
abbrev fo:Nat:=39
abbrev fi:Nat:=40
abbrev fL:Nat:=41
abbrev jc:Nat:=42
abbrev jF:Nat:=43
abbrev lB:Nat:=44
abbrev lC:Nat:=45
abbrev lW:Nat:=46
abbrev jn:Nat:=47
abbrev gS:Nat:=48
abbrev iH:Nat:=49
abbrev nB:Nat:=57
abbrev lD:Nat:=58
abbrev jh:Nat:=61
abbrev kY:Nat:=62
abbrev mW:Nat:=63
abbrev jG:Nat:=64
abbrev lU:Nat:=65
abbrev mn:Nat:=66
abbrev rr:Nat:=67
abbrev lh:Nat:=68
abbrev th:Nat:=70
abbrev ml:Nat:=71
abbrev jY:Nat:=72
abbrev jv:Nat:=73
abbrev gi:Nat:=74
abbrev iY:Nat:=75
abbrev pK:Nat:=82
abbrev wF:Nat:=83
abbrev iU:Nat:=84
abbrev jw:Nat:=85
abbrev iI:Nat:=89
abbrev jJ:Nat:=90
abbrev Ci:Nat:=91
abbrev nN:Nat:=92
abbrev gP:Nat:=93
abbrev je:Nat:=94
abbrev lH:Nat:=95
abbrev iQ:Nat:=96
abbrev iL:Nat:=97
abbrev jP:Nat:=98
abbrev hY:Nat:=99
abbrev iS:Nat:=100
abbrev fF:Nat:=101
abbrev ko:Nat:=102
abbrev BP:Nat:=103
abbrev lV:Nat:=104
abbrev js:Nat:=110
abbrev kS:Nat:=111
abbrev nU:Nat:=112
set_option maxRecDepth 100000
noncomputable section
def tg:Option (List Field):=(FO 127).getD none
def t21:List (Nat×List Nat):=[(30,[0])]
def ng (C:fu)(Q:fx)(a:V)(h:Hp):Prop:=∀ρ:fZ,ρ 0=a->WA C Tryd.f21 t21 15 [] Q ρ h
def nr (C:fu)(Q:fx)(a:V)(h:Hp):Prop:=
 Q a h
theorem sY {C:fu}{Q:fx}{a:V}{h:Hp}(H:nr C Q a h):ng C Q a h:=by
 rintro ρ rfl;exact WA.of (by kernel_rfl) H
def wP (C:fu)(Q:fx)(a0 a1:V)(h:Hp):Prop:=
 oP (er .rem 3 a0 a1) λa=>
 oP (er .lss 3 a nZ) λc=>
 bP c (
 oP (er .add 3 a a1) λb=>
 ng C Q b h) (
 ng C Q a h)
theorem DC{C}(s:C.start=fW){a0 a1 h Q}(k:C.K iF [a0,a1] h=none)(H:wP C Q a0 a1 h):cP C iF [a0,a1] h Q:=cP.vd t21 s (by unfold P0;exact Tryd.func21) k H
def t70:List (Nat×List Nat):=[(106,[3,4]),(490,[18])]
def hH (C:fu)(Q:fx)(a b:V)(h:Hp):Prop:=∀ρ:fZ,ρ 3=a->ρ 4=b->WA C Tryd.f70 t70 53 [] Q ρ h
def kH (C:fu)(Q:fx)(a:V)(h:Hp):Prop:=∀ρ:fZ,ρ 18=a->WA C Tryd.f70 t70 245 [] Q ρ h
def De (C:fu)(Q:fx)(a i:V)(h:Hp):Prop:=
 bP i (
 Q (V.int .i64 2) h) (
 oP (er .eql 3 a (V.int .i64 8)) λb=>
 bP b (
 kH C Q b h) (
 oP (er .eql 3 a (V.int .i64 9)) λc=>
 bP c (
 kH C Q c h) (
 oP (er .eql 3 a (V.int .i64 15)) λd=>
 bP d (
 kH C Q d h) (
 oP (er .eql 3 a (V.int .i64 16)) λe=>
 bP e (
 kH C Q e h) (
 oP (er .eql 3 a (V.int .i64 17)) λf=>
 bP f (
 kH C Q f h) (
 oP (er .eql 3 a (V.int .i64 22)) λg=>
 kH C Q g h))))))
theorem J7 {C:fu}{Q:fx}{a b:V}{h:Hp}(H:De C Q a b h):hH C Q a b h:=by
 rintro ρ rfl rfl;exact WA.of (by kernel_rfl) H
def CV (C:fu)(Q:fx)(a:V)(h:Hp):Prop:=
 bP a (
 Q nO h) (
 Q nZ h)
theorem JP {C:fu}{Q:fx}{a:V}{h:Hp}(H:CV C Q a h):kH C Q a h:=by
 rintro ρ rfl;exact WA.of (by kernel_rfl) H
def IM (C:fu)(Q:fx)(a0:V)(h:Hp):Prop:=
 oP (er .eql 3 a0 (V.int .i64 3)) λj=>
 bP j (
 hH C Q a0 j h) (
 oP (er .eql 3 a0 (V.int .i64 4)) λk=>
 bP k (
 hH C Q a0 k h) (
 oP (er .eql 3 a0 (V.int .i64 5)) λl=>
 bP l (
 hH C Q a0 l h) (
 oP (er .eql 3 a0 (V.int .i64 6)) λm=>
 bP m (
 hH C Q a0 m h) (
 oP (er .eql 3 a0 (V.int .i64 7)) λn=>
 bP n (
 hH C Q a0 n h) (
 oP (er .eql 3 a0 (V.int .i64 10)) λa=>
 bP a (
 hH C Q a0 a h) (
 oP (er .eql 3 a0 (V.int .i64 11)) λb=>
 bP b (
 hH C Q a0 b h) (
 oP (er .eql 3 a0 (V.int .i64 12)) λc=>
 bP c (
 hH C Q a0 c h) (
 oP (er .eql 3 a0 (V.int .i64 13)) λd=>
 bP d (
 hH C Q a0 d h) (
 oP (er .eql 3 a0 (V.int .i64 14)) λe=>
 bP e (
 hH C Q a0 e h) (
 oP (er .eql 3 a0 (V.int .i64 18)) λf=>
 bP f (
 hH C Q a0 f h) (
 oP (er .eql 3 a0 (V.int .i64 19)) λg=>
 bP g (
 hH C Q a0 g h) (
 oP (er .eql 3 a0 (V.int .i64 20)) λi=>
 hH C Q a0 i h))))))))))))
theorem Oj{C}(s:C.start=fW){a0 h Q}(k:C.K th [a0] h=none)(H:IM C Q a0 h):cP C th [a0] h Q:=cP.vd t70 s (by unfold P0;exact Tryd.func70) k H
def t92:List (Nat×List Nat):=[]
def G6 (C:fu)(Q:fx)(a0:V)(h:Hp):Prop:=
 oP (er .eql 3 a0 (V.int .i64 22)) λa=>
 oP (pN a (oB (some a0) λb=>er .eql 3 b (V.int .i64 23))) λc=>
 Q c h
theorem MK{C}(s:C.start=fW){a0 h Q}(k:C.K nN [a0] h=none)(H:G6 C Q a0 h):cP C nN [a0] h Q:=cP.vd t92 s (by unfold P0;exact Tryd.func92) k H
def t90:List (Nat×List Nat):=[]
def IF (C:fu)(Q:fx)(a0 a1:V)(h:Hp):Prop:=
 oP (er .geq 3 a0 nZ) λb=>
 oP (jK b (oB (some a0) λc=>oB (some a1) λd=>er .lss 3 c d)) λa=>
 Q a h
theorem OM{C}(s:C.start=fW){a0 a1 h Q}(k:C.K jJ [a0,a1] h=none)(H:IF C Q a0 a1 h):cP C jJ [a0,a1] h Q:=cP.vd t90 s (by unfold P0;exact Tryd.func90) k H
def t36:List (Nat×List Nat):=[(30,[3])]
def rI (C:fu)(Q:fx)(a:V)(h:Hp):Prop:=∀ρ:fZ,ρ 3=a->WA C Tryd.f36 t36 15 [] Q ρ h
def EW (C:fu)(Q:fx)(a:V)(h:Hp):Prop:=
 Q a h
theorem Lg {C:fu}{Q:fx}{a:V}{h:Hp}(H:EW C Q a h):rI C Q a h:=by
 rintro ρ rfl;exact WA.of (by kernel_rfl) H
def Jw (C:fu)(Q:fx)(a0:V)(h:Hp):Prop:=
 ij (nP 42 a0) h λc k=>
 wS (iZ 3 1 0 nZ []) k λf I i=>
 oP (fH 1 c) λl=>
 oP (ev l i) λm=>
 oP (fH 2 c) λn=>
 oP (ev n i) λo=>
 wS (iZ 3 1 2 nZ [(0,m),(1,o)]) i λg J d=>
 oP (fH 0 c) λp=>
 oP (ev p d) λq=>
 ((d.get (i.next)=some g/\O.beq g g=true)/\
 ((ev n d=some o)/\
 ((ev l d=some m)/\
 ((d.get (k.next)=some f/\O.beq f f=true)/\
 cP C th [q] d λr b=>
 (d.next<=b.next/\
 oP (iJ 1 J none (some r) b) λs=>
 ((b.get (i.next)=some g/\O.beq g g=true)/\
 ((ev n b=some o)/\
 ((ev l b=some m)/\
 ((b.get (k.next)=some f/\O.beq f f=true)/\
 fm (eR 3 1 8 I s b) λe a=>
 (b.next<=a.next/\
 oP (fH 0 c) λt=>
 oP (ev t a) λj=>
 oP (er .eql 3 j (V.int .i64 20)) λu=>
 bP u (
 oP (fH 4 c) λv=>
 oP (ev v a) λw=>
 oP (fH 4 c) λx=>
 oP (ev x a) λy=>
 oP (fD y) λz=>
 oP (OW false nO [z]) λA=>
 oP (iJ 1 w none (some A) a) λB=>
 fm (eR 3 1 8 e B a) λD K=>
 rI C Q D K) (
 oP (er .eql 3 j (V.int .i64 21)) λE=>
 bP E (
 oP (fH 4 c) λF=>
 oP (ev F a) λG=>
 fm (eR 3 1 8 e G a) λH L=>
 rI C Q H L) (
 rI C Q e a))))))))))))
theorem PR{C}(s:C.start=fW){a0 h Q}(k:C.K sx [a0] h=none)(H:Jw C Q a0 h):cP C sx [a0] h Q:=cP.vd t36 s (by unfold P0;exact Tryd.func36) k H
def t17:List (Nat×List Nat):=[(106,[1,4,5]),(490,[1,4,23])]
def fQ (C:fu)(Q:fx)(a b c:V)(h:Hp):Prop:=∀ρ:fZ,ρ 1=a->ρ 4=b->ρ 5=c->WA C Tryd.f17 t17 53 [] Q ρ h
def gZ (C:fu)(Q:fx)(b c a:V)(h:Hp):Prop:=∀ρ:fZ,ρ 1=b->ρ 4=c->ρ 23=a->WA C Tryd.f17 t17 245 [] Q ρ h
def rZ (C:fu)(Q:fx)(b a o:V)(h:Hp):Prop:=
 bP o (
 oP (fH 1 b) λi=>
 oP (ev i h) λj=>
 oP (fH 2 b) λk=>
 oP (ev k h) λl=>
 ij (iZ 3 1 2 nZ [(0,j),(1,l)]) h λm p=>
 Q m p) (
 oP (er .eql 3 a (V.int .i64 8)) λc=>
 bP c (
 gZ C Q b a c h) (
 oP (er .eql 3 a (V.int .i64 9)) λd=>
 bP d (
 gZ C Q b a d h) (
 oP (er .eql 3 a (V.int .i64 15)) λe=>
 bP e (
 gZ C Q b a e h) (
 oP (er .eql 3 a (V.int .i64 16)) λf=>
 bP f (
 gZ C Q b a f h) (
 oP (er .eql 3 a (V.int .i64 17)) λg=>
 bP g (
 gZ C Q b a g h) (
 oP (er .eql 3 a (V.int .i64 22)) λn=>
 gZ C Q b a n h))))))
theorem Ah {C:fu}{Q:fx}{a b c:V}{h:Hp}(H:rZ C Q a b c h):fQ C Q a b c h:=by
 rintro ρ rfl rfl rfl;exact WA.of (by kernel_rfl) H
def rK (C:fu)(Q:fx)(a F l:V)(h:Hp):Prop:=
 bP l (
 oP (fH 1 a) λm=>
 oP (ev m h) λn=>
 ij (iZ 3 1 1 nZ [(0,n)]) h λo G=>
 Q o G) (
 oP (er .eql 3 F (V.int .i64 20)) λp=>
 bP p (
 oP (fH 4 a) λq=>
 oP (ev q h) λr=>
 oP (fD r) λs=>
 oP (er .eql 3 s nZ) λt=>
 bP t (
 oP (fH 1 a) λu=>
 oP (ev u h) λv=>
 oP (fH 2 a) λw=>
 oP (ev w h) λx=>
 ij (iZ 3 1 2 nZ [(0,v),(1,x)]) h λy H=>
 Q y H) (
 oP (fH 1 a) λc=>
 oP (ev c h) λd=>
 oP (fH 2 a) λe=>
 oP (ev e h) λf=>
 oP (fH 4 a) λg=>
 oP (ev g h) λi=>
 oP (gD 1 i nZ) λj=>
 oP (ev j h) λk=>
 wS (iZ 3 1 3 nZ [(0,d),(1,f),(2,k)]) h λz A b=>
 ((b.get (h.next)=some z/\O.beq z z=true)/\
 ((ev j b=some k)/\
 ((ev g b=some i)/\
 ((ev e b=some f)/\
 ((ev c b=some d)/\
 Q A b))))))) (
 oP (er .eql 3 F (V.int .i64 21)) λB=>
 bP B (
 oP (fH 4 a) λD=>
 oP (ev D h) λE=>
 Q E h) (
 Q nS h)))
theorem Ai {C:fu}{Q:fx}{b c a:V}{h:Hp}(H:rK C Q b c a h):gZ C Q b c a h:=by
 rintro ρ rfl rfl rfl;exact WA.of (by kernel_rfl) H
def uX (C:fu)(Q:fx)(a0:V)(h:Hp):Prop:=
 ij (nP 42 a0) h λb c=>
 oP (fH 0 b) λq=>
 oP (ev q c) λa=>
 oP (er .eql 3 a (V.int .i64 3)) λm=>
 bP m (
 fQ C Q b a m c) (
 oP (er .eql 3 a (V.int .i64 4)) λn=>
 bP n (
 fQ C Q b a n c) (
 oP (er .eql 3 a (V.int .i64 5)) λo=>
 bP o (
 fQ C Q b a o c) (
 oP (er .eql 3 a (V.int .i64 6)) λp=>
 bP p (
 fQ C Q b a p c) (
 oP (er .eql 3 a (V.int .i64 7)) λd=>
 bP d (
 fQ C Q b a d c) (
 oP (er .eql 3 a (V.int .i64 10)) λe=>
 bP e (
 fQ C Q b a e c) (
 oP (er .eql 3 a (V.int .i64 11)) λf=>
 bP f (
 fQ C Q b a f c) (
 oP (er .eql 3 a (V.int .i64 12)) λg=>
 bP g (
 fQ C Q b a g c) (
 oP (er .eql 3 a (V.int .i64 13)) λi=>
 bP i (
 fQ C Q b a i c) (
 oP (er .eql 3 a (V.int .i64 14)) λj=>
 bP j (
 fQ C Q b a j c) (
 oP (er .eql 3 a (V.int .i64 18)) λk=>
 bP k (
 fQ C Q b a k c) (
 oP (er .eql 3 a (V.int .i64 19)) λl=>
 fQ C Q b a l c)))))))))))
theorem CE{C}(s:C.start=fW){a0 h Q}(k:C.K iu [a0] h=none)(H:uX C Q a0 h):cP C iu [a0] h Q:=cP.vd t17 s (by unfold P0;exact Tryd.func17) k H
def t95:List (Nat×List Nat):=[(87,[0,1,12,13])]
def qv (C:fu)(Q:fx)(c d a b:V)(h:Hp):Prop:=∀ρ:fZ,ρ 0=c->ρ 1=d->ρ 12=a->ρ 13=b->WA C Tryd.f95 t95 43 [] Q ρ h
def qM (C:fu)(Q:fx)(c:Ix)(g i b a:V)(h:Hp):Prop:=
 bO .lss 3 a b (
 dX 1 g a h λd=>
 dX 1 i a h λe=>
 bO .neq 3 d e (
 Q bF h) (
 oP (er .add 3 a nO) λf=>
 c g i b f h)) (
 Q bT h)
theorem zk{C Q}(I)(s:P4 I (qM C Q)){k c d a b h}(i:I k c d a b h):qv C Q c d a b h:=WA.l4 I _ s i
def ud (C:fu)(Q:fx)(a0 a1:V)(h:Hp):Prop:=
 oP (fD a0) λb=>
 oP (fD a1) λc=>
 bO .neq 3 b c (
 Q bF h) (
 oP (fD a0) λa=>
 qv C Q a0 a1 a nZ h)
theorem B9{C}(s:C.start=fW){a0 a1 h Q}(k:C.K lH [a0,a1] h=none)(H:ud C Q a0 a1 h):cP C lH [a0,a1] h Q:=cP.vd t95 s (by unfold P0;exact Tryd.func95) k H
def t93:List (Nat×List Nat):=[]
def kN (C:fu)(Q:fx)(a0 a1:V)(h:Hp):Prop:=
 cP C js [a0,a1] h λa b=>
 oP (er .geq 3 a nZ) λc=>
 Q c b
theorem pY{C}(s:C.start=fW){a0 a1 h Q}(k:C.K gP [a0,a1] h=none)(H:kN C Q a0 a1 h):cP C gP [a0,a1] h Q:=cP.vd t93 s (by unfold P0;exact Tryd.func93) k H
def t110:List (Nat×List Nat):=[(43,[0,1,7,8])]
def kP (C:fu)(Q:fx)(a b c d:V)(h:Hp):Prop:=∀ρ:fZ,ρ 0=a->ρ 1=b->ρ 7=c->ρ 8=d->WA C Tryd.f110 t110 21 [] Q ρ h
def kO (C:fu)(Q:fx)(b:Ix)(g i j a:V)(h:Hp):Prop:=
 bO .lss 3 a j (
 oP (gD 6 g a) λc=>
 oP (gg 6 c h) λd=>
 gU C (fU i [d]) h λe k=>
 bP e (
 Q a k) (
 oP (er .add 3 a nO) λf=>
 b g i j f k)) (
 Q (V.int .i64 (-1)) h)
theorem pZ{C Q}(I)(s:P4 I (kO C Q)){k a b c d h}(i:I k a b c d h):kP C Q a b c d h:=WA.l4 I _ s i
def lM (C:fu)(Q:fx)(a0 a1:V)(h:Hp):Prop:=
 oP (fD a0) λa=>
 kP C Q a0 a1 a nZ h
theorem sN{C}(s:C.start=fW){a0 a1 h Q}(k:C.K js [a0,a1] h=none)(H:lM C Q a0 a1 h):cP C js [a0,a1] h Q:=cP.vd t110 s (by unfold P0;exact Tryd.func110) k H
def t94:List (Nat×List Nat):=[]
def xo (C:fu)(Q:fx)(a0 a1:V)(h:Hp):Prop:=
 ij (nP 42 a0) h λe a=>
 dF 0 e a λf=>
 oP (er .eql 3 f nO) λg=>
 oP (jK g (oB (fH 3 e) λi=>oB (ev i a) λj=>oB (fH 3 a1) λb=>oB (ev b a) λc=>er .eql 2 j c)) λd=>
 Q d a
theorem Es{C}(s:C.start=fW){a0 a1 h Q}(k:C.K je [a0,a1] h=none)(H:xo C Q a0 a1 h):cP C je [a0,a1] h Q:=cP.vd t94 s (by unfold P0;exact Tryd.func94) k H
def t102:List (Nat×List Nat):=[(11,[0,2,3])]
def oH (C:fu)(Q:fx)(a b c:V)(h:Hp):Prop:=∀ρ:fZ,ρ 0=a->ρ 2=b->ρ 3=c->WA C Tryd.f102 t102 5 [] Q ρ h
def oS (C:fu)(Q:fx)(d:QB)(a b c:V)(h:Hp):Prop:=
 bO .lss 3 b c (
 dX 1 a c h λe=>
 dX 1 a b h λf=>
 oP (gD 1 a b) λg=>
 fm (gB 1 g e h) λo i=>
 (h.next<=i.next/\
 oP (gD 1 a c) λj=>
 fm (gB 1 j f i) λm n=>
 (i.next<=n.next/\
 oP (er .add 3 b nO) λk=>
 oP (er .sub 3 c nO) λl=>
 d a k l n))) (
 Q (V.tuple []) h)
theorem xU{C Q}(I)(s:P3 I (oS C Q)){k a b c h}(i:I k a b c h):oH C Q a b c h:=WA.l3 I _ s i
def rG (C:fu)(Q:fx)(a0:V)(h:Hp):Prop:=
 oP (fD a0) λa=>
 oP (er .sub 3 a nO) λb=>
 oH C Q a0 nZ b h
theorem Ap{C}(s:C.start=fW){a0 h Q}(k:C.K ko [a0] h=none)(H:rG C Q a0 h):cP C ko [a0] h Q:=cP.vd t102 s (by unfold P0;exact Tryd.func102) k H
end
