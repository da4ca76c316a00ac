/- Parts. -/
import Derived.Test.YtkpicojjjifmgabGreatDoorM10
set_option maxHeartbeats 4000000
namespace Go.Proofs.YtkpicojjjifmgabGreatDoor.Hx
abbrev ni:Nat:=3
abbrev oU:Nat:=4
abbrev oI:Nat:=5
abbrev nj:Nat:=6
abbrev vB:Nat:=7
abbrev ve:Nat:=8
abbrev E2:Nat:=9
abbrev m0:Nat:=10
abbrev kJ:Nat:=11
abbrev mD:Nat:=12
abbrev mX:Nat:=13
abbrev iS:Nat:=14
abbrev fH:Nat:=15
abbrev ft:Nat:=16
abbrev gf:Nat:=17
abbrev jS:Nat:=18
abbrev kS:Nat:=19
abbrev Cf:Nat:=20
abbrev Fh:Nat:=21
abbrev pT:Nat:=22
abbrev mY:Nat:=23
abbrev AW:Nat:=24
abbrev gS:Nat:=25
abbrev qu:Nat:=26
abbrev gG:Nat:=27
abbrev oG:Nat:=28
abbrev gI:Nat:=29
abbrev qc:Nat:=30
abbrev ng:Nat:=31
abbrev na:Nat:=32
abbrev nV:Nat:=33
abbrev kh:Nat:=34
abbrev nU:Nat:=35
abbrev j7:Nat:=36
abbrev il:Nat:=37
abbrev jq:Nat:=38
abbrev iR:Nat:=39
abbrev jN:Nat:=40
abbrev jy:Nat:=41
abbrev jX:Nat:=42
abbrev mB:Nat:=43
abbrev kR:Nat:=44
abbrev mh:Nat:=45
abbrev j5:Nat:=46
abbrev mW:Nat:=47
abbrev pH:Nat:=48
abbrev kQ:Nat:=49
abbrev ny:Nat:=50
abbrev oW:Nat:=51
abbrev tZ:Nat:=52
abbrev mV:Nat:=53
abbrev rh:Nat:=54
abbrev zz:Nat:=55
abbrev jG:Nat:=56
abbrev kH:Nat:=57
abbrev oS:Nat:=58
abbrev lM:Nat:=59
abbrev hY:Nat:=60
abbrev p9:Nat:=61
abbrev xi:Nat:=62
abbrev oJ:Nat:=63
abbrev gD:Nat:=64
abbrev mL:Nat:=65
abbrev kI:Nat:=66
abbrev gP:Nat:=67
abbrev jU:Nat:=68
abbrev lH:Nat:=69
abbrev j9:Nat:=70
abbrev iP:Nat:=71
abbrev js:Nat:=72
abbrev jm:Nat:=73
abbrev kV:Nat:=74
abbrev jl:Nat:=75
abbrev jx:Nat:=76
abbrev lj:Nat:=77
abbrev EW:Nat:=78
abbrev ig:Nat:=79
abbrev jY:Nat:=80
abbrev jK:Nat:=81
abbrev jE:Nat:=82
abbrev ma:Nat:=83
abbrev Fi:Nat:=84
abbrev nY:Nat:=85
abbrev lF:Nat:=86
abbrev iK:Nat:=87
abbrev jL:Nat:=88
abbrev fT:Nat:=89
abbrev wB:Nat:=90
abbrev iG:Nat:=91
abbrev kr:Nat:=93
abbrev mK:Nat:=94
abbrev p8:Nat:=95
set_option maxRecDepth 100000
noncomputable section
def wN:Option (List Field):=(Jm 107).getD none
def t14:List (Nat×List Nat):=[(30,[0])]
def pR(C:fu)(Q:fD)(a:V)(h:Hp):Prop:=∀ρ:gO,ρ 0=a->WA C Tryz.f14 t14 15 [] Q ρ h
def pQ(C:fu)(Q:fD)(a:V)(h:Hp):Prop:=Q a h
theorem vO{C:fu}{Q:fD}{a:V}{h:Hp}(H:pQ C Q a h):pR C Q a h:=by
 rintro ρ rfl;exact WA.of (by kernel_rfl) H
def zx(C:fu)(Q:fD)(a0 a1:V)(h:Hp):Prop:=oP (ez .rem 3 a0 a1) λa=>oP (ez .lss 3 a nZ) λc=>bP c (oP (ez .add 3 a a1) λb=>pR C Q b h) (pR C Q a h)
theorem Hg{C}(s:C.start=fQ){a0 a1 h Q}(k:C.K iS [a0,a1] h=none)(H:zx C Q a0 a1 h):cP C iS [a0,a1] h Q:=cP.vd t14 s (by unfold P0;exact Tryz.func14) k H
def t90:List (Nat×List Nat):=[(106,[3,4]),(490,[18])]
def iE(C:fu)(Q:fD)(a b:V)(h:Hp):Prop:=∀ρ:gO,ρ 3=a->ρ 4=b->WA C Tryz.f90 t90 53 [] Q ρ h
def gU(C:fu)(Q:fD)(a:V)(h:Hp):Prop:=∀ρ:gO,ρ 18=a->WA C Tryz.f90 t90 245 [] Q ρ h
def G1(C:fu)(Q:fD)(a i:V)(h:Hp):Prop:=bP i (Q (V.I 2) h) (oP (ez .eql 3 a (V.I 8)) λb=>bP b (gU C Q b h) (oP (ez .eql 3 a (V.I 9)) λc=>bP c (gU C Q c h) (oP (ez .eql 3 a (V.I 15)) λd=>bP d (gU C Q d h) (oP (ez .eql 3 a (V.I 16)) λe=>bP e (gU C Q e h) (oP (ez .eql 3 a (V.I 17)) λf=>bP f (gU C Q f h) (oP (ez .eql 3 a (V.I 22)) λg=>gU C Q g h))))))
theorem Ob{C:fu}{Q:fD}{a b:V}{h:Hp}(H:G1 C Q a b h):iE C Q a b h:=by
 rintro ρ rfl rfl;exact WA.of (by kernel_rfl) H
def GC(C:fu)(Q:fD)(a:V)(h:Hp):Prop:=bP a (Q nO h) (Q nZ h)
theorem M7{C:fu}{Q:fD}{a:V}{h:Hp}(H:GC C Q a h):gU C Q a h:=by
 rintro ρ rfl;exact WA.of (by kernel_rfl) H
def Mg(C:fu)(Q:fD)(a0:V)(h:Hp):Prop:=oP (ez .eql 3 a0 (V.I 3)) λj=>bP j (iE C Q a0 j h) (oP (ez .eql 3 a0 (V.I 4)) λk=>bP k (iE C Q a0 k h) (oP (ez .eql 3 a0 (V.I 5)) λl=>bP l (iE C Q a0 l h) (oP (ez .eql 3 a0 (V.I 6)) λm=>bP m (iE C Q a0 m h) (oP (ez .eql 3 a0 (V.I 7)) λn=>bP n (iE C Q a0 n h) (oP (ez .eql 3 a0 (V.I 10)) λa=>bP a (iE C Q a0 a h) (oP (ez .eql 3 a0 (V.I 11)) λb=>bP b (iE C Q a0 b h) (oP (ez .eql 3 a0 (V.I 12)) λc=>bP c (iE C Q a0 c h) (oP (ez .eql 3 a0 (V.I 13)) λd=>bP d (iE C Q a0 d h) (oP (ez .eql 3 a0 (V.I 14)) λe=>bP e (iE C Q a0 e h) (oP (ez .eql 3 a0 (V.I 18)) λf=>bP f (iE C Q a0 f h) (oP (ez .eql 3 a0 (V.I 19)) λg=>bP g (iE C Q a0 g h) (oP (ez .eql 3 a0 (V.I 20)) λi=>iE C Q a0 i h))))))))))))
theorem SD{C}(s:C.start=fQ){a0 h Q}(k:C.K wB [a0] h=none)(H:Mg C Q a0 h):cP C wB [a0] h Q:=cP.vd t90 s (by unfold P0;exact Tryz.func90) k H
def t63:List (Nat×List Nat):=[]
def JX(C:fu)(Q:fD)(a0:V)(h:Hp):Prop:=oP (ez .eql 3 a0 (V.I 22)) λa=>oP (og a (oB (some a0) λb=>ez .eql 3 b (V.I 23))) λc=>Q c h
theorem Qx{C}(s:C.start=fQ){a0 h Q}(k:C.K oJ [a0] h=none)(H:JX C Q a0 h):cP C oJ [a0] h Q:=cP.vd t63 s (by unfold P0;exact Tryz.func63) k H
def t77:List (Nat×List Nat):=[]
def LY(C:fu)(Q:fD)(a0 a1:V)(h:Hp):Prop:=oP (ez .geq 3 a0 nZ) λb=>oP (kE b (oB (some a0) λc=>oB (some a1) λd=>ez .lss 3 c d)) λa=>Q a h
theorem TF{C}(s:C.start=fQ){a0 a1 h Q}(k:C.K lj [a0,a1] h=none)(H:LY C Q a0 a1 h):cP C lj [a0,a1] h Q:=cP.vd t77 s (by unfold P0;exact Tryz.func77) k H
def t61:List (Nat×List Nat):=[(30,[3])]
def uu(C:fu)(Q:fD)(a:V)(h:Hp):Prop:=∀ρ:gO,ρ 3=a->WA C Tryz.f61 t61 15 [] Q ρ h
def IK(C:fu)(Q:fD)(a:V)(h:Hp):Prop:=Q a h
theorem OU{C:fu}{Q:fD}{a:V}{h:Hp}(H:IK C Q a h):uu C Q a h:=by
 rintro ρ rfl;exact WA.of (by kernel_rfl) H
def NJ(C:fu)(Q:fD)(a0:V)(h:Hp):Prop:=hV (lR 34 a0) h λc k=>yp (jz 3 1 0 nZ []) k λf I i=>oP (fJ 1 c) λl=>oP (fe l i) λm=>oP (fJ 2 c) λn=>oP (fe n i) λo=>yp (jz 3 1 2 nZ [(0,m),(1,o)]) i λg J d=>oP (fJ 0 c) λp=>oP (fe p d) λq=>((d.get (i.next)=some g/\O.beq g g=true)/\((fe n d=some o)/\((fe l d=some m)/\((d.get (k.next)=some f/\O.beq f f=true)/\cP C wB [q] d λr b=>(d.next<=b.next/\oP (jA 1 J none (some r) b) λs=>((b.get (i.next)=some g/\O.beq g g=true)/\((fe n b=some o)/\((fe l b=some m)/\((b.get (k.next)=some f/\O.beq f f=true)/\fm (fh 3 1 8 I s b) λe a=>(b.next<=a.next/\oP (fJ 0 c) λt=>oP (fe t a) λj=>oP (ez .eql 3 j (V.I 20)) λu=>bP u (oP (fJ 4 c) λv=>oP (fe v a) λw=>oP (fJ 4 c) λx=>oP (fe x a) λy=>oP (fI y) λz=>oP (TA false nO [z]) λA=>oP (jA 1 w none (some A) a) λB=>fm (fh 3 1 8 e B a) λD K=>uu C Q D K) (oP (ez .eql 3 j (V.I 21)) λE=>bP E (oP (fJ 4 c) λF=>oP (fe F a) λG=>fm (fh 3 1 8 e G a) λH L=>uu C Q H L) (uu C Q e a))))))))))))
theorem UA{C}(s:C.start=fQ){a0 h Q}(k:C.K p9 [a0] h=none)(H:NJ C Q a0 h):cP C p9 [a0] h Q:=cP.vd t61 s (by unfold P0;exact Tryz.func61) k H
def t36:List (Nat×List Nat):=[(106,[1,4,5]),(490,[1,4,23])]
def gq(C:fu)(Q:fD)(a b c:V)(h:Hp):Prop:=∀ρ:gO,ρ 1=a->ρ 4=b->ρ 5=c->WA C Tryz.f36 t36 53 [] Q ρ h
def iC(C:fu)(Q:fD)(b c a:V)(h:Hp):Prop:=∀ρ:gO,ρ 1=b->ρ 4=c->ρ 23=a->WA C Tryz.f36 t36 245 [] Q ρ h
def uB(C:fu)(Q:fD)(b a o:V)(h:Hp):Prop:=bP o (oP (fJ 1 b) λi=>oP (fe i h) λj=>oP (fJ 2 b) λk=>oP (fe k h) λl=>hV (jz 3 1 2 nZ [(0,j),(1,l)]) h λm p=>Q m p) (oP (ez .eql 3 a (V.I 8)) λc=>bP c (iC C Q b a c h) (oP (ez .eql 3 a (V.I 9)) λd=>bP d (iC C Q b a d h) (oP (ez .eql 3 a (V.I 15)) λe=>bP e (iC C Q b a e h) (oP (ez .eql 3 a (V.I 16)) λf=>bP f (iC C Q b a f h) (oP (ez .eql 3 a (V.I 17)) λg=>bP g (iC C Q b a g h) (oP (ez .eql 3 a (V.I 22)) λn=>iC C Q b a n h))))))
theorem CZ{C:fu}{Q:fD}{a b c:V}{h:Hp}(H:uB C Q a b c h):gq C Q a b c h:=by
 rintro ρ rfl rfl rfl;exact WA.of (by kernel_rfl) H
def uW(C:fu)(Q:fD)(a F l:V)(h:Hp):Prop:=bP l (oP (fJ 1 a) λm=>oP (fe m h) λn=>hV (jz 3 1 1 nZ [(0,n)]) h λo G=>Q o G) (oP (ez .eql 3 F (V.I 20)) λp=>bP p (oP (fJ 4 a) λq=>oP (fe q h) λr=>oP (fI r) λs=>oP (ez .eql 3 s nZ) λt=>bP t (oP (fJ 1 a) λu=>oP (fe u h) λv=>oP (fJ 2 a) λw=>oP (fe w h) λx=>hV (jz 3 1 2 nZ [(0,v),(1,x)]) h λy H=>Q y H) (oP (fJ 1 a) λc=>oP (fe c h) λd=>oP (fJ 2 a) λe=>oP (fe e h) λf=>oP (fJ 4 a) λg=>oP (fe g h) λi=>oP (gB 1 i nZ) λj=>oP (fe j h) λk=>yp (jz 3 1 3 nZ [(0,d),(1,f),(2,k)]) h λz A b=>((b.get (h.next)=some z/\O.beq z z=true)/\((fe j b=some k)/\((fe g b=some i)/\((fe e b=some f)/\((fe c b=some d)/\Q A b))))))) (oP (ez .eql 3 F (V.I 21)) λB=>bP B (oP (fJ 4 a) λD=>oP (fe D h) λE=>Q E h) (Q nS h)))
theorem CY{C:fu}{Q:fD}{b c a:V}{h:Hp}(H:uW C Q b c a h):iC C Q b c a h:=by
 rintro ρ rfl rfl rfl;exact WA.of (by kernel_rfl) H
def yB(C:fu)(Q:fD)(a0:V)(h:Hp):Prop:=hV (lR 34 a0) h λb c=>oP (fJ 0 b) λq=>oP (fe q c) λa=>oP (ez .eql 3 a (V.I 3)) λm=>bP m (gq C Q b a m c) (oP (ez .eql 3 a (V.I 4)) λn=>bP n (gq C Q b a n c) (oP (ez .eql 3 a (V.I 5)) λo=>bP o (gq C Q b a o c) (oP (ez .eql 3 a (V.I 6)) λp=>bP p (gq C Q b a p c) (oP (ez .eql 3 a (V.I 7)) λd=>bP d (gq C Q b a d c) (oP (ez .eql 3 a (V.I 10)) λe=>bP e (gq C Q b a e c) (oP (ez .eql 3 a (V.I 11)) λf=>bP f (gq C Q b a f c) (oP (ez .eql 3 a (V.I 12)) λg=>bP g (gq C Q b a g c) (oP (ez .eql 3 a (V.I 13)) λi=>bP i (gq C Q b a i c) (oP (ez .eql 3 a (V.I 14)) λj=>bP j (gq C Q b a j c) (oP (ez .eql 3 a (V.I 18)) λk=>bP k (gq C Q b a k c) (oP (ez .eql 3 a (V.I 19)) λl=>gq C Q b a l c)))))))))))
theorem FT{C}(s:C.start=fQ){a0 h Q}(k:C.K j7 [a0] h=none)(H:yB C Q a0 h):cP C j7 [a0] h Q:=cP.vd t36 s (by unfold P0;exact Tryz.func36) k H
def t60:List (Nat×List Nat):=[(87,[0,1,12,13])]
def tG(C:fu)(Q:fD)(c d a b:V)(h:Hp):Prop:=∀ρ:gO,ρ 0=c->ρ 1=d->ρ 12=a->ρ 13=b->WA C Tryz.f60 t60 43 [] Q ρ h
def tW(C:fu)(Q:fD)(fU:Ml)(f g b a:V)(h:Hp):Prop:=bO .lss 3 a b (dX 1 f a h λc=>dX 1 g a h λd=>bO .neq 3 c d (Q bF h) (oP (ez .add 3 a nO) λe=>fU f g b e h)) (Q bT h)
theorem BU{C Q}(I)(s:P4 I (tW C Q)){k c d a b h}(i:I k c d a b h):tG C Q c d a b h:=WA.l4 I _ s i
def xN(C:fu)(Q:fD)(a0 a1:V)(h:Hp):Prop:=oP (fI a0) λb=>oP (fI a1) λc=>bO .neq 3 b c (Q bF h) (oP (fI a0) λa=>tG C Q a0 a1 a nZ h)
theorem EL{C}(s:C.start=fQ){a0 a1 h Q}(k:C.K hY [a0,a1] h=none)(H:xN C Q a0 a1 h):cP C hY [a0,a1] h Q:=cP.vd t60 s (by unfold P0;exact Tryz.func60) k H
def t79:List (Nat×List Nat):=[]
def mM(C:fu)(Q:fD)(a0 a1:V)(h:Hp):Prop:=cP C kr [a0,a1] h λa b=>oP (ez .geq 3 a nZ) λc=>Q c b
theorem rX{C}(s:C.start=fQ){a0 a1 h Q}(k:C.K ig [a0,a1] h=none)(H:mM C Q a0 a1 h):cP C ig [a0,a1] h Q:=cP.vd t79 s (by unfold P0;exact Tryz.func79) k H
def t93:List (Nat×List Nat):=[(43,[0,1,7,8])]
def mE(C:fu)(Q:fD)(a b c d:V)(h:Hp):Prop:=∀ρ:gO,ρ 0=a->ρ 1=b->ρ 7=c->ρ 8=d->WA C Tryz.f93 t93 21 [] Q ρ h
def mG(C:fu)(Q:fD)(fU:Ml)(f g i a:V)(h:Hp):Prop:=bO .lss 3 a i (oP (gB 6 f a) λb=>oP (fW 6 b h) λc=>ij C (gv g [c]) h λd j=>bP d (Q a j) (oP (ez .add 3 a nO) λe=>fU f g i e j)) (Q (V.I (-1)) h)
theorem rV{C Q}(I)(s:P4 I (mG C Q)){k a b c d h}(i:I k a b c d h):mE C Q a b c d h:=WA.l4 I _ s i
def nP(C:fu)(Q:fD)(a0 a1:V)(h:Hp):Prop:=oP (fI a0) λa=>mE C Q a0 a1 a nZ h
theorem vy{C}(s:C.start=fQ){a0 a1 h Q}(k:C.K kr [a0,a1] h=none)(H:nP C Q a0 a1 h):cP C kr [a0,a1] h Q:=cP.vd t93 s (by unfold P0;exact Tryz.func93) k H
def t80:List (Nat×List Nat):=[]
def z9(C:fu)(Q:fD)(a0 a1:V)(h:Hp):Prop:=hV (lR 34 a0) h λe a=>dF 0 e a λf=>oP (ez .eql 3 f nO) λg=>oP (kE g (oB (fJ 3 e) λi=>oB (fe i a) λj=>oB (fJ 3 a1) λb=>oB (fe b a) λc=>ez .eql 2 j c)) λd=>Q d a
theorem Iv{C}(s:C.start=fQ){a0 a1 h Q}(k:C.K jY [a0,a1] h=none)(H:z9 C Q a0 a1 h):cP C jY [a0,a1] h Q:=cP.vd t80 s (by unfold P0;exact Tryz.func80) k H
def t83:List (Nat×List Nat):=[(11,[0,2,3])]
def qA(C:fu)(Q:fD)(a b c:V)(h:Hp):Prop:=∀ρ:gO,ρ 0=a->ρ 2=b->ρ 3=c->WA C Tryz.f83 t83 5 [] Q ρ h
def qO(C:fu)(Q:fD)(fU:Tu)(a b c:V)(h:Hp):Prop:=bO .lss 3 b c (dX 1 a c h λd=>dX 1 a b h λe=>oP (gB 1 a b) λf=>fm (gJ 1 f d h) λn g=>(h.next<=g.next/\oP (gB 1 a c) λi=>fm (gJ 1 i e g) λl m=>(g.next<=m.next/\oP (ez .add 3 b nO) λj=>oP (ez .sub 3 c nO) λk=>fU a j k m))) (Q (V.tuple []) h)
theorem Ap{C Q}(I)(s:P3 I (qO C Q)){k a b c h}(i:I k a b c h):qA C Q a b c h:=WA.l3 I _ s i
def uz(C:fu)(Q:fD)(a0:V)(h:Hp):Prop:=oP (fI a0) λa=>oP (ez .sub 3 a nO) λb=>qA C Q a0 nZ b h
theorem Di{C}(s:C.start=fQ){a0 h Q}(k:C.K ma [a0] h=none)(H:uz C Q a0 h):cP C ma [a0] h Q:=cP.vd t83 s (by unfold P0;exact Tryz.func83) k H
end
