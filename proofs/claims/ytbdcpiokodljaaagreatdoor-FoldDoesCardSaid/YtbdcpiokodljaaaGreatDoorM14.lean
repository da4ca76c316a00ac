/- Parts. -/
import Derived.Test.YtbdcpiokodljaaaGreatDoorM10
set_option maxHeartbeats 4000000
namespace Go.Proofs.YtbdcpiokodljaaaGreatDoor.Hx
abbrev ou:Nat:=3
abbrev oK:Nat:=4
abbrev vj:Nat:=5
abbrev Cy:Nat:=6
abbrev p7:Nat:=7
abbrev Fc:Nat:=8
abbrev m0:Nat:=9
abbrev kH:Nat:=10
abbrev mE:Nat:=11
abbrev nf:Nat:=12
abbrev iQ:Nat:=13
abbrev fy:Nat:=14
abbrev fm:Nat:=15
abbrev fY:Nat:=16
abbrev jO:Nat:=17
abbrev kQ:Nat:=18
abbrev CH:Nat:=19
abbrev pE:Nat:=20
abbrev yT:Nat:=21
abbrev Br:Nat:=22
abbrev Au:Nat:=23
abbrev gR:Nat:=24
abbrev qp:Nat:=25
abbrev gD:Nat:=26
abbrev oC:Nat:=27
abbrev gz:Nat:=28
abbrev qi:Nat:=29
abbrev mY:Nat:=30
abbrev mX:Nat:=31
abbrev nU:Nat:=32
abbrev j9:Nat:=33
abbrev nQ:Nat:=34
abbrev j7:Nat:=35
abbrev hY:Nat:=36
abbrev jk:Nat:=37
abbrev iM:Nat:=38
abbrev jJ:Nat:=39
abbrev jt:Nat:=40
abbrev jQ:Nat:=41
abbrev mF:Nat:=42
abbrev kN:Nat:=43
abbrev mg:Nat:=44
abbrev j4:Nat:=45
abbrev mR:Nat:=46
abbrev pC:Nat:=47
abbrev kO:Nat:=48
abbrev nw:Nat:=49
abbrev oR:Nat:=50
abbrev uc:Nat:=51
abbrev rR:Nat:=52
abbrev mS:Nat:=53
abbrev AE:Nat:=54
abbrev oO:Nat:=55
abbrev lO:Nat:=56
abbrev E8:Nat:=57
abbrev gX:Nat:=58
abbrev qb:Nat:=59
abbrev xY:Nat:=60
abbrev oL:Nat:=61
abbrev gB:Nat:=62
abbrev mG:Nat:=63
abbrev kF:Nat:=64
abbrev gM:Nat:=65
abbrev jN:Nat:=66
abbrev lF:Nat:=67
abbrev ka:Nat:=68
abbrev iO:Nat:=69
abbrev jm:Nat:=70
abbrev jj:Nat:=71
abbrev kS:Nat:=72
abbrev ji:Nat:=73
abbrev jr:Nat:=74
abbrev lj:Nat:=75
abbrev ER:Nat:=76
abbrev hX:Nat:=77
abbrev jY:Nat:=78
abbrev zH:Nat:=79
abbrev pU:Nat:=80
abbrev jE:Nat:=81
abbrev jC:Nat:=82
abbrev jx:Nat:=83
abbrev jD:Nat:=84
abbrev km:Nat:=85
abbrev jG:Nat:=86
abbrev ko:Nat:=87
abbrev lJ:Nat:=88
abbrev iG:Nat:=89
abbrev jF:Nat:=90
abbrev fQ:Nat:=91
abbrev vU:Nat:=92
abbrev zh:Nat:=93
abbrev p6:Nat:=94
abbrev iD:Nat:=95
abbrev ku:Nat:=97
abbrev mc:Nat:=98
abbrev mD:Nat:=99
abbrev jU:Nat:=100
abbrev pZ:Nat:=101
set_option maxRecDepth 100000
noncomputable section
def t13:List (Nat×List Nat):=[(30,[0])]
def pM(C:fk)(Q:fo)(a:V)(h:Hp):Prop:=∀ρ:gL,ρ 0=a->WA C Tryz.f13 t13 15 [] Q ρ h
def pQ(C:fk)(Q:fo)(a:V)(h:Hp):Prop:=Q a h
theorem wQ{C:fk}{Q:fo}{a:V}{h:Hp}(H:pQ C Q a h):pM C Q a h:=by
 rintro ρ rfl;exact WA.of (by kernel_rfl) H
def zx(C:fk)(Q:fo)(a0 a1:V)(h:Hp):Prop:=oP (en .rem 3 a0 a1) λa=>oP (en .lss 3 a nZ) λc=>bP c (oP (en .add 3 a a1) λb=>pM C Q b h) (pM C Q a h)
theorem Ha{C}(s:C.start=fG){a0 a1 h Q}(k:C.K iQ [a0,a1] h=none)(H:zx C Q a0 a1 h):cP C iQ [a0,a1] h Q:=cP.vd t13 s (by unfold P0;exact Tryz.func13) k H
def t92:List (Nat×List Nat):=[(106,[3,4]),(490,[18])]
def iA(C:fk)(Q:fo)(a b:V)(h:Hp):Prop:=∀ρ:gL,ρ 3=a->ρ 4=b->WA C Tryz.f92 t92 53 [] Q ρ h
def gQ(C:fk)(Q:fo)(a:V)(h:Hp):Prop:=∀ρ:gL,ρ 18=a->WA C Tryz.f92 t92 245 [] Q ρ h
def G2(C:fk)(Q:fo)(a i:V)(h:Hp):Prop:=bP i (Q (V.I 2) h) (oP (en .eql 3 a (V.I 8)) λb=>bP b (gQ C Q b h) (oP (en .eql 3 a (V.I 9)) λc=>bP c (gQ C Q c h) (oP (en .eql 3 a (V.I 15)) λd=>bP d (gQ C Q d h) (oP (en .eql 3 a (V.I 16)) λe=>bP e (gQ C Q e h) (oP (en .eql 3 a (V.I 17)) λf=>bP f (gQ C Q f h) (oP (en .eql 3 a (V.I 22)) λg=>gQ C Q g h))))))
theorem NZ{C:fk}{Q:fo}{a b:V}{h:Hp}(H:G2 C Q a b h):iA C Q a b h:=by
 rintro ρ rfl rfl;exact WA.of (by kernel_rfl) H
def Hi(C:fk)(Q:fo)(a:V)(h:Hp):Prop:=bP a (Q nO h) (Q nZ h)
theorem OR{C:fk}{Q:fo}{a:V}{h:Hp}(H:Hi C Q a h):gQ C Q a h:=by
 rintro ρ rfl;exact WA.of (by kernel_rfl) H
def Mj(C:fk)(Q:fo)(a0:V)(h:Hp):Prop:=oP (en .eql 3 a0 (V.I 3)) λj=>bP j (iA C Q a0 j h) (oP (en .eql 3 a0 (V.I 4)) λk=>bP k (iA C Q a0 k h) (oP (en .eql 3 a0 (V.I 5)) λl=>bP l (iA C Q a0 l h) (oP (en .eql 3 a0 (V.I 6)) λm=>bP m (iA C Q a0 m h) (oP (en .eql 3 a0 (V.I 7)) λn=>bP n (iA C Q a0 n h) (oP (en .eql 3 a0 (V.I 10)) λa=>bP a (iA C Q a0 a h) (oP (en .eql 3 a0 (V.I 11)) λb=>bP b (iA C Q a0 b h) (oP (en .eql 3 a0 (V.I 12)) λc=>bP c (iA C Q a0 c h) (oP (en .eql 3 a0 (V.I 13)) λd=>bP d (iA C Q a0 d h) (oP (en .eql 3 a0 (V.I 14)) λe=>bP e (iA C Q a0 e h) (oP (en .eql 3 a0 (V.I 18)) λf=>bP f (iA C Q a0 f h) (oP (en .eql 3 a0 (V.I 19)) λg=>bP g (iA C Q a0 g h) (oP (en .eql 3 a0 (V.I 20)) λi=>iA C Q a0 i h))))))))))))
theorem Tw{C}(s:C.start=fG){a0 h Q}(k:C.K vU [a0] h=none)(H:Mj C Q a0 h):cP C vU [a0] h Q:=cP.vd t92 s (by unfold P0;exact Tryz.func92) k H
def t61:List (Nat×List Nat):=[]
def Ku(C:fk)(Q:fo)(a0:V)(h:Hp):Prop:=oP (en .eql 3 a0 (V.I 22)) λa=>oP (nt a (oB (some a0) λb=>en .eql 3 b (V.I 23))) λc=>Q c h
theorem Rz{C}(s:C.start=fG){a0 h Q}(k:C.K oL [a0] h=none)(H:Ku C Q a0 h):cP C oL [a0] h Q:=cP.vd t61 s (by unfold P0;exact Tryz.func61) k H
def t75:List (Nat×List Nat):=[]
def MA(C:fk)(Q:fo)(a0 a1:V)(h:Hp):Prop:=oP (en .geq 3 a0 nZ) λb=>oP (jX b (oB (some a0) λc=>oB (some a1) λd=>en .lss 3 c d)) λa=>Q a h
theorem Sb{C}(s:C.start=fG){a0 a1 h Q}(k:C.K lj [a0,a1] h=none)(H:MA C Q a0 a1 h):cP C lj [a0,a1] h Q:=cP.vd t75 s (by unfold P0;exact Tryz.func75) k H
def t59:List (Nat×List Nat):=[(30,[3])]
def uL(C:fk)(Q:fo)(a:V)(h:Hp):Prop:=∀ρ:gL,ρ 3=a->WA C Tryz.f59 t59 15 [] Q ρ h
def I9(C:fk)(Q:fo)(a:V)(h:Hp):Prop:=Q a h
theorem O2{C:fk}{Q:fo}{a:V}{h:Hp}(H:I9 C Q a h):uL C Q a h:=by
 rintro ρ rfl;exact WA.of (by kernel_rfl) H
def Ns(C:fk)(Q:fo)(a0:V)(h:Hp):Prop:=hH (mn 45 a0) h λc k=>yU (jK 3 1 0 nZ []) k λf I i=>oP (fF 1 c) λl=>oP (ez l i) λm=>oP (fF 2 c) λn=>oP (ez n i) λo=>yU (jK 3 1 2 nZ [(0,m),(1,o)]) i λg J d=>oP (fF 0 c) λp=>oP (ez p d) λq=>((d.get (i.next)=some g/\O.beq g g=true)/\((ez n d=some o)/\((ez l d=some m)/\((d.get (k.next)=some f/\O.beq f f=true)/\cP C vU [q] d λr b=>(d.next<=b.next/\oP (jz 1 J none (some r) b) λs=>((b.get (i.next)=some g/\O.beq g g=true)/\((ez n b=some o)/\((ez l b=some m)/\((b.get (k.next)=some f/\O.beq f f=true)/\fg (eR 3 1 8 I s b) λe a=>(b.next<=a.next/\oP (fF 0 c) λt=>oP (ez t a) λj=>oP (en .eql 3 j (V.I 20)) λu=>bP u (oP (fF 4 c) λv=>oP (ez v a) λw=>oP (fF 4 c) λx=>oP (ez x a) λy=>oP (fD y) λz=>oP (SO false nO [z]) λA=>oP (jz 1 w none (some A) a) λB=>fg (eR 3 1 8 e B a) λD K=>uL C Q D K) (oP (en .eql 3 j (V.I 21)) λE=>bP E (oP (fF 4 c) λF=>oP (ez F a) λG=>fg (eR 3 1 8 e G a) λH L=>uL C Q H L) (uL C Q e a))))))))))))
theorem UM{C}(s:C.start=fG){a0 h Q}(k:C.K qb [a0] h=none)(H:Ns C Q a0 h):cP C qb [a0] h Q:=cP.vd t59 s (by unfold P0;exact Tryz.func59) k H
def t35:List (Nat×List Nat):=[(106,[1,4,5]),(490,[1,4,23])]
def gg(C:fk)(Q:fo)(a b c:V)(h:Hp):Prop:=∀ρ:gL,ρ 1=a->ρ 4=b->ρ 5=c->WA C Tryz.f35 t35 53 [] Q ρ h
def il(C:fk)(Q:fo)(b c a:V)(h:Hp):Prop:=∀ρ:gL,ρ 1=b->ρ 4=c->ρ 23=a->WA C Tryz.f35 t35 245 [] Q ρ h
def uu(C:fk)(Q:fo)(b a o:V)(h:Hp):Prop:=bP o (oP (fF 1 b) λi=>oP (ez i h) λj=>oP (fF 2 b) λk=>oP (ez k h) λl=>hH (jK 3 1 2 nZ [(0,j),(1,l)]) h λm p=>Q m p) (oP (en .eql 3 a (V.I 8)) λc=>bP c (il C Q b a c h) (oP (en .eql 3 a (V.I 9)) λd=>bP d (il C Q b a d h) (oP (en .eql 3 a (V.I 15)) λe=>bP e (il C Q b a e h) (oP (en .eql 3 a (V.I 16)) λf=>bP f (il C Q b a f h) (oP (en .eql 3 a (V.I 17)) λg=>bP g (il C Q b a g h) (oP (en .eql 3 a (V.I 22)) λn=>il C Q b a n h))))))
theorem Dl{C:fk}{Q:fo}{a b c:V}{h:Hp}(H:uu C Q a b c h):gg C Q a b c h:=by
 rintro ρ rfl rfl rfl;exact WA.of (by kernel_rfl) H
def uR(C:fk)(Q:fo)(a F l:V)(h:Hp):Prop:=bP l (oP (fF 1 a) λm=>oP (ez m h) λn=>hH (jK 3 1 1 nZ [(0,n)]) h λo G=>Q o G) (oP (en .eql 3 F (V.I 20)) λp=>bP p (oP (fF 4 a) λq=>oP (ez q h) λr=>oP (fD r) λs=>oP (en .eql 3 s nZ) λt=>bP t (oP (fF 1 a) λu=>oP (ez u h) λv=>oP (fF 2 a) λw=>oP (ez w h) λx=>hH (jK 3 1 2 nZ [(0,v),(1,x)]) h λy H=>Q y H) (oP (fF 1 a) λc=>oP (ez c h) λd=>oP (fF 2 a) λe=>oP (ez e h) λf=>oP (fF 4 a) λg=>oP (ez g h) λi=>oP (gG 1 i nZ) λj=>oP (ez j h) λk=>yU (jK 3 1 3 nZ [(0,d),(1,f),(2,k)]) h λz A b=>((b.get (h.next)=some z/\O.beq z z=true)/\((ez j b=some k)/\((ez g b=some i)/\((ez e b=some f)/\((ez c b=some d)/\Q A b))))))) (oP (en .eql 3 F (V.I 21)) λB=>bP B (oP (fF 4 a) λD=>oP (ez D h) λE=>Q E h) (Q nS h)))
theorem Dp{C:fk}{Q:fo}{b c a:V}{h:Hp}(H:uR C Q b c a h):il C Q b c a h:=by
 rintro ρ rfl rfl rfl;exact WA.of (by kernel_rfl) H
def yP(C:fk)(Q:fo)(a0:V)(h:Hp):Prop:=hH (mn 45 a0) h λb c=>oP (fF 0 b) λq=>oP (ez q c) λa=>oP (en .eql 3 a (V.I 3)) λm=>bP m (gg C Q b a m c) (oP (en .eql 3 a (V.I 4)) λn=>bP n (gg C Q b a n c) (oP (en .eql 3 a (V.I 5)) λo=>bP o (gg C Q b a o c) (oP (en .eql 3 a (V.I 6)) λp=>bP p (gg C Q b a p c) (oP (en .eql 3 a (V.I 7)) λd=>bP d (gg C Q b a d c) (oP (en .eql 3 a (V.I 10)) λe=>bP e (gg C Q b a e c) (oP (en .eql 3 a (V.I 11)) λf=>bP f (gg C Q b a f c) (oP (en .eql 3 a (V.I 12)) λg=>bP g (gg C Q b a g c) (oP (en .eql 3 a (V.I 13)) λi=>bP i (gg C Q b a i c) (oP (en .eql 3 a (V.I 14)) λj=>bP j (gg C Q b a j c) (oP (en .eql 3 a (V.I 18)) λk=>bP k (gg C Q b a k c) (oP (en .eql 3 a (V.I 19)) λl=>gg C Q b a l c)))))))))))
theorem Gi{C}(s:C.start=fG){a0 h Q}(k:C.K j7 [a0] h=none)(H:yP C Q a0 h):cP C j7 [a0] h Q:=cP.vd t35 s (by unfold P0;exact Tryz.func35) k H
def t58:List (Nat×List Nat):=[(87,[0,1,12,13])]
def si(C:fk)(Q:fo)(c d a b:V)(h:Hp):Prop:=∀ρ:gL,ρ 0=c->ρ 1=d->ρ 12=a->ρ 13=b->WA C Tryz.f58 t58 43 [] Q ρ h
def tA(C:fk)(Q:fo)(fN:ML)(f g b a:V)(h:Hp):Prop:=bO .lss 3 a b (dX 1 f a h λc=>dX 1 g a h λd=>bO .neq 3 c d (Q bF h) (oP (en .add 3 a nO) λe=>fN f g b e h)) (Q bT h)
theorem BU{C Q}(I)(s:P4 I (tA C Q)){k c d a b h}(i:I k c d a b h):si C Q c d a b h:=WA.l4 I _ s i
def yg(C:fk)(Q:fo)(a0 a1:V)(h:Hp):Prop:=oP (fD a0) λb=>oP (fD a1) λc=>bO .neq 3 b c (Q bF h) (oP (fD a0) λa=>si C Q a0 a1 a nZ h)
theorem FE{C}(s:C.start=fG){a0 a1 h Q}(k:C.K gX [a0,a1] h=none)(H:yg C Q a0 a1 h):cP C gX [a0,a1] h Q:=cP.vd t58 s (by unfold P0;exact Tryz.func58) k H
def t77:List (Nat×List Nat):=[]
def mI(C:fk)(Q:fo)(a0 a1:V)(h:Hp):Prop:=cP C ku [a0,a1] h λa b=>oP (en .geq 3 a nZ) λc=>Q c b
theorem rT{C}(s:C.start=fG){a0 a1 h Q}(k:C.K hX [a0,a1] h=none)(H:mI C Q a0 a1 h):cP C hX [a0,a1] h Q:=cP.vd t77 s (by unfold P0;exact Tryz.func77) k H
def t97:List (Nat×List Nat):=[(43,[0,1,7,8])]
def my(C:fk)(Q:fo)(a b c d:V)(h:Hp):Prop:=∀ρ:gL,ρ 0=a->ρ 1=b->ρ 7=c->ρ 8=d->WA C Tryz.f97 t97 21 [] Q ρ h
def mC(C:fk)(Q:fo)(fN:ML)(f g i a:V)(h:Hp):Prop:=bO .lss 3 a i (oP (gG 6 f a) λb=>oP (fX 6 b h) λc=>hV C (gi g [c]) h λd j=>bP d (Q a j) (oP (en .add 3 a nO) λe=>fN f g i e j)) (Q (V.I (-1)) h)
theorem rQ{C Q}(I)(s:P4 I (mC C Q)){k a b c d h}(i:I k a b c d h):my C Q a b c d h:=WA.l4 I _ s i
def nN(C:fk)(Q:fo)(a0 a1:V)(h:Hp):Prop:=oP (fD a0) λa=>my C Q a0 a1 a nZ h
theorem vy{C}(s:C.start=fG){a0 a1 h Q}(k:C.K ku [a0,a1] h=none)(H:nN C Q a0 a1 h):cP C ku [a0,a1] h Q:=cP.vd t97 s (by unfold P0;exact Tryz.func97) k H
def t78:List (Nat×List Nat):=[]
def zX(C:fk)(Q:fo)(a0 a1:V)(h:Hp):Prop:=hH (mn 45 a0) h λe a=>dF 0 e a λf=>oP (en .eql 3 f nO) λg=>oP (jX g (oB (fF 3 e) λi=>oB (ez i a) λj=>oB (fF 3 a1) λb=>oB (ez b a) λc=>en .eql 2 j c)) λd=>Q d a
theorem IG{C}(s:C.start=fG){a0 a1 h Q}(k:C.K jY [a0,a1] h=none)(H:zX C Q a0 a1 h):cP C jY [a0,a1] h Q:=cP.vd t78 s (by unfold P0;exact Tryz.func78) k H
def t98:List (Nat×List Nat):=[(11,[0,2,3])]
def qB(C:fk)(Q:fo)(a b c:V)(h:Hp):Prop:=∀ρ:gL,ρ 0=a->ρ 2=b->ρ 3=c->WA C Tryz.f98 t98 5 [] Q ρ h
def qJ(C:fk)(Q:fo)(fN:SJ)(a b c:V)(h:Hp):Prop:=bO .lss 3 b c (dX 1 a c h λd=>dX 1 a b h λe=>oP (gG 1 a b) λf=>fg (gJ 1 f d h) λn g=>(h.next<=g.next/\oP (gG 1 a c) λi=>fg (gJ 1 i e g) λl m=>(g.next<=m.next/\oP (en .add 3 b nO) λj=>oP (en .sub 3 c nO) λk=>fN a j k m))) (Q (V.tuple []) h)
theorem Ax{C Q}(I)(s:P3 I (qJ C Q)){k a b c h}(i:I k a b c h):qB C Q a b c h:=WA.l3 I _ s i
def uN(C:fk)(Q:fo)(a0:V)(h:Hp):Prop:=oP (fD a0) λa=>oP (en .sub 3 a nO) λb=>qB C Q a0 nZ b h
theorem CV{C}(s:C.start=fG){a0 h Q}(k:C.K mc [a0] h=none)(H:uN C Q a0 h):cP C mc [a0] h Q:=cP.vd t98 s (by unfold P0;exact Tryz.func98) k H
end
