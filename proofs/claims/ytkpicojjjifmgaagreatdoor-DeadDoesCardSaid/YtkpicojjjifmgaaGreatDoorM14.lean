/- Parts. -/
import Derived.Test.YtkpicojjjifmgaaGreatDoorM10
namespace Go.Proofs.YtkpicojjjifmgaaGreatDoor.Hx
abbrev nH:Nat:=3
abbrev oi:Nat:=4
abbrev ye:Nat:=5
abbrev BD:Nat:=6
abbrev pC:Nat:=7
abbrev DN:Nat:=8
abbrev mR:Nat:=9
abbrev km:Nat:=10
abbrev mq:Nat:=11
abbrev mL:Nat:=12
abbrev iM:Nat:=13
abbrev fF:Nat:=14
abbrev fq:Nat:=15
abbrev fW:Nat:=16
abbrev jJ:Nat:=17
abbrev kH:Nat:=18
abbrev BB:Nat:=19
abbrev mJ:Nat:=20
abbrev je:Nat:=21
abbrev pA:Nat:=22
abbrev DE:Nat:=23
abbrev Ap:Nat:=24
abbrev gR:Nat:=25
abbrev pU:Nat:=26
abbrev gy:Nat:=27
abbrev nK:Nat:=28
abbrev gw:Nat:=29
abbrev pG:Nat:=30
abbrev mP:Nat:=31
abbrev mO:Nat:=32
abbrev nr:Nat:=33
abbrev j4:Nat:=34
abbrev nq:Nat:=35
abbrev jX:Nat:=36
abbrev ig:Nat:=37
abbrev jj:Nat:=38
abbrev iI:Nat:=39
abbrev jF:Nat:=40
abbrev jw:Nat:=41
abbrev jQ:Nat:=42
abbrev mn:Nat:=43
abbrev kL:Nat:=44
abbrev lL:Nat:=45
abbrev jW:Nat:=46
abbrev mF:Nat:=47
abbrev oU:Nat:=48
abbrev kM:Nat:=49
abbrev mV:Nat:=50
abbrev nN:Nat:=51
abbrev tq:Nat:=52
abbrev rl:Nat:=53
abbrev mE:Nat:=54
abbrev uV:Nat:=55
abbrev og:Nat:=56
abbrev lD:Nat:=57
abbrev g0:Nat:=58
abbrev wT:Nat:=59
abbrev nT:Nat:=60
abbrev gz:Nat:=61
abbrev mr:Nat:=62
abbrev ki:Nat:=63
abbrev gO:Nat:=64
abbrev jM:Nat:=65
abbrev lg:Nat:=66
abbrev jZ:Nat:=67
abbrev iH:Nat:=68
abbrev jl:Nat:=69
abbrev jh:Nat:=70
abbrev kK:Nat:=71
abbrev jf:Nat:=72
abbrev jq:Nat:=73
abbrev kR:Nat:=74
abbrev Ea:Nat:=75
abbrev ie:Nat:=76
abbrev jT:Nat:=77
abbrev yG:Nat:=78
abbrev qU:Nat:=79
abbrev jC:Nat:=80
abbrev jI:Nat:=81
abbrev jB:Nat:=82
abbrev kX:Nat:=83
abbrev iE:Nat:=84
abbrev jE:Nat:=85
abbrev fQ:Nat:=86
abbrev iD:Nat:=87
abbrev j9:Nat:=89
abbrev lK:Nat:=90
abbrev mh:Nat:=91
abbrev px:Nat:=92
set_option maxRecDepth 100000
noncomputable section
def t13:List (Nat×List Nat):=[(30,[0])]
def pe(C:ft)(Q:fy)(a:V)(h:Hp):Prop:=∀ρ:gK,ρ 0=a->WA C Tryz.f13 t13 15 [] Q ρ h
def oX(C:ft)(Q:fy)(a:V)(h:Hp):Prop:=Q a h
theorem vJ{C:ft}{Q:fy}{a:V}{h:Hp}(H:oX C Q a h):pe C Q a h:=by
 rintro ρ rfl;exact WA.of (by kernel_rfl) H
def yo(C:ft)(Q:fy)(a0 a1:V)(h:Hp):Prop:=oP (ev .rem 3 a0 a1) λa=>oP (ev .lss 3 a nZ) λc=>bP c (oP (ev .add 3 a a1) λb=>pe C Q b h) (pe C Q a h)
theorem Fk{C}(s:C.start=fO){a0 a1 h Q}(k:C.K iM [a0,a1] h=none)(H:yo C Q a0 a1 h):cP C iM [a0,a1] h Q:=cP.vd t13 s (by unfold P0;exact Tryz.func13) k H
def t55:List (Nat×List Nat):=[(106,[3,4]),(490,[18])]
def iz(C:ft)(Q:fy)(a b:V)(h:Hp):Prop:=∀ρ:gK,ρ 3=a->ρ 4=b->WA C Tryz.f55 t55 53 [] Q ρ h
def lT(C:ft)(Q:fy)(a:V)(h:Hp):Prop:=∀ρ:gK,ρ 18=a->WA C Tryz.f55 t55 245 [] Q ρ h
def Fy(C:ft)(Q:fy)(a i:V)(h:Hp):Prop:=bP i (Q (V.I 2) h) (oP (ev .eql 3 a (V.I 8)) λb=>bP b (lT C Q b h) (oP (ev .eql 3 a (V.I 9)) λc=>bP c (lT C Q c h) (oP (ev .eql 3 a (V.I 15)) λd=>bP d (lT C Q d h) (oP (ev .eql 3 a (V.I 16)) λe=>bP e (lT C Q e h) (oP (ev .eql 3 a (V.I 17)) λf=>bP f (lT C Q f h) (oP (ev .eql 3 a (V.I 22)) λg=>lT C Q g h))))))
theorem LH{C:ft}{Q:fy}{a b:V}{h:Hp}(H:Fy C Q a b h):iz C Q a b h:=by
 rintro ρ rfl rfl;exact WA.of (by kernel_rfl) H
def E9(C:ft)(Q:fy)(a:V)(h:Hp):Prop:=bP a (Q nO h) (Q nZ h)
theorem LV{C:ft}{Q:fy}{a:V}{h:Hp}(H:E9 C Q a h):lT C Q a h:=by
 rintro ρ rfl;exact WA.of (by kernel_rfl) H
def KM(C:ft)(Q:fy)(a0:V)(h:Hp):Prop:=oP (ev .eql 3 a0 (V.I 3)) λj=>bP j (iz C Q a0 j h) (oP (ev .eql 3 a0 (V.I 4)) λk=>bP k (iz C Q a0 k h) (oP (ev .eql 3 a0 (V.I 5)) λl=>bP l (iz C Q a0 l h) (oP (ev .eql 3 a0 (V.I 6)) λm=>bP m (iz C Q a0 m h) (oP (ev .eql 3 a0 (V.I 7)) λn=>bP n (iz C Q a0 n h) (oP (ev .eql 3 a0 (V.I 10)) λa=>bP a (iz C Q a0 a h) (oP (ev .eql 3 a0 (V.I 11)) λb=>bP b (iz C Q a0 b h) (oP (ev .eql 3 a0 (V.I 12)) λc=>bP c (iz C Q a0 c h) (oP (ev .eql 3 a0 (V.I 13)) λd=>bP d (iz C Q a0 d h) (oP (ev .eql 3 a0 (V.I 14)) λe=>bP e (iz C Q a0 e h) (oP (ev .eql 3 a0 (V.I 18)) λf=>bP f (iz C Q a0 f h) (oP (ev .eql 3 a0 (V.I 19)) λg=>bP g (iz C Q a0 g h) (oP (ev .eql 3 a0 (V.I 20)) λi=>iz C Q a0 i h))))))))))))
theorem Qj{C}(s:C.start=fO){a0 h Q}(k:C.K uV [a0] h=none)(H:KM C Q a0 h):cP C uV [a0] h Q:=cP.vd t55 s (by unfold P0;exact Tryz.func55) k H
def t60:List (Nat×List Nat):=[]
def IV(C:ft)(Q:fy)(a0:V)(h:Hp):Prop:=oP (ev .eql 3 a0 (V.I 22)) λa=>oP (nt a (oB (some a0) λb=>ev .eql 3 b (V.I 23))) λc=>Q c h
theorem Pg{C}(s:C.start=fO){a0 h Q}(k:C.K nT [a0] h=none)(H:IV C Q a0 h):cP C nT [a0] h Q:=cP.vd t60 s (by unfold P0;exact Tryz.func60) k H
def t74:List (Nat×List Nat):=[]
def KP(C:ft)(Q:fy)(a0 a1:V)(h:Hp):Prop:=oP (ev .geq 3 a0 nZ) λb=>oP (kv b (oB (some a0) λc=>oB (some a1) λd=>ev .lss 3 c d)) λa=>Q a h
theorem QD{C}(s:C.start=fO){a0 a1 h Q}(k:C.K kR [a0,a1] h=none)(H:KP C Q a0 a1 h):cP C kR [a0,a1] h Q:=cP.vd t74 s (by unfold P0;exact Tryz.func74) k H
def t22:List (Nat×List Nat):=[(30,[3])]
def uc(C:ft)(Q:fy)(a:V)(h:Hp):Prop:=∀ρ:gK,ρ 3=a->WA C Tryz.f22 t22 15 [] Q ρ h
def Hh(C:ft)(Q:fy)(a:V)(h:Hp):Prop:=Q a h
theorem NA{C:ft}{Q:fy}{a:V}{h:Hp}(H:Hh C Q a h):uc C Q a h:=by
 rintro ρ rfl;exact WA.of (by kernel_rfl) H
def MJ(C:ft)(Q:fy)(a0:V)(h:Hp):Prop:=hX (lX 45 a0) h λc k=>xE (jG 3 1 0 nZ []) k λf I i=>oP (fI 1 c) λl=>oP (eQ l i) λm=>oP (fI 2 c) λn=>oP (eQ n i) λo=>xE (jG 3 1 2 nZ [(0,m),(1,o)]) i λg J d=>oP (fI 0 c) λp=>oP (eQ p d) λq=>((d.get (i.next)=some g/\O.beq g g=true)/\((eQ n d=some o)/\((eQ l d=some m)/\((d.get (k.next)=some f/\O.beq f f=true)/\cP C uV [q] d λr b=>(d.next<=b.next/\oP (jy 1 J none (some r) b) λs=>((b.get (i.next)=some g/\O.beq g g=true)/\((eQ n b=some o)/\((eQ l b=some m)/\((b.get (k.next)=some f/\O.beq f f=true)/\fk (fg 3 1 8 I s b) λe a=>(b.next<=a.next/\oP (fI 0 c) λt=>oP (eQ t a) λj=>oP (ev .eql 3 j (V.I 20)) λu=>bP u (oP (fI 4 c) λv=>oP (eQ v a) λw=>oP (fI 4 c) λx=>oP (eQ x a) λy=>oP (fH y) λz=>oP (Qt false nO [z]) λA=>oP (jy 1 w none (some A) a) λB=>fk (fg 3 1 8 e B a) λD K=>uc C Q D K) (oP (ev .eql 3 j (V.I 21)) λE=>bP E (oP (fI 4 c) λF=>oP (eQ F a) λG=>fk (fg 3 1 8 e G a) λH L=>uc C Q H L) (uc C Q e a))))))))))))
theorem Ty{C}(s:C.start=fO){a0 h Q}(k:C.K pA [a0] h=none)(H:MJ C Q a0 h):cP C pA [a0] h Q:=cP.vd t22 s (by unfold P0;exact Tryz.func22) k H
def t36:List (Nat×List Nat):=[(106,[1,4,5]),(490,[1,4,23])]
def gf(C:ft)(Q:fy)(a b c:V)(h:Hp):Prop:=∀ρ:gK,ρ 1=a->ρ 4=b->ρ 5=c->WA C Tryz.f36 t36 53 [] Q ρ h
def iy(C:ft)(Q:fy)(b c a:V)(h:Hp):Prop:=∀ρ:gK,ρ 1=b->ρ 4=c->ρ 23=a->WA C Tryz.f36 t36 245 [] Q ρ h
def ua(C:ft)(Q:fy)(b a o:V)(h:Hp):Prop:=bP o (oP (fI 1 b) λi=>oP (eQ i h) λj=>oP (fI 2 b) λk=>oP (eQ k h) λl=>hX (jG 3 1 2 nZ [(0,j),(1,l)]) h λm p=>Q m p) (oP (ev .eql 3 a (V.I 8)) λc=>bP c (iy C Q b a c h) (oP (ev .eql 3 a (V.I 9)) λd=>bP d (iy C Q b a d h) (oP (ev .eql 3 a (V.I 15)) λe=>bP e (iy C Q b a e h) (oP (ev .eql 3 a (V.I 16)) λf=>bP f (iy C Q b a f h) (oP (ev .eql 3 a (V.I 17)) λg=>bP g (iy C Q b a g h) (oP (ev .eql 3 a (V.I 22)) λn=>iy C Q b a n h))))))
theorem BZ{C:ft}{Q:fy}{a b c:V}{h:Hp}(H:ua C Q a b c h):gf C Q a b c h:=by
 rintro ρ rfl rfl rfl;exact WA.of (by kernel_rfl) H
def tC(C:ft)(Q:fy)(a F l:V)(h:Hp):Prop:=bP l (oP (fI 1 a) λm=>oP (eQ m h) λn=>hX (jG 3 1 1 nZ [(0,n)]) h λo G=>Q o G) (oP (ev .eql 3 F (V.I 20)) λp=>bP p (oP (fI 4 a) λq=>oP (eQ q h) λr=>oP (fH r) λs=>oP (ev .eql 3 s nZ) λt=>bP t (oP (fI 1 a) λu=>oP (eQ u h) λv=>oP (fI 2 a) λw=>oP (eQ w h) λx=>hX (jG 3 1 2 nZ [(0,v),(1,x)]) h λy H=>Q y H) (oP (fI 1 a) λc=>oP (eQ c h) λd=>oP (fI 2 a) λe=>oP (eQ e h) λf=>oP (fI 4 a) λg=>oP (eQ g h) λi=>oP (gJ 1 i nZ) λj=>oP (eQ j h) λk=>xE (jG 3 1 3 nZ [(0,d),(1,f),(2,k)]) h λz A b=>((b.get (h.next)=some z/\O.beq z z=true)/\((eQ j b=some k)/\((eQ g b=some i)/\((eQ e b=some f)/\((eQ c b=some d)/\Q A b))))))) (oP (ev .eql 3 F (V.I 21)) λB=>bP B (oP (fI 4 a) λD=>oP (eQ D h) λE=>Q E h) (Q nS h)))
theorem BU{C:ft}{Q:fy}{b c a:V}{h:Hp}(H:tC C Q b c a h):iy C Q b c a h:=by
 rintro ρ rfl rfl rfl;exact WA.of (by kernel_rfl) H
def xu(C:ft)(Q:fy)(a0:V)(h:Hp):Prop:=hX (lX 45 a0) h λb c=>oP (fI 0 b) λq=>oP (eQ q c) λa=>oP (ev .eql 3 a (V.I 3)) λm=>bP m (gf C Q b a m c) (oP (ev .eql 3 a (V.I 4)) λn=>bP n (gf C Q b a n c) (oP (ev .eql 3 a (V.I 5)) λo=>bP o (gf C Q b a o c) (oP (ev .eql 3 a (V.I 6)) λp=>bP p (gf C Q b a p c) (oP (ev .eql 3 a (V.I 7)) λd=>bP d (gf C Q b a d c) (oP (ev .eql 3 a (V.I 10)) λe=>bP e (gf C Q b a e c) (oP (ev .eql 3 a (V.I 11)) λf=>bP f (gf C Q b a f c) (oP (ev .eql 3 a (V.I 12)) λg=>bP g (gf C Q b a g c) (oP (ev .eql 3 a (V.I 13)) λi=>bP i (gf C Q b a i c) (oP (ev .eql 3 a (V.I 14)) λj=>bP j (gf C Q b a j c) (oP (ev .eql 3 a (V.I 18)) λk=>bP k (gf C Q b a k c) (oP (ev .eql 3 a (V.I 19)) λl=>gf C Q b a l c)))))))))))
theorem EC{C}(s:C.start=fO){a0 h Q}(k:C.K jX [a0] h=none)(H:xu C Q a0 h):cP C jX [a0] h Q:=cP.vd t36 s (by unfold P0;exact Tryz.func36) k H
def t58:List (Nat×List Nat):=[(87,[0,1,12,13])]
def sZ(C:ft)(Q:fy)(c d a b:V)(h:Hp):Prop:=∀ρ:gK,ρ 0=c->ρ 1=d->ρ 12=a->ρ 13=b->WA C Tryz.f58 t58 43 [] Q ρ h
def rY(C:ft)(Q:fy)(fT:KS)(f g b a:V)(h:Hp):Prop:=bO .lss 3 a b (dX 1 f a h λc=>dX 1 g a h λd=>bO .neq 3 c d (Q bF h) (oP (ev .add 3 a nO) λe=>fT f g b e h)) (Q bT h)
theorem A7{C Q}(I)(s:P4 I (rY C Q)){k c d a b h}(i:I k c d a b h):sZ C Q c d a b h:=WA.l4 I _ s i
def w4(C:ft)(Q:fy)(a0 a1:V)(h:Hp):Prop:=oP (fH a0) λb=>oP (fH a1) λc=>bO .neq 3 b c (Q bF h) (oP (fH a0) λa=>sZ C Q a0 a1 a nZ h)
theorem DT{C}(s:C.start=fO){a0 a1 h Q}(k:C.K g0 [a0,a1] h=none)(H:w4 C Q a0 a1 h):cP C g0 [a0,a1] h Q:=cP.vd t58 s (by unfold P0;exact Tryz.func58) k H
def t76:List (Nat×List Nat):=[]
def mg(C:ft)(Q:fy)(a0 a1:V)(h:Hp):Prop:=cP C j9 [a0,a1] h λa b=>oP (ev .geq 3 a nZ) λc=>Q c b
theorem rj{C}(s:C.start=fO){a0 a1 h Q}(k:C.K ie [a0,a1] h=none)(H:mg C Q a0 a1 h):cP C ie [a0,a1] h Q:=cP.vd t76 s (by unfold P0;exact Tryz.func76) k H
def t89:List (Nat×List Nat):=[(43,[0,1,7,8])]
def mc(C:ft)(Q:fy)(a b c d:V)(h:Hp):Prop:=∀ρ:gK,ρ 0=a->ρ 1=b->ρ 7=c->ρ 8=d->WA C Tryz.f89 t89 21 [] Q ρ h
def mj(C:ft)(Q:fy)(fT:KS)(f g i a:V)(h:Hp):Prop:=bO .lss 3 a i (oP (gJ 6 f a) λb=>oP (fY 6 b h) λc=>ic C (gh g [c]) h λd j=>bP d (Q a j) (oP (ev .add 3 a nO) λe=>fT f g i e j)) (Q (V.I (-1)) h)
theorem rk{C Q}(I)(s:P4 I (mj C Q)){k a b c d h}(i:I k a b c d h):mc C Q a b c d h:=WA.l4 I _ s i
def ng(C:ft)(Q:fy)(a0 a1:V)(h:Hp):Prop:=oP (fH a0) λa=>mc C Q a0 a1 a nZ h
theorem uB{C}(s:C.start=fO){a0 a1 h Q}(k:C.K j9 [a0,a1] h=none)(H:ng C Q a0 a1 h):cP C j9 [a0,a1] h Q:=cP.vd t89 s (by unfold P0;exact Tryz.func89) k H
def t77:List (Nat×List Nat):=[]
def zp(C:ft)(Q:fy)(a0 a1:V)(h:Hp):Prop:=hX (lX 45 a0) h λe a=>dF 0 e a λf=>oP (ev .eql 3 f nO) λg=>oP (kv g (oB (fI 3 e) λi=>oB (eQ i a) λj=>oB (fI 3 a1) λb=>oB (eQ b a) λc=>ev .eql 2 j c)) λd=>Q d a
theorem GO{C}(s:C.start=fO){a0 a1 h Q}(k:C.K jT [a0,a1] h=none)(H:zp C Q a0 a1 h):cP C jT [a0,a1] h Q:=cP.vd t77 s (by unfold P0;exact Tryz.func77) k H
def t90:List (Nat×List Nat):=[(11,[0,2,3])]
def qb(C:ft)(Q:fy)(a b c:V)(h:Hp):Prop:=∀ρ:gK,ρ 0=a->ρ 2=b->ρ 3=c->WA C Tryz.f90 t90 5 [] Q ρ h
def qj(C:ft)(Q:fy)(fT:RU)(a b c:V)(h:Hp):Prop:=bO .lss 3 b c (dX 1 a c h λd=>dX 1 a b h λe=>oP (gJ 1 a b) λf=>fk (gM 1 f d h) λn g=>(h.next<=g.next/\oP (gJ 1 a c) λi=>fk (gM 1 i e g) λl m=>(g.next<=m.next/\oP (ev .add 3 b nO) λj=>oP (ev .sub 3 c nO) λk=>fT a j k m))) (Q (V.tuple []) h)
theorem zD{C Q}(I)(s:P3 I (qj C Q)){k a b c h}(i:I k a b c h):qb C Q a b c h:=WA.l3 I _ s i
def tX(C:ft)(Q:fy)(a0:V)(h:Hp):Prop:=oP (fH a0) λa=>oP (ev .sub 3 a nO) λb=>qb C Q a0 nZ b h
theorem BY{C}(s:C.start=fO){a0 h Q}(k:C.K lK [a0] h=none)(H:tX C Q a0 h):cP C lK [a0] h Q:=cP.vd t90 s (by unfold P0;exact Tryz.func90) k H
end
