/- Parts. -/
import Derived.Test.YtpfjdlicdljhaaaDoorM10
set_option maxHeartbeats 4000000
namespace Go.Proofs.YtpfjdlicdljhaaaDoor.Hx
abbrev lF:Nat:=3
abbrev Aa:Nat:=5
abbrev mw:Nat:=6
abbrev nH:Nat:=7
abbrev lC:Nat:=8
abbrev jF:Nat:=9
abbrev iG:Nat:=10
abbrev iB:Nat:=11
abbrev zM:Nat:=12
abbrev vV:Nat:=13
abbrev mR:Nat:=14
abbrev wh:Nat:=15
abbrev yv:Nat:=16
abbrev fj:Nat:=17
abbrev fc:Nat:=18
abbrev fL:Nat:=19
abbrev iW:Nat:=20
abbrev jJ:Nat:=21
abbrev xU:Nat:=22
abbrev lG:Nat:=23
abbrev lI:Nat:=24
abbrev lX:Nat:=25
abbrev jh:Nat:=26
abbrev lZ:Nat:=27
abbrev gN:Nat:=28
abbrev iE:Nat:=29
abbrev hJ:Nat:=30
abbrev je:Nat:=31
abbrev lh:Nat:=32
abbrev mV:Nat:=33
abbrev jH:Nat:=34
abbrev lR:Nat:=35
abbrev my:Nat:=36
abbrev rq:Nat:=37
abbrev p9:Nat:=38
abbrev lg:Nat:=39
abbrev xN:Nat:=40
abbrev mn:Nat:=41
abbrev j7:Nat:=42
abbrev B9:Nat:=43
abbrev js:Nat:=44
abbrev gg:Nat:=45
abbrev iV:Nat:=46
abbrev iF:Nat:=47
abbrev jN:Nat:=48
abbrev B2:Nat:=49
abbrev sH:Nat:=50
abbrev nU:Nat:=51
abbrev gM:Nat:=52
abbrev jc:Nat:=53
abbrev wE:Nat:=54
abbrev lJ:Nat:=55
abbrev nz:Nat:=56
abbrev iS:Nat:=57
abbrev iQ:Nat:=58
abbrev iJ:Nat:=59
abbrev iR:Nat:=60
abbrev jn:Nat:=61
abbrev iP:Nat:=62
abbrev jm:Nat:=63
abbrev jO:Nat:=64
abbrev hX:Nat:=65
abbrev iM:Nat:=66
abbrev fE:Nat:=67
abbrev te:Nat:=68
abbrev wj:Nat:=69
abbrev nM:Nat:=70
abbrev jo:Nat:=72
abbrev kj:Nat:=73
abbrev kP:Nat:=74
abbrev jd:Nat:=75
abbrev nT:Nat:=76
set_option maxRecDepth 100000
noncomputable section
def t11:List (Nat×List Nat):=[(30,[0])]
def nr(C:fk)(Q:fo)(a:V)(h:Hp):Prop:=∀ρ:gf,ρ 0=a->WA C Tryd.f11 t11 15 [] Q ρ h
def nj(C:fk)(Q:fo)(a:V)(h:Hp):Prop:=Q a h
theorem tg{C:fk}{Q:fo}{a:V}{h:Hp}(H:nj C Q a h):nr C Q a h:=by
 rintro ρ rfl;exact WA.of (by kernel_rfl) H
def wA(C:fk)(Q:fo)(a0 a1:V)(h:Hp):Prop:=oP (eo .rem 3 a0 a1) λa=>oP (eo .lss 3 a nZ) λc=>bP c (oP (eo .add 3 a a1) λb=>nr C Q b h) (nr C Q a h)
theorem DM{C}(s:C.start=fV){a0 a1 h Q}(k:C.K iB [a0,a1] h=none)(H:wA C Q a0 a1 h):cP C iB [a0,a1] h Q:=cP.vd t11 s (by unfold P0;exact Tryd.func11) k H
def t68:List (Nat×List Nat):=[(106,[3,4]),(490,[18])]
def hH(C:fk)(Q:fo)(a b:V)(h:Hp):Prop:=∀ρ:gf,ρ 3=a->ρ 4=b->WA C Tryd.f68 t68 53 [] Q ρ h
def gB(C:fk)(Q:fo)(a:V)(h:Hp):Prop:=∀ρ:gf,ρ 18=a->WA C Tryd.f68 t68 245 [] Q ρ h
def DE(C:fk)(Q:fo)(a i:V)(h:Hp):Prop:=bP i (Q (V.I 2) h) (oP (eo .eql 3 a (V.I 8)) λb=>bP b (gB C Q b h) (oP (eo .eql 3 a (V.I 9)) λc=>bP c (gB C Q c h) (oP (eo .eql 3 a (V.I 15)) λd=>bP d (gB C Q d h) (oP (eo .eql 3 a (V.I 16)) λe=>bP e (gB C Q e h) (oP (eo .eql 3 a (V.I 17)) λf=>bP f (gB C Q f h) (oP (eo .eql 3 a (V.I 22)) λg=>gB C Q g h))))))
theorem KU{C:fk}{Q:fo}{a b:V}{h:Hp}(H:DE C Q a b h):hH C Q a b h:=by
 rintro ρ rfl rfl;exact WA.of (by kernel_rfl) H
def DJ(C:fk)(Q:fo)(a:V)(h:Hp):Prop:=bP a (Q nO h) (Q nZ h)
theorem KP{C:fk}{Q:fo}{a:V}{h:Hp}(H:DJ C Q a h):gB C Q a h:=by
 rintro ρ rfl;exact WA.of (by kernel_rfl) H
def IZ(C:fk)(Q:fo)(a0:V)(h:Hp):Prop:=oP (eo .eql 3 a0 (V.I 3)) λj=>bP j (hH C Q a0 j h) (oP (eo .eql 3 a0 (V.I 4)) λk=>bP k (hH C Q a0 k h) (oP (eo .eql 3 a0 (V.I 5)) λl=>bP l (hH C Q a0 l h) (oP (eo .eql 3 a0 (V.I 6)) λm=>bP m (hH C Q a0 m h) (oP (eo .eql 3 a0 (V.I 7)) λn=>bP n (hH C Q a0 n h) (oP (eo .eql 3 a0 (V.I 10)) λa=>bP a (hH C Q a0 a h) (oP (eo .eql 3 a0 (V.I 11)) λb=>bP b (hH C Q a0 b h) (oP (eo .eql 3 a0 (V.I 12)) λc=>bP c (hH C Q a0 c h) (oP (eo .eql 3 a0 (V.I 13)) λd=>bP d (hH C Q a0 d h) (oP (eo .eql 3 a0 (V.I 14)) λe=>bP e (hH C Q a0 e h) (oP (eo .eql 3 a0 (V.I 18)) λf=>bP f (hH C Q a0 f h) (oP (eo .eql 3 a0 (V.I 19)) λg=>bP g (hH C Q a0 g h) (oP (eo .eql 3 a0 (V.I 20)) λi=>hH C Q a0 i h))))))))))))
theorem Pz{C}(s:C.start=fV){a0 h Q}(k:C.K te [a0] h=none)(H:IZ C Q a0 h):cP C te [a0] h Q:=cP.vd t68 s (by unfold P0;exact Tryd.func68) k H
def t51:List (Nat×List Nat):=[]
def G4(C:fk)(Q:fo)(a0:V)(h:Hp):Prop:=oP (eo .eql 3 a0 (V.I 22)) λa=>oP (om a (oB (some a0) λb=>eo .eql 3 b (V.I 23))) λc=>Q c h
theorem M1{C}(s:C.start=fV){a0 h Q}(k:C.K nU [a0] h=none)(H:G4 C Q a0 h):cP C nU [a0] h Q:=cP.vd t51 s (by unfold P0;exact Tryd.func51) k H
def t48:List (Nat×List Nat):=[]
def Ja(C:fk)(Q:fo)(a0 a1:V)(h:Hp):Prop:=oP (eo .geq 3 a0 nZ) λb=>oP (jz b (oB (some a0) λc=>oB (some a1) λd=>eo .lss 3 c d)) λa=>Q a h
theorem Qb{C}(s:C.start=fV){a0 a1 h Q}(k:C.K jN [a0,a1] h=none)(H:Ja C Q a0 a1 h):cP C jN [a0,a1] h Q:=cP.vd t48 s (by unfold P0;exact Tryd.func48) k H
def t50:List (Nat×List Nat):=[(30,[3])]
def rI(C:fk)(Q:fo)(a:V)(h:Hp):Prop:=∀ρ:gf,ρ 3=a->WA C Tryd.f50 t50 15 [] Q ρ h
def Fc(C:fk)(Q:fo)(a:V)(h:Hp):Prop:=Q a h
theorem LM{C:fk}{Q:fo}{a:V}{h:Hp}(H:Fc C Q a h):rI C Q a h:=by
 rintro ρ rfl;exact WA.of (by kernel_rfl) H
def La(C:fk)(Q:fo)(a0:V)(h:Hp):Prop:=im (pU 38 a0) h λc k=>xR (ji 3 1 0 nZ []) k λf I i=>oP (fH 1 c) λl=>oP (ey l i) λm=>oP (fH 2 c) λn=>oP (ey n i) λo=>xR (ji 3 1 2 nZ [(0,m),(1,o)]) i λg J d=>oP (fH 0 c) λp=>oP (ey p d) λq=>((d.get (i.next)=some g/\O.beq g g=true)/\((ey n d=some o)/\((ey l d=some m)/\((d.get (k.next)=some f/\O.beq f f=true)/\cP C te [q] d λr b=>(d.next<=b.next/\oP (iK 1 J none (some r) b) λs=>((b.get (i.next)=some g/\O.beq g g=true)/\((ey n b=some o)/\((ey l b=some m)/\((b.get (k.next)=some f/\O.beq f f=true)/\fi (eQ 3 1 8 I s b) λe a=>(b.next<=a.next/\oP (fH 0 c) λt=>oP (ey t a) λj=>oP (eo .eql 3 j (V.I 20)) λu=>bP u (oP (fH 4 c) λv=>oP (ey v a) λw=>oP (fH 4 c) λx=>oP (ey x a) λy=>oP (fy y) λz=>oP (PD false nO [z]) λA=>oP (iK 1 w none (some A) a) λB=>fi (eQ 3 1 8 e B a) λD K=>rI C Q D K) (oP (eo .eql 3 j (V.I 21)) λE=>bP E (oP (fH 4 c) λF=>oP (ey F a) λG=>fi (eQ 3 1 8 e G a) λH L=>rI C Q H L) (rI C Q e a))))))))))))
theorem QJ{C}(s:C.start=fV){a0 h Q}(k:C.K sH [a0] h=none)(H:La C Q a0 h):cP C sH [a0] h Q:=cP.vd t50 s (by unfold P0;exact Tryd.func50) k H
def t10:List (Nat×List Nat):=[(106,[1,4,5]),(490,[1,4,23])]
def fO(C:fk)(Q:fo)(a b c:V)(h:Hp):Prop:=∀ρ:gf,ρ 1=a->ρ 4=b->ρ 5=c->WA C Tryd.f10 t10 53 [] Q ρ h
def gU(C:fk)(Q:fo)(b c a:V)(h:Hp):Prop:=∀ρ:gf,ρ 1=b->ρ 4=c->ρ 23=a->WA C Tryd.f10 t10 245 [] Q ρ h
def rG(C:fk)(Q:fo)(b a o:V)(h:Hp):Prop:=bP o (oP (fH 1 b) λi=>oP (ey i h) λj=>oP (fH 2 b) λk=>oP (ey k h) λl=>im (ji 3 1 2 nZ [(0,j),(1,l)]) h λm p=>Q m p) (oP (eo .eql 3 a (V.I 8)) λc=>bP c (gU C Q b a c h) (oP (eo .eql 3 a (V.I 9)) λd=>bP d (gU C Q b a d h) (oP (eo .eql 3 a (V.I 15)) λe=>bP e (gU C Q b a e h) (oP (eo .eql 3 a (V.I 16)) λf=>bP f (gU C Q b a f h) (oP (eo .eql 3 a (V.I 17)) λg=>bP g (gU C Q b a g h) (oP (eo .eql 3 a (V.I 22)) λn=>gU C Q b a n h))))))
theorem Ad{C:fk}{Q:fo}{a b c:V}{h:Hp}(H:rG C Q a b c h):fO C Q a b c h:=by
 rintro ρ rfl rfl rfl;exact WA.of (by kernel_rfl) H
def rS(C:fk)(Q:fo)(a F l:V)(h:Hp):Prop:=bP l (oP (fH 1 a) λm=>oP (ey m h) λn=>im (ji 3 1 1 nZ [(0,n)]) h λo G=>Q o G) (oP (eo .eql 3 F (V.I 20)) λp=>bP p (oP (fH 4 a) λq=>oP (ey q h) λr=>oP (fy r) λs=>oP (eo .eql 3 s nZ) λt=>bP t (oP (fH 1 a) λu=>oP (ey u h) λv=>oP (fH 2 a) λw=>oP (ey w h) λx=>im (ji 3 1 2 nZ [(0,v),(1,x)]) h λy H=>Q y H) (oP (fH 1 a) λc=>oP (ey c h) λd=>oP (fH 2 a) λe=>oP (ey e h) λf=>oP (fH 4 a) λg=>oP (ey g h) λi=>oP (gI 1 i nZ) λj=>oP (ey j h) λk=>xR (ji 3 1 3 nZ [(0,d),(1,f),(2,k)]) h λz A b=>((b.get (h.next)=some z/\O.beq z z=true)/\((ey j b=some k)/\((ey g b=some i)/\((ey e b=some f)/\((ey c b=some d)/\Q A b))))))) (oP (eo .eql 3 F (V.I 21)) λB=>bP B (oP (fH 4 a) λD=>oP (ey D h) λE=>Q E h) (Q nS h)))
theorem Ar{C:fk}{Q:fo}{b c a:V}{h:Hp}(H:rS C Q b c a h):gU C Q b c a h:=by
 rintro ρ rfl rfl rfl;exact WA.of (by kernel_rfl) H
def vj(C:fk)(Q:fo)(a0:V)(h:Hp):Prop:=im (pU 38 a0) h λb c=>oP (fH 0 b) λq=>oP (ey q c) λa=>oP (eo .eql 3 a (V.I 3)) λm=>bP m (fO C Q b a m c) (oP (eo .eql 3 a (V.I 4)) λn=>bP n (fO C Q b a n c) (oP (eo .eql 3 a (V.I 5)) λo=>bP o (fO C Q b a o c) (oP (eo .eql 3 a (V.I 6)) λp=>bP p (fO C Q b a p c) (oP (eo .eql 3 a (V.I 7)) λd=>bP d (fO C Q b a d c) (oP (eo .eql 3 a (V.I 10)) λe=>bP e (fO C Q b a e c) (oP (eo .eql 3 a (V.I 11)) λf=>bP f (fO C Q b a f c) (oP (eo .eql 3 a (V.I 12)) λg=>bP g (fO C Q b a g c) (oP (eo .eql 3 a (V.I 13)) λi=>bP i (fO C Q b a i c) (oP (eo .eql 3 a (V.I 14)) λj=>bP j (fO C Q b a j c) (oP (eo .eql 3 a (V.I 18)) λk=>bP k (fO C Q b a k c) (oP (eo .eql 3 a (V.I 19)) λl=>fO C Q b a l c)))))))))))
theorem CV{C}(s:C.start=fV){a0 h Q}(k:C.K iG [a0] h=none)(H:vj C Q a0 h):cP C iG [a0] h Q:=cP.vd t10 s (by unfold P0;exact Tryd.func10) k H
def t55:List (Nat×List Nat):=[(87,[0,1,12,13])]
def qn(C:fk)(Q:fo)(c d a b:V)(h:Hp):Prop:=∀ρ:gf,ρ 0=c->ρ 1=d->ρ 12=a->ρ 13=b->WA C Tryd.f55 t55 43 [] Q ρ h
def rj(C:fk)(Q:fo)(c:JA)(g i b a:V)(h:Hp):Prop:=bO .lss 3 a b (dX 1 g a h λd=>dX 1 i a h λe=>bO .neq 3 d e (Q bF h) (oP (eo .add 3 a nO) λf=>c g i b f h)) (Q bT h)
theorem zz{C Q}(I)(s:P4 I (rj C Q)){k c d a b h}(i:I k c d a b h):qn C Q c d a b h:=WA.l4 I _ s i
def uU(C:fk)(Q:fo)(a0 a1:V)(h:Hp):Prop:=oP (fy a0) λb=>oP (fy a1) λc=>bO .neq 3 b c (Q bF h) (oP (fy a0) λa=>qn C Q a0 a1 a nZ h)
theorem BC{C}(s:C.start=fV){a0 a1 h Q}(k:C.K lJ [a0,a1] h=none)(H:uU C Q a0 a1 h):cP C lJ [a0,a1] h Q:=cP.vd t55 s (by unfold P0;exact Tryd.func55) k H
def t52:List (Nat×List Nat):=[]
def kO(C:fk)(Q:fo)(a0 a1:V)(h:Hp):Prop:=cP C jo [a0,a1] h λa b=>oP (eo .geq 3 a nZ) λc=>Q c b
theorem p7{C}(s:C.start=fV){a0 a1 h Q}(k:C.K gM [a0,a1] h=none)(H:kO C Q a0 a1 h):cP C gM [a0,a1] h Q:=cP.vd t52 s (by unfold P0;exact Tryd.func52) k H
def t72:List (Nat×List Nat):=[(43,[0,1,7,8])]
def kT(C:fk)(Q:fo)(a b c d:V)(h:Hp):Prop:=∀ρ:gf,ρ 0=a->ρ 1=b->ρ 7=c->ρ 8=d->WA C Tryd.f72 t72 21 [] Q ρ h
def kN(C:fk)(Q:fo)(b:JA)(g i j a:V)(h:Hp):Prop:=bO .lss 3 a j (oP (gI 6 g a) λc=>oP (gy 6 c h) λd=>gP C (fU i [d]) h λe k=>bP e (Q a k) (oP (eo .add 3 a nO) λf=>b g i j f k)) (Q (V.I (-1)) h)
theorem pZ{C Q}(I)(s:P4 I (kN C Q)){k a b c d h}(i:I k a b c d h):kT C Q a b c d h:=WA.l4 I _ s i
def lO(C:fk)(Q:fo)(a0 a1:V)(h:Hp):Prop:=oP (fy a0) λa=>kT C Q a0 a1 a nZ h
theorem sq{C}(s:C.start=fV){a0 a1 h Q}(k:C.K jo [a0,a1] h=none)(H:lO C Q a0 a1 h):cP C jo [a0,a1] h Q:=cP.vd t72 s (by unfold P0;exact Tryd.func72) k H
def t53:List (Nat×List Nat):=[]
def xG(C:fk)(Q:fo)(a0 a1:V)(h:Hp):Prop:=im (pU 38 a0) h λe a=>dF 0 e a λf=>oP (eo .eql 3 f nO) λg=>oP (jz g (oB (fH 3 e) λi=>oB (ey i a) λj=>oB (fH 3 a1) λb=>oB (ey b a) λc=>eo .eql 2 j c)) λd=>Q d a
theorem EO{C}(s:C.start=fV){a0 a1 h Q}(k:C.K jc [a0,a1] h=none)(H:xG C Q a0 a1 h):cP C jc [a0,a1] h Q:=cP.vd t53 s (by unfold P0;exact Tryd.func53) k H
def t73:List (Nat×List Nat):=[(11,[0,2,3])]
def oI(C:fk)(Q:fo)(a b c:V)(h:Hp):Prop:=∀ρ:gf,ρ 0=a->ρ 2=b->ρ 3=c->WA C Tryd.f73 t73 5 [] Q ρ h
def oE(C:fk)(Q:fo)(d:RK)(a b c:V)(h:Hp):Prop:=bO .lss 3 b c (dX 1 a c h λe=>dX 1 a b h λf=>oP (gI 1 a b) λg=>fi (gG 1 g e h) λo i=>(h.next<=i.next/\oP (gI 1 a c) λj=>fi (gG 1 j f i) λm n=>(i.next<=n.next/\oP (eo .add 3 b nO) λk=>oP (eo .sub 3 c nO) λl=>d a k l n))) (Q (V.tuple []) h)
theorem yc{C Q}(I)(s:P3 I (oE C Q)){k a b c h}(i:I k a b c h):oI C Q a b c h:=WA.l3 I _ s i
def rW(C:fk)(Q:fo)(a0:V)(h:Hp):Prop:=oP (fy a0) λa=>oP (eo .sub 3 a nO) λb=>oI C Q a0 nZ b h
theorem AE{C}(s:C.start=fV){a0 h Q}(k:C.K kj [a0] h=none)(H:rW C Q a0 h):cP C kj [a0] h Q:=cP.vd t73 s (by unfold P0;exact Tryd.func73) k H
end
