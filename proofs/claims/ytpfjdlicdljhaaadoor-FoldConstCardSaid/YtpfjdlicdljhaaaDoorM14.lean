/- Parts. -/
import Derived.Test.YtpfjdlicdljhaaaDoorM10
set_option maxHeartbeats 4000000
namespace Go.Proofs.YtpfjdlicdljhaaaDoor.Hx
abbrev jh:Nat:=4
abbrev wM:Nat:=5
abbrev kE:Nat:=7
abbrev iR:Nat:=8
abbrev iV:Nat:=9
abbrev fX:Nat:=10
abbrev fH:Nat:=11
abbrev wz:Nat:=12
abbrev rZ:Nat:=13
abbrev jX:Nat:=14
abbrev rY:Nat:=15
abbrev vj:Nat:=16
abbrev y6:Nat:=17
abbrev yZ:Nat:=18
abbrev yX:Nat:=19
abbrev ui:Nat:=22
abbrev iX:Nat:=23
abbrev iS:Nat:=24
abbrev jn:Nat:=25
abbrev fZ:Nat:=26
abbrev jk:Nat:=27
abbrev eo:Nat:=28
abbrev fw:Nat:=29
abbrev eR:Nat:=30
abbrev fV:Nat:=31
abbrev iQ:Nat:=32
abbrev jY:Nat:=33
abbrev gP:Nat:=34
abbrev jd:Nat:=35
abbrev jE:Nat:=36
abbrev nB:Nat:=37
abbrev mn:Nat:=38
abbrev iP:Nat:=39
abbrev uj:Nat:=40
abbrev jH:Nat:=41
abbrev hH:Nat:=42
abbrev yL:Nat:=43
abbrev gB:Nat:=44
abbrev dQ:Nat:=45
abbrev fM:Nat:=46
abbrev fy:Nat:=47
abbrev gU:Nat:=48
abbrev yw:Nat:=49
abbrev pe:Nat:=50
abbrev kD:Nat:=51
abbrev en:Nat:=52
abbrev fT:Nat:=53
abbrev sU:Nat:=54
abbrev iU:Nat:=55
abbrev ku:Nat:=56
abbrev fC:Nat:=57
abbrev fD:Nat:=58
abbrev fB:Nat:=59
abbrev fF:Nat:=60
abbrev gm:Nat:=61
abbrev fG:Nat:=62
abbrev gj:Nat:=63
abbrev gZ:Nat:=64
abbrev eU:Nat:=65
abbrev fI:Nat:=66
abbrev dh:Nat:=67
abbrev pO:Nat:=68
abbrev sq:Nat:=69
abbrev kG:Nat:=70
abbrev gi:Nat:=72
abbrev ij:Nat:=73
abbrev iA:Nat:=74
abbrev fU:Nat:=75
abbrev kF:Nat:=76
set_option maxRecDepth 100000
noncomputable section
def t11:List (Nat×List Nat):=[(30,[0])]
def ka(C:dc)(Q:dg)(a:V)(h:Hp):Prop:=∀ρ:dR,ρ 0=a->WA C Tryd.f11 t11 15 [] Q ρ h
def j5(C:dc)(Q:dg)(a:V)(h:Hp):Prop:=Q a h
theorem pK{C:dc}{Q:dg}{a:V}{h:Hp}(H:j5 C Q a h):ka C Q a h:=by
 rintro ρ rfl;exact WA.of (by kernel_rfl) H
def ti(C:dc)(Q:dg)(a0 a1:V)(h:Hp):Prop:=oP (cX .rem 3 a0 a1) λa=>oP (cX .lss 3 a nZ) λc=>bP c (oP (cX .add 3 a a1) λb=>ka C Q b h) (ka C Q a h)
theorem z8{C}(s:C.start=dH){a0 a1 h Q}(k:C.K fH [a0,a1] h=none)(H:ti C Q a0 a1 h):cP C fH [a0,a1] h Q:=cP.vd t11 s (by unfold P0;exact Tryd.func11) k H
def t68:List (Nat×List Nat):=[(106,[3,4]),(490,[18])]
def eQ(C:dc)(Q:dg)(a b:V)(h:Hp):Prop:=∀ρ:dR,ρ 3=a->ρ 4=b->WA C Tryd.f68 t68 53 [] Q ρ h
def ed(C:dc)(Q:dg)(a:V)(h:Hp):Prop:=∀ρ:dR,ρ 18=a->WA C Tryd.f68 t68 245 [] Q ρ h
def zZ(C:dc)(Q:dg)(a i:V)(h:Hp):Prop:=bP i (Q (V.I 2) h) (oP (cX .eql 3 a (V.I 8)) λb=>bP b (ed C Q b h) (oP (cX .eql 3 a (V.I 9)) λc=>bP c (ed C Q c h) (oP (cX .eql 3 a (V.I 15)) λd=>bP d (ed C Q d h) (oP (cX .eql 3 a (V.I 16)) λe=>bP e (ed C Q e h) (oP (cX .eql 3 a (V.I 17)) λf=>bP f (ed C Q f h) (oP (cX .eql 3 a (V.I 22)) λg=>ed C Q g h))))))
theorem Gz{C:dc}{Q:dg}{a b:V}{h:Hp}(H:zZ C Q a b h):eQ C Q a b h:=by
 rintro ρ rfl rfl;exact WA.of (by kernel_rfl) H
def zT(C:dc)(Q:dg)(a:V)(h:Hp):Prop:=bP a (Q nO h) (Q nZ h)
theorem G7{C:dc}{Q:dg}{a:V}{h:Hp}(H:zT C Q a h):ed C Q a h:=by
 rintro ρ rfl;exact WA.of (by kernel_rfl) H
def Ew(C:dc)(Q:dg)(a0:V)(h:Hp):Prop:=oP (cX .eql 3 a0 (V.I 3)) λj=>bP j (eQ C Q a0 j h) (oP (cX .eql 3 a0 (V.I 4)) λk=>bP k (eQ C Q a0 k h) (oP (cX .eql 3 a0 (V.I 5)) λl=>bP l (eQ C Q a0 l h) (oP (cX .eql 3 a0 (V.I 6)) λm=>bP m (eQ C Q a0 m h) (oP (cX .eql 3 a0 (V.I 7)) λn=>bP n (eQ C Q a0 n h) (oP (cX .eql 3 a0 (V.I 10)) λa=>bP a (eQ C Q a0 a h) (oP (cX .eql 3 a0 (V.I 11)) λb=>bP b (eQ C Q a0 b h) (oP (cX .eql 3 a0 (V.I 12)) λc=>bP c (eQ C Q a0 c h) (oP (cX .eql 3 a0 (V.I 13)) λd=>bP d (eQ C Q a0 d h) (oP (cX .eql 3 a0 (V.I 14)) λe=>bP e (eQ C Q a0 e h) (oP (cX .eql 3 a0 (V.I 18)) λf=>bP f (eQ C Q a0 f h) (oP (cX .eql 3 a0 (V.I 19)) λg=>bP g (eQ C Q a0 g h) (oP (cX .eql 3 a0 (V.I 20)) λi=>eQ C Q a0 i h))))))))))))
theorem Ky{C}(s:C.start=dH){a0 h Q}(k:C.K pO [a0] h=none)(H:Ew C Q a0 h):cP C pO [a0] h Q:=cP.vd t68 s (by unfold P0;exact Tryd.func68) k H
def t51:List (Nat×List Nat):=[]
def De(C:dc)(Q:dg)(a0:V)(h:Hp):Prop:=oP (cX .eql 3 a0 (V.I 22)) λa=>oP (kI a (oB (some a0) λb=>cX .eql 3 b (V.I 23))) λc=>Q c h
theorem Jj{C}(s:C.start=dH){a0 h Q}(k:C.K kD [a0] h=none)(H:De C Q a0 h):cP C kD [a0] h Q:=cP.vd t51 s (by unfold P0;exact Tryd.func51) k H
def t48:List (Nat×List Nat):=[]
def EA(C:dc)(Q:dg)(a0 a1:V)(h:Hp):Prop:=oP (cX .geq 3 a0 nZ) λb=>oP (il b (oB (some a0) λc=>oB (some a1) λd=>cX .lss 3 c d)) λa=>Q a h
theorem Ku{C}(s:C.start=dH){a0 a1 h Q}(k:C.K gU [a0,a1] h=none)(H:EA C Q a0 a1 h):cP C gU [a0,a1] h Q:=cP.vd t48 s (by unfold P0;exact Tryd.func48) k H
def t50:List (Nat×List Nat):=[(30,[3])]
def oL(C:dc)(Q:dg)(a:V)(h:Hp):Prop:=∀ρ:dR,ρ 3=a->WA C Tryd.f50 t50 15 [] Q ρ h
def BB(C:dc)(Q:dg)(a:V)(h:Hp):Prop:=Q a h
theorem HX{C:dc}{Q:dg}{a:V}{h:Hp}(H:BB C Q a h):oL C Q a h:=by
 rintro ρ rfl;exact WA.of (by kernel_rfl) H
def Gy(C:dc)(Q:dg)(a0:V)(h:Hp):Prop:=gJ (qd 38 a0) h λc k=>E0 (oX 3 1 0 nZ []) k λf I i=>oP (dE 1 c) λl=>oP (df l i) λm=>oP (dE 2 c) λn=>oP (df n i) λo=>E0 (oX 3 1 2 nZ [(0,m),(1,o)]) i λg J d=>oP (dE 0 c) λp=>oP (df p d) λq=>((d.get (i.next)=some g/\O.beq g g=true)/\((df n d=some o)/\((df l d=some m)/\((d.get (k.next)=some f/\O.beq f f=true)/\cP C pO [q] d λr b=>(d.next<=b.next/\oP (jl 1 J none (some r) b) λs=>((b.get (i.next)=some g/\O.beq g g=true)/\((df n b=some o)/\((df l b=some m)/\((b.get (k.next)=some f/\O.beq f f=true)/\dz (c9 3 1 8 I s b) λe a=>(b.next<=a.next/\oP (dE 0 c) λt=>oP (df t a) λj=>oP (cX .eql 3 j (V.I 20)) λu=>bP u (oP (dE 4 c) λv=>oP (df v a) λw=>oP (dE 4 c) λx=>oP (df x a) λy=>oP (dD y) λz=>oP (KZ false nO [z]) λA=>oP (jl 1 w none (some A) a) λB=>dz (c9 3 1 8 e B a) λD K=>oL C Q D K) (oP (cX .eql 3 j (V.I 21)) λE=>bP E (oP (dE 4 c) λF=>oP (df F a) λG=>dz (c9 3 1 8 e G a) λH L=>oL C Q H L) (oL C Q e a))))))))))))
theorem Mw{C}(s:C.start=dH){a0 h Q}(k:C.K pe [a0] h=none)(H:Gy C Q a0 h):cP C pe [a0] h Q:=cP.vd t50 s (by unfold P0;exact Tryd.func50) k H
def t10:List (Nat×List Nat):=[(106,[1,4,5]),(490,[1,4,23])]
def dy(C:dc)(Q:dg)(a b c:V)(h:Hp):Prop:=∀ρ:dR,ρ 1=a->ρ 4=b->ρ 5=c->WA C Tryd.f10 t10 53 [] Q ρ h
def eJ(C:dc)(Q:dg)(b c a:V)(h:Hp):Prop:=∀ρ:dR,ρ 1=b->ρ 4=c->ρ 23=a->WA C Tryd.f10 t10 245 [] Q ρ h
def nW(C:dc)(Q:dg)(b a o:V)(h:Hp):Prop:=bP o (oP (dE 1 b) λi=>oP (df i h) λj=>oP (dE 2 b) λk=>oP (df k h) λl=>gJ (oX 3 1 2 nZ [(0,j),(1,l)]) h λm p=>Q m p) (oP (cX .eql 3 a (V.I 8)) λc=>bP c (eJ C Q b a c h) (oP (cX .eql 3 a (V.I 9)) λd=>bP d (eJ C Q b a d h) (oP (cX .eql 3 a (V.I 15)) λe=>bP e (eJ C Q b a e h) (oP (cX .eql 3 a (V.I 16)) λf=>bP f (eJ C Q b a f h) (oP (cX .eql 3 a (V.I 17)) λg=>bP g (eJ C Q b a g h) (oP (cX .eql 3 a (V.I 22)) λn=>eJ C Q b a n h))))))
theorem wS{C:dc}{Q:dg}{a b c:V}{h:Hp}(H:nW C Q a b c h):dy C Q a b c h:=by
 rintro ρ rfl rfl rfl;exact WA.of (by kernel_rfl) H
def oK(C:dc)(Q:dg)(a F l:V)(h:Hp):Prop:=bP l (oP (dE 1 a) λm=>oP (df m h) λn=>gJ (oX 3 1 1 nZ [(0,n)]) h λo G=>Q o G) (oP (cX .eql 3 F (V.I 20)) λp=>bP p (oP (dE 4 a) λq=>oP (df q h) λr=>oP (dD r) λs=>oP (cX .eql 3 s nZ) λt=>bP t (oP (dE 1 a) λu=>oP (df u h) λv=>oP (dE 2 a) λw=>oP (df w h) λx=>gJ (oX 3 1 2 nZ [(0,v),(1,x)]) h λy H=>Q y H) (oP (dE 1 a) λc=>oP (df c h) λd=>oP (dE 2 a) λe=>oP (df e h) λf=>oP (dE 4 a) λg=>oP (df g h) λi=>oP (eX 1 i nZ) λj=>oP (df j h) λk=>E0 (oX 3 1 3 nZ [(0,d),(1,f),(2,k)]) h λz A b=>((b.get (h.next)=some z/\O.beq z z=true)/\((df j b=some k)/\((df g b=some i)/\((df e b=some f)/\((df c b=some d)/\Q A b))))))) (oP (cX .eql 3 F (V.I 21)) λB=>bP B (oP (dE 4 a) λD=>oP (df D h) λE=>Q E h) (Q nS h)))
theorem wX{C:dc}{Q:dg}{b c a:V}{h:Hp}(H:oK C Q b c a h):eJ C Q b c a h:=by
 rintro ρ rfl rfl rfl;exact WA.of (by kernel_rfl) H
def rI(C:dc)(Q:dg)(a0:V)(h:Hp):Prop:=gJ (qd 38 a0) h λb c=>oP (dE 0 b) λq=>oP (df q c) λa=>oP (cX .eql 3 a (V.I 3)) λm=>bP m (dy C Q b a m c) (oP (cX .eql 3 a (V.I 4)) λn=>bP n (dy C Q b a n c) (oP (cX .eql 3 a (V.I 5)) λo=>bP o (dy C Q b a o c) (oP (cX .eql 3 a (V.I 6)) λp=>bP p (dy C Q b a p c) (oP (cX .eql 3 a (V.I 7)) λd=>bP d (dy C Q b a d c) (oP (cX .eql 3 a (V.I 10)) λe=>bP e (dy C Q b a e c) (oP (cX .eql 3 a (V.I 11)) λf=>bP f (dy C Q b a f c) (oP (cX .eql 3 a (V.I 12)) λg=>bP g (dy C Q b a g c) (oP (cX .eql 3 a (V.I 13)) λi=>bP i (dy C Q b a i c) (oP (cX .eql 3 a (V.I 14)) λj=>bP j (dy C Q b a j c) (oP (cX .eql 3 a (V.I 18)) λk=>bP k (dy C Q b a k c) (oP (cX .eql 3 a (V.I 19)) λl=>dy C Q b a l c)))))))))))
theorem zM{C}(s:C.start=dH){a0 h Q}(k:C.K fX [a0] h=none)(H:rI C Q a0 h):cP C fX [a0] h Q:=cP.vd t10 s (by unfold P0;exact Tryd.func10) k H
def t55:List (Nat×List Nat):=[(87,[0,1,12,13])]
def m4(C:dc)(Q:dg)(c d a b:V)(h:Hp):Prop:=∀ρ:dR,ρ 0=c->ρ 1=d->ρ 12=a->ρ 13=b->WA C Tryd.f55 t55 43 [] Q ρ h
def mO(C:dc)(Q:dg)(c:Fk)(g i b a:V)(h:Hp):Prop:=bO .lss 3 a b (dX 1 g a h λd=>dX 1 i a h λe=>bO .neq 3 d e (Q bF h) (oP (cX .add 3 a nO) λf=>c g i b f h)) (Q bT h)
theorem vT{C Q}(I)(s:P4 I (mO C Q)){k c d a b h}(i:I k c d a b h):m4 C Q c d a b h:=WA.l4 I _ s i
def qo(C:dc)(Q:dg)(a0 a1:V)(h:Hp):Prop:=oP (dD a0) λb=>oP (dD a1) λc=>bO .neq 3 b c (Q bF h) (oP (dD a0) λa=>m4 C Q a0 a1 a nZ h)
theorem yQ{C}(s:C.start=dH){a0 a1 h Q}(k:C.K iU [a0,a1] h=none)(H:qo C Q a0 a1 h):cP C iU [a0,a1] h Q:=cP.vd t55 s (by unfold P0;exact Tryd.func55) k H
def t52:List (Nat×List Nat):=[]
def iB(C:dc)(Q:dg)(a0 a1:V)(h:Hp):Prop:=cP C gi [a0,a1] h λa b=>oP (cX .geq 3 a nZ) λc=>Q c b
theorem mm{C}(s:C.start=dH){a0 a1 h Q}(k:C.K en [a0,a1] h=none)(H:iB C Q a0 a1 h):cP C en [a0,a1] h Q:=cP.vd t52 s (by unfold P0;exact Tryd.func52) k H
def t72:List (Nat×List Nat):=[(43,[0,1,7,8])]
def iH(C:dc)(Q:dg)(a b c d:V)(h:Hp):Prop:=∀ρ:dR,ρ 0=a->ρ 1=b->ρ 7=c->ρ 8=d->WA C Tryd.f72 t72 21 [] Q ρ h
def iD(C:dc)(Q:dg)(b:Fk)(g i j a:V)(h:Hp):Prop:=bO .lss 3 a j (oP (eX 6 g a) λc=>oP (eg 6 c h) λd=>G9 C (wD i [d]) h λe k=>bP e (Q a k) (oP (cX .add 3 a nO) λf=>b g i j f k)) (Q (V.I (-1)) h)
theorem mq{C Q}(I)(s:P4 I (iD C Q)){k a b c d h}(i:I k a b c d h):iH C Q a b c d h:=WA.l4 I _ s i
def iZ(C:dc)(Q:dg)(a0 a1:V)(h:Hp):Prop:=oP (dD a0) λa=>iH C Q a0 a1 a nZ h
theorem po{C}(s:C.start=dH){a0 a1 h Q}(k:C.K gi [a0,a1] h=none)(H:iZ C Q a0 a1 h):cP C gi [a0,a1] h Q:=cP.vd t72 s (by unfold P0;exact Tryd.func72) k H
def t53:List (Nat×List Nat):=[]
def tC(C:dc)(Q:dg)(a0 a1:V)(h:Hp):Prop:=gJ (qd 38 a0) h λe a=>dF 0 e a λf=>oP (cX .eql 3 f nO) λg=>oP (il g (oB (dE 3 e) λi=>oB (df i a) λj=>oB (dE 3 a1) λb=>oB (df b a) λc=>cX .eql 2 j c)) λd=>Q d a
theorem Bc{C}(s:C.start=dH){a0 a1 h Q}(k:C.K fT [a0,a1] h=none)(H:tC C Q a0 a1 h):cP C fT [a0,a1] h Q:=cP.vd t53 s (by unfold P0;exact Tryd.func53) k H
def t73:List (Nat×List Nat):=[(11,[0,2,3])]
def lD(C:dc)(Q:dg)(a b c:V)(h:Hp):Prop:=∀ρ:dR,ρ 0=a->ρ 2=b->ρ 3=c->WA C Tryd.f73 t73 5 [] Q ρ h
def kY(C:dc)(Q:dg)(d:Mu)(a b c:V)(h:Hp):Prop:=bO .lss 3 b c (dX 1 a c h λe=>dX 1 a b h λf=>oP (eX 1 a b) λg=>dz (fk 1 g e h) λo i=>(h.next<=i.next/\oP (eX 1 a c) λj=>dz (fk 1 j f i) λm n=>(i.next<=n.next/\oP (cX .add 3 b nO) λk=>oP (cX .sub 3 c nO) λl=>d a k l n))) (Q (V.tuple []) h)
theorem uf{C Q}(I)(s:P3 I (kY C Q)){k a b c h}(i:I k a b c h):lD C Q a b c h:=WA.l3 I _ s i
def nP(C:dc)(Q:dg)(a0:V)(h:Hp):Prop:=oP (dD a0) λa=>oP (cX .sub 3 a nO) λb=>lD C Q a0 nZ b h
theorem wU{C}(s:C.start=dH){a0 h Q}(k:C.K ij [a0] h=none)(H:nP C Q a0 h):cP C ij [a0] h Q:=cP.vd t73 s (by unfold P0;exact Tryd.func73) k H
end
