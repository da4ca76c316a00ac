/- Parts. -/
import Derived.Test.YtloecllhljfidaaDoorM10
set_option maxHeartbeats 4000000
namespace Go.Proofs.YtloecllhljfidaaDoor.Hx
abbrev mf:Nat:=3
abbrev mJ:Nat:=4
abbrev mI:Nat:=5
abbrev ig:Nat:=6
abbrev nP:Nat:=7
abbrev vK:Nat:=8
abbrev mB:Nat:=9
abbrev tu:Nat:=10
abbrev fk:Nat:=11
abbrev fg:Nat:=12
abbrev fL:Nat:=13
abbrev jh:Nat:=14
abbrev jN:Nat:=15
abbrev gy:Nat:=16
abbrev oD:Nat:=17
abbrev fV:Nat:=18
abbrev mA:Nat:=19
abbrev fW:Nat:=20
abbrev om:Nat:=21
abbrev mZ:Nat:=22
abbrev wk:Nat:=23
abbrev oz:Nat:=24
abbrev wG:Nat:=25
abbrev gJ:Nat:=26
abbrev mc:Nat:=27
abbrev tZ:Nat:=28
abbrev mG:Nat:=29
abbrev fU:Nat:=30
abbrev lF:Nat:=31
abbrev rY:Nat:=32
abbrev na:Nat:=33
abbrev nT:Nat:=34
abbrev rH:Nat:=35
abbrev nt:Nat:=36
abbrev lR:Nat:=37
abbrev lN:Nat:=38
abbrev iH:Nat:=39
abbrev sN:Nat:=40
abbrev jq:Nat:=41
abbrev lJ:Nat:=42
abbrev ni:Nat:=43
abbrev jQ:Nat:=44
abbrev lX:Nat:=45
abbrev mL:Nat:=46
abbrev qI:Nat:=47
abbrev lL:Nat:=48
abbrev yd:Nat:=49
abbrev mC:Nat:=50
abbrev j9:Nat:=51
abbrev nN:Nat:=52
abbrev wN:Nat:=53
abbrev ja:Nat:=54
abbrev jE:Nat:=55
abbrev iM:Nat:=56
abbrev jX:Nat:=57
abbrev BG:Nat:=58
abbrev gS:Nat:=59
abbrev jl:Nat:=60
abbrev iZ:Nat:=61
abbrev iS:Nat:=62
abbrev iX:Nat:=63
abbrev jC:Nat:=64
abbrev iU:Nat:=65
abbrev jA:Nat:=66
abbrev j4:Nat:=67
abbrev hX:Nat:=68
abbrev iW:Nat:=69
abbrev fE:Nat:=70
abbrev kP:Nat:=71
abbrev Bu:Nat:=72
abbrev ml:Nat:=73
abbrev jB:Nat:=75
abbrev lD:Nat:=76
abbrev jn:Nat:=77
abbrev xU:Nat:=78
abbrev nU:Nat:=79
abbrev BA:Nat:=81
abbrev vP:Nat:=85
abbrev nY:Nat:=86
set_option maxRecDepth 100000
noncomputable section
def AU:Option (List Field):=(GA 99).getD none
def t6:List (Nat×List Nat):=[(30,[0])]
def nJ(C:fm)(Q:fq)(a:V)(h:Hp):Prop:=∀ρ:gg,ρ 0=a->WA C Tryd.f6 t6 15 [] Q ρ h
def nH(C:fm)(Q:fq)(a:V)(h:Hp):Prop:=Q a h
theorem sX{C:fm}{Q:fq}{a:V}{h:Hp}(H:nH C Q a h):nJ C Q a h:=by
 rintro ρ rfl;exact WA.of (by kernel_rfl) H
def vY(C:fm)(Q:fq)(a0 a1:V)(h:Hp):Prop:=oP (eJ .rem 3 a0 a1) λa=>oP (eJ .lss 3 a nZ) λc=>bP c (oP (eJ .add 3 a a1) λb=>nJ C Q b h) (nJ C Q a h)
theorem DV{C}(s:C.start=fK){a0 a1 h Q}(k:C.K ig [a0,a1] h=none)(H:vY C Q a0 a1 h):cP C ig [a0,a1] h Q:=cP.vd t6 s (by unfold P0;exact Tryd.func6) k H
def t40:List (Nat×List Nat):=[(106,[3,4]),(490,[18])]
def gY(C:fm)(Q:fq)(a b:V)(h:Hp):Prop:=∀ρ:gg,ρ 3=a->ρ 4=b->WA C Tryd.f40 t40 53 [] Q ρ h
def gz(C:fm)(Q:fq)(a:V)(h:Hp):Prop:=∀ρ:gg,ρ 18=a->WA C Tryd.f40 t40 245 [] Q ρ h
def Dz(C:fm)(Q:fq)(a i:V)(h:Hp):Prop:=bP i (Q (V.I 2) h) (oP (eJ .eql 3 a (V.I 8)) λb=>bP b (gz C Q b h) (oP (eJ .eql 3 a (V.I 9)) λc=>bP c (gz C Q c h) (oP (eJ .eql 3 a (V.I 15)) λd=>bP d (gz C Q d h) (oP (eJ .eql 3 a (V.I 16)) λe=>bP e (gz C Q e h) (oP (eJ .eql 3 a (V.I 17)) λf=>bP f (gz C Q f h) (oP (eJ .eql 3 a (V.I 22)) λg=>gz C Q g h))))))
theorem KK{C:fm}{Q:fq}{a b:V}{h:Hp}(H:Dz C Q a b h):gY C Q a b h:=by
 rintro ρ rfl rfl;exact WA.of (by kernel_rfl) H
def DP(C:fm)(Q:fq)(a:V)(h:Hp):Prop:=bP a (Q nO h) (Q nZ h)
theorem LC{C:fm}{Q:fq}{a:V}{h:Hp}(H:DP C Q a h):gz C Q a h:=by
 rintro ρ rfl;exact WA.of (by kernel_rfl) H
def Jc(C:fm)(Q:fq)(a0:V)(h:Hp):Prop:=oP (eJ .eql 3 a0 (V.I 3)) λj=>bP j (gY C Q a0 j h) (oP (eJ .eql 3 a0 (V.I 4)) λk=>bP k (gY C Q a0 k h) (oP (eJ .eql 3 a0 (V.I 5)) λl=>bP l (gY C Q a0 l h) (oP (eJ .eql 3 a0 (V.I 6)) λm=>bP m (gY C Q a0 m h) (oP (eJ .eql 3 a0 (V.I 7)) λn=>bP n (gY C Q a0 n h) (oP (eJ .eql 3 a0 (V.I 10)) λa=>bP a (gY C Q a0 a h) (oP (eJ .eql 3 a0 (V.I 11)) λb=>bP b (gY C Q a0 b h) (oP (eJ .eql 3 a0 (V.I 12)) λc=>bP c (gY C Q a0 c h) (oP (eJ .eql 3 a0 (V.I 13)) λd=>bP d (gY C Q a0 d h) (oP (eJ .eql 3 a0 (V.I 14)) λe=>bP e (gY C Q a0 e h) (oP (eJ .eql 3 a0 (V.I 18)) λf=>bP f (gY C Q a0 f h) (oP (eJ .eql 3 a0 (V.I 19)) λg=>bP g (gY C Q a0 g h) (oP (eJ .eql 3 a0 (V.I 20)) λi=>gY C Q a0 i h))))))))))))
theorem PS{C}(s:C.start=fK){a0 h Q}(k:C.K sN [a0] h=none)(H:Jc C Q a0 h):cP C sN [a0] h Q:=cP.vd t40 s (by unfold P0;exact Tryd.func40) k H
def t29:List (Nat×List Nat):=[]
def HH(C:fm)(Q:fq)(a0:V)(h:Hp):Prop:=oP (eJ .eql 3 a0 (V.I 22)) λa=>oP (uP a (oB (some a0) λb=>eJ .eql 3 b (V.I 23))) λc=>Q c h
theorem N4{C}(s:C.start=fK){a0 h Q}(k:C.K mG [a0] h=none)(H:HH C Q a0 h):cP C mG [a0] h Q:=cP.vd t29 s (by unfold P0;exact Tryd.func29) k H
def t57:List (Nat×List Nat):=[]
def Jg(C:fm)(Q:fq)(a0 a1:V)(h:Hp):Prop:=oP (eJ .geq 3 a0 nZ) λb=>oP (mn b (oB (some a0) λc=>oB (some a1) λd=>eJ .lss 3 c d)) λa=>Q a h
theorem QO{C}(s:C.start=fK){a0 a1 h Q}(k:C.K jX [a0,a1] h=none)(H:Jg C Q a0 a1 h):cP C jX [a0,a1] h Q:=cP.vd t57 s (by unfold P0;exact Tryd.func57) k H
def t27:List (Nat×List Nat):=[(30,[3])]
def qQ(C:fm)(Q:fq)(a:V)(h:Hp):Prop:=∀ρ:gg,ρ 3=a->WA C Tryd.f27 t27 15 [] Q ρ h
def FA(C:fm)(Q:fq)(a:V)(h:Hp):Prop:=Q a h
theorem Mh{C:fm}{Q:fq}{a:V}{h:Hp}(H:FA C Q a h):qQ C Q a h:=by
 rintro ρ rfl;exact WA.of (by kernel_rfl) H
def LB(C:fm)(Q:fq)(a0:V)(h:Hp):Prop:=gX (mm 40 a0) h λc k=>wP (jd 3 1 0 nZ []) k λf I i=>oP (fQ 1 c) λl=>oP (eQ l i) λm=>oP (fQ 2 c) λn=>oP (eQ n i) λo=>wP (jd 3 1 2 nZ [(0,m),(1,o)]) i λg J d=>oP (fQ 0 c) λp=>oP (eQ p d) λq=>((d.get (i.next)=some g/\O.beq g g=true)/\((eQ n d=some o)/\((eQ l d=some m)/\((d.get (k.next)=some f/\O.beq f f=true)/\cP C sN [q] d λr b=>(d.next<=b.next/\oP (jc 1 J none (some r) b) λs=>((b.get (i.next)=some g/\O.beq g g=true)/\((eQ n b=some o)/\((eQ l b=some m)/\((b.get (k.next)=some f/\O.beq f f=true)/\fc (eR 3 1 8 I s b) λe a=>(b.next<=a.next/\oP (fQ 0 c) λt=>oP (eQ t a) λj=>oP (eJ .eql 3 j (V.I 20)) λu=>bP u (oP (fQ 4 c) λv=>oP (eQ v a) λw=>oP (fQ 4 c) λx=>oP (eQ x a) λy=>oP (fD y) λz=>oP (Oy false nO [z]) λA=>oP (jc 1 w none (some A) a) λB=>fc (eR 3 1 8 e B a) λD K=>qQ C Q D K) (oP (eJ .eql 3 j (V.I 21)) λE=>bP E (oP (fQ 4 c) λF=>oP (eQ F a) λG=>fc (eR 3 1 8 e G a) λH L=>qQ C Q H L) (qQ C Q e a))))))))))))
theorem RH{C}(s:C.start=fK){a0 h Q}(k:C.K mc [a0] h=none)(H:LB C Q a0 h):cP C mc [a0] h Q:=cP.vd t27 s (by unfold P0;exact Tryd.func27) k H
def t26:List (Nat×List Nat):=[(87,[0,1,12,13])]
def qp(C:fm)(Q:fq)(c d a b:V)(h:Hp):Prop:=∀ρ:gg,ρ 0=c->ρ 1=d->ρ 12=a->ρ 13=b->WA C Tryd.f26 t26 43 [] Q ρ h
def ql(C:fm)(Q:fq)(c:Jv)(g i b a:V)(h:Hp):Prop:=bO .lss 3 a b (dX 1 g a h λd=>dX 1 i a h λe=>bO .neq 3 d e (Q bF h) (oP (eJ .add 3 a nO) λf=>c g i b f h)) (Q bT h)
theorem zg{C Q}(I)(s:P4 I (ql C Q)){k c d a b h}(i:I k c d a b h):qp C Q c d a b h:=WA.l4 I _ s i
def tR(C:fm)(Q:fq)(a0 a1:V)(h:Hp):Prop:=oP (fD a0) λb=>oP (fD a1) λc=>bO .neq 3 b c (Q bF h) (oP (fD a0) λa=>qp C Q a0 a1 a nZ h)
theorem BT{C}(s:C.start=fK){a0 a1 h Q}(k:C.K gJ [a0,a1] h=none)(H:tR C Q a0 a1 h):cP C gJ [a0,a1] h Q:=cP.vd t26 s (by unfold P0;exact Tryd.func26) k H
def t59:List (Nat×List Nat):=[]
def lB(C:fm)(Q:fq)(a0 a1:V)(h:Hp):Prop:=cP C jB [a0,a1] h λa b=>oP (eJ .geq 3 a nZ) λc=>Q c b
theorem qb{C}(s:C.start=fK){a0 a1 h Q}(k:C.K gS [a0,a1] h=none)(H:lB C Q a0 a1 h):cP C gS [a0,a1] h Q:=cP.vd t59 s (by unfold P0;exact Tryd.func59) k H
def t75:List (Nat×List Nat):=[(43,[0,1,7,8])]
def lE(C:fm)(Q:fq)(a b c d:V)(h:Hp):Prop:=∀ρ:gg,ρ 0=a->ρ 1=b->ρ 7=c->ρ 8=d->WA C Tryd.f75 t75 21 [] Q ρ h
def lp(C:fm)(Q:fq)(b:Jv)(g i j a:V)(h:Hp):Prop:=bO .lss 3 a j (oP (hV 6 g a) λc=>oP (fM 6 c h) λd=>gN C (fO i [d]) h λe k=>bP e (Q a k) (oP (eJ .add 3 a nO) λf=>b g i j f k)) (Q (V.I (-1)) h)
theorem p9{C Q}(I)(s:P4 I (lp C Q)){k a b c d h}(i:I k a b c d h):lE C Q a b c d h:=WA.l4 I _ s i
def lY(C:fm)(Q:fq)(a0 a1:V)(h:Hp):Prop:=oP (fD a0) λa=>lE C Q a0 a1 a nZ h
theorem rM{C}(s:C.start=fK){a0 a1 h Q}(k:C.K jB [a0,a1] h=none)(H:lY C Q a0 a1 h):cP C jB [a0,a1] h Q:=cP.vd t75 s (by unfold P0;exact Tryd.func75) k H
def t60:List (Nat×List Nat):=[]
def xh(C:fm)(Q:fq)(a0 a1:V)(h:Hp):Prop:=gX (mm 40 a0) h λe a=>dF 0 e a λf=>oP (eJ .eql 3 f nO) λg=>oP (mn g (oB (fQ 3 e) λi=>oB (eQ i a) λj=>oB (fQ 3 a1) λb=>oB (eQ b a) λc=>eJ .eql 2 j c)) λd=>Q d a
theorem EX{C}(s:C.start=fK){a0 a1 h Q}(k:C.K jl [a0,a1] h=none)(H:xh C Q a0 a1 h):cP C jl [a0,a1] h Q:=cP.vd t60 s (by unfold P0;exact Tryd.func60) k H
def t71:List (Nat×List Nat):=[(11,[0,2,3])]
def oZ(C:fm)(Q:fq)(a b c:V)(h:Hp):Prop:=∀ρ:gg,ρ 0=a->ρ 2=b->ρ 3=c->WA C Tryd.f71 t71 5 [] Q ρ h
def oS(C:fm)(Q:fq)(d:RQ)(a b c:V)(h:Hp):Prop:=bO .lss 3 b c (dX 1 a c h λe=>dX 1 a b h λf=>oP (hV 1 a b) λg=>fc (gh 1 g e h) λo i=>(h.next<=i.next/\oP (hV 1 a c) λj=>fc (gh 1 j f i) λm n=>(i.next<=n.next/\oP (eJ .add 3 b nO) λk=>oP (eJ .sub 3 c nO) λl=>d a k l n))) (Q (V.tuple []) h)
theorem xZ{C Q}(I)(s:P3 I (oS C Q)){k a b c h}(i:I k a b c h):oZ C Q a b c h:=WA.l3 I _ s i
def rj(C:fm)(Q:fq)(a0:V)(h:Hp):Prop:=oP (fD a0) λa=>oP (eJ .sub 3 a nO) λb=>oZ C Q a0 nZ b h
theorem zP{C}(s:C.start=fK){a0 h Q}(k:C.K kP [a0] h=none)(H:rj C Q a0 h):cP C kP [a0] h Q:=cP.vd t71 s (by unfold P0;exact Tryd.func71) k H
end
