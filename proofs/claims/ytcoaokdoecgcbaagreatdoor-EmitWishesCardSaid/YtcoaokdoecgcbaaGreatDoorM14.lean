/- Parts. -/
import Derived.Test.YtcoaokdoecgcbaaGreatDoorM10
set_option maxHeartbeats 4000000
namespace Go.Proofs.YtcoaokdoecgcbaaGreatDoor.Hx
variable{Q:fo}{h:Hp}{a b:V}
abbrev rE:Nat:=5
abbrev nY:Nat:=6
abbrev jx:Nat:=7
abbrev BU:Nat:=8
abbrev qj:Nat:=9
abbrev iR:Nat:=10
abbrev mq:Nat:=12
abbrev mj:Nat:=14
abbrev qu:Nat:=15
abbrev lY:Nat:=16
abbrev su:Nat:=17
abbrev qz:Nat:=18
abbrev nz:Nat:=19
abbrev fF:Nat:=20
abbrev ft:Nat:=21
abbrev gh:Nat:=22
abbrev kO:Nat:=23
abbrev mJ:Nat:=24
abbrev yc:Nat:=25
abbrev yY:Nat:=26
abbrev Cc:Nat:=27
abbrev rX:Nat:=28
abbrev rO:Nat:=29
abbrev xO:Nat:=30
abbrev py:Nat:=32
abbrev nT:Nat:=36
abbrev nj:Nat:=40
abbrev oA:Nat:=41
abbrev nq:Nat:=42
abbrev lg:Nat:=43
abbrev jW:Nat:=44
abbrev gZ:Nat:=45
abbrev iH:Nat:=46
abbrev jF:Nat:=47
abbrev jJ:Nat:=48
abbrev ly:Nat:=49
abbrev pd:Nat:=50
abbrev Ae:Nat:=51
abbrev sJ:Nat:=52
abbrev og:Nat:=53
abbrev iZ:Nat:=54
abbrev CE:Nat:=55
abbrev kR:Nat:=56
abbrev pe:Nat:=57
abbrev ui:Nat:=58
abbrev ry:Nat:=59
abbrev qq:Nat:=60
abbrev rB:Nat:=61
abbrev zL:Nat:=62
abbrev xZ:Nat:=63
abbrev pg:Nat:=64
abbrev pt:Nat:=65
abbrev sS:Nat:=66
abbrev mA:Nat:=67
abbrev gY:Nat:=68
abbrev gv:Nat:=69
abbrev mC:Nat:=70
abbrev jO:Nat:=71
abbrev zm:Nat:=72
abbrev sX:Nat:=74
abbrev iL:Nat:=77
abbrev ql:Nat:=78
abbrev tT:Nat:=79
abbrev mM:Nat:=80
abbrev oK:Nat:=81
abbrev pj:Nat:=82
abbrev jS:Nat:=83
abbrev oy:Nat:=84
abbrev kU:Nat:=85
abbrev JT:Nat:=86
abbrev A9:Nat:=87
abbrev Ac:Nat:=88
abbrev jH:Nat:=89
abbrev my:Nat:=90
abbrev BZ:Nat:=91
abbrev qw:Nat:=92
abbrev ka:Nat:=93
abbrev kh:Nat:=94
abbrev ki:Nat:=95
abbrev GW:Nat:=96
abbrev tY:Nat:=97
abbrev Ay:Nat:=98
abbrev na:Nat:=99
abbrev IA:Nat:=100
abbrev nt:Nat:=101
abbrev zu:Nat:=102
abbrev NU:Nat:=103
abbrev wR:Nat:=104
abbrev wJ:Nat:=105
abbrev pq:Nat:=106
abbrev uf:Nat:=107
abbrev qW:Nat:=108
abbrev HH:Nat:=109
abbrev mY:Nat:=110
abbrev pN:Nat:=111
abbrev sP:Nat:=112
abbrev sj:Nat:=113
abbrev xE:Nat:=114
abbrev Av:Nat:=115
abbrev DB:Nat:=149
abbrev BM:Nat:=150
abbrev B4:Nat:=151
abbrev DW:Nat:=152
abbrev oh:Nat:=153
abbrev Bc:Nat:=154
abbrev z8:Nat:=155
abbrev Aa:Nat:=156
abbrev Bf:Nat:=157
abbrev mz:Nat:=158
set_option maxRecDepth 100000
noncomputable section
theorem cP.ve{f:Nat}{fn:Func}(tb:List (Nat×List Nat)){args:List V}{h:Hp}{Q:fo}{P:Prop}(b:Tryz.prog.funcs[f]? =some fn)(H:P)(c:CS.K f args h=none:=by rfl)(d:fn.body=some (MJ fn):=by kernel_rfl)(a:Nat.ble args.length fn.ntmps=true:=by kernel_rfl)(e:VA CS fn.ntmps tb (XI fn [] Q) (Nd args) h=P:=by kernel_rfl):cP CS f args h Q:=cP.vd tb rfl (by unfold P0;exact b) c H d a e
def t10:List (Nat×List Nat):=[(30,[0])]
def pE(Q:fo)(a:V)(h:Hp):Prop:=JV CS Tryz.f10 t10 15 [0] [] Q [a] h
def mc(Q:fo)(a:V)(h:Hp):Prop:=Q a h
theorem vR{Q a h}(H:mc Q a h):pE Q a h:=JV.wn 1 (mc Q) H
theorem GJ{d:V}(H:oP (eh .rem 3 d a) λb=>oP (eh .lss 3 b nZ) λe=>bP e (oP (eh .add 3 b a) λc=>pE Q c h) (pE Q b h)):cP CS iR [d,a] h Q:=cP.ve t10 Tryz.func10 H
def t109:List (Nat×List Nat):=[(106,[3,4]),(490,[18])]
def ie(Q:fo)(a x4:V)(h:Hp):Prop:=JV CS Tryz.f109 t109 53 [3,4] [] Q [a,x4] h
def iO(Q:fo)(a:V)(h:Hp):Prop:=JV CS Tryz.f109 t109 245 [18] [] Q [a] h
def Bd(Q:fo)(a x4:V)(h:Hp):Prop:=bP x4 (Q (V.I 2) h) (oP (eh .eql 3 a (V.I 8)) λb=>bP b (iO Q b h) (oP (eh .eql 3 a (V.I 9)) λc=>bP c (iO Q c h) (oP (eh .eql 3 a (V.I 15)) λd=>bP d (iO Q d h) (oP (eh .eql 3 a (V.I 16)) λe=>bP e (iO Q e h) (oP (eh .eql 3 a (V.I 17)) λf=>bP f (iO Q f h) (oP (eh .eql 3 a (V.I 22)) λg=>iO Q g h))))))
theorem P1{Q a x4 h}(H:Bd Q a x4 h):ie Q a x4 h:=JV.wn 2 (Bd Q) H
def AT(Q:fo)(a:V)(h:Hp):Prop:=bP a (Q nO h) (Q nZ h)
theorem P9{Q a h}(H:AT Q a h):iO Q a h:=JV.wn 1 (AT Q) H
theorem Vm(H:oP (eh .eql 3 a (V.I 3)) λk=>bP k (ie Q a k h) (oP (eh .eql 3 a (V.I 4)) λl=>bP l (ie Q a l h) (oP (eh .eql 3 a (V.I 5)) λm=>bP m (ie Q a m h) (oP (eh .eql 3 a (V.I 6)) λn=>bP n (ie Q a n h) (oP (eh .eql 3 a (V.I 7)) λo=>bP o (ie Q a o h) (oP (eh .eql 3 a (V.I 10)) λb=>bP b (ie Q a b h) (oP (eh .eql 3 a (V.I 11)) λc=>bP c (ie Q a c h) (oP (eh .eql 3 a (V.I 12)) λd=>bP d (ie Q a d h) (oP (eh .eql 3 a (V.I 13)) λe=>bP e (ie Q a e h) (oP (eh .eql 3 a (V.I 14)) λf=>bP f (ie Q a f h) (oP (eh .eql 3 a (V.I 18)) λg=>bP g (ie Q a g h) (oP (eh .eql 3 a (V.I 19)) λi=>bP i (ie Q a i h) (oP (eh .eql 3 a (V.I 20)) λj=>ie Q a j h))))))))))))):cP CS HH [a] h Q:=cP.ve t109 Tryz.func109 H
def L7(Q:fo)(a:V)(h:Hp):Prop:=oP (eh .eql 3 a (V.I 22)) λb=>oP (nr b (oB (some a) λc=>eh .eql 3 c (V.I 23))) λd=>Q d h
theorem S7{a h Q}(H:L7 Q a h):cP CS Ac [a] h Q:=cP.ve [] Tryz.func88 H
def Nz(Q:fo)(b c:V)(h:Hp):Prop:=oP (eh .geq 3 b nZ) λd=>oP (jm d (oB (some b) λe=>oB (some c) λf=>eh .lss 3 e f)) λa=>Q a h
theorem Ud{a b h Q}(H:Nz Q a b h):cP CS mM [a,b] h Q:=cP.ve [] Tryz.func80 H
def t87:List (Nat×List Nat):=[(30,[3])]
def uE(Q:fo)(a:V)(h:Hp):Prop:=JV CS Tryz.f87 t87 15 [3] [] Q [a] h
def Cd(Q:fo)(a:V)(h:Hp):Prop:=Q a h
theorem QC{Q a h}(H:Cd Q a h):uE Q a h:=JV.wn 1 (Cd Q) H
theorem W8{I:V}(H:hV (mO 81 I) h λc k=>vV (iW 3 1 0 nZ []) k λf J i=>oP (fV 1 c) λl=>oP (eD l i) λm=>oP (fV 2 c) λn=>oP (eD n i) λo=>vV (iW 3 1 2 nZ [(0,m),(1,o)]) i λg K d=>oP (fV 0 c) λp=>oP (eD p d) λq=>((d.get (i.next)=some g/\O.beq g g=true)/\((eD n d=some o)/\((eD l d=some m)/\((d.get (k.next)=some f/\O.beq f f=true)/\cP CS HH [q] d λr b=>(d.next<=b.next/\oP (jE 1 K none (some r) b) λs=>((b.get (i.next)=some g/\O.beq g g=true)/\((eD n b=some o)/\((eD l b=some m)/\((b.get (k.next)=some f/\O.beq f f=true)/\eJ (fg 3 1 8 J s b) λe a=>(b.next<=a.next/\oP (fV 0 c) λt=>oP (eD t a) λj=>oP (eh .eql 3 j (V.I 20)) λu=>bP u (oP (fV 4 c) λv=>oP (eD v a) λw=>oP (fV 4 c) λx=>oP (eD x a) λy=>oP (fM y) λz=>oP (Sk false nO [z]) λA=>oP (jE 1 w none (some A) a) λB=>eJ (fg 3 1 8 e B a) λC L=>uE Q C L) (oP (eh .eql 3 j (V.I 21)) λD=>bP D (oP (fV 4 c) λE=>oP (eD E a) λF=>eJ (fg 3 1 8 e F a) λG M=>uE Q G M) (uE Q e a))))))))))))):cP CS A9 [I] h Q:=cP.ve t87 Tryz.func87 H
def t92:List (Nat×List Nat):=[(87,[0,1,12,13])]
def tQ(Q:fo)(b c a gI:V)(h:Hp):Prop:=JV CS Tryz.f92 t92 43 [0,1,12,13] [] Q [b,c,a,gI] h
def nI(Q:fo)(fE:Ro)(e f a gI:V)(h:Hp):Prop:=bO .lss 3 gI a (dX 1 e gI h λb=>dX 1 f gI h λc=>bO .neq 3 b c (Q bF h) (oP (eh .add 3 gI nO) λd=>fE e f a d h)) (Q bT h)
theorem Bz{Q}(I)(s:P4 I (nI Q)){k b c a gI h}(i:I k b c a gI h):tQ Q b c a gI h:=WA.ln 4 [b,c,a,gI] I (nI Q) s i
theorem Fu(H:oP (fM a) λd=>oP (fM b) λe=>bO .neq 3 d e (Q bF h) (oP (fM a) λc=>tQ Q a b c nZ h)):cP CS qw [a,b] h Q:=cP.ve t92 Tryz.func92 H
theorem tq(H:cP CS mY [a,b] h λc d=>oP (eh .geq 3 c nZ) λe=>Q e d):cP CS jH [a,b] h Q:=cP.ve [] Tryz.func89 H
def t110:List (Nat×List Nat):=[(43,[0,1,7,8])]
def me(Q:fo)(a b c d:V)(h:Hp):Prop:=JV CS Tryz.f110 t110 21 [0,1,7,8] [] Q [a,b,c,d] h
def jI(Q:fo)(fE:Ro)(f g i a:V)(h:Hp):Prop:=bO .lss 3 a i (oP (gQ 6 f a) λb=>oP (gi 6 b h) λc=>gO CS (gg g [c]) h λd j=>bP d (Q a j) (oP (eh .add 3 a nO) λe=>fE f g i e j)) (Q (V.I (-1)) h)
theorem tu{Q}(I)(s:P4 I (jI Q)){k a b c d h}(i:I k a b c d h):me Q a b c d h:=WA.ln 4 [a,b,c,d] I (jI Q) s i
theorem uV(H:oP (fM a) λc=>me Q a b c nZ h):cP CS mY [a,b] h Q:=cP.ve t110 Tryz.func110 H
theorem Jt{e f:V}(H:hV (mO 81 e) h λg a=>dF 0 g a λi=>oP (eh .eql 3 i nO) λj=>oP (jm j (oB (fV 3 g) λk=>oB (eD k a) λl=>oB (fV 3 f) λb=>oB (eD b a) λc=>eh .eql 2 l c)) λd=>Q d a):cP CS my [e,f] h Q:=cP.ve [] Tryz.func90 H
def t81:List (Nat×List Nat):=[(11,[0,2,3])]
def rA(Q:fo)(a b c:V)(h:Hp):Prop:=JV CS Tryz.f81 t81 5 [0,2,3] [] Q [a,b,c] h
def mE(Q:fo)(fE:QP3)(a b c:V)(h:Hp):Prop:=bO .lss 3 b c (dX 1 a c h λd=>dX 1 a b h λe=>oP (gQ 1 a b) λf=>eJ (gw 1 f d h) λn g=>(h.next<=g.next/\oP (gQ 1 a c) λi=>eJ (gw 1 i e g) λl m=>(g.next<=m.next/\oP (eh .add 3 b nO) λj=>oP (eh .sub 3 c nO) λk=>fE a j k m))) (Q (V.tuple []) h)
theorem Ai{Q}(I)(s:P3 I (mE Q)){k a b c h}(i:I k a b c h):rA Q a b c h:=WA.ln 3 [a,b,c] I (mE Q) s i
theorem CG(H:oP (fM a) λb=>oP (eh .sub 3 b nO) λc=>rA Q a nZ c h):cP CS oK [a] h Q:=cP.ve t81 Tryz.func81 H
end
