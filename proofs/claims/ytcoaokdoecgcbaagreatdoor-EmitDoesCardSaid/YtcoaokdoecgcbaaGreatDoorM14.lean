/- Parts. -/
import Derived.Test.YtcoaokdoecgcbaaGreatDoorM10
set_option maxHeartbeats 4000000
namespace Go.Proofs.YtcoaokdoecgcbaaGreatDoor.Hx
variable{Q:fj}{h:Hp}{a b:V}
abbrev dZ:List (Nat×Nat):=[(0,1),(1,1)]
abbrev fd:List (Nat×Nat):=[(0,1),(1,1),(2,1),(3,1)]
abbrev gc:List (Nat×Nat):=[(0,1),(1,1),(2,1),(3,1),(4,1)]
abbrev ge:List (Nat×Nat):=[(0,1),(1,1),(2,1),(3,1),(4,1),(5,1)]
abbrev tZ:Nat:=4
abbrev nY:Nat:=6
abbrev ju:Nat:=7
abbrev Cq:Nat:=8
abbrev ql:Nat:=9
abbrev iR:Nat:=10
abbrev FX:Nat:=11
abbrev jY:Nat:=12
abbrev qY:Nat:=13
abbrev pM:Nat:=14
abbrev mD:Nat:=15
abbrev mg:Nat:=16
abbrev sW:Nat:=17
abbrev qt:Nat:=18
abbrev nu:Nat:=19
abbrev gF:Nat:=20
abbrev fU:Nat:=21
abbrev iX:Nat:=22
abbrev ku:Nat:=23
abbrev mB:Nat:=24
abbrev yD:Nat:=25
abbrev zz:Nat:=26
abbrev Dk:Nat:=27
abbrev sU:Nat:=28
abbrev sd:Nat:=29
abbrev yq:Nat:=30
abbrev pD:Nat:=32
abbrev oI:Nat:=33
abbrev yB:Nat:=34
abbrev BC:Nat:=35
abbrev nQ:Nat:=36
abbrev kU:Nat:=37
abbrev qP:Nat:=38
abbrev nB:Nat:=39
abbrev na:Nat:=40
abbrev ou:Nat:=41
abbrev mR:Nat:=42
abbrev kT:Nat:=43
abbrev jW:Nat:=44
abbrev gZ:Nat:=45
abbrev iE:Nat:=46
abbrev jE:Nat:=47
abbrev jF:Nat:=48
abbrev kY:Nat:=49
abbrev pk:Nat:=50
abbrev AJ:Nat:=51
abbrev sL:Nat:=52
abbrev nV:Nat:=53
abbrev iW:Nat:=54
abbrev CO:Nat:=55
abbrev kF:Nat:=56
abbrev pb:Nat:=57
abbrev uq:Nat:=58
abbrev rj:Nat:=59
abbrev qa:Nat:=60
abbrev rJ:Nat:=61
abbrev zY:Nat:=62
abbrev yk:Nat:=63
abbrev pj:Nat:=64
abbrev oZ:Nat:=65
abbrev rV:Nat:=66
abbrev my:Nat:=67
abbrev gX:Nat:=68
abbrev gq:Nat:=69
abbrev mm:Nat:=70
abbrev jR:Nat:=71
abbrev vw:Nat:=72
abbrev nq:Nat:=73
abbrev nh:Nat:=74
abbrev FT:Nat:=75
abbrev mA:Nat:=76
abbrev iH:Nat:=77
abbrev qk:Nat:=78
abbrev uo:Nat:=79
abbrev mH:Nat:=80
abbrev oy:Nat:=81
abbrev pe:Nat:=82
abbrev jT:Nat:=83
abbrev nU:Nat:=84
abbrev kJ:Nat:=85
abbrev K7:Nat:=86
abbrev BR:Nat:=87
abbrev AQ:Nat:=88
abbrev jG:Nat:=89
abbrev mj:Nat:=90
abbrev Cu:Nat:=91
abbrev qi:Nat:=92
abbrev j7:Nat:=93
abbrev j6:Nat:=94
abbrev ka:Nat:=95
abbrev Ic:Nat:=96
abbrev uy:Nat:=97
abbrev Bp:Nat:=98
abbrev mY:Nat:=99
abbrev JH:Nat:=100
abbrev nj:Nat:=101
abbrev zO:Nat:=102
abbrev OV:Nat:=103
abbrev xG:Nat:=104
abbrev wY:Nat:=105
abbrev pd:Nat:=106
abbrev ux:Nat:=107
abbrev qM:Nat:=108
abbrev Iv:Nat:=109
abbrev nf:Nat:=110
abbrev po:Nat:=111
abbrev rM:Nat:=112
abbrev th:Nat:=113
abbrev yr:Nat:=114
abbrev By:Nat:=115
abbrev DZ:Nat:=149
abbrev Cp:Nat:=150
abbrev Cr:Nat:=151
abbrev EN:Nat:=152
abbrev og:Nat:=153
abbrev Bd:Nat:=154
abbrev Ae:Nat:=155
abbrev As:Nat:=156
abbrev A1:Nat:=157
abbrev mw:Nat:=158
set_option maxRecDepth 100000
noncomputable section
theorem cP.ve{f:Nat}{fn:Func}(tb:List (Nat×List Nat)){args:List V}{h:Hp}{Q:fj}{P:Prop}(b:Tryz.prog.funcs[f]? =some fn)(H:P)(c:CS.K f args h=none:=by rfl)(d:fn.body=some (NC fn):=by kernel_rfl)(a:Nat.ble args.length fn.ntmps=true:=by kernel_rfl)(e:VA CS fn.ntmps tb (ZL fn [] Q) (ON args) h=P:=by kernel_rfl):cP CS f args h Q:=cP.vd tb rfl (by unfold P0;exact b) c H d a e
def t10:List (Nat×List Nat):=[(30,[0])]
def pz(Q:fj)(a:V)(h:Hp):Prop:=JV CS Tryz.f10 t10 15 [0] [] Q [a] h
def lX(Q:fj)(a:V)(h:Hp):Prop:=Q a h
theorem wu{Q a h}(H:lX Q a h):pz Q a h:=JV.wn 1 (lX Q) H
theorem Io{d:V}(H:oP (ef .rem 3 d a) λb=>oP (ef .lss 3 b nZ) λe=>bP e (oP (ef .add 3 b a) λc=>pz Q c h) (pz Q b h)):cP CS iR [d,a] h Q:=cP.ve t10 Tryz.func10 H
def t109:List (Nat×List Nat):=[(106,[3,4]),(490,[18])]
def ie(Q:fj)(a x4:V)(h:Hp):Prop:=JV CS Tryz.f109 t109 53 [3,4] [] Q [a,x4] h
def iK(Q:fj)(a:V)(h:Hp):Prop:=JV CS Tryz.f109 t109 245 [18] [] Q [a] h
def BL(Q:fj)(a x4:V)(h:Hp):Prop:=bP x4 (Q (V.I 2) h) (oP (ef .eql 3 a (V.I 8)) λb=>bP b (iK Q b h) (oP (ef .eql 3 a (V.I 9)) λc=>bP c (iK Q c h) (oP (ef .eql 3 a (V.I 15)) λd=>bP d (iK Q d h) (oP (ef .eql 3 a (V.I 16)) λe=>bP e (iK Q e h) (oP (ef .eql 3 a (V.I 17)) λf=>bP f (iK Q f h) (oP (ef .eql 3 a (V.I 22)) λg=>iK Q g h))))))
theorem Rb{Q a x4 h}(H:BL Q a x4 h):ie Q a x4 h:=JV.wn 2 (BL Q) H
def Bz(Q:fj)(a:V)(h:Hp):Prop:=bP a (Q nO h) (Q nZ h)
theorem QE{Q a h}(H:Bz Q a h):iK Q a h:=JV.wn 1 (Bz Q) H
theorem Vy(H:oP (ef .eql 3 a (V.I 3)) λk=>bP k (ie Q a k h) (oP (ef .eql 3 a (V.I 4)) λl=>bP l (ie Q a l h) (oP (ef .eql 3 a (V.I 5)) λm=>bP m (ie Q a m h) (oP (ef .eql 3 a (V.I 6)) λn=>bP n (ie Q a n h) (oP (ef .eql 3 a (V.I 7)) λo=>bP o (ie Q a o h) (oP (ef .eql 3 a (V.I 10)) λb=>bP b (ie Q a b h) (oP (ef .eql 3 a (V.I 11)) λc=>bP c (ie Q a c h) (oP (ef .eql 3 a (V.I 12)) λd=>bP d (ie Q a d h) (oP (ef .eql 3 a (V.I 13)) λe=>bP e (ie Q a e h) (oP (ef .eql 3 a (V.I 14)) λf=>bP f (ie Q a f h) (oP (ef .eql 3 a (V.I 18)) λg=>bP g (ie Q a g h) (oP (ef .eql 3 a (V.I 19)) λi=>bP i (ie Q a i h) (oP (ef .eql 3 a (V.I 20)) λj=>ie Q a j h))))))))))))):cP CS Iv [a] h Q:=cP.ve t109 Tryz.func109 H
def L4(Q:fj)(a:V)(h:Hp):Prop:=oP (ef .eql 3 a (V.I 22)) λb=>oP (mi b (oB (some a) λc=>ef .eql 3 c (V.I 23))) λd=>Q d h
theorem Uz{a h Q}(H:L4 Q a h):cP CS AQ [a] h Q:=cP.ve [] Tryz.func88 H
def Oq(Q:fj)(b c:V)(h:Hp):Prop:=oP (ef .geq 3 b nZ) λd=>oP (iM d (oB (some b) λe=>oB (some c) λf=>ef .lss 3 e f)) λa=>Q a h
theorem VG{a b h Q}(H:Oq Q a b h):cP CS mH [a,b] h Q:=cP.ve [] Tryz.func80 H
def t87:List (Nat×List Nat):=[(30,[3])]
def uL(Q:fj)(a:V)(h:Hp):Prop:=JV CS Tryz.f87 t87 15 [3] [] Q [a] h
def CN(Q:fj)(a:V)(h:Hp):Prop:=Q a h
theorem RB{Q a h}(H:CN Q a h):uL Q a h:=JV.wn 1 (CN Q) H
theorem XP{I:V}(H:gU (kZ 81 I) h λc k=>uj (iO 3 1 0 nZ []) k λf J i=>oP (fJ 1 c) λl=>oP (ez l i) λm=>oP (fJ 2 c) λn=>oP (ez n i) λo=>uj (iO 3 1 2 nZ [(0,m),(1,o)]) i λg K d=>oP (fJ 0 c) λp=>oP (ez p d) λq=>((d.get (i.next)=some g/\O.beq g g=true)/\((ez n d=some o)/\((ez l d=some m)/\((d.get (k.next)=some f/\O.beq f f=true)/\cP CS Iv [q] d λr b=>(d.next<=b.next/\oP (jw 1 K none (some r) b) λs=>((b.get (i.next)=some g/\O.beq g g=true)/\((ez n b=some o)/\((ez l b=some m)/\((b.get (k.next)=some f/\O.beq f f=true)/\eJ (fg 3 1 8 J s b) λe a=>(b.next<=a.next/\oP (fJ 0 c) λt=>oP (ez t a) λj=>oP (ef .eql 3 j (V.I 20)) λu=>bP u (oP (fJ 4 c) λv=>oP (ez v a) λw=>oP (fJ 4 c) λx=>oP (ez x a) λy=>oP (fE y) λz=>oP (T4 false nO [z]) λA=>oP (jw 1 w none (some A) a) λB=>eJ (fg 3 1 8 e B a) λC L=>uL Q C L) (oP (ef .eql 3 j (V.I 21)) λD=>bP D (oP (fJ 4 c) λE=>oP (ez E a) λF=>eJ (fg 3 1 8 e F a) λG M=>uL Q G M) (uL Q e a))))))))))))):cP CS BR [I] h Q:=cP.ve t87 Tryz.func87 H
def t92:List (Nat×List Nat):=[(87,[0,1,12,13])]
def tI(Q:fj)(b c a gL:V)(h:Hp):Prop:=JV CS Tryz.f92 t92 43 [0,1,12,13] [] Q [b,c,a,gL] h
def nE(Q:fj)(fu:S3)(e f a gL:V)(h:Hp):Prop:=bO .lss 3 gL a (dX 1 e gL h λb=>dX 1 f gL h λc=>bO .neq 3 b c (Q bF h) (oP (ef .add 3 gL nO) λd=>fu e f a d h)) (Q bT h)
theorem BX{Q}(I)(s:P4 I (nE Q)){k b c a gL h}(i:I k b c a gL h):tI Q b c a gL h:=WA.ln 4 [b,c,a,gL] I (nE Q) s i
theorem Fs(H:oP (fE a) λd=>oP (fE b) λe=>bO .neq 3 d e (Q bF h) (oP (fE a) λc=>tI Q a b c nZ h)):cP CS qi [a,b] h Q:=cP.ve t92 Tryz.func92 H
theorem tz(H:cP CS nf [a,b] h λc d=>oP (ef .geq 3 c nZ) λe=>Q e d):cP CS jG [a,b] h Q:=cP.ve [] Tryz.func89 H
def t110:List (Nat×List Nat):=[(43,[0,1,7,8])]
def mb(Q:fj)(a b c d:V)(h:Hp):Prop:=JV CS Tryz.f110 t110 21 [0,1,7,8] [] Q [a,b,c,d] h
def jH(Q:fj)(fu:S3)(f g i a:V)(h:Hp):Prop:=bO .lss 3 a i (oP (gM 6 f a) λb=>oP (fZ 6 b h) λc=>gP CS (gh g [c]) h λd j=>bP d (Q a j) (oP (ef .add 3 a nO) λe=>fu f g i e j)) (Q (V.I (-1)) h)
theorem tE{Q}(I)(s:P4 I (jH Q)){k a b c d h}(i:I k a b c d h):mb Q a b c d h:=WA.ln 4 [a,b,c,d] I (jH Q) s i
theorem vC(H:oP (fE a) λc=>mb Q a b c nZ h):cP CS nf [a,b] h Q:=cP.ve t110 Tryz.func110 H
theorem JU{e f:V}(H:gU (kZ 81 e) h λg a=>dF 0 g a λi=>oP (ef .eql 3 i nO) λj=>oP (iM j (oB (fJ 3 g) λk=>oB (ez k a) λl=>oB (fJ 3 f) λb=>oB (ez b a) λc=>ef .eql 2 l c)) λd=>Q d a):cP CS mj [e,f] h Q:=cP.ve [] Tryz.func90 H
def t81:List (Nat×List Nat):=[(11,[0,2,3])]
def ry(Q:fj)(a b c:V)(h:Hp):Prop:=JV CS Tryz.f81 t81 5 [0,2,3] [] Q [a,b,c] h
def mE(Q:fj)(fu:QP3)(a b c:V)(h:Hp):Prop:=bO .lss 3 b c (dX 1 a c h λd=>dX 1 a b h λe=>oP (gM 1 a b) λf=>eJ (gj 1 f d h) λn g=>(h.next<=g.next/\oP (gM 1 a c) λi=>eJ (gj 1 i e g) λl m=>(g.next<=m.next/\oP (ef .add 3 b nO) λj=>oP (ef .sub 3 c nO) λk=>fu a j k m))) (Q (V.tuple []) h)
theorem AM{Q}(I)(s:P3 I (mE Q)){k a b c h}(i:I k a b c h):ry Q a b c h:=WA.ln 3 [a,b,c] I (mE Q) s i
theorem DI(H:oP (fE a) λb=>oP (ef .sub 3 b nO) λc=>ry Q a nZ c h):cP CS oy [a] h Q:=cP.ve t81 Tryz.func81 H
end
