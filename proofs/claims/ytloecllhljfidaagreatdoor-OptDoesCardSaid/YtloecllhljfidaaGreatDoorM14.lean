/- Parts. -/
import Derived.Test.YtloecllhljfidaaGreatDoorM10
set_option maxHeartbeats 4000000
namespace Go.Proofs.YtloecllhljfidaaGreatDoor.Hx
variable{Q:fq}{h:Hp}{a0 a1:V}
abbrev vz:Nat:=3
abbrev rY:Nat:=4
abbrev rD:Nat:=5
abbrev Aj:Nat:=6
abbrev iD:Nat:=7
abbrev Ax:Nat:=8
abbrev pU:Nat:=9
abbrev mD:Nat:=10
abbrev jm:Nat:=11
abbrev mf:Nat:=12
abbrev mB:Nat:=13
abbrev fK:Nat:=14
abbrev fD:Nat:=15
abbrev gz:Nat:=16
abbrev j8:Nat:=17
abbrev mA:Nat:=18
abbrev pZ:Nat:=19
abbrev zg:Nat:=20
abbrev qh:Nat:=21
abbrev yW:Nat:=22
abbrev qb:Nat:=24
abbrev pS:Nat:=25
abbrev qC:Nat:=26
abbrev lE:Nat:=27
abbrev qJ:Nat:=28
abbrev kT:Nat:=29
abbrev iC:Nat:=30
abbrev jM:Nat:=31
abbrev iR:Nat:=32
abbrev jU:Nat:=33
abbrev jh:Nat:=34
abbrev kL:Nat:=35
abbrev pD:Nat:=36
abbrev mR:Nat:=37
abbrev oI:Nat:=38
abbrev zo:Nat:=39
abbrev uI:Nat:=40
abbrev rP:Nat:=41
abbrev yH:Nat:=42
abbrev sQ:Nat:=43
abbrev pT:Nat:=44
abbrev oZ:Nat:=45
abbrev jl:Nat:=46
abbrev rF:Nat:=47
abbrev lW:Nat:=54
abbrev gM:Nat:=55
abbrev j6:Nat:=56
abbrev nf:Nat:=57
abbrev lK:Nat:=58
abbrev iT:Nat:=59
abbrev jF:Nat:=60
abbrev jq:Nat:=61
abbrev mw:Nat:=62
abbrev jr:Nat:=63
abbrev km:Nat:=64
abbrev pe:Nat:=65
abbrev uH:Nat:=66
abbrev kh:Nat:=67
abbrev p7:Nat:=68
abbrev qT:Nat:=69
abbrev zO:Nat:=70
abbrev pg:Nat:=71
abbrev EL:Nat:=72
abbrev rW:Nat:=73
abbrev mW:Nat:=74
abbrev rV:Nat:=75
abbrev Cf:Nat:=76
abbrev jO:Nat:=77
abbrev me:Nat:=78
abbrev zl:Nat:=79
abbrev qe:Nat:=80
abbrev sW:Nat:=82
abbrev iG:Nat:=85
abbrev ju:Nat:=86
abbrev lR:Nat:=87
abbrev EP:Nat:=88
abbrev iF:Nat:=89
abbrev kH:Nat:=90
abbrev jP:Nat:=91
abbrev jW:Nat:=92
abbrev jT:Nat:=93
abbrev kZ:Nat:=94
abbrev jS:Nat:=95
abbrev kY:Nat:=96
abbrev ni:Nat:=97
abbrev iL:Nat:=98
abbrev jN:Nat:=99
abbrev fV:Nat:=100
abbrev oR:Nat:=101
abbrev JG:Nat:=102
abbrev qv:Nat:=103
abbrev mS:Nat:=105
abbrev pB:Nat:=106
abbrev kI:Nat:=107
abbrev E8:Nat:=108
abbrev xQ:Nat:=109
abbrev Jv:Nat:=111
abbrev Ct:Nat:=115
abbrev rG:Nat:=116
set_option maxRecDepth 100000
noncomputable section
theorem cP.ve{f:Nat}{fn:Func}(tb:List (Nat×List Nat)){args:List V}{h:Hp}{Q:fq}{P:Prop}(b:Tryz.prog.funcs[f]? =some fn)(H:P)(hk:CS.K f args h=none:=by rfl)(hb:fn.body=some (JP fn):=by kernel_rfl)(a:Nat.ble args.length fn.ntmps=true:=by kernel_rfl)(e:VA CS fn.ntmps tb (Wy fn [] Q) (Lt args) h=P:=by kernel_rfl):cP CS f args h Q:=cP.vd tb rfl (by unfold P0;exact b) hk H hb a e
def wN:Option (List Field):=(K9 133).getD none
def t7:List (Nat×List Nat):=[(30,[0])]
def py(Q:fq)(a:V)(h:Hp):Prop:=JV CS Tryz.f7 t7 15 [0] [] Q [a] h
def lZ(Q:fq)(a:V)(h:Hp):Prop:=Q a h
theorem xu{Q a h}(H:lZ Q a h):py Q a h:=JV.wn 1 (lZ Q) H
theorem GB(H:oP (ez .rem 3 a0 a1) λa=>oP (ez .lss 3 a nZ) λc=>bP c (oP (ez .add 3 a a1) λb=>py Q b h) (py Q a h)):cP CS iD [a0,a1] h Q:=cP.ve t7 Tryz.func7 H
def t79:List (Nat×List Nat):=[(106,[3,4]),(490,[18])]
def iq(Q:fq)(a b:V)(h:Hp):Prop:=JV CS Tryz.f79 t79 53 [3,4] [] Q [a,b] h
def iI(Q:fq)(a:V)(h:Hp):Prop:=JV CS Tryz.f79 t79 245 [18] [] Q [a] h
def A5(Q:fq)(a i:V)(h:Hp):Prop:=bP i (Q (V.I 2) h) (oP (ez .eql 3 a (V.I 8)) λb=>bP b (iI Q b h) (oP (ez .eql 3 a (V.I 9)) λc=>bP c (iI Q c h) (oP (ez .eql 3 a (V.I 15)) λd=>bP d (iI Q d h) (oP (ez .eql 3 a (V.I 16)) λe=>bP e (iI Q e h) (oP (ez .eql 3 a (V.I 17)) λf=>bP f (iI Q f h) (oP (ez .eql 3 a (V.I 22)) λg=>iI Q g h))))))
theorem N7{Q a b h}(H:A5 Q a b h):iq Q a b h:=JV.wn 2 (A5 Q) H
def Ba(Q:fq)(a:V)(h:Hp):Prop:=bP a (Q nO h) (Q nZ h)
theorem Oi{Q a h}(H:Ba Q a h):iI Q a h:=JV.wn 1 (Ba Q) H
theorem T0(H:oP (ez .eql 3 a0 (V.I 3)) λj=>bP j (iq Q a0 j h) (oP (ez .eql 3 a0 (V.I 4)) λk=>bP k (iq Q a0 k h) (oP (ez .eql 3 a0 (V.I 5)) λl=>bP l (iq Q a0 l h) (oP (ez .eql 3 a0 (V.I 6)) λm=>bP m (iq Q a0 m h) (oP (ez .eql 3 a0 (V.I 7)) λn=>bP n (iq Q a0 n h) (oP (ez .eql 3 a0 (V.I 10)) λa=>bP a (iq Q a0 a h) (oP (ez .eql 3 a0 (V.I 11)) λb=>bP b (iq Q a0 b h) (oP (ez .eql 3 a0 (V.I 12)) λc=>bP c (iq Q a0 c h) (oP (ez .eql 3 a0 (V.I 13)) λd=>bP d (iq Q a0 d h) (oP (ez .eql 3 a0 (V.I 14)) λe=>bP e (iq Q a0 e h) (oP (ez .eql 3 a0 (V.I 18)) λf=>bP f (iq Q a0 f h) (oP (ez .eql 3 a0 (V.I 19)) λg=>bP g (iq Q a0 g h) (oP (ez .eql 3 a0 (V.I 20)) λi=>iq Q a0 i h))))))))))))):cP CS zl [a0] h Q:=cP.ve t79 Tryz.func79 H
def KT(Q:fq)(a0:V)(h:Hp):Prop:=oP (ez .eql 3 a0 (V.I 22)) λa=>oP (nY a (oB (some a0) λb=>ez .eql 3 b (V.I 23))) λc=>Q c h
theorem QQ{a0 h Q}(H:KT Q a0 h):cP CS sW [a0] h Q:=cP.ve [] Tryz.func82 H
def MN(Q:fq)(a0 a1:V)(h:Hp):Prop:=oP (ez .geq 3 a0 nZ) λb=>oP (jI b (oB (some a0) λc=>oB (some a1) λd=>ez .lss 3 c d)) λa=>Q a h
theorem Ss{a0 a1 h Q}(H:MN Q a0 a1 h):cP CS lR [a0,a1] h Q:=cP.ve [] Tryz.func87 H
def t47:List (Nat×List Nat):=[(30,[3])]
def vy(Q:fq)(a:V)(h:Hp):Prop:=JV CS Tryz.f47 t47 15 [3] [] Q [a] h
def Cp(Q:fq)(a:V)(h:Hp):Prop:=Q a h
theorem Pq{Q a h}(H:Cp Q a h):vy Q a h:=JV.wn 1 (Cp Q) H
theorem VE(H:gS (mi 45 a0) h λc k=>xB (iS 3 1 0 nZ []) k λf I i=>oP (fI 1 c) λl=>oP (fe l i) λm=>oP (fI 2 c) λn=>oP (fe n i) λo=>xB (iS 3 1 2 nZ [(0,m),(1,o)]) i λg J d=>oP (fI 0 c) λp=>oP (fe p d) λq=>((d.get (i.next)=some g/\O.beq g g=true)/\((fe n d=some o)/\((fe l d=some m)/\((d.get (k.next)=some f/\O.beq f f=true)/\cP CS zl [q] d λr b=>(d.next<=b.next/\oP (iY 1 J none (some r) b) λs=>((b.get (i.next)=some g/\O.beq g g=true)/\((fe n b=some o)/\((fe l b=some m)/\((b.get (k.next)=some f/\O.beq f f=true)/\fj (fi 3 1 8 I s b) λe a=>(b.next<=a.next/\oP (fI 0 c) λt=>oP (fe t a) λj=>oP (ez .eql 3 j (V.I 20)) λu=>bP u (oP (fI 4 c) λv=>oP (fe v a) λw=>oP (fI 4 c) λx=>oP (fe x a) λy=>oP (fE y) λz=>oP (TS false nO [z]) λA=>oP (iY 1 w none (some A) a) λB=>fj (fi 3 1 8 e B a) λC K=>vy Q C K) (oP (ez .eql 3 j (V.I 21)) λD=>bP D (oP (fI 4 c) λE=>oP (fe E a) λF=>fj (fi 3 1 8 e F a) λG L=>vy Q G L) (vy Q e a))))))))))))):cP CS rF [a0] h Q:=cP.ve t47 Tryz.func47 H
def t29:List (Nat×List Nat):=[(106,[1,4,5]),(490,[1,4,23])]
def gh(Q:fq)(a b c:V)(h:Hp):Prop:=JV CS Tryz.f29 t29 53 [1,4,5] [] Q [a,b,c] h
def ik(Q:fq)(b c a:V)(h:Hp):Prop:=JV CS Tryz.f29 t29 245 [1,4,23] [] Q [b,c,a] h
def om(Q:fq)(b a o:V)(h:Hp):Prop:=bP o (oP (fI 1 b) λi=>oP (fe i h) λj=>oP (fI 2 b) λk=>oP (fe k h) λl=>gS (iS 3 1 2 nZ [(0,j),(1,l)]) h λm p=>Q m p) (oP (ez .eql 3 a (V.I 8)) λc=>bP c (ik Q b a c h) (oP (ez .eql 3 a (V.I 9)) λd=>bP d (ik Q b a d h) (oP (ez .eql 3 a (V.I 15)) λe=>bP e (ik Q b a e h) (oP (ez .eql 3 a (V.I 16)) λf=>bP f (ik Q b a f h) (oP (ez .eql 3 a (V.I 17)) λg=>bP g (ik Q b a g h) (oP (ez .eql 3 a (V.I 22)) λn=>ik Q b a n h))))))
theorem CY{Q a b c h}(H:om Q a b c h):gh Q a b c h:=JV.wn 3 (om Q) H
def oK(Q:fq)(a E l:V)(h:Hp):Prop:=bP l (oP (fI 1 a) λm=>oP (fe m h) λn=>gS (iS 3 1 1 nZ [(0,n)]) h λo F=>Q o F) (oP (ez .eql 3 E (V.I 20)) λp=>bP p (oP (fI 4 a) λq=>oP (fe q h) λr=>oP (fE r) λs=>oP (ez .eql 3 s nZ) λt=>bP t (oP (fI 1 a) λu=>oP (fe u h) λv=>oP (fI 2 a) λw=>oP (fe w h) λx=>gS (iS 3 1 2 nZ [(0,v),(1,x)]) h λy G=>Q y G) (oP (fI 1 a) λc=>oP (fe c h) λd=>oP (fI 2 a) λe=>oP (fe e h) λf=>oP (fI 4 a) λg=>oP (fe g h) λi=>oP (gB 1 i nZ) λj=>oP (fe j h) λk=>xB (iS 3 1 3 nZ [(0,d),(1,f),(2,k)]) h λz A b=>((b.get (h.next)=some z/\O.beq z z=true)/\((fe j b=some k)/\((fe g b=some i)/\((fe e b=some f)/\((fe c b=some d)/\Q A b))))))) (oP (ez .eql 3 E (V.I 21)) λB=>bP B (oP (fI 4 a) λC=>oP (fe C h) λD=>Q D h) (Q nS h)))
theorem CP{Q b c a h}(H:oK Q b c a h):ik Q b c a h:=JV.wn 3 (oK Q) H
theorem Gl(H:gS (mi 45 a0) h λb c=>oP (fI 0 b) λq=>oP (fe q c) λa=>oP (ez .eql 3 a (V.I 3)) λm=>bP m (gh Q b a m c) (oP (ez .eql 3 a (V.I 4)) λn=>bP n (gh Q b a n c) (oP (ez .eql 3 a (V.I 5)) λo=>bP o (gh Q b a o c) (oP (ez .eql 3 a (V.I 6)) λp=>bP p (gh Q b a p c) (oP (ez .eql 3 a (V.I 7)) λd=>bP d (gh Q b a d c) (oP (ez .eql 3 a (V.I 10)) λe=>bP e (gh Q b a e c) (oP (ez .eql 3 a (V.I 11)) λf=>bP f (gh Q b a f c) (oP (ez .eql 3 a (V.I 12)) λg=>bP g (gh Q b a g c) (oP (ez .eql 3 a (V.I 13)) λi=>bP i (gh Q b a i c) (oP (ez .eql 3 a (V.I 14)) λj=>bP j (gh Q b a j c) (oP (ez .eql 3 a (V.I 18)) λk=>bP k (gh Q b a k c) (oP (ez .eql 3 a (V.I 19)) λl=>gh Q b a l c)))))))))))):cP CS kT [a0] h Q:=cP.ve t29 Tryz.func29 H
def t80:List (Nat×List Nat):=[(87,[0,1,12,13])]
def te(Q:fq)(c d a b:V)(h:Hp):Prop:=JV CS Tryz.f80 t80 43 [0,1,12,13] [] Q [c,d,a,b] h
def ng(Q:fq)(fy:UF)(f g b a:V)(h:Hp):Prop:=bO .lss 3 a b (dX 1 f a h λc=>dX 1 g a h λd=>bO .neq 3 c d (Q bF h) (oP (ez .add 3 a nO) λe=>fy f g b e h)) (Q bT h)
theorem Bn{Q}(I)(s:P4 I (ng Q)){k c d a b h}(i:I k c d a b h):te Q c d a b h:=WA.ln 4 [c,d,a,b] I (ng Q) s i
theorem Fk(H:oP (fE a0) λb=>oP (fE a1) λc=>bO .neq 3 b c (Q bF h) (oP (fE a0) λa=>te Q a0 a1 a nZ h)):cP CS qe [a0,a1] h Q:=cP.ve t80 Tryz.func80 H
theorem sS(H:cP CS mS [a0,a1] h λa b=>oP (ez .geq 3 a nZ) λc=>Q c b):cP CS iF [a0,a1] h Q:=cP.ve [] Tryz.func89 H
def t105:List (Nat×List Nat):=[(43,[0,1,7,8])]
def ma(Q:fq)(a b c d:V)(h:Hp):Prop:=JV CS Tryz.f105 t105 21 [0,1,7,8] [] Q [a,b,c,d] h
def js(Q:fq)(fy:UF)(f g i a:V)(h:Hp):Prop:=bO .lss 3 a i (oP (gB 6 f a) λb=>oP (fO 6 b h) λc=>gY CS (gi g [c]) h λd j=>bP d (Q a j) (oP (ez .add 3 a nO) λe=>fy f g i e j)) (Q (V.I (-1)) h)
theorem sV{Q}(I)(s:P4 I (js Q)){k a b c d h}(i:I k a b c d h):ma Q a b c d h:=WA.ln 4 [a,b,c,d] I (js Q) s i
theorem vP(H:oP (fE a0) λa=>ma Q a0 a1 a nZ h):cP CS mS [a0,a1] h Q:=cP.ve t105 Tryz.func105 H
theorem IK(H:gS (mi 45 a0) h λe a=>dF 0 e a λf=>oP (ez .eql 3 f nO) λg=>oP (jI g (oB (fI 3 e) λi=>oB (fe i a) λj=>oB (fI 3 a1) λb=>oB (fe b a) λc=>ez .eql 2 j c)) λd=>Q d a):cP CS kH [a0,a1] h Q:=cP.ve [] Tryz.func90 H
def t101:List (Nat×List Nat):=[(11,[0,2,3])]
def qS(Q:fq)(a b c:V)(h:Hp):Prop:=JV CS Tryz.f101 t101 5 [0,2,3] [] Q [a,b,c] h
def mC(Q:fq)(fy:QP3)(a b c:V)(h:Hp):Prop:=bO .lss 3 b c (dX 1 a c h λd=>dX 1 a b h λe=>oP (gB 1 a b) λf=>fj (gq 1 f d h) λn g=>(h.next<=g.next/\oP (gB 1 a c) λi=>fj (gq 1 i e g) λl m=>(g.next<=m.next/\oP (ez .add 3 b nO) λj=>oP (ez .sub 3 c nO) λk=>fy a j k m))) (Q (V.tuple []) h)
theorem z8{Q}(I)(s:P3 I (mC Q)){k a b c h}(i:I k a b c h):qS Q a b c h:=WA.ln 3 [a,b,c] I (mC Q) s i
theorem CT(H:oP (fE a0) λa=>oP (ez .sub 3 a nO) λb=>qS Q a0 nZ b h):cP CS oR [a0] h Q:=cP.ve t101 Tryz.func101 H
end
