/- Parts. -/
import Derived.Test.YtflkbfabonggkaaGreatDoorM10
set_option maxHeartbeats 4000000
namespace Go.Proofs.YtflkbfabonggkaaGreatDoor.Hx
abbrev mM:Nat:=3
abbrev yH:Nat:=4
abbrev nq:Nat:=5
abbrev iI:Nat:=6
abbrev pe:Nat:=7
abbrev mq:Nat:=8
abbrev j4:Nat:=9
abbrev lW:Nat:=10
abbrev mn:Nat:=11
abbrev B3:Nat:=12
abbrev yr:Nat:=13
abbrev oH:Nat:=14
abbrev yp:Nat:=15
abbrev Ay:Nat:=16
abbrev fu:Nat:=17
abbrev fk:Nat:=18
abbrev fW:Nat:=19
abbrev jx:Nat:=20
abbrev kh:Nat:=21
abbrev z8:Nat:=22
abbrev mm:Nat:=23
abbrev mr:Nat:=24
abbrev mS:Nat:=25
abbrev jK:Nat:=26
abbrev mR:Nat:=27
abbrev jJ:Nat:=28
abbrev gX:Nat:=29
abbrev iT:Nat:=30
abbrev iF:Nat:=31
abbrev jq:Nat:=32
abbrev iY:Nat:=33
abbrev jz:Nat:=34
abbrev lT:Nat:=35
abbrev kj:Nat:=36
abbrev lB:Nat:=37
abbrev jG:Nat:=38
abbrev mg:Nat:=39
abbrev oD:Nat:=40
abbrev ke:Nat:=41
abbrev mH:Nat:=42
abbrev nJ:Nat:=43
abbrev tp:Nat:=44
abbrev qW:Nat:=45
abbrev mi:Nat:=46
abbrev z9:Nat:=47
abbrev ny:Nat:=48
abbrev kT:Nat:=49
abbrev Ee:Nat:=50
abbrev jY:Nat:=51
abbrev gJ:Nat:=52
abbrev ju:Nat:=53
abbrev kO:Nat:=54
abbrev jL:Nat:=55
abbrev iG:Nat:=56
abbrev iW:Nat:=57
abbrev iS:Nat:=58
abbrev km:Nat:=59
abbrev iR:Nat:=60
abbrev iX:Nat:=61
abbrev kH:Nat:=62
abbrev EP:Nat:=63
abbrev uy:Nat:=64
abbrev pd:Nat:=65
abbrev gU:Nat:=66
abbrev jC:Nat:=67
abbrev yL:Nat:=68
abbrev mw:Nat:=69
abbrev oV:Nat:=70
abbrev ji:Nat:=71
abbrev jl:Nat:=72
abbrev jb:Nat:=73
abbrev jn:Nat:=74
abbrev jS:Nat:=75
abbrev jo:Nat:=76
abbrev jT:Nat:=77
abbrev kM:Nat:=78
abbrev iD:Nat:=79
abbrev jm:Nat:=80
abbrev fR:Nat:=81
abbrev vz:Nat:=82
abbrev yC:Nat:=83
abbrev pg:Nat:=84
abbrev iB:Nat:=85
abbrev jU:Nat:=87
abbrev lG:Nat:=88
abbrev lU:Nat:=89
abbrev jF:Nat:=90
abbrev pq:Nat:=91
set_option maxRecDepth 100000
noncomputable section
def t6:List (Nat×List Nat):=[(30,[0])]
def oT(C:fm)(Q:ft)(a:V)(h:Hp):Prop:=∀ρ:gD,ρ 0=a->WA C Tryz.f6 t6 15 [] Q ρ h
def oQ(C:fm)(Q:ft)(a:V)(h:Hp):Prop:=Q a h
theorem vI{C:fm}{Q:ft}{a:V}{h:Hp}(H:oQ C Q a h):oT C Q a h:=by
 rintro ρ rfl;exact WA.of (by kernel_rfl) H
def yO(C:fm)(Q:ft)(a0 a1:V)(h:Hp):Prop:=oP (en .rem 3 a0 a1) λa=>oP (en .lss 3 a nZ) λc=>bP c (oP (en .add 3 a a1) λb=>oT C Q b h) (oT C Q a h)
theorem GR{C}(s:C.start=fN){a0 a1 h Q}(k:C.K iI [a0,a1] h=none)(H:yO C Q a0 a1 h):cP C iI [a0,a1] h Q:=cP.vd t6 s (by unfold P0;exact Tryz.func6) k H
def t82:List (Nat×List Nat):=[(106,[3,4]),(490,[18])]
def im(C:fm)(Q:ft)(a b:V)(h:Hp):Prop:=∀ρ:gD,ρ 3=a->ρ 4=b->WA C Tryz.f82 t82 53 [] Q ρ h
def gM(C:fm)(Q:ft)(a:V)(h:Hp):Prop:=∀ρ:gD,ρ 18=a->WA C Tryz.f82 t82 245 [] Q ρ h
def GG(C:fm)(Q:ft)(a i:V)(h:Hp):Prop:=bP i (Q (V.I 2) h) (oP (en .eql 3 a (V.I 8)) λb=>bP b (gM C Q b h) (oP (en .eql 3 a (V.I 9)) λc=>bP c (gM C Q c h) (oP (en .eql 3 a (V.I 15)) λd=>bP d (gM C Q d h) (oP (en .eql 3 a (V.I 16)) λe=>bP e (gM C Q e h) (oP (en .eql 3 a (V.I 17)) λf=>bP f (gM C Q f h) (oP (en .eql 3 a (V.I 22)) λg=>gM C Q g h))))))
theorem MS{C:fm}{Q:ft}{a b:V}{h:Hp}(H:GG C Q a b h):im C Q a b h:=by
 rintro ρ rfl rfl;exact WA.of (by kernel_rfl) H
def Gf(C:fm)(Q:ft)(a:V)(h:Hp):Prop:=bP a (Q nO h) (Q nZ h)
theorem MY{C:fm}{Q:ft}{a:V}{h:Hp}(H:Gf C Q a h):gM C Q a h:=by
 rintro ρ rfl;exact WA.of (by kernel_rfl) H
def LN(C:fm)(Q:ft)(a0:V)(h:Hp):Prop:=oP (en .eql 3 a0 (V.I 3)) λj=>bP j (im C Q a0 j h) (oP (en .eql 3 a0 (V.I 4)) λk=>bP k (im C Q a0 k h) (oP (en .eql 3 a0 (V.I 5)) λl=>bP l (im C Q a0 l h) (oP (en .eql 3 a0 (V.I 6)) λm=>bP m (im C Q a0 m h) (oP (en .eql 3 a0 (V.I 7)) λn=>bP n (im C Q a0 n h) (oP (en .eql 3 a0 (V.I 10)) λa=>bP a (im C Q a0 a h) (oP (en .eql 3 a0 (V.I 11)) λb=>bP b (im C Q a0 b h) (oP (en .eql 3 a0 (V.I 12)) λc=>bP c (im C Q a0 c h) (oP (en .eql 3 a0 (V.I 13)) λd=>bP d (im C Q a0 d h) (oP (en .eql 3 a0 (V.I 14)) λe=>bP e (im C Q a0 e h) (oP (en .eql 3 a0 (V.I 18)) λf=>bP f (im C Q a0 f h) (oP (en .eql 3 a0 (V.I 19)) λg=>bP g (im C Q a0 g h) (oP (en .eql 3 a0 (V.I 20)) λi=>im C Q a0 i h))))))))))))
theorem Rf{C}(s:C.start=fN){a0 h Q}(k:C.K vz [a0] h=none)(H:LN C Q a0 h):cP C vz [a0] h Q:=cP.vd t82 s (by unfold P0;exact Tryz.func82) k H
def t65:List (Nat×List Nat):=[]
def JK(C:fm)(Q:ft)(a0:V)(h:Hp):Prop:=oP (en .eql 3 a0 (V.I 22)) λa=>oP (nP a (oB (some a0) λb=>en .eql 3 b (V.I 23))) λc=>Q c h
theorem PY{C}(s:C.start=fN){a0 h Q}(k:C.K pd [a0] h=none)(H:JK C Q a0 h):cP C pd [a0] h Q:=cP.vd t65 s (by unfold P0;exact Tryz.func65) k H
def t62:List (Nat×List Nat):=[]
def LJ(C:fm)(Q:ft)(a0 a1:V)(h:Hp):Prop:=oP (en .geq 3 a0 nZ) λb=>oP (jO b (oB (some a0) λc=>oB (some a1) λd=>en .lss 3 c d)) λa=>Q a h
theorem SN{C}(s:C.start=fN){a0 a1 h Q}(k:C.K kH [a0,a1] h=none)(H:LJ C Q a0 a1 h):cP C kH [a0,a1] h Q:=cP.vd t62 s (by unfold P0;exact Tryz.func62) k H
def t64:List (Nat×List Nat):=[(30,[3])]
def tK(C:fm)(Q:ft)(a:V)(h:Hp):Prop:=∀ρ:gD,ρ 3=a->WA C Tryz.f64 t64 15 [] Q ρ h
def Ir(C:fm)(Q:ft)(a:V)(h:Hp):Prop:=Q a h
theorem Ov{C:fm}{Q:ft}{a:V}{h:Hp}(H:Ir C Q a h):tK C Q a h:=by
 rintro ρ rfl;exact WA.of (by kernel_rfl) H
def Nf(C:fm)(Q:ft)(a0:V)(h:Hp):Prop:=ig (om 49 a0) h λc k=>yn (jr 3 1 0 nZ []) k λf I i=>oP (fH 1 c) λl=>oP (ez l i) λm=>oP (fH 2 c) λn=>oP (ez n i) λo=>yn (jr 3 1 2 nZ [(0,m),(1,o)]) i λg J d=>oP (fH 0 c) λp=>oP (ez p d) λq=>((d.get (i.next)=some g/\O.beq g g=true)/\((ez n d=some o)/\((ez l d=some m)/\((d.get (k.next)=some f/\O.beq f f=true)/\cP C vz [q] d λr b=>(d.next<=b.next/\oP (jf 1 J none (some r) b) λs=>((b.get (i.next)=some g/\O.beq g g=true)/\((ez n b=some o)/\((ez l b=some m)/\((b.get (k.next)=some f/\O.beq f f=true)/\fi (eR 3 1 8 I s b) λe a=>(b.next<=a.next/\oP (fH 0 c) λt=>oP (ez t a) λj=>oP (en .eql 3 j (V.I 20)) λu=>bP u (oP (fH 4 c) λv=>oP (ez v a) λw=>oP (fH 4 c) λx=>oP (ez x a) λy=>oP (fE y) λz=>oP (Rr false nO [z]) λA=>oP (jf 1 w none (some A) a) λB=>fi (eR 3 1 8 e B a) λD K=>tK C Q D K) (oP (en .eql 3 j (V.I 21)) λE=>bP E (oP (fH 4 c) λF=>oP (ez F a) λG=>fi (eR 3 1 8 e G a) λH L=>tK C Q H L) (tK C Q e a))))))))))))
theorem TM{C}(s:C.start=fN){a0 h Q}(k:C.K uy [a0] h=none)(H:Nf C Q a0 h):cP C uy [a0] h Q:=cP.vd t64 s (by unfold P0;exact Tryz.func64) k H
def t28:List (Nat×List Nat):=[(106,[1,4,5]),(490,[1,4,23])]
def fZ(C:fm)(Q:ft)(a b c:V)(h:Hp):Prop:=∀ρ:gD,ρ 1=a->ρ 4=b->ρ 5=c->WA C Tryz.f28 t28 53 [] Q ρ h
def hY(C:fm)(Q:ft)(b c a:V)(h:Hp):Prop:=∀ρ:gD,ρ 1=b->ρ 4=c->ρ 23=a->WA C Tryz.f28 t28 245 [] Q ρ h
def ud(C:fm)(Q:ft)(b a o:V)(h:Hp):Prop:=bP o (oP (fH 1 b) λi=>oP (ez i h) λj=>oP (fH 2 b) λk=>oP (ez k h) λl=>ig (jr 3 1 2 nZ [(0,j),(1,l)]) h λm p=>Q m p) (oP (en .eql 3 a (V.I 8)) λc=>bP c (hY C Q b a c h) (oP (en .eql 3 a (V.I 9)) λd=>bP d (hY C Q b a d h) (oP (en .eql 3 a (V.I 15)) λe=>bP e (hY C Q b a e h) (oP (en .eql 3 a (V.I 16)) λf=>bP f (hY C Q b a f h) (oP (en .eql 3 a (V.I 17)) λg=>bP g (hY C Q b a g h) (oP (en .eql 3 a (V.I 22)) λn=>hY C Q b a n h))))))
theorem CE{C:fm}{Q:ft}{a b c:V}{h:Hp}(H:ud C Q a b c h):fZ C Q a b c h:=by
 rintro ρ rfl rfl rfl;exact WA.of (by kernel_rfl) H
def tu(C:fm)(Q:ft)(a F l:V)(h:Hp):Prop:=bP l (oP (fH 1 a) λm=>oP (ez m h) λn=>ig (jr 3 1 1 nZ [(0,n)]) h λo G=>Q o G) (oP (en .eql 3 F (V.I 20)) λp=>bP p (oP (fH 4 a) λq=>oP (ez q h) λr=>oP (fE r) λs=>oP (en .eql 3 s nZ) λt=>bP t (oP (fH 1 a) λu=>oP (ez u h) λv=>oP (fH 2 a) λw=>oP (ez w h) λx=>ig (jr 3 1 2 nZ [(0,v),(1,x)]) h λy H=>Q y H) (oP (fH 1 a) λc=>oP (ez c h) λd=>oP (fH 2 a) λe=>oP (ez e h) λf=>oP (fH 4 a) λg=>oP (ez g h) λi=>oP (gz 1 i nZ) λj=>oP (ez j h) λk=>yn (jr 3 1 3 nZ [(0,d),(1,f),(2,k)]) h λz A b=>((b.get (h.next)=some z/\O.beq z z=true)/\((ez j b=some k)/\((ez g b=some i)/\((ez e b=some f)/\((ez c b=some d)/\Q A b))))))) (oP (en .eql 3 F (V.I 21)) λB=>bP B (oP (fH 4 a) λD=>oP (ez D h) λE=>Q E h) (Q nS h)))
theorem Cj{C:fm}{Q:ft}{b c a:V}{h:Hp}(H:tu C Q b c a h):hY C Q b c a h:=by
 rintro ρ rfl rfl rfl;exact WA.of (by kernel_rfl) H
def xS(C:fm)(Q:ft)(a0:V)(h:Hp):Prop:=ig (om 49 a0) h λb c=>oP (fH 0 b) λq=>oP (ez q c) λa=>oP (en .eql 3 a (V.I 3)) λm=>bP m (fZ C Q b a m c) (oP (en .eql 3 a (V.I 4)) λn=>bP n (fZ C Q b a n c) (oP (en .eql 3 a (V.I 5)) λo=>bP o (fZ C Q b a o c) (oP (en .eql 3 a (V.I 6)) λp=>bP p (fZ C Q b a p c) (oP (en .eql 3 a (V.I 7)) λd=>bP d (fZ C Q b a d c) (oP (en .eql 3 a (V.I 10)) λe=>bP e (fZ C Q b a e c) (oP (en .eql 3 a (V.I 11)) λf=>bP f (fZ C Q b a f c) (oP (en .eql 3 a (V.I 12)) λg=>bP g (fZ C Q b a g c) (oP (en .eql 3 a (V.I 13)) λi=>bP i (fZ C Q b a i c) (oP (en .eql 3 a (V.I 14)) λj=>bP j (fZ C Q b a j c) (oP (en .eql 3 a (V.I 18)) λk=>bP k (fZ C Q b a k c) (oP (en .eql 3 a (V.I 19)) λl=>fZ C Q b a l c)))))))))))
theorem FB{C}(s:C.start=fN){a0 h Q}(k:C.K jJ [a0] h=none)(H:xS C Q a0 h):cP C jJ [a0] h Q:=cP.vd t28 s (by unfold P0;exact Tryz.func28) k H
def t69:List (Nat×List Nat):=[(87,[0,1,12,13])]
def sj(C:fm)(Q:ft)(c d a b:V)(h:Hp):Prop:=∀ρ:gD,ρ 0=c->ρ 1=d->ρ 12=a->ρ 13=b->WA C Tryz.f69 t69 43 [] Q ρ h
def rr(C:fm)(Q:ft)(fM:LX)(f g b a:V)(h:Hp):Prop:=bO .lss 3 a b (dX 1 f a h λc=>dX 1 g a h λd=>bO .neq 3 c d (Q bF h) (oP (en .add 3 a nO) λe=>fM f g b e h)) (Q bT h)
theorem BE{C Q}(I)(s:P4 I (rr C Q)){k c d a b h}(i:I k c d a b h):sj C Q c d a b h:=WA.l4 I _ s i
def wR(C:fm)(Q:ft)(a0 a1:V)(h:Hp):Prop:=oP (fE a0) λb=>oP (fE a1) λc=>bO .neq 3 b c (Q bF h) (oP (fE a0) λa=>sj C Q a0 a1 a nZ h)
theorem EN{C}(s:C.start=fN){a0 a1 h Q}(k:C.K mw [a0,a1] h=none)(H:wR C Q a0 a1 h):cP C mw [a0,a1] h Q:=cP.vd t69 s (by unfold P0;exact Tryz.func69) k H
def t66:List (Nat×List Nat):=[]
def lQ(C:fm)(Q:ft)(a0 a1:V)(h:Hp):Prop:=cP C jU [a0,a1] h λa b=>oP (en .geq 3 a nZ) λc=>Q c b
theorem qS{C}(s:C.start=fN){a0 a1 h Q}(k:C.K gU [a0,a1] h=none)(H:lQ C Q a0 a1 h):cP C gU [a0,a1] h Q:=cP.vd t66 s (by unfold P0;exact Tryz.func66) k H
def t87:List (Nat×List Nat):=[(43,[0,1,7,8])]
def lP(C:fm)(Q:ft)(a b c d:V)(h:Hp):Prop:=∀ρ:gD,ρ 0=a->ρ 1=b->ρ 7=c->ρ 8=d->WA C Tryz.f87 t87 21 [] Q ρ h
def lY(C:fm)(Q:ft)(fM:LX)(f g i a:V)(h:Hp):Prop:=bO .lss 3 a i (oP (gz 6 f a) λb=>oP (gv 6 b h) λc=>hH C (gh g [c]) h λd j=>bP d (Q a j) (oP (en .add 3 a nO) λe=>fM f g i e j)) (Q (V.I (-1)) h)
theorem ri{C Q}(I)(s:P4 I (lY C Q)){k a b c d h}(i:I k a b c d h):lP C Q a b c d h:=WA.l4 I _ s i
def mO(C:fm)(Q:ft)(a0 a1:V)(h:Hp):Prop:=oP (fE a0) λa=>lP C Q a0 a1 a nZ h
theorem uo{C}(s:C.start=fN){a0 a1 h Q}(k:C.K jU [a0,a1] h=none)(H:mO C Q a0 a1 h):cP C jU [a0,a1] h Q:=cP.vd t87 s (by unfold P0;exact Tryz.func87) k H
def t67:List (Nat×List Nat):=[]
def zy(C:fm)(Q:ft)(a0 a1:V)(h:Hp):Prop:=ig (om 49 a0) h λe a=>dF 0 e a λf=>oP (en .eql 3 f nO) λg=>oP (jO g (oB (fH 3 e) λi=>oB (ez i a) λj=>oB (fH 3 a1) λb=>oB (ez b a) λc=>en .eql 2 j c)) λd=>Q d a
theorem Hs{C}(s:C.start=fN){a0 a1 h Q}(k:C.K jC [a0,a1] h=none)(H:zy C Q a0 a1 h):cP C jC [a0,a1] h Q:=cP.vd t67 s (by unfold P0;exact Tryz.func67) k H
def t88:List (Nat×List Nat):=[(11,[0,2,3])]
def p7(C:fm)(Q:ft)(a b c:V)(h:Hp):Prop:=∀ρ:gD,ρ 0=a->ρ 2=b->ρ 3=c->WA C Tryz.f88 t88 5 [] Q ρ h
def pR(C:fm)(Q:ft)(fM:Rk)(a b c:V)(h:Hp):Prop:=bO .lss 3 b c (dX 1 a c h λd=>dX 1 a b h λe=>oP (gz 1 a b) λf=>fi (gI 1 f d h) λn g=>(h.next<=g.next/\oP (gz 1 a c) λi=>fi (gI 1 i e g) λl m=>(g.next<=m.next/\oP (en .add 3 b nO) λj=>oP (en .sub 3 c nO) λk=>fM a j k m))) (Q (V.tuple []) h)
theorem zY{C Q}(I)(s:P3 I (pR C Q)){k a b c h}(i:I k a b c h):p7 C Q a b c h:=WA.l3 I _ s i
def tD(C:fm)(Q:ft)(a0:V)(h:Hp):Prop:=oP (fE a0) λa=>oP (en .sub 3 a nO) λb=>p7 C Q a0 nZ b h
theorem B8{C}(s:C.start=fN){a0 h Q}(k:C.K lG [a0] h=none)(H:tD C Q a0 h):cP C lG [a0] h Q:=cP.vd t88 s (by unfold P0;exact Tryz.func88) k H
end
