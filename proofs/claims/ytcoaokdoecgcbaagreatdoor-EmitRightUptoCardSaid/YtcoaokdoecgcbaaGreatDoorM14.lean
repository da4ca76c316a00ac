/- Parts. -/
import Derived.Test.YtcoaokdoecgcbaaGreatDoorM10
set_option maxHeartbeats 4000000
namespace Go.Proofs.YtcoaokdoecgcbaaGreatDoor.Hx
abbrev mz:Nat:=3
abbrev ng:Nat:=6
abbrev lI:Nat:=7
abbrev Bg:Nat:=8
abbrev pg:Nat:=9
abbrev gj:Nat:=10
abbrev zx:Nat:=11
abbrev jF:Nat:=12
abbrev iW:Nat:=16
abbrev fx:Nat:=20
abbrev fq:Nat:=21
abbrev fU:Nat:=22
abbrev jj:Nat:=23
abbrev jS:Nat:=24
abbrev qO:Nat:=25
abbrev tL:Nat:=26
abbrev wK:Nat:=27
abbrev mO:Nat:=28
abbrev mZ:Nat:=29
abbrev qM:Nat:=30
abbrev ml:Nat:=34
abbrev wE:Nat:=35
abbrev lB:Nat:=36
abbrev jd:Nat:=42
abbrev ki:Nat:=49
abbrev uD:Nat:=51
abbrev pb:Nat:=52
abbrev kU:Nat:=53
abbrev iq:Nat:=54
abbrev wJ:Nat:=55
abbrev jw:Nat:=56
abbrev ma:Nat:=57
abbrev oh:Nat:=58
abbrev j6:Nat:=59
abbrev mB:Nat:=60
abbrev mV:Nat:=61
abbrev rJ:Nat:=62
abbrev qP:Nat:=63
abbrev mb:Nat:=64
abbrev lV:Nat:=65
abbrev nq:Nat:=66
abbrev j8:Nat:=67
abbrev gR:Nat:=68
abbrev fV:Nat:=69
abbrev j7:Nat:=70
abbrev iV:Nat:=71
abbrev mI:Nat:=72
abbrev lD:Nat:=74
abbrev zv:Nat:=75
abbrev mg:Nat:=78
abbrev od:Nat:=79
abbrev ka:Nat:=80
abbrev kO:Nat:=81
abbrev lW:Nat:=82
abbrev iT:Nat:=83
abbrev lg:Nat:=84
abbrev iS:Nat:=85
abbrev DH:Nat:=86
abbrev sQ:Nat:=87
abbrev qK:Nat:=88
abbrev gX:Nat:=89
abbrev jt:Nat:=90
abbrev xY:Nat:=91
abbrev mi:Nat:=92
abbrev je:Nat:=93
abbrev iZ:Nat:=94
abbrev iX:Nat:=95
abbrev AY:Nat:=96
abbrev og:Nat:=97
abbrev wB:Nat:=98
abbrev kH:Nat:=99
abbrev Cj:Nat:=100
abbrev ku:Nat:=101
abbrev sy:Nat:=102
abbrev Mf:Nat:=103
abbrev pY:Nat:=104
abbrev qU:Nat:=105
abbrev lY:Nat:=106
abbrev om:Nat:=107
abbrev mE:Nat:=108
abbrev Bc:Nat:=109
abbrev jI:Nat:=110
abbrev lQ:Nat:=111
abbrev ni:Nat:=112
abbrev mU:Nat:=113
abbrev qR:Nat:=114
abbrev ui:Nat:=115
abbrev wz:Nat:=149
abbrev ve:Nat:=150
abbrev vm:Nat:=151
abbrev wD:Nat:=152
abbrev nf:Nat:=153
abbrev sL:Nat:=154
abbrev rD:Nat:=155
abbrev rF:Nat:=156
abbrev sI:Nat:=157
abbrev lX:Nat:=158
set_option maxRecDepth 100000
noncomputable section
def t10:List (Nat×List Nat):=[(30,[0])]
def oL(C:fj)(Q:fo)(a:V)(h:Hp):Prop:=∀ρ:gg,ρ 0=a->WA C Tryz.f10 t10 15 [] Q ρ h
def oD(C:fj)(Q:fo)(a:V)(h:Hp):Prop:=Q a h
theorem tC{C:fj}{Q:fo}{a:V}{h:Hp}(H:oD C Q a h):oL C Q a h:=by
 rintro ρ rfl;exact WA.of (by kernel_rfl) H
def wS(C:fj)(Q:fo)(d c:V)(h:Hp):Prop:=oP (ef .rem 3 d c) λa=>oP (ef .lss 3 a nZ) λe=>bP e (oP (ef .add 3 a c) λb=>oL C Q b h) (oL C Q a h)
theorem GN{C}(s:C.start=fy){a b h Q}(k:C.K gj [a,b] h=none)(H:wS C Q a b h):cP C gj [a,b] h Q:=cP.vd t10 s (by unfold P0;exact Tryz.func10) k H
def t109:List (Nat×List Nat):=[(106,[3,4]),(490,[18])]
def hV(C:fj)(Q:fo)(a b:V)(h:Hp):Prop:=∀ρ:gg,ρ 3=a->ρ 4=b->WA C Tryz.f109 t109 53 [] Q ρ h
def iD(C:fj)(Q:fo)(a:V)(h:Hp):Prop:=∀ρ:gg,ρ 18=a->WA C Tryz.f109 t109 245 [] Q ρ h
def Gq(C:fj)(Q:fo)(a i:V)(h:Hp):Prop:=bP i (Q (V.I 2) h) (oP (ef .eql 3 a (V.I 8)) λb=>bP b (iD C Q b h) (oP (ef .eql 3 a (V.I 9)) λc=>bP c (iD C Q c h) (oP (ef .eql 3 a (V.I 15)) λd=>bP d (iD C Q d h) (oP (ef .eql 3 a (V.I 16)) λe=>bP e (iD C Q e h) (oP (ef .eql 3 a (V.I 17)) λf=>bP f (iD C Q f h) (oP (ef .eql 3 a (V.I 22)) λg=>iD C Q g h))))))
theorem NH{C:fj}{Q:fo}{a b:V}{h:Hp}(H:Gq C Q a b h):hV C Q a b h:=by
 rintro ρ rfl rfl;exact WA.of (by kernel_rfl) H
def FW(C:fj)(Q:fo)(a:V)(h:Hp):Prop:=bP a (Q nO h) (Q nZ h)
theorem Ng{C:fj}{Q:fo}{a:V}{h:Hp}(H:FW C Q a h):iD C Q a h:=by
 rintro ρ rfl;exact WA.of (by kernel_rfl) H
def L2(C:fj)(Q:fo)(a:V)(h:Hp):Prop:=oP (ef .eql 3 a (V.I 3)) λk=>bP k (hV C Q a k h) (oP (ef .eql 3 a (V.I 4)) λl=>bP l (hV C Q a l h) (oP (ef .eql 3 a (V.I 5)) λm=>bP m (hV C Q a m h) (oP (ef .eql 3 a (V.I 6)) λn=>bP n (hV C Q a n h) (oP (ef .eql 3 a (V.I 7)) λo=>bP o (hV C Q a o h) (oP (ef .eql 3 a (V.I 10)) λb=>bP b (hV C Q a b h) (oP (ef .eql 3 a (V.I 11)) λc=>bP c (hV C Q a c h) (oP (ef .eql 3 a (V.I 12)) λd=>bP d (hV C Q a d h) (oP (ef .eql 3 a (V.I 13)) λe=>bP e (hV C Q a e h) (oP (ef .eql 3 a (V.I 14)) λf=>bP f (hV C Q a f h) (oP (ef .eql 3 a (V.I 18)) λg=>bP g (hV C Q a g h) (oP (ef .eql 3 a (V.I 19)) λi=>bP i (hV C Q a i h) (oP (ef .eql 3 a (V.I 20)) λj=>hV C Q a j h))))))))))))
theorem Tf{C}(s:C.start=fy){a h Q}(k:C.K Bc [a] h=none)(H:L2 C Q a h):cP C Bc [a] h Q:=cP.vd t109 s (by unfold P0;exact Tryz.func109) k H
def t88:List (Nat×List Nat):=[]
def JP(C:fj)(Q:fo)(a:V)(h:Hp):Prop:=oP (ef .eql 3 a (V.I 22)) λb=>oP (mm b (oB (some a) λc=>ef .eql 3 c (V.I 23))) λd=>Q d h
theorem Qo{C}(s:C.start=fy){a h Q}(k:C.K qK [a] h=none)(H:JP C Q a h):cP C qK [a] h Q:=cP.vd t88 s (by unfold P0;exact Tryz.func88) k H
def t80:List (Nat×List Nat):=[]
def L8(C:fj)(Q:fo)(b c:V)(h:Hp):Prop:=oP (ef .geq 3 b nZ) λd=>oP (iM d (oB (some b) λe=>oB (some c) λf=>ef .lss 3 e f)) λa=>Q a h
theorem Sg{C}(s:C.start=fy){a b h Q}(k:C.K ka [a,b] h=none)(H:L8 C Q a b h):cP C ka [a,b] h Q:=cP.vd t80 s (by unfold P0;exact Tryz.func80) k H
def t87:List (Nat×List Nat):=[(30,[3])]
def sh(C:fj)(Q:fo)(a:V)(h:Hp):Prop:=∀ρ:gg,ρ 3=a->WA C Tryz.f87 t87 15 [] Q ρ h
def Ih(C:fj)(Q:fo)(a:V)(h:Hp):Prop:=Q a h
theorem OZ{C:fj}{Q:fo}{a:V}{h:Hp}(H:Ih C Q a h):sh C Q a h:=by
 rintro ρ rfl;exact WA.of (by kernel_rfl) H
def NT(C:fj)(Q:fo)(I:V)(h:Hp):Prop:=hZ (nj 81 I) h λc k=>vj (iK 3 1 0 nZ []) k λf J i=>oP (fK 1 c) λl=>oP (eC l i) λm=>oP (fK 2 c) λn=>oP (eC n i) λo=>vj (iK 3 1 2 nZ [(0,m),(1,o)]) i λg K d=>oP (fK 0 c) λp=>oP (eC p d) λq=>((d.get (i.next)=some g/\O.beq g g=true)/\((eC n d=some o)/\((eC l d=some m)/\((d.get (k.next)=some f/\O.beq f f=true)/\cP C Bc [q] d λr b=>(d.next<=b.next/\oP (iL 1 K none (some r) b) λs=>((b.get (i.next)=some g/\O.beq g g=true)/\((eC n b=some o)/\((eC l b=some m)/\((b.get (k.next)=some f/\O.beq f f=true)/\fg (eQ 3 1 8 J s b) λe a=>(b.next<=a.next/\oP (fK 0 c) λt=>oP (eC t a) λj=>oP (ef .eql 3 j (V.I 20)) λu=>bP u (oP (fK 4 c) λv=>oP (eC v a) λw=>oP (fK 4 c) λx=>oP (eC x a) λy=>oP (fD y) λz=>oP (Rz false nO [z]) λA=>oP (iL 1 w none (some A) a) λB=>fg (eQ 3 1 8 e B a) λD L=>sh C Q D L) (oP (ef .eql 3 j (V.I 21)) λE=>bP E (oP (fK 4 c) λF=>oP (eC F a) λG=>fg (eQ 3 1 8 e G a) λH M=>sh C Q H M) (sh C Q e a))))))))))))
theorem Ue{C}(s:C.start=fy){a h Q}(k:C.K sQ [a] h=none)(H:NT C Q a h):cP C sQ [a] h Q:=cP.vd t87 s (by unfold P0;exact Tryz.func87) k H
def t92:List (Nat×List Nat):=[(87,[0,1,12,13])]
def rz(C:fj)(Q:fo)(c d a b:V)(h:Hp):Prop:=∀ρ:gg,ρ 0=c->ρ 1=d->ρ 12=a->ρ 13=b->WA C Tryz.f92 t92 43 [] Q ρ h
def rq(C:fj)(Q:fo)(c:Jn)(g i b a:V)(h:Hp):Prop:=bO .lss 3 a b (dX 1 g a h λd=>dX 1 i a h λe=>bO .neq 3 d e (Q bF h) (oP (ef .add 3 a nO) λf=>c g i b f h)) (Q bT h)
theorem AR{C Q}(I)(s:P4 I (rq C Q)){k c d a b h}(i:I k c d a b h):rz C Q c d a b h:=WA.l4 I _ s i
def vt(C:fj)(Q:fo)(a c:V)(h:Hp):Prop:=oP (fD a) λd=>oP (fD c) λe=>bO .neq 3 d e (Q bF h) (oP (fD a) λb=>rz C Q a c b nZ h)
theorem CW{C}(s:C.start=fy){a b h Q}(k:C.K mi [a,b] h=none)(H:vt C Q a b h):cP C mi [a,b] h Q:=cP.vd t92 s (by unfold P0;exact Tryz.func92) k H
def t89:List (Nat×List Nat):=[]
def lO(C:fj)(Q:fo)(a b:V)(h:Hp):Prop:=cP C jI [a,b] h λc d=>oP (ef .geq 3 c nZ) λe=>Q e d
theorem qQ{C}(s:C.start=fy){a b h Q}(k:C.K gX [a,b] h=none)(H:lO C Q a b h):cP C gX [a,b] h Q:=cP.vd t89 s (by unfold P0;exact Tryz.func89) k H
def t110:List (Nat×List Nat):=[(43,[0,1,7,8])]
def lR(C:fj)(Q:fo)(a b c d:V)(h:Hp):Prop:=∀ρ:gg,ρ 0=a->ρ 1=b->ρ 7=c->ρ 8=d->WA C Tryz.f110 t110 21 [] Q ρ h
def lN(C:fj)(Q:fo)(b:Jn)(g i j a:V)(h:Hp):Prop:=bO .lss 3 a j (oP (gP 6 g a) λc=>oP (gy 6 c h) λd=>gO C (fX i [d]) h λe k=>bP e (Q a k) (oP (ef .add 3 a nO) λf=>b g i j f k)) (Q (V.I (-1)) h)
theorem qN{C Q}(I)(s:P4 I (lN C Q)){k a b c d h}(i:I k a b c d h):lR C Q a b c d h:=WA.l4 I _ s i
def mw(C:fj)(Q:fo)(a b:V)(h:Hp):Prop:=oP (fD a) λc=>lR C Q a b c nZ h
theorem sM{C}(s:C.start=fy){a b h Q}(k:C.K jI [a,b] h=none)(H:mw C Q a b h):cP C jI [a,b] h Q:=cP.vd t110 s (by unfold P0;exact Tryz.func110) k H
def t90:List (Nat×List Nat):=[]
def yQ(C:fj)(Q:fo)(f g:V)(h:Hp):Prop:=hZ (nj 81 f) h λe a=>dF 0 e a λi=>oP (ef .eql 3 i nO) λj=>oP (iM j (oB (fK 3 e) λk=>oB (eC k a) λl=>oB (fK 3 g) λb=>oB (eC b a) λc=>ef .eql 2 l c)) λd=>Q d a
theorem HC{C}(s:C.start=fy){a b h Q}(k:C.K jt [a,b] h=none)(H:yQ C Q a b h):cP C jt [a,b] h Q:=cP.vd t90 s (by unfold P0;exact Tryz.func90) k H
def t81:List (Nat×List Nat):=[(11,[0,2,3])]
def pV(C:fj)(Q:fo)(a b c:V)(h:Hp):Prop:=∀ρ:gg,ρ 0=a->ρ 2=b->ρ 3=c->WA C Tryz.f81 t81 5 [] Q ρ h
def pR(C:fj)(Q:fo)(d:MA)(a b c:V)(h:Hp):Prop:=bO .lss 3 b c (dX 1 a c h λe=>dX 1 a b h λf=>oP (gP 1 a b) λg=>fg (gL 1 g e h) λo i=>(h.next<=i.next/\oP (gP 1 a c) λj=>fg (gL 1 j f i) λm n=>(i.next<=n.next/\oP (ef .add 3 b nO) λk=>oP (ef .sub 3 c nO) λl=>d a k l n))) (Q (V.tuple []) h)
theorem zz{C Q}(I)(s:P3 I (pR C Q)){k a b c h}(i:I k a b c h):pV C Q a b c h:=WA.l3 I _ s i
def rP(C:fj)(Q:fo)(a:V)(h:Hp):Prop:=oP (fD a) λb=>oP (ef .sub 3 b nO) λc=>pV C Q a nZ c h
theorem BA{C}(s:C.start=fy){a h Q}(k:C.K kO [a] h=none)(H:rP C Q a h):cP C kO [a] h Q:=cP.vd t81 s (by unfold P0;exact Tryz.func81) k H
end
