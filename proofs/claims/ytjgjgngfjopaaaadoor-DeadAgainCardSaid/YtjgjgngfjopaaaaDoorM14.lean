/- Parts. -/
import Derived.Test.YtjgjgngfjopaaaaDoorM10
namespace Go.Proofs.YtjgjgngfjopaaaaDoor.Hx
abbrev jq:Nat:=3
abbrev p6:Nat:=4
abbrev lH:Nat:=5
abbrev mj:Nat:=6
abbrev ki:Nat:=7
abbrev ju:Nat:=8
abbrev jT:Nat:=9
abbrev j5:Nat:=10
abbrev im:Nat:=11
abbrev A4:Nat:=12
abbrev zP:Nat:=13
abbrev ma:Nat:=14
abbrev iS:Nat:=15
abbrev tV:Nat:=16
abbrev DA:Nat:=17
abbrev Ab:Nat:=18
abbrev fD:Nat:=19
abbrev fq:Nat:=20
abbrev fW:Nat:=21
abbrev jy:Nat:=22
abbrev j7:Nat:=23
abbrev mi:Nat:=24
abbrev mg:Nat:=25
abbrev mJ:Nat:=26
abbrev jI:Nat:=27
abbrev mI:Nat:=28
abbrev jG:Nat:=29
abbrev hX:Nat:=30
abbrev iV:Nat:=31
abbrev iE:Nat:=32
abbrev jx:Nat:=33
abbrev jf:Nat:=34
abbrev jC:Nat:=35
abbrev lL:Nat:=36
abbrev j4:Nat:=37
abbrev kU:Nat:=38
abbrev jF:Nat:=39
abbrev me:Nat:=40
abbrev nU:Nat:=41
abbrev j9:Nat:=42
abbrev mB:Nat:=43
abbrev mY:Nat:=44
abbrev sH:Nat:=45
abbrev qD:Nat:=46
abbrev mc:Nat:=47
abbrev uT:Nat:=48
abbrev na:Nat:=49
abbrev kM:Nat:=50
abbrev jR:Nat:=51
abbrev gL:Nat:=52
abbrev jz:Nat:=53
abbrev kI:Nat:=54
abbrev jJ:Nat:=55
abbrev iD:Nat:=56
abbrev iX:Nat:=57
abbrev iT:Nat:=58
abbrev kj:Nat:=59
abbrev iU:Nat:=60
abbrev jb:Nat:=61
abbrev km:Nat:=62
abbrev Dg:Nat:=63
abbrev oO:Nat:=64
abbrev hV:Nat:=65
abbrev jE:Nat:=66
abbrev xZ:Nat:=67
abbrev mh:Nat:=68
abbrev qe:Nat:=69
abbrev jw:Nat:=70
abbrev jn:Nat:=71
abbrev jl:Nat:=72
abbrev kF:Nat:=73
abbrev iA:Nat:=74
abbrev jo:Nat:=75
abbrev fO:Nat:=76
abbrev iy:Nat:=77
abbrev jP:Nat:=79
abbrev kV:Nat:=80
abbrev lI:Nat:=81
abbrev oJ:Nat:=82
set_option maxRecDepth 100000
noncomputable section
def t11:List (Nat×List Nat):=[(30,[0])]
def og(C:fu)(Q:fy)(a:V)(h:Hp):Prop:=∀ρ:gB,ρ 0=a->WA C Tryd.f11 t11 15 [] Q ρ h
def oh(C:fu)(Q:fy)(a:V)(h:Hp):Prop:=Q a h
theorem uX{C:fu}{Q:fy}{a:V}{h:Hp}(H:oh C Q a h):og C Q a h:=by
 rintro ρ rfl;exact WA.of (by kernel_rfl) H
def xP(C:fu)(Q:fy)(a0 a1:V)(h:Hp):Prop:=oP (eo .rem 3 a0 a1) λa=>oP (eo .lss 3 a nZ) λc=>bP c (oP (eo .add 3 a a1) λb=>og C Q b h) (og C Q a h)
theorem Ff{C}(s:C.start=fR){a0 a1 h Q}(k:C.K im [a0,a1] h=none)(H:xP C Q a0 a1 h):cP C im [a0,a1] h Q:=cP.vd t11 s (by unfold P0;exact Tryd.func11) k H
def t48:List (Nat×List Nat):=[(106,[3,4]),(490,[18])]
def iq(C:fu)(Q:fy)(a b:V)(h:Hp):Prop:=∀ρ:gB,ρ 3=a->ρ 4=b->WA C Tryd.f48 t48 53 [] Q ρ h
def lG(C:fu)(Q:fy)(a:V)(h:Hp):Prop:=∀ρ:gB,ρ 18=a->WA C Tryd.f48 t48 245 [] Q ρ h
def EE(C:fu)(Q:fy)(a i:V)(h:Hp):Prop:=bP i (Q (V.I 2) h) (oP (eo .eql 3 a (V.I 8)) λb=>bP b (lG C Q b h) (oP (eo .eql 3 a (V.I 9)) λc=>bP c (lG C Q c h) (oP (eo .eql 3 a (V.I 15)) λd=>bP d (lG C Q d h) (oP (eo .eql 3 a (V.I 16)) λe=>bP e (lG C Q e h) (oP (eo .eql 3 a (V.I 17)) λf=>bP f (lG C Q f h) (oP (eo .eql 3 a (V.I 22)) λg=>lG C Q g h))))))
theorem Lo{C:fu}{Q:fy}{a b:V}{h:Hp}(H:EE C Q a b h):iq C Q a b h:=by
 rintro ρ rfl rfl;exact WA.of (by kernel_rfl) H
def E8(C:fu)(Q:fy)(a:V)(h:Hp):Prop:=bP a (Q nO h) (Q nZ h)
theorem Lt{C:fu}{Q:fy}{a:V}{h:Hp}(H:E8 C Q a h):lG C Q a h:=by
 rintro ρ rfl;exact WA.of (by kernel_rfl) H
def Kk(C:fu)(Q:fy)(a0:V)(h:Hp):Prop:=oP (eo .eql 3 a0 (V.I 3)) λj=>bP j (iq C Q a0 j h) (oP (eo .eql 3 a0 (V.I 4)) λk=>bP k (iq C Q a0 k h) (oP (eo .eql 3 a0 (V.I 5)) λl=>bP l (iq C Q a0 l h) (oP (eo .eql 3 a0 (V.I 6)) λm=>bP m (iq C Q a0 m h) (oP (eo .eql 3 a0 (V.I 7)) λn=>bP n (iq C Q a0 n h) (oP (eo .eql 3 a0 (V.I 10)) λa=>bP a (iq C Q a0 a h) (oP (eo .eql 3 a0 (V.I 11)) λb=>bP b (iq C Q a0 b h) (oP (eo .eql 3 a0 (V.I 12)) λc=>bP c (iq C Q a0 c h) (oP (eo .eql 3 a0 (V.I 13)) λd=>bP d (iq C Q a0 d h) (oP (eo .eql 3 a0 (V.I 14)) λe=>bP e (iq C Q a0 e h) (oP (eo .eql 3 a0 (V.I 18)) λf=>bP f (iq C Q a0 f h) (oP (eo .eql 3 a0 (V.I 19)) λg=>bP g (iq C Q a0 g h) (oP (eo .eql 3 a0 (V.I 20)) λi=>iq C Q a0 i h))))))))))))
theorem Qv{C}(s:C.start=fR){a0 h Q}(k:C.K uT [a0] h=none)(H:Kk C Q a0 h):cP C uT [a0] h Q:=cP.vd t48 s (by unfold P0;exact Tryd.func48) k H
def t64:List (Nat×List Nat):=[]
def Il(C:fu)(Q:fy)(a0:V)(h:Hp):Prop:=oP (eo .eql 3 a0 (V.I 22)) λa=>oP (oD a (oB (some a0) λb=>eo .eql 3 b (V.I 23))) λc=>Q c h
theorem Pf{C}(s:C.start=fR){a0 h Q}(k:C.K oO [a0] h=none)(H:Il C Q a0 h):cP C oO [a0] h Q:=cP.vd t64 s (by unfold P0;exact Tryd.func64) k H
def t62:List (Nat×List Nat):=[]
def Ke(C:fu)(Q:fy)(a0 a1:V)(h:Hp):Prop:=oP (eo .geq 3 a0 nZ) λb=>oP (jZ b (oB (some a0) λc=>oB (some a1) λd=>eo .lss 3 c d)) λa=>Q a h
theorem PB{C}(s:C.start=fR){a0 a1 h Q}(k:C.K km [a0,a1] h=none)(H:Ke C Q a0 a1 h):cP C km [a0,a1] h Q:=cP.vd t62 s (by unfold P0;exact Tryd.func62) k H
def t16:List (Nat×List Nat):=[(30,[3])]
def tj(C:fu)(Q:fy)(a:V)(h:Hp):Prop:=∀ρ:gB,ρ 3=a->WA C Tryd.f16 t16 15 [] Q ρ h
def G7(C:fu)(Q:fy)(a:V)(h:Hp):Prop:=Q a h
theorem Nd{C:fu}{Q:fy}{a:V}{h:Hp}(H:G7 C Q a h):tj C Q a h:=by
 rintro ρ rfl;exact WA.of (by kernel_rfl) H
def Md(C:fu)(Q:fy)(a0:V)(h:Hp):Prop:=ik (m0 46 a0) h λc k=>wU (jt 3 1 0 nZ []) k λf I i=>oP (fH 1 c) λl=>oP (ez l i) λm=>oP (fH 2 c) λn=>oP (ez n i) λo=>wU (jt 3 1 2 nZ [(0,m),(1,o)]) i λg J d=>oP (fH 0 c) λp=>oP (ez p d) λq=>((d.get (i.next)=some g/\O.beq g g=true)/\((ez n d=some o)/\((ez l d=some m)/\((d.get (k.next)=some f/\O.beq f f=true)/\cP C uT [q] d λr b=>(d.next<=b.next/\oP (jh 1 J none (some r) b) λs=>((b.get (i.next)=some g/\O.beq g g=true)/\((ez n b=some o)/\((ez l b=some m)/\((b.get (k.next)=some f/\O.beq f f=true)/\fm (fe 3 1 8 I s b) λe a=>(b.next<=a.next/\oP (fH 0 c) λt=>oP (ez t a) λj=>oP (eo .eql 3 j (V.I 20)) λu=>bP u (oP (fH 4 c) λv=>oP (ez v a) λw=>oP (fH 4 c) λx=>oP (ez x a) λy=>oP (fF y) λz=>oP (Pr false nO [z]) λA=>oP (jh 1 w none (some A) a) λB=>fm (fe 3 1 8 e B a) λD K=>tj C Q D K) (oP (eo .eql 3 j (V.I 21)) λE=>bP E (oP (fH 4 c) λF=>oP (ez F a) λG=>fm (fe 3 1 8 e G a) λH L=>tj C Q H L) (tj C Q e a))))))))))))
theorem Sy{C}(s:C.start=fR){a0 h Q}(k:C.K tV [a0] h=none)(H:Md C Q a0 h):cP C tV [a0] h Q:=cP.vd t16 s (by unfold P0;exact Tryd.func16) k H
def t29:List (Nat×List Nat):=[(106,[1,4,5]),(490,[1,4,23])]
def fZ(C:fu)(Q:fy)(a b c:V)(h:Hp):Prop:=∀ρ:gB,ρ 1=a->ρ 4=b->ρ 5=c->WA C Tryd.f29 t29 53 [] Q ρ h
def il(C:fu)(Q:fy)(b c a:V)(h:Hp):Prop:=∀ρ:gB,ρ 1=b->ρ 4=c->ρ 23=a->WA C Tryd.f29 t29 245 [] Q ρ h
def tE(C:fu)(Q:fy)(b a o:V)(h:Hp):Prop:=bP o (oP (fH 1 b) λi=>oP (ez i h) λj=>oP (fH 2 b) λk=>oP (ez k h) λl=>ik (jt 3 1 2 nZ [(0,j),(1,l)]) h λm p=>Q m p) (oP (eo .eql 3 a (V.I 8)) λc=>bP c (il C Q b a c h) (oP (eo .eql 3 a (V.I 9)) λd=>bP d (il C Q b a d h) (oP (eo .eql 3 a (V.I 15)) λe=>bP e (il C Q b a e h) (oP (eo .eql 3 a (V.I 16)) λf=>bP f (il C Q b a f h) (oP (eo .eql 3 a (V.I 17)) λg=>bP g (il C Q b a g h) (oP (eo .eql 3 a (V.I 22)) λn=>il C Q b a n h))))))
theorem Bo{C:fu}{Q:fy}{a b c:V}{h:Hp}(H:tE C Q a b c h):fZ C Q a b c h:=by
 rintro ρ rfl rfl rfl;exact WA.of (by kernel_rfl) H
def sW(C:fu)(Q:fy)(a F l:V)(h:Hp):Prop:=bP l (oP (fH 1 a) λm=>oP (ez m h) λn=>ik (jt 3 1 1 nZ [(0,n)]) h λo G=>Q o G) (oP (eo .eql 3 F (V.I 20)) λp=>bP p (oP (fH 4 a) λq=>oP (ez q h) λr=>oP (fF r) λs=>oP (eo .eql 3 s nZ) λt=>bP t (oP (fH 1 a) λu=>oP (ez u h) λv=>oP (fH 2 a) λw=>oP (ez w h) λx=>ik (jt 3 1 2 nZ [(0,v),(1,x)]) h λy H=>Q y H) (oP (fH 1 a) λc=>oP (ez c h) λd=>oP (fH 2 a) λe=>oP (ez e h) λf=>oP (fH 4 a) λg=>oP (ez g h) λi=>oP (gD 1 i nZ) λj=>oP (ez j h) λk=>wU (jt 3 1 3 nZ [(0,d),(1,f),(2,k)]) h λz A b=>((b.get (h.next)=some z/\O.beq z z=true)/\((ez j b=some k)/\((ez g b=some i)/\((ez e b=some f)/\((ez c b=some d)/\Q A b))))))) (oP (eo .eql 3 F (V.I 21)) λB=>bP B (oP (fH 4 a) λD=>oP (ez D h) λE=>Q E h) (Q nS h)))
theorem Bz{C:fu}{Q:fy}{b c a:V}{h:Hp}(H:sW C Q b c a h):il C Q b c a h:=by
 rintro ρ rfl rfl rfl;exact WA.of (by kernel_rfl) H
def wM(C:fu)(Q:fy)(a0:V)(h:Hp):Prop:=ik (m0 46 a0) h λb c=>oP (fH 0 b) λq=>oP (ez q c) λa=>oP (eo .eql 3 a (V.I 3)) λm=>bP m (fZ C Q b a m c) (oP (eo .eql 3 a (V.I 4)) λn=>bP n (fZ C Q b a n c) (oP (eo .eql 3 a (V.I 5)) λo=>bP o (fZ C Q b a o c) (oP (eo .eql 3 a (V.I 6)) λp=>bP p (fZ C Q b a p c) (oP (eo .eql 3 a (V.I 7)) λd=>bP d (fZ C Q b a d c) (oP (eo .eql 3 a (V.I 10)) λe=>bP e (fZ C Q b a e c) (oP (eo .eql 3 a (V.I 11)) λf=>bP f (fZ C Q b a f c) (oP (eo .eql 3 a (V.I 12)) λg=>bP g (fZ C Q b a g c) (oP (eo .eql 3 a (V.I 13)) λi=>bP i (fZ C Q b a i c) (oP (eo .eql 3 a (V.I 14)) λj=>bP j (fZ C Q b a j c) (oP (eo .eql 3 a (V.I 18)) λk=>bP k (fZ C Q b a k c) (oP (eo .eql 3 a (V.I 19)) λl=>fZ C Q b a l c)))))))))))
theorem Er{C}(s:C.start=fR){a0 h Q}(k:C.K jG [a0] h=none)(H:wM C Q a0 h):cP C jG [a0] h Q:=cP.vd t29 s (by unfold P0;exact Tryd.func29) k H
def t68:List (Nat×List Nat):=[(87,[0,1,12,13])]
def rL(C:fu)(Q:fy)(c d a b:V)(h:Hp):Prop:=∀ρ:gB,ρ 0=c->ρ 1=d->ρ 12=a->ρ 13=b->WA C Tryd.f68 t68 43 [] Q ρ h
def rQ(C:fu)(Q:fy)(fS:Ku)(f g b a:V)(h:Hp):Prop:=bO .lss 3 a b (dX 1 f a h λc=>dX 1 g a h λd=>bO .neq 3 c d (Q bF h) (oP (eo .add 3 a nO) λe=>fS f g b e h)) (Q bT h)
theorem Ao{C Q}(I)(s:P4 I (rQ C Q)){k c d a b h}(i:I k c d a b h):rL C Q c d a b h:=WA.l4 I _ s i
def vJ(C:fu)(Q:fy)(a0 a1:V)(h:Hp):Prop:=oP (fF a0) λb=>oP (fF a1) λc=>bO .neq 3 b c (Q bF h) (oP (fF a0) λa=>rL C Q a0 a1 a nZ h)
theorem DQ{C}(s:C.start=fR){a0 a1 h Q}(k:C.K mh [a0,a1] h=none)(H:vJ C Q a0 a1 h):cP C mh [a0,a1] h Q:=cP.vd t68 s (by unfold P0;exact Tryd.func68) k H
def t65:List (Nat×List Nat):=[]
def lP(C:fu)(Q:fy)(a0 a1:V)(h:Hp):Prop:=cP C jP [a0,a1] h λa b=>oP (eo .geq 3 a nZ) λc=>Q c b
theorem qF{C}(s:C.start=fR){a0 a1 h Q}(k:C.K hV [a0,a1] h=none)(H:lP C Q a0 a1 h):cP C hV [a0,a1] h Q:=cP.vd t65 s (by unfold P0;exact Tryd.func65) k H
def t79:List (Nat×List Nat):=[(43,[0,1,7,8])]
def lN(C:fu)(Q:fy)(a b c d:V)(h:Hp):Prop:=∀ρ:gB,ρ 0=a->ρ 1=b->ρ 7=c->ρ 8=d->WA C Tryd.f79 t79 21 [] Q ρ h
def lQ(C:fu)(Q:fy)(fS:Ku)(f g i a:V)(h:Hp):Prop:=bO .lss 3 a i (oP (gD 6 f a) λb=>oP (gg 6 b h) λc=>ic C (gh g [c]) h λd j=>bP d (Q a j) (oP (eo .add 3 a nO) λe=>fS f g i e j)) (Q (V.I (-1)) h)
theorem qI{C Q}(I)(s:P4 I (lQ C Q)){k a b c d h}(i:I k a b c d h):lN C Q a b c d h:=WA.l4 I _ s i
def mD(C:fu)(Q:fy)(a0 a1:V)(h:Hp):Prop:=oP (fF a0) λa=>lN C Q a0 a1 a nZ h
theorem tT{C}(s:C.start=fR){a0 a1 h Q}(k:C.K jP [a0,a1] h=none)(H:mD C Q a0 a1 h):cP C jP [a0,a1] h Q:=cP.vd t79 s (by unfold P0;exact Tryd.func79) k H
def t66:List (Nat×List Nat):=[]
def yK(C:fu)(Q:fy)(a0 a1:V)(h:Hp):Prop:=ik (m0 46 a0) h λe a=>dF 0 e a λf=>oP (eo .eql 3 f nO) λg=>oP (jZ g (oB (fH 3 e) λi=>oB (ez i a) λj=>oB (fH 3 a1) λb=>oB (ez b a) λc=>eo .eql 2 j c)) λd=>Q d a
theorem Gz{C}(s:C.start=fR){a0 a1 h Q}(k:C.K jE [a0,a1] h=none)(H:yK C Q a0 a1 h):cP C jE [a0,a1] h Q:=cP.vd t66 s (by unfold P0;exact Tryd.func66) k H
def t80:List (Nat×List Nat):=[(11,[0,2,3])]
def pA(C:fu)(Q:fy)(a b c:V)(h:Hp):Prop:=∀ρ:gB,ρ 0=a->ρ 2=b->ρ 3=c->WA C Tryd.f80 t80 5 [] Q ρ h
def pI(C:fu)(Q:fy)(fS:Rj)(a b c:V)(h:Hp):Prop:=bO .lss 3 b c (dX 1 a c h λd=>dX 1 a b h λe=>oP (gD 1 a b) λf=>fm (gK 1 f d h) λn g=>(h.next<=g.next/\oP (gD 1 a c) λi=>fm (gK 1 i e g) λl m=>(g.next<=m.next/\oP (eo .add 3 b nO) λj=>oP (eo .sub 3 c nO) λk=>fS a j k m))) (Q (V.tuple []) h)
theorem ze{C Q}(I)(s:P3 I (pI C Q)){k a b c h}(i:I k a b c h):pA C Q a b c h:=WA.l3 I _ s i
def tG(C:fu)(Q:fy)(a0:V)(h:Hp):Prop:=oP (fF a0) λa=>oP (eo .sub 3 a nO) λb=>pA C Q a0 nZ b h
theorem Bs{C}(s:C.start=fR){a0 h Q}(k:C.K kV [a0] h=none)(H:tG C Q a0 h):cP C kV [a0] h Q:=cP.vd t80 s (by unfold P0;exact Tryd.func80) k H
end
