/- Parts. -/
import Derived.Test.YtnehpeeglbgfpaaDoorM10
set_option maxHeartbeats 4000000
namespace Go.Proofs.YtnehpeeglbgfpaaDoor.Hx
abbrev iF:Nat:=4
abbrev ki:Nat:=5
abbrev mn:Nat:=6
abbrev kW:Nat:=7
abbrev fP:Nat:=9
abbrev gJ:Nat:=10
abbrev j5:Nat:=11
abbrev fe:Nat:=12
abbrev eJ:Nat:=13
abbrev fM:Nat:=14
abbrev iR:Nat:=15
abbrev jC:Nat:=16
abbrev uh:Nat:=17
abbrev rl:Nat:=18
abbrev mF:Nat:=19
abbrev j9:Nat:=20
abbrev hY:Nat:=21
abbrev tL:Nat:=22
abbrev jP:Nat:=24
abbrev gP:Nat:=26
abbrev jS:Nat:=27
abbrev iq:Nat:=28
abbrev jz:Nat:=29
abbrev jc:Nat:=30
abbrev kL:Nat:=31
abbrev mf:Nat:=32
abbrev jD:Nat:=33
abbrev lg:Nat:=34
abbrev lN:Nat:=35
abbrev pG:Nat:=36
abbrev oy:Nat:=37
abbrev kP:Nat:=38
abbrev ml:Nat:=39
abbrev jH:Nat:=40
abbrev j4:Nat:=41
abbrev kK:Nat:=42
abbrev jQ:Nat:=43
abbrev lT:Nat:=44
abbrev iB:Nat:=45
abbrev z9:Nat:=46
abbrev qB:Nat:=47
abbrev oD:Nat:=48
abbrev gz:Nat:=49
abbrev iY:Nat:=50
abbrev ue:Nat:=51
abbrev kV:Nat:=52
abbrev iK:Nat:=53
abbrev iP:Nat:=54
abbrev iG:Nat:=55
abbrev nm:Nat:=56
abbrev oI:Nat:=57
abbrev kO:Nat:=58
abbrev mj:Nat:=59
abbrev lB:Nat:=60
abbrev xB:Nat:=62
abbrev jm:Nat:=63
abbrev ko:Nat:=64
abbrev tD:Nat:=96
abbrev ni:Nat:=97
abbrev ru:Nat:=98
abbrev tG:Nat:=99
abbrev lO:Nat:=100
set_option maxRecDepth 100000
noncomputable section
def t9:List (Nat×List Nat):=[(30,[0])]
def mC(C:fg)(Q:fm)(a:V)(h:Hp):Prop:=∀ρ:fN,ρ 0=a->WA C Tryd.f9 t9 15 [] Q ρ h
def mA(C:fg)(Q:fm)(a:V)(h:Hp):Prop:=Q a h
theorem qD{C:fg}{Q:fm}{a:V}{h:Hp}(H:mA C Q a h):mC C Q a h:=by
 rintro ρ rfl;exact WA.of (by kernel_rfl) H
def uy(C:fg)(Q:fm)(d c:V)(h:Hp):Prop:=oP (ef .rem 3 d c) λa=>oP (ef .lss 3 a nZ) λe=>bP e (oP (ef .add 3 a c) λb=>mC C Q b h) (mC C Q a h)
theorem AU{C}(s:C.start=fT){a b h Q}(k:C.K fP [a,b] h=none)(H:uy C Q a b h):cP C fP [a,b] h Q:=cP.vd t9 s (by unfold P0;exact Tryd.func9) k H
def t62:List (Nat×List Nat):=[(106,[3,4]),(490,[18])]
def gN(C:fg)(Q:fm)(a b:V)(h:Hp):Prop:=∀ρ:fN,ρ 3=a->ρ 4=b->WA C Tryd.f62 t62 53 [] Q ρ h
def fW(C:fg)(Q:fm)(a:V)(h:Hp):Prop:=∀ρ:fN,ρ 18=a->WA C Tryd.f62 t62 245 [] Q ρ h
def A0(C:fg)(Q:fm)(a i:V)(h:Hp):Prop:=bP i (Q (V.I 2) h) (oP (ef .eql 3 a (V.I 8)) λb=>bP b (fW C Q b h) (oP (ef .eql 3 a (V.I 9)) λc=>bP c (fW C Q c h) (oP (ef .eql 3 a (V.I 15)) λd=>bP d (fW C Q d h) (oP (ef .eql 3 a (V.I 16)) λe=>bP e (fW C Q e h) (oP (ef .eql 3 a (V.I 17)) λf=>bP f (fW C Q f h) (oP (ef .eql 3 a (V.I 22)) λg=>fW C Q g h))))))
theorem Hy{C:fg}{Q:fm}{a b:V}{h:Hp}(H:A0 C Q a b h):gN C Q a b h:=by
 rintro ρ rfl rfl;exact WA.of (by kernel_rfl) H
def Bl(C:fg)(Q:fm)(a:V)(h:Hp):Prop:=bP a (Q nO h) (Q nZ h)
theorem IJ{C:fg}{Q:fm}{a:V}{h:Hp}(H:Bl C Q a h):fW C Q a h:=by
 rintro ρ rfl;exact WA.of (by kernel_rfl) H
def Gc(C:fg)(Q:fm)(a:V)(h:Hp):Prop:=oP (ef .eql 3 a (V.I 3)) λk=>bP k (gN C Q a k h) (oP (ef .eql 3 a (V.I 4)) λl=>bP l (gN C Q a l h) (oP (ef .eql 3 a (V.I 5)) λm=>bP m (gN C Q a m h) (oP (ef .eql 3 a (V.I 6)) λn=>bP n (gN C Q a n h) (oP (ef .eql 3 a (V.I 7)) λo=>bP o (gN C Q a o h) (oP (ef .eql 3 a (V.I 10)) λb=>bP b (gN C Q a b h) (oP (ef .eql 3 a (V.I 11)) λc=>bP c (gN C Q a c h) (oP (ef .eql 3 a (V.I 12)) λd=>bP d (gN C Q a d h) (oP (ef .eql 3 a (V.I 13)) λe=>bP e (gN C Q a e h) (oP (ef .eql 3 a (V.I 14)) λf=>bP f (gN C Q a f h) (oP (ef .eql 3 a (V.I 18)) λg=>bP g (gN C Q a g h) (oP (ef .eql 3 a (V.I 19)) λi=>bP i (gN C Q a i h) (oP (ef .eql 3 a (V.I 20)) λj=>gN C Q a j h))))))))))))
theorem Lv{C}(s:C.start=fT){a h Q}(k:C.K xB [a] h=none)(H:Gc C Q a h):cP C xB [a] h Q:=cP.vd t62 s (by unfold P0;exact Tryd.func62) k H
def t48:List (Nat×List Nat):=[]
def Em(C:fg)(Q:fm)(a:V)(h:Hp):Prop:=oP (ef .eql 3 a (V.I 22)) λb=>oP (mh b (oB (some a) λc=>ef .eql 3 c (V.I 23))) λd=>Q d h
theorem J8{C}(s:C.start=fT){a h Q}(k:C.K oD [a] h=none)(H:Em C Q a h):cP C oD [a] h Q:=cP.vd t48 s (by unfold P0;exact Tryd.func48) k H
def t40:List (Nat×List Nat):=[]
def Gl(C:fg)(Q:fm)(b c:V)(h:Hp):Prop:=oP (ef .geq 3 b nZ) λd=>oP (jq d (oB (some b) λe=>oB (some c) λf=>ef .lss 3 e f)) λa=>Q a h
theorem Ln{C}(s:C.start=fT){a b h Q}(k:C.K jH [a,b] h=none)(H:Gl C Q a b h):cP C jH [a,b] h Q:=cP.vd t40 s (by unfold P0;exact Tryd.func40) k H
def t47:List (Nat×List Nat):=[(30,[3])]
def pR(C:fg)(Q:fm)(a:V)(h:Hp):Prop:=∀ρ:fN,ρ 3=a->WA C Tryd.f47 t47 15 [] Q ρ h
def CB(C:fg)(Q:fm)(a:V)(h:Hp):Prop:=Q a h
theorem I7{C:fg}{Q:fm}{a:V}{h:Hp}(H:CB C Q a h):pR C Q a h:=by
 rintro ρ rfl;exact WA.of (by kernel_rfl) H
def IE(C:fg)(Q:fm)(I:V)(h:Hp):Prop:=iQ (sO 46 I) h λc k=>uN (ju 3 1 0 nZ []) k λf J i=>oP (fI 1 c) λl=>oP (en l i) λm=>oP (fI 2 c) λn=>oP (en n i) λo=>uN (ju 3 1 2 nZ [(0,m),(1,o)]) i λg K d=>oP (fI 0 c) λp=>oP (en p d) λq=>((d.get (i.next)=some g/\O.beq g g=true)/\((en n d=some o)/\((en l d=some m)/\((d.get (k.next)=some f/\O.beq f f=true)/\cP C xB [q] d λr b=>(d.next<=b.next/\oP (iZ 1 K none (some r) b) λs=>((b.get (i.next)=some g/\O.beq g g=true)/\((en n b=some o)/\((en l b=some m)/\((b.get (k.next)=some f/\O.beq f f=true)/\fi (fh 3 1 8 J s b) λe a=>(b.next<=a.next/\oP (fI 0 c) λt=>oP (en t a) λj=>oP (ef .eql 3 j (V.I 20)) λu=>bP u (oP (fI 4 c) λv=>oP (en v a) λw=>oP (fI 4 c) λx=>oP (en x a) λy=>oP (fF y) λz=>oP (K1 false nO [z]) λA=>oP (iZ 1 w none (some A) a) λB=>fi (fh 3 1 8 e B a) λD L=>pR C Q D L) (oP (ef .eql 3 j (V.I 21)) λE=>bP E (oP (fI 4 c) λF=>oP (en F a) λG=>fi (fh 3 1 8 e G a) λH M=>pR C Q H M) (pR C Q e a))))))))))))
theorem Nw{C}(s:C.start=fT){a h Q}(k:C.K qB [a] h=none)(H:IE C Q a h):cP C qB [a] h Q:=cP.vd t47 s (by unfold P0;exact Tryd.func47) k H
def t27:List (Nat×List Nat):=[(106,[1,4,5]),(490,[1,4,23])]
def fK(C:fg)(Q:fm)(a b c:V)(h:Hp):Prop:=∀ρ:fN,ρ 1=a->ρ 4=b->ρ 5=c->WA C Tryd.f27 t27 53 [] Q ρ h
def gK(C:fg)(Q:fm)(b c a:V)(h:Hp):Prop:=∀ρ:fN,ρ 1=b->ρ 4=c->ρ 23=a->WA C Tryd.f27 t27 245 [] Q ρ h
def pK(C:fg)(Q:fm)(b a o:V)(h:Hp):Prop:=bP o (oP (fI 1 b) λi=>oP (en i h) λj=>oP (fI 2 b) λk=>oP (en k h) λl=>iQ (ju 3 1 2 nZ [(0,j),(1,l)]) h λm p=>Q m p) (oP (ef .eql 3 a (V.I 8)) λc=>bP c (gK C Q b a c h) (oP (ef .eql 3 a (V.I 9)) λd=>bP d (gK C Q b a d h) (oP (ef .eql 3 a (V.I 15)) λe=>bP e (gK C Q b a e h) (oP (ef .eql 3 a (V.I 16)) λf=>bP f (gK C Q b a f h) (oP (ef .eql 3 a (V.I 17)) λg=>bP g (gK C Q b a g h) (oP (ef .eql 3 a (V.I 22)) λn=>gK C Q b a n h))))))
theorem yE{C:fg}{Q:fm}{a b c:V}{h:Hp}(H:pK C Q a b c h):fK C Q a b c h:=by
 rintro ρ rfl rfl rfl;exact WA.of (by kernel_rfl) H
def p5(C:fg)(Q:fm)(a F l:V)(h:Hp):Prop:=bP l (oP (fI 1 a) λm=>oP (en m h) λn=>iQ (ju 3 1 1 nZ [(0,n)]) h λo G=>Q o G) (oP (ef .eql 3 F (V.I 20)) λp=>bP p (oP (fI 4 a) λq=>oP (en q h) λr=>oP (fF r) λs=>oP (ef .eql 3 s nZ) λt=>bP t (oP (fI 1 a) λu=>oP (en u h) λv=>oP (fI 2 a) λw=>oP (en w h) λx=>iQ (ju 3 1 2 nZ [(0,v),(1,x)]) h λy H=>Q y H) (oP (fI 1 a) λc=>oP (en c h) λd=>oP (fI 2 a) λe=>oP (en e h) λf=>oP (fI 4 a) λg=>oP (en g h) λi=>oP (gy 1 i nZ) λj=>oP (en j h) λk=>uN (ju 3 1 3 nZ [(0,d),(1,f),(2,k)]) h λz A b=>((b.get (h.next)=some z/\O.beq z z=true)/\((en j b=some k)/\((en g b=some i)/\((en e b=some f)/\((en c b=some d)/\Q A b))))))) (oP (ef .eql 3 F (V.I 21)) λB=>bP B (oP (fI 4 a) λD=>oP (en D h) λE=>Q E h) (Q nS h)))
theorem yk{C:fg}{Q:fm}{b c a:V}{h:Hp}(H:p5 C Q b c a h):gK C Q b c a h:=by
 rintro ρ rfl rfl rfl;exact WA.of (by kernel_rfl) H
def sR(C:fg)(Q:fm)(q:V)(h:Hp):Prop:=iQ (sO 46 q) h λb c=>oP (fI 0 b) λr=>oP (en r c) λa=>oP (ef .eql 3 a (V.I 3)) λm=>bP m (fK C Q b a m c) (oP (ef .eql 3 a (V.I 4)) λn=>bP n (fK C Q b a n c) (oP (ef .eql 3 a (V.I 5)) λo=>bP o (fK C Q b a o c) (oP (ef .eql 3 a (V.I 6)) λp=>bP p (fK C Q b a p c) (oP (ef .eql 3 a (V.I 7)) λd=>bP d (fK C Q b a d c) (oP (ef .eql 3 a (V.I 10)) λe=>bP e (fK C Q b a e c) (oP (ef .eql 3 a (V.I 11)) λf=>bP f (fK C Q b a f c) (oP (ef .eql 3 a (V.I 12)) λg=>bP g (fK C Q b a g c) (oP (ef .eql 3 a (V.I 13)) λi=>bP i (fK C Q b a i c) (oP (ef .eql 3 a (V.I 14)) λj=>bP j (fK C Q b a j c) (oP (ef .eql 3 a (V.I 18)) λk=>bP k (fK C Q b a k c) (oP (ef .eql 3 a (V.I 19)) λl=>fK C Q b a l c)))))))))))
theorem Av{C}(s:C.start=fT){a h Q}(k:C.K jS [a] h=none)(H:sR C Q a h):cP C jS [a] h Q:=cP.vd t27 s (by unfold P0;exact Tryd.func27) k H
def t52:List (Nat×List Nat):=[(87,[0,1,12,13])]
def oK(C:fg)(Q:fm)(c d a b:V)(h:Hp):Prop:=∀ρ:fN,ρ 0=c->ρ 1=d->ρ 12=a->ρ 13=b->WA C Tryd.f52 t52 43 [] Q ρ h
def py(C:fg)(Q:fm)(c:Eu)(g i b a:V)(h:Hp):Prop:=bO .lss 3 a b (dX 1 g a h λd=>dX 1 i a h λe=>bO .neq 3 d e (Q bF h) (oP (ef .add 3 a nO) λf=>c g i b f h)) (Q bT h)
theorem xr{C Q}(I)(s:P4 I (py C Q)){k c d a b h}(i:I k c d a b h):oK C Q c d a b h:=WA.l4 I _ s i
def rP(C:fg)(Q:fm)(a c:V)(h:Hp):Prop:=oP (fF a) λd=>oP (fF c) λe=>bO .neq 3 d e (Q bF h) (oP (fF a) λb=>oK C Q a c b nZ h)
theorem zQ{C}(s:C.start=fT){a b h Q}(k:C.K kV [a,b] h=none)(H:rP C Q a b h):cP C kV [a,b] h Q:=cP.vd t52 s (by unfold P0;exact Tryd.func52) k H
def t49:List (Nat×List Nat):=[]
def kE(C:fg)(Q:fm)(a b:V)(h:Hp):Prop:=cP C jm [a,b] h λc d=>oP (ef .geq 3 c nZ) λe=>Q e d
theorem oA{C}(s:C.start=fT){a b h Q}(k:C.K gz [a,b] h=none)(H:kE C Q a b h):cP C gz [a,b] h Q:=cP.vd t49 s (by unfold P0;exact Tryd.func49) k H
def t63:List (Nat×List Nat):=[(43,[0,1,7,8])]
def kH(C:fg)(Q:fm)(a b c d:V)(h:Hp):Prop:=∀ρ:fN,ρ 0=a->ρ 1=b->ρ 7=c->ρ 8=d->WA C Tryd.f63 t63 21 [] Q ρ h
def ku(C:fg)(Q:fm)(b:Eu)(g i j a:V)(h:Hp):Prop:=bO .lss 3 a j (oP (gy 6 g a) λc=>oP (fZ 6 c h) λd=>gv C (fQ i [d]) h λe k=>bP e (Q a k) (oP (ef .add 3 a nO) λf=>b g i j f k)) (Q (V.I (-1)) h)
theorem oC{C Q}(I)(s:P4 I (ku C Q)){k a b c d h}(i:I k a b c d h):kH C Q a b c d h:=WA.l4 I _ s i
def ll(C:fg)(Q:fm)(a b:V)(h:Hp):Prop:=oP (fF a) λc=>kH C Q a b c nZ h
theorem qC{C}(s:C.start=fT){a b h Q}(k:C.K jm [a,b] h=none)(H:ll C Q a b h):cP C jm [a,b] h Q:=cP.vd t63 s (by unfold P0;exact Tryd.func63) k H
def t50:List (Nat×List Nat):=[]
def vn(C:fg)(Q:fm)(f g:V)(h:Hp):Prop:=iQ (sO 46 f) h λe a=>dF 0 e a λi=>oP (ef .eql 3 i nO) λj=>oP (jq j (oB (fI 3 e) λk=>oB (en k a) λl=>oB (fI 3 g) λb=>oB (en b a) λc=>ef .eql 2 l c)) λd=>Q d a
theorem Cm{C}(s:C.start=fT){a b h Q}(k:C.K iY [a,b] h=none)(H:vn C Q a b h):cP C iY [a,b] h Q:=cP.vd t50 s (by unfold P0;exact Tryd.func50) k H
def t41:List (Nat×List Nat):=[(11,[0,2,3])]
def ng(C:fg)(Q:fm)(a b c:V)(h:Hp):Prop:=∀ρ:fN,ρ 0=a->ρ 2=b->ρ 3=c->WA C Tryd.f41 t41 5 [] Q ρ h
def nj(C:fg)(Q:fm)(d:JP)(a b c:V)(h:Hp):Prop:=bO .lss 3 b c (dX 1 a c h λe=>dX 1 a b h λf=>oP (gy 1 a b) λg=>fi (gW 1 g e h) λo i=>(h.next<=i.next/\oP (gy 1 a c) λj=>fi (gW 1 j f i) λm n=>(i.next<=n.next/\oP (ef .add 3 b nO) λk=>oP (ef .sub 3 c nO) λl=>d a k l n))) (Q (V.tuple []) h)
theorem vP{C Q}(I)(s:P3 I (nj C Q)){k a b c h}(i:I k a b c h):ng C Q a b c h:=WA.l3 I _ s i
def pS(C:fg)(Q:fm)(a:V)(h:Hp):Prop:=oP (fF a) λb=>oP (ef .sub 3 b nO) λc=>ng C Q a nZ c h
theorem yl{C}(s:C.start=fT){a h Q}(k:C.K j4 [a] h=none)(H:pS C Q a h):cP C j4 [a] h Q:=cP.vd t41 s (by unfold P0;exact Tryd.func41) k H
end
