/- Parts. -/
import Derived.Test.YtnehpeeglbgfpaaDoorM10
set_option maxHeartbeats 4000000
namespace Go.Proofs.YtnehpeeglbgfpaaDoor.Hx
abbrev kO:Nat:=3
abbrev lg:Nat:=5
abbrev nJ:Nat:=6
abbrev mb:Nat:=7
abbrev ju:Nat:=8
abbrev hX:Nat:=9
abbrev eQ:Nat:=12
abbrev eD:Nat:=13
abbrev fE:Nat:=14
abbrev iD:Nat:=15
abbrev jh:Nat:=16
abbrev wE:Nat:=17
abbrev uS:Nat:=18
abbrev lV:Nat:=19
abbrev kT:Nat:=20
abbrev iu:Nat:=21
abbrev sH:Nat:=22
abbrev jA:Nat:=24
abbrev hY:Nat:=25
abbrev gD:Nat:=26
abbrev jz:Nat:=27
abbrev hC:Nat:=28
abbrev iO:Nat:=30
abbrev j7:Nat:=31
abbrev lJ:Nat:=32
abbrev jj:Nat:=33
abbrev kj:Nat:=34
abbrev kR:Nat:=35
abbrev oK:Nat:=36
abbrev nQ:Nat:=37
abbrev j6:Nat:=38
abbrev lH:Nat:=39
abbrev jo:Nat:=40
abbrev jI:Nat:=41
abbrev j5:Nat:=42
abbrev jy:Nat:=43
abbrev kY:Nat:=44
abbrev ik:Nat:=45
abbrev yT:Nat:=46
abbrev pZ:Nat:=47
abbrev nG:Nat:=48
abbrev gi:Nat:=49
abbrev iJ:Nat:=50
abbrev sQ:Nat:=51
abbrev ke:Nat:=52
abbrev iA:Nat:=53
abbrev iy:Nat:=54
abbrev iq:Nat:=55
abbrev mL:Nat:=56
abbrev nM:Nat:=57
abbrev j4:Nat:=58
abbrev lI:Nat:=59
abbrev kE:Nat:=60
abbrev wA:Nat:=62
abbrev iZ:Nat:=63
abbrev jN:Nat:=64
abbrev sD:Nat:=96
abbrev mE:Nat:=97
abbrev qZ:Nat:=98
abbrev sk:Nat:=99
abbrev kQ:Nat:=100
set_option maxRecDepth 100000
noncomputable section
def t9:List (Nat×List Nat):=[(30,[0])]
def lQ(C:fe)(Q:fu)(a:V)(h:Hp):Prop:=∀ρ:fK,ρ 0=a->WA C Tryd.f9 t9 15 [] Q ρ h
def lO(C:fe)(Q:fu)(a:V)(h:Hp):Prop:=Q a h
theorem qm{C:fe}{Q:fu}{a:V}{h:Hp}(H:lO C Q a h):lQ C Q a h:=by
 rintro ρ rfl;exact WA.of (by kernel_rfl) H
def tC(C:fe)(Q:fu)(d c:V)(h:Hp):Prop:=oP (ej .rem 3 d c) λa=>oP (ej .lss 3 a nZ) λe=>bP e (oP (ej .add 3 a c) λb=>lQ C Q b h) (lQ C Q a h)
theorem Ak{C}(s:C.start=fQ){a b h Q}(k:C.K hX [a,b] h=none)(H:tC C Q a b h):cP C hX [a,b] h Q:=cP.vd t9 s (by unfold P0;exact Tryd.func9) k H
def t62:List (Nat×List Nat):=[(106,[3,4]),(490,[18])]
def gz(C:fe)(Q:fu)(a b:V)(h:Hp):Prop:=∀ρ:fK,ρ 3=a->ρ 4=b->WA C Tryd.f62 t62 53 [] Q ρ h
def fU(C:fe)(Q:fu)(a:V)(h:Hp):Prop:=∀ρ:fK,ρ 18=a->WA C Tryd.f62 t62 245 [] Q ρ h
def zM(C:fe)(Q:fu)(a i:V)(h:Hp):Prop:=bP i (Q (V.I 2) h) (oP (ej .eql 3 a (V.I 8)) λb=>bP b (fU C Q b h) (oP (ej .eql 3 a (V.I 9)) λc=>bP c (fU C Q c h) (oP (ej .eql 3 a (V.I 15)) λd=>bP d (fU C Q d h) (oP (ej .eql 3 a (V.I 16)) λe=>bP e (fU C Q e h) (oP (ej .eql 3 a (V.I 17)) λf=>bP f (fU C Q f h) (oP (ej .eql 3 a (V.I 22)) λg=>fU C Q g h))))))
theorem GD{C:fe}{Q:fu}{a b:V}{h:Hp}(H:zM C Q a b h):gz C Q a b h:=by
 rintro ρ rfl rfl;exact WA.of (by kernel_rfl) H
def Am(C:fe)(Q:fu)(a:V)(h:Hp):Prop:=bP a (Q nO h) (Q nZ h)
theorem GP{C:fe}{Q:fu}{a:V}{h:Hp}(H:Am C Q a h):fU C Q a h:=by
 rintro ρ rfl;exact WA.of (by kernel_rfl) H
def EV(C:fe)(Q:fu)(a:V)(h:Hp):Prop:=oP (ej .eql 3 a (V.I 3)) λk=>bP k (gz C Q a k h) (oP (ej .eql 3 a (V.I 4)) λl=>bP l (gz C Q a l h) (oP (ej .eql 3 a (V.I 5)) λm=>bP m (gz C Q a m h) (oP (ej .eql 3 a (V.I 6)) λn=>bP n (gz C Q a n h) (oP (ej .eql 3 a (V.I 7)) λo=>bP o (gz C Q a o h) (oP (ej .eql 3 a (V.I 10)) λb=>bP b (gz C Q a b h) (oP (ej .eql 3 a (V.I 11)) λc=>bP c (gz C Q a c h) (oP (ej .eql 3 a (V.I 12)) λd=>bP d (gz C Q a d h) (oP (ej .eql 3 a (V.I 13)) λe=>bP e (gz C Q a e h) (oP (ej .eql 3 a (V.I 14)) λf=>bP f (gz C Q a f h) (oP (ej .eql 3 a (V.I 18)) λg=>bP g (gz C Q a g h) (oP (ej .eql 3 a (V.I 19)) λi=>bP i (gz C Q a i h) (oP (ej .eql 3 a (V.I 20)) λj=>gz C Q a j h))))))))))))
theorem Km{C}(s:C.start=fQ){a h Q}(k:C.K wA [a] h=none)(H:EV C Q a h):cP C wA [a] h Q:=cP.vd t62 s (by unfold P0;exact Tryd.func62) k H
def t48:List (Nat×List Nat):=[]
def DB(C:fe)(Q:fu)(a:V)(h:Hp):Prop:=oP (ej .eql 3 a (V.I 22)) λb=>oP (qe b (oB (some a) λc=>ej .eql 3 c (V.I 23))) λd=>Q d h
theorem IP{C}(s:C.start=fQ){a h Q}(k:C.K nG [a] h=none)(H:DB C Q a h):cP C nG [a] h Q:=cP.vd t48 s (by unfold P0;exact Tryd.func48) k H
def t40:List (Nat×List Nat):=[]
def EO(C:fe)(Q:fu)(b c:V)(h:Hp):Prop:=oP (ej .geq 3 b nZ) λd=>oP (kH d (oB (some b) λe=>oB (some c) λf=>ej .lss 3 e f)) λa=>Q a h
theorem JY{C}(s:C.start=fQ){a b h Q}(k:C.K jo [a,b] h=none)(H:EO C Q a b h):cP C jo [a,b] h Q:=cP.vd t40 s (by unfold P0;exact Tryd.func40) k H
def t47:List (Nat×List Nat):=[(30,[3])]
def py(C:fe)(Q:fu)(a:V)(h:Hp):Prop:=∀ρ:fK,ρ 3=a->WA C Tryd.f47 t47 15 [] Q ρ h
def By(C:fe)(Q:fu)(a:V)(h:Hp):Prop:=Q a h
theorem Hz{C:fe}{Q:fu}{a:V}{h:Hp}(H:By C Q a h):py C Q a h:=by
 rintro ρ rfl;exact WA.of (by kernel_rfl) H
def GQ(C:fe)(Q:fu)(I:V)(h:Hp):Prop:=iW (tQ 46 I) h λc k=>uY (jm 3 1 0 nZ []) k λf J i=>oP (fP 1 c) λl=>oP (er l i) λm=>oP (fP 2 c) λn=>oP (er n i) λo=>uY (jm 3 1 2 nZ [(0,m),(1,o)]) i λg K d=>oP (fP 0 c) λp=>oP (er p d) λq=>((d.get (i.next)=some g/\O.beq g g=true)/\((er n d=some o)/\((er l d=some m)/\((d.get (k.next)=some f/\O.beq f f=true)/\cP C wA [q] d λr b=>(d.next<=b.next/\oP (iF 1 K none (some r) b) λs=>((b.get (i.next)=some g/\O.beq g g=true)/\((er n b=some o)/\((er l b=some m)/\((b.get (k.next)=some f/\O.beq f f=true)/\fj (fh 3 1 8 J s b) λe a=>(b.next<=a.next/\oP (fP 0 c) λt=>oP (er t a) λj=>oP (ej .eql 3 j (V.I 20)) λu=>bP u (oP (fP 4 c) λv=>oP (er v a) λw=>oP (fP 4 c) λx=>oP (er x a) λy=>oP (fJ y) λz=>oP (BI false nO [z]) λA=>oP (iF 1 w none (some A) a) λB=>fj (fh 3 1 8 e B a) λD L=>py C Q D L) (oP (ej .eql 3 j (V.I 21)) λE=>bP E (oP (fP 4 c) λF=>oP (er F a) λG=>fj (fh 3 1 8 e G a) λH M=>py C Q H M) (py C Q e a))))))))))))
theorem Mj{C}(s:C.start=fQ){a h Q}(k:C.K pZ [a] h=none)(H:GQ C Q a h):cP C pZ [a] h Q:=cP.vd t47 s (by unfold P0;exact Tryd.func47) k H
def t27:List (Nat×List Nat):=[(106,[1,4,5]),(490,[1,4,23])]
def fx(C:fe)(Q:fu)(a b c:V)(h:Hp):Prop:=∀ρ:fK,ρ 1=a->ρ 4=b->ρ 5=c->WA C Tryd.f27 t27 53 [] Q ρ h
def gw(C:fe)(Q:fu)(b c a:V)(h:Hp):Prop:=∀ρ:fK,ρ 1=b->ρ 4=c->ρ 23=a->WA C Tryd.f27 t27 245 [] Q ρ h
def pd(C:fe)(Q:fu)(b a o:V)(h:Hp):Prop:=bP o (oP (fP 1 b) λi=>oP (er i h) λj=>oP (fP 2 b) λk=>oP (er k h) λl=>iW (jm 3 1 2 nZ [(0,j),(1,l)]) h λm p=>Q m p) (oP (ej .eql 3 a (V.I 8)) λc=>bP c (gw C Q b a c h) (oP (ej .eql 3 a (V.I 9)) λd=>bP d (gw C Q b a d h) (oP (ej .eql 3 a (V.I 15)) λe=>bP e (gw C Q b a e h) (oP (ej .eql 3 a (V.I 16)) λf=>bP f (gw C Q b a f h) (oP (ej .eql 3 a (V.I 17)) λg=>bP g (gw C Q b a g h) (oP (ej .eql 3 a (V.I 22)) λn=>gw C Q b a n h))))))
theorem xb{C:fe}{Q:fu}{a b c:V}{h:Hp}(H:pd C Q a b c h):fx C Q a b c h:=by
 rintro ρ rfl rfl rfl;exact WA.of (by kernel_rfl) H
def oT(C:fe)(Q:fu)(a F l:V)(h:Hp):Prop:=bP l (oP (fP 1 a) λm=>oP (er m h) λn=>iW (jm 3 1 1 nZ [(0,n)]) h λo G=>Q o G) (oP (ej .eql 3 F (V.I 20)) λp=>bP p (oP (fP 4 a) λq=>oP (er q h) λr=>oP (fJ r) λs=>oP (ej .eql 3 s nZ) λt=>bP t (oP (fP 1 a) λu=>oP (er u h) λv=>oP (fP 2 a) λw=>oP (er w h) λx=>iW (jm 3 1 2 nZ [(0,v),(1,x)]) h λy H=>Q y H) (oP (fP 1 a) λc=>oP (er c h) λd=>oP (fP 2 a) λe=>oP (er e h) λf=>oP (fP 4 a) λg=>oP (er g h) λi=>oP (gM 1 i nZ) λj=>oP (er j h) λk=>uY (jm 3 1 3 nZ [(0,d),(1,f),(2,k)]) h λz A b=>((b.get (h.next)=some z/\O.beq z z=true)/\((er j b=some k)/\((er g b=some i)/\((er e b=some f)/\((er c b=some d)/\Q A b))))))) (oP (ej .eql 3 F (V.I 21)) λB=>bP B (oP (fP 4 a) λD=>oP (er D h) λE=>Q E h) (Q nS h)))
theorem xg{C:fe}{Q:fu}{b c a:V}{h:Hp}(H:oT C Q b c a h):gw C Q b c a h:=by
 rintro ρ rfl rfl rfl;exact WA.of (by kernel_rfl) H
def rT(C:fe)(Q:fu)(q:V)(h:Hp):Prop:=iW (tQ 46 q) h λb c=>oP (fP 0 b) λr=>oP (er r c) λa=>oP (ej .eql 3 a (V.I 3)) λm=>bP m (fx C Q b a m c) (oP (ej .eql 3 a (V.I 4)) λn=>bP n (fx C Q b a n c) (oP (ej .eql 3 a (V.I 5)) λo=>bP o (fx C Q b a o c) (oP (ej .eql 3 a (V.I 6)) λp=>bP p (fx C Q b a p c) (oP (ej .eql 3 a (V.I 7)) λd=>bP d (fx C Q b a d c) (oP (ej .eql 3 a (V.I 10)) λe=>bP e (fx C Q b a e c) (oP (ej .eql 3 a (V.I 11)) λf=>bP f (fx C Q b a f c) (oP (ej .eql 3 a (V.I 12)) λg=>bP g (fx C Q b a g c) (oP (ej .eql 3 a (V.I 13)) λi=>bP i (fx C Q b a i c) (oP (ej .eql 3 a (V.I 14)) λj=>bP j (fx C Q b a j c) (oP (ej .eql 3 a (V.I 18)) λk=>bP k (fx C Q b a k c) (oP (ej .eql 3 a (V.I 19)) λl=>fx C Q b a l c)))))))))))
theorem zx{C}(s:C.start=fQ){a h Q}(k:C.K jz [a] h=none)(H:rT C Q a h):cP C jz [a] h Q:=cP.vd t27 s (by unfold P0;exact Tryd.func27) k H
def t52:List (Nat×List Nat):=[(87,[0,1,12,13])]
def oe(C:fe)(Q:fu)(c d a b:V)(h:Hp):Prop:=∀ρ:fK,ρ 0=c->ρ 1=d->ρ 12=a->ρ 13=b->WA C Tryd.f52 t52 43 [] Q ρ h
def oG(C:fe)(Q:fu)(c:Cl)(g i b a:V)(h:Hp):Prop:=bO .lss 3 a b (dX 1 g a h λd=>dX 1 i a h λe=>bO .neq 3 d e (Q bF h) (oP (ej .add 3 a nO) λf=>c g i b f h)) (Q bT h)
theorem wu{C Q}(I)(s:P4 I (oG C Q)){k c d a b h}(i:I k c d a b h):oe C Q c d a b h:=WA.l4 I _ s i
def qK(C:fe)(Q:fu)(a c:V)(h:Hp):Prop:=oP (fJ a) λd=>oP (fJ c) λe=>bO .neq 3 d e (Q bF h) (oP (fJ a) λb=>oe C Q a c b nZ h)
theorem yU{C}(s:C.start=fQ){a b h Q}(k:C.K ke [a,b] h=none)(H:qK C Q a b h):cP C ke [a,b] h Q:=cP.vd t52 s (by unfold P0;exact Tryd.func52) k H
def t49:List (Nat×List Nat):=[]
def jP(C:fe)(Q:fu)(a b:V)(h:Hp):Prop:=cP C iZ [a,b] h λc d=>oP (ej .geq 3 c nZ) λe=>Q e d
theorem nH{C}(s:C.start=fQ){a b h Q}(k:C.K gi [a,b] h=none)(H:jP C Q a b h):cP C gi [a,b] h Q:=cP.vd t49 s (by unfold P0;exact Tryd.func49) k H
def t63:List (Nat×List Nat):=[(43,[0,1,7,8])]
def jU(C:fe)(Q:fu)(a b c d:V)(h:Hp):Prop:=∀ρ:fK,ρ 0=a->ρ 1=b->ρ 7=c->ρ 8=d->WA C Tryd.f63 t63 21 [] Q ρ h
def jQ(C:fe)(Q:fu)(b:Cl)(g i j a:V)(h:Hp):Prop:=bO .lss 3 a j (oP (gM 6 g a) λc=>oP (hH 6 c h) λd=>gg C (fL i [d]) h λe k=>bP e (Q a k) (oP (ej .add 3 a nO) λf=>b g i j f k)) (Q (V.I (-1)) h)
theorem nI{C Q}(I)(s:P4 I (jQ C Q)){k a b c d h}(i:I k a b c d h):jU C Q a b c d h:=WA.l4 I _ s i
def kr(C:fe)(Q:fu)(a b:V)(h:Hp):Prop:=oP (fJ a) λc=>jU C Q a b c nZ h
theorem p7{C}(s:C.start=fQ){a b h Q}(k:C.K iZ [a,b] h=none)(H:kr C Q a b h):cP C iZ [a,b] h Q:=cP.vd t63 s (by unfold P0;exact Tryd.func63) k H
def t50:List (Nat×List Nat):=[]
def uu(C:fe)(Q:fu)(f g:V)(h:Hp):Prop:=iW (tQ 46 f) h λe a=>dF 0 e a λi=>oP (ej .eql 3 i nO) λj=>oP (kH j (oB (fP 3 e) λk=>oB (er k a) λl=>oB (fP 3 g) λb=>oB (er b a) λc=>ej .eql 2 l c)) λd=>Q d a
theorem Bb{C}(s:C.start=fQ){a b h Q}(k:C.K iJ [a,b] h=none)(H:uu C Q a b h):cP C iJ [a,b] h Q:=cP.vd t50 s (by unfold P0;exact Tryd.func50) k H
def t41:List (Nat×List Nat):=[(11,[0,2,3])]
def mH(C:fe)(Q:fu)(a b c:V)(h:Hp):Prop:=∀ρ:fK,ρ 0=a->ρ 2=b->ρ 3=c->WA C Tryd.f41 t41 5 [] Q ρ h
def mJ(C:fe)(Q:fu)(d:HL)(a b c:V)(h:Hp):Prop:=bO .lss 3 b c (dX 1 a c h λe=>dX 1 a b h λf=>oP (gM 1 a b) λg=>fj (gU 1 g e h) λo i=>(h.next<=i.next/\oP (gM 1 a c) λj=>fj (gU 1 j f i) λm n=>(i.next<=n.next/\oP (ej .add 3 b nO) λk=>oP (ej .sub 3 c nO) λl=>d a k l n))) (Q (V.tuple []) h)
theorem uR{C Q}(I)(s:P3 I (mJ C Q)){k a b c h}(i:I k a b c h):mH C Q a b c h:=WA.l3 I _ s i
def oW(C:fe)(Q:fu)(a:V)(h:Hp):Prop:=oP (fJ a) λb=>oP (ej .sub 3 b nO) λc=>mH C Q a nZ c h
theorem xx{C}(s:C.start=fQ){a h Q}(k:C.K jI [a] h=none)(H:oW C Q a h):cP C jI [a] h Q:=cP.vd t41 s (by unfold P0;exact Tryd.func41) k H
end
