/- Parts. -/
import Derived.Test.YtpfjdlicdljhaaaDoorM14
set_option maxHeartbeats 4000000
namespace Go.Proofs.YtpfjdlicdljhaaaDoor.Hx
set_option maxRecDepth 100000
noncomputable section
def t56:List (Nat×List Nat):=[(126,[1,3,4,5]),(319,[1,3,4,5])]
def ve(C:dc)(Q:dg)(a b c d:V)(h:Hp):Prop:=∀ρ:dR,ρ 1=a->ρ 3=b->ρ 4=c->ρ 5=d->WA C Tryd.f56 t56 63 [] Q ρ h
def AL(C:dc)(Q:dg)(a b c d:V)(h:Hp):Prop:=∀ρ:dR,ρ 1=a->ρ 3=b->ρ 4=c->ρ 5=d->WA C Tryd.f56 t56 159 [] Q ρ h
def AE(C:dc)(Q:dg)(a b c d:V)(h:Hp):Prop:=AL C Q a b c d h
theorem G8{C:dc}{Q:dg}{a b c d:V}{h:Hp}(H:AE C Q a b c d h):ve C Q a b c d h:=by
 rintro ρ rfl rfl rfl rfl;exact WA.of (by kernel_rfl) H
def An(C:dc)(Q:dg)(c:Fk)(i e f d:V)(h:Hp):Prop:=oP (dD d) λj=>bO .gtr 3 j nZ (oP (dD d) λk=>oP (cX .sub 3 k nO) λl=>oP (eX 2 d l) λa=>dF 3 i h λm=>dN 0 a h λn=>dI 6 m n 3 h λg=>dN 1 a h λo=>oP (dD g) λp=>bO .eql 3 o p (dN 0 a h λq=>gJ (oX 3 1 1 nZ [(0,q)]) h λr R=>dz (c9 3 1 8 f r R) λs O=>oP (dD d) λt=>oP (cX .sub 3 t nO) λu=>oP (jl 2 d none (some u) O) λv=>c i e s v O) (dN 1 a h λw=>dX 1 g w h λb=>dN 1 a h λx=>oP (cX .add 3 x nO) λy=>oP (fe a) λz=>oP (dE 1 z) λA=>dz (fk 1 A y h) λZ S=>oP (dD e) λB=>cP C gU [b,B] S λD E=>oP (il D (oB (some e) λF=>oB (some b) λG=>oB (eX 1 F G) λH=>oB (df H E) λI=>lB .not I)) λJ=>bP J (oP (eX 1 e b) λK=>dz (fk 1 K bT E) λP T=>oP (nH [nZ,nZ] [(0,1),(1,1)] [(0,b),(1,nZ)]) λL=>gJ (oX 105 2 1 (V.agg [nZ,nZ]) [(0,L)]) T λM U=>dz (c9 105 2 16 d M U) λN W=>c i e f N W) (c i e f d E))) (cP C ij [f] h λX Y=>Q f Y)
theorem Gj{C Q}(I)(s:P4 I (An C Q)){k a b c d h}(i:I k a b c d h):AL C Q a b c d h:=WA.l4 I _ s i
def EB(C:dc)(Q:dg)(a0:V)(h:Hp):Prop:=gJ (qd 29 a0) h λc k=>dG 3 c k λb=>gJ (fc 4 1 1 bF b b) k λa d=>dG 3 c d λe=>bO .gtr 3 e nZ (oP (nH [nZ,nZ] [(0,1),(1,1)] []) λf=>gJ (oX 105 2 1 (V.agg [nZ,nZ]) [(0,f)]) d λg l=>dz (c9 105 2 16 nS g l) λi m=>oP (eX 1 a nZ) λj=>dz (fk 1 j bT m) λo n=>ve C Q c a nS i n) (ve C Q c a nS nS d)
theorem Kx{C}(s:C.start=dH){a0 h Q}(k:C.K ku [a0] h=none)(H:EB C Q a0 h):cP C ku [a0] h Q:=cP.vd t56 s (by unfold P0;exact Tryd.func56) k H
def t54:List (Nat×List Nat):=[(87,[3,13,14,15]),(22935,[3,4,13,14,15,21,22,23]),(498070,[3,4,13,14,15,21,22,23])]
def AI(C:dc)(Q:dg)(d a b c:V)(h:Hp):Prop:=∀ρ:dR,ρ 3=d->ρ 13=a->ρ 14=b->ρ 15=c->WA C Tryd.f54 t54 43 [] Q ρ h
def zX(C:dc)(Q:dg)(a:Fk)(i j b c d e f g:V)(h:Hp):Prop:=∀ρ:dR,ρ 3=i->ρ 4=j->ρ 13=b->ρ 14=c->ρ 15=d->ρ 21=e->ρ 22=f->ρ 23=g->WA C Tryd.f54 t54 11467 [λρ h=>a (ρ 3) (ρ 13) (ρ 14) (ρ 15) h] Q ρ h
def tp(C:dc)(Q:dg)(a:Fk)(b:Fc)(j k c d e f g i:V)(h:Hp):Prop:=∀ρ:dR,ρ 3=j->ρ 4=k->ρ 13=c->ρ 14=d->ρ 15=e->ρ 21=f->ρ 22=g->ρ 23=i->WA C Tryd.f54 t54 249035 [λρ h=>a (ρ 3) (ρ 13) (ρ 14) (ρ 15) h,λρ h=>b (ρ 3) (ρ 4) (ρ 13) (ρ 14) (ρ 15) (ρ 21) (ρ 22) (ρ 23) h] Q ρ h
def Ai(C:dc)(Q:dg)(e:Fk)(j b c a:V)(h:Hp):Prop:=bO .lss 3 a c (oP (eX 6 b a) λf=>oP (eg 6 f h) λg=>gJ (zC 41 [nS,nZ,nZ,nS,nS,nZ]) h λk m=>dz (fk 6 k g m) λn l=>dF 3 k l λd=>oP (dD d) λi=>zX C Q e j a b c a d i nZ l) (Q j h)
theorem Gv{C Q}(I)(s:P4 I (Ai C Q)){k d a b c h}(i:I k d a b c h):AI C Q d a b c h:=WA.l4 I _ s i
def AK(C:dc)(Q:dg)(b:Fk)(k:Fc)(j l c d e f g a:V)(h:Hp):Prop:=bO .lss 3 a g (dX 1 f a h λi=>oP (dD j) λm=>cP C gU [i,m] h λn o=>bP n (dX 1 j i o λp=>gJ (oX 3 1 1 nZ [(0,l)]) o λq u=>dz (c9 3 1 8 p q u) λr v=>oP (eX 1 j i) λs=>dz (fk 1 s r v) λx w=>tp C Q b k j l c d e f g a w) (tp C Q b k j l c d e f g a o)) (oP (cX .add 3 e nO) λt=>b j c d t h)
theorem Gt{C Q a}(I)(s:P8 I (AK C Q a)){k j l b c d e f g h}(i:I k j l b c d e f g h):zX C Q a j l b c d e f g h:=WA.l8 I _ s i
def zp(C:dc)(Q:dg)(j:Fk)(a:Fc)(k l b c d e f g:V)(h:Hp):Prop:=oP (cX .add 3 g nO) λi=>a k l b c d e f i h
theorem E6{C:dc}{Q:dg}{a:Fk}{b:Fc}{j k c d e f g i:V}{h:Hp}(H:zp C Q a b j k c d e f g i h):tp C Q a b j k c d e f g i h:=by
 rintro ρ rfl rfl rfl rfl rfl rfl rfl rfl;exact WA.of (by kernel_rfl) H
def EW(C:dc)(Q:dg)(a0:V)(h:Hp):Prop:=gJ (qd 29 a0) h λe f=>dG 3 e f λa=>gJ (fc 22 1 24 nS a a) f λc g=>dF 3 e g λb=>oP (dD b) λd=>AI C Q c b d nZ g
theorem Lv{C}(s:C.start=dH){a0 h Q}(k:C.K sU [a0] h=none)(H:EW C Q a0 h):cP C sU [a0] h Q:=cP.vd t54 s (by unfold P0;exact Tryd.func54) k H
def t38:List (Nat×List Nat):=[(175,[3,4,5,6,30,31]),(351,[3,4,5,6,38,39,40]),(5631,[3,4,5,10,11]),(370175,[3,4,5,10,11,59,60,61]),(362391039,[3,4,5,10,11,13,14,59,60,61,68,69,70]),(8147019262,[3,4,5,10,11,13,14,59,60,61,68,69,70]),(7972350,[3,4,5,10,11,59,60,61])]
def tA(C:dc)(Q:dg)(c d e f a b:V)(h:Hp):Prop:=∀ρ:dR,ρ 3=c->ρ 4=d->ρ 5=e->ρ 6=f->ρ 30=a->ρ 31=b->WA C Tryd.f38 t38 87 [] Q ρ h
def tN(C:dc)(Q:dg)(d e f g a b c:V)(h:Hp):Prop:=∀ρ:dR,ρ 3=d->ρ 4=e->ρ 5=f->ρ 6=g->ρ 38=a->ρ 39=b->ρ 40=c->WA C Tryd.f38 t38 175 [] Q ρ h
def tL(C:dc)(Q:dg)(c d e a b:V)(h:Hp):Prop:=∀ρ:dR,ρ 3=c->ρ 4=d->ρ 5=e->ρ 10=a->ρ 11=b->WA C Tryd.f38 t38 2815 [] Q ρ h
def tM(C:dc)(Q:dg)(a:DD)(g i j b c d e f:V)(h:Hp):Prop:=∀ρ:dR,ρ 3=g->ρ 4=i->ρ 5=j->ρ 10=b->ρ 11=c->ρ 59=d->ρ 60=e->ρ 61=f->WA C Tryd.f38 t38 185087 [λρ h=>a (ρ 3) (ρ 4) (ρ 5) (ρ 10) (ρ 11) h] Q ρ h
def tY(C:dc)(Q:dg)(a:DD)(b:Fc)(n o p c d e f g i j k l m:V)(h:Hp):Prop:=∀ρ:dR,ρ 3=n->ρ 4=o->ρ 5=p->ρ 10=c->ρ 11=d->ρ 13=e->ρ 14=f->ρ 59=g->ρ 60=i->ρ 61=j->ρ 68=k->ρ 69=l->ρ 70=m->WA C Tryd.f38 t38 181195519 [λρ h=>a (ρ 3) (ρ 4) (ρ 5) (ρ 10) (ρ 11) h,λρ h=>b (ρ 3) (ρ 4) (ρ 5) (ρ 10) (ρ 11) (ρ 59) (ρ 60) (ρ 61) h] Q ρ h
def jF(C:dc)(Q:dg)(a:DD)(b:Fc)(c:BW)(o p q d e f g i j k l m n:V)(h:Hp):Prop:=∀ρ:dR,ρ 3=o->ρ 4=p->ρ 5=q->ρ 10=d->ρ 11=e->ρ 13=f->ρ 14=g->ρ 59=i->ρ 60=j->ρ 61=k->ρ 68=l->ρ 69=m->ρ 70=n->WA C Tryd.f38 t38 4073509631 [λρ h=>a (ρ 3) (ρ 4) (ρ 5) (ρ 10) (ρ 11) h,λρ h=>b (ρ 3) (ρ 4) (ρ 5) (ρ 10) (ρ 11) (ρ 59) (ρ 60) (ρ 61) h,λρ h=>c (ρ 3) (ρ 4) (ρ 5) (ρ 10) (ρ 11) (ρ 13) (ρ 14) (ρ 59) (ρ 60) (ρ 61) (ρ 68) (ρ 69) (ρ 70) h] Q ρ h
def mb(C:dc)(Q:dg)(a:DD)(b:Fc)(i j k c d e f g:V)(h:Hp):Prop:=∀ρ:dR,ρ 3=i->ρ 4=j->ρ 5=k->ρ 10=c->ρ 11=d->ρ 59=e->ρ 60=f->ρ 61=g->WA C Tryd.f38 t38 3986175 [λρ h=>a (ρ 3) (ρ 4) (ρ 5) (ρ 10) (ρ 11) h,λρ h=>b (ρ 3) (ρ 4) (ρ 5) (ρ 10) (ρ 11) (ρ 59) (ρ 60) (ρ 61) h] Q ρ h
def tH(C:dc)(Q:dg)(d:N0)(c k e l b a:V)(h:Hp):Prop:=bO .lss 3 a b (oP (df e h) λf=>oP (eX 1 f a) λg=>dz (fk 1 g (V.I (-1)) h) λn m=>oP (cX .add 3 a nO) λi=>d c k e l b i m) (oP (dD c) λj=>tN C Q c k e l c j nZ h)
theorem Br{C Q}(I)(s:P6 I (tH C Q)){k c d e f a b h}(i:I k c d e f a b h):tA C Q c d e f a b h:=WA.l6 I _ s i
def tK(C:dc)(Q:dg)(e:Ke)(f q b g c d a:V)(h:Hp):Prop:=bO .lss 3 a d (dX 1 c a h λi=>oP (df g h) λj=>oP (eX 1 j i) λk=>dz (fk 1 k a h) λu s=>oP (cX .add 3 a nO) λl=>e f q b g c d l s) (oP (dD f) λm=>bO .eql 3 m nZ (oP (df b h) λn=>Q n h) (oP (df b h) λo=>oP (eX 1 o nZ) λp=>dz (fk 1 p nZ h) λr t=>tL C Q f q b (V.func fC [] [g,b]) bT t))
theorem Be{C Q}(I)(s:P7 I (tK C Q)){k d e f g a b c h}(i:I k d e f g a b c h):tN C Q d e f g a b c h:=WA.l7 I _ s i
def tS(C:dc)(Q:dg)(e:DD)(k m f g i:V)(h:Hp):Prop:=bP i (oP (jl 1 k (some nO) none h) λa=>oP (dD a) λj=>tM C Q e k m f g bF a j nZ h) (oP (df f h) λb=>oP (eX 1 b nZ) λc=>dz (fk 1 c (V.I (-1)) h) λn l=>oP (df f l) λd=>Q d l)
theorem Bd{C Q}(I)(s:P5 I (tS C Q)){k c d e a b h}(i:I k c d e a b h):tL C Q c d e a b h:=WA.l5 I _ s i
def tB(C:dc)(Q:dg)(b:DD)(j:Fc)(m k n c d e f a:V)(h:Hp):Prop:=bO .lss 3 a f (dX 1 e a h λg=>dX 1 k g h λi=>oP (dD i) λl=>tY C Q b j m k n c d g (V.I (-1)) e f a i l nZ h) (b m k n c d h)
theorem Bn{C Q a}(I)(s:P8 I (tB C Q a)){k g j l b c d e f h}(i:I k g j l b c d e f h):tM C Q a g j l b c d e f h:=WA.l8 I _ s i
def tW(C:dc)(Q:dg)(b:DD)(c:Fc)(o:BW)(q r n a k d e f g i l m j:V)(h:Hp):Prop:=bO .lss 3 j m (dX 1 l j h λp=>oP (df n h) λs=>dX 1 s p h λt=>bO .lss 3 t nZ (jF C Q b c o q r n a k d e f g i l m j h) (bO .lss 3 e nZ (jF C Q b c o q r n a k d p f g i l m j h) (G9 C (wD a [e,p]) h λu z=>jF C Q b c o q r n a k d u f g i l m j z))) (oP (df n h) λv=>dX 1 v d h λw=>bO .neq 3 w e (oP (df n h) λx=>oP (eX 1 x d) λy=>dz (fk 1 y e h) λB A=>mb C Q b c q r n a bT f g i A) (mb C Q b c q r n a k f g i h))
theorem Bl{C Q a b}(I)(s:Zr I (tW C Q a b)){k p q r c d e f g j l m n o h}(i:I k p q r c d e f g j l m n o h):tY C Q a b p q r c d e f g j l m n o h:=WA.WJ I _ s i
def jC(C:dc)(Q:dg)(n:DD)(o:Fc)(a:BW)(p q r b c d e f g i j k l:V)(h:Hp):Prop:=oP (cX .add 3 l nO) λm=>a p q r b c d e f g i j k m h
theorem lL{C:dc}{Q:dg}{a:DD}{b:Fc}{c:BW}{o p q d e f g i j k l m n:V}{h:Hp}(H:jC C Q a b c o p q d e f g i j k l m n h):jF C Q a b c o p q d e f g i j k l m n h:=by
 rintro ρ rfl rfl rfl rfl rfl rfl rfl rfl rfl rfl rfl rfl rfl;exact WA.of (by kernel_rfl) H
def lO(C:dc)(Q:dg)(i:DD)(a:Fc)(j k l b c d e f:V)(h:Hp):Prop:=oP (cX .add 3 f nO) λg=>a j k l b c d e g h
theorem sN{C:dc}{Q:dg}{a:DD}{b:Fc}{i j k c d e f g:V}{h:Hp}(H:lO C Q a b i j k c d e f g h):mb C Q a b i j k c d e f g h:=by
 rintro ρ rfl rfl rfl rfl rfl rfl rfl rfl;exact WA.of (by kernel_rfl) H
def yg(C:dc)(Q:dg)(a0:V)(h:Hp):Prop:=gJ (qd 29 a0) h λe m=>oP (eg 5 e m) λq=>oP (eg 5 e m) λf=>cP C ku [q] m λr n=>(m.next<=n.next/\((eg 5 e n=some f)/\cP C sU [f] n λs o=>(n.next<=o.next/\oP (dE 3 e) λg=>oP (df g o) λi=>oP (dD i) λj=>E0 (fc 3 1 8 nZ j j) o λt u p=>oP (dE 3 e) λb=>oP (df b p) λc=>oP (dD c) λk=>E0 (fc 3 1 8 nZ k k) p λd v D=>E0 (zC 22 [nS]) D λw x E=>E0 (zC 22 [nS]) E λy F a=>((a.get (E.next)=some y/\O.beq y y=true)/\((a.get (D.next)=some w/\O.beq w w=true)/\((a.get (p.next)=some d/\O.beq d d=true)/\((df b a=some c)/\((a.get (o.next)=some t/\O.beq t t=true)/\((df g a=some i)/\dz (fk 1 x u a) λH l=>(a.next<=l.next/\((l.get (p.next)=some d/\O.beq d d=true)/\((df b l=some c)/\dz (fk 1 F v l) λG z=>(l.next<=z.next/\oP (df x z) λA=>oP (dD A) λB=>tA C Q r s x F B nZ z)))))))))))))
theorem D3{C}(s:C.start=dH){a0 h Q}(k:C.K mn [a0] h=none)(H:yg C Q a0 h):cP C mn [a0] h Q:=cP.vd t38 s (by unfold P0;exact Tryd.func38) k H
def t57:List (Nat×List Nat):=[(19,[0,1,2,3])]
def rO(C:dc)(Q:dg)(a b c d:V)(h:Hp):Prop:=∀ρ:dR,ρ 0=a->ρ 1=b->ρ 2=c->ρ 3=d->WA C Tryd.f57 t57 9 [] Q ρ h
def rX(C:dc)(Q:dg)(a:Fk)(b c d e:V)(h:Hp):Prop:=bO .neq 3 b c (oP (df d h) λf=>dX 1 f b h λg=>oP (df d h) λi=>dX 1 i c h λj=>bO .gtr 3 g j (oP (df e h) λk=>dX 1 k b h λl=>a l c d e h) (oP (df e h) λm=>dX 1 m c h λn=>a b n d e h)) (Q b h)
theorem zL{C Q}(I)(s:P4 I (rX C Q)){k a b c d h}(i:I k a b c d h):rO C Q a b c d h:=WA.l4 I _ s i
def uQ(C:dc)(Q:dg)(a0 a1 a2 a3:V)(h:Hp):Prop:=rO C Q a0 a1 a2 a3 h
theorem B7{C}(s:C.start=dH){a0 a1 a2 a3 h Q}(k:C.K fC [a0,a1,a2,a3] h=none)(H:uQ C Q a0 a1 a2 a3 h):cP C fC [a0,a1,a2,a3] h Q:=cP.vd t57 s (by unfold P0;exact Tryd.func57) k H
def t31:List (Nat×List Nat):=[(43,[1,2,7])]
def sS(C:dc)(Q:dg)(a b c:V)(h:Hp):Prop:=∀ρ:dR,ρ 1=a->ρ 2=b->ρ 7=c->WA C Tryd.f31 t31 21 [] Q ρ h
def sP(C:dc)(Q:dg)(a:Mu)(e f b:V)(h:Hp):Prop:=bO .lss 3 b e (G9 C (wD f [b]) h λc g=>bN c (Q bF g) (oP (cX .add 3 b nO) λd=>a e f d g)) (Q bT h)
theorem zY{C Q}(I)(s:P3 I (sP C Q)){k a b c h}(i:I k a b c h):sS C Q a b c h:=WA.l3 I _ s i
def wk(C:dc)(Q:dg)(a0 a1 a2:V)(h:Hp):Prop:=sS C Q a1 a2 nZ h
theorem C7{C}(s:C.start=dH){a0 a1 a2 h Q}(k:C.K fV [a0,a1,a2] h=none)(H:wk C Q a0 a1 a2 h):cP C fV [a0,a1,a2] h Q:=cP.vd t31 s (by unfold P0;exact Tryd.func31) k H
def t47:List (Nat×List Nat):=[(43,[0,7,8,9]),(56522,[0,7,8,9,31])]
def qh(C:dc)(Q:dg)(a b c d:V)(h:Hp):Prop:=∀ρ:dR,ρ 0=a->ρ 7=b->ρ 8=c->ρ 9=d->WA C Tryd.f47 t47 21 [] Q ρ h
def gD(C:dc)(Q:dg)(a:Fk)(c d e f b:V)(h:Hp):Prop:=∀ρ:dR,ρ 0=c->ρ 7=d->ρ 8=e->ρ 9=f->ρ 31=b->WA C Tryd.f47 t47 28261 [λρ h=>a (ρ 0) (ρ 7) (ρ 8) (ρ 9) h] Q ρ h
def qx(C:dc)(Q:dg)(a:Fk)(c f g d:V)(h:Hp):Prop:=bO .lss 3 d g (dX 1 f d h λi=>oP (fe c) λm=>oP (dE 0 m) λn=>dG 2 n h λo=>cP C gU [i,o] h λp e=>bN p (Q bF e) (oP (fe c) λq=>oP (dE 0 q) λr=>dJ 2 r 6 i 0 e λb=>oP (cX .eql 3 b (V.I 19)) λj=>bP j (gD C Q a c f g d j e) (oP (cX .eql 3 b (V.I 20)) λk=>bP k (gD C Q a c f g d k e) (oP (cX .eql 3 b (V.I 22)) λl=>bP l (gD C Q a c f g d l e) (oP (cX .eql 3 b (V.I 23)) λs=>gD C Q a c f g d s e))))) (Q bT h)
theorem yR{C Q}(I)(s:P4 I (qx C Q)){k a b c d h}(i:I k a b c d h):qh C Q a b c d h:=WA.l4 I _ s i
def pF(C:dc)(Q:dg)(a:Fk)(d e f g b:V)(h:Hp):Prop:=bP b (Q bF h) (oP (cX .add 3 g nO) λc=>a d e f c h)
theorem xp{C:dc}{Q:dg}{a:Fk}{c d e f b:V}{h:Hp}(H:pF C Q a c d e f b h):gD C Q a c d e f b h:=by
 rintro ρ rfl rfl rfl rfl rfl;exact WA.of (by kernel_rfl) H
def tU(C:dc)(Q:dg)(a0 a1:V)(h:Hp):Prop:=oP (dD a1) λa=>qh C Q a0 a1 a nZ h
theorem Bf{C}(s:C.start=dH){a0 a1 h Q}(k:C.K fy [a0,a1] h=none)(H:tU C Q a0 a1 h):cP C fy [a0,a1] h Q:=cP.vd t47 s (by unfold P0;exact Tryd.func47) k H
def t32:List (Nat×List Nat):=[(175,[0,27,28,29])]
def qU(C:dc)(Q:dg)(d a b c:V)(h:Hp):Prop:=∀ρ:dR,ρ 0=d->ρ 27=a->ρ 28=b->ρ 29=c->WA C Tryd.f32 t32 87 [] Q ρ h
def qy(C:dc)(Q:dg)(i:Fk)(j d e c:V)(h:Hp):Prop:=bO .lss 3 c e (oP (eX 4 d c) λk=>oP (eg 4 k h) λl=>gJ (zC 47 [nZ,nZ,nS,nS]) h λf O=>dz (fk 4 f l O) λP g=>dG 2 f g λm=>oP (cX .gtr 3 m (V.I 40)) λn=>oP (kI n (oB (dE 3 f) λo=>oB (df o g) λp=>oB (dD p) λq=>cX .gtr 3 q (V.I 60))) λa=>oP (dA false a) λr=>oP (gV r (some j)) λs=>oP (dA false a) λt=>oP (gV t (dE 2 f)) λu=>oP (dA false a) λv=>oP (gV v (df u g)) λw=>oP (dA false a) λx=>oP (gC x (some (fy,[s,w]))) λy=>tv C y g λz M=>oP (kI a (lB .not z)) λb=>oP (dA false b) λA=>oP (gV A (some j)) λB=>oP (dA false b) λD=>oP (gV D (dE 3 f)) λE=>oP (dA false b) λF=>oP (gV F (df E M)) λG=>oP (dA false b) λH=>oP (gC H (some (fy,[B,G]))) λI=>tv C I M λJ N=>oP (kI b (lB .not J)) λK=>bP K (Q bF N) (oP (cX .add 3 c nO) λL=>i j d e L N)) (Q bT h)
theorem yH{C Q}(I)(s:P4 I (qy C Q)){k d a b c h}(i:I k d a b c h):qU C Q d a b c h:=WA.l4 I _ s i
def tR(C:dc)(Q:dg)(a0 a1:V)(h:Hp):Prop:=oP (fe a0) λp=>oP (dE 0 p) λd=>dF 4 d h λe=>oP (eX 1 e a1) λf=>oP (eg 1 f h) λg=>gJ (zC 50 [nS]) h λc q=>dz (fk 1 c g q) λr a=>dG 0 c a λi=>oP (cX .eql 3 i nZ) λj=>oP (kI j (oB (dE 0 c) λk=>oB (df k a) λl=>oB (dD l) λm=>cX .gtr 3 m (V.I 30))) λn=>bP n (Q bF a) (dF 0 c a λb=>oP (dD b) λo=>qU C Q a0 b o nZ a)
theorem Bh{C}(s:C.start=dH){a0 a1 h Q}(k:C.K iQ [a0,a1] h=none)(H:tR C Q a0 a1 h):cP C iQ [a0,a1] h Q:=cP.vd t32 s (by unfold P0;exact Tryd.func32) k H
def t33:List (Nat×List Nat):=[(87,[0,36,37]),(351,[0,4,51,52,53]),(190047,[0,4,5,7,51,52,53,59,60,61])]
def ql(C:dc)(Q:dg)(c a b:V)(h:Hp):Prop:=∀ρ:dR,ρ 0=c->ρ 36=a->ρ 37=b->WA C Tryd.f33 t33 43 [] Q ρ h
def q8(C:dc)(Q:dg)(d e a b c:V)(h:Hp):Prop:=∀ρ:dR,ρ 0=d->ρ 4=e->ρ 51=a->ρ 52=b->ρ 53=c->WA C Tryd.f33 t33 175 [] Q ρ h
def rh(C:dc)(Q:dg)(a:DD)(i j k l b c d e f g:V)(h:Hp):Prop:=∀ρ:dR,ρ 0=i->ρ 4=j->ρ 5=k->ρ 7=l->ρ 51=b->ρ 52=c->ρ 53=d->ρ 59=e->ρ 60=f->ρ 61=g->WA C Tryd.f33 t33 95023 [λρ h=>a (ρ 0) (ρ 4) (ρ 51) (ρ 52) (ρ 53) h] Q ρ h
def qE(C:dc)(Q:dg)(e:Mu)(d b a:V)(h:Hp):Prop:=bO .lss 3 a b (dN 5 d h λf=>oP (eX 1 f a) λg=>dz (fk 1 g (V.I (-1)) h) λn m=>oP (cX .add 3 a nO) λi=>e d b i m) (oP (fe d) λj=>oP (dE 0 j) λk=>dF 3 k h λc=>oP (dD c) λl=>q8 C Q d nZ c l nZ h)
theorem yP{C Q}(I)(s:P3 I (qE C Q)){k c a b h}(i:I k c a b h):ql C Q c a b h:=WA.l3 I _ s i
def qD(C:dc)(Q:dg)(j:DD)(n o b c a:V)(h:Hp):Prop:=bO .lss 3 a c (oP (eX 6 b a) λk=>oP (eg 6 k h) λl=>gJ (zC 41 [nS,nZ,nZ,nS,nS,nZ]) h λp r=>dz (fk 6 p l r) λs q=>dF 0 p q λd=>oP (dD d) λm=>rh C Q j n o a bT b c a d m nZ q) (oP (fe n) λe=>oP (dE 0 e) λf=>dG 2 f h λg=>oP (cX .eql 3 o g) λi=>Q i h)
theorem yN{C Q}(I)(s:P5 I (qD C Q)){k d e a b c h}(i:I k d e a b c h):q8 C Q d e a b c h:=WA.l5 I _ s i
def qT(C:dc)(Q:dg)(D:DD)(E:Et)(d x4 F x7 g i j k l b:V)(h:Hp):Prop:=bO .lss 3 b l (dX 1 k b h λa=>oP (fe d) λG=>oP (dE 0 G) λH=>dG 2 H h λI=>cP C gU [a,I] h λJ c=>oP (lB .not J) λK=>oP (kI K (oB (some d) λL=>oB (fe L) λM=>oB (dE 5 M) λN=>oB (df N c) λO=>oB (some a) λP=>oB (eX 1 O P) λR=>oB (df R c) λS=>cX .geq 3 S nZ)) λT=>bP T (Q bF c) (oP (fe d) λU=>oP (dE 0 U) λW=>dJ 2 W 6 a 0 c λe=>oP (cX .eql 3 e (V.I 21)) λX=>oP (kI X (oB (some e) λY=>cX .eql 3 Y nO)) λf=>oP (il f (oB (some x7) λm=>lB .not m)) λn=>oP (kI n (oB (some e) λo=>oB (cX .eql 3 o nO) λp=>oB (some F) λq=>oB (cX .eql 3 q nZ) λr=>oB (cX .neq 4 p r) λs=>oB (some s) λt=>il t (some f))) λu=>bP u (Q bF c) (dN 5 d c λv=>dN 6 d c λw=>oP (eX 1 v a) λx=>dz (fk 1 x F c) λvu Z=>(c.next<=Z.next/\oP (eX 1 w a) λy=>dz (fk 1 y b Z) λaa h3=>(Z.next<=h3.next/\oP (cX .add 3 x4 nO) λz=>oP (cX .add 3 b nO) λA=>E d z F f g i j k l A h3))))) (oP (cX .add 3 j nO) λB=>D d x4 g i B h)
theorem yM{C Q a}(I)(s:Y3 I (qT C Q a)){k j l m n b c d e f g h}(i:I k j l m n b c d e f g h):rh C Q a j l m n b c d e f g h:=WA.VB I _ s i
def tV(C:dc)(Q:dg)(a0:V)(h:Hp):Prop:=oP (fe a0) λl=>oP (dE 0 l) λm=>oP (dE 2 m) λc=>oP (df c h) λd=>oP (dD d) λe=>E0 (fc 3 1 8 nZ e e) h λn o j=>oP (fe a0) λp=>oP (dE 0 p) λq=>oP (dE 2 q) λf=>oP (df f j) λg=>oP (dD g) λi=>E0 (fc 3 1 8 nZ i i) j λa r b=>oP (fe a0) λs=>oP (dE 5 s) λt=>((b.get (j.next)=some a/\O.beq a a=true)/\((df f b=some g)/\((b.get (h.next)=some n/\O.beq n n=true)/\((df c b=some d)/\dz (fk 1 t o b) λA k=>(b.next<=k.next/\oP (fe a0) λu=>oP (dE 6 u) λv=>((k.get (j.next)=some a/\O.beq a a=true)/\dz (fk 1 v r k) λz w=>(k.next<=w.next/\oP (fe a0) λx=>dG 5 x w λy=>ql C Q a0 y nZ w)))))))
theorem Bp{C}(s:C.start=dH){a0 h Q}(k:C.K jY [a0] h=none)(H:tV C Q a0 h):cP C jY [a0] h Q:=cP.vd t33 s (by unfold P0;exact Tryd.func33) k H
section
variable (C:dc)(Q:X->dR->Hp->Prop)(ρ:dR)(h:Hp)
def LY:=Jd Tryd.f34
def Uo:=LY.r
def Uq:=LY.r.r
def Ub:=LY.r.r.l.r
def Uf:=LY.r.r.r
def WM:=andThen (Wp C 94 Uf Q) Q
def Ux:=LY.r.r.l.r.l.r
def Ur:=LY.r.r.r.l.r
def UL:=LY.r.r.r.r
def ZQ:=andThen (Wp C 94 UL Q) Q
def Um:=LY.r.r.r.l.r.l.r
def XT(C:dc)(Q:XQ):XQ:=uZ 0 Q
def T8:=LY.r.r.r.r.r
def T3:=LY.r.r.r.l.r.l.r.l.r
def QZ:=LY.r.r.r.l.r.l.r.r.r
def QI:=LY.r.r.r.l.r.l.r.r.r.l.r
def Q5:=LY.r.r.r.l.r.l.r.r.r.r.r
def Rr:=LY.r.r.r.l.r.l.r.r.r.r.r.l.r
theorem Z3:rQ C 94 LY Q ρ h=(oP (some (V.bool false)) λa=>
 Wp C 94 Uo Q (dW ρ 4 a) h):=by kernel_rfl
theorem XI:rQ C 94 Uo Q ρ h=(oP (some (ρ 0)) λe=>
 oP (fe e) λf=>
 oP (dE 0 f) λg=>
 oP (dE 2 g) λi=>
 oP (df i h) λa=>
 oP (some (ρ 1)) λb=>
 oP (eX 6 a b) λc=>
 oP (eg 6 c h) λd=>
 gJ (some (.cells 38 1 true false [(V.I 0),(V.I 0),(V.I 0),(V.I 0),V.cQ,(V.I 0)],λl=> .ptr l 0)) h λj k=>
 dz (fk 6 j d k) λn m=>
 Wp C 94 Uq Q (dW (dW (dW (dW (dW (dW (dW (dW (dW ρ 6 e) 7 f) 8 g) 9 i) 10 a) 11 b) 12 c) 13 d) 5 j) m):=by kernel_rfl
theorem XM:rQ C 94 Uq Q ρ h=(oP (dE 0 (ρ 5)) λd=>
 oP (df d h) λs=>
 ((df d h=some s)/\
 ((dE 0 (ρ 5)=some d)/\
 Y2 C yw [s] h λt D=>
 (h.next<=D.next/\
 oP (cX .eql 9 t (V.str [])) λe=>
 oP (some e) λb=>
 oP (dA false b) λW=>
 oP (gV W (some (ρ 0))) λf=>
 oP (dA false b) λb6=>
 oP (gV b6 (eg 6 (ρ 5) D)) λu=>
 ((gT b6 (eg 6 (ρ 5) D=some u))/\
 ((gT W (some (ρ 0)=some f))/\
 ((some e=some b)/\
 ((cX .eql 9 t (V.str [])=some e)/\
 oP (dA false b) λb7=>
 oP (gC b7 (some (pe,[u]))) λx7=>tv C x7 D λE X=>
 (D.next<=X.next/\
 ((gT W (some (ρ 0)=some f))/\
 oP (dA false b) λb8=>
 oP (gC b8 (some (fy,[f,E]))) λx8=>tv C x8 X λv F=>
 (X.next<=F.next/\
 oP (dA false b) λb9=>
 oP (gV b9 (lB .not v)) λg=>
 oP (js b (V.bool true) g) λi=>
 oP (some i) λc=>
 oP (dA false c) λG=>
 oP (gV G (dE 0 (ρ 5))) λj=>
 oP (dA false c) λH=>
 oP (gV H (df j F)) λw=>
 ((gT H (df j F=some w))/\
 ((gT G (dE 0 (ρ 5)=some j))/\
 ((some i=some c)/\
 ((js b (V.bool true) g=some i)/\
 ((gT b9 (lB .not v=some g))/\
 oP (dA false c) λY=>
 oP (gC Y (some (kD,[w]))) λZ=>tv C Z F λx y=>
 (F.next<=y.next/\
 oP (dA false c) λI=>
 oP (gV I (some x)) λa=>
 oP (dA true a) λJ=>
 oP (gV J (dE 5 (ρ 5))) λk=>
 oP (dA true a) λK=>
 oP (gV K (df k y)) λz=>
 oP (dA true a) λL=>
 oP (gV L (some (ρ 0))) λl=>
 oP (dA true a) λM=>
 oP (gV M (fe l)) λm=>
 oP (dA true a) λN=>
 oP (gV N (dE 0 m)) λn=>
 oP (dA true a) λO=>
 oP (gV O (dE 4 n)) λo=>
 oP (dA true a) λP=>
 oP (gV P (df o y)) λp=>
 oP (dA true a) λR=>
 oP (gV R (dD p)) λA=>
 ((gT R (dD p=some A))/\
 ((gT P (df o y=some p))/\
 ((gT O (dE 4 n=some o))/\
 ((gT N (dE 0 m=some n))/\
 ((gT M (fe l=some m))/\
 ((gT L (some (ρ 0)=some l))/\
 ((gT K (df k y=some z))/\
 ((gT J (dE 5 (ρ 5)=some k))/\
 ((gT I (some x=some a))/\
 oP (dA true a) λaa=>
 oP (gC aa (some (gU,[z,A]))) λab=>tv C ab y λB h5=>
 (y.next<=h5.next/\
 oP (dA true a) λS=>
 oP (gV S (lB .not B)) λq=>
 oP (dA false c) λT=>
 oP (gV T (js a q (V.bool false))) λr=>
 oP (js c (V.bool true) r) λU=>
 ((js c (V.bool true) r=some U)/\
 ((gT T (js a q (V.bool false)=some r))/\
 ((gT S (lB .not B=some q))/\
 Wp C 94 Ub (WM C Q) (dW (dW (dW (dW (dW (dW (dW (dW (dW (dW (dW (dW (dW (dW (dW (dW (dW (dW (dW (dW (dW (dW (dW (dW (dW (dW (dW (dW ρ 14 d) 15 s) 16 t) 17 e) 18 b) 19 f) 20 u) 21 E) 22 v) 23 g) 24 i) 25 c) 26 j) 27 w) 28 x) 29 a) 30 k) 31 z) 32 l) 33 m) 34 n) 35 o) 36 p) 37 A) 38 B) 39 q) 40 r) 41 U) h5)))))))))))))))))))))))))))))):=by kernel_rfl
theorem Xy:rQ C 94 Uf Q ρ h=(oP (dE 0 (ρ 5)) λa=>
 oP (df a h) λb=>
 Wp C 94 Ur (ZQ C Q) (dW (dW ρ 42 a) 43 b) h):=by kernel_rfl
theorem XD:rQ C 94 Ub Q ρ h=(oP (some (ρ 41)) λc=>
 bP c (
 oP (some (V.bool false)) λa=>
 Wp C 94 Ux Q (dW ρ 4 a) h) (
 Q .normal ρ h)):=by kernel_rfl
theorem WC:rQ C 94 UL Q ρ h=(oP (some (V.bool true)) λa=>
 Wp C 94 T8 Q (dW ρ 4 a) h):=by kernel_rfl
theorem XW:rQ C 94 Ur Q ρ h=(oP (cX .eql 3 (ρ 43) (V.I 20)) λa=>
 oP (some a) λb=>
 Wp C 94 Um (XT C Q) (dW (dW ρ 45 a) 44 b) h):=by kernel_rfl
theorem Xg:rQ C 94 T8 Q ρ h=(Q .ret ρ h):=by kernel_rfl
theorem Xd:rQ C 94 Ux Q ρ h=(Q .ret ρ h):=by kernel_rfl
theorem WO:rQ C 94 Um Q ρ h=(oP (some (ρ 44)) λc=>
 bP c (
 oP (dE 4 (ρ 5)) λa=>
 oP (df a h) λb=>
 oP (dD b) λd=>
 oP (cX .eql 3 d (V.I 1)) λe=>
 oP (some e) λi=>
 Wp C 94 T3 Q (dW (dW (dW (dW (dW ρ 46 a) 47 b) 48 d) 49 e) 4 i) h) (
 oP (cX .eql 3 (ρ 43) (V.I 21)) λf=>
 oP (some f) λg=>
 Wp C 94 QZ Q (dW (dW ρ 51 f) 50 g) h)):=by kernel_rfl
theorem WI:rQ C 94 T3 Q ρ h=(Q .ret ρ h):=by kernel_rfl
theorem UX:rQ C 94 QZ Q ρ h=(oP (some (ρ 50)) λc=>
 bP c (
 oP (dE 4 (ρ 5)) λa=>
 oP (df a h) λb=>
 oP (dD b) λd=>
 oP (some (ρ 0)) λe=>
 oP (fe e) λf=>
 oP (dE 0 f) λg=>
 oP (dE 3 g) λi=>
 oP (df i h) λj=>
 oP (some (ρ 0)) λk=>
 oP (fe k) λl=>
 oP (dE 5 l) λm=>
 oP (df m h) λn=>
 oP (some (ρ 1)) λo=>
 oP (eX 1 n o) λp=>
 oP (df p h) λq=>
 oP (eX 6 j q) λr=>
 oP (dE 4 r) λs=>
 oP (df s h) λt=>
 oP (dD t) λu=>
 oP (cX .eql 3 d u) λv=>
 oP (some v) λy=>
 ((some v=some y)/\
 ((cX .eql 3 d u=some v)/\
 ((dD t=some u)/\
 ((df s h=some t)/\
 ((dE 4 r=some s)/\
 ((eX 6 j q=some r)/\
 ((df p h=some q)/\
 ((eX 1 n o=some p)/\
 ((some (ρ 1)=some o)/\
 ((df m h=some n)/\
 ((dE 5 l=some m)/\
 ((fe k=some l)/\
 ((some (ρ 0)=some k)/\
 ((df i h=some j)/\
 ((dE 3 g=some i)/\
 ((dE 0 f=some g)/\
 ((fe e=some f)/\
 ((some (ρ 0)=some e)/\
 ((dD b=some d)/\
 ((df a h=some b)/\
 ((dE 4 (ρ 5)=some a)/\
 Wp C 94 QI Q (dW (dW (dW (dW (dW (dW (dW (dW (dW (dW (dW (dW (dW (dW (dW (dW (dW (dW (dW (dW (dW ρ 52 a) 53 b) 54 d) 55 e) 56 f) 57 g) 58 i) 59 j) 60 k) 61 l) 62 m) 63 n) 64 o) 65 p) 66 q) 67 r) 68 s) 69 t) 70 u) 71 v) 4 y) h)))))))))))))))))))))) (
 oP (cX .eql 3 (ρ 43) (V.I 1)) λw=>
 oP (some w) λx=>
 Wp C 94 Q5 Q (dW (dW ρ 73 w) 72 x) h)):=by kernel_rfl
theorem Vr:rQ C 94 QI Q ρ h=(Q .ret ρ h):=by kernel_rfl
theorem U3:rQ C 94 Q5 Q ρ h=(oP (some (ρ 72)) λc=>
 bP c (
 oP (dE 3 (ρ 5)) λd=>
 oP (df d h) λe=>
 oP (cX .geq 2 e (V.I 0)) λf=>
 oP (some f) λb=>
 oP (dA true b) λH=>
 oP (gV H (dE 3 (ρ 5))) λg=>
 oP (dA true b) λI=>
 oP (gV I (df g h)) λi=>
 oP (dA true b) λJ=>
 oP (gV J (cX .lss 2 i (V.I 40))) λj=>
 oP (js b j (V.bool false)) λk=>
 oP (some k) λa=>
 oP (dA true a) λK=>
 oP (gV K (some (ρ 0))) λl=>
 oP (dA true a) λw=>
 oP (gV w (fe l)) λm=>
 oP (dA true a) λx=>
 oP (gV x (dE 0 m)) λn=>
 oP (dA true a) λy=>
 oP (gV y (dE 2 n)) λo=>
 oP (dA true a) λz=>
 oP (gV z (df o h)) λp=>
 oP (dA true a) λA=>
 oP (gV A (some (ρ 1))) λq=>
 oP (dA true a) λB=>
 oP (gV B (jl 6 p none (some q) h)) λr=>
 oP (dA true a) λD=>
 oP (gV D (some (V.func fT [] [(ρ 5)]))) λs=>
 oP (dA true a) λE=>
 oP (gC E (some (en,[r,s]))) λF=>tv C F h λt L=>
 oP (dA true a) λG=>
 oP (gV G (lB .not t)) λu=>
 oP (js a u (V.bool false)) λv=>
 oP (some v) λM=>
 Wp C 94 Rr Q (dW (dW (dW (dW (dW (dW (dW (dW (dW (dW (dW (dW (dW (dW (dW (dW (dW (dW (dW (dW (dW ρ 74 d) 75 e) 76 f) 77 b) 78 g) 79 i) 80 j) 81 k) 82 a) 83 l) 84 m) 85 n) 86 o) 87 p) 88 q) 89 r) 90 s) 91 t) 92 u) 93 v) 4 M) L) (
 Q .normal ρ h)):=by kernel_rfl
theorem VR:rQ C 94 Rr Q ρ h=(Q .ret ρ h):=by kernel_rfl
theorem Z8{C:dc}(hs:C.start=dH)(a0 a1:V){h:Hp}{Q:dg}(hk:C.K gP [a0,a1] h=none)(H:rQ C 94 LY (FJ [.tmp 4] Q) (IF [a0,a1]) h):cP C gP [a0,a1] h Q:=
 cP.WZ hs (show P0.funcs[34]? =some Tryd.f34 by unfold P0;exact Tryd.func34) (by kernel_rfl) (by kernel_rfl) (by kernel_rfl) hk (EN rfl) (Wp.code _ H)
def qM(C:dc)(Q:dg)(a0 a1:V)(h:Hp):Prop:=oP (fe a0) λv7=>oP (dE 0 v7) λv8=>dF 2 v8 h λs=>oP (eX 6 s a1) λt=>oP (eg 6 t h) λu=>gJ (zC 38 [nZ,nZ,nZ,nZ,nS,nZ]) h λd h1=>dz (fk 6 d u h1) λvu v=>dF 0 d v λw=>cP C yw [w] v λx q=>(v.next<=q.next/\oP (cX .eql 9 x (V.str [])) λe=>oP (dA false e) λb5=>oP (gV b5 (some a0)) λy=>oP (dA false e) λb6=>oP (gV b6 (eg 6 d q)) λz=>oP (dA false e) λb7=>oP (gC b7 (some (pe,[z]))) λy7=>tv C y7 q λA B=>(q.next<=B.next/\oP (dA false e) λb8=>oP (gC b8 (some (fy,[y,A]))) λy8=>tv C y8 B λD r=>(B.next<=r.next/\oP (kI e (lB .not D)) λf=>oP (dA false f) λE=>oP (gV E (dE 0 d)) λF=>oP (dA false f) λG=>oP (gV G (df F r)) λH=>oP (dA false f) λI=>oP (gC I (some (kD,[H]))) λJ=>tv C J r λK o=>(r.next<=o.next/\oP (dA false f) λL=>oP (gV L (some K)) λa=>oP (dA true a) λM=>oP (gV M (dE 5 d)) λN=>oP (dA true a) λO=>oP (gV O (df N o)) λP=>oP (dA true a) λR=>oP (gV R (some a0)) λS=>oP (dA true a) λT=>oP (gV T (fe S)) λU=>oP (dA true a) λW=>oP (gV W (dE 0 U)) λX=>oP (dA true a) λY=>oP (gV Y (dE 4 X)) λZ=>oP (dA true a) λaa=>oP (gV aa (df Z o)) λab=>oP (dA true a) λac=>oP (gV ac (dD ab)) λae=>oP (dA true a) λag=>oP (gC ag (some (gU,[P,ae]))) λah=>tv C ah o λai c=>(o.next<=c.next/\oP (dA true a) λaj=>oP (gV aj (lB .not ai)) λak=>oP (kI f (js a ak bF)) λal=>bP al (Q bF c) (dF 0 d c λg=>bO .eql 3 g (V.I 20) (dG 4 d c λam=>oP (cX .eql 3 am nO) λan=>Q an c) (bO .eql 3 g (V.I 21) (dG 4 d c λao=>oP (fe a0) λap=>oP (dE 0 ap) λaq=>dF 3 aq c λar=>dN 5 a0 c λau=>dX 1 au a1 c λaw=>oP (eX 6 ar aw) λax=>dG 4 ax c λay=>oP (cX .eql 3 ao ay) λaA=>Q aA c) (bO .eql 3 g nO (dF 3 d c λaB=>oP (cX .geq 2 aB nZ) λaC=>oP (il aC (oB (dE 3 d) λaD=>oB (df aD c) λaE=>cX .lss 2 aE (V.I 40))) λb=>oP (dA true b) λp=>oP (gV p (some a0)) λaF=>oP (dA true b) λaG=>oP (gV aG (fe aF)) λaH=>oP (dA true b) λaI=>oP (gV aI (dE 0 aH)) λaJ=>oP (dA true b) λi=>oP (gV i (dE 2 aJ)) λaK=>oP (dA true b) λj=>oP (gV j (df aK c)) λaL=>oP (dA true b) λk=>oP (gV k (some a1)) λaM=>oP (dA true b) λl=>oP (gV l (jl 6 aL none (some aM) c)) λaN=>oP (dA true b) λm=>oP (gV m (some (V.func fT [] [d]))) λaO=>oP (dA true b) λn=>oP (gC n (some (en,[aN,aO]))) λaP=>tv C aP c λaQ h8=>oP (il b (lB .not aQ)) λaR=>Q aR h8) (Q bT c)))))))))
theorem Dl{C:dc}(hs:C.start=dH){a0 a1:V}{h:Hp}{Q:dg}(hk:C.K gP [a0,a1] h=none)(H:qM C Q a0 a1 h):cP C gP [a0,a1] h Q:=by
 unfold qM at H;exact Z8 hs _ _ hk ((Z3 _ _ _ _).mpr (Hr (Wp.of (XI _ _ _ _) (Hr (oM H λv7 _ H=>oM H λv8 _ H=>oM H λv9 _ H=>oM H λaq _ H=>Hr (oM H λar _ H=>oM H λau _ H=>alM H λv5 h1 H=>Y6 H λvu h2 H=>Wp.of (XM _ _ _ _) (oM H λaw b H=>oM H λax c H=>⟨c,⟨b,ZR H λay h3 H=>Yc H λH=>oM H λaA d H=>Hr (oM H λb5 _ H=>oM H λaB a H=>oM H λb6 _ H=>oM H λaC e H=>⟨(ta e),⟨(ta a),⟨rfl,⟨d,oM H λb7 _ H=>oM H λy7 _ H=>WS H λaD h4 H=>Yc H λH=>⟨(ta a),oM H λb8 _ H=>oM H λy8 _ H=>WS H λaE h5 H=>Yc H λH=>YA (Nj H) λH=>oM H λb9 Z H=>oM H λaF f H=>oM H λaG g H=>Hr (oM H λaH _ H=>oM H λaI i H=>oM H λaJ _ H=>oM H λaK j H=>⟨(ta j),⟨(ta i),⟨rfl,⟨g,⟨(ta f),oM H λaL _ H=>oM H λaM _ H=>WS H λaN h6 H=>Yc H λH=>oM H λaO _ H=>oM H λaP k H=>oM H λaQ _ H=>oM H λaR l H=>oM H λaS _ H=>oM H λaT m H=>oM H λaU _ H=>oM H λaV n H=>oM H λaW _ H=>oM H λaX o H=>oM H λaY _ H=>oM H λaZ p H=>oM H λa4 _ H=>oM H λa5 q H=>oM H λa6 _ H=>oM H λa7 r H=>oM H λa8 _ H=>oM H λa9 s H=>⟨(ta s),⟨(ta r),⟨(ta q),⟨(ta p),⟨(ta o),⟨(ta n),⟨(ta m),⟨(ta l),⟨(ta k),oM H λba _ H=>oM H λbb _ H=>WS H λbc h7 H=>Yc H λH=>oM H λbd _ H=>oM H λbe t H=>YA (Nj H) λH=>oM H λbf aa H=>oM H λbg u H=>oM H λbh v H=>⟨v,⟨(ta u),⟨(ta t),Wp.of (XD _ _ _ _) (Hr (bM H (λH=>Hr (Wp.of (Xd _ _ _ _) (H))) (λH=>Wp.of (Xy _ _ _ _) (oM H λbi _ H=>oM H λbj _ H=>Wp.of (XW _ _ _ _) (oM H λbm _ H=>Hr (Wp.of (WO _ _ _ _) (Hr (bM H (λH=>oM H λbn _ H=>oM H λbo _ H=>oM H λbp _ H=>oM H λbr _ H=>Hr (Wp.of (WI _ _ _ _) (H))) (λH=>oM H λbt _ H=>Hr (Wp.of (UX _ _ _ _) (Hr (bM H (λH=>oM H λbu w H=>oM H λbv x H=>oM H λbw y H=>Hr (oM H λbx z H=>oM H λbz A H=>oM H λbA B H=>oM H λbC D H=>Hr (oM H λbD E H=>oM H λbE F H=>oM H λbG G H=>Hr (oM H λbH I H=>oM H λbI J H=>oM H λbJ L H=>oM H λbK M H=>oM H λbL N H=>oM H λbQ O H=>oM H λbR P H=>Hr (⟨rfl,⟨P,⟨O,⟨N,⟨M,⟨L,⟨J,⟨I,⟨rfl,⟨G,⟨F,⟨E,⟨rfl,⟨D,⟨B,⟨A,⟨z,⟨rfl,⟨y,⟨x,⟨w,Wp.of (Vr _ _ _ _) (H)⟩⟩⟩⟩⟩⟩⟩⟩⟩⟩⟩⟩⟩⟩⟩⟩⟩⟩⟩⟩⟩))))) (λH=>oM H λbS _ H=>Hr (Wp.of (U3 _ _ _ _) (Hr (bM H (λH=>oM H λbU _ H=>oM H λbV _ H=>oM H λbW _ H=>Hr (YA (Kt H) λH=>Zv H λb4 ab bX ac H=>Zv H λae ag bY ah H=>oM H λai aj H=>oM H λbZ ak H=>oM H λca al H=>Hr (oM H λam _ H=>oM H λcb _ H=>oM H λcd _ H=>oM H λce _ H=>oM H λcf _ H=>oM H λcg _ H=>oM H λR _ H=>oM H λci _ H=>oM H λS _ H=>oM H λcj _ H=>oM H λT _ H=>oM H λcl _ H=>oM H λU _ H=>oM H λcm _ H=>oM H λW _ H=>oM H λcn _ H=>oM H λX _ H=>oM H λco _ H=>WS H λcp h8 H=>YA (Kt H) λH=>oM H λY an H=>oM H λcq ao H=>oM H λcr ap H=>Hr (Wp.of (VR _ _ _ _) (H))))) (λH=>Wp.of (WC _ _ _ _) (Hr (Wp.of (Xg _ _ _ _) (H))))))))))))))))))))⟩⟩⟩⟩⟩⟩⟩⟩⟩⟩⟩⟩⟩⟩⟩⟩⟩)⟩⟩⟩⟩⟩)⟩⟩)))))))
end
def t35:List (Nat×List Nat):=[(87,[0,5,17,18,19])]
def rA(C:dc)(Q:dg)(d e a b c:V)(h:Hp):Prop:=∀ρ:dR,ρ 0=d->ρ 5=e->ρ 17=a->ρ 18=b->ρ 19=c->WA C Tryd.f35 t35 43 [] Q ρ h
def rN(C:dc)(Q:dg)(o:DD)(n c f g d:V)(h:Hp):Prop:=bO .lss 3 d g (dX 1 f d h λp=>oP (fe n) λq=>oP (dE 0 q) λs=>dG 3 s h λt=>cP C gU [p,t] h λu Y=>bN u (Q bF Y) (oP (cX .add 3 d nO) λv=>o n c f g v Y)) (dF 1 c h λe=>bO .eql 3 e nO (dG 3 c h λw=>oP (cX .eql 3 w nO) λx=>Q x h) (bO .eql 3 e (V.I 2) (dG 3 c h λy=>oP (cX .eql 3 y (V.I 2)) λb=>oP (dA true b) λb5=>oP (gV b5 (some n)) λz=>oP (dA true b) λb6=>oP (gV b6 (dE 2 c)) λA=>oP (dA true b) λb7=>oP (gV b7 (df A h)) λB=>oP (dA true b) λb8=>ZL b8 h (oB (oX 3 1 1 nZ [(0,B)]) λr=>some (r.2 h.next,h.new r.1)) λD h2=>oP (dA true b) λb9=>oP (gC b9 (some (fy,[z,D]))) λy9=>tv C y9 h2 λE h3=>oP (js b E bF) λF=>Q F h3) (bO .eql 3 e (V.I 3) (dG 3 c h λG=>oP (cX .eql 3 G nZ) λa=>oP (dA true a) λi=>oP (gV i (dE 5 c)) λH=>oP (dA true a) λj=>oP (gV j (df H h)) λI=>oP (dA true a) λk=>oP (gV k (some n)) λJ=>oP (dA true a) λl=>oP (gV l (fe J)) λK=>oP (dA true a) λm=>oP (gV m (dE 0 K)) λL=>oP (dA true a) λM=>oP (gV M (dE 4 L)) λN=>oP (dA true a) λO=>oP (gV O (df N h)) λP=>oP (dA true a) λR=>oP (gV R (dD P)) λS=>oP (dA true a) λT=>oP (gC T (some (gU,[I,S]))) λU=>tv C U h λW Z=>(h.next<=Z.next/\oP (js a W bF) λX=>Q X Z)) (Q bF h))))
theorem zI{C Q}(I)(s:P5 I (rN C Q)){k d e a b c h}(i:I k d e a b c h):rA C Q d e a b c h:=WA.l5 I _ s i
def uK(C:dc)(Q:dg)(a0 a1:V)(h:Hp):Prop:=oP (fe a0) λj=>oP (dE 0 j) λb=>dF 3 b h λc=>oP (eX 6 c a1) λd=>oP (eg 6 d h) λe=>gJ (zC 41 [nS,nZ,nZ,nS,nS,nZ]) h λf k=>dz (fk 6 f e k) λl i=>dF 3 f i λa=>oP (dD a) λg=>rA C Q a0 f a g nZ i
theorem Ca{C}(s:C.start=dH){a0 a1 h Q}(k:C.K jd [a0,a1] h=none)(H:uK C Q a0 a1 h):cP C jd [a0,a1] h Q:=cP.vd t35 s (by unfold P0;exact Tryd.func35) k H
def t36:List (Nat×List Nat):=[(171,[0,1,16,17,18]),(14,[0,1]),(175,[0,7,54,55,56])]
def sY(C:dc)(Q:dg)(d e a b c:V)(h:Hp):Prop:=∀ρ:dR,ρ 0=d->ρ 1=e->ρ 16=a->ρ 17=b->ρ 18=c->WA C Tryd.f36 t36 85 [] Q ρ h
def jD(C:dc)(Q:dg)(a b:V)(h:Hp):Prop:=∀ρ:dR,ρ 0=a->ρ 1=b->WA C Tryd.f36 t36 7 [] Q ρ h
def sO(C:dc)(Q:dg)(d e a b c:V)(h:Hp):Prop:=∀ρ:dR,ρ 0=d->ρ 7=e->ρ 54=a->ρ 55=b->ρ 56=c->WA C Tryd.f36 t36 87 [] Q ρ h
def tg(C:dc)(Q:dg)(e:DD)(f t b c a:V)(h:Hp):Prop:=bO .lss 3 a c (dX 1 b a h λd=>oP (fe f) λg=>oP (dE 0 g) λi=>dJ 3 i 6 a 4 h λj=>cP C iU [d,j] h λk u=>oP (lB .not k) λl=>oP (kI l (oB (some a) λm=>oB (cX .eql 3 m nZ) λn=>oB (some n) λo=>il o (oB (some d) λp=>oB (dD p) λq=>cX .gtr 3 q nZ))) λr=>bP r (Q bF u) (oP (cX .add 3 a nO) λs=>e f t b c s u)) (jD C Q f t h)
theorem z6{C Q}(I)(s:P5 I (tg C Q)){k d e a b c h}(i:I k d e a b c h):sY C Q d e a b c h:=WA.l5 I _ s i
def tf(C:dc)(Q:dg)(j l:V)(h:Hp):Prop:=oP (fe j) λb=>oP (dE 0 b) λc=>dF 3 c h λd=>oP (eX 6 d l) λe=>oP (eg 6 e h) λf=>gJ (zC 41 [nS,nZ,nZ,nS,nS,nZ]) h λg m=>dz (fk 6 g f m) λn k=>dF 3 g k λa=>oP (dD a) λi=>sO C Q j g a i nZ k
theorem AG{C:dc}{Q:dg}{a b:V}{h:Hp}(H:tf C Q a b h):jD C Q a b h:=by
 rintro ρ rfl rfl;exact WA.of (by kernel_rfl) H
def sW(C:dc)(Q:dg)(d:DD)(u v b c a:V)(h:Hp):Prop:=bO .lss 3 a c (dX 1 b a h λe=>dF 1 v h λf=>oP (cX .eql 3 f (V.I 2)) λg=>oP (il g (oB (some u) λi=>oB (fe i) λj=>oB (dE 0 j) λk=>oB (dE 3 k) λl=>oB (df l h) λm=>oB (some e) λn=>oB (eX 6 m n) λo=>oB (dE 4 o) λp=>oB (df p h) λq=>oB (dD q) λr=>cX .neq 3 r nO)) λs=>bP s (Q bF h) (oP (cX .add 3 a nO) λt=>d u v b c t h)) (Q bT h)
theorem AA{C Q}(I)(s:P5 I (sW C Q)){k d e a b c h}(i:I k d e a b c h):sO C Q d e a b c h:=WA.l5 I _ s i
def wE(C:dc)(Q:dg)(a0 a1:V)(h:Hp):Prop:=bO .eql 3 a1 nZ (oP (fe a0) λb=>oP (dE 0 b) λc=>oP (eg 5 c h) λd=>cP C sU [d] h λa f=>oP (dD a) λe=>sY C Q a0 a1 a e nZ f) (jD C Q a0 a1 h)
theorem CD{C}(s:C.start=dH){a0 a1 h Q}(k:C.K jE [a0,a1] h=none)(H:wE C Q a0 a1 h):cP C jE [a0,a1] h Q:=cP.vd t36 s (by unfold P0;exact Tryd.func36) k H
def t37:List (Nat×List Nat):=[]
def tX(C:dc)(Q:dg)(a0:V)(h:Hp):Prop:=oP (fe a0) λa=>oP (dE 0 a) λb=>oP (eg 5 b h) λc=>cP C ku [c] h λd e=>Q d e
theorem Bi{C}(s:C.start=dH){a0 h Q}(k:C.K nB [a0] h=none)(H:tX C Q a0 h):cP C nB [a0] h Q:=cP.vd t37 s (by unfold P0;exact Tryd.func37) k H
def t74:List (Nat×List Nat):=[(19,[0,1,2])]
def lF(C:dc)(Q:dg)(a b c:V)(h:Hp):Prop:=∀ρ:dR,ρ 0=a->ρ 1=b->ρ 2=c->WA C Tryd.f74 t74 9 [] Q ρ h
def lM(C:dc)(Q:dg)(a:Mu)(e f b:V)(h:Hp):Prop:=bO .geq 3 b nZ (bO .eql 3 f b (Q bT h) (dN 7 e h λc=>dX 1 c b h λd=>a e f d h)) (Q bF h)
theorem uT{C Q}(I)(s:P3 I (lM C Q)){k a b c h}(i:I k a b c h):lF C Q a b c h:=WA.l3 I _ s i
def pI(C:dc)(Q:dg)(a0 a1 a2:V)(h:Hp):Prop:=lF C Q a0 a1 a2 h
theorem xK{C}(s:C.start=dH){a0 a1 a2 h Q}(k:C.K iA [a0,a1,a2] h=none)(H:pI C Q a0 a1 a2 h):cP C iA [a0,a1,a2] h Q:=cP.vd t74 s (by unfold P0;exact Tryd.func74) k H
def t58:List (Nat×List Nat):=[(43,[0,2,3,11,12,13])]
def rD(C:dc)(Q:dg)(d e f a b c:V)(h:Hp):Prop:=∀ρ:dR,ρ 0=d->ρ 2=e->ρ 3=f->ρ 11=a->ρ 12=b->ρ 13=c->WA C Tryd.f58 t58 21 [] Q ρ h
def ru(C:dc)(Q:dg)(g:N0)(d i T e f b:V)(h:Hp):Prop:=bO .lss 3 b f (dX 1 e b h λc=>dN 5 d h λj=>dX 1 j c h λk=>oP (cX .eql 3 k i) λl=>oP (il l (oB (some d) λm=>oB (fe m) λn=>oB (dE 6 n) λo=>oB (df o h) λp=>oB (some c) λq=>oB (eX 1 p q) λr=>oB (df r h) λs=>oB (some T) λt=>cX .geq 3 s t)) λa=>oP (dA false a) λu=>oP (gV u (some d)) λv=>oP (dA false a) λw=>oP (gV w (some d)) λx=>oP (dA false a) λy=>oP (gV y (fe x)) λz=>oP (dA false a) λA=>oP (gV A (dE 5 z)) λB=>oP (dA false a) λD=>oP (gV D (df B h)) λE=>oP (dA false a) λF=>oP (gV F (some c)) λG=>oP (dA false a) λH=>oP (gV H (eX 1 E G)) λI=>oP (dA false a) λJ=>oP (gV J (df I h)) λK=>oP (dA false a) λL=>oP (gV L (some i)) λM=>oP (dA false a) λN=>oP (gC N (some (iA,[v,K,M]))) λO=>tv C O h λP U=>oP (kI a (lB .not P)) λR=>bP R (Q bF U) (oP (cX .add 3 b nO) λS=>g d i T e f S U)) (Q bT h)
theorem zx{C Q}(I)(s:P6 I (ru C Q)){k d e f a b c h}(i:I k d e f a b c h):rD C Q d e f a b c h:=WA.l6 I _ s i
def uS(C:dc)(Q:dg)(a0 a1 a2 a3:V)(h:Hp):Prop:=oP (dD a1) λa=>rD C Q a0 a2 a3 a1 a nZ h
theorem B9{C}(s:C.start=dH){a0 a1 a2 a3 h Q}(k:C.K fD [a0,a1,a2,a3] h=none)(H:uS C Q a0 a1 a2 a3 h):cP C fD [a0,a1,a2,a3] h Q:=cP.vd t58 s (by unfold P0;exact Tryd.func58) k H
def t59:List (Nat×List Nat):=[(43,[0,2,3,19,20,21])]
def lP(C:dc)(Q:dg)(d e f a b c:V)(h:Hp):Prop:=∀ρ:dR,ρ 0=d->ρ 2=e->ρ 3=f->ρ 19=a->ρ 20=b->ρ 21=c->WA C Tryd.f59 t59 21 [] Q ρ h
def mi(C:dc)(Q:dg)(f:N0)(g i j d e b:V)(h:Hp):Prop:=bO .lss 3 b e (oP (eX 4 d b) λk=>oP (eg 4 k h) λl=>gJ (zC 47 [nZ,nZ,nS,nS]) h λc F=>dz (fk 4 c l F) λI B=>dF 2 c B λm=>cP C fD [g,m,i,j] B λn D=>oP (lB .not n) λa=>oP (dA false a) λG=>oP (gV G (some g)) λo=>oP (dA false a) λH=>oP (gV H (dE 3 c)) λp=>oP (dA false a) λq=>oP (gV q (df p D)) λr=>oP (dA false a) λs=>oP (gV s (some i)) λt=>oP (dA false a) λu=>oP (gV u (some j)) λv=>oP (dA false a) λw=>oP (gC w (some (fD,[o,r,t,v]))) λx=>tv C x D λy E=>oP (kI a (lB .not y)) λz=>bP z (Q bF E) (oP (cX .add 3 b nO) λA=>f g i j d e A E)) (Q bT h)
theorem vt{C Q}(I)(s:P6 I (mi C Q)){k d e f a b c h}(i:I k d e f a b c h):lP C Q d e f a b c h:=WA.l6 I _ s i
def pN(C:dc)(Q:dg)(a0 a1 a2 a3:V)(h:Hp):Prop:=oP (fe a0) λb=>oP (dE 0 b) λc=>dJ 4 c 1 a1 0 h λa=>oP (dD a) λd=>lP C Q a0 a2 a3 a d nZ h
theorem xA{C}(s:C.start=dH){a0 a1 a2 a3 h Q}(k:C.K fB [a0,a1,a2,a3] h=none)(H:pN C Q a0 a1 a2 a3 h):cP C fB [a0,a1,a2,a3] h Q:=cP.vd t59 s (by unfold P0;exact Tryd.func59) k H
def t39:List (Nat×List Nat):=[(175,[0,1,5,6,24,25,26]),(1356591,[0,1,5,6,24,25,26,43,44,45]),(3886,[0,1,5,6,24,25,26])]
def qj(C:dc)(Q:dg)(d e f g a b c:V)(h:Hp):Prop:=∀ρ:dR,ρ 0=d->ρ 1=e->ρ 5=f->ρ 6=g->ρ 24=a->ρ 25=b->ρ 26=c->WA C Tryd.f39 t39 87 [] Q ρ h
def qO(C:dc)(Q:dg)(a:Ke)(i j k l b c d e f g:V)(h:Hp):Prop:=∀ρ:dR,ρ 0=i->ρ 1=j->ρ 5=k->ρ 6=l->ρ 24=b->ρ 25=c->ρ 26=d->ρ 43=e->ρ 44=f->ρ 45=g->WA C Tryd.f39 t39 678295 [λρ h=>a (ρ 0) (ρ 1) (ρ 5) (ρ 6) (ρ 24) (ρ 25) (ρ 26) h] Q ρ h
def j7(C:dc)(Q:dg)(a:Ke)(e f g i b c d:V)(h:Hp):Prop:=∀ρ:dR,ρ 0=e->ρ 1=f->ρ 5=g->ρ 6=i->ρ 24=b->ρ 25=c->ρ 26=d->WA C Tryd.f39 t39 1943 [λρ h=>a (ρ 0) (ρ 1) (ρ 5) (ρ 6) (ρ 24) (ρ 25) (ρ 26) h] Q ρ h
def qm(C:dc)(Q:dg)(j:Ke)(d g k t e f b:V)(h:Hp):Prop:=bO .lss 3 b f (dX 1 e b h λu=>oP (fe d) λv=>oP (dE 0 v) λw=>dF 2 w h λx=>oP (eX 6 x u) λy=>oP (eg 6 y h) λz=>gJ (zC 38 [nZ,nZ,nZ,nZ,nS,nZ]) h λi h1=>dz (fk 6 i z h1) λvu l=>dF 0 i l λA=>bO .eql 3 A (V.I 21) (dF 4 i l λm=>oP (dD m) λB=>qO C Q j d g k t e f b m B nZ l) (oP (eg 6 i l) λD=>cP C pe [D] l λE h3=>cP C fD [d,E,g,b] h3 λF h4=>oP (lB .not F) λc=>oP (dA false c) λb8=>oP (gV b8 (dE 0 i)) λG=>oP (dA false c) λb9=>oP (gV b9 (df G h4)) λH=>oP (dA false c) λI=>oP (gC I (some (kD,[H]))) λJ=>tv C J h4 λK h5=>oP (dA false c) λL=>oP (gV L (some K)) λa=>oP (dA true a) λM=>oP (gV M (some d)) λN=>oP (dA true a) λO=>oP (gV O (dE 5 i)) λP=>oP (dA true a) λR=>oP (gV R (df P h5)) λS=>oP (dA true a) λT=>oP (gV T (some g)) λU=>oP (dA true a) λW=>oP (gV W (some b)) λX=>oP (dA true a) λY=>oP (gC Y (some (fB,[N,S,U,X]))) λZ=>tv C Z h5 λaa h6=>oP (dA true a) λab=>oP (gV ab (lB .not aa)) λac=>oP (kI c (js a ac bF)) λae=>bP ae (Q bF h6) (j7 C Q j d g k t e f b h6))) (dF 1 k h λn=>bO .eql 3 n (V.I 2) (dF 2 k h λo=>gJ (oX 3 1 1 nZ [(0,o)]) h λp h7=>cP C fD [d,p,g,t] h7 λq h8=>Q q h8) (bO .eql 3 n (V.I 3) (dF 5 k h λr=>cP C fB [d,r,g,t] h λs h9=>Q s h9) (Q bT h)))
theorem za{C Q}(I)(s:P7 I (qm C Q)){k d e f g a b c h}(i:I k d e f g a b c h):qj C Q d e f g a b c h:=WA.l7 I _ s i
def qB(C:dc)(Q:dg)(k:Ke)(l:Et)(i z j A c d e f g a:V)(h:Hp):Prop:=bO .lss 3 a g (dX 1 f a h λm=>E0 (oX 3 1 1 nZ [(0,m)]) h λn o b=>dY 4 j 1 a b λp=>oP (fe i) λq=>oP (dE 0 q) λr=>dF 3 r b λs=>dY 4 j 1 a b λt=>oP (eX 6 s t) λu=>dG 0 u b λv=>((b.get (h.next)=some n/\O.beq n n=true)/\cP C fD [i,o,p,v] b λw x=>(b.next<=x.next/\bN w (Q bF x) (oP (cX .add 3 a nO) λy=>l i z j A c d e f g y x)))) (j7 C Q k i z j A c d e h)
theorem yB{C Q a}(I)(s:Y3 I (qB C Q a)){k j l m n b c d e f g h}(i:I k j l m n b c d e f g h):qO C Q a j l m n b c d e f g h:=WA.VB I _ s i
def j8(C:dc)(Q:dg)(a:Ke)(f g i j b c d:V)(h:Hp):Prop:=oP (cX .add 3 d nO) λe=>a f g i j b c e h
theorem pE{C:dc}{Q:dg}{a:Ke}{e f g i b c d:V}{h:Hp}(H:j8 C Q a e f g i b c d h):j7 C Q a e f g i b c d h:=by
 rintro ρ rfl rfl rfl rfl rfl rfl rfl;exact WA.of (by kernel_rfl) H
def tF(C:dc)(Q:dg)(a0 a1:V)(h:Hp):Prop:=oP (fe a0) λc=>oP (dE 0 c) λd=>dF 3 d h λe=>oP (eX 6 e a1) λf=>oP (eg 6 f h) λg=>gJ (zC 41 [nS,nZ,nZ,nS,nS,nZ]) h λb l=>dz (fk 6 b g l) λm i=>dG 0 b i λj=>dF 0 b i λa=>oP (dD a) λk=>qj C Q a0 a1 b j a k nZ i
theorem Bb{C}(s:C.start=dH){a0 a1 h Q}(k:C.K iP [a0,a1] h=none)(H:tF C Q a0 a1 h):cP C iP [a0,a1] h Q:=cP.vd t39 s (by unfold P0;exact Tryd.func39) k H
def t12:List (Nat×List Nat):=[]
def Ez(C:dc)(Q:dg)(a0:V)(h:Hp):Prop:=gJ (qd 29 a0) h λe f=>dG 2 e f λv7=>oP (cX .gtr 3 v7 (V.I 3000)) λv8=>oP (kI v8 (oB (dE 3 e) λp=>oB (df p f) λq=>oB (dD q) λr=>cX .gtr 3 r (V.I 300))) λs=>oP (kI s (oB (dE 4 e) λt=>oB (df t f) λu=>oB (dD u) λv=>cX .gtr 3 v (V.I 1000))) λw=>oP (kI w (oB (dE 3 e) λx=>oB (df x f) λy=>oB (dD y) λz=>cX .eql 3 z nZ)) λA=>bP A (Q bF f) (oP (eg 5 e f) λB=>oP (nH [nZ,nZ,nS,nS,nS,nS,nS,nS] [(0,5),(5,1),(6,1),(7,1)] [(0,B)]) λD=>gJ (qd 75 D) f λa h2=>dG 4 e h2 λE=>cP C fV [a,E,(V.func iQ [a] [])] h2 λF h3=>oP (lB .not F) λg=>oP (dA false g) λb9=>oP (gV b9 (some a)) λG=>oP (dA false g) λH=>oP (gC H (some (jY,[G]))) λI=>tv C I h3 λJ h4=>oP (kI g (lB .not J)) λb=>oP (dA false b) λi=>oP (gV i (some a)) λK=>oP (dA false b) λL=>oP (gV L (dE 2 e)) λM=>oP (dA false b) λN=>oP (gV N (df M h4)) λO=>oP (dA false b) λj=>oP (gV j (dD O)) λP=>oP (dA false b) λk=>oP (gV k (some a)) λR=>oP (dA false b) λl=>oP (gV l (some (V.func gP [R] []))) λS=>oP (dA false b) λm=>oP (gC m (some (fV,[K,P,S]))) λT=>tv C T h4 λU h5=>oP (kI b (lB .not U)) λc=>oP (dA false c) λW=>oP (gV W (some a)) λX=>oP (dA false c) λY=>oP (gV Y (dE 3 e)) λZ=>oP (dA false c) λaa=>oP (gV aa (df Z h5)) λab=>oP (dA false c) λac=>oP (gV ac (dD ab)) λae=>oP (dA false c) λag=>oP (gV ag (some a)) λah=>oP (dA false c) λai=>oP (gV ai (some (V.func jd [ah] []))) λaj=>oP (dA false c) λak=>oP (gC ak (some (fV,[X,ae,aj]))) λal=>tv C al h5 λam h6=>oP (kI c (lB .not am)) λd=>oP (dA false d) λan=>oP (gV an (some a)) λao=>oP (dA false d) λap=>oP (gV ap (dE 3 e)) λaq=>oP (dA false d) λar=>oP (gV ar (df aq h6)) λau=>oP (dA false d) λaw=>oP (gV aw (dD au)) λax=>oP (dA false d) λay=>oP (gV ay (some a)) λaA=>oP (dA false d) λaB=>oP (gV aB (some (V.func jE [aA] []))) λaC=>oP (dA false d) λaD=>oP (gC aD (some (fV,[ao,ax,aC]))) λaE=>tv C aE h6 λaF h7=>oP (kI d (lB .not aF)) λaG=>bP aG (Q bF h7) (cP C nB [a] h7 λaH o=>oP (dD aH) λaI=>dG 3 e o λaJ=>bO .neq 3 aI aJ (Q bF o) (oP (eg 5 e o) λaK=>cP C mn [aK] o λaL h9=>oP (fe a) λaM=>oP (dE 7 aM) λaN=>dz (fk 1 aN aL h9) λvu n=>dG 3 e n λaO=>cP C fV [a,aO,(V.func iP [a] [])] n λaP aQ=>Q aP aQ)))
theorem Lf{C}(s:C.start=dH){a0 h Q}(k:C.K wz [a0] h=none)(H:Ez C Q a0 h):cP C wz [a0] h Q:=cP.vd t12 s (by unfold P0;exact Tryd.func12) k H
end
