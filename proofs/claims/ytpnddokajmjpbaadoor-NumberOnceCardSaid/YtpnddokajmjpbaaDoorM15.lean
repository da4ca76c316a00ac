/- Parts. -/
import Derived.Test.YtpnddokajmjpbaaDoorM14
namespace Go.Proofs.YtpnddokajmjpbaaDoor.Hx
set_option maxRecDepth 100000
noncomputable section
def t39:List (Nat×List Nat):=[]
def uf (C:fu)(Q:fx)(a0 a1 a2:V)(h:Hp):Prop:=
 ij (nP 42 a0) h λt a=>
 oP (fH 2 a1) λu=>
 oP (ev u a) λv=>
 oP (gg 6 t a) λw=>
 ij (iZ 42 6 1 (V.agg [nZ,nZ,nZ,nZ,nS,nZ]) [(0,w)]) a λx y=>
 fm (eR 42 6 64 v x y) λz A=>
 oP (fH 2 a1) λb=>
 fm (gB 1 b z A) λE c=>
 oP (fH 0 a2) λd=>
 oP (ev d c) λe=>
 oP (fH 2 a1) λf=>
 oP (ev f c) λg=>
 oP (fD g) λi=>
 oP (er .sub 3 i nO) λj=>
 ij (iZ 3 1 1 nZ [(0,j)]) c λk B=>
 fm (eR 3 1 8 e k B) λl D=>
 oP (fH 0 a2) λm=>
 fm (gB 1 m l D) λr s=>
 oP (fH 2 a1) λn=>
 oP (ev n s) λo=>
 oP (fD o) λp=>
 oP (er .sub 3 p nO) λq=>
 Q q s
theorem BQ{C}(s:C.start=fW){a0 a1 a2 h Q}(k:C.K fo [a0,a1,a2] h=none)(H:uf C Q a0 a1 a2 h):cP C fo [a0,a1,a2] h Q:=cP.vd t39 s (by unfold P0;exact Tryd.func39) k H
def t40:List (Nat×List Nat):=[]
def tW (C:fu)(Q:fx)(a0 a1 a2:V)(h:Hp):Prop:=
 oP (ev a1 h) λl=>
 oP (fH 0 a2) λm=>
 oP (ev m h) λn=>
 oP (fD n) λo=>
 oP (er .geq 3 l o) λp=>
 bP p (
 Q nZ h) (
 oP (ev a1 h) λb=>
 oP (er .add 3 b nO) λc=>
 fm (gB 1 a1 c h) λr a=>
 oP (fH 0 a2) λd=>
 oP (ev d a) λe=>
 oP (ev a1 a) λf=>
 oP (er .sub 3 f nO) λg=>
 oP (gD 1 e g) λi=>
 oP (ev i a) λj=>
 cP C iF [j,a0] a λk q=>
 Q k q)
theorem BW{C}(s:C.start=fW){a0 a1 a2 h Q}(k:C.K fi [a0,a1,a2] h=none)(H:tW C Q a0 a1 a2 h):cP C fi [a0,a1,a2] h Q:=cP.vd t40 s (by unfold P0;exact Tryd.func40) k H
def t41:List (Nat×List Nat):=[(87,[0,1,2,4,5])]
def rk (C:fu)(Q:fx)(a b c d e:V)(h:Hp):Prop:=∀ρ:fZ,ρ 0=a->ρ 1=b->ρ 2=c->ρ 4=d->ρ 5=e->WA C Tryd.f41 t41 43 [] Q ρ h
def qb (C:fu)(Q:fx)(m:GR)(k X a c Y:V)(h:Hp):Prop:=
 oP (er .gtr 3 Y nZ) λn=>
 bP n (
 oP (fH 2 c) λd=>
 oP (ev d h) λe=>
 oP (ev a h) λf=>
 oP (ev X h) λo=>
 oP (ev a h) λp=>
 oP (fD p) λq=>
 gU C (fU o [q]) h λr l=>
 (h.next<=l.next/\
 oP (gD 1 f r) λg=>
 oP (ev g l) λi=>
 wS (iZ 3 1 1 nZ [(0,i)]) l λs t b=>
 ((b.get (l.next)=some s/\O.beq s s=true)/\
 ((ev g b=some i)/\
 ((ev a b=some f)/\
 ((ev d b=some e)/\
 fm (eR 3 1 8 e t b) λu v=>
 (b.next<=v.next/\
 oP (fH 2 c) λw=>
 fm (gB 1 w u v) λvu Z=>
 (v.next<=Z.next/\
 oP (er .sub 3 Y nO) λx=>
 m k X a c x Z)))))))) (
 oP (ev a h) λy=>
 oP (ev a h) λz=>
 oP (fD z) λA=>
 oP (er .sub 3 A nO) λB=>
 oP (gD 1 y B) λD=>
 oP (ev D h) λE=>
 ij (iZ 3 1 1 nZ [(0,E)]) h λF h5=>
 oP (fH 3 c) λG=>
 fm (gB 1 G F h5) λaa H=>
 oP (fH 4 k) λI=>
 oP (ev I H) λJ=>
 oP (gg 4 c H) λK=>
 ij (iZ 40 4 1 (V.agg [nZ,nZ,nS,nS]) [(0,K)]) H λL h7=>
 oP (fN [nS] [(0,1)] [(0,L)]) λM=>
 ij (iZ 38 1 1 (V.agg [nS]) [(0,M)]) h7 λN h8=>
 fm (eR 38 1 24 J N h8) λP h9=>
 oP (fH 4 k) λR=>
 fm (gB 1 R P h9) λab j=>
 oP (fH 4 k) λS=>
 oP (ev S j) λT=>
 oP (fD T) λU=>
 oP (er .sub 3 U nO) λW=>
 Q W j)
theorem zt{C Q}(I)(s:P5 I (qb C Q)){k a b c d e h}(i:I k a b c d e h):rk C Q a b c d e h:=WA.l5 I _ s i
def tR (C:fu)(Q:fx)(a0 a1 a2:V)(h:Hp):Prop:=
 oP (fH 4 a0) λe=>
 oP (ev e h) λf=>
 oP (fD f) λg=>
 oP (fN [nZ,nZ,nS,nS] [(0,1),(1,1),(2,1),(3,1)] [(0,nO),(1,g)]) λi=>
 ij (zC 40 [nZ,nZ,nS,nS]) h λc j=>
 fm (gB 4 c i j) λl d=>
 oP (ev a1 d) λa=>
 gU C (fU a [(V.int .i64 4)]) d λb k=>
 rk C Q a0 a1 a2 c b k
theorem BI{C}(s:C.start=fW){a0 a1 a2 h Q}(k:C.K fL [a0,a1,a2] h=none)(H:tR C Q a0 a1 a2 h):cP C fL [a0,a1,a2] h Q:=cP.vd t41 s (by unfold P0;exact Tryd.func41) k H
def t42:List (Nat×List Nat):=[(11,[0,1,2,3,4,5]),(114,[0,1,2,3,4,5])]
def qF (C:fu)(Q:fx)(a b c d e f:V)(h:Hp):Prop:=∀ρ:fZ,ρ 0=a->ρ 1=b->ρ 2=c->ρ 3=d->ρ 4=e->ρ 5=f->WA C Tryd.f42 t42 5 [] Q ρ h
def fX (C:fu)(Q:fx)(a:Mq)(b c d e f g:V)(h:Hp):Prop:=∀ρ:fZ,ρ 0=b->ρ 1=c->ρ 2=d->ρ 3=e->ρ 4=f->ρ 5=g->WA C Tryd.f42 t42 57 [λρ h=>a (ρ 0) (ρ 1) (ρ 2) (ρ 3) (ρ 4) (ρ 5) h] Q ρ h
def qy (C:fu)(Q:fx)(d:Mq)(f o b c j p:V)(h:Hp):Prop:=
 oP (er .gtr 3 p nZ) λaK=>
 oP (jK aK (oB (fH 2 o) λaL=>oB (ev aL h) λaM=>oB (fD aM) λaN=>er .lss 3 aN (V.int .i64 200))) λaO=>
 bP aO (
 oP (ev b h) λU=>
 oP (ev f h) λaP=>
 oP (ev b h) λaQ=>
 oP (fD aQ) λaR=>
 gU C (fU aP [aR]) h λaS z=>
 (h.next<=z.next/\
 oP (gD 1 U aS) λaT=>
 oP (ev aT z) λg=>
 ((ev b z=some U)/\
 oP (ev b z) λW=>
 oP (ev f z) λaU=>
 oP (ev b z) λaV=>
 oP (fD aV) λaW=>
 gU C (fU aU [aW]) z λaX X=>
 (z.next<=X.next/\
 oP (gD 1 W aX) λaY=>
 oP (ev aY X) λq=>
 ((ev b X=some W)/\
 oP (ev f X) λaZ=>
 gU C (fU aZ [(V.int .i64 20)]) X λe a=>
 oP (er .lss 3 e (V.int .i64 12)) λa4=>
 bP a4 (
 oP (ev b a) λY=>
 oP (ev c a) λa5=>
 oP (er .add 3 (V.int .i64 3) e) λa6=>
 oP (fN [nZ,nZ,nZ,nZ,nS,nZ] [(0,1),(1,1),(2,1),(3,1),(4,1),(5,1)] [(0,a6),(1,g),(2,q)]) λa7=>
 gU C (fU a5 [a7]) a λa8 h4=>
 (a.next<=h4.next/\
 wS (iZ 3 1 1 nZ [(0,a8)]) h4 λo8 a9 h5=>
 ((h5.get (h4.next)=some o8/\O.beq o8 o8=true)/\
 ((ev b h5=some Y)/\
 fm (eR 3 1 8 Y a9 h5) λba h6=>
 (h5.next<=h6.next/\
 fm (gB 1 b ba h6) λvu h7=>
 (h6.next<=h7.next/\
 fX C Q d f o b c j p h7)))))) (
 oP (er .eql 3 e (V.int .i64 12)) λbb=>
 bP bb (
 oP (ev b a) λH=>
 oP (ev c a) λZ=>
 oP (ev f a) λbc=>
 gU C (fU bc [(V.int .i64 1048576)]) a λbd h8=>
 (a.next<=h8.next/\
 oP (er .sub 2 bd (V.int .i64 9)) λbe=>
 oP (fN [nZ,nZ,nZ,nZ,nS,nZ] [(0,1),(1,1),(2,1),(3,1),(4,1),(5,1)] [(0,(V.int .i64 2)),(3,be)]) λbf=>
 ((ev c h8=some Z)/\
 ((ev b h8=some H)/\
 gU C (fU Z [bf]) h8 λbg h9=>
 (h8.next<=h9.next/\
 wS (iZ 3 1 1 nZ [(0,bg)]) h9 λo7 bh r=>
 ((r.get (h9.next)=some o7/\O.beq o7 o7=true)/\
 ((ev b r=some H)/\
 fm (eR 3 1 8 H bh r) λbi I=>
 (r.next<=I.next/\
 fm (gB 1 b bi I) λbK aa=>
 (I.next<=aa.next/\
 fX C Q d f o b c j p aa))))))))) (
 oP (er .eql 3 e (V.int .i64 13)) λbj=>
 bP bj (
 oP (ev b a) λJ=>
 oP (ev c a) λab=>
 oP (ev f a) λbm=>
 gU C (fU bm [(V.int .i64 5)]) a λbn k=>
 (a.next<=k.next/\
 oP (fN [nZ,nZ,nZ,nZ,nS,nZ] [(0,1),(1,1),(2,1),(3,1),(4,1),(5,1)] [(0,(V.int .i64 17)),(1,g),(3,bn)]) λbo=>
 ((ev c k=some ab)/\
 ((ev b k=some J)/\
 gU C (fU ab [bo]) k λbp K=>
 (k.next<=K.next/\
 wS (iZ 3 1 1 nZ [(0,bp)]) K λl bq s=>
 ((s.get (K.next)=some l/\O.beq l l=true)/\
 ((ev b s=some J)/\
 fm (eR 3 1 8 J bq s) λbr L=>
 (s.next<=L.next/\
 fm (gB 1 b br L) λbL ac=>
 (L.next<=ac.next/\
 fX C Q d f o b c j p ac))))))))) (
 oP (er .eql 3 e (V.int .i64 14)) λbt=>
 bP bt (
 oP (ev b a) λae=>
 oP (ev c a) λbu=>
 oP (fN [nZ,nZ,nZ,nZ,nS,nZ] [(0,1),(1,1),(2,1),(3,1),(4,1),(5,1)] [(0,(V.int .i64 18)),(1,g),(2,q)]) λbv=>
 gU C (fU bu [bv]) a λbw M=>
 (a.next<=M.next/\
 wS (iZ 3 1 1 nZ [(0,bw)]) M λo6 bx t=>
 ((t.get (M.next)=some o6/\O.beq o6 o6=true)/\
 ((ev b t=some ae)/\
 fm (eR 3 1 8 ae bx t) λbz N=>
 (t.next<=N.next/\
 fm (gB 1 b bz N) λbQ ag=>
 (N.next<=ag.next/\
 fX C Q d f o b c j p ag)))))) (
 oP (er .eql 3 e (V.int .i64 15)) λbA=>
 bP bA (
 oP (ev c a) λah=>
 oP (ev f a) λai=>
 gU C (fU ai [(V.int .i64 5)]) a λaj u=>
 (a.next<=u.next/\
 oP (fN [nZ,nZ,nZ,nZ,nS,nZ] [(0,1),(1,1),(2,1),(3,1),(4,1),(5,1)] [(0,(V.int .i64 19)),(1,g),(3,aj),(2,q)]) λak=>
 ((ev c u=some ah)/\
 gU C (fU ah [ak]) u λbR al=>
 (u.next<=al.next/\
 fX C Q d f o b c j p al)))) (
 oP (er .eql 3 e (V.int .i64 16)) λam=>
 bP am (
 oP (ev c a) λA=>
 oP (ev b a) λB=>
 oP (ev f a) λan=>
 oP (ev b a) λao=>
 oP (fD ao) λap=>
 gU C (fU an [ap]) a λaq v=>
 (a.next<=v.next/\
 oP (gD 1 B aq) λD=>
 oP (ev D v) λE=>
 wS (iZ 3 1 1 nZ [(0,E)]) v λP ar i=>
 oP (fN [nZ,nZ,nZ,nZ,nS,nZ] [(0,1),(1,1),(2,1),(3,1),(4,1),(5,1)] [(0,(V.int .i64 20)),(1,g),(2,q),(4,ar)]) λau=>
 ((i.get (v.next)=some P/\O.beq P P=true)/\
 ((ev D i=some E)/\
 ((ev b i=some B)/\
 ((ev c i=some A)/\
 gU C (fU A [au]) i λbS aw=>
 (i.next<=aw.next/\
 fX C Q d f o b c j p aw))))))) (
 oP (er .eql 3 e (V.int .i64 17)) λax=>
 bP ax (
 oP (ev c a) λF=>
 oP (ev j a) λay=>
 gU C (fU ay []) a λaA w=>
 (a.next<=w.next/\
 oP (fN [nZ,nZ,nZ,nZ,nS,nZ] [(0,1),(1,1),(2,1),(3,1),(4,1),(5,1)] [(0,(V.int .i64 22)),(1,g),(5,aA)]) λaB=>
 ((ev c w=some F)/\
 gU C (fU F [aB]) w λbU aC=>
 (w.next<=aC.next/\
 fX C Q d f o b c j p aC)))) (
 oP (er .eql 3 e (V.int .i64 18)) λaD=>
 bP aD (
 oP (ev c a) λG=>
 oP (ev j a) λaE=>
 gU C (fU aE []) a λaF x=>
 (a.next<=x.next/\
 oP (fN [nZ,nZ,nZ,nZ,nS,nZ] [(0,1),(1,1),(2,1),(3,1),(4,1),(5,1)] [(0,(V.int .i64 23)),(5,aF)]) λaG=>
 ((ev c x=some G)/\
 gU C (fU G [aG]) x λbV aH=>
 (x.next<=aH.next/\
 fX C Q d f o b c j p aH)))) (
 oP (ev b a) λR=>
 oP (ev c a) λaI=>
 oP (ev f a) λbC=>
 gU C (fU bC [(V.int .i64 2)]) a λbD m=>
 (a.next<=m.next/\
 oP (er .add 3 (V.int .i64 15) bD) λbE=>
 oP (fN [nZ,nZ,nZ,nZ,nS,nZ] [(0,1),(1,1),(2,1),(3,1),(4,1),(5,1)] [(0,bE),(1,g)]) λbG=>
 ((ev c m=some aI)/\
 ((ev b m=some R)/\
 gU C (fU aI [bG]) m λbH S=>
 (m.next<=S.next/\
 wS (iZ 3 1 1 nZ [(0,bH)]) S λn bI y=>
 ((y.get (S.next)=some n/\O.beq n n=true)/\
 ((ev b y=some R)/\
 fm (eR 3 1 8 R bI y) λbJ T=>
 (y.next<=T.next/\
 fm (gB 1 b bJ T) λbW aJ=>
 (T.next<=aJ.next/\
 fX C Q d f o b c j p aJ))))))))))))))))))))) (
 Q (V.tuple []) h)
theorem y6{C Q}(I)(s:P6 I (qy C Q)){k a b c d e f h}(i:I k a b c d e f h):qF C Q a b c d e f h:=WA.l6 I _ s i
def qj (C:fu)(Q:fx)(a:Mq)(c d e f g i:V)(h:Hp):Prop:=
 oP (er .sub 3 i nO) λb=>
 a c d e f g b h
theorem yZ {C:fu}{Q:fx}{a:Mq}{b c d e f g:V}{h:Hp}(H:qj C Q a b c d e f g h):fX C Q a b c d e f g h:=by
 rintro ρ rfl rfl rfl rfl rfl rfl;exact WA.of (by kernel_rfl) H
def ug (C:fu)(Q:fx)(a0 a1 a2 a3 c:V)(h:Hp):Prop:=
 oP (ev a0 h) λd=>
 gU C (fU d [(V.int .i64 6)]) h λa e=>
 oP (er .add 3 nO a) λb=>
 qF C Q a0 a1 a2 a3 c b e
theorem BS{C}(s:C.start=fW){a0 a1 a2 a3 a h Q}(k:C.K jc [a0,a1,a2,a3,a] h=none)(H:ug C Q a0 a1 a2 a3 a h):cP C jc [a0,a1,a2,a3,a] h Q:=cP.vd t42 s (by unfold P0;exact Tryd.func42) k H
def t43:List (Nat×List Nat):=[]
def uq (C:fu)(Q:fx)(a0 a1 a2:V)(h:Hp):Prop:=
 ij (nP 44 a0) h λa p=>
 oP (fH 0 a1) λv=>
 oP (ev v p) λw=>
 oP (fH 0 a) λx=>
 fm (gB 1 x w p) λE q=>
 oP (fH 4 a1) λy=>
 oP (ev y q) λz=>
 oP (fH 4 a) λb=>
 fm (gB 1 b z q) λr c=>
 oP (fH 3 a2) λd=>
 oP (ev d c) λe=>
 oP (gg 6 a c) λf=>
 ij (iZ 44 6 1 (V.agg [nS,nZ,nZ,nS,nS,nZ]) [(0,f)]) c λg A=>
 fm (eR 44 6 96 e g A) λi B=>
 oP (fH 3 a2) λj=>
 fm (gB 1 j i B) λs D=>
 oP (fN [nS,nZ,nZ,nS,nS,nZ] [(0,1),(1,1),(2,1),(3,1),(4,1),(5,1)] []) λk=>
 fm (gB 6 a1 k D) λt u=>
 oP (fH 3 a2) λl=>
 oP (ev l u) λm=>
 oP (fD m) λn=>
 oP (er .sub 3 n nO) λo=>
 Q o u
theorem B1{C}(s:C.start=fW){a0 a1 a2 h Q}(k:C.K jF [a0,a1,a2] h=none)(H:uq C Q a0 a1 a2 h):cP C jF [a0,a1,a2] h Q:=cP.vd t43 s (by unfold P0;exact Tryd.func43) k H
def t13:List (Nat×List Nat):=[(1407,[1,2,3,4,5,6,7,8]),(360447,[1,2,3,5,6,7,10,11,12,13,14]),(3768318,[1,2,3,5,6,7,10,11,12,13,14]),(70368597999614,[1,2,3,5,6,7,10,11,12,13,14,24,26,29])]
def tw (C:fu)(Q:fx)(a b c d e f g i:V)(h:Hp):Prop:=∀ρ:fZ,ρ 1=a->ρ 2=b->ρ 3=c->ρ 4=d->ρ 5=e->ρ 6=f->ρ 7=g->ρ 8=i->WA C Tryd.f13 t13 703 [] Q ρ h
def nJ (C:fu)(Q:fx)(f g i j k l a b c d e:V)(h:Hp):Prop:=∀ρ:fZ,ρ 1=f->ρ 2=g->ρ 3=i->ρ 5=j->ρ 6=k->ρ 7=l->ρ 10=a->ρ 11=b->ρ 12=c->ρ 13=d->ρ 14=e->WA C Tryd.f13 t13 180223 [] Q ρ h
def jo (C:fu)(Q:fx)(a:CA)(g i j k l m b c d e f:V)(h:Hp):Prop:=∀ρ:fZ,ρ 1=g->ρ 2=i->ρ 3=j->ρ 5=k->ρ 6=l->ρ 7=m->ρ 10=b->ρ 11=c->ρ 12=d->ρ 13=e->ρ 14=f->WA C Tryd.f13 t13 1884159 [λρ h=>a (ρ 1) (ρ 2) (ρ 3) (ρ 5) (ρ 6) (ρ 7) (ρ 10) (ρ 11) (ρ 12) (ρ 13) (ρ 14) h] Q ρ h
def mK (C:fu)(Q:fx)(a:CA)(k l m n o p b c d e f g i j:V)(h:Hp):Prop:=∀ρ:fZ,ρ 1=k->ρ 2=l->ρ 3=m->ρ 5=n->ρ 6=o->ρ 7=p->ρ 10=b->ρ 11=c->ρ 12=d->ρ 13=e->ρ 14=f->ρ 24=g->ρ 26=i->ρ 29=j->WA C Tryd.f13 t13 35184298999807 [λρ h=>a (ρ 1) (ρ 2) (ρ 3) (ρ 5) (ρ 6) (ρ 7) (ρ 10) (ρ 11) (ρ 12) (ρ 13) (ρ 14) h] Q ρ h
def tM (C:fu)(Q:fx)(k:IV)(l N d P a m e n:V)(h:Hp):Prop:=
 oP (er .lss 3 n P) λo=>
 bP o (
 oP (ev a h) λf=>
 oP (ev e h) λp=>
 oP (fN [nZ,nZ,nZ,nZ,nS,nZ] [(0,1),(1,1),(2,1),(3,1),(4,1),(5,1)] [(0,nO),(3,n)]) λq=>
 gU C (fU p [q]) h λr s=>
 (h.next<=s.next/\
 wS (iZ 3 1 1 nZ [(0,r)]) s λt u i=>
 ((i.get (s.next)=some t/\O.beq t t=true)/\
 ((ev a i=some f)/\
 fm (eR 3 1 8 f u i) λv w=>
 (i.next<=w.next/\
 fm (gB 1 a v w) λvu R=>
 (w.next<=R.next/\
 oP (er .add 3 n nO) λx=>
 k l N d P a m e x R)))))) (
 oP (ev a h) λg=>
 oP (ev e h) λy=>
 oP (fN [nZ,nZ,nZ,nZ,nS,nZ] [(0,1),(1,1),(2,1),(3,1),(4,1),(5,1)] [(0,(V.int .i64 2)),(3,(V.int .i64 5))]) λz=>
 gU C (fU y [z]) h λA B=>
 (h.next<=B.next/\
 wS (iZ 3 1 1 nZ [(0,A)]) B λD E j=>
 ((j.get (B.next)=some D/\O.beq D D=true)/\
 ((ev a j=some g)/\
 fm (eR 3 1 8 g E j) λF G=>
 (j.next<=G.next/\
 fm (gB 1 a F G) λS T=>
 (G.next<=T.next/\
 ij (zC 3 [nZ]) T λU Z=>
 fm (gB 1 U nZ Z) λW H=>
 ij (zC 71 [V.nilFunc]) H λb I=>
 fm (gB 1 b (V.func fi [] [U,l]) I) λX J=>
 ij (zC 72 [V.nilFunc]) J λc K=>
 fm (gB 1 c (V.func fL [] [d,b,a]) K) λY L=>
 gU C (fU (V.func jc [] [b,d,a,e,c]) []) L λaa M=>
 nJ C Q l N d a m e b c (V.func jc [] [b,d,a,e,c]) (V.func jF [] [m,d]) nZ M))))))
theorem AV{C Q}(I)(s:P8 I (tM C Q)){k a b c d e f g j h}(i:I k a b c d e f g j h):tw C Q a b c d e f g j h:=WA.l8 I _ s i
def sU (C:fu)(Q:fx)(y:CA)(x1 x2 g a s n f i c b j:V)(h:Hp):Prop:=
 oP (fH 1 x1) λdi=>
 oP (ev di h) λdj=>
 oP (fD dj) λdk=>
 oP (er .lss 3 j dk) λdm=>
 oP (jK dm (oB (some j) λdn=>er .lss 3 dn (V.int .i64 6))) λdp=>
 oP (jK dp (oB (fH 2 g) λdq=>oB (ev dq h) λdr=>oB (fD dr) λdt=>er .lss 3 dt (V.int .i64 160))) λdu=>
 bP du (
 oP (fH 1 x1) λdv=>
 oP (ev dv h) λdw=>
 oP (gD 1 dw j) λdx=>
 oP (ev dx h) λdy=>
 cP C iF [dy,(V.int .i64 3)] h λak k=>
 oP (er .eql 3 ak nZ) λal=>
 bP al (
 oP (ev a k) λF=>
 oP (ev f k) λam=>
 oP (ev a k) λan=>
 oP (fD an) λao=>
 gU C (fU am [ao]) k λap h2=>
 (k.next<=h2.next/\
 oP (gD 1 F ap) λaq=>
 oP (ev aq h2) λar=>
 ((ev a h2=some F)/\
 oP (ev a h2) λau=>
 oP (fD au) λG=>
 oP (fH 3 g) λaw=>
 oP (ev aw h2) λax=>
 oP (fD ax) λay=>
 oP (er .add 3 ay nO) λaA=>
 oP (fH 3 g) λaB=>
 oP (ev aB h2) λaC=>
 oP (fD aC) λaD=>
 oP (er .add 3 aD (V.int .i64 2)) λaE=>
 ij (iZ 3 1 2 nZ [(0,aA),(1,aE)]) h2 λaF h3=>
 oP (fN [nS,nZ,nZ,nS,nS,nZ] [(0,1),(1,1),(2,1),(3,1),(4,1),(5,1)] [(1,(V.int .i64 2)),(2,ar),(3,aF)]) λaG=>
 gU C (fU b [aG]) h3 λH h4=>
 ij (iZ 3 1 1 nZ [(0,H)]) h4 λaH h5=>
 oP (fH 4 s) λaI=>
 fm (gB 1 aI aH h5) λvu h6=>
 gU C (fU c []) h6 λzbO h7=>
 oP (ev a h7) λaJ=>
 oP (ev a h7) λaK=>
 oP (fD aK) λaL=>
 oP (er .sub 3 aL nO) λaM=>
 oP (gD 1 aJ aM) λaN=>
 oP (ev aN h7) λaO=>
 oP (ev a h7) λaP=>
 oP (iJ 1 aP none (some G) h7) λaQ=>
 fm (gB 1 a aQ h7) λzbL h8=>
 oP (fH 3 g) λaR=>
 oP (ev aR h8) λaS=>
 oP (fD aS) λaT=>
 oP (er .add 3 aT (V.int .i64 2)) λaU=>
 ij (iZ 3 1 1 nZ [(0,aU)]) h8 λaV h9=>
 oP (fN [nS,nZ,nZ,nS,nS,nZ] [(0,1),(1,1),(2,1),(3,1),(4,1),(5,1)] [(1,nO),(3,aV)]) λaW=>
 gU C (fU b [aW]) h9 λaX dz=>
 ij (iZ 3 1 1 nZ [(0,H)]) dz λaY dA=>
 oP (fH 4 s) λaZ=>
 fm (gB 1 aZ aY dA) λzbV dB=>
 gU C (fU c []) dB λzbT o=>
 oP (ev a o) λa4=>
 oP (ev a o) λa5=>
 oP (fD a5) λa6=>
 oP (er .sub 3 a6 nO) λa7=>
 oP (gD 1 a4 a7) λa8=>
 oP (ev a8 o) λa9=>
 oP (ev a o) λba=>
 oP (iJ 1 ba none (some G) o) λbb=>
 fm (gB 1 a bb o) λzbP bc=>
 oP (fH 3 g) λbd=>
 oP (ev bd bc) λbe=>
 oP (fD be) λbf=>
 oP (er .add 3 bf nO) λbg=>
 ij (iZ 3 1 1 nZ [(0,bg)]) bc λbh dC=>
 oP (fN [nS,nZ,nZ,nS,nS,nZ] [(0,1),(1,1),(2,1),(3,1),(4,1),(5,1)] [(1,nO),(3,bh)]) λbi=>
 gU C (fU b [bi]) dC λbj dD=>
 ij (iZ 3 1 2 nZ [(0,aX),(1,bj)]) dD λbm dE=>
 oP (fH 4 s) λbn=>
 fm (gB 1 bn bm dE) λzbQ z=>
 oP (ev a z) λt=>
 oP (ev n z) λI=>
 wS (iZ 3 1 2 nZ [(0,aO),(1,a9)]) z λo4 bo u=>
 oP (fN [nZ,nZ,nZ,nZ,nS,nZ] [(0,1),(1,1),(2,1),(3,1),(4,1),(5,1)] [(0,(V.int .i64 21)),(4,bo)]) λbp=>
 ((u.get (z.next)=some o4/\O.beq o4 o4=true)/\
 ((ev n u=some I)/\
 ((ev a u=some t)/\
 gU C (fU I [bp]) u λbq ac=>
 (u.next<=ac.next/\
 wS (iZ 3 1 1 nZ [(0,bq)]) ac λo7 br A=>
 ((A.get (ac.next)=some o7/\O.beq o7 o7=true)/\
 ((ev a A=some t)/\
 fm (eR 3 1 8 t br A) λbt ae=>
 (A.next<=ae.next/\
 fm (gB 1 a bt ae) λzbU bu=>
 (ae.next<=bu.next/\
 gU C (fU c []) bu λzbY dH=>
 jo C Q y x1 x2 g a s n f i c b j dH))))))))))) (
 oP (er .eql 3 ak nO) λbv=>
 bP bv (
 oP (ev a k) λJ=>
 oP (ev f k) λbw=>
 oP (ev a k) λbx=>
 oP (fD bx) λbz=>
 gU C (fU bw [bz]) k λbA v=>
 (k.next<=v.next/\
 oP (gD 1 J bA) λbC=>
 oP (ev bC v) λw=>
 ((ev a v=some J)/\
 oP (fH 3 g) λbD=>
 oP (ev bD v) λbE=>
 oP (fD bE) λbG=>
 oP (er .add 3 bG nO) λbH=>
 ij (iZ 3 1 1 nZ [(0,bH)]) v λbI dK=>
 oP (fN [nS,nZ,nZ,nS,nS,nZ] [(0,1),(1,1),(2,1),(3,1),(4,1),(5,1)] [(1,nO),(3,bI)]) λbJ=>
 gU C (fU b [bJ]) dK λK dM=>
 oP (er .add 3 K nO) λd=>
 oP (er .add 3 d nO) λbK=>
 ij (iZ 3 1 2 nZ [(0,K),(1,bK)]) dM λbL dO=>
 oP (fH 4 s) λbQ=>
 fm (gB 1 bQ bL dO) λzbR bR=>
 oP (ev n bR) λbS=>
 ij (iZ 3 1 2 nZ [(0,w),(1,nZ)]) bR λbU dP=>
 oP (fN [nZ,nZ,nZ,nZ,nS,nZ] [(0,1),(1,1),(2,1),(3,1),(4,1),(5,1)] [(0,(V.int .i64 21)),(4,bU)]) λbV=>
 gU C (fU bS [bV]) dP λe p=>
 oP (ev n p) λL=>
 oP (ev a p) λM=>
 oP (ev f p) λbW=>
 oP (ev a p) λbX=>
 oP (fD bX) λbY=>
 gU C (fU bW [bY]) p λbZ B=>
 (p.next<=B.next/\
 oP (gD 1 M bZ) λN=>
 oP (ev N B) λP=>
 wS (iZ 3 1 2 nZ [(0,P),(1,e)]) B λo9 b4 q=>
 oP (fN [nZ,nZ,nZ,nZ,nS,nZ] [(0,1),(1,1),(2,1),(3,1),(4,1),(5,1)] [(0,(V.int .i64 21)),(4,b4)]) λb5=>
 ((q.get (B.next)=some o9/\O.beq o9 o9=true)/\
 ((ev N q=some P)/\
 ((ev a q=some M)/\
 ((ev n q=some L)/\
 gU C (fU L [b5]) q λx ag=>
 (q.next<=ag.next/\
 oP (ev a ag) λb6=>
 ij (iZ 3 1 2 nZ [(0,e),(1,x)]) ag λb7 dQ=>
 fm (eR 3 1 8 b6 b7 dQ) λb8 dR=>
 fm (gB 1 a b8 dR) λzbH D=>
 oP (ev n D) λR=>
 oP (ev i D) λb9=>
 gU C (fU b9 []) D λca E=>
 (D.next<=E.next/\
 oP (fN [nZ,nZ,nZ,nZ,nS,nZ] [(0,1),(1,1),(2,1),(3,1),(4,1),(5,1)] [(0,(V.int .i64 23)),(5,ca)]) λcb=>
 ((ev n E=some R)/\
 gU C (fU R [cb]) E λzbW ah=>
 (E.next<=ah.next/\
 oP (ev n ah) λcd=>
 oP (fN [nZ,nZ,nZ,nZ,nS,nZ] [(0,1),(1,1),(2,1),(3,1),(4,1),(5,1)] [(0,(V.int .i64 2)),(3,nO)]) λce=>
 gU C (fU cd [ce]) ah λcf cg=>
 oP (ev n cg) λci=>
 oP (fN [nZ,nZ,nZ,nZ,nS,nZ] [(0,1),(1,1),(2,1),(3,1),(4,1),(5,1)] [(0,(V.int .i64 4)),(1,e),(2,cf)]) λcj=>
 gU C (fU ci [cj]) cg λS cm=>
 oP (ev a cm) λcn=>
 ij (iZ 3 1 1 nZ [(0,S)]) cm λco dS=>
 fm (eR 3 1 8 cn co dS) λcp dT=>
 fm (gB 1 a cp dT) λzbS dU=>
 oP (er .add 3 d nO) λcq=>
 oP (er .add 3 d (V.int .i64 2)) λcr=>
 ij (iZ 3 1 2 nZ [(0,cq),(1,cr)]) dU λct dV=>
 oP (fN [nS,nZ,nZ,nS,nS,nZ] [(0,1),(1,1),(2,1),(3,1),(4,1),(5,1)] [(1,(V.int .i64 2)),(2,e),(3,ct)]) λcu=>
 gU C (fU b [cu]) dV λzbJ cv=>
 oP (ev a cv) λcw=>
 oP (fD cw) λT=>
 ij (iZ 3 1 1 nZ [(0,d)]) cv λcx dW=>
 oP (fH 4 s) λcy=>
 fm (gB 1 cy cx dW) λzbM dZ=>
 gU C (fU c []) dZ λzbK cz=>
 oP (fH 2 g) λcA=>
 oP (ev cA cz) λcB=>
 ij (iZ 3 1 2 nZ [(0,w),(1,S)]) cz λcC d1=>
 oP (gD 6 cB e) λcD=>
 oP (fH 4 cD) λcE=>
 fm (gB 1 cE cC d1) λd2 cF=>
 oP (ev f cF) λcG=>
 gU C (fU cG [(V.int .i64 3)]) cF λcH l=>
 oP (er .eql 3 cH nZ) λcI=>
 bP cI (
 oP (fH 2 g) λU=>
 oP (ev U l) λW=>
 oP (ev a l) λX=>
 oP (ev a l) λY=>
 oP (fD Y) λcJ=>
 oP (er .sub 3 cJ nO) λcK=>
 oP (gD 1 X cK) λZ=>
 oP (ev Z l) λaa=>
 wS (iZ 3 1 2 nZ [(0,w),(1,aa)]) l λai cL m=>
 oP (gD 6 W e) λcM=>
 oP (fH 4 cM) λcN=>
 ((m.get (l.next)=some ai/\O.beq ai ai=true)/\
 ((ev Z m=some aa)/\
 ((ev a m=some Y)/\
 ((ev a m=some X)/\
 ((ev U m=some W)/\
 fm (gB 1 cN cL m) λd3 cO=>
 (m.next<=cO.next/\
 mK C Q y x1 x2 g a s n f i c b j d x T cO))))))) (
 mK C Q y x1 x2 g a s n f i c b j d x T l))))))))))))) (
 oP (ev a k) λcQ=>
 oP (ev f k) λd4=>
 oP (ev a k) λd5=>
 oP (fD d5) λd6=>
 gU C (fU d4 [d6]) k λd7 r=>
 (k.next<=r.next/\
 oP (gD 1 cQ d7) λv91=>
 oP (ev v91 r) λv92=>
 ((ev a r=some cQ)/\
 oP (fH 3 g) λv95=>
 oP (ev v95 r) λv96=>
 oP (fD v96) λv97=>
 oP (er .add 3 v97 nO) λv98=>
 oP (fH 3 g) λv99=>
 oP (ev v99 r) λcR=>
 oP (fD cR) λcS=>
 oP (er .add 3 cS (V.int .i64 2)) λcT=>
 ij (iZ 3 1 2 nZ [(0,v98),(1,cT)]) r λcU h56=>
 oP (fN [nS,nZ,nZ,nS,nS,nZ] [(0,1),(1,1),(2,1),(3,1),(4,1),(5,1)] [(1,(V.int .i64 2)),(2,v92),(3,cU)]) λcV=>
 gU C (fU b [cV]) h56 λab cW=>
 oP (ev a cW) λcX=>
 oP (fD cX) λcY=>
 ij (iZ 3 1 1 nZ [(0,ab)]) cW λcZ h58=>
 oP (fH 4 s) λc0=>
 fm (gB 1 c0 cZ h58) λzbD h59=>
 gU C (fU c []) h59 λzbI c1=>
 oP (ev i c1) λc3=>
 gU C (fU c3 []) c1 λc4 h61=>
 oP (fN [nS,nZ,nZ,nS,nS,nZ] [(0,1),(1,1),(2,1),(3,1),(4,1),(5,1)] [(1,(V.int .i64 3)),(5,c4)]) λc5=>
 gU C (fU b [c5]) h61 λzbN aj=>
 oP (ev a aj) λc6=>
 oP (iJ 1 c6 none (some cY) aj) λc7=>
 fm (gB 1 a c7 aj) λzbC h63=>
 ij (iZ 3 1 1 nZ [(0,ab)]) h63 λc8 h64=>
 oP (fH 4 s) λc9=>
 fm (gB 1 c9 c8 h64) λzbF h65=>
 gU C (fU c []) h65 λzbX h66=>
 jo C Q y x1 x2 g a s n f i c b j h66))))) (
 oP (ev i h) λdc=>
 gU C (fU dc []) h λdd h67=>
 oP (fN [nS,nZ,nZ,nS,nS,nZ] [(0,1),(1,1),(2,1),(3,1),(4,1),(5,1)] [(1,(V.int .i64 3)),(5,dd)]) λde=>
 gU C (fU b [de]) h67 λzbZ df=>
 oP (gg 5 g df) λdg=>
 fm (gB 5 x2 dg df) λzbE dh=>
 oP (gg 5 x2 dh) λr2=>
 Q r2 dh)
theorem AT{C Q}(I)(s:P11 I (sU C Q)){k f g j l m n a b c d e h}(i:I k f g j l m n a b c d e h):nJ C Q f g j l m n a b c d e h:=WA.l11 I _ s i
def r0 (C:fu)(Q:fx)(a:CA)(i j k l m n b c d e f:V)(h:Hp):Prop:=
 oP (er .add 3 f nO) λg=>
 a i j k l m n b c d e g h
theorem Af {C:fu}{Q:fx}{a:CA}{g i j k l m b c d e f:V}{h:Hp}(H:r0 C Q a g i j k l m b c d e f h):jo C Q a g i j k l m b c d e f h:=by
 rintro ρ rfl rfl rfl rfl rfl rfl rfl rfl rfl rfl rfl;exact WA.of (by kernel_rfl) H
def rH (C:fu)(Q:fx)(I:CA)(W X J o P Y K L q r M s t N:V)(h:Hp):Prop:=
 oP (fH 2 J) λb=>
 oP (ev b h) λc=>
 oP (fH 2 J) λd=>
 oP (ev d h) λe=>
 oP (gD 6 e t) λu=>
 oP (fH 4 u) λf=>
 oP (ev f h) λg=>
 oP (gD 1 g nZ) λi=>
 oP (ev i h) λj=>
 oP (ev o h) λk=>
 oP (ev o h) λl=>
 oP (fD l) λv=>
 oP (er .sub 3 v nO) λw=>
 oP (gD 1 k w) λm=>
 oP (ev m h) λn=>
 wS (iZ 3 1 2 nZ [(0,j),(1,n)]) h λp x a=>
 oP (gD 6 c t) λy=>
 oP (fH 4 y) λz=>
 ((a.get (h.next)=some p/\O.beq p p=true)/\
 ((ev m a=some n)/\
 ((ev o a=some l)/\
 ((ev o a=some k)/\
 ((ev i a=some j)/\
 ((ev f a=some g)/\
 ((ev d a=some e)/\
 ((ev b a=some c)/\
 fm (gB 1 z x a) λvu H=>
 (a.next<=H.next/\
 oP (ev o H) λA=>
 oP (iJ 1 A none (some N) H) λB=>
 fm (gB 1 o B H) λR Z=>
 ij (iZ 3 1 1 nZ [(0,s)]) Z λD h4=>
 oP (fN [nS,nZ,nZ,nS,nS,nZ] [(0,1),(1,1),(2,1),(3,1),(4,1),(5,1)] [(1,nO),(3,D)]) λE=>
 gU C (fU r [E]) h4 λS h5=>
 ij (iZ 3 1 1 nZ [(0,s)]) h5 λF h6=>
 oP (fH 4 P) λG=>
 fm (gB 1 G F h6) λT h7=>
 gU C (fU q []) h7 λU h8=>
 jo C Q I W X J o P Y K L q r M h8)))))))))
theorem Az {C:fu}{Q:fx}{a:CA}{k l m n o p b c d e f g i j:V}{h:Hp}(H:rH C Q a k l m n o p b c d e f g i j h):mK C Q a k l m n o p b c d e f g i j h:=by
 rintro ρ rfl rfl rfl rfl rfl rfl rfl rfl rfl rfl rfl rfl rfl rfl;exact WA.of (by kernel_rfl) H
def wu (C:fu)(Q:fx)(a0:V)(h:Hp):Prop:=
 ij (nP 25 a0) h λj o=>
 ij (zC 30 [nZ,nZ,nS,nS,nS]) o λp q=>
 oP (fN [nZ,nZ,nS,nS,nS] [(0,1),(1,1),(2,1),(3,1),(4,1)] [(0,nO),(1,(V.int .i64 2)),(4,nS)]) λa=>
 ij (zC 30 [nZ,nZ,nS,nS,nS]) q λb r=>
 fm (gB 5 b a r) λy k=>
 oP (fH 2 j) λc=>
 oP (ev c k) λd=>
 cP C iF [d,(V.int .i64 5)] k λe s=>
 ij (zC 23 [nS]) s λt u=>
 oP (fN [nS,nZ,nZ,nS,nS,nZ] [(0,1),(1,1),(2,1),(3,1),(4,1),(5,1)] []) λf=>
 ij (zC 44 [nS,nZ,nZ,nS,nS,nZ]) u λg v=>
 fm (gB 6 g f v) λl w=>
 ij (zC 70 [V.nilFunc]) w λm x=>
 fm (gB 1 m (V.func fo [] [b,g]) x) λn i=>
 tw C Q j p b e t g m nZ i
theorem Du{C}(s:C.start=fW){a0 h Q}(k:C.K mr [a0] h=none)(H:wu C Q a0 h):cP C mr [a0] h Q:=cP.vd t13 s (by unfold P0;exact Tryd.func13) k H
end
