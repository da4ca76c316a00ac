/- Parts. -/
import Derived.Test.YtpnddokajmjpbaaDoorM14
namespace Go.Proofs.YtpnddokajmjpbaaDoor.Hx
set_option maxRecDepth 100000
noncomputable section
def t39:List (Nat×List Nat):=[]
def pj (C:Cfg)(Q:QP1)(a0 a1 a2:V)(h:Hp):Prop:=
 alP (hbox 42 a0) h λt a=>
 oP (pFA 2 a1) λu=>
 oP (pLd u a) λv=>
 oP (pLdA 6 t a) λw=>
 alP (pBS 42 6 1 (V.agg [nZ,nZ,nZ,nZ,nS,nZ]) [(0,w)]) a λx y=>
 valP (happend 42 6 64 v x y) λz A=>
 oP (pFA 2 a1) λb=>
 valP (pSt 1 b z A) λE c=>
 oP (pFA 0 a2) λd=>
 oP (pLd d c) λe=>
 oP (pFA 2 a1) λf=>
 oP (pLd f c) λg=>
 oP (pLen g) λi=>
 oP (hbin .sub 3 i nO) λj=>
 alP (pBS 3 1 1 nZ [(0,j)]) c λk B=>
 valP (happend 3 1 8 e k B) λl D=>
 oP (pFA 0 a2) λm=>
 valP (pSt 1 m l D) λr s=>
 oP (pFA 2 a1) λn=>
 oP (pLd n s) λo=>
 oP (pLen o) λp=>
 oP (hbin .sub 3 p nO) λq=>
 Q q s
theorem uY{C}(s:C.start=startF){a0 a1 a2 h Q}(k:C.K eo [a0,a1,a2] h=none)(H:pj C Q a0 a1 a2 h):cP C eo [a0,a1,a2] h Q:=cP.vd t39 s (by unfold P0;exact Tryd.func39) k H
def t40:List (Nat×List Nat):=[]
def pE (C:Cfg)(Q:QP1)(a0 a1 a2:V)(h:Hp):Prop:=
 oP (pLd a1 h) λl=>
 oP (pFA 0 a2) λm=>
 oP (pLd m h) λn=>
 oP (pLen n) λo=>
 oP (hbin .geq 3 l o) λp=>
 bP p (
 Q nZ h) (
 oP (pLd a1 h) λb=>
 oP (hbin .add 3 b nO) λc=>
 valP (pSt 1 a1 c h) λr a=>
 oP (pFA 0 a2) λd=>
 oP (pLd d a) λe=>
 oP (pLd a1 a) λf=>
 oP (hbin .sub 3 f nO) λg=>
 oP (pIx 1 e g) λi=>
 oP (pLd i a) λj=>
 cP C fK [j,a0] a λk q=>
 Q k q)
theorem vP{C}(s:C.start=startF){a0 a1 a2 h Q}(k:C.K eh [a0,a1,a2] h=none)(H:pE C Q a0 a1 a2 h):cP C eh [a0,a1,a2] h Q:=cP.vd t40 s (by unfold P0;exact Tryd.func40) k H
def t41:List (Nat×List Nat):=[(87,[0,1,2,4,5])]
def mz (C:Cfg)(Q:QP1)(a b c d e:V)(h:Hp):Prop:=∀ρ:Rho,ρ 0=a->ρ 1=b->ρ 2=c->ρ 4=d->ρ 5=e->WA C Tryd.f41 t41 43 [] Q ρ h
def mE (C:Cfg)(Q:QP1)(m:QP5)(k X a c Y:V)(h:Hp):Prop:=
 oP (hbin .gtr 3 Y nZ) λn=>
 bP n (
 oP (pFA 2 c) λd=>
 oP (pLd d h) λe=>
 oP (pLd a h) λf=>
 oP (pLd X h) λo=>
 oP (pLd a h) λp=>
 oP (pLen p) λq=>
 calP C (hcall o [q]) h λr l=>
 (h.next<=l.next/\
 oP (pIx 1 f r) λg=>
 oP (pLd g l) λi=>
 alO (pBS 3 1 1 nZ [(0,i)]) l λs t b=>
 ((b.get (l.next)=some s/\O.beq s s=true)/\
 ((pLd g b=some i)/\
 ((pLd a b=some f)/\
 ((pLd d b=some e)/\
 valP (happend 3 1 8 e t b) λu v=>
 (b.next<=v.next/\
 oP (pFA 2 c) λw=>
 valP (pSt 1 w u v) λvu Z=>
 (v.next<=Z.next/\
 oP (hbin .sub 3 Y nO) λx=>
 m k X a c x Z)))))))) (
 oP (pLd a h) λy=>
 oP (pLd a h) λz=>
 oP (pLen z) λA=>
 oP (hbin .sub 3 A nO) λB=>
 oP (pIx 1 y B) λD=>
 oP (pLd D h) λE=>
 alP (pBS 3 1 1 nZ [(0,E)]) h λF h5=>
 oP (pFA 3 c) λG=>
 valP (pSt 1 G F h5) λaa H=>
 oP (pFA 4 k) λI=>
 oP (pLd I H) λJ=>
 oP (pLdA 4 c H) λK=>
 alP (pBS 40 4 1 (V.agg [nZ,nZ,nS,nS]) [(0,K)]) H λL h7=>
 oP (pBuild [nS] [(0,1)] [(0,L)]) λM=>
 alP (pBS 38 1 1 (V.agg [nS]) [(0,M)]) h7 λN h8=>
 valP (happend 38 1 24 J N h8) λP h9=>
 oP (pFA 4 k) λR=>
 valP (pSt 1 R P h9) λab j=>
 oP (pFA 4 k) λS=>
 oP (pLd S j) λT=>
 oP (pLen T) λU=>
 oP (hbin .sub 3 U nO) λW=>
 Q W j)
theorem tf{C Q}(I)(s:P5 I (mE C Q)){k a b c d e h}(i:I k a b c d e h):mz C Q a b c d e h:=WA.l5 I _ s i
def pG (C:Cfg)(Q:QP1)(a0 a1 a2:V)(h:Hp):Prop:=
 oP (pFA 4 a0) λe=>
 oP (pLd e h) λf=>
 oP (pLen f) λg=>
 oP (pBuild [nZ,nZ,nS,nS] [(0,1),(1,1),(2,1),(3,1)] [(0,nO),(1,g)]) λi=>
 alP (zC 40 [nZ,nZ,nS,nS]) h λc j=>
 valP (pSt 4 c i j) λl d=>
 oP (pLd a1 d) λa=>
 calP C (hcall a [(V.int .i64 4)]) d λb k=>
 mz C Q a0 a1 a2 c b k
theorem vt{C}(s:C.start=startF){a0 a1 a2 h Q}(k:C.K eJ [a0,a1,a2] h=none)(H:pG C Q a0 a1 a2 h):cP C eJ [a0,a1,a2] h Q:=cP.vd t41 s (by unfold P0;exact Tryd.func41) k H
def t42:List (Nat×List Nat):=[(11,[0,1,2,3,4,5]),(114,[0,1,2,3,4,5])]
def mw (C:Cfg)(Q:QP1)(a b c d e f:V)(h:Hp):Prop:=∀ρ:Rho,ρ 0=a->ρ 1=b->ρ 2=c->ρ 3=d->ρ 4=e->ρ 5=f->WA C Tryd.f42 t42 5 [] Q ρ h
def fe (C:Cfg)(Q:QP1)(a:QP6)(b c d e f g:V)(h:Hp):Prop:=∀ρ:Rho,ρ 0=b->ρ 1=c->ρ 2=d->ρ 3=e->ρ 4=f->ρ 5=g->WA C Tryd.f42 t42 57 [λρ h=>a (ρ 0) (ρ 1) (ρ 2) (ρ 3) (ρ 4) (ρ 5) h] Q ρ h
def mg (C:Cfg)(Q:QP1)(d:QP6)(f o b c j p:V)(h:Hp):Prop:=
 oP (hbin .gtr 3 p nZ) λaL=>
 oP (pAnd aL (oB (pFA 2 o) λaM=>oB (pLd aM h) λaN=>oB (pLen aN) λaO=>hbin .lss 3 aO (V.int .i64 200))) λaP=>
 bP aP (
 oP (pLd b h) λU=>
 oP (pLd f h) λaQ=>
 oP (pLd b h) λaR=>
 oP (pLen aR) λaS=>
 calP C (hcall aQ [aS]) h λaT z=>
 (h.next<=z.next/\
 oP (pIx 1 U aT) λaU=>
 oP (pLd aU z) λg=>
 ((pLd b z=some U)/\
 oP (pLd b z) λW=>
 oP (pLd f z) λaV=>
 oP (pLd b z) λaW=>
 oP (pLen aW) λaX=>
 calP C (hcall aV [aX]) z λaY X=>
 (z.next<=X.next/\
 oP (pIx 1 W aY) λaZ=>
 oP (pLd aZ X) λq=>
 ((pLd b X=some W)/\
 oP (pLd f X) λa5=>
 calP C (hcall a5 [(V.int .i64 20)]) X λe a=>
 oP (hbin .lss 3 e (V.int .i64 12)) λa6=>
 bP a6 (
 oP (pLd b a) λY=>
 oP (pLd c a) λa7=>
 oP (hbin .add 3 (V.int .i64 3) e) λa8=>
 oP (pBuild [nZ,nZ,nZ,nZ,nS,nZ] [(0,1),(1,1),(2,1),(3,1),(4,1),(5,1)] [(0,a8),(1,g),(2,q)]) λa9=>
 calP C (hcall a7 [a9]) a λba h4=>
 (a.next<=h4.next/\
 alO (pBS 3 1 1 nZ [(0,ba)]) h4 λo8 bb h5=>
 ((h5.get (h4.next)=some o8/\O.beq o8 o8=true)/\
 ((pLd b h5=some Y)/\
 valP (happend 3 1 8 Y bb h5) λbc h6=>
 (h5.next<=h6.next/\
 valP (pSt 1 b bc h6) λvu h7=>
 (h6.next<=h7.next/\
 fe C Q d f o b c j p h7)))))) (
 oP (hbin .eql 3 e (V.int .i64 12)) λbd=>
 bP bd (
 oP (pLd b a) λH=>
 oP (pLd c a) λZ=>
 oP (pLd f a) λbe=>
 calP C (hcall be [(V.int .i64 1048576)]) a λbf h8=>
 (a.next<=h8.next/\
 oP (hbin .sub 2 bf (V.int .i64 9)) λbg=>
 oP (pBuild [nZ,nZ,nZ,nZ,nS,nZ] [(0,1),(1,1),(2,1),(3,1),(4,1),(5,1)] [(0,(V.int .i64 2)),(3,bg)]) λbh=>
 ((pLd c h8=some Z)/\
 ((pLd b h8=some H)/\
 calP C (hcall Z [bh]) h8 λbi h9=>
 (h8.next<=h9.next/\
 alO (pBS 3 1 1 nZ [(0,bi)]) h9 λo7 bj r=>
 ((r.get (h9.next)=some o7/\O.beq o7 o7=true)/\
 ((pLd b r=some H)/\
 valP (happend 3 1 8 H bj r) λbm I=>
 (r.next<=I.next/\
 valP (pSt 1 b bm I) λbQ aa=>
 (I.next<=aa.next/\
 fe C Q d f o b c j p aa))))))))) (
 oP (hbin .eql 3 e (V.int .i64 13)) λbn=>
 bP bn (
 oP (pLd b a) λJ=>
 oP (pLd c a) λab=>
 oP (pLd f a) λbo=>
 calP C (hcall bo [(V.int .i64 5)]) a λbp k=>
 (a.next<=k.next/\
 oP (pBuild [nZ,nZ,nZ,nZ,nS,nZ] [(0,1),(1,1),(2,1),(3,1),(4,1),(5,1)] [(0,(V.int .i64 17)),(1,g),(3,bp)]) λbq=>
 ((pLd c k=some ab)/\
 ((pLd b k=some J)/\
 calP C (hcall ab [bq]) k λbr K=>
 (k.next<=K.next/\
 alO (pBS 3 1 1 nZ [(0,br)]) K λl bt s=>
 ((s.get (K.next)=some l/\O.beq l l=true)/\
 ((pLd b s=some J)/\
 valP (happend 3 1 8 J bt s) λbu L=>
 (s.next<=L.next/\
 valP (pSt 1 b bu L) λbR ac=>
 (L.next<=ac.next/\
 fe C Q d f o b c j p ac))))))))) (
 oP (hbin .eql 3 e (V.int .i64 14)) λbv=>
 bP bv (
 oP (pLd b a) λae=>
 oP (pLd c a) λbw=>
 oP (pBuild [nZ,nZ,nZ,nZ,nS,nZ] [(0,1),(1,1),(2,1),(3,1),(4,1),(5,1)] [(0,(V.int .i64 18)),(1,g),(2,q)]) λbx=>
 calP C (hcall bw [bx]) a λbz M=>
 (a.next<=M.next/\
 alO (pBS 3 1 1 nZ [(0,bz)]) M λo6 bA t=>
 ((t.get (M.next)=some o6/\O.beq o6 o6=true)/\
 ((pLd b t=some ae)/\
 valP (happend 3 1 8 ae bA t) λbC N=>
 (t.next<=N.next/\
 valP (pSt 1 b bC N) λbS ag=>
 (N.next<=ag.next/\
 fe C Q d f o b c j p ag)))))) (
 oP (hbin .eql 3 e (V.int .i64 15)) λbD=>
 bP bD (
 oP (pLd c a) λah=>
 oP (pLd f a) λai=>
 calP C (hcall ai [(V.int .i64 5)]) a λaj u=>
 (a.next<=u.next/\
 oP (pBuild [nZ,nZ,nZ,nZ,nS,nZ] [(0,1),(1,1),(2,1),(3,1),(4,1),(5,1)] [(0,(V.int .i64 19)),(1,g),(3,aj),(2,q)]) λal=>
 ((pLd c u=some ah)/\
 calP C (hcall ah [al]) u λbU am=>
 (u.next<=am.next/\
 fe C Q d f o b c j p am)))) (
 oP (hbin .eql 3 e (V.int .i64 16)) λan=>
 bP an (
 oP (pLd c a) λA=>
 oP (pLd b a) λB=>
 oP (pLd f a) λao=>
 oP (pLd b a) λap=>
 oP (pLen ap) λaq=>
 calP C (hcall ao [aq]) a λar v=>
 (a.next<=v.next/\
 oP (pIx 1 B ar) λD=>
 oP (pLd D v) λE=>
 alO (pBS 3 1 1 nZ [(0,E)]) v λP au i=>
 oP (pBuild [nZ,nZ,nZ,nZ,nS,nZ] [(0,1),(1,1),(2,1),(3,1),(4,1),(5,1)] [(0,(V.int .i64 20)),(1,g),(2,q),(4,au)]) λaw=>
 ((i.get (v.next)=some P/\O.beq P P=true)/\
 ((pLd D i=some E)/\
 ((pLd b i=some B)/\
 ((pLd c i=some A)/\
 calP C (hcall A [aw]) i λbV ax=>
 (i.next<=ax.next/\
 fe C Q d f o b c j p ax))))))) (
 oP (hbin .eql 3 e (V.int .i64 17)) λay=>
 bP ay (
 oP (pLd c a) λF=>
 oP (pLd j a) λaA=>
 calP C (hcall aA []) a λaB w=>
 (a.next<=w.next/\
 oP (pBuild [nZ,nZ,nZ,nZ,nS,nZ] [(0,1),(1,1),(2,1),(3,1),(4,1),(5,1)] [(0,(V.int .i64 22)),(1,g),(5,aB)]) λaC=>
 ((pLd c w=some F)/\
 calP C (hcall F [aC]) w λbW aD=>
 (w.next<=aD.next/\
 fe C Q d f o b c j p aD)))) (
 oP (hbin .eql 3 e (V.int .i64 18)) λaE=>
 bP aE (
 oP (pLd c a) λG=>
 oP (pLd j a) λaF=>
 calP C (hcall aF []) a λaG x=>
 (a.next<=x.next/\
 oP (pBuild [nZ,nZ,nZ,nZ,nS,nZ] [(0,1),(1,1),(2,1),(3,1),(4,1),(5,1)] [(0,(V.int .i64 23)),(5,aG)]) λaH=>
 ((pLd c x=some G)/\
 calP C (hcall G [aH]) x λbX aI=>
 (x.next<=aI.next/\
 fe C Q d f o b c j p aI)))) (
 oP (pLd b a) λR=>
 oP (pLd c a) λaJ=>
 oP (pLd f a) λbE=>
 calP C (hcall bE [(V.int .i64 2)]) a λbG m=>
 (a.next<=m.next/\
 oP (hbin .add 3 (V.int .i64 15) bG) λbH=>
 oP (pBuild [nZ,nZ,nZ,nZ,nS,nZ] [(0,1),(1,1),(2,1),(3,1),(4,1),(5,1)] [(0,bH),(1,g)]) λbI=>
 ((pLd c m=some aJ)/\
 ((pLd b m=some R)/\
 calP C (hcall aJ [bI]) m λbJ S=>
 (m.next<=S.next/\
 alO (pBS 3 1 1 nZ [(0,bJ)]) S λn bK y=>
 ((y.get (S.next)=some n/\O.beq n n=true)/\
 ((pLd b y=some R)/\
 valP (happend 3 1 8 R bK y) λbL T=>
 (y.next<=T.next/\
 valP (pSt 1 b bL T) λbY aK=>
 (T.next<=aK.next/\
 fe C Q d f o b c j p aK))))))))))))))))))))) (
 Q (V.tuple []) h)
theorem tj{C Q}(I)(s:P6 I (mg C Q)){k a b c d e f h}(i:I k a b c d e f h):mw C Q a b c d e f h:=WA.l6 I _ s i
def lM (C:Cfg)(Q:QP1)(a:QP6)(c d e f g i:V)(h:Hp):Prop:=
 oP (hbin .sub 3 i nO) λb=>
 a c d e f g b h
theorem tp {C:Cfg}{Q:QP1}{a:QP6}{b c d e f g:V}{h:Hp}(H:lM C Q a b c d e f g h):fe C Q a b c d e f g h:=by
 rintro ρ rfl rfl rfl rfl rfl rfl;exact WA.of (by kernel_rfl) H
def po (C:Cfg)(Q:QP1)(a0 a1 a2 a3 a4:V)(h:Hp):Prop:=
 oP (pLd a0 h) λc=>
 calP C (hcall c [(V.int .i64 6)]) h λa d=>
 oP (hbin .add 3 nO a) λb=>
 mw C Q a0 a1 a2 a3 a4 b d
theorem u0{C}(s:C.start=startF){a0 a1 a2 a3 a4 h Q}(k:C.K fZ [a0,a1,a2,a3,a4] h=none)(H:po C Q a0 a1 a2 a3 a4 h):cP C fZ [a0,a1,a2,a3,a4] h Q:=cP.vd t42 s (by unfold P0;exact Tryd.func42) k H
def t43:List (Nat×List Nat):=[]
def pO (C:Cfg)(Q:QP1)(a0 a1 a2:V)(h:Hp):Prop:=
 alP (hbox 44 a0) h λa p=>
 oP (pFA 0 a1) λv=>
 oP (pLd v p) λw=>
 oP (pFA 0 a) λx=>
 valP (pSt 1 x w p) λE q=>
 oP (pFA 4 a1) λy=>
 oP (pLd y q) λz=>
 oP (pFA 4 a) λb=>
 valP (pSt 1 b z q) λr c=>
 oP (pFA 3 a2) λd=>
 oP (pLd d c) λe=>
 oP (pLdA 6 a c) λf=>
 alP (pBS 44 6 1 (V.agg [nS,nZ,nZ,nS,nS,nZ]) [(0,f)]) c λg A=>
 valP (happend 44 6 96 e g A) λi B=>
 oP (pFA 3 a2) λj=>
 valP (pSt 1 j i B) λs D=>
 oP (pBuild [nS,nZ,nZ,nS,nS,nZ] [(0,1),(1,1),(2,1),(3,1),(4,1),(5,1)] []) λk=>
 valP (pSt 6 a1 k D) λt u=>
 oP (pFA 3 a2) λl=>
 oP (pLd l u) λm=>
 oP (pLen m) λn=>
 oP (hbin .sub 3 n nO) λo=>
 Q o u
theorem vj{C}(s:C.start=startF){a0 a1 a2 h Q}(k:C.K gI [a0,a1,a2] h=none)(H:pO C Q a0 a1 a2 h):cP C gI [a0,a1,a2] h Q:=cP.vd t43 s (by unfold P0;exact Tryd.func43) k H
def t13:List (Nat×List Nat):=[(1407,[1,2,3,4,5,6,7,8]),(360447,[1,2,3,5,6,7,10,11,12,13,14]),(3768318,[1,2,3,5,6,7,10,11,12,13,14]),(70368597999614,[1,2,3,5,6,7,10,11,12,13,14,24,26,29])]
def oJ (C:Cfg)(Q:QP1)(a b c d e f g i:V)(h:Hp):Prop:=∀ρ:Rho,ρ 1=a->ρ 2=b->ρ 3=c->ρ 4=d->ρ 5=e->ρ 6=f->ρ 7=g->ρ 8=i->WA C Tryd.f13 t13 703 [] Q ρ h
def jz (C:Cfg)(Q:QP1)(f g i j k l a b c d e:V)(h:Hp):Prop:=∀ρ:Rho,ρ 1=f->ρ 2=g->ρ 3=i->ρ 5=j->ρ 6=k->ρ 7=l->ρ 10=a->ρ 11=b->ρ 12=c->ρ 13=d->ρ 14=e->WA C Tryd.f13 t13 180223 [] Q ρ h
def gg (C:Cfg)(Q:QP1)(a:QP11)(g i j k l m b c d e f:V)(h:Hp):Prop:=∀ρ:Rho,ρ 1=g->ρ 2=i->ρ 3=j->ρ 5=k->ρ 6=l->ρ 7=m->ρ 10=b->ρ 11=c->ρ 12=d->ρ 13=e->ρ 14=f->WA C Tryd.f13 t13 1884159 [λρ h=>a (ρ 1) (ρ 2) (ρ 3) (ρ 5) (ρ 6) (ρ 7) (ρ 10) (ρ 11) (ρ 12) (ρ 13) (ρ 14) h] Q ρ h
def jc (C:Cfg)(Q:QP1)(a:QP11)(k l m n o p b c d e f g i j:V)(h:Hp):Prop:=∀ρ:Rho,ρ 1=k->ρ 2=l->ρ 3=m->ρ 5=n->ρ 6=o->ρ 7=p->ρ 10=b->ρ 11=c->ρ 12=d->ρ 13=e->ρ 14=f->ρ 24=g->ρ 26=i->ρ 29=j->WA C Tryd.f13 t13 35184298999807 [λρ h=>a (ρ 1) (ρ 2) (ρ 3) (ρ 5) (ρ 6) (ρ 7) (ρ 10) (ρ 11) (ρ 12) (ρ 13) (ρ 14) h] Q ρ h
def nY (C:Cfg)(Q:QP1)(k:QP8)(l N d P a m e n:V)(h:Hp):Prop:=
 oP (hbin .lss 3 n P) λo=>
 bP o (
 oP (pLd a h) λf=>
 oP (pLd e h) λp=>
 oP (pBuild [nZ,nZ,nZ,nZ,nS,nZ] [(0,1),(1,1),(2,1),(3,1),(4,1),(5,1)] [(0,nO),(3,n)]) λq=>
 calP C (hcall p [q]) h λr s=>
 (h.next<=s.next/\
 alO (pBS 3 1 1 nZ [(0,r)]) s λt u i=>
 ((i.get (s.next)=some t/\O.beq t t=true)/\
 ((pLd a i=some f)/\
 valP (happend 3 1 8 f u i) λv w=>
 (i.next<=w.next/\
 valP (pSt 1 a v w) λvu R=>
 (w.next<=R.next/\
 oP (hbin .add 3 n nO) λx=>
 k l N d P a m e x R)))))) (
 oP (pLd a h) λg=>
 oP (pLd e h) λy=>
 oP (pBuild [nZ,nZ,nZ,nZ,nS,nZ] [(0,1),(1,1),(2,1),(3,1),(4,1),(5,1)] [(0,(V.int .i64 2)),(3,(V.int .i64 5))]) λz=>
 calP C (hcall y [z]) h λA B=>
 (h.next<=B.next/\
 alO (pBS 3 1 1 nZ [(0,A)]) B λD E j=>
 ((j.get (B.next)=some D/\O.beq D D=true)/\
 ((pLd a j=some g)/\
 valP (happend 3 1 8 g E j) λF G=>
 (j.next<=G.next/\
 valP (pSt 1 a F G) λS T=>
 (G.next<=T.next/\
 alP (zC 3 [nZ]) T λU Z=>
 valP (pSt 1 U nZ Z) λW H=>
 alP (zC 71 [V.nilFunc]) H λb I=>
 valP (pSt 1 b (V.func eh [] [U,l]) I) λX J=>
 alP (zC 72 [V.nilFunc]) J λc K=>
 valP (pSt 1 c (V.func eJ [] [d,b,a]) K) λY L=>
 calP C (hcall (V.func fZ [] [b,d,a,e,c]) []) L λaa M=>
 jz C Q l N d a m e b c (V.func fZ [] [b,d,a,e,c]) (V.func gI [] [m,d]) nZ M))))))
theorem uq{C Q}(I)(s:P8 I (nY C Q)){k a b c d e f g j h}(i:I k a b c d e f g j h):oJ C Q a b c d e f g j h:=WA.l8 I _ s i
def oR (C:Cfg)(Q:QP1)(y:QP11)(x1 x2 g a s n f i c b j:V)(h:Hp):Prop:=
 oP (pFA 1 x1) λdj=>
 oP (pLd dj h) λdk=>
 oP (pLen dk) λdl=>
 oP (hbin .lss 3 j dl) λdm=>
 oP (pAnd dm (oB (some j) λdn=>hbin .lss 3 dn (V.int .i64 6))) λdp=>
 oP (pAnd dp (oB (pFA 2 g) λdq=>oB (pLd dq h) λdr=>oB (pLen dr) λdt=>hbin .lss 3 dt (V.int .i64 160))) λdu=>
 bP du (
 oP (pFA 1 x1) λdv=>
 oP (pLd dv h) λdw=>
 oP (pIx 1 dw j) λdx=>
 oP (pLd dx h) λdy=>
 cP C fK [dy,(V.int .i64 3)] h λal k=>
 oP (hbin .eql 3 al nZ) λam=>
 bP am (
 oP (pLd a k) λF=>
 oP (pLd f k) λan=>
 oP (pLd a k) λao=>
 oP (pLen ao) λap=>
 calP C (hcall an [ap]) k λaq h2=>
 (k.next<=h2.next/\
 oP (pIx 1 F aq) λar=>
 oP (pLd ar h2) λau=>
 ((pLd a h2=some F)/\
 oP (pLd a h2) λaw=>
 oP (pLen aw) λG=>
 oP (pFA 3 g) λax=>
 oP (pLd ax h2) λay=>
 oP (pLen ay) λaA=>
 oP (hbin .add 3 aA nO) λaB=>
 oP (pFA 3 g) λaC=>
 oP (pLd aC h2) λaD=>
 oP (pLen aD) λaE=>
 oP (hbin .add 3 aE (V.int .i64 2)) λaF=>
 alP (pBS 3 1 2 nZ [(0,aB),(1,aF)]) h2 λaG h3=>
 oP (pBuild [nS,nZ,nZ,nS,nS,nZ] [(0,1),(1,1),(2,1),(3,1),(4,1),(5,1)] [(1,(V.int .i64 2)),(2,au),(3,aG)]) λaH=>
 calP C (hcall b [aH]) h3 λH h4=>
 alP (pBS 3 1 1 nZ [(0,H)]) h4 λaI h5=>
 oP (pFA 4 s) λaJ=>
 valP (pSt 1 aJ aI h5) λvu h6=>
 calP C (hcall c []) h6 λv154 h7=>
 oP (pLd a h7) λaK=>
 oP (pLd a h7) λaL=>
 oP (pLen aL) λaM=>
 oP (hbin .sub 3 aM nO) λaN=>
 oP (pIx 1 aK aN) λaO=>
 oP (pLd aO h7) λaP=>
 oP (pLd a h7) λaQ=>
 oP (hsliceV 1 aQ none (some G) h7) λaR=>
 valP (pSt 1 a aR h7) λvu_1 h8=>
 oP (pFA 3 g) λaS=>
 oP (pLd aS h8) λaT=>
 oP (pLen aT) λaU=>
 oP (hbin .add 3 aU (V.int .i64 2)) λaV=>
 alP (pBS 3 1 1 nZ [(0,aV)]) h8 λaW h9=>
 oP (pBuild [nS,nZ,nZ,nS,nS,nZ] [(0,1),(1,1),(2,1),(3,1),(4,1),(5,1)] [(1,nO),(3,aW)]) λaX=>
 calP C (hcall b [aX]) h9 λaY dz=>
 alP (pBS 3 1 1 nZ [(0,H)]) dz λaZ dA=>
 oP (pFA 4 s) λa5=>
 valP (pSt 1 a5 aZ dA) λvu_2 dB=>
 calP C (hcall c []) dB λv176 o=>
 oP (pLd a o) λa6=>
 oP (pLd a o) λa7=>
 oP (pLen a7) λa8=>
 oP (hbin .sub 3 a8 nO) λa9=>
 oP (pIx 1 a6 a9) λba=>
 oP (pLd ba o) λbb=>
 oP (pLd a o) λbc=>
 oP (hsliceV 1 bc none (some G) o) λbd=>
 valP (pSt 1 a bd o) λvu_3 be=>
 oP (pFA 3 g) λbf=>
 oP (pLd bf be) λbg=>
 oP (pLen bg) λbh=>
 oP (hbin .add 3 bh nO) λbi=>
 alP (pBS 3 1 1 nZ [(0,bi)]) be λbj dC=>
 oP (pBuild [nS,nZ,nZ,nS,nS,nZ] [(0,1),(1,1),(2,1),(3,1),(4,1),(5,1)] [(1,nO),(3,bj)]) λbm=>
 calP C (hcall b [bm]) dC λbn dD=>
 alP (pBS 3 1 2 nZ [(0,aY),(1,bn)]) dD λbo dE=>
 oP (pFA 4 s) λbp=>
 valP (pSt 1 bp bo dE) λvu_4 z=>
 oP (pLd a z) λt=>
 oP (pLd n z) λI=>
 alO (pBS 3 1 2 nZ [(0,aP),(1,bb)]) z λo4 bq u=>
 oP (pBuild [nZ,nZ,nZ,nZ,nS,nZ] [(0,1),(1,1),(2,1),(3,1),(4,1),(5,1)] [(0,(V.int .i64 21)),(4,bq)]) λbr=>
 ((u.get (z.next)=some o4/\O.beq o4 o4=true)/\
 ((pLd n u=some I)/\
 ((pLd a u=some t)/\
 calP C (hcall I [br]) u λbt ac=>
 (u.next<=ac.next/\
 alO (pBS 3 1 1 nZ [(0,bt)]) ac λo7 bu A=>
 ((A.get (ac.next)=some o7/\O.beq o7 o7=true)/\
 ((pLd a A=some t)/\
 valP (happend 3 1 8 t bu A) λbv ae=>
 (A.next<=ae.next/\
 valP (pSt 1 a bv ae) λvu_5 bw=>
 (ae.next<=bw.next/\
 calP C (hcall c []) bw λv208 dH=>
 gg C Q y x1 x2 g a s n f i c b j dH))))))))))) (
 oP (hbin .eql 3 al nO) λbx=>
 bP bx (
 oP (pLd a k) λJ=>
 oP (pLd f k) λbz=>
 oP (pLd a k) λbA=>
 oP (pLen bA) λbC=>
 calP C (hcall bz [bC]) k λbD v=>
 (k.next<=v.next/\
 oP (pIx 1 J bD) λbE=>
 oP (pLd bE v) λw=>
 ((pLd a v=some J)/\
 oP (pFA 3 g) λbG=>
 oP (pLd bG v) λbH=>
 oP (pLen bH) λbI=>
 oP (hbin .add 3 bI nO) λbJ=>
 alP (pBS 3 1 1 nZ [(0,bJ)]) v λbK dK=>
 oP (pBuild [nS,nZ,nZ,nS,nS,nZ] [(0,1),(1,1),(2,1),(3,1),(4,1),(5,1)] [(1,nO),(3,bK)]) λbL=>
 calP C (hcall b [bL]) dK λK dM=>
 oP (hbin .add 3 K nO) λd=>
 oP (hbin .add 3 d nO) λbQ=>
 alP (pBS 3 1 2 nZ [(0,K),(1,bQ)]) dM λbR dO=>
 oP (pFA 4 s) λbS=>
 valP (pSt 1 bS bR dO) λvu_6 bU=>
 oP (pLd n bU) λbV=>
 alP (pBS 3 1 2 nZ [(0,w),(1,nZ)]) bU λbW dP=>
 oP (pBuild [nZ,nZ,nZ,nZ,nS,nZ] [(0,1),(1,1),(2,1),(3,1),(4,1),(5,1)] [(0,(V.int .i64 21)),(4,bW)]) λbX=>
 calP C (hcall bV [bX]) dP λe p=>
 oP (pLd n p) λL=>
 oP (pLd a p) λM=>
 oP (pLd f p) λbY=>
 oP (pLd a p) λbZ=>
 oP (pLen bZ) λb4=>
 calP C (hcall bY [b4]) p λb5 B=>
 (p.next<=B.next/\
 oP (pIx 1 M b5) λN=>
 oP (pLd N B) λP=>
 alO (pBS 3 1 2 nZ [(0,P),(1,e)]) B λo9 b6 q=>
 oP (pBuild [nZ,nZ,nZ,nZ,nS,nZ] [(0,1),(1,1),(2,1),(3,1),(4,1),(5,1)] [(0,(V.int .i64 21)),(4,b6)]) λb7=>
 ((q.get (B.next)=some o9/\O.beq o9 o9=true)/\
 ((pLd N q=some P)/\
 ((pLd a q=some M)/\
 ((pLd n q=some L)/\
 calP C (hcall L [b7]) q λx ag=>
 (q.next<=ag.next/\
 oP (pLd a ag) λb8=>
 alP (pBS 3 1 2 nZ [(0,e),(1,x)]) ag λb9 dQ=>
 valP (happend 3 1 8 b8 b9 dQ) λca dR=>
 valP (pSt 1 a ca dR) λvu_7 D=>
 oP (pLd n D) λR=>
 oP (pLd i D) λcb=>
 calP C (hcall cb []) D λcd E=>
 (D.next<=E.next/\
 oP (pBuild [nZ,nZ,nZ,nZ,nS,nZ] [(0,1),(1,1),(2,1),(3,1),(4,1),(5,1)] [(0,(V.int .i64 23)),(5,cd)]) λce=>
 ((pLd n E=some R)/\
 calP C (hcall R [ce]) E λv259 ah=>
 (E.next<=ah.next/\
 oP (pLd n ah) λcf=>
 oP (pBuild [nZ,nZ,nZ,nZ,nS,nZ] [(0,1),(1,1),(2,1),(3,1),(4,1),(5,1)] [(0,(V.int .i64 2)),(3,nO)]) λcg=>
 calP C (hcall cf [cg]) ah λci cj=>
 oP (pLd n cj) λcl=>
 oP (pBuild [nZ,nZ,nZ,nZ,nS,nZ] [(0,1),(1,1),(2,1),(3,1),(4,1),(5,1)] [(0,(V.int .i64 4)),(1,e),(2,ci)]) λcm=>
 calP C (hcall cl [cm]) cj λS cn=>
 oP (pLd a cn) λco=>
 alP (pBS 3 1 1 nZ [(0,S)]) cn λcp dS=>
 valP (happend 3 1 8 co cp dS) λcq dT=>
 valP (pSt 1 a cq dT) λvu_8 dU=>
 oP (hbin .add 3 d nO) λcr=>
 oP (hbin .add 3 d (V.int .i64 2)) λct=>
 alP (pBS 3 1 2 nZ [(0,cr),(1,ct)]) dU λcu dV=>
 oP (pBuild [nS,nZ,nZ,nS,nS,nZ] [(0,1),(1,1),(2,1),(3,1),(4,1),(5,1)] [(1,(V.int .i64 2)),(2,e),(3,cu)]) λcv=>
 calP C (hcall b [cv]) dV λv280 cw=>
 oP (pLd a cw) λcx=>
 oP (pLen cx) λT=>
 alP (pBS 3 1 1 nZ [(0,d)]) cw λcy dW=>
 oP (pFA 4 s) λcz=>
 valP (pSt 1 cz cy dW) λvu_9 dZ=>
 calP C (hcall c []) dZ λv287 cA=>
 oP (pFA 2 g) λcB=>
 oP (pLd cB cA) λcC=>
 alP (pBS 3 1 2 nZ [(0,w),(1,S)]) cA λcD d1=>
 oP (pIx 6 cC e) λcE=>
 oP (pFA 4 cE) λcF=>
 valP (pSt 1 cF cD d1) λd2 cG=>
 oP (pLd f cG) λcH=>
 calP C (hcall cH [(V.int .i64 3)]) cG λcI l=>
 oP (hbin .eql 3 cI nZ) λcJ=>
 bP cJ (
 oP (pFA 2 g) λU=>
 oP (pLd U l) λW=>
 oP (pLd a l) λX=>
 oP (pLd a l) λY=>
 oP (pLen Y) λcK=>
 oP (hbin .sub 3 cK nO) λcL=>
 oP (pIx 1 X cL) λZ=>
 oP (pLd Z l) λaa=>
 alO (pBS 3 1 2 nZ [(0,w),(1,aa)]) l λai cM m=>
 oP (pIx 6 W e) λcN=>
 oP (pFA 4 cN) λcO=>
 ((m.get (l.next)=some ai/\O.beq ai ai=true)/\
 ((pLd Z m=some aa)/\
 ((pLd a m=some Y)/\
 ((pLd a m=some X)/\
 ((pLd U m=some W)/\
 valP (pSt 1 cO cM m) λd3 cQ=>
 (m.next<=cQ.next/\
 jc C Q y x1 x2 g a s n f i c b j d x T cQ))))))) (
 jc C Q y x1 x2 g a s n f i c b j d x T l))))))))))))) (
 oP (pLd a k) λcR=>
 oP (pLd f k) λd4=>
 oP (pLd a k) λd5=>
 oP (pLen d5) λd6=>
 calP C (hcall d4 [d6]) k λd7 r=>
 (k.next<=r.next/\
 oP (pIx 1 cR d7) λv91=>
 oP (pLd v91 r) λv92=>
 ((pLd a r=some cR)/\
 oP (pFA 3 g) λv95=>
 oP (pLd v95 r) λv96=>
 oP (pLen v96) λv97=>
 oP (hbin .add 3 v97 nO) λv98=>
 oP (pFA 3 g) λv99=>
 oP (pLd v99 r) λcS=>
 oP (pLen cS) λcT=>
 oP (hbin .add 3 cT (V.int .i64 2)) λcU=>
 alP (pBS 3 1 2 nZ [(0,v98),(1,cU)]) r λcV h56=>
 oP (pBuild [nS,nZ,nZ,nS,nS,nZ] [(0,1),(1,1),(2,1),(3,1),(4,1),(5,1)] [(1,(V.int .i64 2)),(2,v92),(3,cV)]) λcW=>
 calP C (hcall b [cW]) h56 λab cX=>
 oP (pLd a cX) λcY=>
 oP (pLen cY) λcZ=>
 alP (pBS 3 1 1 nZ [(0,ab)]) cX λc0 h58=>
 oP (pFA 4 s) λc1=>
 valP (pSt 1 c1 c0 h58) λvu_12 h59=>
 calP C (hcall c []) h59 λv112 c3=>
 oP (pLd i c3) λc4=>
 calP C (hcall c4 []) c3 λc5 h61=>
 oP (pBuild [nS,nZ,nZ,nS,nS,nZ] [(0,1),(1,1),(2,1),(3,1),(4,1),(5,1)] [(1,(V.int .i64 3)),(5,c5)]) λc6=>
 calP C (hcall b [c6]) h61 λv117 aj=>
 oP (pLd a aj) λc7=>
 oP (hsliceV 1 c7 none (some cZ) aj) λc8=>
 valP (pSt 1 a c8 aj) λvu_13 h63=>
 alP (pBS 3 1 1 nZ [(0,ab)]) h63 λc9 h64=>
 oP (pFA 4 s) λdc=>
 valP (pSt 1 dc c9 h64) λvu_14 h65=>
 calP C (hcall c []) h65 λv125 h66=>
 gg C Q y x1 x2 g a s n f i c b j h66))))) (
 oP (pLd i h) λdd=>
 calP C (hcall dd []) h λde h67=>
 oP (pBuild [nS,nZ,nZ,nS,nS,nZ] [(0,1),(1,1),(2,1),(3,1),(4,1),(5,1)] [(1,(V.int .i64 3)),(5,de)]) λdf=>
 calP C (hcall b [df]) h67 λv349 dg=>
 oP (pLdA 5 g dg) λdh=>
 valP (pSt 5 x2 dh dg) λvu_15 di=>
 oP (pLdA 5 x2 di) λr2=>
 Q r2 di)
theorem uS{C Q}(I)(s:P11 I (oR C Q)){k f g j l m n a b c d e h}(i:I k f g j l m n a b c d e h):jz C Q f g j l m n a b c d e h:=WA.l11 I _ s i
def nf (C:Cfg)(Q:QP1)(a:QP11)(i j k l m n b c d e f:V)(h:Hp):Prop:=
 oP (hbin .add 3 f nO) λg=>
 a i j k l m n b c d e g h
theorem ui {C:Cfg}{Q:QP1}{a:QP11}{g i j k l m b c d e f:V}{h:Hp}(H:nf C Q a g i j k l m b c d e f h):gg C Q a g i j k l m b c d e f h:=by
 rintro ρ rfl rfl rfl rfl rfl rfl rfl rfl rfl rfl rfl;exact WA.of (by kernel_rfl) H
def mP (C:Cfg)(Q:QP1)(I:QP11)(W X J o P Y K L q r M s t N:V)(h:Hp):Prop:=
 oP (pFA 2 J) λb=>
 oP (pLd b h) λc=>
 oP (pFA 2 J) λd=>
 oP (pLd d h) λe=>
 oP (pIx 6 e t) λu=>
 oP (pFA 4 u) λf=>
 oP (pLd f h) λg=>
 oP (pIx 1 g nZ) λi=>
 oP (pLd i h) λj=>
 oP (pLd o h) λk=>
 oP (pLd o h) λl=>
 oP (pLen l) λv=>
 oP (hbin .sub 3 v nO) λw=>
 oP (pIx 1 k w) λm=>
 oP (pLd m h) λn=>
 alO (pBS 3 1 2 nZ [(0,j),(1,n)]) h λp x a=>
 oP (pIx 6 c t) λy=>
 oP (pFA 4 y) λz=>
 ((a.get (h.next)=some p/\O.beq p p=true)/\
 ((pLd m a=some n)/\
 ((pLd o a=some l)/\
 ((pLd o a=some k)/\
 ((pLd i a=some j)/\
 ((pLd f a=some g)/\
 ((pLd d a=some e)/\
 ((pLd b a=some c)/\
 valP (pSt 1 z x a) λvu H=>
 (a.next<=H.next/\
 oP (pLd o H) λA=>
 oP (hsliceV 1 A none (some N) H) λB=>
 valP (pSt 1 o B H) λR Z=>
 alP (pBS 3 1 1 nZ [(0,s)]) Z λD h4=>
 oP (pBuild [nS,nZ,nZ,nS,nS,nZ] [(0,1),(1,1),(2,1),(3,1),(4,1),(5,1)] [(1,nO),(3,D)]) λE=>
 calP C (hcall r [E]) h4 λS h5=>
 alP (pBS 3 1 1 nZ [(0,s)]) h5 λF h6=>
 oP (pFA 4 P) λG=>
 valP (pSt 1 G F h6) λT h7=>
 calP C (hcall q []) h7 λU h8=>
 gg C Q I W X J o P Y K L q r M h8)))))))))
theorem um {C:Cfg}{Q:QP1}{a:QP11}{k l m n o p b c d e f g i j:V}{h:Hp}(H:mP C Q a k l m n o p b c d e f g i j h):jc C Q a k l m n o p b c d e f g i j h:=by
 rintro ρ rfl rfl rfl rfl rfl rfl rfl rfl rfl rfl rfl rfl rfl rfl;exact WA.of (by kernel_rfl) H
def qR (C:Cfg)(Q:QP1)(a0:V)(h:Hp):Prop:=
 alP (hbox 25 a0) h λj o=>
 alP (zC 30 [nZ,nZ,nS,nS,nS]) o λp q=>
 oP (pBuild [nZ,nZ,nS,nS,nS] [(0,1),(1,1),(2,1),(3,1),(4,1)] [(0,nO),(1,(V.int .i64 2)),(4,nS)]) λa=>
 alP (zC 30 [nZ,nZ,nS,nS,nS]) q λb r=>
 valP (pSt 5 b a r) λy k=>
 oP (pFA 2 j) λc=>
 oP (pLd c k) λd=>
 cP C fK [d,(V.int .i64 5)] k λe s=>
 alP (zC 23 [nS]) s λt u=>
 oP (pBuild [nS,nZ,nZ,nS,nS,nZ] [(0,1),(1,1),(2,1),(3,1),(4,1),(5,1)] []) λf=>
 alP (zC 44 [nS,nZ,nZ,nS,nS,nZ]) u λg v=>
 valP (pSt 6 g f v) λl w=>
 alP (zC 70 [V.nilFunc]) w λm x=>
 valP (pSt 1 m (V.func eo [] [b,g]) x) λn i=>
 oJ C Q j p b e t g m nZ i
theorem wH{C}(s:C.start=startF){a0 h Q}(k:C.K iV [a0] h=none)(H:qR C Q a0 h):cP C iV [a0] h Q:=cP.vd t13 s (by unfold P0;exact Tryd.func13) k H
end
