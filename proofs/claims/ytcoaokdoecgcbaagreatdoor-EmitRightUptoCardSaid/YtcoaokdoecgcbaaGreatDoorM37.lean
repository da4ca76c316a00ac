/- Parts. -/
import Derived.Test.YtcoaokdoecgcbaaGreatDoorM28
import Derived.Test.YtcoaokdoecgcbaaGreatDoorM35
import Derived.Test.YtcoaokdoecgcbaaGreatDoorM33
set_option maxHeartbeats 4000000
namespace Go.Proofs.YtcoaokdoecgcbaaGreatDoor.Hx
open Un
abbrev qL:Nat:=102
abbrev mq:Nat:=46
abbrev O0:Nat:=48
abbrev ny:Nat:=51
abbrev zfU:Nat:=99
abbrev CV:Nat:=177
def BQ(x:Ni):List V:=[.I x.op,.I x.a,.I x.b,.I x.c,.I x.n]
def XX:rG Ni where
 sz:=5
 rel _ _ x cs:=cs=BQ x
 len h:=by subst h;rfl
 one h:=by subst h;rfl
 fh _ h:=h
 mono _ h:=h
def AB(x:Nl):List V:=[.I x.kind,.I x.n]
def KI:rG Nl where
 sz:=2
 rel _ _ x cs:=cs=AB x
 len h:=by subst h;rfl
 one h:=by subst h;rfl
 fh _ h:=h
 mono _ h:=h
def eFr:rG Nf where
 sz:=4
 rel F h x cs:=∃l s,cs=[.I x.func,.I x.pc,l,s]/\iH KI F h x.locals l/\iH KI F h x.stack s
 len:=λ⟨_,_,h,_⟩=>by subst h;rfl
 one:=λ⟨_,_,h,a,b⟩=>by subst h;simp only[fe,a.one,b.one];rfl
 fh:=λc ⟨l,s,h,a,b⟩=>⟨l,s,h,a.fh c,b.fh c⟩
 mono:=λd ⟨l,s,h,a,b⟩=>⟨l,s,h,a.mono d,b.mono d⟩
def Tb:rG Nx where
 sz:=3
 rel F h x cs:=∃f,cs=[f,.I x.state,.I x.val]/\iH eFr F h x.il f
 len:=λ⟨_,h,_⟩=>by subst h;rfl
 one:=λ⟨_,h,a⟩=>by subst h;simp only[fe,a.one];rfl
 fh:=λb ⟨f,h,a⟩=>⟨f,h,a.fh b⟩
 mono:=λc ⟨f,h,a⟩=>⟨f,h,a.mono c⟩
def eMv:rG Mv where
 sz:=2
 rel _ _ x cs:=cs=[.I x.1,.I x.2]
 len h:=by subst h;rfl
 one h:=by subst h;rfl
 fh _ h:=h
 mono _ h:=h
section
variable{F F':Nat->Prop}{h h':Hp}{cs:List Pc}{Q:fo}
structure Cl (F:Nat->Prop) (h:Hp) (l T:Nat) (ws:List V):Prop where
 f:F l
 g:h.get l=some (.cells T 1 true false ws)
theorem Cl.since{l T:Nat}{ws:List V}(c:Cl F h l T ws)(s:Sn F h F' h'):Cl F' h' l T ws:=⟨s.mono _ c.f,(s.fh _ c.f).trans c.g⟩
theorem Cl.ld{l T:Nat}{ws:List V}(c:Cl F h l T ws){o:Nat}{u:V}(a:ws[o]? =some u):eC (.ptr l o) h=some u:=j5 c.g a
theorem Cl.zB{l T n:Nat}{ws:List V}(c:Cl F h l T ws)(a:ws.length=n):gy n (.ptr l 0) h=some (.agg ws):=Av c.g a
theorem BD(H:ej F h cs)(i:Nat){l ty:Nat}{ws:List V}(hi:cs[i]? =some (ft l ty ws)):l<h.next:=(H.ok i _ hi).2.1
theorem tW{T n:Nat}{d ws:List V}{K:fo}(H:ej F h cs)(f:d.length=n)(g:ws.length=n)(b:gz ws=true)(i:∀c a l,ej c a cs->Sn F h c a->Cl c a l T ws->K (.ptr l 0) a) :
  hZ (some (O.cells T 1 true false d,λl=>V.ptr l 0)) h λv b=>fg (gL n v (.agg ws) b) λ_ a=>K v a:=
 lM H f g b λa e j=>by
  obtain⟨k,m⟩:=e.MU 0 rfl;exact i _ a _ k.tail (j.trans m) ⟨.inr rfl,e.get 0 rfl⟩
theorem xX{T:Nat}{ws:List V}{K:fo}(H:ej F h cs)(d:gz ws=true)(e:∀b a l,ej b a cs->Sn F h b a->Cl b a l T ws->K (.ptr l 0) a):hZ (nj T (.agg ws)) h K:=
 rL H d λa c f=>by
  obtain⟨g,i⟩:=c.MU 0 rfl;exact e _ a _ g.tail (f.trans i) ⟨.inr rfl,c.get 0 rfl⟩
theorem ej.sub{ds:List Pc}(H:ej F h cs)(f:Nat->Nat)(a:∀i c,ds[i]? =some c->cs[f i]? =some c)(hi:∀i j,f i=f j->i=j):ej F h ds:=
 ⟨H.fl,λi c hc=>H.ok (f i) c (a i c hc),λi j c d hc hd b=>H.Kv (f i) (f j) c d (a i c hc) (a j d hd) λe=>b (hi i j e)⟩
theorem ej.YI{a b c d e p:Pc}(H:ej F h (p::a::b::c::d::e::cs)):ej F h (a::b::c::d::e::p::cs):=
 H.sub (λi=>if i<5 then i+1 else if i=5 then 0 else i) (λi x f=>by
  match i,f with
  |0,f=>exact f
  |1,f=>exact f
  |2,f=>exact f
  |3,f=>exact f
  |4,f=>exact f
  |5,f=>exact f
  |i+6,f=>(rw[if_neg (by omega),if_neg (by omega)];exact f)) (by grind)
theorem ej.zcB{a b c d e p:Pc}(H:ej F h (a::b::c::d::e::p::cs)):ej F h (a::b::c::d::e::cs):=
 H.sub (λi=>if i<5 then i else i+1) (λi x f=>by
  match i,f with
  |0,f=>exact f
  |1,f=>exact f
  |2,f=>exact f
  |3,f=>exact f
  |4,f=>exact f
  |i+5,f=>(rw[if_neg (by omega)];exact f)) (by grind)
theorem QV{p:Int}(i:p<1000000) (c : -1000000<p)(d:ej F h cs)(H:∀F' h',Sn F h F' h'->ej F' h' cs->Q (.agg (AB (nV p))) h'):cP CS wB [.I p] h Q:=by
 refine T2 rfl rfl ?_;unfold M1;rw[fI];obtain⟨f,s1⟩:=d.HM mq [.I 0,.I 0];refine Yj ?_;have fin:∀ws:List V,ws=AB (nV p)->fg (gL 2 (.ptr h.next 0) (.agg ws) (h.new (.cells mq 1 true false [.I 0,.I 0]))) λ_ a=>oP (gy 2 (.ptr h.next 0) a) λr=>Q r a:=λws e=>by
  obtain⟨a,e2,_,b,g⟩:=f.XM 0 (n:=2) (ws:=ws) rfl (by rw[e];rfl) rfl (by rw[e];rfl);rw[show gL 2 (.ptr h.next 0) (.agg ws) (h.new (.cells mq 1 true false [.I 0,.I 0]))=_ from e2,eh];refine ec (b.zB 0 rfl (by rw[e];rfl)) ?_;rw[e];exact H F a (s1.trans g) b.tail
 unfold nV AB at fin;split
 ·rename_i e;rw[if_pos e]at fin;exact ec (show _=some (V.agg [.I 1,.I p]) from rfl) (fin _ rfl)
 ·rename_i e;rw[if_neg e]at fin;rw[iu,fY,gS (by simp only[Cf];omega)];exact ec (show _=some (V.agg [.I 2,.I (p-16)]) from rfl) (fin _ rfl)
end
structure Ge where
 le:Nat
 u:U
 vv:V
 vb:V
 vs:V
 of:List Int
 tR:V
 fM:Int
structure Ga where
 l:List Ni
 bs:List Nat
 js:List Nat
 ex:List Nx
structure Gx where
 l:V
 b:V
 j:V
 e:V
def emC(e:Ge)(w:Gx):List V:=[e.tR,.I e.fM,.I e.u.func,.I e.u.pc,e.vv,e.vb,e.vs,w.l,w.b,w.j,w.e]
def Uz(e:Ge)(s:Ga)(w:Gx)(cs:List Pc):List Pc:=ft e.le zfU (emC e w)::fE XX qL s.l w.l::fE eN fw s.bs w.b::fE eN fw s.js w.j::fE Tb ny s.ex w.e::cs
structure Gm (F:Nat->Prop) (h:Hp) (cs:List Pc) (e:Ge) (s:Ga) (w:Gx):Prop where
 H:ej F h (Uz e s w cs)
 u:Is F h e.u e.vv e.vb e.vs
 p:∃j:Nat,cs[j]? =some (fE eZ fw e.of e.tR)
 n:s.l.length<400000/\s.bs.length<400000/\s.js.length<400000/\s.ex.length<400000
section
variable{F F':Nat->Prop}{h h':Hp}{cs:List Pc}{Q:fo}{e:Ge}{s:Ga}{w:Gx}
theorem Gm.ld(E:Gm F h cs e s w)(o:Nat){y:V}(a:(emC e w)[o]? =some y):eC (.ptr e.le o) h=some y:=E.H.ld 0 rfl a
theorem Gm.since(E:Gm F h cs e s w)(a:Sn F h F' h')(b:ej F' h' (Uz e s w cs)):Gm F' h' cs e s w:=⟨b,E.u.since a,E.p,E.n⟩
theorem ej.zeY{ty:Nat}{xs:List Int}{v:V}(H:ej F h cs)(i:Nat)(hi:cs[i]? =some (fE eZ ty xs v)){k:Nat}{x:Int}(b:xs[k]? =some x)(c:IntKind):∃l o,gP 1 v (.int c (k:Nat))=some (.ptr l o)/\eC (.ptr l o) h=some (.I x)/\l<h.next:=by
 obtain⟨l,o,a,e⟩:=H.AI i hi b c;refine⟨l,o,a,e,?_⟩;obtain⟨d,_⟩:=kE.1 b;rcases H.row i hi with⟨_,rfl⟩|⟨t,ds,rfl,f,_⟩
 ·cases d
 ·rw[wx _ _ _ _ _ _ d]at a;cases a;exact f
theorem Gm.pl(E:Gm F h cs e s w){v:Nat}(hv:v<e.of.length):∃l o,gP 1 e.tR (.I v)=some (.ptr l o)/\eC (.ptr l o) h=some (.I (jK e.of v))/\l<h.next:=by
 obtain⟨j,a⟩:=E.p;refine E.H.zeY (j+5) (by simpa[Uz]using a) ?_ .i64;unfold jK;rw[OV,iz hv];rfl
theorem Vi(E:Gm F h cs e s w){v:Nat}(hv:v<e.of.length) (z : -1000000<jK e.of v/\jK e.of v<1000000){sl:Int}(H:∀F' h',Sn F h F' h'->Gm F' h' cs e s w->Q (.agg (AB (nV (jK e.of v)))) h') :
  cP CS iV [.agg [e.tR,.I sl],.I v] h Q:=by
 refine Bi rfl rfl ?_;unfold uW;have b:e.tR.one=true:=by
  obtain⟨j,i⟩:=E.p;exact E.H.one (j+5) (by simpa[Uz]using i)
 refine xX E.H (by simp only[fe,b];rfl) λk A lb m s1 q=>?_;rw[fI];obtain⟨c,a⟩:=m.HM mq [.I 0,.I 0];have r:Gm k _ cs e s w:=E.since (s1.trans a) c.tail;obtain⟨l,o,p1,p2,_⟩:=r.pl hv;refine ec pf (oF ((q.since a).ld rfl) (ec p1 (ec p2 ?_)));refine QV (by omega) (by omega) c λt B d u=>?_;obtain⟨x,y,_,f,g⟩:=u.XM 0 (n:=2) (ws:=AB (nV (jK e.of v))) rfl rfl rfl rfl;rw[y,eh];exact ec (f.zB 0 rfl rfl) (H t x (((s1.trans a).trans d).trans g) (E.since (((s1.trans a).trans d).trans g) f.tail))
theorem yj(E:Gm F h cs e s w)(hl:s.l.length<300000)(x:Ni)(H:∀F' h' w',Sn F h F' h'->Gm F' h' cs e {s with l:=s.l++[x]} w'->Q (.tuple []) h'):cP CS fV [.ptr e.le 0,.agg (BQ x)] h Q:=by
 refine IG rfl rfl ?_;unfold z8;refine xX E.H rfl λi b lb a s1 c=>?_;refine oN (a.ld 0 rfl rfl) (ec (c.zB rfl) ?_);obtain⟨j,z,e2,A,d,k⟩:=a.wi 1 rfl (lE:=40) (IZ:=qL) (y:=x) (w:=BQ x) (ro:=false) rfl (by decide) (by decide) (by omega);rw[show iK qL 5 1 (.agg [.I 0,.I 0,.I 0,.I 0,.I 0]) [(0,.agg (BQ x))]=some (.cells qL 5 true false (BQ x),λl=> .slice l 0 1) from rfl,hH];refine⟨⟨eJ _ _,bq⟩,Qi (c.zB rfl) (eE _ (a.fl _ c.f)),iJ (a.ld 0 rfl rfl) (eE _ (BD a 0 rfl)),?_⟩;rw[show eQ qL 5 40 w.l (.slice b.next 0 1) (b.new (.cells qL 5 true false (BQ x)))=_ from e2,eh];obtain⟨m,q,r,t,v⟩:=d.st 0 rfl (o:=0+7) (by simp[emC]) (d.one 1 rfl);refine⟨by have:(b.new (.cells qL 5 true false (BQ x))).next=b.next+1:=rfl;omega,ec (fi _ _) (ec pf ?_)⟩;rw[q,eh];have g:=(s1.trans k).trans v;refine⟨r,H i m {w with l:=j} g ⟨t,E.u.since g,E.p,by simp only[oQ,Qv];omega,E.n.2⟩⟩
end
open Un
section
variable{F F':Nat->Prop}{h h':Hp}{cs:List Pc}{Q:fo}{e:Ge}{s:Ga}{w:Gx}
theorem zbI{p:Int}(h:lT p):((p.toNat:Nat):Int)=p:=by unfold lT at h;omega
theorem Gm.ldP(E:Gm F h cs e s w):gy 2 (.ptr e.le (0+0)) h=some (.agg [e.tR,.I e.fM]):=(xn (E.H.get 0 rfl)).trans rfl
theorem Gm.loc(E:Gm F h cs e s w){v:Nat}(hv:v<e.of.length)(d:lT (jK e.of v))(H:∀F' h',Sn F h F' h'->Gm F' h' cs e s w->Q (.agg (AB (nV (jK e.of v)))) h') :
  oP (gq (.ptr e.le 0)) λa=>oP (fK 0 a) λb=>oP (gy 2 b h) λc=>cP CS iV [c,.I v] h Q:=
 ec (fi _ _) (ec pf (ec E.ldP (Vi E hv (by unfold lT at d;omega) H)))
theorem JB{p:Int}(h:p<16):AB (nV p)=[.I 1,.I p]:=by unfold nV AB;rw[if_pos h]
theorem Jt{p:Int}(h:¬p<16):AB (nV p)=[.I 2,.I (p-16)]:=by unfold nV AB;rw[if_neg h]
theorem BF(E:Gm F h cs e s w)(hl:s.l.length<200000){v:Nat}(hv:v<e.of.length)(b:lT (jK e.of v))(sp:Nat)(H:∀F' h' w',Sn F h F' h'->Gm F' h' cs e {s with l:=s.l++wX (jK e.of v) sp} w'->Q (.I (tQ (jK e.of v) sp:Nat)) h') :
  cP CS gR [.ptr e.le 0,.I v,.I sp] h Q:=by
 refine IP rfl rfl ?_;unfold Af;refine E.loc hv b λo p s1 E1=>?_;refine tW E1.H rfl rfl (by unfold AB;rfl) λd f l g a c2=>?_;have c:=E1.since a g;unfold wX tQ at H;by_cases hr:jK e.of v<16
 ·rw[JB hr]at c2;rw[if_pos hr,if_pos hr,Hf,zbI b]at H;refine oF (c2.ld rfl) (gw (gN rfl (oF (c2.ld rfl) ?_)));exact H d f w (s1.trans a) c
 ·rw[Jt hr]at c2;rw[if_neg hr,if_neg hr]at H;refine oF (c2.ld rfl) (gw (gD (by decide) (oF (c2.ld rfl) (ec rfl ?_))));exact yj c (by omega) (gIn sp (jK e.of v)) λi j k m n=>H i j k ((s1.trans a).trans m) n
theorem UW(E:Gm F h cs e s w)(hl:s.l.length<200000){v:Nat}(hv:v<e.of.length)(O:lT (jK e.of v))(x:Ni)(H:∀F' h' w',Sn F h F' h'->Gm F' h' cs e {s with l:=s.l++NB (jK e.of v) x} w'->Q (.tuple []) h') :
  cP CS kH [.ptr e.le 0,.I v,.agg (BQ x)] h Q:=by
 refine IM rfl rfl ?_;unfold zO;refine rL E.H rfl λh0 P s0=>?_;generalize h.next=lx at*;have B:=E.since s0 P.tail;have C:gy 2 (.ptr e.le (0+0)) h0=some (.agg [e.tR,.I e.fM]):=B.ldP;refine ec (fi _ _) (ec pf (ec C ?_));obtain⟨j,X⟩:=E.p;have P0:Gm F h0 (ft lx qL (BQ x)::cs) e s w:=⟨P.YI,B.u,⟨j+1,X⟩,E.n⟩
 refine Vi P0 hv (by unfold lT at O;omega) λF1 h1 s1 R=>?_;refine tW R.H rfl rfl (by unfold AB;rfl) λf S l Y D c2=>?_;have P2:=R.since D Y;have g:=(s0.trans s1).trans D;obtain⟨T,Z,_,U,m⟩:=P2.H.st 5 rfl (o:=0+1) (by simp[BQ]) (u:= .I 14) rfl;refine ec pf ?_;rw[Z,eh];have c:=c2.since m
 have r4:∀b (r:Nat),Sn f T f b->ej f b (Uz e s w (ft lx qL (BQ {x with a:=r})::cs))->(∀F' h' w',Sn f b F' h'->Gm F' h' cs e {s with l:=s.l++[{x with a:=r}]} w'->oP (fK 0 (.ptr l 0)) λG=>oP (eC G h') λI=>
   oP (ef .eql 3 I (V.I 2)) λJ=>bP J (oP (fK 1 (.ptr l 0)) λL=>oP (eC L h') λM=>oP (fm [(V.I 0),(V.I 0),(V.I 0),(V.I 0),(V.I 0)] [(0,1),(1,1),(2,1),(3,1),(4,1)] [(0,(V.I 4)),(1,(V.I 14)),(4,M)]) λN=>
   cP CS fV [.ptr e.le 0,N] h' λ_ S=>Q (V.tuple []) S) (Q (V.tuple []) h'))->mD CS Q [.ptr e.le 0,.ptr lx 0,.ptr l 0] b:=λb r i q K=>by
  refine EH ?_;unfold vT;have E4:Gm f b cs e s w:=⟨q.zcB,B.u.since ((s1.trans D).trans (m.trans i)),E.p,E.n⟩
  refine ec (q.zB 5 rfl rfl) ?_;exact yj E4 (by omega) {x with a:=r} λt y z d k=>K t y z d k
 unfold NB at H;by_cases hr:jK e.of v<16
 ·rw[if_pos hr]at H;rw[JB hr]at c;refine oF (c.ld rfl) (gw (gN rfl (oF (c.ld rfl) (ec pf ?_))));obtain⟨b,e4,_,q,i⟩:=U.st 5 rfl (o:=0+1) (by simp[BQ]) (u:= .I (jK e.of v)) rfl;rw[e4,eh];refine r4 b (jK e.of v).toNat i (by unfold BQ;rw[zbI O];exact q) λt y z d k=>?_;have A:=(c.since i).since d;refine oF (A.ld rfl) (gw (gD (by decide) ?_));exact H t y z (((g.trans m).trans i).trans d) k
 ·rw[if_neg hr]at H;rw[Jt hr]at c;refine oF (c.ld rfl) (gw (gD (by decide) ?_));refine r4 T 14 (.refl _ _) U λt y z d k=>?_;have A:=c.since d;refine oF (A.ld rfl) (gw (gN rfl (oF (A.ld rfl) (ec rfl ?_))));refine yj k (by simp;omega) (YS 14 (jK e.of v)) λF6 h6 w6 s6 W=>H F6 h6 w6 (((g.trans m).trans d).trans s6) ?_;simp only[KB,wBQ,OJ]at W;exact W
end
open Un
section
variable{F F':Nat->Prop}{h h':Hp}{cs ds:List Pc}{Q:fo}{e:Ge}{s:Ga}{w:Gx}
theorem V3(E:Gm F h cs e s w)(hl:s.l.length<300000)(op b c:Nat)(n:Int){p:Int}(a:lT p)(H:∀F' h' w',Sn F h F' h'->Gm F' h' cs e {s with l:=s.l++[⟨op,p.toNat,b,c,n⟩]} w'->Q (.tuple []) h') :
  cP CS fV [.ptr e.le 0,.agg [.I op,.I p,.I b,.I c,.I n]] h Q:=by
 have:=yj E hl ⟨op,p.toNat,b,c,n⟩ H;unfold BQ at this
 rwa [zbI a]at this
theorem zbb(E:Gm F h cs e s w)(hl:s.l.length<200000){m:Mv}(x:lT m.1)(p:lT m.2)(H:∀F' h' w',Sn F h F' h'->Gm F' h' cs e {s with l:=s.l++Bl m} w'->Q (.tuple []) h') :
  cP CS og [.ptr e.le 0,.agg (AB (nV m.1)),.agg (AB (nV m.2))] h Q:=by
 refine HL rfl rfl ?_;unfold zf;refine xX E.H (by unfold AB;rfl) λA B l1 y s1 a=>?_;refine xX y (by unfold AB;rfl) λq u l2 z v c2=>?_;have a:=a.since v;have b:=s1.trans v;have o:=E.since b z
 have r3:∀d c j (t:Ga) (r:Nat),Sn q u d c->Gm d c cs e t j->t.l.length<210000->(∀F' h' w',Sn d c F' h'->Gm F' h' cs e {t with l:=t.l++(if m.2<16 then[⟨2,m.2.toNat,r,0,0⟩] else[YS r m.2])} w'->Q (.tuple []) h')->
   mf CS Q [.ptr e.le 0,.ptr l2 0,.I (r:Nat)] c:=λd c j t r k n hl K=>by
  refine CY ?_;unfold u9;have f:=c2.since k;by_cases hr:m.2<16
  ·rw[JB hr]at f;rw[if_pos hr]at K;refine oF (f.ld rfl) (gw (gN rfl (oF (f.ld rfl) (ec rfl ?_))));exact V3 n (by omega) 2 r 0 0 p K
  ·rw[Jt hr]at f;rw[if_neg hr]at K;refine oF (f.ld rfl) (gw (gD (by decide) (oF (f.ld rfl) (ec rfl ?_))));exact yj n (by omega) (YS r m.2) K
 unfold Bl at H;by_cases e1:m.1<16
 ·rw[JB e1]at a;rw[if_pos e1]at H;refine oF (a.ld rfl) (gw (gN rfl (oF (a.ld rfl) ?_)));have:=r3 q u w s m.1.toNat (.refl _ _) o (by omega) λF' h' w' g E'=>H F' h' w' (b.trans g) E';rw[zbI x]at this;exact this
 ·rw[Jt e1]at a;rw[if_neg e1]at H;refine oF (a.ld rfl) (gw (gD (by decide) ?_));by_cases e2:m.2<16
  ·rw[JB e2]at c2;rw[if_pos e2]at H;refine oF (c2.ld rfl) (gw (gN rfl (oF (c2.ld rfl) (oF (a.ld rfl) (ec rfl ?_)))));exact V3 o (by omega) 3 0 0 (m.1-16) p λF' h' w' g E'=>H F' h' w' (b.trans g) E'
  ·have i:=c2;rw[Jt e2]at i;rw[if_neg e2]at H;refine oF (i.ld rfl) (gw (gD (by decide) (oF (a.ld rfl) (ec rfl ?_))));refine yj o (by omega) (gIn 13 m.1) λd c j k n=>?_;refine r3 d c j _ 13 k n (by simp;omega) λF' h' w' g E'=>H F' h' w' ((b.trans k).trans g) ?_;rw[if_neg e2]at E';simp only[KB,wBQ,OJ]at E';exact E'
theorem RH(E:Gm F h cs e s w)(hl:s.l.length<200000)(M:s.js.length<200000){x:Ni}{t:Nat}(H:∀F' h' w',Sn F h F' h'->Gm F' h' cs e {s with l:=s.l++[{x with n:=(t:Nat)}],js:=s.js++[s.l.length]} w'->Q (.tuple []) h') :
  cP CS j8 [.ptr e.le 0,.agg (BQ x),.I t] h Q:=by
 refine HJ rfl rfl ?_;unfold zd;refine rL E.H rfl λh0 k s0=>?_;generalize h.next=lx at*;obtain⟨b,e1,_,f,s1⟩:=k.st 0 rfl (o:=0+4) (by simp[BQ]) (u:= .I t) rfl;refine ec pf ?_;rw[e1,eh];obtain⟨a,q⟩:=f.MU 0 rfl;have c2:Cl (λm=>F m\/m=lx) b lx qL (BQ {x with n:=(t:Nat)}):=⟨.inr rfl,f.get 0 rfl⟩
 have g:=(s0.trans s1).trans q;have a:ej (λm=>F m\/m=lx) b (Uz e s w cs):=a.tail;refine oN (a.ld 0 rfl rfl) (oN (a.ld 0 rfl rfl) (ec (a.len 1 rfl) ?_));rw[show iK 3 1 1 (.I 0) [(0,.I s.l.length)]=_ from DG _,hH];obtain⟨r,N,v,O,i,c⟩:=a.wi 3 rfl (lE:=8) (IZ:=3) (y:=s.l.length) (w:=[.I s.l.length]) (ro:=false) rfl (by decide) (by decide) (by have:=E.n;omega);refine⟨⟨eJ _ _,bq⟩,iJ (a.ld 0 rfl rfl) (eE _ (BD a 0 rfl)),iJ (a.ld 0 rfl rfl) (eE _ (BD a 0 rfl)),?_⟩;rw[show eQ 3 1 8 w.j (.slice b.next 0 1) (b.new (.cells 3 1 true false (nD [s.l.length])))=_ from v,eh];obtain⟨z,A,B,C,d⟩:=i.st 0 rfl (o:=0+9) (by simp[emC]) (i.one 3 rfl);refine⟨by have:(b.new (.cells 3 1 true false (nD [s.l.length]))).next=b.next+1:=rfl;omega,ec (fi _ _) (ec pf ?_)⟩;rw[A,eh];refine⟨B,ec (((c2.since c).since d).zB rfl) ?_⟩;have D:Gm _ z cs e {s with js:=s.js++[s.l.length]} {w with j:=r}:=⟨C,E.u.since ((g.trans c).trans d),E.p,by have:=E.n;simp only[oQ,Qv];omega⟩
 exact yj D (show s.l.length<300000 by omega) {x with n:=(t:Nat)} λG I J K L=>H G I J (((g.trans c).trans d).trans K) L
theorem S9(a:ej F h ds){j:Nat}{of:List Int}{tR:V}(b:ds[j]? =some (fE eZ fw of tR)){v:Nat}(hv:v<of.length)(c:lT (jK of v)){sl:Int}(H:∀F' h',Sn F h F' h'->ej F' h' ds->Q (.agg (AB (nV (jK of v)))) h') :
  cP CS iV [.agg [tR,.I sl],.I v] h Q:=by
 refine Bi rfl rfl ?_;unfold uW;refine xX a (by simp only[fe,a.one j b];rfl) λu w lb g s1 i=>?_;rw[fI];obtain⟨d,e⟩:=g.HM mq [.I 0,.I 0];obtain⟨l,o,p1,p2⟩:=d.AI (j+1) (by simpa using b) (k:=v) (x:=jK of v) (by unfold jK;rw[OV,iz hv];rfl) .i64;refine ec pf (oF ((i.since e).ld rfl) (ec p1 (ec p2 ?_)));refine QV (by unfold lT at c;omega) (by unfold lT at c;omega) d λm y p q=>?_;obtain⟨r,s,_,f,t⟩:=q.XM 0 (n:=2) (ws:=AB (nV (jK of v))) rfl rfl rfl rfl;rw[s,eh];exact ec (f.zB 0 rfl rfl) (H m r (((s1.trans e).trans p).trans t) f.tail)
theorem V8(x:ej F h ds){i j:Nat}(hi:ds[i]? =some (ft e.le zfU (emC e w)))(z:ds[j]? =some (fE eZ fw e.of e.tR)){xs:List Nat}{d:V}(r:iH eN F h xs d)(L:xs.length<1000)
  (hv:∀v∈xs,v<e.of.length/\lT (jK e.of v)) {l3 A:Nat} (B:Cl F h l3 A [.ptr e.le 0]) (H:∀F' h' w',Sn F h F' h'->ej F' h' ds->iH KI F' h' (xs.map λv=>nV (jK e.of v)) w'->Q w' h') :
  cP CS ku [d,.ptr l3 0] h Q:=by
 refine EJ rfl rfl ?_;unfold vY;refine ec r.len ?_;obtain⟨J,f⟩:∃J:Nat->LP,J=λk l h'=>∃F' n w',l=[.ptr l3 0,w',d,.I xs.length,.I (n:Nat)]/\n+k=xs.length/\Sn F h F' h'/\ej F' h' (fE KI mq ((xs.take n).map λv=>nV (jK e.of v)) w'::ds):=⟨_,rfl⟩
 refine BK J (λk M s N O P t a=>?_) (k:=xs.length) ?_;rotate_left
 ·rw[f];exact⟨F,0,.ed,rfl,by omega,.refl _ _,x.add .nil λ_ h=>h⟩
 rw[f]at a;obtain⟨R,n,_,⟨⟩,S,s1,c⟩:=a;unfold rQ;by_cases EO:n<xs.length
 ·have C:=iz EO;have g:=Nt EO;have b:=hv _ (Dg EO);generalize xs[n]=v at*;obtain⟨l,o,_,p1,p2⟩:=(r.since s1).nat C .i64;have m:gy 2 (.ptr e.le (0+0)) t=some (.agg [e.tR,.I e.fM]):=(xn (c.get (i+1) (by simpa using hi))).trans rfl;refine gU (ec p1 (ec p2 (ec ((B.since s1).ld rfl) (ec (fi _ _) (ec pf (ec m ?_))))));refine S9 c (j:=j+1) (by simpa using z) b.1 b.2 λD u p q=>?_;rw[show iK mq 2 1 (.agg [.I 0,.I 0]) [(0,.agg (AB (nV (jK e.of v))))]=some (.cells mq 2 true false (AB (nV (jK e.of v))),λl=> .slice l 0 1) from rfl,fI];obtain⟨E,T,G,_,I,K⟩:=q.wi 0 rfl (lE:=16) (IZ:=mq) (y:=nV (jK e.of v)) (w:=AB (nV (jK e.of v))) (ro:=false) rfl (by decide) (by decide) (by simp;omega);rw[show eQ mq 2 16 s (.slice u.next 0 1) (u.new (.cells mq 2 true false (AB (nV (jK e.of v)))))=_ from G,eh];refine gf ⟨k-1,by omega,?_⟩;rw[f];exact⟨D,n+1,E,rfl,by omega,(s1.trans p).trans K,by rw[g,List.map_append];exact I⟩
 ·refine iY ?_;obtain rfl:n=xs.length:=by omega
  rw[SM]at c;obtain⟨q,p,r2⟩:=c.ji 0 rfl;exact H _ t s (s1.trans p) q.tail r2
end
open Un
section
variable{F F':Nat->Prop}{h h':Hp}{cs ds:List Pc}{Q:fo}{e:Ge}{s:Ga}{w:Gx}
theorem zbc{a b:V}{m n:Int}(c:a.one=true)(d:b.one=true):fm [V.I 0,V.I 0,V.ed,V.ed] [(0,1),(1,1),(2,1),(3,1)] [(0,V.I m),(1,V.I n),(2,a),(3,b)]=some (.agg [.I m,.I n,a,b]):=by
 unfold fm;simp[xE,tM c,tM d];rfl
structure QY (e:Ge):Prop where
 g:Good e.u
 p:OU e.u e.of
 l:e.of.length=e.u.ee.length
 nd:∀p t,(jP (rE e.u e.of p t)).Nodup
theorem QY.v(k:QY e){v:Nat}(hv:v<e.u.ee.length):v<e.of.length/\lT (jK e.of v):=⟨by rw[k.l];exact hv,k.p.pos hv⟩
theorem Rr(k:QY e)(E:Gm F h cs e s w)(hl:s.ex.length<200000){st:Nat}{fs:List Fm}(d:e.u.ez[st]? =some fs){vl:Int}(H:∀F' h' w',Sn F h F' h'->Gm F' h' cs e {s with ex:=s.ex++[exC e.u e.of st vl]} w'->Q (.I s.ex.length) h') :
  cP CS j7 [.ptr e.le 0,.I st,.I vl] h Q:=by
 refine Hq rfl rfl ?_;unfold za;show hZ (nj _ (.agg [.ptr e.le 0])) h _;refine xX E.H rfl λF1 h1 l3 H1 s1 c1=>?_;refine ec rfl ?_;refine lM H1 rfl rfl rfl λh2 H2 S=>?_;generalize h1.next=lx at*;have G:=s1.trans S;have u2:=E.u.since G;obtain⟨l1,o1,f,_,x1,_,x3,xf⟩:=u2.st d;refine ec ((c1.since S).ld rfl) (ec (fi _ _) (ec pf (oF (H2.ld 1 rfl rfl) (ec x1 (oF x3 (ec xf.len ?_))))))
 obtain ⟨J,T⟩:∃J:Nat->LP,J=λk l h'=>∃F' i b,l=[.ptr l3 0,.ptr lx 0,.func ku [] [.ptr l3 0],f,.I fs.length,.I (i:Nat)]/\i+k=fs.length/\Sn F1 h2 F' h'/\
   ej F' h' (fE eFr O0 ((fs.take i).map (frC e.of)) b::ft lx ny [b,.I st,.I vl]::Uz e s w cs):=⟨_,rfl⟩
 refine CT J (λkk ac x7 x8 ae ag ah P I=>?_) (k:=fs.length) ?_;rotate_left
 ·rw[T];exact⟨F1,0,.ed,rfl,by omega,.refl _ _,H2.add .nil λ_ h=>h⟩
 rw[T]at I;obtain⟨F3,i,b,⟨⟩,hk,R,U⟩:=I;unfold vC;obtain⟨j,hj⟩:=E.p;have W:=xf.since R;have X:=(c1.since S).since R;have K:=KU k.g d;by_cases EO:i<fs.length
 ·have hx:=iz EO;have Y:=Nt EO;have t:=Dg EO;generalize fs[i]=x at*;obtain⟨_,_,hf⟩:=k.g.st st fs d;obtain⟨aa,ab,_⟩:=hf x t;obtain⟨l4,o4,xa,xb,_,y1,y2,ya,yb⟩:=W.frm hx;refine gU (ec y1 (ec y2 ?_));refine tW U rfl rfl (by simp only[fmC,fe,ya.one,yb.one];rfl) λF4 h4 lf c q a=>?_;have Z:eC (.ptr lx (0+0)) h4=some b:=c.ld 1 rfl rfl;refine oF Z (oF (a.ld rfl) (oF (a.ld rfl) (oF (a.ld rfl) (oF (a.ld rfl) ?_))));have L:(fE eFr O0 ((fs.take i).map (frC e.of)) b::ft lx ny [b,.I st,.I vl]::Uz e s w cs)[j+7]? =some (fE eZ fw e.of e.tR):=by simpa[Uz]using hj
  simp only[IB,BT,OJ];refine V8 c (i:=2) rfl L (ya.since q) (by omega) (λv hv=>k.v (K v (wBI.2 ⟨x,t,XR _ hv⟩))) (X.since q) λF5 h5 M r N ra=>?_;have z:=a.since r;refine⟨r.next,z.ld rfl,z.ld rfl,z.ld rfl,N.ld 1 rfl rfl,?_⟩;simp only[wBQ,OJ];refine V8 N (i:=2) rfl L ((yb.since q).since r) (by omega) (λv hv=>k.v (K v (wBI.2 ⟨x,t,wBY _ hv⟩))) ((X.since q).since r) λF6 C O A m rb=>?_;have D:=z.since A;have B:=ra.since A;refine⟨A.next,ec (zbc B.one rb.one) ?_⟩;have o4:gz [V.I x.func,.I x.pc,M,O]=true:=by simp only[fe,B.one,rb.one];rfl
  rw[show iK O0 4 1 (.agg [.I 0,.I 0,.ed,.ed]) [(0,.agg [.I x.func,.I x.pc,M,O])]=_ from Db rfl rfl o4,hH];obtain⟨w7,h7,e7,n7,H7,s7⟩:=m.wi 0 rfl (lE:=64) (IZ:=O0) (ro:=false) (y:=frC e.of x) ⟨M,O,rfl,B,rb⟩ (by decide) (by decide) (by have:=(k.g.st st fs d).2.1;simp;omega);refine⟨⟨eJ _ _,bq⟩,iJ (D.ld rfl) (eE _ (m.fl _ D.f)),iJ (D.ld rfl) (eE _ (m.fl _ D.f)),iJ (m.ld 1 rfl rfl) (eE _ (BD m 1 rfl)),?_⟩;rw[show eQ O0 4 64 b (.slice C.next 0 1) (C.new (.cells O0 4 true false [.I x.func,.I x.pc,M,O]))=_ from e7,eh];refine⟨by have:(C.new (.cells O0 4 true false [.I x.func,.I x.pc,M,O])).next=C.next+1:=rfl;omega,ec pf ?_⟩;obtain⟨h8,e8,n8,H8,s8⟩:=H7.st 1 (o:=0+0) rfl (by simp) (H7.one 0 rfl);rw[e8,eh];refine⟨n8,gf ⟨kk-1,by omega,?_⟩⟩;rw[T];exact⟨F6,i+1,w7,rfl,by omega,((((R.trans q).trans r).trans A).trans s7).trans s8,by rw[Y,List.map_append];exact H8⟩
 ·refine iY ?_;obtain rfl:i=fs.length:=by omega
  rw[SM]at U;obtain⟨c,q,r4⟩:=U.ji 0 rfl;have a:=X.since q;refine ec (a.ld rfl) (ec (a.ld rfl) (oN (c.ld 2 rfl rfl) (ec (c.zB 1 rfl rfl) ?_)));have o3:gz [b,V.I st,.I vl]=true:=by simp only[fe,r4.one];rfl
  rw[show iK ny 3 1 (.agg [.ed,.I 0,.I 0]) [(0,.agg [b,.I st,.I vl])]=_ from Db rfl rfl o3,hH];have er:exC e.u e.of st vl=⟨fs.map (frC e.of),(st:Nat),vl⟩:=by unfold exC;rw[d]
  obtain⟨w5,h5,e5,n5,N,r⟩:=c.wi 6 rfl (lE:=40) (IZ:=ny) (ro:=false) (y:=exC e.u e.of st vl) (by rw[er];exact⟨b,rfl,r4⟩) (by decide) (by decide) (by omega);refine⟨⟨eJ _ _,bq⟩,Qi (c.zB 1 rfl rfl) (eE _ (BD c 1 rfl)),iJ (c.ld 2 rfl rfl) (eE _ (BD c 2 rfl)),iJ (a.ld rfl) (eE _ (c.fl _ a.f)),iJ (a.ld rfl) (eE _ (c.fl _ a.f)),?_⟩;rw[show eQ ny 3 40 w.e (.slice P.next 0 1) (P.new (.cells ny 3 true false [b,.I st,.I vl]))=_ from e5,eh];have z:=a.since r;refine⟨by have:(P.new (.cells ny 3 true false [b,.I st,.I vl])).next=P.next+1:=rfl;omega,ec (fi _ _) (ec pf ⟨z.ld rfl,?_⟩)⟩;obtain⟨C,e6,n6,m,A⟩:=N.st 2 (o:=0+10) rfl (by simp[emC]) (N.one 6 rfl);rw[e6,eh];have D:=z.since A;refine⟨n6,ec (D.ld rfl) (oN (m.ld 2 rfl rfl) (ec (m.len 6 rfl) ?_))⟩;rw[iu,fY,gS (by simp only[Cf,oQ,Qv];omega),show(((s.ex++[exC e.u e.of st vl]).length:Nat):Int)-1=(s.ex.length:Nat) by simp];have sn:=((((G.trans R).trans q).trans r).trans A)
  refine H _ C {w with e:=w5} sn ⟨m.tail.tail,E.u.since sn,E.p,?_⟩;have:=E.n;simp only[oQ,Qv];omega
theorem zch{op:Nat}(a:3<=op)(b:op<=18)(H:Q (.I ((op+2:Nat):Int)) h):cP CS Cj [.I op] h Q:=by
 refine Wt rfl rfl ?_;unfold Pr;refine gw ?_;split
 ·rename_i e;obtain rfl:op=17:=by omega
  exact H
 refine gw ?_;split
 ·rename_i e;obtain rfl:op=18:=by omega
  exact H
 rw[Cv,fY,gS (by simp only[Cf];omega),iu,fY,gS (by simp only[Cf];omega),show(5+(op:Int)-3)=((op+2:Nat):Int) by omega];exact H
end
open Un
section
variable{F F':Nat->Prop}{h h':Hp}{cs ds:List Pc}{Q:fo}{e:Ge}{s:Ga}{w:Gx}
theorem jn{c A B:Prop}[Decidable c] (a:c->A)(b:¬c->B):if c then A else B:=by split <;> simp_all
theorem zaa(k:QY e)(E:Gm F h cs e s w)(hl:s.l.length<190000)(he:s.ex.length<190000){v:Nat}{x:Vl}(M:e.u.ee[v]? =some x)(H:∀F' h' w',Sn F h F' h'->Gm F' h' cs e {s with l:=s.l++EM e.of v x s.ex.length,ex:=s.ex++IY e.u e.of v x} w'->Q (.tuple []) h') :
  cP CS nq [.ptr e.le 0,.I v] h Q:=by
 refine GJ rfl rfl ?_;unfold xH;obtain⟨l1,o1,wa,_,i1,i2,ra,_⟩:=E.u.val M;refine ec (fi _ _) (ec pf (oF (E.ld 4 rfl) (ec i1 (ec i2 ?_))));refine tW E.H rfl rfl (by simp only[yH,fe,ra.one];rfl) λF2 V l H2 Z c2=>?_;have A:=E.since Z H2;have aa:=(kE.1 M).1;have pv:=k.v aa;have use:=k.g.use v x M;have pa:∀y∈kj x,y<e.of.length/\lT (jK e.of y):=λy hy=>k.v (qf (use y hy));have ac:=k.g.op v x M;have B:∀(L:List Ni) (X:List Nx),EM e.of v x s.ex.length=L->IY e.u e.of v x=X->∀F' h' w',Sn F2 V F' h'->Gm F' h' cs e {s with l:=s.l++L,ex:=s.ex++X} w'->Q (.tuple []) h':=by
  rintro _ _ rfl rfl F' h' w' s' E';exact H F' h' w' (Z.trans s') E'
 clear H;have c:∀(p:Int) (sp:Nat),(wX p sp).length<=1:=λp sp=>by unfold wX;split <;> simp
 refine oF (c2.ld rfl) ?_;have N:¬(x.op=22\/x.op=23)->IY e.u e.of v x=[]:=λh=>by unfold IY;rw[if_neg h]
 have r3:∀b:Bool,(b=true↔x.op=1\/x.op=21)->lK CS Q [.ptr e.le 0,.I v,.ptr l 0,.I x.op,.bool b] V:=λb W=>by
  refine BR ?_;unfold tg;refine gh ?_;split
  ·rename_i e1;have e1:=W.1 e1;have hk:=B [] [] (by unfold EM;rw[if_pos e1]) (N (by omega)) F2 V w (.refl _ _);rw[Hf,Hf]at hk;exact hk A
  rename_i z;have z:¬(x.op=1\/x.op=21):=λh=>z (W.2 h);refine gw ?_;split
  ·rename_i e1;have e1:x.op=2:=by omega
   refine oF (c2.ld rfl) (ec rfl ?_);refine UW A (by omega) pv.1 pv.2 ⟨1,0,0,0,x.n⟩ λO P R d r=>B _ [] (by unfold EM;rw[if_neg z,if_pos e1]) (N (by omega)) O P R d ?_;rw[Hf];exact r
  rename_i n2;refine gw ?_;split
  ·rename_i e1;have e1:x.op=19:=by omega
   have j:kj x=[x.a,x.b]:=by unfold kj two;simp[e1]
   have i:=pa x.a (by simp[j]);have C:=pa x.b (by simp[j]);refine oF (c2.ld rfl) (BF A (by omega) i.1 i.2 12 λO P R d r=>?_);have m:=c2.since d;refine oF (m.ld rfl) (oF (m.ld rfl) ?_);refine BF r (by have:=c (jK e.of x.a) 12;simp only[oQ];omega) C.1 C.2 13 λS T U f o=>⟨f.next,ec rfl ⟨(m.since f).ld rfl,?_⟩⟩
   refine yj o (by have:=c (jK e.of x.a) 12;have:=c (jK e.of x.b) 13;simp only[oQ];omega) ⟨21,tQ (jK e.of x.a) 12,tQ (jK e.of x.b) 13,0,x.n⟩ λD G I t q=>⟨t.next,B _ [] (by unfold EM;rw[if_neg z,if_neg (by omega),if_pos e1]) (N (by omega)) D G I ((d.trans f).trans t) ?_⟩
   simp only[KB,Hf]at q⊢;exact q
  rename_i n3;refine gw ?_;split
  ·rename_i e1;have e1:x.op=20:=by omega
   have ab:=k.g.putAt v x M e1;have j:kj x=[x.a,x.b,x.args.getD 0 0]:=by
    unfold kj;rw[if_neg (by omega),if_pos e1]
    match h:x.args,ab with
    |[w],_=>rfl
   have i:=pa x.a (by simp[j]);have C:=pa x.b (by simp[j]);have qc:=pa (x.args.getD 0 0) (by rw[j];simp);have a1:=c (jK e.of x.a) 12;have a2:=c (jK e.of x.b) 13;have a3:=c (jK e.of (x.args.getD 0 0)) 14;refine oF (c2.ld rfl) (BF A (by omega) i.1 i.2 12 λO P R d r=>?_);have m:=c2.since d;refine oF (m.ld rfl) (BF r (by simp only[oQ];omega) C.1 C.2 13 λS T U f o=>?_);have c4:=m.since f;have hg:x.args[0]? =some (x.args.getD 0 0):=by rw[OV,iz (by omega)];rfl
   obtain⟨l2,o2,_,p1,p2⟩:=(((ra.since Z).since d).since f).nat hg .i64;refine oF (c4.ld rfl) (ec p1 (ec p2 ?_));refine BF o (by simp only[oQ];omega) qc.1 qc.2 14 λD G I t q=>ec rfl ?_;refine yj q (by simp only[oQ];omega) ⟨22,tQ (jK e.of x.a) 12,tQ (jK e.of x.b) 13,tQ (jK e.of (x.args.getD 0 0)) 14,0⟩ λF6 h6 w6 s6 E6=>B _ [] (by unfold EM;rw[if_neg z,if_neg (by omega),if_neg (by omega),if_pos e1]) (N (by omega)) F6 h6 w6 (((d.trans f).trans t).trans s6) ?_;simp only[KB,Hf]at E6⊢;exact E6
  rename_i n4;have J:x.op=22\/x.op=23->∃fs,e.u.ez[x.state]? =some fs:=λh=>⟨_,iz (k.g.leave v x M (by unfold leaves;rcases h with h|h <;> simp[h]))⟩
  refine gw ?_;split
  ·rename_i e1;have e1:x.op=22:=by omega
   have j:kj x=[x.a]:=by unfold kj two zA;simp[e1]
   have i:=pa x.a (by simp[j]);have a1:=c (jK e.of x.a) 12;obtain⟨fs,K⟩:=J (.inl e1);refine oF (c2.ld rfl) (BF A (by omega) i.1 i.2 12 λO P R d r=>?_);have m:=c2.since d;refine oF (m.ld rfl) ?_;refine Rr k r (by show s.ex.length<_;omega) K λS T U f o=>ec rfl ?_;refine yj o (by simp only[oQ];omega) ⟨25,tQ (jK e.of x.a) 12,0,0,(s.ex.length:Nat)⟩ λD G I t q=>B _ _ (by unfold EM;rw[if_neg z,if_neg (by omega),if_neg (by omega),if_neg (by omega),if_pos e1]) (by unfold IY;rw[if_pos (.inl e1)]) D G I ((d.trans f).trans t) ?_;simp only[KB]at q⊢;exact q
  rename_i n5;refine gw ?_;split
  ·rename_i e1;have e1:x.op=23:=by omega
   obtain⟨fs,K⟩:=J (.inr e1);refine oF (c2.ld rfl) ?_;refine Rr k A (by omega) K λS T U f o=>ec rfl ?_;exact yj o (by show s.l.length<_;omega) ⟨26,0,0,0,(s.ex.length:Nat)⟩ λD G I t q=>B _ _ (by unfold EM;rw[if_neg z,if_neg (by omega),if_neg (by omega),if_neg (by omega),if_neg (by omega),if_pos e1]) (by unfold IY;rw[if_pos (.inr e1)]) D G I (f.trans t) q
  rename_i n6;have OD:∀b:Bool,(b=true↔x.op=8\/x.op=9\/x.op=15\/x.op=16\/x.op=17)->ir CS Q [.ptr e.le 0,.I v,.ptr l 0,.bool b] V:=λb W=>by
   refine Bx ?_;unfold rN;refine gh ?_;split
   ·rename_i e1;have e1:=W.1 e1;have j:kj x=[x.a]:=by unfold kj two zA;rcases e1 with e|e|e|e|e <;> simp[e]
    have i:=pa x.a (by simp[j]);have a1:=c (jK e.of x.a) 12;have Y:∀n:Int,n=(if x.op=17 then x.n else 0)->kR CS Q [.ptr e.le 0,.I v,.ptr l 0,.I n] V:=λn hn=>by
     refine BO ?_;unfold rY;refine oF (c2.ld rfl) (oF (c2.ld rfl) ?_);refine zch (by omega) (by omega) ⟨jv _,c2.ld rfl,?_⟩;refine BF A (by omega) i.1 i.2 12 λO P R d r=>⟨d.next,ec rfl ?_⟩
     refine UW r (by simp only[oQ];omega) pv.1 pv.2 ⟨x.op+2,0,tQ (jK e.of x.a) 12,0,n⟩ λS T U f o=>⟨f.next,B _ [] (by unfold EM;rw[if_neg z,if_neg (by omega),if_neg (by omega),if_neg (by omega),if_neg (by omega),if_neg (by omega),if_pos e1,<-hn]) (N (by omega)) S T U (d.trans f) ?_⟩
     simp only[KB,Hf]at o⊢;exact o
    refine oF (c2.ld rfl) (oF (c2.ld rfl) (Ef ?_));split
    ·rename_i e2;exact Y _ (by rw[if_pos (by omega)])
    ·rename_i e2;exact Y 0 (by rw[if_neg (by omega)])
   ·rename_i e1;have e1:¬(x.op=8\/x.op=9\/x.op=15\/x.op=16\/x.op=17):=λh=>e1 (W.2 h);have ht:two x.op=true:=by
     unfold two;simp only[GY,sJ,AL,KC];omega
    have j:kj x=[x.a,x.b]:=by unfold kj;rw[if_neg (by omega),if_neg (by omega),if_pos ht]
    have i:=pa x.a (by simp[j]);have C:=pa x.b (by simp[j]);have a1:=c (jK e.of x.a) 12;have a2:=c (jK e.of x.b) 13;refine oF (c2.ld rfl) (BF A (by omega) i.1 i.2 12 λO P R d r=>?_);have m:=c2.since d;refine oF (m.ld rfl) (oF (m.ld rfl) ?_);refine zch (by omega) (by omega) ⟨jv _,m.ld rfl,?_⟩;refine BF r (by simp only[oQ];omega) C.1 C.2 13 λS T U f o=>⟨f.next,ec rfl ?_⟩
    refine UW o (by simp only[oQ];omega) pv.1 pv.2 ⟨x.op+2,0,tQ (jK e.of x.a) 12,tQ (jK e.of x.b) 13,0⟩ λD G I t q=>⟨t.next,B _ [] (by unfold EM;rw[if_neg z,if_neg (by omega),if_neg (by omega),if_neg (by omega),if_neg (by omega),if_neg (by omega),if_neg e1]) (N (by omega)) D G I ((d.trans f).trans t) ?_⟩
    simp only[KB,Hf]at q⊢;exact q
  refine fH (gh (jn (λe=>OD _ ?_) λe=>?_))
  ·simp at e;simp;omega
  refine fH (gh (jn (λe=>OD _ ?_) λe=>?_))
  ·simp at e;simp;omega
  refine fH (gh (jn (λe=>OD _ ?_) λe=>?_))
  ·simp at e;simp;omega
  refine fH (gh (jn (λe=>OD _ ?_) λe=>?_))
  ·simp at e;simp;omega
  refine fH (OD _ ?_);simp at*;omega
 refine fH (gh (jn (λe=>r3 _ ?_) λe=>fH (r3 _ ?_)))
 ·simp at e⊢;omega
 ·simp at e⊢;omega
end
