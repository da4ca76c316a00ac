/- Parts. -/
import Derived.Test.YtcoaokdoecgcbaaGreatDoorM28
import Derived.Test.YtcoaokdoecgcbaaGreatDoorM35
import Derived.Test.YtcoaokdoecgcbaaGreatDoorM33
set_option maxHeartbeats 4000000
namespace Go.Proofs.YtcoaokdoecgcbaaGreatDoor.Hx
open Un
variable{T:Nat}{p:Int}{l:Nat}
abbrev CI:Nat:=102
abbrev xJ:Nat:=46
abbrev V5:Nat:=48
abbrev B5:Nat:=51
abbrev zf7:Nat:=99
abbrev ED:Nat:=177
def Nw(x:Ni):List V:=[.I x.op,.I x.a,.I x.b,.I x.c,.I x.n]
def eIn:ue Ni where
 sz:=5
 rel _ _ x cs:=cs=Nw x
 len h:=by subst h;rfl
 one h:=by subst h;rfl
 fm _ h:=h
 mono _ h:=h
def KL(x:Nl):List V:=[.I x.kind,.I x.n]
def WT:ue Nl where
 sz:=2
 rel _ _ x cs:=cs=KL x
 len h:=by subst h;rfl
 one h:=by subst h;rfl
 fm _ h:=h
 mono _ h:=h
def eFr:ue Nf where
 sz:=4
 rel F h x cs:=∃l s,cs=[.I x.func,.I x.pc,l,s]/\iD WT F h x.locals l/\iD WT F h x.stack s
 len:=λ⟨_,_,h,_⟩=>by subst h;rfl
 one:=λ⟨_,_,h,a,b⟩=>by subst h;simp only[fh,a.one,b.one];rfl
 fm:=λc ⟨l,s,h,a,b⟩=>⟨l,s,h,a.fm c,b.fm c⟩
 mono:=λd ⟨l,s,h,a,b⟩=>⟨l,s,h,a.mono d,b.mono d⟩
def eEx:ue Nx where
 sz:=3
 rel F h x cs:=∃f,cs=[f,.I x.state,.I x.val]/\iD eFr F h x.iG f
 len:=λ⟨_,h,_⟩=>by subst h;rfl
 one:=λ⟨_,h,a⟩=>by subst h;simp only[fh,a.one];rfl
 fm:=λb ⟨f,h,a⟩=>⟨f,h,a.fm b⟩
 mono:=λc ⟨f,h,a⟩=>⟨f,h,a.mono c⟩
def eMv:ue Mv where
 sz:=2
 rel _ _ x cs:=cs=[.I x.1,.I x.2]
 len h:=by subst h;rfl
 one h:=by subst h;rfl
 fm _ h:=h
 mono _ h:=h
section
variable{F F':Nat->Prop}{h h':Hp}{cs:List Pc}{Q:fo}
structure Cl (F:Nat->Prop) (h:Hp) (l T:Nat) (ws:List V):Prop where
 f:F l
 g:h.get l=some (.cells T 1 true false ws)
theorem Cl.since{ws:List V}(c:Cl F h l T ws)(s:Sn F h F' h'):Cl F' h' l T ws:=⟨s.mono _ c.f,(s.fm _ c.f).trans c.g⟩
theorem Cl.ld{ws:List V}(c:Cl F h l T ws){o:Nat}{u:V}(a:ws[o]? =some u):eD (.ptr l o) h=some u:=kH c.g a
theorem Cl.xk{n:Nat}{ws:List V}(c:Cl F h l T ws)(a:ws.length=n):gi n (.ptr l 0) h=some (.agg ws):=A6 c.g a
theorem CB(H:ej F h cs)(i:Nat){l ty:Nat}{ws:List V}(hi:cs[i]? =some (fi l ty ws)):l<h.next:=(H.ok i _ hi).2.1
theorem yR{n:Nat}{d ws:List V}{K:fo}(H:ej F h cs)(f:d.length=n)(g:ws.length=n)(b:gj ws=true)(i:∀c a l,ej c a cs->Sn F h c a->Cl c a l T ws->K (.ptr l 0) a) :
  hV (some (O.cells T 1 true false d,λl=>V.ptr l 0)) h λv b=>eJ (gw n v (.agg ws) b) λ_ a=>K v a:=
 j5 H f g b λa e j=>by
  let⟨k,m⟩:=e.Sd 0 rfl
  exact i _ a _ k.tail (j.trans m) ⟨.inr rfl,e.get 0 rfl⟩
theorem yq{ws:List V}{K:fo}(H:ej F h cs)(d:gj ws=true)(e:∀b a l,ej b a cs->Sn F h b a->Cl b a l T ws->K (.ptr l 0) a):hV (mO T (.agg ws)) h K:=
 pz H d λa c f=>by
  let⟨g,i⟩:=c.Sd 0 rfl
  exact e _ a _ g.tail (f.trans i) ⟨.inr rfl,c.get 0 rfl⟩
theorem ej.sub{ds:List Pc}(H:ej F h cs)(f:Nat->Nat)(a:∀i c,ds[i]? =some c->cs[f i]? =some c)(hi:∀i j,f i=f j->i=j):ej F h ds:=
 ⟨H.fl,λi c hc=>H.ok (f i) c (a i c hc),λi j c d hc hd b=>H.K5 (f i) (f j) c d (a i c hc) (a j d hd) λe=>b (hi i j e)⟩
theorem ej.zaT{a b c d e p:Pc}(H:ej F h (p::a::b::c::d::e::cs)):ej F h (a::b::c::d::e::p::cs):=
 H.sub (λi=>if i<5 then i+1 else if i=5 then 0 else i) (λi x f=>by
  match i,f with
  |0,f=>exact f
  |1,f=>exact f
  |2,f=>exact f
  |3,f=>exact f
  |4,f=>exact f
  |5,f=>exact f
  |i+6,f=>(rw[ if_neg (by omega)];exact f)) (by grind)
theorem ej.zdP{a b c d e p:Pc}(H:ej F h (a::b::c::d::e::p::cs)):ej F h (a::b::c::d::e::cs):=
 H.sub (λi=>if i<5 then i else i+1) (λi x f=>by
  match i,f with
  |0,f=>exact f
  |1,f=>exact f
  |2,f=>exact f
  |3,f=>exact f
  |4,f=>exact f
  |i+5,f=>(rw[if_neg (by omega)];exact f)) (by grind)
theorem Tp(hp:p<1000000) (c : -1000000<p)(d:ej F h cs)(H:∀F' h',Sn F h F' h'->ej F' h' cs->Q (.agg (KL (lE p))) h'):cP CS Ay [.I p] h Q:=by
 refine VI ?_;rw[fH]
 let⟨f,s1⟩:=d.Dy xJ [.I 0,.I 0]
 refine XH ?_;have fin:∀ws,ws=KL (lE p)->eJ (gw 2 (.ptr h.next 0) (.agg ws) (h.new (.cells xJ 1 true false [.I 0,.I 0]))) λ_ a=>oP (gi 2 (.ptr h.next 0) a) λr=>Q r a:=λws e=>by
  let⟨a,e2,_,b,g⟩:=f.Wh 0 (ws:=ws) rfl (by rw[e];rfl) rfl (by rw[e];rfl)
  rw[show gw 2 (.ptr h.next 0) (.agg ws) (h.new (.cells xJ 1 true false [.I 0,.I 0]))=_ from e2,ef];refine ec (b.xk 0 rfl (by rw[e];rfl)) ?_;rw[e];exact H F a (s1.trans g) b.tail
 unfold lE KL at fin;split
 ·rename_i e;rw[if_pos e]at fin;exact ec (rfl) (fin _ rfl)
 ·rename_i e;rw[if_neg e]at fin;rw[iI,gz,gK (by simp[mR];omega)];exact ec (rfl) (fin _ rfl)
structure Ge where
 le:Nat
 u:U
 vv:V
 vb:V
 vs:V
 of:List Int
 xx:V
 fG:Int
structure Ga where
 l:List Ni
 bs:List Nat
 js:List Nat
 ex:List Nx
structure Gx where
 l:V
 b:V
 j:V
 e:V
def emC(e:Ge)(w:Gx):List V:=[e.xx,.I e.fG,.I e.u.func,.I e.u.pc,e.vv,e.vb,e.vs,w.l,w.b,w.j,w.e]
def ZM(e:Ge)(s:Ga)(w:Gx)(cs:List Pc):List Pc:=fi e.le zf7 (emC e w)::fu eIn CI s.l w.l::fu eN fJ s.bs w.b::fu eN fJ s.js w.j::fu eEx B5 s.ex w.e::cs
structure Gm (F:Nat->Prop) (h:Hp) (cs:List Pc) (e:Ge) (s:Ga) (w:Gx):Prop where
 H:ej F h (ZM e s w cs)
 u:Ff F h e.u e.vv e.vb e.vs
 p:∃j:Nat,cs[j]? =some (fu eZ fJ e.of e.xx)
 n:s.l.length<400000/\s.bs.length<400000/\s.js.length<400000/\s.ex.length<400000
variable{e:Ge}{s:Ga}{w:Gx}
theorem Gm.ld(E:Gm F h cs e s w)(o:Nat){y:V}(a:(emC e w)[o]? =some y):eD (.ptr e.le o) h=some y:=E.H.ld 0 rfl a
theorem Gm.since(E:Gm F h cs e s w)(a:Sn F h F' h')(b:ej F' h' (ZM e s w cs)):Gm F' h' cs e s w:=⟨b,E.u.since a,E.p,E.n⟩
theorem ej.zf8{ty:Nat}{xs:List Int}{v:V}(H:ej F h cs)(i:Nat)(hi:cs[i]? =some (fu eZ ty xs v)){k:Nat}{x:Int}(b:xs[k]? =some x)(c:IntKind):∃l o,gQ 1 v (.int c (k:Nat))=some (.ptr l o)/\eD (.ptr l o) h=some (.I x)/\l<h.next:=by
 let⟨l,o,a,d⟩:=H.BG i hi b c
 refine⟨l,o,a,d,?_⟩
 let⟨hk,_⟩:=j6.1 b
 rcases H.row i hi with⟨_,rfl⟩|⟨t,ds,rfl,e,_⟩
 ·cases hk
 ·rw[vG _ _ _ _ _ _ hk]at a;cases a;exact e
theorem Gm.pl(E:Gm F h cs e s w){v:Nat}(hv:v<e.of.length):∃l o,gQ 1 e.xx (.I v)=some (.ptr l o)/\eD (.ptr l o) h=some (.I (hO e.of v))/\l<h.next:=by
 let⟨j,hj⟩:=E.p
 refine E.H.zf8 (j+5) (by simpa[ZM]using hj) ?_ .i64;unfold hO;rw[Dz,hN hv];rfl
theorem XD(E:Gm F h cs e s w){v:Nat}(hv:v<e.of.length) (hp : -1000000<hO e.of v/\hO e.of v<1000000){sl:Int}(H:∀F' h',Sn F h F' h'->Gm F' h' cs e s w->Q (.agg (KL (lE (hO e.of v)))) h') :
  cP CS jO [.agg [e.xx,.I sl],.I v] h Q:=by
 refine B1 ?_;have b:e.xx.one=true:=by
  let⟨j,hj⟩:=E.p
  exact E.H.one (j+5) (by simpa[ZM]using hj)
 refine yq E.H (by simp[fh,b];rfl) λu x lb g s1 i=>?_;rw[fH]
 let⟨c,a⟩:=g.Dy xJ [.I 0,.I 0]
 have k:=E.since (s1.trans a) c.tail
 let⟨l,o,p1,p2,_⟩:=k.pl hv
 refine ec pf (oF ((i.since a).ld rfl) (ec p1 (ec p2 ?_)));refine Tp (by omega) (by omega) c λm y d q=>?_
 let⟨r,t,_,f,s4⟩:=q.Wh 0 (n:=2) (ws:=KL (lE (hO e.of v))) rfl rfl rfl rfl
 rw[t,ef];exact ec (f.xk 0 rfl rfl) (H m r (((s1.trans a).trans d).trans s4) (E.since (((s1.trans a).trans d).trans s4) f.tail))
theorem zp(E:Gm F h cs e s w)(hl:s.l.length<300000)(x:Ni)(H:∀F' h' w',Sn F h F' h'->Gm F' h' cs e {s with l:=s.l++[x]} w'->Q (.tuple []) h'):cP CS gv [.ptr e.le 0,.agg (Nw x)] h Q:=by
 refine J7 ?_;refine yq E.H rfl λi b lb a s1 c=>?_;refine oN (a.ld 0 rfl rfl) (ec (c.xk rfl) ?_)
 let⟨v',v,e2,y,d,j⟩:=a.tz 1 rfl (jh:=40) (NM:=CI) (w:=Nw x) (ro:=false) rfl (by decide) (by decide) (by omega)
 rw[show iW CI 5 1 (.agg [.I 0,.I 0,.I 0,.I 0,.I 0]) [(0,.agg (Nw x))]=some (.cells CI 5 true false (Nw x),λl=> .slice l 0 1) from rfl,gU];refine⟨⟨eQ _ _,bq⟩,MY (c.xk rfl) (eE _ (a.fl _ c.f)),gS (a.ld 0 rfl rfl) (eE _ (CB a 0 rfl)),?_⟩;rw[show fg CI 5 40 w.l (.slice b.next 0 1) (b.new (.cells CI 5 true false (Nw x)))=_ from e2,ef]
 let⟨k,m,q,r,t⟩:=d.st 0 rfl (o:=0+7) (by simp[emC]) (d.one 1 rfl)
 refine⟨by have:(b.new (.cells CI 5 true false (Nw x))).next=b.next+1:=rfl;omega,ec (eC _ _) (ec pf ?_)⟩;rw[m,ef];have g:=(s1.trans j).trans t;refine⟨q,H i k {w with l:=v'} g ⟨r,E.u.since g,E.p,by simp[nB,Tj];omega,E.n.2⟩⟩
theorem zch(h:kV p):((p.toNat:Nat):Int)=p:=by unfold kV at h;omega
theorem Gm.ldP(E:Gm F h cs e s w):gi 2 (.ptr e.le (0+0)) h=some (.agg [e.xx,.I e.fG]):=(yp (E.H.get 0 rfl)).trans rfl
theorem Gm.loc(E:Gm F h cs e s w){v:Nat}(hv:v<e.of.length)(hp:kV (hO e.of v))(H:∀F' h',Sn F h F' h'->Gm F' h' cs e s w->Q (.agg (KL (lE (hO e.of v)))) h') :
  oP (fR (.ptr e.le 0)) λa=>oP (fV 0 a) λb=>oP (gi 2 b h) λc=>cP CS jO [c,.I v] h Q:=
 ec (eC _ _) (ec pf (ec E.ldP (XD E hv (by unfold kV at hp;omega) H)))
theorem Lq(h:p<16):KL (lE p)=[.I 1,.I p]:=by unfold lE KL;rw[if_pos h]
theorem LO(h:¬p<16):KL (lE p)=[.I 2,.I (p-16)]:=by unfold lE KL;rw[if_neg h]
theorem CU(E:Gm F h cs e s w)(hl:s.l.length<200000){v:Nat}(hv:v<e.of.length)(hp:kV (hO e.of v))(sp:Nat)(H:∀F' h' w',Sn F h F' h'->Gm F' h' cs e {s with l:=s.l++ko (hO e.of v) sp} w'->Q (.I (lD (hO e.of v) sp:Nat)) h') :
  cP CS gY [.ptr e.le 0,.I v,.I sp] h Q:=by
 refine JZ ?_;refine E.loc hv hp λn o s1 E1=>?_;refine yR E1.H rfl rfl (by unfold KL;rfl) λc d l f a c2=>?_;have b:=E1.since a f;unfold ko lD at H;by_cases hr:hO e.of v<16
 ·rw[Lq hr]at c2;rw[if_pos hr,if_pos hr,GA,zch hp]at H;refine oF (c2.ld rfl) (fD (fX rfl (oF (c2.ld rfl) ?_)));exact H c d w (s1.trans a) b
 ·rw[LO hr]at c2;rw[if_neg hr,if_neg hr]at H;refine oF (c2.ld rfl) (fD (fN (by decide) (oF (c2.ld rfl) (ec rfl ?_))));exact zp b (by omega) (Yb sp (hO e.of v)) λg i j k m=>H g i j ((s1.trans a).trans k) m
theorem W1(E:Gm F h cs e s w)(hl:s.l.length<200000){v:Nat}(hv:v<e.of.length)(hp:kV (hO e.of v))(x:Ni)(H:∀F' h' w',Sn F h F' h'->Gm F' h' cs e {s with l:=s.l++Ad (hO e.of v) x} w'->Q (.tuple []) h') :
  cP CS na [.ptr e.le 0,.I v,.agg (Nw x)] h Q:=by
 refine Ka ?_;refine pz E.H rfl λh0 N s0=>?_;generalize h.next=lx at*;have A:=E.since s0 N.tail;have B:=A.ldP;refine ec (eC _ _) (ec pf (ec B ?_))
 let⟨j,hj⟩:=E.p
 have P0:Gm F h0 (fi lx CI (Nw x)::cs) e s w:=⟨N.zaT,A.u,⟨j+1,hj⟩,E.n⟩
 refine XD P0 hv (by unfold kV at hp;omega) λF1 h1 s1 O=>?_;refine yR O.H rfl rfl (by unfold KL;rfl) λf P l W C c2=>?_;have P2:=O.since C W;have g:=(s0.trans s1).trans C
 let⟨R,X,_,S,k⟩:=P2.H.st 5 rfl (o:=0+1) (by simp[Nw]) (u:= .I 14) rfl
 refine ec pf ?_;rw[X,ef];have c:=c2.since k
 have T:∀b r,Sn f R f b->ej f b (ZM e s w (fi lx CI (Nw {x with a:=r})::cs))->(∀F' h' w',Sn f b F' h'->Gm F' h' cs e {s with l:=s.l++[{x with a:=r}]} w'->oP (fV 0 (.ptr l 0)) λD=>oP (eD D h') λG=>
   oP (eh .eql 3 G (V.I 2)) λI=>bP I (oP (fV 1 (.ptr l 0)) λJ=>oP (eD J h') λL=>oP (fq [(V.I 0),(V.I 0),(V.I 0),(V.I 0),(V.I 0)] [(0,1),(1,1),(2,1),(3,1),(4,1)] [(0,(V.I 4)),(1,(V.I 14)),(4,L)]) λM=>
   cP CS gv [.ptr e.le 0,M] h' λ_ P=>Q (V.tuple []) P) (Q (V.tuple []) h'))->ny Q [.ptr e.le 0,.ptr lx 0,.ptr l 0] b:=λb r s4 m K=>by
  refine Gq ?_;unfold xj;have Y:Gm f b cs e s w:=⟨m.zdP,A.u.since ((s1.trans C).trans (k.trans s4)),E.p,E.n⟩
  refine ec (m.xk 5 rfl rfl) ?_;exact zp Y (by omega) {x with a:=r} λq t y d i=>K q t y d i
 unfold Ad at H;by_cases hr:hO e.of v<16
 ·rw[if_pos hr]at H;rw[Lq hr]at c;refine oF (c.ld rfl) (fD (fX rfl (oF (c.ld rfl) (ec pf ?_))))
  let⟨b,Z,_,m,s4⟩:=S.st 5 rfl (o:=0+1) (by simp[Nw]) (u:= .I (hO e.of v)) rfl
  rw[Z,ef];refine T b (hO e.of v).toNat s4 (by unfold Nw;rw[zch hp];exact m) λq t y d i=>?_;have z:=(c.since s4).since d;refine oF (z.ld rfl) (fD (fN (by decide) ?_));exact H q t y (((g.trans k).trans s4).trans d) i
 ·rw[if_neg hr]at H;rw[LO hr]at c;refine oF (c.ld rfl) (fD (fN (by decide) ?_));refine T R 14 (.refl _ _) S λq t y d i=>?_;have z:=c.since d;refine oF (z.ld rfl) (fD (fX rfl (oF (z.ld rfl) (ec rfl ?_))));refine zp i (by simp;omega) (VD 14 (hO e.of v)) λF6 h6 w6 s6 U=>H F6 h6 w6 (((g.trans k).trans d).trans s6) ?_;simp[Bo,wBT]at U;exact U
variable{ds:List Pc}
theorem Ys(E:Gm F h cs e s w)(hl:s.l.length<300000)(op b c:Nat)(n:Int){p:Int}(hp:kV p)(H:∀F' h' w',Sn F h F' h'->Gm F' h' cs e {s with l:=s.l++[⟨op,p.toNat,b,c,n⟩]} w'->Q (.tuple []) h') :
  cP CS gv [.ptr e.le 0,.agg [.I op,.I p,.I b,.I c,.I n]] h Q:=by
 have:=zp E hl ⟨op,p.toNat,b,c,n⟩ H;unfold Nw at this
 rwa [zch hp]at this
theorem zdx(E:Gm F h cs e s w)(hl:s.l.length<200000){m:Mv}(x:kV m.1)(o:kV m.2)(H:∀F' h' w',Sn F h F' h'->Gm F' h' cs e {s with l:=s.l++rr m} w'->Q (.tuple []) h') :
  cP CS tY [.ptr e.le 0,.agg (KL (lE m.1)),.agg (KL (lE m.2))] h Q:=by
 refine Jm ?_;refine yq E.H (by unfold KL;rfl) λB C D y s1 a=>?_;refine yq y (by unfold KL;rfl) λp q z A u c2=>?_;have a:=a.since u;have b:=s1.trans u;have n:=E.since b A
 have v:∀d c i t r,Sn p q d c->Gm d c cs e t i->t.l.length<210000->(∀F' h' w',Sn d c F' h'->Gm F' h' cs e {t with l:=t.l++(if m.2<16 then[⟨2,m.2.toNat,r,0,0⟩] else[VD r m.2])} w'->Q (.tuple []) h')->
   mI Q [.ptr e.le 0,.ptr z 0,.I (r:Nat)] c:=λd c i t r j k hl K=>by
  refine Fv ?_;unfold vZ;have f:=c2.since j;by_cases hr:m.2<16
  ·rw[Lq hr]at f;rw[if_pos hr]at K;refine oF (f.ld rfl) (fD (fX rfl (oF (f.ld rfl) (ec rfl ?_))));exact Ys k (by omega) 2 r 0 0 o K
  ·rw[LO hr]at f;rw[if_neg hr]at K;refine oF (f.ld rfl) (fD (fN (by decide) (oF (f.ld rfl) (ec rfl ?_))));exact zp k (by omega) (VD r m.2) K
 unfold rr at H;by_cases e1:m.1<16
 ·rw[Lq e1]at a;rw[if_pos e1]at H;refine oF (a.ld rfl) (fD (fX rfl (oF (a.ld rfl) ?_)));have:=v p q w s m.1.toNat (.refl _ _) n (by omega) λF' h' w' s' E'=>H F' h' w' (b.trans s') E';rw[zch x]at this;exact this
 ·rw[LO e1]at a;rw[if_neg e1]at H;refine oF (a.ld rfl) (fD (fN (by decide) ?_));by_cases e2:m.2<16
  ·rw[Lq e2]at c2;rw[if_pos e2]at H;refine oF (c2.ld rfl) (fD (fX rfl (oF (c2.ld rfl) (oF (a.ld rfl) (ec rfl ?_)))));exact Ys n (by omega) 3 0 0 (m.1-16) o λF' h' w' s' E'=>H F' h' w' (b.trans s') E'
  ·have g:=c2;rw[LO e2]at g;rw[if_neg e2]at H;refine oF (g.ld rfl) (fD (fN (by decide) (oF (a.ld rfl) (ec rfl ?_))));refine zp n (by omega) (Yb 13 m.1) λd c i j k=>?_;refine v d c i _ 13 j k (by simp;omega) λF' h' w' s' E'=>H F' h' w' ((b.trans j).trans s') ?_;rw[if_neg e2]at E';simp[ wBT]at E';exact E'
theorem RY(E:Gm F h cs e s w)(hl:s.l.length<200000)(J:s.js.length<200000){x:Ni}{t:Nat}(H:∀F' h' w',Sn F h F' h'->Gm F' h' cs e {s with l:=s.l++[{x with n:=(t:Nat)}],js:=s.js++[s.l.length]} w'->Q (.tuple []) h') :
  cP CS mA [.ptr e.le 0,.agg (Nw x),.I t] h Q:=by
 refine Je ?_;refine pz E.H rfl λh0 i s0=>?_;generalize h.next=lx at*
 let⟨b,e1,_,d,s1⟩:=i.st 0 rfl (o:=0+4) (by simp[Nw]) (u:= .I t) rfl
 refine ec pf ?_;rw[e1,ef]
 let⟨a,k⟩:=d.Sd 0 rfl
 have c2:Cl (λm=>F m\/m=lx) b lx CI (Nw {x with n:=(t:Nat)}):=⟨.inr rfl,d.get 0 rfl⟩
 have f:=(s0.trans s1).trans k;have a:=a.tail;refine oN (a.ld 0 rfl rfl) (oN (a.ld 0 rfl rfl) (ec (a.len 1 rfl) ?_));rw[show iW 3 1 1 (.I 0) [(0,.I s.l.length)]=_ from FG _,gU]
 let⟨v',K,q,L,g,c⟩:=a.tz 3 rfl (jh:=8) (NM:=3) (w:=[.I s.l.length]) (ro:=false) rfl (by decide) (by decide) (by have:=E.n;omega)
 refine⟨⟨eQ _ _,bq⟩,gS (a.ld 0 rfl rfl) (eE _ (CB a 0 rfl)),gS (a.ld 0 rfl rfl) (eE _ (CB a 0 rfl)),?_⟩;rw[show fg 3 1 8 w.j (.slice b.next 0 1) (b.new (.cells 3 1 true false (oJ [s.l.length])))=_ from q,ef]
 let⟨r,v,y,z,s4⟩:=g.st 0 rfl (o:=0+9) (by simp[emC]) (g.one 3 rfl)
 refine⟨by have:(b.new (.cells 3 1 true false (oJ [s.l.length]))).next=b.next+1:=rfl;omega,ec (eC _ _) (ec pf ?_)⟩;rw[v,ef];refine⟨y,ec (((c2.since c).since s4).xk rfl) ?_⟩;have A:Gm _ r cs e {s with js:=s.js++[s.l.length]} {w with j:=v'}:=⟨z,E.u.since ((f.trans c).trans s4),E.p,by have:=E.n;simp[nB,Tj];omega⟩
 exact zp A (show s.l.length<300000 by omega) {x with n:=(t:Nat)} λB C D G I=>H B C D (((f.trans c).trans s4).trans G) I
theorem T3(a:ej F h ds){j:Nat}{of:List Int}{xx:V}(b:ds[j]? =some (fu eZ fJ of xx)){v:Nat}(hv:v<of.length)(hp:kV (hO of v)){sl:Int}(H:∀F' h',Sn F h F' h'->ej F' h' ds->Q (.agg (KL (lE (hO of v)))) h') :
  cP CS jO [.agg [xx,.I sl],.I v] h Q:=by
 refine B1 ?_;refine yq a (by simp[ a.one j b];rfl) λr s lb f s1 g=>?_;rw[fH]
 let⟨c,d⟩:=f.Dy xJ [.I 0,.I 0]
 obtain⟨l,o,p1,p2⟩:=c.BG (j+1) (by simpa using b) (x:=hO of v) (by unfold hO;rw[Dz,hN hv];rfl) .i64;refine ec pf (oF ((g.since d).ld rfl) (ec p1 (ec p2 ?_)));refine Tp (by unfold kV at hp;omega) (by unfold kV at hp;omega) c λi t k m=>?_
 let⟨p,q,_,e,s4⟩:=m.Wh 0 (n:=2) (ws:=KL (lE (hO of v))) rfl rfl rfl rfl
 rw[q,ef];exact ec (e.xk 0 rfl rfl) (H i p (((s1.trans d).trans k).trans s4) e.tail)
theorem Xj(u:ej F h ds){i j:Nat}(hi:ds[i]? =some (fi e.le zf7 (emC e w)))(x:ds[j]? =some (fu eZ fJ e.of e.xx)){xs:List Nat}{c:V}(r:iD eN F h xs c)(I:xs.length<1000)
  (hv:∀v∈xs,v<e.of.length/\kV (hO e.of v)) {d y:Nat} (z:Cl F h d y [.ptr e.le 0]) (H:∀F' h' w',Sn F h F' h'->ej F' h' ds->iD WT F' h' (xs.map λv=>lE (hO e.of v)) w'->Q w' h') :
  cP CS nt [c,.ptr d 0] h Q:=by
 refine Gj ?_;refine ec r.len ?_
 let J:Nat->LP:=λk l h'=>∃F' n w',l=[.ptr d 0,w',c,.I xs.length,.I (n:Nat)]/\n+k=xs.length/\Sn F h F' h'/\ej F' h' (fu WT xJ ((xs.take n).map λv=>lE (hO e.of v)) w'::ds)
 refine Cb J (λk K x4 L M N s f=>?_) (k:=xs.length) ?_;rotate_left
 ·exact⟨F,0,.ed,rfl,by omega,.refl _ _,u.add .nil λ_ h=>h⟩
 obtain⟨O,n,_,⟨⟩,P,s1,b⟩:=f;unfold um;by_cases FX:n<xs.length
 ·have A:=hN FX;have g:=JE FX;have a:=hv _ (AQ FX);generalize xs[n]=v at*
  let⟨l,o,_,p1,p2⟩:=(r.since s1).nat A .i64
  have m:gi 2 (.ptr e.le (0+0)) s=some (.agg [e.xx,.I e.fG]):=(yp (b.get (i+1) (by simpa using hi))).trans rfl;refine gJ (ec p1 (ec p2 (ec ((z.since s1).ld rfl) (ec (eC _ _) (ec pf (ec m ?_))))));refine T3 b (j:=j+1) (by simpa using x) a.1 a.2 λB t p q=>?_;rw[show iW xJ 2 1 (.agg [.I 0,.I 0]) [(0,.agg (KL (lE (hO e.of v))))]=some (.cells xJ 2 true false (KL (lE (hO e.of v))),λl=> .slice l 0 1) from rfl,fH];obtain⟨C,R,D,_,E,G⟩:=q.tz 0 rfl (jh:=16) rfl (by decide) (by decide) (by simp;omega);rw[show fg xJ 2 16 x4 (.slice t.next 0 1) (t.new (.cells xJ 2 true false (KL (lE (hO e.of v)))))=_ from D,ef];refine fT ⟨k-1,by omega,?_⟩;exact⟨B,n+1,C,rfl,by omega,(s1.trans p).trans G,by rw[g,UB];exact E⟩
 ·refine iY ?_;obtain rfl:n=xs.length:=by omega
  rw[QQ]at b
  let⟨q,p,r2⟩:=b.jG 0 rfl
  exact H _ s x4 (s1.trans p) q.tail r2
theorem zdk{a b:V}{m n:Int}(c:a.one=true)(d:b.one=true):fq [V.I 0,V.I 0,V.ed,V.ed] [(0,1),(1,1),(2,1),(3,1)] [(0,V.I m),(1,V.I n),(2,a),(3,b)]=some (.agg [.I m,.I n,a,b]):=by
 unfold fq;simp[xz,th c,th d];rfl
structure S4 (e:Ge):Prop where
 g:Good e.u
 p:JP e.u e.of
 l:e.of.length=e.u.ee.length
 nd:∀p t,(kr (mZ e.u e.of p t)).Nodup
theorem S4.v(k:S4 e){v:Nat}(hv:v<e.u.ee.length):v<e.of.length/\kV (hO e.of v):=⟨by rw[k.l];exact hv,k.p.pos hv⟩
theorem Sg(k:S4 e)(E:Gm F h cs e s w)(hl:s.ex.length<200000){st:Nat}{fs:List Fm}(d:e.u.ez[st]? =some fs){vl:Int}(H:∀F' h' w',Sn F h F' h'->Gm F' h' cs e {s with ex:=s.ex++[Rv e.u e.of st vl]} w'->Q (.I s.ex.length) h') :
  cP CS mC [.ptr e.le 0,.I st,.I vl] h Q:=by
 refine Jb ?_;show hV (mO _ (.agg [.ptr e.le 0])) h _;refine yq E.H rfl λY h1 Z H1 s1 c1=>?_;refine ec rfl ?_;refine j5 H1 rfl rfl rfl λh2 H2 O=>?_;generalize h1.next=lx at*;have D:=s1.trans O;have u2:=E.u.since D
 let⟨l1,o1,f,_,x1,_,x3,xf⟩:=u2.st d
 refine ec ((c1.since O).ld rfl) (ec (eC _ _) (ec pf (oF (H2.ld 1 rfl rfl) (ec x1 (oF x3 (ec xf.len ?_))))))
 let J:Nat->LP:=λk l h'=>∃F' i b,l=[.ptr Z 0,.ptr lx 0,.func nt [] [.ptr Z 0],f,.I fs.length,.I (i:Nat)]/\i+k=fs.length/\Sn Y h2 F' h'/\
   ej F' h' (fu eFr V5 ((fs.take i).map (frC e.of)) b::fi lx B5 [b,.I st,.I vl]::ZM e s w cs)
 refine EN J (λkk aa x7 x8 ab ac ad M P=>?_) (k:=fs.length) ?_;rotate_left
 ·exact⟨Y,0,.ed,rfl,by omega,.refl _ _,H2.add .nil λ_ h=>h⟩
 obtain⟨F3,i,b,⟨⟩,hk,N,R⟩:=P;unfold wC
 let⟨j,hj⟩:=E.p
 have S:=xf.since N;have T:=(c1.since O).since N;have G:=IK k.g d;by_cases FX:i<fs.length
 ·have hx:=hN FX;have U:=JE FX;have r:=AQ FX;generalize fs[i]=x at*
  let⟨_,_,hf⟩:=k.g.st st fs d
  let⟨hl40,hs60,_⟩:=hf x r
  let⟨l4,o4,xa,xb,_,y1,y2,ya,yb⟩:=S.qO hx
  refine gJ (ec y1 (ec y2 ?_));refine yR R rfl rfl (by simp only[fmC,fh,ya.one,yb.one];rfl) λF4 h4 lf c s4 a=>?_;have W:eD (.ptr lx (0+0)) h4=some b:=c.ld 1 rfl rfl;refine oF W (oF (a.ld rfl) (oF (a.ld rfl) (oF (a.ld rfl) (oF (a.ld rfl) ?_))));have I:(fu eFr V5 ((fs.take i).map (frC e.of)) b::fi lx B5 [b,.I st,.I vl]::ZM e s w cs)[j+7]? =some (fu eZ fJ e.of e.xx):=by simpa[ZM]using hj
  simp only[Kg,DX];refine Xj c (i:=2) rfl I (ya.since s4) (by omega) (λv hv=>k.v (G v (Rb.2 ⟨x,r,Xy _ hv⟩))) (T.since s4) λF5 h5 K q L ra=>?_;have t:=a.since q;refine⟨q.next,t.ld rfl,t.ld rfl,t.ld rfl,L.ld 1 rfl rfl,?_⟩;simp only[ QX];refine Xj L (i:=2) rfl I ((yb.since s4).since q) (by omega) (λv hv=>k.v (G v (Rb.2 ⟨x,r,wBO _ hv⟩))) ((T.since s4).since q) λF6 B wb z m X=>?_;have C:=t.since z;have A:=ra.since z;refine⟨z.next,ec (zdk A.one X.one) ?_⟩;have o4:gj [V.I x.func,.I x.pc,K,wb]=true:=by simp only[fh,A.one,X.one];rfl
  rw[show iW V5 4 1 (.agg [.I 0,.I 0,.ed,.ed]) [(0,.agg [.I x.func,.I x.pc,K,wb])]=_ from Fk rfl rfl o4,gU]
  let⟨w7,h7,e7,n7,H7,s7⟩:=m.tz 0 rfl (jh:=64) (NM:=V5) (ro:=false) (y:=frC e.of x) ⟨K,wb,rfl,A,X⟩ (by decide) (by decide) (by have:=(k.g.st st fs d).2.1;simp;omega)
  refine⟨⟨eQ _ _,bq⟩,gS (C.ld rfl) (eE _ (m.fl _ C.f)),gS (C.ld rfl) (eE _ (m.fl _ C.f)),gS (m.ld 1 rfl rfl) (eE _ (CB m 1 rfl)),?_⟩;rw[show fg V5 4 64 b (.slice B.next 0 1) (B.new (.cells V5 4 true false [.I x.func,.I x.pc,K,wb]))=_ from e7,ef];refine⟨by have:(B.new (.cells V5 4 true false [.I x.func,.I x.pc,K,wb])).next=B.next+1:=rfl;omega,ec pf ?_⟩
  let⟨h8,e8,n8,H8,s8⟩:=H7.st 1 (o:=0+0) rfl (by simp) (H7.one 0 rfl)
  rw[e8,ef];refine⟨n8,fT ⟨kk-1,by omega,?_⟩⟩;exact⟨F6,i+1,w7,rfl,by omega,((((N.trans s4).trans q).trans z).trans s7).trans s8,by rw[U,UB];exact H8⟩
 ·refine iY ?_;obtain rfl:i=fs.length:=by omega
  rw[QQ]at R
  let⟨c,s4,r4⟩:=R.jG 0 rfl
  have a:=T.since s4;refine ec (a.ld rfl) (ec (a.ld rfl) (oN (c.ld 2 rfl rfl) (ec (c.xk 1 rfl rfl) ?_)));have o3:gj [b,V.I st,.I vl]=true:=by simp only[fh,r4.one];rfl
  rw[show iW B5 3 1 (.agg [.ed,.I 0,.I 0]) [(0,.agg [b,.I st,.I vl])]=_ from Fk rfl rfl o3,gU];have er:Rv e.u e.of st vl=⟨fs.map (frC e.of),(st:Nat),vl⟩:=by unfold Rv;rw[d]
  obtain⟨w5,h5,e5,n5,L,q⟩:=c.tz 6 rfl (jh:=40) (NM:=B5) (ro:=false) (y:=Rv e.u e.of st vl) (by rw[er];exact⟨b,rfl,r4⟩) (by decide) (by decide) (by omega);refine⟨⟨eQ _ _,bq⟩,MY (c.xk 1 rfl rfl) (eE _ (CB c 1 rfl)),gS (c.ld 2 rfl rfl) (eE _ (CB c 2 rfl)),gS (a.ld rfl) (eE _ (c.fl _ a.f)),gS (a.ld rfl) (eE _ (c.fl _ a.f)),?_⟩;rw[show fg B5 3 40 w.e (.slice M.next 0 1) (M.new (.cells B5 3 true false [b,.I st,.I vl]))=_ from e5,ef];have t:=a.since q;refine⟨by have:(M.new (.cells B5 3 true false [b,.I st,.I vl])).next=M.next+1:=rfl;omega,ec (eC _ _) (ec pf ⟨t.ld rfl,?_⟩)⟩
  let⟨B,e6,n6,m,z⟩:=L.st 2 (o:=0+10) rfl (by simp[emC]) (L.one 6 rfl)
  rw[e6,ef];have C:=t.since z;refine⟨n6,ec (C.ld rfl) (oN (m.ld 2 rfl rfl) (ec (m.len 6 rfl) ?_))⟩;rw[iI,gz,gK (by simp[mR,nB,Tj];omega),show(((s.ex++[Rv e.u e.of st vl]).length:Nat):Int)-1=(s.ex.length:Nat) by simp];have sn:=((((D.trans N).trans s4).trans q).trans z)
  refine H _ B {w with e:=w5} sn ⟨m.tail.tail,E.u.since sn,E.p,?_⟩;have:=E.n;simp[nB,Tj];omega
theorem zdR{op:Nat}(a:3<=op)(b:op<=18)(H:Q (.I ((op+2:Nat):Int)) h):cP CS IA [.I op] h Q:=by
 refine YM ?_;refine fD ?_;split
 ·rename_i e;obtain rfl:op=17:=by omega
  exact H
 refine fD ?_;split
 ·rename_i e;obtain rfl:op=18:=by omega
  exact H
 rw[iU,gz,gK (by simp[mR];omega),iI,gK (by simp[mR];omega),show(5+(op:Int)-3)=((op+2:Nat):Int) by omega];exact H
theorem je{c A B:Prop}[Decidable c] (a:c->A)(b:¬c->B):if c then A else B:=by split <;> simp_all
theorem zbW(k:S4 e)(E:Gm F h cs e s w)(hl:s.l.length<190000)(he:s.ex.length<190000){v:Nat}{x:Vl}(K:e.u.ee[v]? =some x)(H:∀F' h' w',Sn F h F' h'->Gm F' h' cs e {s with l:=s.l++px e.of v x s.ex.length,ex:=s.ex++Bv e.u e.of v x} w'->Q (.tuple []) h') :
  cP CS sS [.ptr e.le 0,.I v] h Q:=by
 refine HA ?_
 let⟨l1,o1,wa,_,i1,i2,ra,_⟩:=E.u.val K
 refine ec (eC _ _) (ec pf (oF (E.ld 4 rfl) (ec i1 (ec i2 ?_))));refine yR E.H rfl rfl (by simp only[ym,fh,ra.one];rfl) λF2 U l H2 Y c2=>?_;have A:=E.since Y H2;have Z:=(j6.1 K).1;have pv:=k.v Z;have use:=k.g.use v x K;have pa:=λy hy=>k.v (iC (use y hy));have ab:=k.g.op v x K;have B:∀L X,px e.of v x s.ex.length=L->Bv e.u e.of v x=X->∀F' h' w',Sn F2 U F' h'->Gm F' h' cs e {s with l:=s.l++L,ex:=s.ex++X} w'->Q (.tuple []) h':=by
  rintro _ _ rfl rfl F' h' w' s' E';exact H F' h' w' (Y.trans s') E'
 have c:∀p sp,(ko p sp).length<=1:=λp sp=>by unfold ko;split <;> simp
 refine oF (c2.ld rfl) ?_;have M:¬(x.op=22\/x.op=23)->Bv e.u e.of v x=[]:=λh=>by unfold Bv;rw[if_neg h]
 have r3:∀b,(b=true↔x.op=1\/x.op=21)->ml Q [.ptr e.le 0,.I v,.ptr l 0,.I x.op,.bool b] U:=λb V=>by
  refine Eb ?_;unfold vt;refine gf ?_;split
  ·rename_i e1;have e1:=V.1 e1;have hk:=B [] [] (by unfold px;rw[if_pos e1]) (M (by omega)) F2 U w (.refl _ _);rw[GA,GA]at hk;exact hk A
  rename_i z;have z:¬(x.op=1\/x.op=21):=λh=>z (V.2 h);refine fD ?_;split
  ·rename_i e1;have e1:x.op=2:=by omega
   refine oF (c2.ld rfl) (ec rfl ?_);refine W1 A (by omega) pv.1 pv.2 ⟨1,0,0,0,x.n⟩ λN O P d q=>B _ [] (by unfold px;rw[if_neg z,if_pos e1]) (M (by omega)) N O P d ?_;rw[GA];exact q
  rename_i n2;refine fD ?_;split
  ·rename_i e1;have e1:x.op=19:=by omega
   have i:jq x=[x.a,x.b]:=by unfold jq two;simp[e1]
   have f:=pa x.a (by simp[i]);have C:=pa x.b (by simp[i]);refine oF (c2.ld rfl) (CU A (by omega) f.1 f.2 12 λN O P d q=>?_);have j:=c2.since d;refine oF (j.ld rfl) (oF (j.ld rfl) ?_);refine CU q (by have:=c (hO e.of x.a) 12;simp[nB];omega) C.1 C.2 13 λR S T s4 m=>⟨s4.next,ec rfl ⟨(j.since s4).ld rfl,?_⟩⟩
   refine zp m (by have:=c (hO e.of x.a) 12;have:=c (hO e.of x.b) 13;simp[nB];omega) ⟨21,lD (hO e.of x.a) 12,lD (hO e.of x.b) 13,0,x.n⟩ λD G I r o=>⟨r.next,B _ [] (by unfold px;rw[if_neg z,if_neg (by omega),if_pos e1]) (M (by omega)) D G I ((d.trans s4).trans r) ?_⟩
   simp[Bo,GA]at o⊢;exact o
  rename_i n3;refine fD ?_;split
  ·rename_i e1;have e1:x.op=20:=by omega
   have aa:=k.g.putAt v x K e1;have i:jq x=[x.a,x.b,x.args.getD 0 0]:=by
    unfold jq;rw[if_neg (by omega),if_pos e1]
    match h:x.args,aa with
    |[w],_=>rfl
   have f:=pa x.a (by simp[i]);have C:=pa x.b (by simp[i]);have qc:=pa (x.args.getD 0 0) (by rw[i];simp);have a1:=c (hO e.of x.a) 12;have a2:=c (hO e.of x.b) 13;have a3:=c (hO e.of (x.args.getD 0 0)) 14;refine oF (c2.ld rfl) (CU A (by omega) f.1 f.2 12 λN O P d q=>?_);have j:=c2.since d;refine oF (j.ld rfl) (CU q (by simp[nB];omega) C.1 C.2 13 λR S T s4 m=>?_);have c4:=j.since s4;have hg:x.args[0]? =some (x.args.getD 0 0):=by rw[Dz,hN (by omega)];rfl
   let⟨l2,o2,_,p1,p2⟩:=(((ra.since Y).since d).since s4).nat hg .i64
   refine oF (c4.ld rfl) (ec p1 (ec p2 ?_));refine CU m (by simp[nB];omega) qc.1 qc.2 14 λD G I r o=>ec rfl ?_;refine zp o (by simp only[nB];omega) ⟨22,lD (hO e.of x.a) 12,lD (hO e.of x.b) 13,lD (hO e.of (x.args.getD 0 0)) 14,0⟩ λF6 h6 w6 s6 E6=>B _ [] (by unfold px;rw[if_neg z,if_neg (by omega),if_neg (by omega),if_pos e1]) (M (by omega)) F6 h6 w6 (((d.trans s4).trans r).trans s6) ?_;simp[Bo,GA]at E6⊢;exact E6
  rename_i n4;have J:x.op=22\/x.op=23->∃fs,e.u.ez[x.state]? =some fs:=λh=>⟨_,hN (k.g.leave v x K (by unfold leaves;rcases h with h|h <;> simp[h]))⟩
  refine fD ?_;split
  ·rename_i e1;have e1:x.op=22:=by omega
   have i:jq x=[x.a]:=by unfold jq two tZ;simp[e1]
   have f:=pa x.a (by simp[i]);have a1:=c (hO e.of x.a) 12
   let⟨fs,hfs⟩:=J (.inl e1)
   refine oF (c2.ld rfl) (CU A (by omega) f.1 f.2 12 λN O P d q=>?_);have j:=c2.since d;refine oF (j.ld rfl) ?_;refine Sg k q (by show s.ex.length<_;omega) hfs λR S T s4 m=>ec rfl ?_;refine zp m (by simp[nB];omega) ⟨25,lD (hO e.of x.a) 12,0,0,(s.ex.length:Nat)⟩ λD G I r o=>B _ _ (by unfold px;rw[if_neg z,if_neg (by omega),if_neg (by omega),if_neg (by omega),if_pos e1]) (by unfold Bv;rw[if_pos (.inl e1)]) D G I ((d.trans s4).trans r) ?_;simp[Bo]at o⊢;exact o
  rename_i n5;refine fD ?_;split
  ·rename_i e1;have e1:x.op=23:=by omega
   let⟨fs,hfs⟩:=J (.inr e1)
   refine oF (c2.ld rfl) ?_;refine Sg k A (by omega) hfs λR S T s4 m=>ec rfl ?_;exact zp m (by show s.l.length<_;omega) ⟨26,0,0,0,(s.ex.length:Nat)⟩ λD G I r o=>B _ _ (by unfold px;rw[if_neg z,if_neg (by omega),if_neg (by omega),if_neg (by omega),if_neg (by omega),if_pos e1]) (by unfold Bv;rw[if_pos (.inr e1)]) D G I (s4.trans r) o
  rename_i n6;have t:∀b,(b=true↔x.op=8\/x.op=9\/x.op=15\/x.op=16\/x.op=17)->iF Q [.ptr e.le 0,.I v,.ptr l 0,.bool b] U:=λb V=>by
   refine Cn ?_;unfold uv;refine gf ?_;split
   ·rename_i e1;have e1:=V.1 e1;have i:jq x=[x.a]:=by unfold jq two tZ;rcases e1 with e|e|e|e|e <;> simp[e]
    have f:=pa x.a (by simp[i]);have a1:=c (hO e.of x.a) 12;have W:∀n,n=(if x.op=17 then x.n else 0)->lO Q [.ptr e.le 0,.I v,.ptr l 0,.I n] U:=λn hn=>by
     refine CP ?_;unfold uq;refine oF (c2.ld rfl) (oF (c2.ld rfl) ?_);refine zdR (by omega) (by omega) ⟨jj _,c2.ld rfl,?_⟩;refine CU A (by omega) f.1 f.2 12 λN O P d q=>⟨d.next,ec rfl ?_⟩
     refine W1 q (by simp[nB];omega) pv.1 pv.2 ⟨x.op+2,0,lD (hO e.of x.a) 12,0,n⟩ λR S T s4 m=>⟨s4.next,B _ [] (by unfold px;rw[if_neg z,if_neg (by omega),if_neg (by omega),if_neg (by omega),if_neg (by omega),if_neg (by omega),if_pos e1,<-hn]) (M (by omega)) R S T (d.trans s4) ?_⟩
     simp[Bo,GA]at m⊢;exact m
    refine oF (c2.ld rfl) (oF (c2.ld rfl) (Eo ?_));split
    ·rename_i e2;exact W _ (by rw[if_pos (by omega)])
    ·rename_i e2;exact W 0 (by rw[if_neg (by omega)])
   ·rename_i e1;have e1:¬(x.op=8\/x.op=9\/x.op=15\/x.op=16\/x.op=17):=λh=>e1 (V.2 h);have ht:two x.op=true:=by
     unfold two;simp[Jz,xB,xX,Gi];omega
    have i:jq x=[x.a,x.b]:=by unfold jq;rw[if_neg (by omega),if_neg (by omega),if_pos ht]
    have f:=pa x.a (by simp[i]);have C:=pa x.b (by simp[i]);have a1:=c (hO e.of x.a) 12;have a2:=c (hO e.of x.b) 13;refine oF (c2.ld rfl) (CU A (by omega) f.1 f.2 12 λN O P d q=>?_);have j:=c2.since d;refine oF (j.ld rfl) (oF (j.ld rfl) ?_);refine zdR (by omega) (by omega) ⟨jj _,j.ld rfl,?_⟩;refine CU q (by simp[nB];omega) C.1 C.2 13 λR S T s4 m=>⟨s4.next,ec rfl ?_⟩
    refine W1 m (by simp[nB];omega) pv.1 pv.2 ⟨x.op+2,0,lD (hO e.of x.a) 12,lD (hO e.of x.b) 13,0⟩ λD G I r o=>⟨r.next,B _ [] (by unfold px;rw[if_neg z,if_neg (by omega),if_neg (by omega),if_neg (by omega),if_neg (by omega),if_neg (by omega),if_neg e1]) (M (by omega)) D G I ((d.trans s4).trans r) ?_⟩
    simp[Bo,GA]at o⊢;exact o
  refine fK (gf (je (λe=>t _ ?_) λe=>?_))
  ·simp at e;simp;omega
  refine fK (gf (je (λe=>t _ ?_) λe=>?_))
  ·simp at e;simp;omega
  refine fK (gf (je (λe=>t _ ?_) λe=>?_))
  ·simp at e;simp;omega
  refine fK (gf (je (λe=>t _ ?_) λe=>?_))
  ·simp at e;simp;omega
  refine fK (t _ ?_);simp at*;omega
 refine fK (gf (je (λe=>r3 _ ?_) λe=>fK (r3 _ ?_)))
 ·simp at e⊢;omega
 ·simp at e⊢;omega
