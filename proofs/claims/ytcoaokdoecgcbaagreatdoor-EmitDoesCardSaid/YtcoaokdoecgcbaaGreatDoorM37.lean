/- Parts. -/
import Derived.Test.YtcoaokdoecgcbaaGreatDoorM28
import Derived.Test.YtcoaokdoecgcbaaGreatDoorM35
import Derived.Test.YtcoaokdoecgcbaaGreatDoorM33
set_option maxHeartbeats 4000000
namespace Go.Proofs.YtcoaokdoecgcbaaGreatDoor.Hx
open Un
variable{T:Nat}{p:Int}{l:Nat}
abbrev vE:Nat:=102
abbrev yf:Nat:=46
abbrev X7:Nat:=48
abbrev De:Nat:=51
abbrev zho:Nat:=99
abbrev G7:Nat:=177
def JM(x:Ni):List V:=[.I x.op,.I x.a,.I x.b,.I x.c,.I x.n]
def Zm:tq Ni where
 sz:=5
 rel _ _ x cs:=cs=JM x
 len h:=by subst h;rfl
 one h:=by subst h;rfl
 fy _ h:=h
 mono _ h:=h
def KW(x:Nl):List V:=[.I x.kind,.I x.n]
def S9:tq Nl where
 sz:=2
 rel _ _ x cs:=cs=KW x
 len h:=by subst h;rfl
 one h:=by subst h;rfl
 fy _ h:=h
 mono _ h:=h
def eFr:tq Nf where
 sz:=4
 rel F h x cs:=∃l s,cs=[.I x.func,.I x.pc,l,s]/\hD S9 F h x.locals l/\hD S9 F h x.stack s
 len:=λ⟨_,_,h,_⟩=>by subst h;rfl
 one:=λ⟨_,_,h,a,b⟩=>by subst h;simp only[fe,a.one,b.one];rfl
 fy:=λc ⟨l,s,h,a,b⟩=>⟨l,s,h,a.fy c,b.fy c⟩
 mono:=λd ⟨l,s,h,a,b⟩=>⟨l,s,h,a.mono d,b.mono d⟩
def eEx:tq Nx where
 sz:=3
 rel F h x cs:=∃f,cs=[f,.I x.state,.I x.val]/\hD eFr F h x.gB f
 len:=λ⟨_,h,_⟩=>by subst h;rfl
 one:=λ⟨_,h,a⟩=>by subst h;simp only[fe,a.one];rfl
 fy:=λb ⟨f,h,a⟩=>⟨f,h,a.fy b⟩
 mono:=λc ⟨f,h,a⟩=>⟨f,h,a.mono c⟩
def eMv:tq Mv where
 sz:=2
 rel _ _ x cs:=cs=[.I x.1,.I x.2]
 len h:=by subst h;rfl
 one h:=by subst h;rfl
 fy _ h:=h
 mono _ h:=h
section
variable{F F':Nat->Prop}{h h':Hp}{cs:List Pc}{Q:fj}
structure Cl (F:Nat->Prop) (h:Hp) (l T:Nat) (ws:List V):Prop where
 f:F l
 g:h.get l=some (.cells T 1 true false ws)
theorem Cl.since{ws:List V}(c:Cl F h l T ws)(s:Sn F h F' h'):Cl F' h' l T ws:=⟨s.mono _ c.f,(s.fy _ c.f).trans c.g⟩
theorem Cl.ld{ws:List V}(c:Cl F h l T ws){o:Nat}{u:V}(a:ws[o]? =some u):ez (.ptr l o) h=some u:=lK c.g a
theorem Cl.tj{n:Nat}{ws:List V}(c:Cl F h l T ws)(a:ws.length=n):fZ n (.ptr l 0) h=some (.agg ws):=IP c.g a
theorem CY(H:ej F h cs)(i:Nat){l ty:Nat}{ws:List V}(hi:cs[i]? =some (eD l ty ws)):l<h.next:=(H.ok i _ hi).2.1
theorem ud{n:Nat}{d ws:List V}{K:fj}(H:ej F h cs)(f:d.length=n)(g:ws.length=n)(b:gi ws=true)(i:∀c a l,ej c a cs->Sn F h c a->Cl c a l T ws->K (.ptr l 0) a) :
  gU (some (O.cells T 1 true false d,λl=>V.ptr l 0)) h λv b=>eJ (gj n v (.agg ws) b) λ_ a=>K v a:=
 jX H f g b λa e j=>by
  let⟨k,m⟩:=e.Co 0 rfl
  exact i _ a _ k.tail (j.trans m) ⟨.inr rfl,e.get 0 rfl⟩
theorem tR{ws:List V}{K:fj}(H:ej F h cs)(d:gi ws=true)(e:∀b a l,ej b a cs->Sn F h b a->Cl b a l T ws->K (.ptr l 0) a):gU (kZ T (.agg ws)) h K:=
 oC H d λa c f=>by
  let⟨g,i⟩:=c.Co 0 rfl
  exact e _ a _ g.tail (f.trans i) ⟨.inr rfl,c.get 0 rfl⟩
theorem ej.sub{ds:List Pc}(H:ej F h cs)(f:Nat->Nat)(a:∀i c,ds[i]? =some c->cs[f i]? =some c)(hi:∀i j,f i=f j->i=j):ej F h ds:=
 ⟨H.fl,λi c hc=>H.ok (f i) c (a i c hc),λi j c d hc hd b=>H.Hj (f i) (f j) c d (a i c hc) (a j d hd) λe=>b (hi i j e)⟩
theorem ej.zbx{a b c d e p:Pc}(H:ej F h (p::a::b::c::d::e::cs)):ej F h (a::b::c::d::e::p::cs):=
 H.sub (λi=>if i<5 then i+1 else if i=5 then 0 else i) (λi x f=>by
  match i,f with
  |0,f=>exact f
  |1,f=>exact f
  |2,f=>exact f
  |3,f=>exact f
  |4,f=>exact f
  |5,f=>exact f
  |i+6,f=>(rw[ if_neg (by omega)];exact f)) (by grind)
theorem ej.ze9{a b c d e p:Pc}(H:ej F h (a::b::c::d::e::p::cs)):ej F h (a::b::c::d::e::cs):=
 H.sub (λi=>if i<5 then i else i+1) (λi x f=>by
  match i,f with
  |0,f=>exact f
  |1,f=>exact f
  |2,f=>exact f
  |3,f=>exact f
  |4,f=>exact f
  |i+5,f=>(rw[if_neg (by omega)];exact f)) (by grind)
theorem UA(hp:p<1000000) (c : -1000000<p)(d:ej F h cs)(H:∀F' h',Sn F h F' h'->ej F' h' cs->Q (.agg (KW (lg p))) h'):cP CS Bp [.I p] h Q:=by
 refine WZ ?_;rw[fK]
 let⟨f,s1⟩:=d.xC yf [.I 0,.I 0]
 refine Y7 ?_;have fin:∀ws,ws=KW (lg p)->eJ (gj 2 (.ptr h.next 0) (.agg ws) (h.new (.cells yf 1 true false [.I 0,.I 0]))) λ_ a=>oP (fZ 2 (.ptr h.next 0) a) λr=>Q r a:=λws e=>by
  let⟨a,e2,_,b,g⟩:=f.Tw 0 (ws:=ws) rfl (by rw[e];rfl) rfl (by rw[e];rfl)
  rw[show gj 2 (.ptr h.next 0) (.agg ws) (h.new (.cells yf 1 true false [.I 0,.I 0]))=_ from e2,eh];refine ec (b.tj 0 rfl (by rw[e];rfl)) ?_;rw[e];exact H F a (s1.trans g) b.tail
 unfold lg KW at fin;split
 ·rename_i e;rw[if_pos e]at fin;exact ec (rfl) (fin _ rfl)
 ·rename_i e;rw[if_neg e]at fin;rw[jx,gQ,gG (by simp[ml];omega)];exact ec (rfl) (fin _ rfl)
structure Ge where
 le:Nat
 u:U
 vv:V
 vb:V
 vs:V
 of:List Int
 xW:V
 fF:Int
structure Ga where
 l:List Ni
 bs:List Nat
 js:List Nat
 ex:List Nx
structure Gx where
 l:V
 b:V
 j:V
 e:V
def emC(e:Ge)(w:Gx):List V:=[e.xW,.I e.fF,.I e.u.func,.I e.u.pc,e.vv,e.vb,e.vs,w.l,w.b,w.j,w.e]
def emP(e:Ge)(s:Ga)(w:Gx)(cs:List Pc):List Pc:=eD e.le zho (emC e w)::ft Zm vE s.l w.l::ft eN fN s.bs w.b::ft eN fN s.js w.j::ft eEx De s.ex w.e::cs
structure Gm (F:Nat->Prop) (h:Hp) (cs:List Pc) (e:Ge) (s:Ga) (w:Gx):Prop where
 H:ej F h (emP e s w cs)
 u:EZ F h e.u e.vv e.vb e.vs
 p:∃j:Nat,cs[j]? =some (ft eZ fN e.of e.xW)
 n:s.l.length<400000/\s.bs.length<400000/\s.js.length<400000/\s.ex.length<400000
variable{e:Ge}{s:Ga}{w:Gx}
theorem Gm.ld(E:Gm F h cs e s w)(o:Nat){y:V}(a:(emC e w)[o]? =some y):ez (.ptr e.le o) h=some y:=E.H.ld 0 rfl a
theorem Gm.since(E:Gm F h cs e s w)(a:Sn F h F' h')(b:ej F' h' (emP e s w cs)):Gm F' h' cs e s w:=⟨b,E.u.since a,E.p,E.n⟩
theorem ej.zgL{ty:Nat}{xs:List Int}{v:V}(H:ej F h cs)(i:Nat)(hi:cs[i]? =some (ft eZ ty xs v)){k:Nat}{x:Int}(b:xs[k]? =some x)(c:IntKind):∃l o,gM 1 v (.int c (k:Nat))=some (.ptr l o)/\ez (.ptr l o) h=some (.I x)/\l<h.next:=by
 let⟨l,o,a,d⟩:=H.BY i hi b c
 refine⟨l,o,a,d,?_⟩
 let⟨hk,_⟩:=ke.1 b
 rcases H.row i hi with⟨_,rfl⟩|⟨t,ds,rfl,e,_⟩
 ·cases hk
 ·rw[wz _ _ _ _ _ _ hk]at a;cases a;exact e
theorem Gm.pl(E:Gm F h cs e s w){v:Nat}(hv:v<e.of.length):∃l o,gM 1 e.xW (.I v)=some (.ptr l o)/\ez (.ptr l o) h=some (.I (hO e.of v))/\l<h.next:=by
 let⟨j,hj⟩:=E.p
 refine E.H.zgL (j+5) (by simpa[emP]using hj) ?_ .i64;unfold hO;rw[IY,hZ hv];rfl
theorem Zx(E:Gm F h cs e s w){v:Nat}(hv:v<e.of.length) (hp : -1000000<hO e.of v/\hO e.of v<1000000){sl:Int}(H:∀F' h',Sn F h F' h'->Gm F' h' cs e s w->Q (.agg (KW (lg (hO e.of v)))) h') :
  cP CS jR [.agg [e.xW,.I sl],.I v] h Q:=by
 refine CG ?_;have b:e.xW.one=true:=by
  let⟨j,hj⟩:=E.p
  exact E.H.one (j+5) (by simpa[emP]using hj)
 refine tR E.H (by simp[fe,b];rfl) λu x lb g s1 i=>?_;rw[fK]
 let⟨c,a⟩:=g.xC yf [.I 0,.I 0]
 have k:=E.since (s1.trans a) c.tail
 let⟨l,o,p1,p2,_⟩:=k.pl hv
 refine ec pf (oF ((i.since a).ld rfl) (ec p1 (ec p2 ?_)));refine UA (by omega) (by omega) c λm y d q=>?_
 let⟨r,t,_,f,s4⟩:=q.Tw 0 (n:=2) (ws:=KW (lg (hO e.of v))) rfl rfl rfl rfl
 rw[t,eh];exact ec (f.tj 0 rfl rfl) (H m r (((s1.trans a).trans d).trans s4) (E.since (((s1.trans a).trans d).trans s4) f.tail))
theorem zP(E:Gm F h cs e s w)(hl:s.l.length<300000)(x:Ni)(H:∀F' h' w',Sn F h F' h'->Gm F' h' cs e {s with l:=s.l++[x]} w'->Q (.tuple []) h'):cP CS gq [.ptr e.le 0,.agg (JM x)] h Q:=by
 refine KK ?_;refine tR E.H rfl λi b lb a s1 c=>?_;refine oN (a.ld 0 rfl rfl) (ec (c.tj rfl) ?_)
 let⟨v',v,e2,y,d,j⟩:=a.pT 1 rfl (iU:=40) (MB:=vE) (w:=JM x) (ro:=false) rfl (by decide) (by decide) (by omega)
 rw[show iO vE 5 1 (.agg [.I 0,.I 0,.I 0,.I 0,.I 0]) [(0,.agg (JM x))]=some (.cells vE 5 true false (JM x),λl=> .slice l 0 1) from rfl,gI];refine⟨⟨fh _ _,bq⟩,Jh (c.tj rfl) (fi _ (a.fl _ c.f)),gz (a.ld 0 rfl rfl) (fi _ (CY a 0 rfl)),?_⟩;rw[show fg vE 5 40 w.l (.slice b.next 0 1) (b.new (.cells vE 5 true false (JM x)))=_ from e2,eh]
 let⟨k,m,q,r,t⟩:=d.st 0 rfl (o:=0+7) (by simp[emC]) (d.one 1 rfl)
 refine⟨by have:(b.new (.cells vE 5 true false (JM x))).next=b.next+1:=rfl;omega,ec (eC _ _) (ec pf ?_)⟩;rw[m,eh];have g:=(s1.trans j).trans t;refine⟨q,H i k {w with l:=v'} g ⟨r,E.u.since g,E.p,by simp[qu,YX];omega,E.n.2⟩⟩
theorem zee(h:lC p):((p.toNat:Nat):Int)=p:=by unfold lC at h;omega
theorem Gm.ldP(E:Gm F h cs e s w):fZ 2 (.ptr e.le (0+0)) h=some (.agg [e.xW,.I e.fF]):=(zy (E.H.get 0 rfl)).trans rfl
theorem Gm.loc(E:Gm F h cs e s w){v:Nat}(hv:v<e.of.length)(hp:lC (hO e.of v))(H:∀F' h',Sn F h F' h'->Gm F' h' cs e s w->Q (.agg (KW (lg (hO e.of v)))) h') :
  oP (fR (.ptr e.le 0)) λa=>oP (fJ 0 a) λb=>oP (fZ 2 b h) λc=>cP CS jR [c,.I v] h Q:=
 ec (eC _ _) (ec pf (ec E.ldP (Zx E hv (by unfold lC at hp;omega) H)))
theorem Mp(h:p<16):KW (lg p)=[.I 1,.I p]:=by unfold lg KW;rw[if_pos h]
theorem M6(h:¬p<16):KW (lg p)=[.I 2,.I (p-16)]:=by unfold lg KW;rw[if_neg h]
theorem Dj(E:Gm F h cs e s w)(hl:s.l.length<200000){v:Nat}(hv:v<e.of.length)(hp:lC (hO e.of v))(sp:Nat)(H:∀F' h' w',Sn F h F' h'->Gm F' h' cs e {s with l:=s.l++ki (hO e.of v) sp} w'->Q (.I (lB (hO e.of v) sp:Nat)) h') :
  cP CS gX [.ptr e.le 0,.I v,.I sp] h Q:=by
 refine LG ?_;refine E.loc hv hp λn o s1 E1=>?_;refine ud E1.H rfl rfl (by unfold KW;rfl) λc d l f a c2=>?_;have b:=E1.since a f;unfold ki lB at H;by_cases hr:hO e.of v<16
 ·rw[Mp hr]at c2;rw[if_pos hr,if_pos hr,Ku,zee hp]at H;refine oF (c2.ld rfl) (fx (fO rfl (oF (c2.ld rfl) ?_)));exact H c d w (s1.trans a) b
 ·rw[M6 hr]at c2;rw[if_neg hr,if_neg hr]at H;refine oF (c2.ld rfl) (fx (fH (by decide) (oF (c2.ld rfl) (ec rfl ?_))));exact zP b (by omega) (Zk sp (hO e.of v)) λg i j k m=>H g i j ((s1.trans a).trans k) m
theorem WY(E:Gm F h cs e s w)(hl:s.l.length<200000){v:Nat}(hv:v<e.of.length)(hp:lC (hO e.of v))(x:Ni)(H:∀F' h' w',Sn F h F' h'->Gm F' h' cs e {s with l:=s.l++AP (hO e.of v) x} w'->Q (.tuple []) h') :
  cP CS mY [.ptr e.le 0,.I v,.agg (JM x)] h Q:=by
 refine Lb ?_;refine oC E.H rfl λh0 N s0=>?_;generalize h.next=lx at*;have A:=E.since s0 N.tail;have B:=A.ldP;refine ec (eC _ _) (ec pf (ec B ?_))
 let⟨j,hj⟩:=E.p
 have P0:Gm F h0 (eD lx vE (JM x)::cs) e s w:=⟨N.zbx,A.u,⟨j+1,hj⟩,E.n⟩
 refine Zx P0 hv (by unfold lC at hp;omega) λF1 h1 s1 O=>?_;refine ud O.H rfl rfl (by unfold KW;rfl) λf P l W C c2=>?_;have P2:=O.since C W;have g:=(s0.trans s1).trans C
 let⟨R,X,_,S,k⟩:=P2.H.st 5 rfl (o:=0+1) (by simp[JM]) (u:= .I 14) rfl
 refine ec pf ?_;rw[X,eh];have c:=c2.since k
 have T:∀b r,Sn f R f b->ej f b (emP e s w (eD lx vE (JM {x with a:=r})::cs))->(∀F' h' w',Sn f b F' h'->Gm F' h' cs e {s with l:=s.l++[{x with a:=r}]} w'->oP (fJ 0 (.ptr l 0)) λD=>oP (ez D h') λG=>
   oP (ef .eql 3 G (V.I 2)) λI=>bP I (oP (fJ 1 (.ptr l 0)) λJ=>oP (ez J h') λL=>oP (fq [(V.I 0),(V.I 0),(V.I 0),(V.I 0),(V.I 0)] gc [(0,(V.I 4)),(1,(V.I 14)),(4,L)]) λM=>
   cP CS gq [.ptr e.le 0,M] h' λ_ P=>Q (V.tuple []) P) (Q (V.tuple []) h'))->nt Q [.ptr e.le 0,.ptr lx 0,.ptr l 0] b:=λb r s4 m K=>by
  refine GV ?_;unfold xS;have Y:Gm f b cs e s w:=⟨m.ze9,A.u.since ((s1.trans C).trans (k.trans s4)),E.p,E.n⟩
  refine ec (m.tj 5 rfl rfl) ?_;exact zP Y (by omega) {x with a:=r} λq t y d i=>K q t y d i
 unfold AP at H;by_cases hr:hO e.of v<16
 ·rw[if_pos hr]at H;rw[Mp hr]at c;refine oF (c.ld rfl) (fx (fO rfl (oF (c.ld rfl) (ec pf ?_))))
  let⟨b,Z,_,m,s4⟩:=S.st 5 rfl (o:=0+1) (by simp[JM]) (u:= .I (hO e.of v)) rfl
  rw[Z,eh];refine T b (hO e.of v).toNat s4 (by unfold JM;rw[zee hp];exact m) λq t y d i=>?_;have z:=(c.since s4).since d;refine oF (z.ld rfl) (fx (fH (by decide) ?_));exact H q t y (((g.trans k).trans s4).trans d) i
 ·rw[if_neg hr]at H;rw[M6 hr]at c;refine oF (c.ld rfl) (fx (fH (by decide) ?_));refine T R 14 (.refl _ _) S λq t y d i=>?_;have z:=c.since d;refine oF (z.ld rfl) (fx (fO rfl (oF (z.ld rfl) (ec rfl ?_))));refine zP i (by simp;omega) (WO 14 (hO e.of v)) λF6 h6 w6 s6 U=>H F6 h6 w6 (((g.trans k).trans d).trans s6) ?_;simp[Cy,wBS]at U;exact U
variable{ds:List Pc}
theorem YJ(E:Gm F h cs e s w)(hl:s.l.length<300000)(op b c:Nat)(n:Int){p:Int}(hp:lC p)(H:∀F' h' w',Sn F h F' h'->Gm F' h' cs e {s with l:=s.l++[⟨op,p.toNat,b,c,n⟩]} w'->Q (.tuple []) h') :
  cP CS gq [.ptr e.le 0,.agg [.I op,.I p,.I b,.I c,.I n]] h Q:=by
 have:=zP E hl ⟨op,p.toNat,b,c,n⟩ H;unfold JM at this
 rwa [zee hp]at this
theorem zdi(E:Gm F h cs e s w)(hl:s.l.length<200000){m:Mv}(x:lC m.1)(o:lC m.2)(H:∀F' h' w',Sn F h F' h'->Gm F' h' cs e {s with l:=s.l++td m} w'->Q (.tuple []) h') :
  cP CS uy [.ptr e.le 0,.agg (KW (lg m.1)),.agg (KW (lg m.2))] h Q:=by
 refine J7 ?_;refine tR E.H (by unfold KW;rfl) λB C D y s1 a=>?_;refine tR y (by unfold KW;rfl) λp q z A u c2=>?_;have a:=a.since u;have b:=s1.trans u;have n:=E.since b A
 have v:∀d c i t r,Sn p q d c->Gm d c cs e t i->t.l.length<210000->(∀F' h' w',Sn d c F' h'->Gm F' h' cs e {t with l:=t.l++(if m.2<16 then[⟨2,m.2.toNat,r,0,0⟩] else[WO r m.2])} w'->Q (.tuple []) h')->
   mC Q [.ptr e.le 0,.ptr z 0,.I (r:Nat)] c:=λd c i t r j k hl K=>by
  refine Gk ?_;unfold xd;have f:=c2.since j;by_cases hr:m.2<16
  ·rw[Mp hr]at f;rw[if_pos hr]at K;refine oF (f.ld rfl) (fx (fO rfl (oF (f.ld rfl) (ec rfl ?_))));exact YJ k (by omega) 2 r 0 0 o K
  ·rw[M6 hr]at f;rw[if_neg hr]at K;refine oF (f.ld rfl) (fx (fH (by decide) (oF (f.ld rfl) (ec rfl ?_))));exact zP k (by omega) (WO r m.2) K
 unfold td at H;by_cases e1:m.1<16
 ·rw[Mp e1]at a;rw[if_pos e1]at H;refine oF (a.ld rfl) (fx (fO rfl (oF (a.ld rfl) ?_)));have:=v p q w s m.1.toNat (.refl _ _) n (by omega) λF' h' w' s' E'=>H F' h' w' (b.trans s') E';rw[zee x]at this;exact this
 ·rw[M6 e1]at a;rw[if_neg e1]at H;refine oF (a.ld rfl) (fx (fH (by decide) ?_));by_cases e2:m.2<16
  ·rw[Mp e2]at c2;rw[if_pos e2]at H;refine oF (c2.ld rfl) (fx (fO rfl (oF (c2.ld rfl) (oF (a.ld rfl) (ec rfl ?_)))));exact YJ n (by omega) 3 0 0 (m.1-16) o λF' h' w' s' E'=>H F' h' w' (b.trans s') E'
  ·have g:=c2;rw[M6 e2]at g;rw[if_neg e2]at H;refine oF (g.ld rfl) (fx (fH (by decide) (oF (a.ld rfl) (ec rfl ?_))));refine zP n (by omega) (Zk 13 m.1) λd c i j k=>?_;refine v d c i _ 13 j k (by simp;omega) λF' h' w' s' E'=>H F' h' w' ((b.trans j).trans s') ?_;rw[if_neg e2]at E';simp[ wBS]at E';exact E'
theorem TA(E:Gm F h cs e s w)(hl:s.l.length<200000)(J:s.js.length<200000){x:Ni}{t:Nat}(H:∀F' h' w',Sn F h F' h'->Gm F' h' cs e {s with l:=s.l++[{x with n:=(t:Nat)}],js:=s.js++[s.l.length]} w'->Q (.tuple []) h') :
  cP CS my [.ptr e.le 0,.agg (JM x),.I t] h Q:=by
 refine Kj ?_;refine oC E.H rfl λh0 i s0=>?_;generalize h.next=lx at*
 let⟨b,e1,_,d,s1⟩:=i.st 0 rfl (o:=0+4) (by simp[JM]) (u:= .I t) rfl
 refine ec pf ?_;rw[e1,eh]
 let⟨a,k⟩:=d.Co 0 rfl
 have c2:Cl (λm=>F m\/m=lx) b lx vE (JM {x with n:=(t:Nat)}):=⟨.inr rfl,d.get 0 rfl⟩
 have f:=(s0.trans s1).trans k;have a:=a.tail;refine oN (a.ld 0 rfl rfl) (oN (a.ld 0 rfl rfl) (ec (a.len 1 rfl) ?_));rw[show iO 3 1 1 (.I 0) [(0,.I s.l.length)]=_ from F0 _,gI]
 let⟨v',K,q,L,g,c⟩:=a.pT 3 rfl (iU:=8) (MB:=3) (w:=[.I s.l.length]) (ro:=false) rfl (by decide) (by decide) (by have:=E.n;omega)
 refine⟨⟨fh _ _,bq⟩,gz (a.ld 0 rfl rfl) (fi _ (CY a 0 rfl)),gz (a.ld 0 rfl rfl) (fi _ (CY a 0 rfl)),?_⟩;rw[show fg 3 1 8 w.j (.slice b.next 0 1) (b.new (.cells 3 1 true false (oY [s.l.length])))=_ from q,eh]
 let⟨r,v,y,z,s4⟩:=g.st 0 rfl (o:=0+9) (by simp[emC]) (g.one 3 rfl)
 refine⟨by have:(b.new (.cells 3 1 true false (oY [s.l.length]))).next=b.next+1:=rfl;omega,ec (eC _ _) (ec pf ?_)⟩;rw[v,eh];refine⟨y,ec (((c2.since c).since s4).tj rfl) ?_⟩;have A:Gm _ r cs e {s with js:=s.js++[s.l.length]} {w with j:=v'}:=⟨z,E.u.since ((f.trans c).trans s4),E.p,by have:=E.n;simp[qu,YX];omega⟩
 exact zP A (show s.l.length<300000 by omega) {x with n:=(t:Nat)} λB C D G I=>H B C D (((f.trans c).trans s4).trans G) I
theorem Vm(a:ej F h ds){j:Nat}{of:List Int}{xW:V}(b:ds[j]? =some (ft eZ fN of xW)){v:Nat}(hv:v<of.length)(hp:lC (hO of v)){sl:Int}(H:∀F' h',Sn F h F' h'->ej F' h' ds->Q (.agg (KW (lg (hO of v)))) h') :
  cP CS jR [.agg [xW,.I sl],.I v] h Q:=by
 refine CG ?_;refine tR a (by simp[ a.one j b];rfl) λr s lb f s1 g=>?_;rw[fK]
 let⟨c,d⟩:=f.xC yf [.I 0,.I 0]
 obtain⟨l,o,p1,p2⟩:=c.BY (j+1) (by simpa using b) (x:=hO of v) (by unfold hO;rw[IY,hZ hv];rfl) .i64;refine ec pf (oF ((g.since d).ld rfl) (ec p1 (ec p2 ?_)));refine UA (by unfold lC at hp;omega) (by unfold lC at hp;omega) c λi t k m=>?_
 let⟨p,q,_,e,s4⟩:=m.Tw 0 (n:=2) (ws:=KW (lg (hO of v))) rfl rfl rfl rfl
 rw[q,eh];exact ec (e.tj 0 rfl rfl) (H i p (((s1.trans d).trans k).trans s4) e.tail)
theorem YV(u:ej F h ds){i j:Nat}(hi:ds[i]? =some (eD e.le zho (emC e w)))(x:ds[j]? =some (ft eZ fN e.of e.xW)){xs:List Nat}{c:V}(r:hD eN F h xs c)(I:xs.length<1000)
  (hv:∀v∈xs,v<e.of.length/\lC (hO e.of v)) {d y:Nat} (z:Cl F h d y [.ptr e.le 0]) (H:∀F' h' w',Sn F h F' h'->ej F' h' ds->hD S9 F' h' (xs.map λv=>lg (hO e.of v)) w'->Q w' h') :
  cP CS nj [c,.ptr d 0] h Q:=by
 refine GS ?_;refine ec r.len ?_
 let J:Nat->LP:=λk l h'=>∃F' n w',l=[.ptr d 0,w',c,.I xs.length,.I (n:Nat)]/\n+k=xs.length/\Sn F h F' h'/\ej F' h' (ft S9 yf ((xs.take n).map λv=>lg (hO e.of v)) w'::ds)
 refine Dd J (λk K x4 L M N s f=>?_) (k:=xs.length) ?_;rotate_left
 ·exact⟨F,0,.ed,rfl,by omega,.refl _ _,u.add .nil λ_ h=>h⟩
 obtain⟨O,n,_,⟨⟩,P,s1,b⟩:=f;unfold uZ;by_cases G6:n<xs.length
 ·have A:=hZ G6;have g:=Ho G6;have a:=hv _ (AL G6);generalize xs[n]=v at*
  let⟨l,o,_,p1,p2⟩:=(r.since s1).nat A .i64
  have m:fZ 2 (.ptr e.le (0+0)) s=some (.agg [e.xW,.I e.fF]):=(zy (b.get (i+1) (by simpa using hi))).trans rfl;refine gy (ec p1 (ec p2 (ec ((z.since s1).ld rfl) (ec (eC _ _) (ec pf (ec m ?_))))));refine Vm b (j:=j+1) (by simpa using x) a.1 a.2 λB t p q=>?_;rw[show iO yf 2 1 (.agg [.I 0,.I 0]) [(0,.agg (KW (lg (hO e.of v))))]=some (.cells yf 2 true false (KW (lg (hO e.of v))),λl=> .slice l 0 1) from rfl,fK];obtain⟨C,R,D,_,E,G⟩:=q.pT 0 rfl (iU:=16) rfl (by decide) (by decide) (by simp;omega);rw[show fg yf 2 16 x4 (.slice t.next 0 1) (t.new (.cells yf 2 true false (KW (lg (hO e.of v)))))=_ from D,eh];refine fG ⟨k-1,by omega,?_⟩;exact⟨B,n+1,C,rfl,by omega,(s1.trans p).trans G,by rw[g,SL];exact E⟩
 ·refine iA ?_;obtain rfl:n=xs.length:=by omega
  rw[PG]at b
  let⟨q,p,r2⟩:=b.hY 0 rfl
  exact H _ s x4 (s1.trans p) q.tail r2
theorem zec{a b:V}{m n:Int}(c:a.one=true)(d:b.one=true):fq [V.I 0,V.I 0,V.ed,V.ed] fd [(0,V.I m),(1,V.I n),(2,a),(3,b)]=some (.agg [.I m,.I n,a,b]):=by
 unfold fq;simp[yd,tD c,tD d];rfl
structure TO (e:Ge):Prop where
 g:Good e.u
 p:KZ e.u e.of
 l:e.of.length=e.u.ee.length
 nd:∀p t,(km (mN e.u e.of p t)).Nodup
theorem TO.v(k:TO e){v:Nat}(hv:v<e.u.ee.length):v<e.of.length/\lC (hO e.of v):=⟨by rw[k.l];exact hv,k.p.pos hv⟩
theorem Ts(k:TO e)(E:Gm F h cs e s w)(hl:s.ex.length<200000){st:Nat}{fs:List Fm}(d:e.u.eE[st]? =some fs){vl:Int}(H:∀F' h' w',Sn F h F' h'->Gm F' h' cs e {s with ex:=s.ex++[Ss e.u e.of st vl]} w'->Q (.I s.ex.length) h') :
  cP CS mm [.ptr e.le 0,.I st,.I vl] h Q:=by
 refine Kk ?_;show gU (kZ _ (.agg [.ptr e.le 0])) h _;refine tR E.H rfl λY h1 Z H1 s1 c1=>?_;refine ec rfl ?_;refine jX H1 rfl rfl rfl λh2 H2 O=>?_;generalize h1.next=lx at*;have D:=s1.trans O;have u2:=E.u.since D
 let⟨l1,o1,f,_,x1,_,x3,xf⟩:=u2.st d
 refine ec ((c1.since O).ld rfl) (ec (eC _ _) (ec pf (oF (H2.ld 1 rfl rfl) (ec x1 (oF x3 (ec xf.len ?_))))))
 let J:Nat->LP:=λk l h'=>∃F' i b,l=[.ptr Z 0,.ptr lx 0,.func nj [] [.ptr Z 0],f,.I fs.length,.I (i:Nat)]/\i+k=fs.length/\Sn Y h2 F' h'/\
   ej F' h' (ft eFr X7 ((fs.take i).map (frC e.of)) b::eD lx De [b,.I st,.I vl]::emP e s w cs)
 refine Gn J (λkk aa x7 x8 ab ac ad M P=>?_) (k:=fs.length) ?_;rotate_left
 ·exact⟨Y,0,.ed,rfl,by omega,.refl _ _,H2.add .nil λ_ h=>h⟩
 obtain⟨F3,i,b,⟨⟩,hk,N,R⟩:=P;unfold xF
 let⟨j,hj⟩:=E.p
 have S:=xf.since N;have T:=(c1.since O).since N;have G:=Jp k.g d;by_cases G6:i<fs.length
 ·have hx:=hZ G6;have U:=Ho G6;have r:=AL G6;generalize fs[i]=x at*
  let⟨_,_,hf⟩:=k.g.st st fs d
  let⟨hl40,hs60,_⟩:=hf x r
  let⟨l4,o4,xa,xb,_,y1,y2,ya,yb⟩:=S.qJ hx
  refine gy (ec y1 (ec y2 ?_));refine ud R rfl rfl (by simp only[fmC,fe,ya.one,yb.one];rfl) λF4 h4 lf c s4 a=>?_;have W:ez (.ptr lx (0+0)) h4=some b:=c.ld 1 rfl rfl;refine oF W (oF (a.ld rfl) (oF (a.ld rfl) (oF (a.ld rfl) (oF (a.ld rfl) ?_))));have I:(ft eFr X7 ((fs.take i).map (frC e.of)) b::eD lx De [b,.I st,.I vl]::emP e s w cs)[j+7]? =some (ft eZ fN e.of e.xW):=by simpa[emP]using hj
  simp only[Lr,JK];refine YV c (i:=2) rfl I (ya.since s4) (by omega) (λv hv=>k.v (G v (Sg.2 ⟨x,r,Zu _ hv⟩))) (T.since s4) λF5 h5 K q L ra=>?_;have t:=a.since q;refine⟨q.next,t.ld rfl,t.ld rfl,t.ld rfl,L.ld 1 rfl rfl,?_⟩;simp only[ RL];refine YV L (i:=2) rfl I ((yb.since s4).since q) (by omega) (λv hv=>k.v (G v (Sg.2 ⟨x,r,wBL _ hv⟩))) ((T.since s4).since q) λF6 B wb z m X=>?_;have C:=t.since z;have A:=ra.since z;refine⟨z.next,ec (zec A.one X.one) ?_⟩;have o4:gi [V.I x.func,.I x.pc,K,wb]=true:=by simp only[fe,A.one,X.one];rfl
  rw[show iO X7 4 1 (.agg [.I 0,.I 0,.ed,.ed]) [(0,.agg [.I x.func,.I x.pc,K,wb])]=_ from Ce rfl rfl o4,gI]
  let⟨w7,h7,e7,n7,H7,s7⟩:=m.pT 0 rfl (iU:=64) (MB:=X7) (ro:=false) (y:=frC e.of x) ⟨K,wb,rfl,A,X⟩ (by decide) (by decide) (by have:=(k.g.st st fs d).2.1;simp;omega)
  refine⟨⟨fh _ _,bq⟩,gz (C.ld rfl) (fi _ (m.fl _ C.f)),gz (C.ld rfl) (fi _ (m.fl _ C.f)),gz (m.ld 1 rfl rfl) (fi _ (CY m 1 rfl)),?_⟩;rw[show fg X7 4 64 b (.slice B.next 0 1) (B.new (.cells X7 4 true false [.I x.func,.I x.pc,K,wb]))=_ from e7,eh];refine⟨by have:(B.new (.cells X7 4 true false [.I x.func,.I x.pc,K,wb])).next=B.next+1:=rfl;omega,ec pf ?_⟩
  let⟨h8,e8,n8,H8,s8⟩:=H7.st 1 (o:=0+0) rfl (by simp) (H7.one 0 rfl)
  rw[e8,eh];refine⟨n8,fG ⟨kk-1,by omega,?_⟩⟩;exact⟨F6,i+1,w7,rfl,by omega,((((N.trans s4).trans q).trans z).trans s7).trans s8,by rw[U,SL];exact H8⟩
 ·refine iA ?_;obtain rfl:i=fs.length:=by omega
  rw[PG]at R
  let⟨c,s4,r4⟩:=R.hY 0 rfl
  have a:=T.since s4;refine ec (a.ld rfl) (ec (a.ld rfl) (oN (c.ld 2 rfl rfl) (ec (c.tj 1 rfl rfl) ?_)));have o3:gi [b,V.I st,.I vl]=true:=by simp only[fe,r4.one];rfl
  rw[show iO De 3 1 (.agg [.ed,.I 0,.I 0]) [(0,.agg [b,.I st,.I vl])]=_ from Ce rfl rfl o3,gI];have er:Ss e.u e.of st vl=⟨fs.map (frC e.of),(st:Nat),vl⟩:=by unfold Ss;rw[d]
  obtain⟨w5,h5,e5,n5,L,q⟩:=c.pT 6 rfl (iU:=40) (MB:=De) (ro:=false) (y:=Ss e.u e.of st vl) (by rw[er];exact⟨b,rfl,r4⟩) (by decide) (by decide) (by omega);refine⟨⟨fh _ _,bq⟩,Jh (c.tj 1 rfl rfl) (fi _ (CY c 1 rfl)),gz (c.ld 2 rfl rfl) (fi _ (CY c 2 rfl)),gz (a.ld rfl) (fi _ (c.fl _ a.f)),gz (a.ld rfl) (fi _ (c.fl _ a.f)),?_⟩;rw[show fg De 3 40 w.e (.slice M.next 0 1) (M.new (.cells De 3 true false [b,.I st,.I vl]))=_ from e5,eh];have t:=a.since q;refine⟨by have:(M.new (.cells De 3 true false [b,.I st,.I vl])).next=M.next+1:=rfl;omega,ec (eC _ _) (ec pf ⟨t.ld rfl,?_⟩)⟩
  let⟨B,e6,n6,m,z⟩:=L.st 2 (o:=0+10) rfl (by simp[emC]) (L.one 6 rfl)
  rw[e6,eh];have C:=t.since z;refine⟨n6,ec (C.ld rfl) (oN (m.ld 2 rfl rfl) (ec (m.len 6 rfl) ?_))⟩;rw[jx,gQ,gG (by simp[ml,qu,YX];omega),show(((s.ex++[Ss e.u e.of st vl]).length:Nat):Int)-1=(s.ex.length:Nat) by simp];have sn:=((((D.trans N).trans s4).trans q).trans z)
  refine H _ B {w with e:=w5} sn ⟨m.tail.tail,E.u.since sn,E.p,?_⟩;have:=E.n;simp[qu,YX];omega
theorem zfd{op:Nat}(a:3<=op)(b:op<=18)(H:Q (.I ((op+2:Nat):Int)) h):cP CS JH [.I op] h Q:=by
 refine zaw ?_;refine fx ?_;split
 ·rename_i e;obtain rfl:op=17:=by omega
  exact H
 refine fx ?_;split
 ·rename_i e;obtain rfl:op=18:=by omega
  exact H
 rw[jf,gQ,gG (by simp[ml];omega),jx,gG (by simp[ml];omega),show(5+(op:Int)-3)=((op+2:Nat):Int) by omega];exact H
theorem iY{c A B:Prop}[Decidable c] (a:c->A)(b:¬c->B):if c then A else B:=by simp_all
theorem zb7(k:TO e)(E:Gm F h cs e s w)(hl:s.l.length<190000)(he:s.ex.length<190000){v:Nat}{x:Vl}(K:e.u.ee[v]? =some x)(H:∀F' h' w',Sn F h F' h'->Gm F' h' cs e {s with l:=s.l++pt e.of v x s.ex.length,ex:=s.ex++EG e.u e.of v x} w'->Q (.tuple []) h') :
  cP CS rV [.ptr e.le 0,.I v] h Q:=by
 refine Iy ?_
 let⟨l1,o1,wa,_,i1,i2,ra,_⟩:=E.u.val K
 refine ec (eC _ _) (ec pf (oF (E.ld 4 rfl) (ec i1 (ec i2 ?_))));refine ud E.H rfl rfl (by simp only[yM,fe,ra.one];rfl) λF2 T l H2 W c2=>?_;have J:=E.since W H2;have Y:=(ke.1 K).1;have pv:=k.v Y;have use:=k.g.use v x K;have pa:=λy hy=>k.v (iy (use y hy));have ab:=k.g.op v x K;have z:∀L X,pt e.of v x s.ex.length=L->EG e.u e.of v x=X->∀F' h' w',Sn F2 T F' h'->Gm F' h' cs e {s with l:=s.l++L,ex:=s.ex++X} w'->Q (.tuple []) h':=by
  rintro _ _ rfl rfl F' h' w' s' E';exact H F' h' w' (W.trans s') E'
 have c:∀p sp,(ki p sp).length<=1:=by grind[ki]
 refine oF (c2.ld rfl) ?_;have Z:¬(x.op=22\/x.op=23)->EG e.u e.of v x=[]:=by simp_all[EG,if_neg]
 have r3:∀b,(b=true↔x.op=1\/x.op=21)->lT Q [.ptr e.le 0,.I v,.ptr l 0,.I x.op,.bool b] T:=λb V=>by
  refine Er ?_;unfold vV;refine fX ?_;split
  ·rename_i e1;have e1:=V.1 e1;have hk:=z [] [] (by simp_all[pt,if_pos]) (by grind) F2 T w (.refl _ _)
   simp_all
  rename_i A;have A:¬(x.op=1\/x.op=21):=by simp_all
  refine fx ?_;split
  ·rename_i e1;have e1:x.op=2:=by omega
   refine oF (c2.ld rfl) (ec rfl ?_);refine WY J (by omega) pv.1 pv.2 ⟨1,0,0,0,x.n⟩ λM N O d r=>z _ [] (by unfold pt;rw[if_neg A,if_pos e1]) (by simp_all) M N O d ?_
   simp_all
  rename_i n2;refine fx ?_;split
  ·rename_i e1;have e1:x.op=19:=by omega
   have i:jn x=[x.a,x.b]:=by unfold jn two;simp[e1]
   have f:=pa x.a (by simp[i]);have B:=pa x.b (by simp[i]);refine oF (c2.ld rfl) (Dj J (by omega) f.1 f.2 12 λM N O d r=>?_);have j:=c2.since d;refine oF (j.ld rfl) (oF (j.ld rfl) ?_);refine Dj r (by grind) B.1 B.2 13 λP R S s4 m=>⟨s4.next,ec rfl ⟨(j.since s4).ld rfl,?_⟩⟩
   refine zP m (by grind) ⟨21,lB (hO e.of x.a) 12,lB (hO e.of x.b) 13,0,x.n⟩ λC D G o t=>⟨o.next,z _ [] (by unfold pt;rw[if_neg A,if_neg (by omega),if_pos e1]) (by simp_all) C D G ((d.trans s4).trans o) ?_⟩
   simp_all
  rename_i n3;refine fx ?_;split
  ·rename_i e1;have e1:x.op=20:=by omega
   have aa:=k.g.putAt v x K e1;have i:jn x=[x.a,x.b,x.args.getD 0 0]:=by
    unfold jn;rw[if_neg (by omega),if_pos e1]
    match h:x.args,aa with
    |[w],_=>rfl
   have f:=pa x.a (by simp[i]);have B:=pa x.b (by simp[i]);have qc:=pa (x.args.getD 0 0) (by rw[i];simp);have a1:=c (hO e.of x.a) 12;have a2:=c (hO e.of x.b) 13;have a3:=c (hO e.of (x.args.getD 0 0)) 14;refine oF (c2.ld rfl) (Dj J (by omega) f.1 f.2 12 λM N O d r=>?_);have j:=c2.since d;refine oF (j.ld rfl) (Dj r (by simp[qu];omega) B.1 B.2 13 λP R S s4 m=>?_);have c4:=j.since s4;have hg:x.args[0]? =some (x.args.getD 0 0):=by rw[IY,hZ (by omega)];rfl
   let⟨l2,o2,_,p1,p2⟩:=(((ra.since W).since d).since s4).nat hg .i64
   refine oF (c4.ld rfl) (ec p1 (ec p2 ?_));refine Dj m (by simp[qu];omega) qc.1 qc.2 14 λC D G o t=>ec rfl ?_;refine zP t (by simp only[qu];omega) ⟨22,lB (hO e.of x.a) 12,lB (hO e.of x.b) 13,lB (hO e.of (x.args.getD 0 0)) 14,0⟩ λF6 h6 w6 s6 E6=>z _ [] (by unfold pt;rw[if_neg A,if_neg (by omega),if_neg (by omega),if_pos e1]) (Z (by omega)) F6 h6 w6 (((d.trans s4).trans o).trans s6) ?_;simp[Cy,Ku]at E6⊢;exact E6
  rename_i n4;have I:x.op=22\/x.op=23->∃fs,e.u.eE[x.state]? =some fs:=λh=>⟨_,hZ (k.g.leave v x K (by unfold leaves;rcases h with h|h <;> simp[h]))⟩
  refine fx ?_;split
  ·rename_i e1;have e1:x.op=22:=by omega
   have i:jn x=[x.a]:=by unfold jn two uk;simp[e1]
   have f:=pa x.a (by simp[i]);have a1:=c (hO e.of x.a) 12
   let⟨fs,hfs⟩:=I (.inl e1)
   refine oF (c2.ld rfl) (Dj J (by omega) f.1 f.2 12 λM N O d r=>?_);have j:=c2.since d;refine oF (j.ld rfl) ?_;refine Ts k r (by show s.ex.length<_;omega) hfs λP R S s4 m=>ec rfl ?_;refine zP m (by simp[qu];omega) ⟨25,lB (hO e.of x.a) 12,0,0,(s.ex.length:Nat)⟩ λC D G o t=>z _ _ (by unfold pt;rw[if_neg A,if_neg (by omega),if_neg (by omega),if_neg (by omega),if_pos e1]) (by unfold EG;rw[if_pos (.inl e1)]) C D G ((d.trans s4).trans o) ?_;simp[Cy]at t⊢;exact t
  rename_i n5;refine fx ?_;split
  ·rename_i e1;have e1:x.op=23:=by omega
   let⟨fs,hfs⟩:=I (.inr e1)
   refine oF (c2.ld rfl) ?_;refine Ts k J (by omega) hfs λP R S s4 m=>ec rfl ?_;exact zP m (by show s.l.length<_;omega) ⟨26,0,0,0,(s.ex.length:Nat)⟩ λC D G o t=>z _ _ (by unfold pt;rw[if_neg A,if_neg (by omega),if_neg (by omega),if_neg (by omega),if_neg (by omega),if_pos e1]) (by unfold EG;rw[if_pos (.inr e1)]) C D G (s4.trans o) t
  rename_i n6;have q:∀b,(b=true↔x.op=8\/x.op=9\/x.op=15\/x.op=16\/x.op=17)->iC Q [.ptr e.le 0,.I v,.ptr l 0,.bool b] T:=λb V=>by
   refine Dh ?_;unfold uR;refine fX ?_;split
   ·rename_i e1;have e1:=V.1 e1;have i:jn x=[x.a]:=by unfold jn two uk;rcases e1 with e|e|e|e|e <;> simp[e]
    have f:=pa x.a (by simp[i]);have a1:=c (hO e.of x.a) 12;have U:∀n,n=(if x.op=17 then x.n else 0)->lJ Q [.ptr e.le 0,.I v,.ptr l 0,.I n] T:=λn hn=>by
     refine DL ?_;unfold u9;refine oF (c2.ld rfl) (oF (c2.ld rfl) ?_);refine zfd (by omega) (by omega) ⟨jJ _,c2.ld rfl,?_⟩;refine Dj J (by omega) f.1 f.2 12 λM N O d r=>⟨d.next,ec rfl ?_⟩
     refine WY r (by simp[qu];omega) pv.1 pv.2 ⟨x.op+2,0,lB (hO e.of x.a) 12,0,n⟩ λP R S s4 m=>⟨s4.next,z _ [] (by unfold pt;rw[if_neg A,if_neg (by omega),if_neg (by omega),if_neg (by omega),if_neg (by omega),if_neg (by omega),if_pos e1,<-hn]) (Z (by omega)) P R S (d.trans s4) ?_⟩
     simp[Cy,Ku]at m⊢;exact m
    refine oF (c2.ld rfl) (oF (c2.ld rfl) (xh ?_));split
    ·rename_i e2;exact U _ (by rw[if_pos (by omega)])
    ·rename_i e2;exact U 0 (by rw[if_neg (by omega)])
   ·rename_i e1;have e1:¬(x.op=8\/x.op=9\/x.op=15\/x.op=16\/x.op=17):=λh=>e1 (V.2 h);have ht:two x.op=true:=by
     unfold two;simp[JD,yF,yU,Ey];omega
    have i:jn x=[x.a,x.b]:=by unfold jn;rw[if_neg (by omega),if_neg (by omega),if_pos ht]
    have f:=pa x.a (by simp[i]);have B:=pa x.b (by simp[i]);have a1:=c (hO e.of x.a) 12;have a2:=c (hO e.of x.b) 13;refine oF (c2.ld rfl) (Dj J (by omega) f.1 f.2 12 λM N O d r=>?_);have j:=c2.since d;refine oF (j.ld rfl) (oF (j.ld rfl) ?_);refine zfd (by omega) (by omega) ⟨jJ _,j.ld rfl,?_⟩;refine Dj r (by simp[qu];omega) B.1 B.2 13 λP R S s4 m=>⟨s4.next,ec rfl ?_⟩
    refine WY m (by simp[qu];omega) pv.1 pv.2 ⟨x.op+2,0,lB (hO e.of x.a) 12,lB (hO e.of x.b) 13,0⟩ λC D G o t=>⟨o.next,z _ [] (by unfold pt;rw[if_neg A,if_neg (by omega),if_neg (by omega),if_neg (by omega),if_neg (by omega),if_neg (by omega),if_neg e1]) (Z (by omega)) C D G ((d.trans s4).trans o) ?_⟩
    simp[Cy,Ku]at t⊢;exact t
  refine fM (fX (iY (λe=>q _ ?_) λe=>?_))
  ·simp at e;simp;omega
  refine fM (fX (iY (λe=>q _ ?_) λe=>?_))
  ·simp at e;simp;omega
  refine fM (fX (iY (λe=>q _ ?_) λe=>?_))
  ·simp at e;simp;omega
  refine fM (fX (iY (λe=>q _ ?_) λe=>?_))
  ·simp at e;simp;omega
  refine fM (q _ ?_);simp at*;omega
 refine fM (fX (iY (λe=>r3 _ ?_) λe=>fM (r3 _ ?_)))
 ·simp at e⊢;omega
 ·simp at e⊢;omega
