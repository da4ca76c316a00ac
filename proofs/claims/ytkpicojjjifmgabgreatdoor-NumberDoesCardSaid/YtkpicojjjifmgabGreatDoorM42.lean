/- Parts. -/
import Derived.Test.YtkpicojjjifmgabGreatDoorM41
set_option maxHeartbeats 4000000
namespace Go.Proofs.YtkpicojjjifmgabGreatDoor.Hx
open Un Dm
def UH(u:U)(locals:List Int)(gY:Int)(fuel Gj b:Nat)(B:Bk):Ex ⊕ Rs->Ex
 | .inl e=>e
 | .inr s=>if fuel<=s.steps then .AX else if B.fin=3 then yU u {s with steps:=s.steps+1} B.state else match FE B s with
   |none=> .stuck
   |some t=>runM u locals gY fuel Gj (some b) t {s with steps:=s.steps+1}
theorem zbq{u:U}{locals:List Int}{gY:Int}{fuel Gj b:Nat}{pG:Option Nat}{s:Rs}{B:Bk}(a:u.blocks[b]? =some B) :
  runM u locals gY fuel (Gj+1) pG b s=UH u locals gY fuel Gj b B (qy u gY fuel (B.ej.dropWhile (gM u)) (ou u locals pG B s)):=by
 unfold runM;simp only[a];cases qy u gY fuel (B.ej.dropWhile (gM u)) (ou u locals pG B s) <;> rfl
theorem zbV{p:Nat->Bool}:∀(l:List Nat)(i:Nat),i<=l.length->(∀(m v:Nat),m<i->l[m]? =some v->p v=true)->(∀v,l[i]? =some v->p v=false)->l.takeWhile p=l.take i/\l.dropWhile p=l.drop i
 |[],i,h,_,_=>by simp
 | a::l,0,_,_,h=>by
   have:=h a rfl
   simp[this]
 | a::l,i+1,hl,b,d=>by
   have c:=b 0 a (by omega) rfl;obtain⟨e,f⟩:=zbV l i (by simpa using hl) (λm v g hv=>b (m+1) v (by omega) (by simpa using hv)) λv hv=>d v (by simpa using hv);rw[List.takeWhile_cons,List.dropWhile_cons,if_pos c,if_pos c,e,f];exact⟨rfl,rfl⟩
def LV:Option Nat->Int
 |none=>-1
 |some p=>(p:Int)
section
variable{F F':Nat->Prop}{h h':Hp}{cs ds:List Pc}{Q:fD}{u:U}{vv vb vs oQ rZ rm oh bv bn bp:V}{ej hp locals:List Int}{lu lr lh lb Th:Nat}{fU:LP}{gY:Int}{fuel steps polls b:Nat}{pG:Option Nat}{B:Bk}
abbrev Rn(ej:List Int) (oQ:V) (lr lu:Nat) (u:U) (vv vb vs:V) (lh Th:Nat) (rm oh:V) (hp:List Int) (ds:List Pc):List Pc:=
 fg (eI .u64) AI ej oQ::eQ lr 82 [.I 0,.I 0,.I 0,.ei,.I 0]::eQ lu 30 (uC u vv vb vs)::eQ lh Th [rm,oh]::fg (eI .u64) AI hp oh::ds
abbrev Ws(u:U)(locals:List Int)(pG:Option Nat)(B:Bk)(ej:List Int)(v:Nat):Int:=M8 u locals pG B (Ec ej) v
def zak(pG:Option Nat)(B:Bk)(x:Vl)(ej:List Int):Int:=match pG with
 | some p=>match B.fi.findIdx? (·== p)with
   |some j=>Ec ej (x.args.getD j 0)
   |none=>0
 |none=>0
theorem zdy{v:Nat}{x:Vl}(hx:u.ej[v]? =some x):Ws u locals pG B ej v=if x.op=1 then locals.getD x.n.toNat 0 else zak pG B x ej:=by
 show M8 u locals pG B (Ec ej) v=_;unfold M8 zak;simp only[hx];cases pG <;> rfl
theorem zeJ(g:Good u)(H0:eo F h (eQ lb 45 (km B bv bn bp)::Rn ej oQ lr lu u vv vb vs lh Th rm oh hp ds))(hu:wW F h u vv vb vs)(A:im (eI .u64) F h locals rZ)(X:ej.length=u.ej.length)(M:u.blocks[b]? =some B)(iv:im eN F h B.ej bv)(ip:im eN F h B.fi bp)(ll:locals.length<1000000000)
  (K:∀h' DV,Sn F h F h'->eo F h' (fg (eI .u64) AI ((B.ej.takeWhile (gM u)).map (Ws u locals pG B ej)) DV::eQ lb 45 (km B bv bn bp)::Rn ej oQ lr lu u vv vb vs lh Th rm oh hp ds)->
   jD CS Q fU [.ptr lh 0,rZ,.I gY,.I fuel,.ptr lu 0,.ptr lr 0,oQ,.I steps,.I polls,.I b,.ptr lb 0,DV,.I ((B.ej.takeWhile (gM u)).length:Nat)] h') :
  pJ CS Q fU [.ptr lh 0,rZ,.I gY,.I fuel,.ptr lu 0,.ptr lr 0,oQ,.I steps,.I polls,.I b,.I (LV pG),.ptr lb 0,.ei,.I 0] h:=by
 have nv:=g.nv;have ak:B.ej.length<=u.ej.length:=jM _ B.ej (yX g M) λv hv=>by
  obtain⟨k,hk⟩:=oY.1 hv;exact g.ko v b k ⟨B,M,hk⟩
 obtain ⟨J,Y⟩:∃J:Nat->LP,J=λk l h'=>∃(i:Nat) (DV:V),l=[.ptr lh 0,rZ,.I gY,.I fuel,.ptr lu 0,.ptr lr 0,oQ,.I steps,.I polls,.I b,.I (LV pG),.ptr lb 0,DV,.I i]/\i+k=B.ej.length/\Sn F h F h'/\
   (∀(m v:Nat),m<i->B.ej[m]? =some v->gM u v=true)/\eo F h' (fg (eI .u64) AI ((B.ej.take i).map (Ws u locals pG B ej)) DV::eQ lb 45 (km B bv bn bp)::Rn ej oQ lr lu u vv vb vs lh Th rm oh hp ds):=⟨_,rfl⟩
 refine Ep J (λk x1 x2 x3 x4 x5 al am an ao ap aq ar DV au N hi=>?_) (k:=B.ej.length) ?_;rotate_left
 ·rw[Y];exact⟨0,.ei,rfl,by omega,Sn.refl _ _,λm v h=>by omega,H0.add (p:=fg (eI .u64) AI [] .ei) .nil λ_ h=>h⟩
 clear H0;rw[Y]at hi;obtain⟨i,_,⟨⟩,hk,D,hh,C⟩:=hi;unfold wM;have O:=iv.since D;have u1:=hu.since D;have fin:∀{P},Sn F N F P->(∀v,B.ej[i]? =some v->gM u v=false)->eo F P (fg (eI .u64) AI ((B.ej.take i).map (Ws u locals pG B ej)) DV::eQ lb 45 (km B bv bn bp)::Rn ej oQ lr lu u vv vb vs lh Th rm oh hp ds)->jD CS Q fU [.ptr lh 0,rZ,.I gY,.I fuel,.ptr lu 0,.ptr lr 0,oQ,.I steps,.I polls,.I b,.ptr lb 0,DV,.I i] P:=λ{P} Z R H2=>by
  have e:=(zbV (p:=gM u) B.ej i (by omega) hh R).1;have K2:=K P DV (D.trans Z) (by rw[e];exact H2);rw[e,Mq,wBl (by omega)]at K2;exact K2
 have c0:fe (.ptr lb (0+0)) N=some bv:=C.ld 1 rfl rfl;have c2:fe (.ptr lu (0+2)) N=some vv:=C.ld 4 rfl rfl;refine oF c0 (eh O.len ?_);by_cases hi:i<B.ej.length;rotate_left
 ·exact iQ (fin (Sn.refl _ _) (λv hv=>by rw[OE (by omega)]at hv;cases hv) C)
 refine gK ?_;have hv:=iy hi;have aa:=MU hi;generalize B.ej[i]=v at*;have S:At u v b i:=⟨B,M,hv⟩
 have ab:=g.ko v b i S;have hx:=iy ab;generalize u.ej[v]=x at*;obtain⟨l1,o1,ac,p1,p2⟩:=O.nat hv .i64;obtain⟨l2,o2,xa,ae,q1,q2,xr,_⟩:=u1.val hx;refine oF c2 (oF c0 (eh p1 (eh p2 (eh q1 (eh q2 ?_)))));rw[hX];obtain⟨H2,Z⟩:=C.Aw 34 [.I 0,.I 0,.I 0,.I 0,.ei,.I 0];refine⟨⟨fq _ _,bq⟩,HX q2 (fk _ (C.fl _ ae)),iA p2 (fk _ (C.fl _ ac)),iA c0 (fk _ (Pc.DQ C 1 rfl)),iA c2 (fk _ (Pc.DQ C 4 rfl)),?_⟩;obtain⟨h3,e3,n3,f,s3⟩:=H2.U1 0 (n:=6) (ws:=mF x xa) rfl rfl rfl (by simp only[mF,eJ,xr.one];rfl);rw[e3,en];simp only[ji]at f;generalize N.next=lc at*;refine⟨n3,oF (f.ld 0 rfl rfl) (gy ?_)⟩;have c:=Z.trans s3;have s:=zdy (locals:=locals) (pG:=pG) (B:=B) (ej:=ej) hx
 have t:∀{E w},Sn F N F E->gM u v=true->uO .u64 w->w=Ws u locals pG B ej v->eo F E (eQ lc 34 (mF x xa)::fg (eI .u64) AI ((B.ej.take i).map (Ws u locals pG B ej)) DV::eQ lb 45 (km B bv bn bp)::Rn ej oQ lr lu u vv vb vs lh Th rm oh hp ds)->
   jr CS Q fU (Ey J k) [.ptr lh 0,rZ,.I gY,.I fuel,.ptr lu 0,.ptr lr 0,oQ,.I steps,.I polls,.I b,.I (LV pG),.ptr lb 0,DV,.I i,.int .u64 w] E:=λ{E w} s4 d hw he H4=>by
  refine C9 ?_;unfold uN;rw[Bp,fE];obtain⟨G,h5,e5,_,H5,s5⟩:=H4.rU 1 rfl (jP:=8) (zL:=89) (y:=w) (w:=[.int .u64 w]) (ro:=false) ⟨rfl,hw⟩ (by decide) (by decide) (by simp;omega);rw[show fh 89 1 8 DV (.slice E.next 0 1) (E.new (.cells 89 1 true false [.int .u64 w]))=_ from e5,en];simp only[ji,lO]at H5;refine fL ⟨k-1,by omega,?_⟩;rw[Y];refine⟨i+1,G,rfl,by omega,(D.trans s4).trans s5,λm v' L r=>?_,?_⟩
  ·by_cases e:m=i
   ·subst e;rw[hv]at r;cases r;exact d
   ·exact hh m v' (by omega) r
  ·rw[aa,Lj,List.map_singleton,<-he];exact H5.tail
 have H:gM u v=iO x.op:=by unfold gM;simp only[hx]
 by_cases T:x.op=1
 ·obtain⟨n0,aw,_⟩:=g.param v x hx T;have d:gM u v=true:=by rw[H,T];rfl
  rw[if_pos T]at s;obtain⟨n,R⟩:=wBG n0;rw[R]at s;have s:Ws u locals pG B ej v=locals.getD n 0:=s;refine gz (by omega) (oF (show _=some (.I (n:Int)) by rw[f.ld (o:=0+3) 0 rfl rfl,R]) (eh (A.since (D.trans c)).len (YQ ?_)));by_cases cl:n<locals.length
  ·have U:=iy cl;obtain⟨l5,o5,_,r1,r2,r3⟩:=(A.since (D.trans c)).word U .i64;refine gz (by omega) (oF (show _=some (.I (n:Int)) by rw[f.ld (o:=0+3) 0 rfl rfl,R]) (eh r1 (eh r2 (t c d r3 ?_ f))));rw[s,Je,U];rfl
  ·refine gh (by omega) (t c d AA ?_ f);rw[s,Je,OE (by omega)];rfl
 refine gh (by omega) (oF (f.ld 0 rfl rfl) (gy ?_));rw[if_neg T]at s;by_cases z:x.op=21;rotate_left
 ·exact gh (by omega) (fin c (λv' r=>by rw[hv]at r;cases r;rw[H];unfold iO;rw[Bool.or_eq_false_iff,Wc,Wc];exact⟨T,z⟩) f.tail)
 have d:gM u v=true:=by rw[H,z];rfl
 refine gz (by omega) ?_;obtain⟨_,ax⟩:=g.KN v b i x B S hx z M;have ay:=AU g M;have W:=ip.since (D.trans c);have ag:=xr.since c;refine Em (λk4 l h'=>∃j:Nat,l=[.ptr lh 0,rZ,.I gY,.I fuel,.ptr lu 0,.ptr lr 0,oQ,.I steps,.I polls,.I b,.I (LV pG),.ptr lb 0,DV,.I i,.ptr lc 0,.int .u64 0,.I (j:Nat)]/\j+k4=B.fi.length/\h' = h3/\∀m:Nat,m<j->∀p,B.fi[m]? =some p->(p:Int)≠LV pG) ?_ (k:=B.fi.length) ⟨0,rfl,by omega,rfl,λm h=>by omega⟩;rintro k4 _ _ _ _ _ _ _ _ _ _ _ _ _ _ _ _ _ E ⟨j,⟨⟩,aA,rfl,I⟩;unfold we;refine oF (f.ld 2 rfl rfl) (eh W.len ?_);by_cases hj:j<B.fi.length;rotate_left
 ·refine iQ (t c d AA ?_ f);rw[s]
  cases pG with
  |none=>rfl
  | some p=>
    have:B.fi.findIdx? (·== p)=none:=by
      rw[List.findIdx?_eq_none_iff];intro q hq;obtain⟨m,L⟩:=oY.1 hq;have:=I m (by have:=(ki.1 L).1;omega) q L;rw[Wc];exact λe=>this (by rw[e];rfl)
    simp only[zak,this]
 refine gK ?_;have hp:=iy hj;have aB:B.fi[j]=B.fi[j]:=rfl;generalize ah:B.fi[j]=p at hp;obtain⟨l5,o5,_,r1,r2⟩:=W.nat hp .i64;refine oF (f.ld 2 rfl rfl) (eh r1 (eh r2 (gy ?_)));by_cases cp:(p:Int)=LV pG;rotate_left
 ·refine gh cp (fL ⟨k4-1,by omega,j+1,rfl,by omega,rfl,λm L q hq=>?_⟩);by_cases e:m=j
  ·subst e;rw[hp]at hq;cases hq;exact cp
  ·exact I m (by omega) q hq
 have ha:=iy (l:=x.args) (i:=j) (by omega);have ai:=AY (l:=x.args) (n:=j) (by omega);have aj:x.args[j]<ej.length:=by
  rw[X];exact zK (g.use v x hx _ (by unfold hK;rw[if_pos z];exact ai))
 generalize x.args[j]=a at*;obtain⟨l6,o6,_,t1,t2⟩:=ag.nat ha .i64;obtain⟨l7,o7,y1,y2,y3,_⟩:=f.L5 3 rfl (Kv aj) .i64;refine gz cp (oF (f.ld 0 rfl rfl) (eh t1 (eh t2 (eh y1 (eh y2 (t c d y3 ?_ f))))));rw[s]
 cases pG with
 |none=>exact absurd cp (by simp only[LV];omega)
 | some p'=>
   have:B.fi.findIdx? (·== p')=some j:=by
     rw[List.findIdx?_eq_some_iff_getElem];refine⟨hj,?_,λm L=>?_⟩
     ·rw[ah,Cw];exact Int.ofNat.inj cp
     ·have:=I m L _ (iy (by omega))
      simp only[Bool.not_eq_true,Wc];exact λe=>this (by rw[e];rfl)
   simp only[zak,this];rw[Je,ha];rfl
end
open Un Dm
theorem Td(val:List Int)(l:List (Nat×Int))(p:Nat×Int):yS val (l++[p])=(yS val l).set p.1 p.2:=by
 unfold yS;rw[List.foldl_append];rfl
theorem Wq{u:U}{gY:Int}{n:Nat}{x:Vl}{s:Rs}(h:x.op≠19/\x.op≠20/\x.op≠22/\x.op≠23):ym u gY n x s = .inr {s with val:=s.val.set n (Au x s.of s.heap),steps:=s.steps+1}:=by
 unfold ym;rw[if_neg h.1,if_neg h.2.1,if_neg h.2.2.1,if_neg h.2.2.2]
theorem N8{u:U}{gY:Int}{fuel v:Nat}{l:List Nat}{s:Rs}{x:Vl}(a:¬fuel<=s.steps)(hx:u.ej[v]? =some x):qy u gY fuel (v::l) s=match ym u gY v x s with
  | .inl e=> .inl e
  | .inr s=>qy u gY fuel l s:=by
 conv=>lhs;unfold qy
 simp only[hx,if_neg a];cases ym u gY v x s <;> rfl
theorem Ug{u:U}{gY:Int}{fuel v:Nat}{l:List Nat} {s s':Rs}{x:Vl}(a:¬fuel<=s.steps)(hx:u.ej[v]? =some x)(h:ym u gY v x s = .inr s'):qy u gY fuel (v::l) s=qy u gY fuel l s':=by
 rw[N8 a hx,h]
theorem W2{u:U}{gY:Int}{fuel v:Nat}{l:List Nat}{s:Rs}{e:Ex}{x:Vl}(a:¬fuel<=s.steps)(hx:u.ej[v]? =some x)(h:ym u gY v x s = .inl e):qy u gY fuel (v::l) s = .inl e:=by
 rw[N8 a hx,h]
theorem RP{u:U}{gY:Int}{fuel v:Nat}{l:List Nat}{s:Rs}(a:fuel<=s.steps):qy u gY fuel (v::l) s = .inl .AX:=by
 rw[qy,if_pos a]
theorem PH{u:U}{s:Rs}{st:Nat}{fs:List Fm}(a:u.ev[st]? =some fs):yU u s st = .left s.steps (fs.map (Ry s.val)) s.heap:=by
 unfold yU;rw[a];rfl
section
variable{F F':Nat->Prop}{h h':Hp}{cs ds:List Pc}{Q:fD}{u:U}{vv vb vs oQ rZ rm oh bv bn bp DV:V}{ej hp locals:List Int}{lu lr lh lb Th:Nat}{fU:LP}{gY:Int}{fuel steps polls b:Nat}{pG:Option Nat}{B:Bk}
theorem TU{ws:List V}(d:eo F h (eQ lb 45 (km B bv bn bp)::Rn ej oQ lr lu u vv vb vs lh Th rm oh hp ds))(c:ws.length=5)(a:gw ws=true)(K:∀h',Sn F h F h'->eo F h' (eQ lh Th [rm,oh]::fg (eI .u64) AI hp oh::ds)->Q (.agg ws) h') :
  fm (gJ 5 (.ptr lr 0) (.agg ws) h) λ_ a=>oP (fW 5 (.ptr lr 0) a) λr=>Q r a:=by
 obtain⟨e,f,_,b,g⟩:=d.U1 2 (n:=5) (ws:=ws) rfl c rfl a;rw[f,en];simp only[ji,lO]at b;exact eh (b.pC 2 rfl c) (K e g b.tail.tail.tail.tail)
theorem zd3(g:Good u)(o:eo F h (fg (eI .u64) AI ((B.ej.takeWhile (gM u)).map (Ws u locals pG B ej)) DV::eQ lb 45 (km B bv bn bp)::Rn ej oQ lr lu u vv vb vs lh Th rm oh hp ds))(r:ej.length=u.ej.length)(e:u.blocks[b]? =some B)(s:im eN F h B.ej bv)(hs:steps<100000000)
  (K:∀h',Sn F h F h'->eo F h' (eQ lb 45 (km B bv bn bp)::Rn (yS ej ((B.ej.takeWhile (gM u)).map λv=>(v,Ws u locals pG B ej v))) oQ lr lu u vv vb vs lh Th rm oh hp ds)->
   mC CS Q fU [.ptr lh 0,rZ,.I gY,.I fuel,.ptr lu 0,.ptr lr 0,oQ,.I ((steps+(B.ej.takeWhile (gM u)).length:Nat):Int),.I polls,.I b,.ptr lb 0,.I ((B.ej.takeWhile (gM u)).length:Nat)] h') :
  jD CS Q fU [.ptr lh 0,rZ,.I gY,.I fuel,.ptr lu 0,.ptr lr 0,oQ,.I steps,.I polls,.I b,.ptr lb 0,DV,.I ((B.ej.takeWhile (gM u)).length:Nat)] h:=by
 have nv:=g.nv;have t:B.ej.length<=u.ej.length:=jM _ B.ej (yX g e) λv hv=>by
  obtain⟨k,p⟩:=oY.1 hv;exact g.ko v b k ⟨B,e,p⟩
 have a:B.ej.takeWhile (gM u)++B.ej.dropWhile (gM u)=B.ej:=wA6;have f:∀(j v:Nat),(B.ej.takeWhile (gM u))[j]? =some v->B.ej[j]? =some v:=λj v hv=>by
  rw[<-a,Rk (ki.1 hv).1];exact hv
 have w:(B.ej.takeWhile (gM u)).length<=B.ej.length:=by
  have:=congrArg List.length a;rw[KC]at this;omega
 clear a;generalize B.ej.takeWhile (gM u)=hs at*;refine DL ?_;unfold wQ
 obtain ⟨J,i⟩:∃J:Nat->LP,J=λk l h'=>∃j:Nat,l=[.ptr lh 0,rZ,.I gY,.I fuel,.ptr lu 0,.ptr lr 0,oQ,.I ((steps+j:Nat):Int),.I polls,.I b,.ptr lb 0,DV,.I hs.length,.I (j:Nat)]/\j+k=hs.length/\Sn F h F h'/\
   eo F h' (fg (eI .u64) AI (hs.map (Ws u locals pG B ej)) DV::eQ lb 45 (km B bv bn bp)::Rn (yS ej ((hs.take j).map λv=>(v,Ws u locals pG B ej v))) oQ lr lu u vv vb vs lh Th rm oh hp ds):=⟨_,rfl⟩
 refine El J (λk U V W X Y x z A C D E G H I L hi=>?_) (k:=hs.length) ?_;rotate_left
 ·rw[i];exact⟨0,rfl,by omega,Sn.refl _ _,o⟩
 clear o;rw[i]at hi;obtain⟨j,⟨⟩,p,m,c⟩:=hi;unfold wc;by_cases hj:j<hs.length;rotate_left
 ·refine iQ ?_;obtain rfl:j=hs.length:=by omega
  rw[Ki]at c;exact K L m c.tail
 refine gK ?_;have hv:=iy hj;have n:=MU hj;generalize hs[j]=v at*;have d:=f j v hv;have M:=g.ko v b j ⟨B,e,d⟩;have N:(hs.map (Ws u locals pG B ej))[j]? =some (Ws u locals pG B ej v):=by rw[Dn,hv];rfl
 obtain⟨l1,Z,_,p1,p2⟩:=(s.since m).nat d .i64;obtain⟨l2,o2,O,P,R,_⟩:=c.L5 0 rfl N .i64;obtain⟨l3,o3,h2,r1,r2,S,q,T⟩:=c.Kh 2 rfl (k:=v) (y:=Ws u locals pG B ej v) (u:= .int .u64 (Ws u locals pG B ej v)) (by rw[FB];omega) rfl rfl ⟨rfl,R⟩;refine oF (c.ld 1 rfl rfl) (eh p1 (eh p2 (eh O (eh P (eh r1 ?_)))));rw[r2,en];simp only[ji,lO]at q;refine⟨S,fL (fL ⟨k-1,by omega,?_⟩)⟩;rw[i];refine⟨j+1,rfl,by omega,m.trans T,?_⟩;rw[n,Lj,List.map_singleton,Td];exact q
def zd9(fr:List Fw):Prop:=fr.length<=1000/\∀f∈fr,f.locals.length<=1000/\f.stack.length<=1000
theorem Va(g:Good u){st:Nat}{fs:List Fm}(a:u.ev[st]? =some fs):zd9 (fs.map (Ry ej)):=by
 obtain⟨_,d,b⟩:=g.st st fs a;refine⟨by rw[Ik];omega,λf c=>?_⟩;obtain⟨x,hx,rfl⟩:=MI.1 c;obtain⟨e,h,_⟩:=b x hx;simp only[Ry,Ik];omega
def ExR(F:Nat->Prop)(h:Hp)(e:Ex)(hp:List Int)(a d:Int)(w:V):Prop:=(e = .AX/\a=0/\w = .ei)\/∃(n:Nat)(fr:List Fw),e = .left n fr hp/\a=1/\d=(n:Int)/\im eFw F h fr w/\zd9 fr
end
