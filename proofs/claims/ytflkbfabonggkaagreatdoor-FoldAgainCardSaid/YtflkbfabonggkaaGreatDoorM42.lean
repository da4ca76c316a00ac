/- Parts. -/
import Derived.Test.YtflkbfabonggkaaGreatDoorM41
set_option maxHeartbeats 4000000
namespace Go.Proofs.YtflkbfabonggkaaGreatDoor.Hx
open Un Dm
def Tj(u:U)(locals:List Int)(gw:Int)(fuel BM b:Nat)(B:Bk):Ex ⊕ Rs->Ex
 | .inl e=>e
 | .inr s=>if fuel<=s.steps then .zB else if B.fin=3 then qi u {s with steps:=s.steps+1} B.state else match oY B s with
   |none=> .stuck
   |some t=>runM u locals gw fuel BM (some b) t {s with steps:=s.steps+1}
theorem zaR{u:U}{locals:List Int}{gw:Int}{fuel BM b:Nat}{l0:Option Nat}{s:Rs}{B:Bk}(a:u.blocks[b]? =some B) :
  runM u locals gw fuel (BM+1) l0 b s=Tj u locals gw fuel BM b B (nB u gw fuel (B.ef.dropWhile (fP u)) (ka u locals l0 B s)):=by
 unfold runM;simp only[a];cases nB u gw fuel (B.ef.dropWhile (fP u)) (ka u locals l0 B s) <;> rfl
theorem zbL{p:Nat->Bool}:∀(l:List Nat)(i:Nat),i<=l.length->(∀(m v:Nat),m<i->l[m]? =some v->p v=true)->(∀v,l[i]? =some v->p v=false)->l.takeWhile p=l.take i/\l.dropWhile p=l.drop i
 |[],i,h,_,_=>by simp
 | a::l,0,_,_,h=>by
   have:=h a rfl
   simp[this]
 | a::l,i+1,hl,b,d=>by
   have c:=b 0 a (by omega) rfl;obtain⟨e,f⟩:=zbL l i (by simpa using hl) (λm v g hv=>b (m+1) v (by omega) (by simpa using hv)) λv hv=>d v (by simpa using hv);rw[List.takeWhile_cons,List.dropWhile_cons,if_pos c,if_pos c,e,f];exact⟨rfl,rfl⟩
def LK:Option Nat->Int
 |none=>-1
 |some p=>(p:Int)
section
variable{F F':Nat->Prop}{h h':Hp}{cs ds:List Pc}{Q:ft}{u:U}{vv vb vs nj vQ rm ng bv bn bp:V}{ef hp locals:List Int}{lu lr lh lb Th:Nat}{fM:LP}{gw:Int}{fuel steps polls b:Nat}{l0:Option Nat}{B:Bk}
abbrev Rn(ef:List Int) (nj:V) (lr lu:Nat) (u:U) (vv vb vs:V) (lh Th:Nat) (rm ng:V) (hp:List Int) (ds:List Pc):List Pc:=
 eJ (eI .u64) Ac ef nj::ev lr 77 [.I 0,.I 0,.I 0,.ee,.I 0]::ev lu 30 (uC u vv vb vs)::ev lh Th [rm,ng]::eJ (eI .u64) Ac hp ng::ds
abbrev Ws(u:U)(locals:List Int)(l0:Option Nat)(B:Bk)(ef:List Int)(v:Nat):Int:=sB u locals l0 B (CR ef) v
def zay(l0:Option Nat)(B:Bk)(x:Vl)(ef:List Int):Int:=match l0 with
 | some p=>match B.eQ.findIdx? (·== p)with
   |some j=>CR ef (x.args.getD j 0)
   |none=>0
 |none=>0
theorem zdz{v:Nat}{x:Vl}(a:u.ef[v]? =some x):Ws u locals l0 B ef v=if x.op=1 then locals.getD x.n.toNat 0 else zay l0 B x ef:=by
 show sB u locals l0 B (CR ef) v=_;unfold sB zay;simp only[a];cases l0 <;> rfl
theorem zeO(g:Good u)(H0:ej F h (ev lb 47 (kI B bv bn bp)::Rn ef nj lr lu u vv vb vs lh Th rm ng hp ds))(hu:DA F h u vv vb vs)(A:iy (eI .u64) F h locals vQ)(Y:ef.length=u.ef.length)(N:u.blocks[b]? =some B)(iv:iy eN F h B.ef bv)(ip:iy eN F h B.eQ bp)(ll:locals.length<1000000000)
  (K:∀h' Df,Sn F h F h'->ej F h' (eJ (eI .u64) Ac ((B.ef.takeWhile (fP u)).map (Ws u locals l0 B ef)) Df::ev lb 47 (kI B bv bn bp)::Rn ef nj lr lu u vv vb vs lh Th rm ng hp ds)->
   jd CS Q fM [.ptr lh 0,vQ,.I gw,.I fuel,.ptr lu 0,.ptr lr 0,nj,.I steps,.I polls,.I b,.ptr lb 0,Df,.I ((B.ef.takeWhile (fP u)).length:Nat)] h') :
  oI CS Q fM [.ptr lh 0,vQ,.I gw,.I fuel,.ptr lu 0,.ptr lr 0,nj,.I steps,.I polls,.I b,.I (LK l0),.ptr lb 0,.ee,.I 0] h:=by
 have nv:=g.nv;have ak:B.ef.length<=u.ef.length:=jj _ B.ef (Ab g N) λv hv=>by
  obtain⟨k,hk⟩:=mQ.1 hv;exact g.jE v b k ⟨B,N,hk⟩
 obtain ⟨J,Z⟩:∃J:Nat->LP,J=λk l h'=>∃(i:Nat) (Df:V),l=[.ptr lh 0,vQ,.I gw,.I fuel,.ptr lu 0,.ptr lr 0,nj,.I steps,.I polls,.I b,.I (LK l0),.ptr lb 0,Df,.I i]/\i+k=B.ef.length/\Sn F h F h'/\
   (∀(m v:Nat),m<i->B.ef[m]? =some v->fP u v=true)/\ej F h' (eJ (eI .u64) Ac ((B.ef.take i).map (Ws u locals l0 B ef)) Df::ev lb 47 (kI B bv bn bp)::Rn ef nj lr lu u vv vb vs lh Th rm ng hp ds):=⟨_,rfl⟩
 refine DV J (λk x1 x2 x3 x4 x5 al am an ao ap aq ar Df au O hi=>?_) (k:=B.ef.length) ?_;rotate_left
 ·rw[Z];exact⟨0,.ee,rfl,by omega,Sn.refl _ _,λm v h=>by omega,H0.add (p:=eJ (eI .u64) Ac [] .ee) .nil λ_ h=>h⟩
 clear H0;rw[Z]at hi;obtain⟨i,_,⟨⟩,hk,D,hh,C⟩:=hi;unfold vj;have P:=iv.since D;have u1:=hu.since D;have fin:∀{R},Sn F O F R->(∀v,B.ef[i]? =some v->fP u v=false)->ej F R (eJ (eI .u64) Ac ((B.ef.take i).map (Ws u locals l0 B ef)) Df::ev lb 47 (kI B bv bn bp)::Rn ef nj lr lu u vv vb vs lh Th rm ng hp ds)->jd CS Q fM [.ptr lh 0,vQ,.I gw,.I fuel,.ptr lu 0,.ptr lr 0,nj,.I steps,.I polls,.I b,.ptr lb 0,Df,.I i] R:=λ{R} s2 S H2=>by
  have e:=(zbL (p:=fP u) B.ef i (by omega) hh S).1;have K2:=K R Df (D.trans s2) (by rw[e];exact H2);rw[e,Mo,wBm (by omega)]at K2;exact K2
 have c0:ez (.ptr lb (0+0)) O=some bv:=C.ld 1 rfl rfl;have c2:ez (.ptr lu (0+2)) O=some vv:=C.ld 4 rfl rfl;refine oF c0 (ed P.len ?_);by_cases hi:i<B.ef.length;rotate_left
 ·exact iJ (fin (Sn.refl _ _) (λv hv=>by rw[VM (by omega)]at hv;cases hv) C)
 refine gG ?_;have hv:=gW hi;have aa:=N6 hi;generalize B.ef[i]=v at*;have T:At u v b i:=⟨B,N,hv⟩
 have ab:=g.jE v b i T;have L:=gW ab;generalize u.ef[v]=x at*;obtain⟨l1,o1,ac,p1,p2⟩:=P.nat hv .i64;obtain⟨l2,o2,xa,ae,q1,q2,xr,_⟩:=u1.val L;refine oF c2 (oF c0 (ed p1 (ed p2 (ed q1 (ed q2 ?_)))));rw[gR];obtain⟨H2,s2⟩:=C.zo 49 [.I 0,.I 0,.I 0,.I 0,.ee,.I 0];refine⟨⟨fg _ _,bq⟩,G0 q2 (fj _ (C.fl _ ae)),iK p2 (fj _ (C.fl _ ac)),iK c0 (fj _ (Pc.DR C 1 rfl)),iK c2 (fj _ (Pc.DR C 4 rfl)),?_⟩;obtain⟨h3,e3,n3,f,s3⟩:=H2.Zx 0 (n:=6) (ws:=my x xa) rfl rfl rfl (by simp only[my,ey,xr.one];rfl);rw[e3,ei];simp only[je]at f;generalize O.next=lc at*;refine⟨n3,oF (f.ld 0 rfl rfl) (fX ?_)⟩;have c:=s2.trans s3;have s:=zdz (locals:=locals) (l0:=l0) (B:=B) (ef:=ef) L
 have t:∀{E w},Sn F O F E->fP u v=true->qc .u64 w->w=Ws u locals l0 B ef v->ej F E (ev lc 49 (my x xa)::eJ (eI .u64) Ac ((B.ef.take i).map (Ws u locals l0 B ef)) Df::ev lb 47 (kI B bv bn bp)::Rn ef nj lr lu u vv vb vs lh Th rm ng hp ds)->
   iV CS Q fM (BK J k) [.ptr lh 0,vQ,.I gw,.I fuel,.ptr lu 0,.ptr lr 0,nj,.I steps,.I polls,.I b,.I (LK l0),.ptr lb 0,Df,.I i,.int .u64 w] E:=λ{E w} s4 d hw he H4=>by
  refine Cp ?_;unfold tL;rw[AB,fx];obtain⟨G,h5,e5,_,H5,s5⟩:=H4.vR 1 rfl (jW:=8) (DP:=59) (y:=w) (w:=[.int .u64 w]) (ro:=false) ⟨rfl,hw⟩ (by decide) (by decide) (by simp;omega);rw[show eR 59 1 8 Df (.slice E.next 0 1) (E.new (.cells 59 1 true false [.int .u64 w]))=_ from e5,ei];simp only[je,mA]at H5;refine fL ⟨k-1,by omega,?_⟩;rw[Z];refine⟨i+1,G,rfl,by omega,(D.trans s4).trans s5,λm v' M r=>?_,?_⟩
  ·by_cases e:m=i
   ·subst e;rw[hv]at r;cases r;exact d
   ·exact hh m v' (by omega) r
  ·rw[aa,Ox,List.map_singleton,<-he];exact H5.tail
 have H:fP u v=hZ x.op:=by unfold fP;simp only[L]
 by_cases U:x.op=1
 ·obtain⟨n0,aw,_⟩:=g.param v x L U;have d:fP u v=true:=by rw[H,U];rfl
  rw[if_pos U]at s;obtain⟨n,S⟩:=wBG n0;rw[S]at s;have s:Ws u locals l0 B ef v=locals.getD n 0:=s;refine gi (by omega) (oF (show _=some (.I (n:Int)) by rw[f.ld (o:=0+3) 0 rfl rfl,S]) (ed (A.since (D.trans c)).len (Yb ?_)));by_cases cl:n<locals.length
  ·have W:=gW cl;obtain⟨l5,o5,_,r1,r2,r3⟩:=(A.since (D.trans c)).word W .i64;refine gi (by omega) (oF (show _=some (.I (n:Int)) by rw[f.ld (o:=0+3) 0 rfl rfl,S]) (ed r1 (ed r2 (t c d r3 ?_ f))));rw[s,DY,W];rfl
  ·refine fU (by omega) (t c d zR ?_ f);rw[s,DY,VM (by omega)];rfl
 refine fU (by omega) (oF (f.ld 0 rfl rfl) (fX ?_));rw[if_neg U]at s;by_cases z:x.op=21;rotate_left
 ·exact fU (by omega) (fin c (λv' r=>by rw[hv]at r;cases r;rw[H];unfold hZ;rw[Bool.or_eq_false_iff,Ti,Ti];exact⟨U,z⟩) f.tail)
 have d:fP u v=true:=by rw[H,z];rfl
 refine gi (by omega) ?_;obtain⟨_,ax⟩:=g.CJ v b i x B T L z N;have ay:=Et g N;have X:=ip.since (D.trans c);have ag:=xr.since c;refine Du (λk4 l h'=>∃j:Nat,l=[.ptr lh 0,vQ,.I gw,.I fuel,.ptr lu 0,.ptr lr 0,nj,.I steps,.I polls,.I b,.I (LK l0),.ptr lb 0,Df,.I i,.ptr lc 0,.int .u64 0,.I (j:Nat)]/\j+k4=B.eQ.length/\h' = h3/\∀m:Nat,m<j->∀p,B.eQ[m]? =some p->(p:Int)≠LK l0) ?_ (k:=B.eQ.length) ⟨0,rfl,by omega,rfl,λm h=>by omega⟩;rintro k4 _ _ _ _ _ _ _ _ _ _ _ _ _ _ _ _ _ E ⟨j,⟨⟩,aA,rfl,I⟩;unfold uX;refine oF (f.ld 2 rfl rfl) (ed X.len ?_);by_cases hj:j<B.eQ.length;rotate_left
 ·refine iJ (t c d zR ?_ f);rw[s]
  cases l0 with
  |none=>rfl
  | some p=>
    have:B.eQ.findIdx? (·== p)=none:=by
      rw[List.findIdx?_eq_none_iff];intro q hq;obtain⟨m,M⟩:=mQ.1 hq;have:=I m (by have:=(jP.1 M).1;omega) q M;rw[Ti];exact λe=>this (by rw[e];rfl)
    simp only[zay,this]
 refine gG ?_;have hp:=gW hj;have aB:B.eQ[j]=B.eQ[j]:=rfl;generalize ah:B.eQ[j]=p at hp;obtain⟨l5,o5,_,r1,r2⟩:=X.nat hp .i64;refine oF (f.ld 2 rfl rfl) (ed r1 (ed r2 (fX ?_)));by_cases cp:(p:Int)=LK l0;rotate_left
 ·refine fU cp (fL ⟨k4-1,by omega,j+1,rfl,by omega,rfl,λm M q hq=>?_⟩);by_cases e:m=j
  ·subst e;rw[hp]at hq;cases hq;exact cp
  ·exact I m (by omega) q hq
 have ha:=gW (l:=x.args) (i:=j) (by omega);have ai:=AW (l:=x.args) (n:=j) (by omega);have aj:x.args[j]<ef.length:=by
  rw[Y];exact AK (g.use v x L _ (by unfold iH;rw[if_pos z];exact ai))
 generalize x.args[j]=a at*;obtain⟨l6,o6,_,t1,t2⟩:=ag.nat ha .i64;obtain⟨l7,o7,y1,y2,y3,_⟩:=f.Lw 3 rfl (JH aj) .i64;refine gi cp (oF (f.ld 0 rfl rfl) (ed t1 (ed t2 (ed y1 (ed y2 (t c d y3 ?_ f))))));rw[s]
 cases l0 with
 |none=>exact absurd cp (by simp only[LK];omega)
 | some p'=>
   have:B.eQ.findIdx? (·== p')=some j:=by
     rw[wBV];refine⟨hj,?_,λm M=>?_⟩
     ·rw[ah,HR];exact Int.ofNat.inj cp
     ·have:=I m M _ (gW (by omega))
      simp only[Bool.not_eq_true,Ti];exact λe=>this (by rw[e];rfl)
   simp only[zay,this];rw[DY,ha];rfl
end
open Un Dm
theorem Se(val:List Int)(l:List (Nat×Int))(p:Nat×Int):vX val (l++[p])=(vX val l).set p.1 p.2:=by
 unfold vX;rw[List.foldl_append];rfl
theorem Wc{u:U}{gw:Int}{n:Nat}{x:Vl}{s:Rs}(h:x.op≠19/\x.op≠20/\x.op≠22/\x.op≠23):pw u gw n x s = .inr {s with val:=s.val.set n (E9 x s.of s.heap),steps:=s.steps+1}:=by
 unfold pw;rw[if_neg h.1,if_neg h.2.1,if_neg h.2.2.1,if_neg h.2.2.2]
theorem ME{u:U}{gw:Int}{fuel v:Nat}{l:List Nat}{s:Rs}{x:Vl}(a:¬fuel<=s.steps)(b:u.ef[v]? =some x):nB u gw fuel (v::l) s=match pw u gw v x s with
  | .inl e=> .inl e
  | .inr s=>nB u gw fuel l s:=by
 conv=>lhs;unfold nB
 simp only[b,if_neg a];cases pw u gw v x s <;> rfl
theorem UM{u:U}{gw:Int}{fuel v:Nat}{l:List Nat} {s s':Rs}{x:Vl}(a:¬fuel<=s.steps)(b:u.ef[v]? =some x)(h:pw u gw v x s = .inr s'):nB u gw fuel (v::l) s=nB u gw fuel l s':=by
 rw[ME a b,h]
theorem WN{u:U}{gw:Int}{fuel v:Nat}{l:List Nat}{s:Rs}{e:Ex}{x:Vl}(a:¬fuel<=s.steps)(b:u.ef[v]? =some x)(h:pw u gw v x s = .inl e):nB u gw fuel (v::l) s = .inl e:=by
 rw[ME a b,h]
theorem RR{u:U}{gw:Int}{fuel v:Nat}{l:List Nat}{s:Rs}(a:fuel<=s.steps):nB u gw fuel (v::l) s = .inl .zB:=by
 rw[nB,if_pos a]
theorem OQ{u:U}{s:Rs}{st:Nat}{fs:List Fm}(a:u.eh[st]? =some fs):qi u s st = .left s.steps (fs.map (SC s.val)) s.heap:=by
 unfold qi;rw[a];rfl
section
variable{F F':Nat->Prop}{h h':Hp}{cs ds:List Pc}{Q:ft}{u:U}{vv vb vs nj vQ rm ng bv bn bp Df:V}{ef hp locals:List Int}{lu lr lh lb Th:Nat}{fM:LP}{gw:Int}{fuel steps polls b:Nat}{l0:Option Nat}{B:Bk}
theorem Ut{ws:List V}(d:ej F h (ev lb 47 (kI B bv bn bp)::Rn ef nj lr lu u vv vb vs lh Th rm ng hp ds))(c:ws.length=5)(a:gj ws=true)(K:∀h',Sn F h F h'->ej F h' (ev lh Th [rm,ng]::eJ (eI .u64) Ac hp ng::ds)->Q (.agg ws) h') :
  fi (gI 5 (.ptr lr 0) (.agg ws) h) λ_ a=>oP (gv 5 (.ptr lr 0) a) λr=>Q r a:=by
 obtain⟨e,f,_,b,g⟩:=d.Zx 2 (n:=5) (ws:=ws) rfl c rfl a;rw[f,ei];simp only[je,mA]at b;exact ed (b.zb 2 rfl c) (K e g b.tail.tail.tail.tail)
theorem zdM(g:Good u)(o:ej F h (eJ (eI .u64) Ac ((B.ef.takeWhile (fP u)).map (Ws u locals l0 B ef)) Df::ev lb 47 (kI B bv bn bp)::Rn ef nj lr lu u vv vb vs lh Th rm ng hp ds))(q:ef.length=u.ef.length)(e:u.blocks[b]? =some B)(r:iy eN F h B.ef bv)(hs:steps<100000000)
  (K:∀h',Sn F h F h'->ej F h' (ev lb 47 (kI B bv bn bp)::Rn (vX ef ((B.ef.takeWhile (fP u)).map λv=>(v,Ws u locals l0 B ef v))) nj lr lu u vv vb vs lh Th rm ng hp ds)->
   lZ CS Q fM [.ptr lh 0,vQ,.I gw,.I fuel,.ptr lu 0,.ptr lr 0,nj,.I ((steps+(B.ef.takeWhile (fP u)).length:Nat):Int),.I polls,.I b,.ptr lb 0,.I ((B.ef.takeWhile (fP u)).length:Nat)] h') :
  jd CS Q fM [.ptr lh 0,vQ,.I gw,.I fuel,.ptr lu 0,.ptr lr 0,nj,.I steps,.I polls,.I b,.ptr lb 0,Df,.I ((B.ef.takeWhile (fP u)).length:Nat)] h:=by
 have nv:=g.nv;have s:B.ef.length<=u.ef.length:=jj _ B.ef (Ab g e) λv hv=>by
  obtain⟨k,hk⟩:=mQ.1 hv;exact g.jE v b k ⟨B,e,hk⟩
 have a:B.ef.takeWhile (fP u)++B.ef.dropWhile (fP u)=B.ef:=wAt;have f:∀(j v:Nat),(B.ef.takeWhile (fP u))[j]? =some v->B.ef[j]? =some v:=λj v hv=>by
  rw[<-a,Vx (jP.1 hv).1];exact hv
 have t:(B.ef.takeWhile (fP u)).length<=B.ef.length:=by
  have:=congrArg List.length a;rw[Ji]at this;omega
 clear a;generalize B.ef.takeWhile (fP u)=hs at*;refine Dj ?_;unfold vC
 obtain ⟨J,i⟩:∃J:Nat->LP,J=λk l h'=>∃j:Nat,l=[.ptr lh 0,vQ,.I gw,.I fuel,.ptr lu 0,.ptr lr 0,nj,.I ((steps+j:Nat):Int),.I polls,.I b,.ptr lb 0,Df,.I hs.length,.I (j:Nat)]/\j+k=hs.length/\Sn F h F h'/\
   ej F h' (eJ (eI .u64) Ac (hs.map (Ws u locals l0 B ef)) Df::ev lb 47 (kI B bv bn bp)::Rn (vX ef ((hs.take j).map λv=>(v,Ws u locals l0 B ef v))) nj lr lu u vv vb vs lh Th rm ng hp ds):=⟨_,rfl⟩
 refine DM J (λk U V W X Y w x z A C D E G H I hi=>?_) (k:=hs.length) ?_;rotate_left
 ·rw[i];exact⟨0,rfl,by omega,Sn.refl _ _,o⟩
 clear o;rw[i]at hi;obtain⟨j,⟨⟩,hk,m,c⟩:=hi;unfold vG;by_cases hj:j<hs.length;rotate_left
 ·refine iJ ?_;obtain rfl:j=hs.length:=by omega
  rw[JC]at c;exact K I m c.tail
 refine gG ?_;have hv:=gW hj;have n:=N6 hj;generalize hs[j]=v at*;have d:=f j v hv;have L:=g.jE v b j ⟨B,e,d⟩;have M:(hs.map (Ws u locals l0 B ef))[j]? =some (Ws u locals l0 B ef v):=by rw[CH,hv];rfl
 obtain⟨l1,Z,_,p1,p2⟩:=(r.since m).nat d .i64;obtain⟨l2,o2,N,O,P,_⟩:=c.Lw 0 rfl M .i64;obtain⟨l3,o3,h2,r1,R,S,p,T⟩:=c.Jj 2 rfl (k:=v) (y:=Ws u locals l0 B ef v) (u:= .int .u64 (Ws u locals l0 B ef v)) (by rw[Aq];omega) rfl rfl ⟨rfl,P⟩;refine oF (c.ld 1 rfl rfl) (ed p1 (ed p2 (ed N (ed O (ed r1 ?_)))));rw[R,ei];simp only[je,mA]at p;refine⟨S,fL (fL ⟨k-1,by omega,?_⟩)⟩;rw[i];refine⟨j+1,rfl,by omega,m.trans T,?_⟩;rw[n,Ox,List.map_singleton,Se];exact p
def ze2(fr:List Fw):Prop:=fr.length<=1000/\∀f∈fr,f.locals.length<=1000/\f.stack.length<=1000
theorem VC(g:Good u){st:Nat}{fs:List Fm}(a:u.eh[st]? =some fs):ze2 (fs.map (SC ef)):=by
 obtain⟨_,e,b⟩:=g.st st fs a;refine⟨by rw[DL];omega,λf c=>?_⟩;obtain⟨x,d,rfl⟩:=LB.1 c;obtain⟨h,i,_⟩:=b x d;simp only[SC,DL];omega
def ExR(F:Nat->Prop)(h:Hp)(e:Ex)(hp:List Int)(a d:Int)(w:V):Prop:=(e = .zB/\a=0/\w = .ee)\/∃(n:Nat)(fr:List Fw),e = .left n fr hp/\a=1/\d=(n:Int)/\iy eFw F h fr w/\ze2 fr
end
