/- Parts. -/
import Derived.Test.YtloecllhljfidaaGreatDoorM41
set_option maxHeartbeats 4000000
namespace Go.Proofs.YtloecllhljfidaaGreatDoor.Hx
open Un Dm
variable{gv:Int}{s:Rs}{fuel v:Nat}{u:U}{x:Vl}
def V7(u:U)(locals:List Int)(gv:Int)(fuel zs b:Nat)(B:Bk):Ex ⊕ Rs->Ex
 | .inl e=>e
 | .inr s=>if fuel<=s.steps then .zQ else if B.fin=3 then rz u {s with steps:=s.steps+1} B.state else match pN B s with
   |none=> .stuck
   |some t=>runM u locals gv fuel zs (some b) t {s with steps:=s.steps+1}
theorem zbf{locals:List Int}{zs b:Nat}{lV:Option Nat}{B:Bk}(a:u.blocks[b]? =some B) :
  runM u locals gv fuel (zs+1) lV b s=V7 u locals gv fuel zs b B (nP u gv fuel (B.ej.dropWhile (fL u)) (jQ u locals lV B s)):=by
 unfold runM;simp[a];cases nP u gv fuel (B.ej.dropWhile (fL u)) (jQ u locals lV B s) <;> rfl
theorem zc8{p:Nat->Bool}:∀(l:List Nat) i,i<=l.length->(∀m v,m<i->l[m]? =some v->p v=true)->(∀v,l[i]? =some v->p v=false)->l.takeWhile p=l.take i/\l.dropWhile p=l.drop i
 |[],i,h,_,_=>by simp
 | a::l,0,_,_,h=>by
   have:=h a rfl
   simp[this]
 | a::l,i+1,hl,b,d=>by
   have c:=b 0 a (by omega) rfl
   let⟨e,f⟩:=zc8 l i (by simpa using hl) (λm v g hv=>b (m+1) v (by omega) (by simpa using hv)) λv hv=>d v (by simpa using hv)
   rw[List.takeWhile_cons,List.dropWhile_cons,if_pos c,if_pos c,e,f];exact⟨rfl,rfl⟩
def MA:Option Nat->Int
 |none=>-1
 |some p=>(p:Int)
section
variable{F F':Nat->Prop}{h h':Hp}{cs ds:List Pc}{Q:fq}{u:U}{vv vb vs nK xA rm oS bv bn bp:V}{ej hp locals:List Int}{lu lr lh lb Th:Nat}{fy:LP}{gv:Int}{fuel steps polls b:Nat}{lV:Option Nat}{B:Bk}
abbrev Rn(ej:List Int) (nK:V) (lr lu:Nat) (u:U) (vv vb vs:V) (lh Th:Nat) (rm oS:V) (hp:List Int) (ds:List Pc):List Pc:=
 fg (eI .u64) C0 ej nK::eJ lr 72 [.I 0,.I 0,.I 0,.ei,.I 0]::eJ lu 30 (uC u vv vb vs)::eJ lh Th [rm,oS]::fg (eI .u64) C0 hp oS::ds
abbrev Ws(u:U)(locals:List Int)(lV:Option Nat)(B:Bk)(ej:List Int)(v:Nat):Int:=tY u locals lV B (Hh ej) v
def zbY(lV:Option Nat)(B:Bk)(x:Vl)(ej:List Int):Int:=match lV with
 | some p=>match B.fh.findIdx? (·== p)with
   |some j=>Hh ej (x.args.getD j 0)
   |none=>0
 |none=>0
theorem zeO(hx:u.ej[v]? =some x):Ws u locals lV B ej v=if x.op=1 then locals.getD x.n.toNat 0 else zbY lV B x ej:=by
 show tY u locals lV B (Hh ej) v=_;unfold tY zbY;simp[hx];cases lV <;> rfl
theorem zfk(g:Good u)(H0:ev F h (eJ lb 43 (ku B bv bn bp)::Rn ej nK lr lu u vv vb vs lh Th rm oS hp ds))(hu:tL F h u vv vb vs)(t:il (eI .u64) F h locals xA)(S:ej.length=u.ej.length)(G:u.blocks[b]? =some B)(iv:il eN F h B.ej bv)(ip:il eN F h B.fh bp)(ll:locals.length<1000000000)
  (K:∀h' DG,Sn F h F h'->ev F h' (fg (eI .u64) C0 ((B.ej.takeWhile (fL u)).map (Ws u locals lV B ej)) DG::eJ lb 43 (ku B bv bn bp)::Rn ej nK lr lu u vv vb vs lh Th rm oS hp ds)->
   ji Q fy [.ptr lh 0,xA,.I gv,.I fuel,.ptr lu 0,.ptr lr 0,nK,.I steps,.I polls,.I b,.ptr lb 0,DG,.I ((B.ej.takeWhile (fL u)).length:Nat)] h') :
  pw Q fy [.ptr lh 0,xA,.I gv,.I fuel,.ptr lu 0,.ptr lr 0,nK,.I steps,.I polls,.I b,.I (MA lV),.ptr lb 0,.ei,.I 0] h:=by
 have nv:=g.nv;have ae:=iP _ B.ej (wM g G) λv hv=>by
  let⟨k,hk⟩:=mn.1 hv
  exact g.iM v b k ⟨B,G,hk⟩
 obtain ⟨J,T⟩:∃J,J=λk l h'=>∃i DG,l=[.ptr lh 0,xA,.I gv,.I fuel,.ptr lu 0,.ptr lr 0,nK,.I steps,.I polls,.I b,.I (MA lV),.ptr lb 0,DG,.I (i:Nat)]/\i+k=B.ej.length/\Sn F h F h'/\
   (∀m v,m<i->B.ej[m]? =some v->fL u v=true)/\ev F h' (fg (eI .u64) C0 ((B.ej.take i).map (Ws u locals lV B ej)) DG::eJ lb 43 (ku B bv bn bp)::Rn ej nK lr lu u vv vb vs lh Th rm oS hp ds):=⟨_,rfl⟩
 refine Df J (λk x1 x2 x3 x4 x5 ag ah ai aj ak al am DG an H hi=>?_) (k:=B.ej.length) ?_;rotate_left
 ·rw[T];exact⟨0,.ei,rfl,by omega,Sn.refl _ _,λm v h=>by omega,H0.add .nil λ_ h=>h⟩
 rw [T]at hi;obtain⟨i,_,⟨⟩,hk,z,hh,y⟩:=hi;unfold wq;have I:=iv.since z;have u1:=hu.since z;have fin:∀{L},Sn F H F L->(∀v,B.ej[i]? =some v->fL u v=false)->ev F L (fg (eI .u64) C0 ((B.ej.take i).map (Ws u locals lV B ej)) DG::eJ lb 43 (ku B bv bn bp)::Rn ej nK lr lu u vv vb vs lh Th rm oS hp ds)->ji Q fy [.ptr lh 0,xA,.I gv,.I fuel,.ptr lu 0,.ptr lr 0,nK,.I steps,.I polls,.I b,.ptr lb 0,DG,.I i] L:=λ{L} U M V=>by
  have e:=(zc8 B.ej i (by omega) hh M).1;have K2:=K L DG (z.trans U) (by rw[e];exact V);rw[e,Pw,wBi (by omega)]at K2;exact K2
 have W:fe (.ptr lb (0+0)) H=some bv:=y.ld 1 rfl rfl;have c2:fe (.ptr lu (0+2)) H=some vv:=y.ld 4 rfl rfl;refine oF W (eh I.len ?_);by_cases hi:i<B.ej.length;rotate_left
 ·exact hY (fin (Sn.refl _ _) (λv hv=>by rw[Q9 (by omega)]at hv;cases hv) y)
 refine gy ?_;have hv:=gN hi;have X:=M4 hi;generalize B.ej[i]=v at*;have N:At u v b i:=⟨B,G,hv⟩
 have Y:=g.iM v b i N;have hx:=gN Y;generalize u.ej[v]=x at*
 let⟨l1,o1,hF1,p1,p2⟩:=I.nat hv .i64
 let⟨l2,o2,xa,hF2,q1,q2,xr,_⟩:=u1.val hx
 refine oF c2 (oF W (eh p1 (eh p2 (eh q1 (eh q2 ?_)))));rw[gO]
 let⟨V,U⟩:=y.yP 45 [.I 0,.I 0,.I 0,.I 0,.ei,.I 0]
 refine⟨⟨fm _ _,bq⟩,Iv q2 (fo _ (y.fl _ hF2)),ij p2 (fo _ (y.fl _ hF1)),ij W (fo _ (Pc.Db y 1 rfl)),ij c2 (fo _ (Pc.Db y 4 rfl)),?_⟩
 let⟨h3,e3,n3,d,s3⟩:=V.Qy 0 (n:=6) (ws:=mh x xa) rfl rfl rfl (by simp only[mh,eQ,xr.one];rfl)
 rw[e3,en];generalize H.next=lc at*;refine⟨n3,oF (d.ld 0 rfl rfl) (fX ?_)⟩;have a:=U.trans s3;have o:=zeO (locals:=locals) (lV:=lV) (B:=B) (ej:=ej) hx
 have r:∀{A w},Sn F H F A->fL u v=true->sO .u64 w->w=Ws u locals lV B ej v->ev F A (eJ lc 45 (mh x xa)::fg (eI .u64) C0 ((B.ej.take i).map (Ws u locals lV B ej)) DG::eJ lb 43 (ku B bv bn bp)::Rn ej nK lr lu u vv vb vs lh Th rm oS hp ds)->
   je Q fy (Es J k) [.ptr lh 0,xA,.I gv,.I fuel,.ptr lu 0,.ptr lr 0,nK,.I steps,.I polls,.I b,.I (MA lV),.ptr lb 0,DG,.I i,.int .u64 w] A:=λ{A w} s4 c hw he H4=>by
  refine CK ?_;unfold uO;rw[AN,fu]
  let⟨setv5,h5,e5,_,H5,s5⟩:=H4.rZ 1 rfl (jL:=8) (GA:=79) (ro:=false) ⟨rfl,hw⟩ (by decide) (by decide) (by simp;omega)
  rw[show fi 79 1 8 DG (.slice A.next 0 1) (A.new (.cells 79 1 true false [.int .u64 w]))=_ from e5,en];refine fF ⟨k-1,by omega,?_⟩;rw[T];refine⟨i+1,setv5,rfl,by omega,(z.trans s4).trans s5,λm v' E f=>?_,?_⟩
  ·by_cases e:m=i
   ·subst e;rw[hv]at f;cases f;exact c
   ·exact hh m v' (by omega) f
  ·rw[X,Mw,List.map_singleton,<-he];exact H5.tail
 have C:fL u v=hZ x.op:=by unfold fL;simp[hx]
 by_cases O:x.op=1
 ·let ⟨n0,ao,_⟩:=g.param v x hx O
  have c:fL u v=true:=by rw[C,O];rfl
  rw[if_pos O]at o
  let⟨n,M⟩:=wBF n0
  rw[M]at o;have o:Ws u locals lV B ej v=locals.getD n 0:=o;refine fW (by omega) (oF (by rw[d.ld 0 rfl rfl,M]) (eh (t.since (z.trans a)).len (Uj ?_)));by_cases cl:n<locals.length
  ·have P:=gN cl
   let⟨l5,o5,_,Z,r2,r3⟩:=(t.since (z.trans a)).word P .i64
   refine fW (by omega) (oF (by rw[d.ld 0 rfl rfl,M]) (eh Z (eh r2 (r a c r3 ?_ d))));rw[o,CH,P];rfl
  ·refine fP (by omega) (r a c zY ?_ d);rw[o,CH,Q9 (by omega)];rfl
 refine fP (by omega) (oF (d.ld 0 rfl rfl) (fX ?_));rw[if_neg O]at o;by_cases s:x.op=21;rotate_left
 ·exact fP (by omega) (fin a (λv' f=>by rw[hv]at f;cases f;rw[C];unfold hZ;rw[Bool.or_eq_false_iff,PG,PG];exact⟨O,s⟩) d.tail)
 have c:fL u v=true:=by rw[C,s];rfl
 refine fW (by omega) ?_
 let⟨_,hal⟩:=g.Cd v b i x B N hx s G
 have ap:=Fu g G;have R:=ip.since (z.trans a);have aa:=xr.since a;refine DW (λk4 l h'=>∃j,l=[.ptr lh 0,xA,.I gv,.I fuel,.ptr lu 0,.ptr lr 0,nK,.I steps,.I polls,.I b,.I (MA lV),.ptr lb 0,DG,.I i,.ptr lc 0,.int .u64 0,.I (j:Nat)]/\j+k4=B.fh.length/\h' = h3/\∀m,m<j->∀p,B.fh[m]? =some p->(p:Int)≠MA lV) ?_ (k:=B.fh.length) ⟨0,rfl,by omega,rfl,λm h=>by omega⟩;rintro k4 _ _ _ _ _ _ _ _ _ _ _ _ _ _ _ _ _ A ⟨j,⟨⟩,aq,rfl,D⟩;unfold wP;refine oF (d.ld 2 rfl rfl) (eh R.len ?_);by_cases hj:j<B.fh.length;rotate_left
 ·refine hY (r a c zY ?_ d);rw[o]
  cases lV with
  |none=>rfl
  | some p=>
    have:B.fh.findIdx? (·== p)=none:=by
      rw[List.findIdx?_eq_none_iff];intro q hq
      let⟨m,E⟩:=mn.1 hq
      have:=D m (by have:=(jo.1 E).1;omega) q E;rw[PG];exact λe=>this (by rw[e];rfl)
    simp[zbY,this]
 refine gy ?_;have hp:=gN hj;generalize ab:B.fh[j]=p at hp
 let⟨l5,o5,_,Z,r2⟩:=R.nat hp .i64
 refine oF (d.ld 2 rfl rfl) (eh Z (eh r2 (fX ?_)));by_cases cp:(p:Int)=MA lV;rotate_left
 ·refine fP cp (fF ⟨k4-1,by omega,j+1,rfl,by omega,rfl,λm E q hq=>?_⟩);by_cases e:m=j
  ·subst e;rw[hp]at hq;cases hq;exact cp
  ·exact D m (by omega) q hq
 have ha:=gN (l:=x.args) (i:=j) (by omega);have ac:=zI (l:=x.args) (n:=j) (by omega);have ad:x.args[j]<ej.length:=by
  rw[S];exact uP (g.use v x hx _ (by unfold gG;rw[if_pos s];exact ac))
 let⟨l6,o6,_,t1,t2⟩:=aa.nat ha .i64
 let⟨l7,o7,y1,y2,y3,_⟩:=d.Mq 3 rfl (KC ad) .i64
 refine fW cp (oF (d.ld 0 rfl rfl) (eh t1 (eh t2 (eh y1 (eh y2 (r a c y3 ?_ d))))));rw[o]
 cases lV with
 |none=>exact absurd cp (by simp only[MA];omega)
 | some p'=>
   have:B.fh.findIdx? (·== p')=some j:=by
     rw[wBS];refine⟨hj,?_,λm E=>?_⟩
     ·rw[ab,Bg];exact Int.ofNat.inj cp
     ·have:=D m E _ (gN (by omega))
      simp[Bool.not_eq_true,PG];exact λe=>this (by rw[e];rfl)
   simp only[zbY,this];rw[CH,ha];rfl
end
open Un Dm
theorem So(val:List Int)(l:List (Nat×Int))(p:Nat×Int):vW val (l++[p])=(vW val l).set p.1 p.2:=by
 unfold vW;rw[List.foldl_append];rfl
theorem X8{n:Nat}(h:x.op≠19/\x.op≠20/\x.op≠22/\x.op≠23):pA u gv n x s = .inr {s with val:=s.val.set n (zx x s.of s.heap),steps:=s.steps+1}:=by
 unfold pA;rw[if_neg h.1,if_neg h.2.1,if_neg h.2.2.1,if_neg h.2.2.2]
theorem OW{l:List Nat}(a:¬fuel<=s.steps)(hx:u.ej[v]? =some x):nP u gv fuel (v::l) s=match pA u gv v x s with
  | .inl e=> .inl e
  | .inr s=>nP u gv fuel l s:=by
 conv=>lhs;unfold nP
 simp[hx,if_neg a];cases pA u gv v x s <;> rfl
theorem UR{l:List Nat} {s':Rs}(a:¬fuel<=s.steps)(hx:u.ej[v]? =some x)(h:pA u gv v x s = .inr s'):nP u gv fuel (v::l) s=nP u gv fuel l s':=by
 rw[OW a hx,h]
theorem Yp{l:List Nat}{e:Ex}(a:¬fuel<=s.steps)(hx:u.ej[v]? =some x)(h:pA u gv v x s = .inl e):nP u gv fuel (v::l) s = .inl e:=by
 rw[OW a hx,h]
theorem TG{l:List Nat}(a:fuel<=s.steps):nP u gv fuel (v::l) s = .inl .zQ:=by
 rw[nP,if_pos a]
theorem Qw{st:Nat}{fs:List Fm}(a:u.eo[st]? =some fs):rz u s st = .left s.steps (fs.map (Ur s.val)) s.heap:=by
 unfold rz;rw[a];rfl
section
variable{F F':Nat->Prop}{h h':Hp}{cs ds:List Pc}{Q:fq}{u:U}{vv vb vs nK xA rm oS bv bn bp DG:V}{ej hp locals:List Int}{lu lr lh lb Th:Nat}{fy:LP}{gv:Int}{fuel steps polls b:Nat}{lV:Option Nat}{B:Bk}
theorem Vc{ws:List V}(d:ev F h (eJ lb 43 (ku B bv bn bp)::Rn ej nK lr lu u vv vb vs lh Th rm oS hp ds))(c:ws.length=5)(a:gj ws=true)(K:∀h',Sn F h F h'->ev F h' (eJ lh Th [rm,oS]::fg (eI .u64) C0 hp oS::ds)->Q (.agg ws) h') :
  fj (gq 5 (.ptr lr 0) (.agg ws) h) λ_ a=>oP (fO 5 (.ptr lr 0) a) λr=>Q r a:=by
 let⟨e,f,_,b,g⟩:=d.Qy 2 rfl c rfl a
 rw[f,en];simp[ pJ]at b;exact eh (b.mY 2 rfl c) (K e g b.tail.tail.tail.tail)
theorem zeT(g:Good u)(p:ev F h (fg (eI .u64) C0 ((B.ej.takeWhile (fL u)).map (Ws u locals lV B ej)) DG::eJ lb 43 (ku B bv bn bp)::Rn ej nK lr lu u vv vb vs lh Th rm oS hp ds))(q:ej.length=u.ej.length)(e:u.blocks[b]? =some B)(r:il eN F h B.ej bv)(hs:steps<100000000)
  (K:∀h',Sn F h F h'->ev F h' (eJ lb 43 (ku B bv bn bp)::Rn (vW ej ((B.ej.takeWhile (fL u)).map λv=>(v,Ws u locals lV B ej v))) nK lr lu u vv vb vs lh Th rm oS hp ds)->
   l0 Q fy [.ptr lh 0,xA,.I gv,.I fuel,.ptr lu 0,.ptr lr 0,nK,.I ((steps+(B.ej.takeWhile (fL u)).length:Nat):Int),.I polls,.I b,.ptr lb 0,.I ((B.ej.takeWhile (fL u)).length:Nat)] h') :
  ji Q fy [.ptr lh 0,xA,.I gv,.I fuel,.ptr lu 0,.ptr lr 0,nK,.I steps,.I polls,.I b,.ptr lb 0,DG,.I ((B.ej.takeWhile (fL u)).length:Nat)] h:=by
 have nv:=g.nv;have s:=iP _ B.ej (wM g e) λv hv=>by
  let⟨k,hk⟩:=mn.1 hv
  exact g.iM v b k ⟨B,e,hk⟩
 have a:B.ej.takeWhile (fL u)++B.ej.dropWhile (fL u)=B.ej:=wAq;have f:∀j v,(B.ej.takeWhile (fL u))[j]? =some v->B.ej[j]? =some v:=λj v hv=>by
  rw[<-a,VU (jo.1 hv).1];exact hv
 have t:(B.ej.takeWhile (fL u)).length<=B.ej.length:=by
  have:=congrArg List.length a;rw[Lw]at this;omega
 generalize B.ej.takeWhile (fL u)=hs at*;refine Di ?_;unfold xj
 obtain ⟨J,i⟩:∃J,J=λk l h'=>∃j,l=[.ptr lh 0,xA,.I gv,.I fuel,.ptr lu 0,.ptr lr 0,nK,.I ((steps+j:Nat):Int),.I polls,.I b,.ptr lb 0,DG,.I hs.length,.I (j:Nat)]/\j+k=hs.length/\Sn F h F h'/\
   ev F h' (fg (eI .u64) C0 (hs.map (Ws u locals lV B ej)) DG::eJ lb 43 (ku B bv bn bp)::Rn (vW ej ((hs.take j).map λv=>(v,Ws u locals lV B ej v))) nK lr lu u vv vb vs lh Th rm oS hp ds):=⟨_,rfl⟩
 refine DJ J (λk U V W X Y w x y z A C D E G H hi=>?_) (k:=hs.length) ?_;rotate_left
 ·rw[i];exact⟨0,rfl,by omega,Sn.refl _ _,p⟩
 rw[i]at hi;obtain⟨j,⟨⟩,hk,m,c⟩:=hi;unfold wR;by_cases hj:j<hs.length;rotate_left
 ·refine hY ?_;obtain rfl:j=hs.length:=by omega
  rw[I2]at c;exact K H m c.tail
 refine gy ?_;have hv:=gN hj;have n:=M4 hj;generalize hs[j]=v at*;have d:=f j v hv;have I:=g.iM v b j ⟨B,e,d⟩;have L:(hs.map (Ws u locals lV B ej))[j]? =some (Ws u locals lV B ej v):=by rw[zq,hv];rfl
 let⟨l1,Z,_,p1,p2⟩:=(r.since m).nat d .i64
 let⟨l2,o2,M,N,O,_⟩:=c.Mq 0 rfl L .i64
 let⟨l3,o3,h2,P,R,S,o,T⟩:=c.IH 2 rfl (k:=v) (by rw[AJ];omega) rfl rfl ⟨rfl,O⟩
 refine oF (c.ld 1 rfl rfl) (eh p1 (eh p2 (eh M (eh N (eh P ?_)))));rw[R,en];simp only[ pJ]at o;refine⟨S,fF (fF ⟨k-1,by omega,?_⟩)⟩;rw[i];refine⟨j+1,rfl,by omega,m.trans T,?_⟩;rw[n,Mw,List.map_singleton,So];exact o
def zeA(fr:List Fw):Prop:=fr.length<=1000/\∀f∈fr,f.locals.length<=1000/\f.stack.length<=1000
theorem Xh(g:Good u){st:Nat}{fs:List Fm}(a:u.eo[st]? =some fs):zeA (fs.map (Ur ej)):=by
 let⟨_,d,b⟩:=g.st st fs a
 refine⟨by rw[Er];omega,λf c=>?_⟩;obtain⟨x,hx,rfl⟩:=Kj.1 c
 let⟨e,h,_⟩:=b x hx
 simp[Ur,Er];omega
def ExR(F:Nat->Prop)(h:Hp)(e:Ex)(hp:List Int)(a d:Int)(w:V):Prop:=(e = .zQ/\a=0/\w = .ei)\/∃n fr,e = .left n fr hp/\a=1/\d=(n:Int)/\il eFw F h fr w/\zeA fr
end
