/- Parts. -/
import Derived.Test.YtbdcpiokodljaaaGreatDoorM41
set_option maxHeartbeats 4000000
namespace Go.Proofs.YtbdcpiokodljaaaGreatDoor.Hx
open Un Dm
def Vc(u:U)(locals:List Int)(gw:Int)(fuel Cu b:Nat)(B:Bk):Ex ⊕ Rs->Ex
 | .inl e=>e
 | .inr s=>if fuel<=s.steps then .Ac else if B.fin=3 then rz u {s with steps:=s.steps+1} B.state else match pT B s with
   |none=> .stuck
   |some t=>runM u locals gw fuel Cu (some b) t {s with steps:=s.steps+1}
theorem zaW{u:U}{locals:List Int}{gw:Int}{fuel Cu b:Nat}{mN:Option Nat}{s:Rs}{B:Bk}(a:u.blocks[b]? =some B) :
  runM u locals gw fuel (Cu+1) mN b s=Vc u locals gw fuel Cu b B (oW u gw fuel (B.ef.dropWhile (fR u)) (kP u locals mN B s)):=by
 unfold runM;simp[a];cases oW u gw fuel (B.ef.dropWhile (fR u)) (kP u locals mN B s) <;> rfl
theorem zck{p:Nat->Bool}:∀(l:List Nat) i,i<=l.length->(∀m v,m<i->l[m]? =some v->p v=true)->(∀v,l[i]? =some v->p v=false)->l.takeWhile p=l.take i/\l.dropWhile p=l.drop i
 |[],i,h,_,_=>by simp
 | a::l,0,_,_,h=>by
   have:=h a rfl
   simp[this]
 | a::l,i+1,hl,b,d=>by
   have c:=b 0 a (by omega) rfl
   let⟨e,f⟩:=zck l i (by simpa using hl) (λm v g hv=>b (m+1) v (by omega) (by simpa using hv)) λv hv=>d v (by simpa using hv)
   rw[List.takeWhile_cons,List.dropWhile_cons,if_pos c,if_pos c,e,f];exact⟨rfl,rfl⟩
def Mw:Option Nat->Int
 |none=>-1
 |some p=>(p:Int)
section
variable{F F':Nat->Prop}{h h':Hp}{cs ds:List Pc}{Q:fo}{u:U}{vv vb vs oE wS rm oV bv bn bp:V}{ef hp locals:List Int}{lu lr lh lb Th:Nat}{fN:LP}{gw:Int}{fuel steps polls b:Nat}{mN:Option Nat}{B:Bk}
abbrev Rn(ef:List Int) (oE:V) (lr lu:Nat) (u:U) (vv vb vs:V) (lh Th:Nat) (rm oV:V) (hp:List Int) (ds:List Pc):List Pc:=
 eJ (eI .u64) Dy ef oE::ey lr 84 [.I 0,.I 0,.I 0,.ee,.I 0]::ey lu 30 (uC u vv vb vs)::ey lh Th [rm,oV]::eJ (eI .u64) Dy hp oV::ds
abbrev Ws(u:U)(locals:List Int)(mN:Option Nat)(B:Bk)(ef:List Int)(v:Nat):Int:=ta u locals mN B (Hq ef) v
def zbo(mN:Option Nat)(B:Bk)(x:Vl)(ef:List Int):Int:=match mN with
 | some p=>match B.eQ.findIdx? (·== p)with
   |some j=>Hq ef (x.args.getD j 0)
   |none=>0
 |none=>0
theorem zfw{v:Nat}{x:Vl}(a:u.ef[v]? =some x):Ws u locals mN B ef v=if x.op=1 then locals.getD x.n.toNat 0 else zbo mN B x ef:=by
 show ta u locals mN B (Hq ef) v=_;unfold ta zbo;simp[a];cases mN <;> rfl
theorem zfp(g:Good u)(H0:ej F h (ey lb 43 (lB B bv bn bp)::Rn ef oE lr lu u vv vb vs lh Th rm oV hp ds))(hu:zQ F h u vv vb vs)(t:ie (eI .u64) F h locals wS)(T:ef.length=u.ef.length)(H:u.blocks[b]? =some B)(iv:ie eN F h B.ef bv)(ip:ie eN F h B.eQ bp)(ll:locals.length<1000000000)
  (K:∀h' Es,Sn F h F h'->ej F h' (eJ (eI .u64) Dy ((B.ef.takeWhile (fR u)).map (Ws u locals mN B ef)) Es::ey lb 43 (lB B bv bn bp)::Rn ef oE lr lu u vv vb vs lh Th rm oV hp ds)->
   jy CS Q fN [.ptr lh 0,wS,.I gw,.I fuel,.ptr lu 0,.ptr lr 0,oE,.I steps,.I polls,.I b,.ptr lb 0,Es,.I ((B.ef.takeWhile (fR u)).length:Nat)] h') :
  pG CS Q fN [.ptr lh 0,wS,.I gw,.I fuel,.ptr lu 0,.ptr lr 0,oE,.I steps,.I polls,.I b,.I (Mw mN),.ptr lb 0,.ee,.I 0] h:=by
 have nv:=g.nv;have ag:=jA _ B.ef (AR g H) λv hv=>by
  let⟨k,hk⟩:=nT.1 hv
  exact g.jW v b k ⟨B,H,hk⟩
 obtain ⟨J,U⟩:∃J,J=λk l h'=>∃i Es,l=[.ptr lh 0,wS,.I gw,.I fuel,.ptr lu 0,.ptr lr 0,oE,.I steps,.I polls,.I b,.I (Mw mN),.ptr lb 0,Es,.I (i:Nat)]/\i+k=B.ef.length/\Sn F h F h'/\
   (∀m v,m<i->B.ef[m]? =some v->fR u v=true)/\ej F h' (eJ (eI .u64) Dy ((B.ef.take i).map (Ws u locals mN B ef)) Es::ey lb 43 (lB B bv bn bp)::Rn ef oE lr lu u vv vb vs lh Th rm oV hp ds):=⟨_,rfl⟩
 refine Ee J (λk x1 x2 x3 x4 x5 ah ai aj ak al am an Es ao I hi=>?_) (k:=B.ef.length) ?_;rotate_left
 ·rw[U];exact⟨0,.ee,rfl,by omega,Sn.refl _ _,λm v h=>by omega,H0.add .nil λ_ h=>h⟩
 rw [U]at hi;obtain⟨i,_,⟨⟩,hk,z,hh,y⟩:=hi;unfold vX;have L:=iv.since z;have u1:=hu.since z;have fin:∀{M},Sn F I F M->(∀v,B.ef[i]? =some v->fR u v=false)->ej F M (eJ (eI .u64) Dy ((B.ef.take i).map (Ws u locals mN B ef)) Es::ey lb 43 (lB B bv bn bp)::Rn ef oE lr lu u vv vb vs lh Th rm oV hp ds)->jy CS Q fN [.ptr lh 0,wS,.I gw,.I fuel,.ptr lu 0,.ptr lr 0,oE,.I steps,.I polls,.I b,.ptr lb 0,Es,.I i] M:=λ{M} V N W=>by
  have e:=(zck B.ef i (by omega) hh N).1;have K2:=K M Es (z.trans V) (by rw[e];exact W);rw[e,NM,wBk (by omega)]at K2;exact K2
 have X:ez (.ptr lb (0+0)) I=some bv:=y.ld 1 rfl rfl;have c2:ez (.ptr lu (0+2)) I=some vv:=y.ld 4 rfl rfl;refine oF X (ed L.len ?_);by_cases hi:i<B.ef.length;rotate_left
 ·exact iI (fin (Sn.refl _ _) (λv hv=>by rw[X8 (by omega)]at hv;cases hv) y)
 refine gy ?_;have hv:=hO hi;have Y:=OX hi;generalize B.ef[i]=v at*;have O:At u v b i:=⟨B,H,hv⟩
 have Z:=g.jW v b i O;have E:=hO Z;generalize u.ef[v]=x at*
 let⟨l1,o1,hF1,p1,p2⟩:=L.nat hv .i64
 let⟨l2,o2,xa,hF2,q1,q2,xr,_⟩:=u1.val E
 refine oF c2 (oF X (ed p1 (ed p2 (ed q1 (ed q2 ?_)))));rw[g0]
 let⟨W,V⟩:=y.zT 45 [.I 0,.I 0,.I 0,.I 0,.ee,.I 0]
 refine⟨⟨fh _ _,bq⟩,HO q2 (fj _ (y.fl _ hF2)),iR p2 (fj _ (y.fl _ hF1)),iR X (fj _ (Pc.DN y 1 rfl)),iR c2 (fj _ (Pc.DN y 4 rfl)),?_⟩
 let⟨h3,e3,n3,d,s3⟩:=W.stA 0 (n:=6) (ws:=mW x xa) rfl rfl rfl (by simp only[mW,eo,xr.one];rfl)
 rw[e3,ei];generalize I.next=lc at*;refine⟨n3,oF (d.ld 0 rfl rfl) (fZ ?_)⟩;have a:=V.trans s3;have o:=zfw (locals:=locals) (mN:=mN) (B:=B) (ef:=ef) E
 have r:∀{A w},Sn F I F A->fR u v=true->rO .u64 w->w=Ws u locals mN B ef v->ej F A (ey lc 45 (mW x xa)::eJ (eI .u64) Dy ((B.ef.take i).map (Ws u locals mN B ef)) Es::ey lb 43 (lB B bv bn bp)::Rn ef oE lr lu u vv vb vs lh Th rm oV hp ds)->
   jn CS Q fN (BY J k) [.ptr lh 0,wS,.I gw,.I fuel,.ptr lu 0,.ptr lr 0,oE,.I steps,.I polls,.I b,.I (Mw mN),.ptr lb 0,Es,.I i,.int .u64 w] A:=λ{A w} s4 c hw he H4=>by
  refine CT ?_;unfold uM;rw[Ba,fE]
  let⟨setv5,h5,e5,_,H5,s5⟩:=H4.wR 1 rfl (kL:=8) (K9:=60) (ro:=false) ⟨rfl,hw⟩ (by decide) (by decide) (by simp;omega)
  rw[show eR 60 1 8 Es (.slice A.next 0 1) (A.new (.cells 60 1 true false [.int .u64 w]))=_ from e5,ei];refine fI ⟨k-1,by omega,?_⟩;rw[U];refine⟨i+1,setv5,rfl,by omega,(z.trans s4).trans s5,λm v' G f=>?_,?_⟩
  ·by_cases e:m=i
   ·subst e;rw[hv]at f;cases f;exact c
   ·exact hh m v' (by omega) f
  ·rw[Y,PO,List.map_singleton,<-he];exact H5.tail
 have C:fR u v=ir x.op:=by unfold fR;simp[E]
 by_cases P:x.op=1
 ·let ⟨n0,ap,_⟩:=g.param v x E P
  have c:fR u v=true:=by rw[C,P];rfl
  rw[if_pos P]at o
  let⟨n,N⟩:=wBG n0
  rw[N]at o;have o:Ws u locals mN B ef v=locals.getD n 0:=o;refine gj (by omega) (oF (by rw[d.ld 0 rfl rfl,N]) (ed (t.since (z.trans a)).len (zad ?_)));by_cases cl:n<locals.length
  ·have R:=hO cl
   let⟨l5,o5,_,r1,r2,r3⟩:=(t.since (z.trans a)).word R .i64
   refine gj (by omega) (oF (by rw[d.ld 0 rfl rfl,N]) (ed r1 (ed r2 (r a c r3 ?_ d))));rw[o,ED,R];rfl
  ·refine fU (by omega) (r a c AD ?_ d);rw[o,ED,X8 (by omega)];rfl
 refine fU (by omega) (oF (d.ld 0 rfl rfl) (fZ ?_));rw[if_neg P]at o;by_cases s:x.op=21;rotate_left
 ·exact fU (by omega) (fin a (λv' f=>by rw[hv]at f;cases f;rw[C];unfold ir;rw[Bool.or_eq_false_iff,Uf,Uf];exact⟨P,s⟩) d.tail)
 have c:fR u v=true:=by rw[C,s];rfl
 refine gj (by omega) ?_
 let⟨_,hal⟩:=g.Dz v b i x B O E s H
 have aq:=Bj g H;have S:=ip.since (z.trans a);have aa:=xr.since a;refine Et (λk4 l h'=>∃j,l=[.ptr lh 0,wS,.I gw,.I fuel,.ptr lu 0,.ptr lr 0,oE,.I steps,.I polls,.I b,.I (Mw mN),.ptr lb 0,Es,.I i,.ptr lc 0,.int .u64 0,.I (j:Nat)]/\j+k4=B.eQ.length/\h' = h3/\∀m,m<j->∀p,B.eQ[m]? =some p->(p:Int)≠Mw mN) ?_ (k:=B.eQ.length) ⟨0,rfl,by omega,rfl,λm h=>by omega⟩;rintro k4 _ _ _ _ _ _ _ _ _ _ _ _ _ _ _ _ _ A ⟨j,⟨⟩,ar,rfl,D⟩;unfold wD;refine oF (d.ld 2 rfl rfl) (ed S.len ?_);by_cases hj:j<B.eQ.length;rotate_left
 ·refine iI (r a c AD ?_ d);rw[o]
  cases mN with
  |none=>rfl
  | some p=>
    have:B.eQ.findIdx? (·== p)=none:=by
      rw[List.findIdx?_eq_none_iff];intro q hq
      let⟨m,G⟩:=nT.1 hq
      have:=D m (by have:=(kj.1 G).1;omega) q G;rw[Uf];exact λe=>this (by rw[e];rfl)
    simp[zbo,this]
 refine gy ?_;have hp:=hO hj;generalize ab:B.eQ[j]=p at hp
 let⟨l5,o5,_,r1,r2⟩:=S.nat hp .i64
 refine oF (d.ld 2 rfl rfl) (ed r1 (ed r2 (fZ ?_)));by_cases cp:(p:Int)=Mw mN;rotate_left
 ·refine fU cp (fI ⟨k4-1,by omega,j+1,rfl,by omega,rfl,λm G q hq=>?_⟩);by_cases e:m=j
  ·subst e;rw[hp]at hq;cases hq;exact cp
  ·exact D m (by omega) q hq
 have ha:=hO (l:=x.args) (i:=j) (by omega);have ac:=AU (l:=x.args) (n:=j) (by omega);have ae:x.args[j]<ef.length:=by
  rw[T];exact Bl (g.use v x E _ (by unfold iP;rw[if_pos s];exact ac))
 let⟨l6,o6,_,t1,t2⟩:=aa.nat ha .i64
 let⟨l7,o7,y1,y2,y3,_⟩:=d.Mg 3 rfl (KN ae) .i64
 refine gj cp (oF (d.ld 0 rfl rfl) (ed t1 (ed t2 (ed y1 (ed y2 (r a c y3 ?_ d))))));rw[o]
 cases mN with
 |none=>exact absurd cp (by simp only[Mw];omega)
 | some p'=>
   have:B.eQ.findIdx? (·== p')=some j:=by
     rw[wBV];refine⟨hj,?_,λm G=>?_⟩
     ·rw[ab,IE];exact Int.ofNat.inj cp
     ·have:=D m G _ (hO (by omega))
      simp[Bool.not_eq_true,Uf];exact λe=>this (by rw[e];rfl)
   simp only[zbo,this];rw[ED,ha];rfl
end
open Un Dm
theorem SW(val:List Int)(l:List (Nat×Int))(p:Nat×Int):xB val (l++[p])=(xB val l).set p.1 p.2:=by
 unfold xB;rw[List.foldl_append];rfl
theorem Xs{u:U}{gw:Int}{n:Nat}{x:Vl}{s:Rs}(h:x.op≠19/\x.op≠20/\x.op≠22/\x.op≠23):qk u gw n x s = .inr {s with val:=s.val.set n (Hg x s.of s.heap),steps:=s.steps+1}:=by
 unfold qk;rw[if_neg h.1,if_neg h.2.1,if_neg h.2.2.1,if_neg h.2.2.2]
theorem Oa{u:U}{gw:Int}{fuel v:Nat}{l:List Nat}{s:Rs}{x:Vl}(a:¬fuel<=s.steps)(b:u.ef[v]? =some x):oW u gw fuel (v::l) s=match qk u gw v x s with
  | .inl e=> .inl e
  | .inr s=>oW u gw fuel l s:=by
 conv=>lhs;unfold oW
 simp[b,if_neg a];cases qk u gw v x s <;> rfl
theorem UK{u:U}{gw:Int}{fuel v:Nat}{l:List Nat} {s s':Rs}{x:Vl}(a:¬fuel<=s.steps)(b:u.ef[v]? =some x)(h:qk u gw v x s = .inr s'):oW u gw fuel (v::l) s=oW u gw fuel l s':=by
 rw[Oa a b,h]
theorem X0{u:U}{gw:Int}{fuel v:Nat}{l:List Nat}{s:Rs}{e:Ex}{x:Vl}(a:¬fuel<=s.steps)(b:u.ef[v]? =some x)(h:qk u gw v x s = .inl e):oW u gw fuel (v::l) s = .inl e:=by
 rw[Oa a b,h]
theorem Sc{u:U}{gw:Int}{fuel v:Nat}{l:List Nat}{s:Rs}(a:fuel<=s.steps):oW u gw fuel (v::l) s = .inl .Ac:=by
 rw[oW,if_pos a]
theorem Qf{u:U}{s:Rs}{st:Nat}{fs:List Fm}(a:u.eh[st]? =some fs):rz u s st = .left s.steps (fs.map (Sd s.val)) s.heap:=by
 unfold rz;rw[a];rfl
section
variable{F F':Nat->Prop}{h h':Hp}{cs ds:List Pc}{Q:fo}{u:U}{vv vb vs oE wS rm oV bv bn bp Es:V}{ef hp locals:List Int}{lu lr lh lb Th:Nat}{fN:LP}{gw:Int}{fuel steps polls b:Nat}{mN:Option Nat}{B:Bk}
theorem Up{ws:List V}(d:ej F h (ey lb 43 (lB B bv bn bp)::Rn ef oE lr lu u vv vb vs lh Th rm oV hp ds))(c:ws.length=5)(a:gv ws=true)(K:∀h',Sn F h F h'->ej F h' (ey lh Th [rm,oV]::eJ (eI .u64) Dy hp oV::ds)->Q (.agg ws) h') :
  fg (gJ 5 (.ptr lr 0) (.agg ws) h) λ_ a=>oP (fX 5 (.ptr lr 0) a) λr=>Q r a:=by
 let⟨e,f,_,b,g⟩:=d.stA 2 rfl c rfl a
 rw[f,ei];simp[ rV]at b;exact ed (b.tK 2 rfl c) (K e g b.tail.tail.tail.tail)
theorem zfk(g:Good u)(p:ej F h (eJ (eI .u64) Dy ((B.ef.takeWhile (fR u)).map (Ws u locals mN B ef)) Es::ey lb 43 (lB B bv bn bp)::Rn ef oE lr lu u vv vb vs lh Th rm oV hp ds))(q:ef.length=u.ef.length)(e:u.blocks[b]? =some B)(r:ie eN F h B.ef bv)(hs:steps<100000000)
  (K:∀h',Sn F h F h'->ej F h' (ey lb 43 (lB B bv bn bp)::Rn (xB ef ((B.ef.takeWhile (fR u)).map λv=>(v,Ws u locals mN B ef v))) oE lr lu u vv vb vs lh Th rm oV hp ds)->
   mB CS Q fN [.ptr lh 0,wS,.I gw,.I fuel,.ptr lu 0,.ptr lr 0,oE,.I ((steps+(B.ef.takeWhile (fR u)).length:Nat):Int),.I polls,.I b,.ptr lb 0,.I ((B.ef.takeWhile (fR u)).length:Nat)] h') :
  jy CS Q fN [.ptr lh 0,wS,.I gw,.I fuel,.ptr lu 0,.ptr lr 0,oE,.I steps,.I polls,.I b,.ptr lb 0,Es,.I ((B.ef.takeWhile (fR u)).length:Nat)] h:=by
 have nv:=g.nv;have s:=jA _ B.ef (AR g e) λv hv=>by
  let⟨k,hk⟩:=nT.1 hv
  exact g.jW v b k ⟨B,e,hk⟩
 have a:B.ef.takeWhile (fR u)++B.ef.dropWhile (fR u)=B.ef:=wAt;have f:∀j v,(B.ef.takeWhile (fR u))[j]? =some v->B.ef[j]? =some v:=λj v hv=>by
  rw[<-a,Wx (kj.1 hv).1];exact hv
 have t:(B.ef.takeWhile (fR u)).length<=B.ef.length:=by
  have:=congrArg List.length a;rw[K8]at this;omega
 generalize B.ef.takeWhile (fR u)=hs at*;refine DP ?_;unfold vK
 obtain ⟨J,i⟩:∃J,J=λk l h'=>∃j,l=[.ptr lh 0,wS,.I gw,.I fuel,.ptr lu 0,.ptr lr 0,oE,.I ((steps+j:Nat):Int),.I polls,.I b,.ptr lb 0,Es,.I hs.length,.I (j:Nat)]/\j+k=hs.length/\Sn F h F h'/\
   ej F h' (eJ (eI .u64) Dy (hs.map (Ws u locals mN B ef)) Es::ey lb 43 (lB B bv bn bp)::Rn (xB ef ((hs.take j).map λv=>(v,Ws u locals mN B ef v))) oE lr lu u vv vb vs lh Th rm oV hp ds):=⟨_,rfl⟩
 refine Eu J (λk T U V W X w x y z A C D E G H hi=>?_) (k:=hs.length) ?_;rotate_left
 ·rw[i];exact⟨0,rfl,by omega,Sn.refl _ _,p⟩
 rw[i]at hi;obtain⟨j,⟨⟩,hk,m,c⟩:=hi;unfold wN;by_cases hj:j<hs.length;rotate_left
 ·refine iI ?_;obtain rfl:j=hs.length:=by omega
  rw[Lp]at c;exact K H m c.tail
 refine gy ?_;have hv:=hO hj;have n:=OX hj;generalize hs[j]=v at*;have d:=f j v hv;have I:=g.jW v b j ⟨B,e,d⟩;have L:(hs.map (Ws u locals mN B ef))[j]? =some (Ws u locals mN B ef v):=by rw[AX,hv];rfl
 let⟨l1,Y,_,p1,p2⟩:=(r.since m).nat d .i64
 let⟨l2,Z,M,N,O,_⟩:=c.Mg 0 rfl L .i64
 let⟨l3,o3,h2,r1,P,R,o,S⟩:=c.JZ 2 rfl (k:=v) (by rw[A7];omega) rfl rfl ⟨rfl,O⟩
 refine oF (c.ld 1 rfl rfl) (ed p1 (ed p2 (ed M (ed N (ed r1 ?_)))));rw[P,ei];simp only[ rV]at o;refine⟨R,fI (fI ⟨k-1,by omega,?_⟩)⟩;rw[i];refine⟨j+1,rfl,by omega,m.trans S,?_⟩;rw[n,PO,List.map_singleton,SW];exact o
def zfM(fr:List Fw):Prop:=fr.length<=1000/\∀f∈fr,f.locals.length<=1000/\f.stack.length<=1000
theorem Wu(g:Good u){st:Nat}{fs:List Fm}(a:u.eh[st]? =some fs):zfM (fs.map (Sd ef)):=by
 let⟨_,e,b⟩:=g.st st fs a
 refine⟨by rw[EN];omega,λf c=>?_⟩;obtain⟨x,d,rfl⟩:=Mv.1 c
 let⟨h,i,_⟩:=b x d
 simp[Sd,EN];omega
def ExR(F:Nat->Prop)(h:Hp)(e:Ex)(hp:List Int)(a d:Int)(w:V):Prop:=(e = .Ac/\a=0/\w = .ee)\/∃n fr,e = .left n fr hp/\a=1/\d=(n:Int)/\ie eFw F h fr w/\zfM fr
end
