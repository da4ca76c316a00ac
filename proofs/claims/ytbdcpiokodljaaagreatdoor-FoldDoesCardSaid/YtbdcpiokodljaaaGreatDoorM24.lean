/- Parts. -/
import Derived.Test.YtbdcpiokodljaaaGreatDoorM23
import Derived.Test.YtbdcpiokodljaaaGreatDoorM16
set_option maxHeartbeats 4000000
namespace Go.Proofs.YtbdcpiokodljaaaGreatDoor.Hx
open Un
def eZ:qH Int where
 sz:=1
 rel _ _ n cs:=cs=[.I n]
 len h:=by simp_all
 one h:=by subst h;rfl
 fi _ h:=h
 mono _ h:=h
def eW:qH (Nat×Nat) where
 sz:=2
 rel _ _ x cs:=cs=[.I (x.1:Nat),.I (x.2:Nat)]
 len h:=by simp_all
 one h:=by subst h;rfl
 fi _ h:=h
 mono _ h:=h
structure zQ (F:Nat->Prop) (h:Hp) (u:U) (vv vb vs:V):Prop where
 v:ie eV F h u.ef vv
 b:ie eK F h u.blocks vb
 s:ie eT F h u.eh vs
theorem zQ.fi{F:Nat->Prop}{h h':Hp}{u:U}{vv vb vs:V}(hk:∀l,F l->h'.get l=h.get l)(a:zQ F h u vv vb vs):zQ F h' u vv vb vs:=⟨a.v.fi hk,a.b.fi hk,a.s.fi hk⟩
theorem zQ.mono{F F':Nat->Prop}{h:Hp}{u:U}{vv vb vs:V}(hk:∀l,F l->F' l)(a:zQ F h u vv vb vs):zQ F' h u vv vb vs:=⟨a.v.mono hk,a.b.mono hk,a.s.mono hk⟩
theorem zQ.one{F:Nat->Prop}{h:Hp}{u:U}{vv vb vs:V}(a:zQ F h u vv vb vs):gv (uC u vv vb vs)=true:=by simp only[uC,eo,a.v.one,a.b.one,a.s.one];rfl
theorem ie.since{α:Type}{E:qH α}{F F':Nat->Prop}{h h':Hp}{xs:List α}{v:V}(hs:ie E F h xs v)(s:Sn F h F' h'):ie E F' h' xs v:=(hs.fi s.fi).mono s.mono
theorem zQ.since{F F':Nat->Prop}{h h':Hp}{u:U}{vv vb vs:V}(a:zQ F h u vv vb vs)(s:Sn F h F' h'):zQ F' h' u vv vb vs:=(a.fi s.fi).mono s.mono
section
variable{F F':Nat->Prop}{h h':Hp}{cs:List Pc}{Q:fo}{u:U}{vv vb vs:V}
structure zgd (h:Hp) (l o:Nat) (x:Vl) (w:V):Prop where
 op:ez (.ptr l (o+0)) h=some (.I x.op)
 a:ez (.ptr l (o+1)) h=some (.I x.a)
 b:ez (.ptr l (o+2)) h=some (.I x.b)
 n:ez (.ptr l (o+3)) h=some (.I x.n)
 args:ez (.ptr l (o+4)) h=some w
 st:ez (.ptr l (o+5)) h=some (.I x.state)
structure zfs (h:Hp) (l o:Nat) (x:Bk) (v n p:V):Prop where
 ef:ez (.ptr l (o+0)) h=some v
 fin:ez (.ptr l (o+1)) h=some (.I x.fin)
 cond:ez (.ptr l (o+2)) h=some (.I x.cond)
 next:ez (.ptr l (o+3)) h=some n
 eQ:ez (.ptr l (o+4)) h=some p
 st:ez (.ptr l (o+5)) h=some (.I x.state)
theorem zQ.val(a:zQ F h u vv vb vs){i:Nat}{x:Vl}(c:u.ef[i]? =some x) :
  ∃l o w,F l/\gG 6 vv (.I i)=some (.ptr l o)/\fX 6 (.ptr l o) h=some (.agg (mW x w))/\ie eN F h x.args w/\zgd h l o x w:=by
 obtain⟨hi,rfl⟩:=kj.1 c;obtain⟨l,o,w,d,e,f,⟨a,rfl,g⟩,b⟩:=a.v.ix hi .i64;exact⟨l,o,a,d,e,f,g,⟨b 0 _ rfl,b 1 _ rfl,b 2 _ rfl,b 3 _ rfl,b 4 _ rfl,b 5 _ rfl⟩⟩
theorem zQ.nV(a:zQ F h u vv vb vs){i:Nat}{x:Bk}(d:u.blocks[i]? =some x) :
  ∃l o v n p,F l/\gG 6 vb (.I i)=some (.ptr l o)/\fX 6 (.ptr l o) h=some (.agg (lB x v n p))/\ie eN F h x.ef v/\ie eN F h x.next n/\ie eN F h x.eQ p/\zfs h l o x v n p:=by
 obtain⟨hi,rfl⟩:=kj.1 d;obtain⟨l,o,w,e,f,g,⟨v,n,p,rfl,j,k,m⟩,c⟩:=a.b.ix hi .i64;exact⟨l,o,v,n,p,e,f,g,j,k,m,⟨c 0 _ rfl,c 1 _ rfl,c 2 _ rfl,c 3 _ rfl,c 4 _ rfl,c 5 _ rfl⟩⟩
theorem zQ.st(a:zQ F h u vv vb vs){i:Nat}{x:List Fm}(b:u.eh[i]? =some x) :
  ∃l o f,F l/\gG 1 vs (.I i)=some (.ptr l o)/\fX 1 (.ptr l o) h=some (.agg [f])/\ez (.ptr l o) h=some f/\ie eF F h x f:=by
 obtain⟨hi,rfl⟩:=kj.1 b;obtain⟨l,o,w,c,d,e,⟨f,rfl,g⟩,j⟩:=a.s.ix hi .i64;exact⟨l,o,f,c,d,e,j 0 f rfl,g⟩
theorem ie.mN{fs:List Fm}{f:V}(a:ie eF F h fs f){i:Nat}{x:Fm}(c:fs[i]? =some x) :
  ∃l o a b,F l/\gG 4 f (.I i)=some (.ptr l o)/\fX 4 (.ptr l o) h=some (.agg (LL x a b))/\ie eN F h x.locals a/\ie eN F h x.stack b:=by
 obtain⟨hi,rfl⟩:=kj.1 c;obtain⟨l,o,w,d,e,g,⟨a,b,rfl,j,k⟩,_⟩:=a.ix hi .i64;exact⟨l,o,a,b,d,e,g,j,k⟩
theorem ie.nat{xs:List Nat}{v:V}(a:ie eN F h xs v){i x:Nat}(b:xs[i]? =some x)(kd:IntKind):∃l o,F l/\gG 1 v (.int kd (i:Nat))=some (.ptr l o)/\ez (.ptr l o) h=some (.I x):=by
 obtain ⟨hi,rfl⟩:=kj.1 b;obtain⟨l,o,w,d,e,f,c⟩:=a.Wd hi kd rfl;obtain rfl:w = .I (xs[i]:Nat):=by
  have:[w]=[V.I (xs[i]:Nat)]:=c
  simp_all
 grind
theorem ie.int{xs:List Int}{v:V}(a:ie eZ F h xs v){i:Nat}{x:Int}(b:xs[i]? =some x)(kd:IntKind):∃l o,F l/\gG 1 v (.int kd (i:Nat))=some (.ptr l o)/\ez (.ptr l o) h=some (.I x):=by
 obtain ⟨hi,rfl⟩:=kj.1 b;obtain⟨l,o,w,d,e,f,c⟩:=a.Wd hi kd rfl;obtain rfl:w = .I xs[i]:=by
  have:[w]=[V.I xs[i]]:=c
  simp_all
 grind
theorem ie.bool{xs:List Bool}{v:V}(a:ie eB F h xs v){i:Nat}{x:Bool}(b:xs[i]? =some x)(kd:IntKind):∃l o,F l/\gG 1 v (.int kd (i:Nat))=some (.ptr l o)/\ez (.ptr l o) h=some (.bool x):=by
 obtain ⟨hi,rfl⟩:=kj.1 b;obtain⟨l,o,w,d,e,f,c⟩:=a.Wd hi kd rfl;obtain rfl:w = .bool xs[i]:=by
  have:[w]=[V.bool xs[i]]:=c
  simp_all
 grind
theorem ie.list{α:Type}{E:qH α}{xs:List (List α)}{v:V}(a:ie (eL E) F h xs v){i:Nat}{x:List α}(b:xs[i]? =some x)(kd:IntKind):∃l o w,F l/\gG 1 v (.int kd (i:Nat))=some (.ptr l o)/\ez (.ptr l o) h=some w/\ie E F h x w:=by
 obtain⟨hi,rfl⟩:=kj.1 b;obtain⟨l,o,w,c,d,e,f,g,j⟩:=a.Wd hi kd rfl
 grind
theorem tI{t:Nat}{k:IntKind}{a b:Int}{A B:Prop}(h:if a=b then B else A):oP (en .neq t (.int k a) (.int k b)) λv=>bP v A B:=by
 simp_all
theorem VT{t:Nat}{k:IntKind}{a b:Int}{A B:Prop}(h:if b<=a then A else B):oP (en .geq t (.int k a) (.int k b)) λv=>bP v A B:=by
 simp_all
theorem ieq(a b:Nat):((a:Int) == (b:Int))=(a == b):=by
 grind
theorem ij{t:Nat}{k:IntKind}{a b:Int}{K:V->Prop}(h:K (.bool (decide (a=b)))):oP (en .eql t (.int k a) (.int k b)) K:=by
 rw[gO]
 grind[decide,oP]
def og(op:Nat):Nat:=if two op=true then 2 else if nW op=true then 1 else 0
theorem OB{op:Nat}(H:Q (.I (og op:Nat)) h):cP CS vU [.I op] h Q:=by
 refine Tw rfl rfl ?_;unfold Mj;have r9:∀b:Bool,(b=true->nW op=true/\two op≠true)->(b=false->nW op≠true/\two op≠true)->gQ CS Q (.bool b) h:=by
  intro b t u;refine OR ?_;unfold Hi;rw[iy];unfold og at H
  cases b with
  |true=>simp_all
  |false=>simp_all
 have a:∀b:Bool,b=two op->iA CS Q (.I op) (.bool b) h:=by
  intro b o;refine NZ ?_;unfold G2;rw[iy]
  cases b with
  |true=>simp_all[og,if_pos]
  | false=>
    have m:two op≠true:=by rw[<-o];simp
    rw[if_neg (by simp)];refine ij ?_;rw[iy];split
    ·grind[absurd,gQ,CS,og,Un.nW,Un.two,gQ,CS,Un.two,Un.two]
    rename_i d;refine ij ?_;rw[iy];split
    ·grind[absurd,gQ,CS,og,Un.nW,Un.two,gQ,CS,Un.two,Un.two]
    rename_i f;refine ij ?_;rw[iy];split
    ·grind[absurd,gQ,CS,og,Un.nW,Un.two,gQ,CS,Un.two,Un.two]
    rename_i g;refine ij ?_;rw[iy];split
    ·grind[absurd,gQ,CS,og,Un.nW,Un.two,gQ,CS,Un.two,Un.two]
    rename_i i;refine ij ?_;rw[iy];split
    ·grind[absurd,gQ,CS,og,Un.nW,Un.two,gQ,CS,Un.two,Un.two]
    rename_i j;refine ij ?_;simp at d f g i j;refine r9 _ (λe=>⟨?_,m⟩) λe=>⟨?_,m⟩
    ·grind[Un.nW,og,Un.nW,Un.two,gQ,CS,Un.two,Un.two]
    ·have e:=of_decide_eq_false e
     intro hq;unfold nW at hq
     grind
 have c:∀n:Nat,(op:Int)=n->(two n=true)->two op=true:=by grind
 refine ij ?_;rw[iy];split
 ·rename_i e;exact a _ (e.trans (c 3 (by simp_all) rfl).symm)
 rename_i d;refine ij ?_;rw[iy];split
 ·rename_i e;exact a _ (e.trans (c 4 (by simp_all) rfl).symm)
 rename_i f;refine ij ?_;rw[iy];split
 ·rename_i e;exact a _ (e.trans (c 5 (by simp_all) rfl).symm)
 rename_i g;refine ij ?_;rw[iy];split
 ·rename_i e;exact a _ (e.trans (c 6 (by simp_all) rfl).symm)
 rename_i i;refine ij ?_;rw[iy];split
 ·rename_i e;exact a _ (e.trans (c 7 (by simp_all) rfl).symm)
 rename_i j;refine ij ?_;rw[iy];split
 ·rename_i e;exact a _ (e.trans (c 10 (by simp_all) rfl).symm)
 rename_i p;refine ij ?_;rw[iy];split
 ·rename_i e;exact a _ (e.trans (c 11 (by simp_all) rfl).symm)
 rename_i q;refine ij ?_;rw[iy];split
 ·rename_i e;exact a _ (e.trans (c 12 (by simp_all) rfl).symm)
 rename_i r;refine ij ?_;rw[iy];split
 ·rename_i e;exact a _ (e.trans (c 13 (by simp_all) rfl).symm)
 rename_i s;refine ij ?_;rw[iy];split
 ·rename_i e;exact a _ (e.trans (c 14 (by simp_all) rfl).symm)
 rename_i Nj;refine ij ?_;rw[iy];split
 ·rename_i e;exact a _ (e.trans (c 18 (by simp_all) rfl).symm)
 rename_i k;refine ij ?_;rw[iy];split
 ·rename_i e;exact a _ (e.trans (c 19 (by simp_all) rfl).symm)
 rename_i l;refine ij (a _ ?_);simp at d f g i j p q r s Nj k l;rw[Ue];unfold two
 grind
theorem HV{op:Nat}(H:Q (.bool (leaves op)) h):cP CS oL [.I op] h Q:=by
 refine Rz rfl rfl ?_
 grind[Ku,leaves,Int,ieq,gO,iL,fe,pK,CS,Un.leaves]
theorem A9{a b:Nat}(H:Q (.bool (decide (a<b))) h):cP CS lj [.I a,.I b] h Q:=by
 refine Sb rfl rfl ?_
 grind[MA,oS,iL,fe,jT,j6,decide,Int,CS]
theorem Bs{xs:List Nat}{a b:V}(c:ie eN F h xs a)(d:ie eN F h xs b)(r:xs.length<1000000000)(H:Q (.bool true) h):cP CS gX [a,b] h Q:=by
 refine FE rfl rfl ?_;unfold yg;refine ed c.len (ed d.len (tI (gj rfl (ed c.len ?_))));refine BU (λk e f g j h'=>∃i:Nat,e=a/\f=b/\g = .I xs.length/\j = .I (i:Nat)/\i+k=xs.length/\h' = h) ?_ (k:=xs.length) (by simp_all);rintro k e f g j h' ⟨i,rfl,rfl,rfl,rfl,hk,rfl⟩;unfold tA;by_cases hi:i<xs.length
 ·refine gy ?_;obtain⟨l,o,_,m,n⟩:=c.nat (hO hi) .i64;obtain⟨s,t,_,p,q⟩:=d.nat (hO hi) .i64;refine ed m (ed n (ed p (ed q (tI (gj rfl ?_)))));exact fI ⟨k-1,by omega,i+1,rfl,rfl,rfl,rfl,by omega,rfl⟩
 ·exact iI H
end
open Un
theorem zft:∀{l:List Nat}(h:0<l.length),l.take 1=[l[0]]
 |y::l,_=>by simp
theorem M0(x:Vl):iP x=([x.a,x.b].take (og x.op))++(if x.op=20 then x.args.take 1 else if x.op=21 then x.args else[]):=by
 unfold iP og;by_cases c:x.op=21
 ·grind[two,nW]
 ·rw[if_neg c];by_cases d:x.op=20
  ·grind[two]
  grind
section
variable{F F':Nat->Prop}{h h':Hp}{cs:List Pc}{Q:fo}{u:U}{vv vb vs:V}
theorem J0{x:Vl}(a:x.op=21\/x.op=20->x.args.length<=700):(iP x).length<=1000:=by
 rw[M0]
 grind
theorem KT(T:ej F h cs){x:Vl}{c:V}(P:ie eN F h x.args c)(R:x.op=21\/x.op=20->x.args.length<=1000000)(H:∀F' h' v,Sn F h F' h'->ej F' h' cs->ie eN F' h' (iP x) v->Q v h'):cP CS qb [.agg (mW x c)] h Q:=by
 refine UM rfl rfl ?_;unfold Ns;have U:gv (mW x c)=true:=by simp only[mW,eo,P.one];rfl
 rw[FH U,fE];obtain⟨C,D⟩:=T.zT gP (mW x c);have n1:(h.new (.cells 45 1 true false (mW x c))).next=h.next+1:=rfl;have C:ej F (h.new (.cells 45 1 true false (mW x c))) (ey h.next gP (mW x c)::cs):=C;have D:Sn F h F (h.new (.cells 45 1 true false (mW x c))):=D;generalize h.new (.cells 45 1 true false (mW x c))=d at*;rw[GX,g0];obtain⟨s,G⟩:=C.Xq (E:=eN) (xs:=[]) (ws:=[]) (n:=0) ev rfl trivial rfl;have s:ej F (d.new (.cells 3 1 true false [])) (eJ eN ev [] (.slice d.next 0 0)::ey h.next gP (mW x c)::cs):=s;have G:Sn F d F (d.new (.cells 3 1 true false [])):=G;have g2:(d.new (.cells 3 1 true false [])).get d.next=some (.cells 3 1 true false []):=fh _ _;have n2:(d.new (.cells 3 1 true false [])).next=d.next+1:=rfl;generalize d.new (.cells 3 1 true false [])=i at*;refine ed (by rfl) (ed (s.ld 1 rfl rfl) (ed (by rfl) (ed (s.ld 1 rfl rfl) ?_)));rw[nx2,g0];obtain⟨j,I⟩:=s.Xq (E:=eN) (xs:=[x.a,x.b]) (ws:=gZ [x.a,x.b]) (n:=2) ev rfl (yd _ _ _) (NA _);have j:ej F (i.new (.cells 3 1 true false (gZ [x.a,x.b]))) (eJ eN ev [x.a,x.b] (.slice i.next 0 2)::eJ eN ev [] (.slice d.next 0 0)::ey h.next gP (mW x c)::cs):=j;have I:Sn F i F (i.new (.cells 3 1 true false (gZ [x.a,x.b]))):=I;have g3:(i.new (.cells 3 1 true false (gZ [x.a,x.b]))).get i.next=some (.cells 3 1 true false (gZ [x.a,x.b])):=fh _ _;have W:(i.new (.cells 3 1 true false (gZ [x.a,x.b]))).get d.next=some (.cells 3 1 true false []):=by grind[fj,trans]
 generalize i.new (.cells 3 1 true false (gZ [x.a,x.b]))=X at*;refine ed (by rfl) (ed (j.ld 2 rfl rfl) ⟨by simp_all,j.ld 2 rfl rfl,j.ld 2 rfl rfl,by simp_all,?_⟩);refine OB ⟨ju _,?_⟩;have hp:og x.op<=2:=by
  unfold og;split
  ·omega
  ·grind
 obtain⟨t,J,S⟩:=j.zeT 0 rfl (n:=og x.op) hp;refine ed J ⟨by simp_all,j.ld 2 rfl rfl,j.ld 2 rfl rfl,by simp_all,?_⟩;simp only[mP]at S;obtain⟨g,r,K,Y,k,Z⟩:=S.za8 1 0 rfl rfl (kL:=8) (by decide) (by decide) (by simp;omega);have u:eR 3 1 8 (.slice d.next 0 0) t X=some (.val g r):=K;rw[u,ei];refine⟨Y,?_⟩;simp only[rV,mP,O7]at k;have w:=((D.trans G).trans I).trans Z;have o:ie eN F r x.args c:=(P.fi w.fi)
 have p:∀(F':Nat->Prop) (h':Hp) (v:V) (l:List Nat),Sn F r F' h'->ej F' h' (eJ eN ev ([x.a,x.b].take (og x.op)) t::eJ eN ev l v::ey h.next gP (mW x c)::cs)->l=iP x->uL CS Q v h':=by
  intro F' h' v l sF HF L;subst L;refine O2 ?_;unfold I9;obtain⟨y,z,r6⟩:=HF.jZ 1 rfl;exact H _ _ v ((w.trans sF).trans z) y.tail.tail.tail r6
 refine ed (by rfl) (ed (k.ld 2 rfl rfl) ?_);by_cases M:x.op=20
 ·have R:=by omega
  refine fZ (gj (by omega) ?_);refine ed (by rfl) (ed (k.ld 2 rfl rfl) (ed (by rfl) (ed (k.ld 2 rfl rfl) (ed o.len (ed (Yy _ _ _ _) ?_)))));have em:(if false=true then max (1:Int) (x.args.length:Nat) else min (1:Int) (x.args.length:Nat))=((min 1 x.args.length:Nat):Int):=by simp;omega
  rw[em];obtain⟨N,O,A⟩:=o.cut (lo:=none) (hi:=some (.I ((min 1 x.args.length:Nat):Int))) (m:=0) (n:=min 1 x.args.length) rfl (by rfl) (Ol _) (by omega);refine ed O ?_;rw[wBS]at A;obtain⟨e,B,q,n6,y,z⟩:=k.Pf 1 rfl (kL:=8) A (by decide) (by decide) (by simp;omega);have f:eR 3 1 8 g N r=some (.val e B):=q;rw[f,ei];refine p F B e _ z y ?_;rw[M0,if_pos M]
  simp_all
 refine fZ (fU (by omega) ?_);by_cases aa:x.op=21
 ·have R:=by omega
  refine fZ (gj (by omega) ?_);refine ed (by rfl) (ed (k.ld 2 rfl rfl) ?_);obtain⟨e,B,q,n6,y,z⟩:=k.Pf 1 rfl (kL:=8) o (by decide) (by decide) (by simp;omega);have f:eR 3 1 8 g c r=some (.val e B):=q;rw[f,ei];refine p F B e _ z y ?_
  simp_all[M0,if_neg,if_pos]
 ·refine fZ (fU (by omega) ?_);refine p F r g _ (Sn.refl _ _) k ?_
  simp_all[M0,if_neg,JY]
end
open Un
section
variable{F F':Nat->Prop}{h h':Hp}{cs:List Pc}{Q:fo}{u:U}{vv vb vs:V}
def Pq(op:Nat):Bool:=two op&&op != 20
theorem OH(A:ej F h cs){x:Vl}{j:V}(w:ie eN F h x.args j)(H:∀F' h' v,Sn F h F' h'->ej F' h' cs->ie eN F' h' (iP x) v->Q v h'):cP CS j7 [.agg (mW x j)] h Q:=by
 refine Gi rfl rfl ?_;unfold yP;have B:gv (mW x j)=true:=by simp only[mW,eo,w.one];rfl
 rw [FH B,fE];obtain⟨c,p⟩:=A.zT gP (mW x j);have c:ej F (h.new (.cells 45 1 true false (mW x j))) (ey h.next gP (mW x j)::cs):=c;have p:Sn F h F (h.new (.cells 45 1 true false (mW x j))):=p;generalize h.new (.cells 45 1 true false (mW x j))=q at*;have r:=w.fi p.fi;have fin:∀(xs:List Nat),xs=iP x->Q (.slice q.next 0 xs.length) (q.new (.cells 3 1 true false (gZ xs))):=by
  intro xs e;obtain⟨s,y,C⟩:=c.ZY (E:=eN) (n:=xs.length) ev rfl (yd F q xs) false;have:=H _ _ _ (p.trans y) s.tail (by rw[<-e];exact C);exact this
 have r9:∀b:Bool,(b=true->nW x.op=true/\Pq x.op≠true)->(b=false->nW x.op≠true/\Pq x.op≠true)->il CS Q (.ptr h.next 0) (.I x.op) (.bool b) q:=by
  intro b t D;refine Dp ?_;unfold uR;rw[iy]
  cases b with
  | true=>
    rw[if_pos rfl];obtain⟨a1,a2⟩:=t rfl;refine ed (by rfl) (ed (c.ld 0 rfl rfl) ?_);rw[show jK 3 1 1 (V.I 0) [(0,V.I (x.a:Nat))]=some (.cells 3 1 true false (gZ [x.a]),λl=> .slice l 0 1) from rfl,fE];refine fin [x.a] ?_;unfold Pq at a2;unfold nW at a1;unfold iP two nW;simp only[RC,IE]at a1
    rcases a1 with((((e|e)|e)|e)|e)|e <;> rw[e] <;> rfl
  | false=>
    rw[if_neg (by simp)];obtain⟨a1,a2⟩:=D rfl;by_cases k:x.op=20
    ·refine fZ (gj (by omega) ?_)
     refine ed (by rfl) (ed (c.ld 0 rfl rfl) (ed r.len ?_));have R:iP x=x.a::x.b::x.args.take 1:=by unfold iP;rw[k];rfl
     by_cases S:x.args.length=0
     ·refine fZ (gj (by omega) ?_)
      refine ed (by rfl) (ed (c.ld 0 rfl rfl) (ed (by rfl) (ed (c.ld 0 rfl rfl) ?_)))
      grind[nx2,fE,wA4]
     ·refine fZ (fU (by omega) ?_)
      obtain⟨l,o,G,I,z⟩:=r.nat (i:=0) (hO (by omega)) .i64;refine ed (by rfl) (ed (c.ld 0 rfl rfl) (ed (by rfl) (ed (c.ld 0 rfl rfl) (ed (by rfl) (ed (c.ld 0 rfl rfl) (ed I (ed z ?_)))))));rw[show jK 3 1 3 (V.I 0) [(0,V.I (x.a:Nat)),(1,V.I (x.b:Nat)),(2,V.I (x.args[0]:Nat))]=some (.cells 3 1 true false (gZ [x.a,x.b,x.args[0]]),λl=> .slice l 0 3) from rfl,g0];obtain⟨s,y⟩:=c.grow (mw.new q (.cells 3 1 true false (gZ [x.a,x.b,x.args[0]])));refine⟨by grind[fh,O.kX],iR z (fj _ (c.fl _ G)),s.ld 0 rfl rfl,s.ld 0 rfl rfl,s.ld 0 rfl rfl,fin [x.a,x.b,x.args[0]] ?_⟩
      grind[zft]
    refine fZ (fU (by omega) ?_);by_cases u:x.op=21
    ·refine fZ (gj (by omega) ?_)
     refine ed (by rfl) (ed (c.ld 0 rfl rfl) ?_);refine H _ _ _ p c.tail ?_
     simp_all[iP,if_pos]
    ·refine fZ (fU (by omega) ?_)
     refine H _ _ _ p c.tail ?_;have:iP x=[]:=by
       unfold iP;rw[if_neg u,if_neg k,if_neg,if_neg a1];intro e;apply a2;unfold Pq;rw[e];simpa using k
     rw[this];exact .nil
 have d:∀b:Bool,b=Pq x.op->gg CS Q (.ptr h.next 0) (.I x.op) (.bool b) q:=by
  intro b g;refine Dl ?_;unfold uu;rw[iy]
  cases b with
  | true=>
    rw[if_pos rfl];refine ed (by rfl) (ed (c.ld 0 rfl rfl) (ed (by rfl) (ed (c.ld 0 rfl rfl) ?_)));rw[nx2,fE];refine fin [x.a,x.b] ?_;unfold Pq at g;have g:=g.symm;rw[yl,bne_iff_ne]at g;unfold iP;rw[if_neg,if_neg g.2,if_pos g.1];intro e;rw[e]at g
    exact absurd g.1 (by decide)
  | false=>
    have m:Pq x.op≠true:=by rw[<-g];simp
    rw[if_neg (by simp)];refine ij ?_;rw[iy];split
    ·rename_i e;refine r9 _ (λ_=>⟨?_,m⟩) (by grind)
     have:x.op=8:=by simp at e;omega
     rw[this];rfl
    rename_i J;have J:x.op≠8:=by grind
    refine ij ?_;rw[iy];split
    ·rename_i e;refine r9 _ (λ_=>⟨?_,m⟩) (by grind)
     have:x.op=9:=by simp at e;omega
     rw[this];rfl
    rename_i K;have K:x.op≠9:=by grind
    refine ij ?_;rw[iy];split
    ·rename_i e;refine r9 _ (λ_=>⟨?_,m⟩) (by grind)
     have:x.op=15:=by simp at e;omega
     rw[this];rfl
    rename_i L;have L:x.op≠15:=by grind
    refine ij ?_;rw[iy];split
    ·rename_i e;refine r9 _ (λ_=>⟨?_,m⟩) (by grind)
     have:x.op=16:=by simp at e;omega
     rw[this];rfl
    rename_i M;have M:x.op≠16:=by grind
    refine ij ?_;rw[iy];split
    ·rename_i e;refine r9 _ (λ_=>⟨?_,m⟩) (by grind)
     have:x.op=17:=by simp at e;omega
     rw[this];rfl
    rename_i N;have N:x.op≠17:=by grind
    refine ij ?_;refine r9 _ (λe=>⟨?_,m⟩) λe=>⟨?_,m⟩
    ·have:x.op=22:=by simp at e;omega
     rw[this];rfl
    ·have e:=of_decide_eq_false e
     intro hq;unfold nW at hq
     grind
 have f:∀n:Nat,(x.op:Int)=n->(Pq n=true)->Pq x.op=true:=by grind
 refine ed (by rfl) (ed (c.ld 0 rfl rfl) ?_);refine ij ?_;rw[iy];split
 ·rename_i e;exact d _ (e.trans (f 3 (by simp_all) rfl).symm)
 rename_i T;refine ij ?_;rw[iy];split
 ·rename_i e;exact d _ (e.trans (f 4 (by simp_all) rfl).symm)
 rename_i U;refine ij ?_;rw[iy];split
 ·rename_i e;exact d _ (e.trans (f 5 (by simp_all) rfl).symm)
 rename_i W;refine ij ?_;rw[iy];split
 ·rename_i e;exact d _ (e.trans (f 6 (by simp_all) rfl).symm)
 rename_i X;refine ij ?_;rw[iy];split
 ·rename_i e;exact d _ (e.trans (f 7 (by simp_all) rfl).symm)
 rename_i Y;refine ij ?_;rw[iy];split
 ·rename_i e;exact d _ (e.trans (f 10 (by simp_all) rfl).symm)
 rename_i Z;refine ij ?_;rw[iy];split
 ·rename_i e;exact d _ (e.trans (f 11 (by simp_all) rfl).symm)
 rename_i f6;refine ij ?_;rw[iy];split
 ·rename_i e;exact d _ (e.trans (f 12 (by simp_all) rfl).symm)
 rename_i f7;refine ij ?_;rw[iy];split
 ·rename_i e;exact d _ (e.trans (f 13 (by simp_all) rfl).symm)
 rename_i f8;refine ij ?_;rw[iy];split
 ·rename_i e;exact d _ (e.trans (f 14 (by simp_all) rfl).symm)
 rename_i f9;refine ij ?_;rw[iy];split
 ·rename_i e;exact d _ (e.trans (f 18 (by simp_all) rfl).symm)
 rename_i P;refine ij (d _ ?_);rw[Ue];unfold Pq two
 grind
end
open Un
theorem pf{l o k:Nat}:fF k (.ptr l o)=some (.ptr l (o+k)):=fS _ _ _
theorem pn{l o:Nat}:hZ (.ptr l o)=some (.ptr l o):=fP _ _
theorem bq{e sz:Nat}{a b:Bool}{cs:List V}:O.beq (.cells e sz a b cs) (.cells e sz a b cs)=true:=O.kX _ _ _ _ _
theorem fx{X:Option V}{K:V->Prop}(h:oP X K):oP (fu false (.bool false)) λb=>oP (gV b X) K:=h
theorem fV{X:Option V}{K:V->Prop}(h:oP X K):oP (fu true (.bool true)) λb=>oP (gV b X) K:=h
theorem ik{X:Option V}{K:V->Prop}(h:K .undef):oP (fu true (.bool false)) λb=>oP (gV b X) K:=h
theorem PB{X:Option V}{K:V->Prop}(h:K .undef):oP (fu false (.bool true)) λb=>oP (gV b X) K:=h
theorem pY{C:fk}{f:Nat}{a:List V}{h:Hp}{K:fo}(H:cP C f a h K):oP (fu false (.bool false)) λb=>oP (gC b (some (f,a))) λy=>qN C y h K:=H
theorem vI{C:fk}{f:Nat}{a:List V}{h:Hp}{K:fo}(H:cP C f a h K):oP (fu true (.bool true)) λb=>oP (gC b (some (f,a))) λy=>qN C y h K:=H
theorem GY{C:fk}{f:Nat}{a:List V}{h:Hp}{K:fo}(H:K .undef h):oP (fu true (.bool false)) λb=>oP (gC b (some (f,a))) λy=>qN C y h K:=H
theorem xM{b:Bool}{A B:Prop}(h:if b=true then B else A):oP (pA .not (.bool b)) λv=>bP v A B:=by
 cases b <;> exact h
theorem mZ{X:Option V}{K:V->Prop}(a:X=some (.bool false))(H:K (.bool false)):oP (nt (.bool false) X) K:=by simp_all
theorem Nc{b:Bool}{K:V->Prop}(h:K (.bool (!b))):oP (pA .not (.bool b)) K:=h
section
variable{F F':Nat->Prop}{h h':Hp}{cs:List Pc}{Q:fo}{u:U}{vv vb vs:V}
theorem gW{T n:Nat}{b ws:List V}{K:fo}(H:ej F h cs)(d:b.length=n)(e:ws.length=n)(c:gv ws=true)(f:∀a,ej F a (ey h.next T ws::cs)->Sn F h F a->K (.ptr h.next 0) a) :
  hH (some (O.cells T 1 true false b,λl=>V.ptr l 0)) h λv c=>fg (gJ n v (.agg ws) c) λ_ a=>K v a:=by
 rw[fE];obtain⟨g,i⟩:=H.zT T b;obtain⟨a,j,_,k,m⟩:=g.stA 0 rfl e d c;rw[j,ei];exact f a k (i.trans m)
theorem jM{T:Nat}{ws:List V}{K:fo}(H:ej F h cs)(b:gv ws=true)(c:∀a,ej F a (ey h.next T ws::cs)->Sn F h F a->K (.ptr h.next 0) a):hH (mn T (.agg ws)) h K:=by
 rw[FH b,fE];obtain⟨d,e⟩:=H.zT T ws;exact c _ d e
theorem zdC{T:Nat}(xs:List Nat){ps:Option (O×(Nat->V))}(b:ps=some (O.cells T 1 true false (gZ xs),λl=> .slice l 0 xs.length)){K:fo}(H:ej F h cs)
  (c:∀F' a v,ej F' a cs->Sn F h F' a->ie eN F' a xs v->K v a):hH ps h K:=by
 subst b;rw[fE];obtain⟨d,e,r1⟩:=H.ZY (E:=eN) T rfl (yd F h xs) false;exact c _ _ _ d e r1
theorem rS{T:Nat}(x:Nat):jK T 1 1 (V.I 0) [(0,V.I x)]=some (.cells T 1 true false (gZ [x]),λl=> .slice l 0 1):=rfl
structure Ck (F:Nat->Prop) (h:Hp) (cs:List Pc) (lc:Nat) (u:U) (vv vb vs bl pl GJ:V):Prop where
 H:ej F h cs
 c:∃(i ty:Nat),cs[i]? =some (ey lc ty [.I u.func,.I u.pc,vv,vb,vs,bl,pl,GJ])
 u:zQ F h u vv vb vs
variable{lc:Nat}{bl pl GJ:V}
theorem Ck.since(C:Ck F h cs lc u vv vb vs bl pl GJ)(s:Sn F h F' h')(a:ej F' h' cs):Ck F' h' cs lc u vv vb vs bl pl GJ:=⟨a,C.c,C.u.since s⟩
theorem Ck.cons(C:Ck F h cs lc u vv vb vs bl pl GJ)(s:Sn F h F' h'){p:Pc} (a:ej F' h' (p::cs)):Ck F' h' (p::cs) lc u vv vb vs bl pl GJ:=
 ⟨a,let⟨i,ty,hc⟩:=C.c;⟨i+1,ty,hc⟩,C.u.since s⟩
theorem Ck.ld(C:Ck F h cs lc u vv vb vs bl pl GJ)(o:Nat){y:V}(a:[.I u.func,.I u.pc,vv,vb,vs,bl,pl,GJ][o]? =some y):ez (.ptr lc o) h=some y:=
 let⟨i,_,hc⟩:=C.c;C.H.ld i hc a
theorem OA{a0 c:V}{n:Nat}(l:n<1000000)(P:(Nat->Prop)->Hp->Prop)(h0:P F h)
  (step:∀i,i<n->∀F' h',P F' h'->∀e:V->Hp->Prop,(∀a b,P a b->e (.bool true) b)->hV CS (gi c [.I (i:Nat)]) h' e) (H:∀F' h',P F' h'->Q (.bool true) h') :
  cP CS j4 [a0,.I n,c] h Q:=by
 refine Ko rfl rfl ?_;unfold CJ;refine GV (λk f g j h'=>∃(F':Nat->Prop) (i:Nat),f = .I n/\g=c/\j = .I i/\i+k=n/\P F' h') ?_ (k:=n) ⟨F,0,rfl,rfl,rfl,by omega,h0⟩;rintro k f g j h' ⟨F',i,rfl,rfl,rfl,hk,hp⟩;unfold zG;by_cases hi:i<n
 ·refine gy ?_;refine step i hi F' h' hp _ λa b d=>?_;refine xM (gj rfl ?_);exact fI ⟨k-1,by omega,a,i+1,rfl,rfl,rfl,by omega,d⟩
 ·exact iI (H F' h' hp)
theorem KL(C:Ck F h cs lc u vv vb vs bl pl GJ){l:List Nat}{v:V}(b:ie eN F h l v)(r:l.length<1000000)(j:∀w∈l,oJ u w)(H:Q (.bool true) h):cP CS jr [.ptr lc 0,v] h Q:=by
 refine IP rfl rfl ?_;unfold z8;refine ed b.len ?_;refine Fu (λk c d e f h'=>∃i:Nat,c = .ptr lc 0/\d=v/\e = .I l.length/\f = .I (i:Nat)/\i+k=l.length/\h' = h) ?_ (k:=l.length) ⟨0,rfl,rfl,rfl,rfl,by omega,rfl⟩;rintro k c d e f h' ⟨i,rfl,rfl,rfl,rfl,hk,rfl⟩;unfold xx;by_cases hi:i<l.length
 ·refine gy ?_;obtain⟨l1,s,_,m,n⟩:=b.nat (hO hi) .i64;obtain⟨x,g,gx⟩:=j _ (AU hi);have a:=(kj.1 g).1;refine ed m (ed n (ed (fP _ _) (ed (fS _ _ _) (oF (C.ld 2 rfl) (ed C.u.v.len ?_)))));refine A9 (xM (gj (by simpa using a) ?_));obtain⟨l2,t,y,_,o,_,_,p⟩:=C.u.val g;refine ed (fP _ _) (ed (fS _ _ _) (oF (C.ld 2 rfl) (ed o (oF p.op ?_))));have q:x.op<19\/x.op=21:=by
   unfold KG at gx;simpa using gx
  refine ij (iJ (fU (by simp;omega) ?_));refine ij (iJ (fU (by simp;omega) ?_));refine ij (iJ (fU (by simp;omega) ?_));refine ij ?_;rw[OZ (by omega)];refine D1 ?_;unfold wP;refine iJ (fU (by simp) ?_);exact fI ⟨k-1,by omega,i+1,rfl,rfl,rfl,rfl,by omega,rfl⟩
 ·exact iI H
theorem YR(C:Ck F h cs lc u vv vb vs bl pl GJ){i:Nat}{fs:List Fm}(hs:u.eh[i]? =some fs)(G:1<=fs.length/\fs.length<=30)(x:∀f∈fs,f.locals.length<=40/\f.stack.length<=60/\(∀v∈f.locals,oJ u v)/\∀v∈f.stack,oJ u v)
  (H:∀h',Sn F h F h'->ej F h' cs->Q (.bool true) h'):cP CS mR [.ptr lc 0,.I i] h Q:=by
 refine Iz rfl rfl ?_;unfold Ap;obtain⟨l1,I,f,_,y,z,_,q⟩:=C.u.st hs;refine ed (fP _ _) (ed (fS _ _ _) (oF (C.ld 4 rfl) (ed y (ed z ?_))));refine gW C.H rfl rfl (by simp[q.one]) λJ n r=>?_;have s:=q.since r;refine oF (n.ld 0 rfl rfl) (ed s.len (ij ?_));rw[OZ (by omega),nr,fS,fe,n.ld 0 (o:=0+0) rfl rfl,fe,s.len,fe,oT];refine ed rfl (iJ (fU (by simp;omega) ?_));refine oF (n.ld 0 rfl rfl) (ed s.len ?_);have C2:=C.since r n.tail
 refine Fs (λk w c d e h'=>∃j:Nat,w = .ptr lc 0/\c=f/\d = .I fs.length/\e = .I (j:Nat)/\j+k=fs.length/\Sn F h F h'/\Ck F h' cs lc u vv vb vs bl pl GJ) ?_ (k:=fs.length)
  ⟨0,rfl,rfl,rfl,rfl,by omega,r,C2⟩
 rintro k w c d e h' ⟨j,rfl,rfl,rfl,rfl,hk,s',t⟩;unfold w9;by_cases hj:j<fs.length
 ·refine gy ?_;obtain⟨l3,K,a,b,_,A,B,g,l⟩:=(q.since s').mN (hO hj);refine ed A (ed B ?_);obtain⟨L,M,D,E⟩:=x _ (AU hj);refine gW t.H rfl rfl (by simp only[LL,eo,g.one,l.one];rfl) λN m p=>?_;have g:=g.since p;have l:=l.since p;have C3:=t.since p m.tail;refine oF (m.ld 0 rfl rfl) (ed g.len ?_);refine ed (oT _ _ _ _) ?_;rw[OZ (by omega),nr,fS,fe,m.ld 0 (o:=0+3) rfl rfl,fe,l.len,fe,oT,OZ (by omega)];refine ed rfl (fx (ed rfl (fx (ed (fS _ _ _) (fx (ed (m.ld 0 rfl rfl) (pY ?_)))))));refine KL C3 g (by omega) D (ed rfl (fx (ed rfl (fx (ed (fS _ _ _) (fx (ed (m.ld 0 rfl rfl) (pY ?_))))))));refine KL C3 l (by omega) E (ed rfl (iJ (fU (by simp) ?_)));exact fI ⟨k-1,by omega,j+1,rfl,rfl,rfl,rfl,by omega,s'.trans p,C3⟩
 ·exact iI (H h' s' t.H)
end
