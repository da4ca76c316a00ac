/- Parts. -/
import Derived.Test.YtflkbfabonggkaaGreatDoorM23
import Derived.Test.YtflkbfabonggkaaGreatDoorM16
set_option maxHeartbeats 4000000
namespace Go.Proofs.YtflkbfabonggkaaGreatDoor.Hx
open Un
def eZ:p8 Int where
 sz:=1
 rel _ _ n cs:=cs=[.I n]
 len h:=by simp_all
 one h:=by subst h;rfl
 fh _ h:=h
 mono _ h:=h
def eW:p8 (Nat×Nat) where
 sz:=2
 rel _ _ x cs:=cs=[.I (x.1:Nat),.I (x.2:Nat)]
 len h:=by simp_all
 one h:=by subst h;rfl
 fh _ h:=h
 mono _ h:=h
structure DA (F:Nat->Prop) (h:Hp) (u:U) (vv vb vs:V):Prop where
 v:iy eV F h u.ef vv
 b:iy eK F h u.blocks vb
 s:iy eT F h u.eh vs
theorem DA.fh{F:Nat->Prop}{h h':Hp}{u:U}{vv vb vs:V}(hk:∀l,F l->h'.get l=h.get l)(a:DA F h u vv vb vs):DA F h' u vv vb vs:=⟨a.v.fh hk,a.b.fh hk,a.s.fh hk⟩
theorem DA.mono{F F':Nat->Prop}{h:Hp}{u:U}{vv vb vs:V}(hk:∀l,F l->F' l)(a:DA F h u vv vb vs):DA F' h u vv vb vs:=⟨a.v.mono hk,a.b.mono hk,a.s.mono hk⟩
theorem DA.one{F:Nat->Prop}{h:Hp}{u:U}{vv vb vs:V}(a:DA F h u vv vb vs):gj (uC u vv vb vs)=true:=by simp only[uC,ey,a.v.one,a.b.one,a.s.one];rfl
theorem iy.since{α:Type}{E:p8 α}{F F':Nat->Prop}{h h':Hp}{xs:List α}{v:V}(hs:iy E F h xs v)(s:Sn F h F' h'):iy E F' h' xs v:=(hs.fh s.fh).mono s.mono
theorem DA.since{F F':Nat->Prop}{h h':Hp}{u:U}{vv vb vs:V}(a:DA F h u vv vb vs)(s:Sn F h F' h'):DA F' h' u vv vb vs:=(a.fh s.fh).mono s.mono
section
variable{F F':Nat->Prop}{h h':Hp}{cs:List Pc}{Q:ft}{u:U}{vv vb vs:V}
structure zfa (h:Hp) (l o:Nat) (x:Vl) (w:V):Prop where
 op:ez (.ptr l (o+0)) h=some (.I x.op)
 a:ez (.ptr l (o+1)) h=some (.I x.a)
 b:ez (.ptr l (o+2)) h=some (.I x.b)
 n:ez (.ptr l (o+3)) h=some (.I x.n)
 args:ez (.ptr l (o+4)) h=some w
 st:ez (.ptr l (o+5)) h=some (.I x.state)
structure zeJ (h:Hp) (l o:Nat) (x:Bk) (v n p:V):Prop where
 ef:ez (.ptr l (o+0)) h=some v
 fin:ez (.ptr l (o+1)) h=some (.I x.fin)
 cond:ez (.ptr l (o+2)) h=some (.I x.cond)
 next:ez (.ptr l (o+3)) h=some n
 eQ:ez (.ptr l (o+4)) h=some p
 st:ez (.ptr l (o+5)) h=some (.I x.state)
theorem DA.val(a:DA F h u vv vb vs){i:Nat}{x:Vl}(c:u.ef[i]? =some x) :
  ∃l o w,F l/\gz 6 vv (.I i)=some (.ptr l o)/\gv 6 (.ptr l o) h=some (.agg (my x w))/\iy eN F h x.args w/\zfa h l o x w:=by
 obtain⟨hi,rfl⟩:=jP.1 c;obtain⟨l,o,w,d,e,f,⟨a,rfl,g⟩,b⟩:=a.v.ix hi .i64;exact⟨l,o,a,d,e,f,g,⟨b 0 _ rfl,b 1 _ rfl,b 2 _ rfl,b 3 _ rfl,b 4 _ rfl,b 5 _ rfl⟩⟩
theorem DA.nf(a:DA F h u vv vb vs){i:Nat}{x:Bk}(d:u.blocks[i]? =some x) :
  ∃l o v n p,F l/\gz 6 vb (.I i)=some (.ptr l o)/\gv 6 (.ptr l o) h=some (.agg (kI x v n p))/\iy eN F h x.ef v/\iy eN F h x.next n/\iy eN F h x.eQ p/\zeJ h l o x v n p:=by
 obtain⟨hi,rfl⟩:=jP.1 d;obtain⟨l,o,w,e,f,g,⟨v,n,p,rfl,j,k,m⟩,c⟩:=a.b.ix hi .i64;exact⟨l,o,v,n,p,e,f,g,j,k,m,⟨c 0 _ rfl,c 1 _ rfl,c 2 _ rfl,c 3 _ rfl,c 4 _ rfl,c 5 _ rfl⟩⟩
theorem DA.st(a:DA F h u vv vb vs){i:Nat}{x:List Fm}(b:u.eh[i]? =some x) :
  ∃l o f,F l/\gz 1 vs (.I i)=some (.ptr l o)/\gv 1 (.ptr l o) h=some (.agg [f])/\ez (.ptr l o) h=some f/\iy eF F h x f:=by
 obtain⟨hi,rfl⟩:=jP.1 b;obtain⟨l,o,w,c,d,e,⟨f,rfl,g⟩,j⟩:=a.s.ix hi .i64;exact⟨l,o,f,c,d,e,j 0 f rfl,g⟩
theorem iy.l0{fs:List Fm}{f:V}(a:iy eF F h fs f){i:Nat}{x:Fm}(c:fs[i]? =some x) :
  ∃l o a b,F l/\gz 4 f (.I i)=some (.ptr l o)/\gv 4 (.ptr l o) h=some (.agg (Ou x a b))/\iy eN F h x.locals a/\iy eN F h x.stack b:=by
 obtain⟨hi,rfl⟩:=jP.1 c;obtain⟨l,o,w,d,e,g,⟨a,b,rfl,j,k⟩,_⟩:=a.ix hi .i64;exact⟨l,o,a,b,d,e,g,j,k⟩
theorem iy.nat{xs:List Nat}{v:V}(a:iy eN F h xs v){i x:Nat}(b:xs[i]? =some x)(kd:IntKind):∃l o,F l/\gz 1 v (.int kd (i:Nat))=some (.ptr l o)/\ez (.ptr l o) h=some (.I x):=by
 obtain ⟨hi,rfl⟩:=jP.1 b;obtain⟨l,o,w,d,e,f,c⟩:=a.Vc hi kd rfl;obtain rfl:w = .I (xs[i]:Nat):=by
  have:[w]=[V.I (xs[i]:Nat)]:=c
  simp_all
 grind
theorem iy.int{xs:List Int}{v:V}(a:iy eZ F h xs v){i:Nat}{x:Int}(b:xs[i]? =some x)(kd:IntKind):∃l o,F l/\gz 1 v (.int kd (i:Nat))=some (.ptr l o)/\ez (.ptr l o) h=some (.I x):=by
 obtain ⟨hi,rfl⟩:=jP.1 b;obtain⟨l,o,w,d,e,f,c⟩:=a.Vc hi kd rfl;obtain rfl:w = .I xs[i]:=by
  have:[w]=[V.I xs[i]]:=c
  simp_all
 grind
theorem iy.bool{xs:List Bool}{v:V}(a:iy eB F h xs v){i:Nat}{x:Bool}(b:xs[i]? =some x)(kd:IntKind):∃l o,F l/\gz 1 v (.int kd (i:Nat))=some (.ptr l o)/\ez (.ptr l o) h=some (.bool x):=by
 obtain ⟨hi,rfl⟩:=jP.1 b;obtain⟨l,o,w,d,e,f,c⟩:=a.Vc hi kd rfl;obtain rfl:w = .bool xs[i]:=by
  have:[w]=[V.bool xs[i]]:=c
  simp_all
 grind
theorem iy.list{α:Type}{E:p8 α}{xs:List (List α)}{v:V}(a:iy (eL E) F h xs v){i:Nat}{x:List α}(b:xs[i]? =some x)(kd:IntKind):∃l o w,F l/\gz 1 v (.int kd (i:Nat))=some (.ptr l o)/\ez (.ptr l o) h=some w/\iy E F h x w:=by
 obtain⟨hi,rfl⟩:=jP.1 b;obtain⟨l,o,w,c,d,e,f,g,j⟩:=a.Vc hi kd rfl
 grind
theorem yg{t:Nat}{k:IntKind}{a b:Int}{A B:Prop}(h:if a=b then B else A):oP (en .neq t (.int k a) (.int k b)) λv=>bP v A B:=by
 simp_all
theorem UQ{t:Nat}{k:IntKind}{a b:Int}{A B:Prop}(h:if b<=a then A else B):oP (en .geq t (.int k a) (.int k b)) λv=>bP v A B:=by
 simp_all
theorem ieq(a b:Nat):((a:Int) == (b:Int))=(a == b):=by
 grind
theorem gZ{t:Nat}{k:IntKind}{a b:Int}{K:V->Prop}(h:K (.bool (decide (a=b)))):oP (en .eql t (.int k a) (.int k b)) K:=by
 rw[ik]
 grind[decide,oP]
def mU(op:Nat):Nat:=if two op=true then 2 else if na op=true then 1 else 0
theorem MI{op:Nat}(H:Q (.I (mU op:Nat)) h):cP CS vz [.I op] h Q:=by
 refine Rf rfl rfl ?_;unfold LN;have r9:∀b:Bool,(b=true->na op=true/\two op≠true)->(b=false->na op≠true/\two op≠true)->gM CS Q (.bool b) h:=by
  intro b t u;refine MY ?_;unfold Gf;rw[ij];unfold mU at H
  cases b with
  |true=>simp_all
  |false=>simp_all
 have a:∀b:Bool,b=two op->im CS Q (.I op) (.bool b) h:=by
  intro b p;refine MS ?_;unfold GG;rw[ij]
  cases b with
  |true=>simp_all[mU,if_pos]
  | false=>
    have o:two op≠true:=by rw[<-p];simp
    rw[if_neg (by simp)];refine gZ ?_;rw[ij];split
    ·grind[absurd,gM,CS,mU,Un.na,Un.two,gM,CS,Un.two,Un.two]
    rename_i d;refine gZ ?_;rw[ij];split
    ·grind[absurd,gM,CS,mU,Un.na,Un.two,gM,CS,Un.two,Un.two]
    rename_i f;refine gZ ?_;rw[ij];split
    ·grind[absurd,gM,CS,mU,Un.na,Un.two,gM,CS,Un.two,Un.two]
    rename_i g;refine gZ ?_;rw[ij];split
    ·grind[absurd,gM,CS,mU,Un.na,Un.two,gM,CS,Un.two,Un.two]
    rename_i i;refine gZ ?_;rw[ij];split
    ·grind[absurd,gM,CS,mU,Un.na,Un.two,gM,CS,Un.two,Un.two]
    rename_i j;refine gZ ?_;simp at d f g i j;refine r9 _ (λe=>⟨?_,o⟩) λe=>⟨?_,o⟩
    ·grind[Un.na,mU,Un.na,Un.two,gM,CS,Un.two,Un.two]
    ·have e:=of_decide_eq_false e
     intro hq;unfold na at hq
     grind
 have c:∀n:Nat,(op:Int)=n->(two n=true)->two op=true:=by grind
 refine gZ ?_;rw[ij];split
 ·rename_i e;exact a _ (e.trans (c 3 (by simp_all) rfl).symm)
 rename_i d;refine gZ ?_;rw[ij];split
 ·rename_i e;exact a _ (e.trans (c 4 (by simp_all) rfl).symm)
 rename_i f;refine gZ ?_;rw[ij];split
 ·rename_i e;exact a _ (e.trans (c 5 (by simp_all) rfl).symm)
 rename_i g;refine gZ ?_;rw[ij];split
 ·rename_i e;exact a _ (e.trans (c 6 (by simp_all) rfl).symm)
 rename_i i;refine gZ ?_;rw[ij];split
 ·rename_i e;exact a _ (e.trans (c 7 (by simp_all) rfl).symm)
 rename_i j;refine gZ ?_;rw[ij];split
 ·rename_i e;exact a _ (e.trans (c 10 (by simp_all) rfl).symm)
 rename_i q;refine gZ ?_;rw[ij];split
 ·rename_i e;exact a _ (e.trans (c 11 (by simp_all) rfl).symm)
 rename_i r;refine gZ ?_;rw[ij];split
 ·rename_i e;exact a _ (e.trans (c 12 (by simp_all) rfl).symm)
 rename_i s;refine gZ ?_;rw[ij];split
 ·rename_i e;exact a _ (e.trans (c 13 (by simp_all) rfl).symm)
 rename_i e9;refine gZ ?_;rw[ij];split
 ·rename_i e;exact a _ (e.trans (c 14 (by simp_all) rfl).symm)
 rename_i k;refine gZ ?_;rw[ij];split
 ·rename_i e;exact a _ (e.trans (c 18 (by simp_all) rfl).symm)
 rename_i l;refine gZ ?_;rw[ij];split
 ·rename_i e;exact a _ (e.trans (c 19 (by simp_all) rfl).symm)
 rename_i m;refine gZ (a _ ?_);simp at d f g i j q r s e9 k l m;rw[Tf];unfold two
 grind
theorem Ld{op:Nat}(H:Q (.bool (leaves op)) h):cP CS pd [.I op] h Q:=by
 refine PY rfl rfl ?_
 grind[JK,leaves,Int,ieq,ik,hX,fe,pH,CS,Un.leaves]
theorem AS{a b:Nat}(H:Q (.bool (decide (a<b))) h):cP CS kH [.I a,.I b] h Q:=by
 refine SN rfl rfl ?_
 grind[LJ,nM,hX,fe,jB,jc,decide,Int,CS]
theorem YD{xs:List Nat}{a b:V}(c:iy eN F h xs a)(d:iy eN F h xs b)(r:xs.length<1000000000)(H:Q (.bool true) h):cP CS mw [a,b] h Q:=by
 refine EN rfl rfl ?_;unfold wR;refine ed c.len (ed d.len (yg (gi rfl (ed c.len ?_))));refine BE (λk e f g j h'=>∃i:Nat,e=a/\f=b/\g = .I xs.length/\j = .I (i:Nat)/\i+k=xs.length/\h' = h) ?_ (k:=xs.length) (by simp_all);rintro k e f g j h' ⟨i,rfl,rfl,rfl,rfl,hk,rfl⟩;unfold rr;by_cases hi:i<xs.length
 ·refine gG ?_;obtain⟨l,o,_,m,n⟩:=c.nat (gW hi) .i64;obtain⟨s,t,_,p,q⟩:=d.nat (gW hi) .i64;refine ed m (ed n (ed p (ed q (yg (gi rfl ?_)))));exact fL ⟨k-1,by omega,i+1,rfl,rfl,rfl,rfl,by omega,rfl⟩
 ·exact iJ H
end
open Un
theorem zea:∀{l:List Nat}(h:0<l.length),l.take 1=[l[0]]
 |y::l,_=>by simp
theorem Mc(x:Vl):iH x=([x.a,x.b].take (mU x.op))++(if x.op=20 then x.args.take 1 else if x.op=21 then x.args else[]):=by
 unfold iH mU;by_cases c:x.op=21
 ·grind[two,na]
 ·rw[if_neg c];by_cases d:x.op=20
  ·grind[two]
  grind
section
variable{F F':Nat->Prop}{h h':Hp}{cs:List Pc}{Q:ft}{u:U}{vv vb vs:V}
theorem Jx{x:Vl}(a:x.op=21\/x.op=20->x.args.length<=700):(iH x).length<=1000:=by
 rw[Mc]
 grind
theorem Qy(T:ej F h cs){x:Vl}{c:V}(P:iy eN F h x.args c)(R:x.op=21\/x.op=20->x.args.length<=1000000)(H:∀F' h' v,Sn F h F' h'->ej F' h' cs->iy eN F' h' (iH x) v->Q v h'):cP CS uy [.agg (my x c)] h Q:=by
 refine TM rfl rfl ?_;unfold Nf;have U:gj (my x c)=true:=by simp only[my,ey,P.one];rfl
 rw[E7 U,fx];obtain⟨C,D⟩:=T.zo gL (my x c);have n1:(h.new (.cells 49 1 true false (my x c))).next=h.next+1:=rfl;have C:ej F (h.new (.cells 49 1 true false (my x c))) (ev h.next gL (my x c)::cs):=C;have D:Sn F h F (h.new (.cells 49 1 true false (my x c))):=D;generalize h.new (.cells 49 1 true false (my x c))=d at*;rw[Gv,gR];obtain⟨s,G⟩:=C.V6 (E:=eN) (xs:=[]) (ws:=[]) (n:=0) eo rfl trivial rfl;have s:ej F (d.new (.cells 3 1 true false [])) (eJ eN eo [] (.slice d.next 0 0)::ev h.next gL (my x c)::cs):=s;have G:Sn F d F (d.new (.cells 3 1 true false [])):=G;have g2:(d.new (.cells 3 1 true false [])).get d.next=some (.cells 3 1 true false []):=fg _ _;have n2:(d.new (.cells 3 1 true false [])).next=d.next+1:=rfl;generalize d.new (.cells 3 1 true false [])=i at*;refine ed (by rfl) (ed (s.ld 1 rfl rfl) (ed (by rfl) (ed (s.ld 1 rfl rfl) ?_)));rw[nx2,gR];obtain⟨j,I⟩:=s.V6 (E:=eN) (xs:=[x.a,x.b]) (ws:=gP [x.a,x.b]) (n:=2) eo rfl (wF _ _ _) (MU _);have j:ej F (i.new (.cells 3 1 true false (gP [x.a,x.b]))) (eJ eN eo [x.a,x.b] (.slice i.next 0 2)::eJ eN eo [] (.slice d.next 0 0)::ev h.next gL (my x c)::cs):=j;have I:Sn F i F (i.new (.cells 3 1 true false (gP [x.a,x.b]))):=I;have g3:(i.new (.cells 3 1 true false (gP [x.a,x.b]))).get i.next=some (.cells 3 1 true false (gP [x.a,x.b])):=fg _ _;have W:(i.new (.cells 3 1 true false (gP [x.a,x.b]))).get d.next=some (.cells 3 1 true false []):=by grind[fj,trans]
 generalize i.new (.cells 3 1 true false (gP [x.a,x.b]))=X at*;refine ed (by rfl) (ed (j.ld 2 rfl rfl) ⟨by simp_all,j.ld 2 rfl rfl,j.ld 2 rfl rfl,by simp_all,?_⟩);refine MI ⟨iZ _,?_⟩;have hp:mU x.op<=2:=by
  unfold mU;split
  ·omega
  ·grind
 obtain⟨t,J,S⟩:=j.zd1 0 rfl (n:=mU x.op) hp;refine ed J ⟨by simp_all,j.ld 2 rfl rfl,j.ld 2 rfl rfl,by simp_all,?_⟩;simp only[je]at S;obtain⟨g,r,K,Y,k,Z⟩:=S.zaU 1 0 rfl rfl (jW:=8) (by decide) (by decide) (by simp;omega);have u:eR 3 1 8 (.slice d.next 0 0) t X=some (.val g r):=K;rw[u,ei];refine⟨Y,?_⟩;simp only[mA,je,SO]at k;have w:=((D.trans G).trans I).trans Z;have o:iy eN F r x.args c:=(P.fh w.fh)
 have p:∀(F':Nat->Prop) (h':Hp) (v:V) (l:List Nat),Sn F r F' h'->ej F' h' (eJ eN eo ([x.a,x.b].take (mU x.op)) t::eJ eN eo l v::ev h.next gL (my x c)::cs)->l=iH x->tK CS Q v h':=by
  intro F' h' v l sF HF L;subst L;refine Ov ?_;unfold Ir;obtain⟨y,z,r6⟩:=HF.jI 1 rfl;exact H _ _ v ((w.trans sF).trans z) y.tail.tail.tail r6
 refine ed (by rfl) (ed (k.ld 2 rfl rfl) ?_);by_cases M:x.op=20
 ·have R:=by omega
  refine fX (gi (by omega) ?_);refine ed (by rfl) (ed (k.ld 2 rfl rfl) (ed (by rfl) (ed (k.ld 2 rfl rfl) (ed o.len (ed (Zs _ _ _ _) ?_)))));have em:(if false=true then max (1:Int) (x.args.length:Nat) else min (1:Int) (x.args.length:Nat))=((min 1 x.args.length:Nat):Int):=by simp;omega
  rw[em];obtain⟨N,O,A⟩:=o.cut (lo:=none) (hi:=some (.I ((min 1 x.args.length:Nat):Int))) (m:=0) (n:=min 1 x.args.length) rfl (by rfl) (NJ _) (by omega);refine ed O ?_;rw[ZV]at A;obtain⟨e,B,q,n6,y,z⟩:=k.OB 1 rfl (jW:=8) A (by decide) (by decide) (by simp;omega);have f:eR 3 1 8 g N r=some (.val e B):=q;rw[f,ei];refine p F B e _ z y ?_;rw[Mc,if_pos M]
  simp_all
 refine fX (fU (by omega) ?_);by_cases aa:x.op=21
 ·have R:=by omega
  refine fX (gi (by omega) ?_);refine ed (by rfl) (ed (k.ld 2 rfl rfl) ?_);obtain⟨e,B,q,n6,y,z⟩:=k.OB 1 rfl (jW:=8) o (by decide) (by decide) (by simp;omega);have f:eR 3 1 8 g c r=some (.val e B):=q;rw[f,ei];refine p F B e _ z y ?_
  simp_all[Mc,if_neg,if_pos]
 ·refine fX (fU (by omega) ?_);refine p F r g _ (Sn.refl _ _) k ?_
  simp_all[Mc,if_neg,Jk]
def On(op:Nat):Bool:=two op&&op != 20
theorem N1(A:ej F h cs){x:Vl}{j:V}(w:iy eN F h x.args j)(H:∀F' h' v,Sn F h F' h'->ej F' h' cs->iy eN F' h' (iH x) v->Q v h'):cP CS jJ [.agg (my x j)] h Q:=by
 refine FB rfl rfl ?_;unfold xS;have B:gj (my x j)=true:=by simp only[my,ey,w.one];rfl
 rw [E7 B,fx];obtain⟨c,p⟩:=A.zo gL (my x j);have c:ej F (h.new (.cells 49 1 true false (my x j))) (ev h.next gL (my x j)::cs):=c;have p:Sn F h F (h.new (.cells 49 1 true false (my x j))):=p;generalize h.new (.cells 49 1 true false (my x j))=q at*;have r:=w.fh p.fh;have fin:∀(xs:List Nat),xs=iH x->Q (.slice q.next 0 xs.length) (q.new (.cells 3 1 true false (gP xs))):=by
  intro xs e;obtain⟨s,y,C⟩:=c.ZF (E:=eN) (n:=xs.length) eo rfl (wF F q xs) false;have:=H _ _ _ (p.trans y) s.tail (by rw[<-e];exact C);exact this
 have r9:∀b:Bool,(b=true->na x.op=true/\On x.op≠true)->(b=false->na x.op≠true/\On x.op≠true)->hY CS Q (.ptr h.next 0) (.I x.op) (.bool b) q:=by
  intro b t D;refine Cj ?_;unfold tu;rw[ij]
  cases b with
  | true=>
    rw[if_pos rfl];obtain⟨a1,a2⟩:=t rfl;refine ed (by rfl) (ed (c.ld 0 rfl rfl) ?_);rw[show jr 3 1 1 (V.I 0) [(0,V.I (x.a:Nat))]=some (.cells 3 1 true false (gP [x.a]),λl=> .slice l 0 1) from rfl,fx];refine fin [x.a] ?_;unfold On at a2;unfold na at a1;unfold iH two na;simp only[PV,HR]at a1
    rcases a1 with((((e|e)|e)|e)|e)|e <;> rw[e] <;> rfl
  | false=>
    rw[if_neg (by simp)];obtain⟨a1,a2⟩:=D rfl;by_cases k:x.op=20
    ·refine fX (gi (by omega) ?_)
     refine ed (by rfl) (ed (c.ld 0 rfl rfl) (ed r.len ?_));have R:iH x=x.a::x.b::x.args.take 1:=by unfold iH;rw[k];rfl
     by_cases S:x.args.length=0
     ·refine fX (gi (by omega) ?_)
      refine ed (by rfl) (ed (c.ld 0 rfl rfl) (ed (by rfl) (ed (c.ld 0 rfl rfl) ?_)))
      grind[nx2,fx,wA4]
     ·refine fX (fU (by omega) ?_)
      obtain⟨l,o,G,I,z⟩:=r.nat (i:=0) (gW (by omega)) .i64;refine ed (by rfl) (ed (c.ld 0 rfl rfl) (ed (by rfl) (ed (c.ld 0 rfl rfl) (ed (by rfl) (ed (c.ld 0 rfl rfl) (ed I (ed z ?_)))))));rw[show jr 3 1 3 (V.I 0) [(0,V.I (x.a:Nat)),(1,V.I (x.b:Nat)),(2,V.I (x.args[0]:Nat))]=some (.cells 3 1 true false (gP [x.a,x.b,x.args[0]]),λl=> .slice l 0 3) from rfl,gR];obtain⟨s,y⟩:=c.grow (lN.new q (.cells 3 1 true false (gP [x.a,x.b,x.args[0]])));refine⟨by grind[fg,O.kF],iK z (fj _ (c.fl _ G)),s.ld 0 rfl rfl,s.ld 0 rfl rfl,s.ld 0 rfl rfl,fin [x.a,x.b,x.args[0]] ?_⟩
      grind[zea]
    refine fX (fU (by omega) ?_);by_cases u:x.op=21
    ·refine fX (gi (by omega) ?_)
     refine ed (by rfl) (ed (c.ld 0 rfl rfl) ?_);refine H _ _ _ p c.tail ?_
     simp_all[iH,if_pos]
    ·refine fX (fU (by omega) ?_)
     refine H _ _ _ p c.tail ?_;have:iH x=[]:=by
       unfold iH;rw[if_neg u,if_neg k,if_neg,if_neg a1];intro e;apply a2;unfold On;rw[e];simpa using k
     rw[this];exact .nil
 have d:∀b:Bool,b=On x.op->fZ CS Q (.ptr h.next 0) (.I x.op) (.bool b) q:=by
  intro b g;refine CE ?_;unfold ud;rw[ij]
  cases b with
  | true=>
    rw[if_pos rfl];refine ed (by rfl) (ed (c.ld 0 rfl rfl) (ed (by rfl) (ed (c.ld 0 rfl rfl) ?_)));rw[nx2,fx];refine fin [x.a,x.b] ?_;unfold On at g;have g:=g.symm;rw[xg,bne_iff_ne]at g;unfold iH;rw[if_neg,if_neg g.2,if_pos g.1];intro e;rw[e]at g
    exact absurd g.1 (by decide)
  | false=>
    have m:On x.op≠true:=by rw[<-g];simp
    rw[if_neg (by simp)];refine gZ ?_;rw[ij];split
    ·rename_i e;refine r9 _ (λ_=>⟨?_,m⟩) (by grind)
     have:x.op=8:=by simp at e;omega
     rw[this];rfl
    rename_i J;have J:x.op≠8:=by grind
    refine gZ ?_;rw[ij];split
    ·rename_i e;refine r9 _ (λ_=>⟨?_,m⟩) (by grind)
     have:x.op=9:=by simp at e;omega
     rw[this];rfl
    rename_i K;have K:x.op≠9:=by grind
    refine gZ ?_;rw[ij];split
    ·rename_i e;refine r9 _ (λ_=>⟨?_,m⟩) (by grind)
     have:x.op=15:=by simp at e;omega
     rw[this];rfl
    rename_i L;have L:x.op≠15:=by grind
    refine gZ ?_;rw[ij];split
    ·rename_i e;refine r9 _ (λ_=>⟨?_,m⟩) (by grind)
     have:x.op=16:=by simp at e;omega
     rw[this];rfl
    rename_i M;have M:x.op≠16:=by grind
    refine gZ ?_;rw[ij];split
    ·rename_i e;refine r9 _ (λ_=>⟨?_,m⟩) (by grind)
     have:x.op=17:=by simp at e;omega
     rw[this];rfl
    rename_i N;have N:x.op≠17:=by grind
    refine gZ ?_;refine r9 _ (λe=>⟨?_,m⟩) λe=>⟨?_,m⟩
    ·have:x.op=22:=by simp at e;omega
     rw[this];rfl
    ·have e:=of_decide_eq_false e
     intro hq;unfold na at hq
     grind
 have f:∀n:Nat,(x.op:Int)=n->(On n=true)->On x.op=true:=by grind
 refine ed (by rfl) (ed (c.ld 0 rfl rfl) ?_);refine gZ ?_;rw[ij];split
 ·rename_i e;exact d _ (e.trans (f 3 (by simp_all) rfl).symm)
 rename_i T;refine gZ ?_;rw[ij];split
 ·rename_i e;exact d _ (e.trans (f 4 (by simp_all) rfl).symm)
 rename_i U;refine gZ ?_;rw[ij];split
 ·rename_i e;exact d _ (e.trans (f 5 (by simp_all) rfl).symm)
 rename_i W;refine gZ ?_;rw[ij];split
 ·rename_i e;exact d _ (e.trans (f 6 (by simp_all) rfl).symm)
 rename_i X;refine gZ ?_;rw[ij];split
 ·rename_i e;exact d _ (e.trans (f 7 (by simp_all) rfl).symm)
 rename_i Y;refine gZ ?_;rw[ij];split
 ·rename_i e;exact d _ (e.trans (f 10 (by simp_all) rfl).symm)
 rename_i Z;refine gZ ?_;rw[ij];split
 ·rename_i e;exact d _ (e.trans (f 11 (by simp_all) rfl).symm)
 rename_i f6;refine gZ ?_;rw[ij];split
 ·rename_i e;exact d _ (e.trans (f 12 (by simp_all) rfl).symm)
 rename_i f7;refine gZ ?_;rw[ij];split
 ·rename_i e;exact d _ (e.trans (f 13 (by simp_all) rfl).symm)
 rename_i f8;refine gZ ?_;rw[ij];split
 ·rename_i e;exact d _ (e.trans (f 14 (by simp_all) rfl).symm)
 rename_i f9;refine gZ ?_;rw[ij];split
 ·rename_i e;exact d _ (e.trans (f 18 (by simp_all) rfl).symm)
 rename_i P;refine gZ (d _ ?_);rw[Tf];unfold On two
 grind
end
open Un
theorem pf{l o k:Nat}:fH k (.ptr l o)=some (.ptr l (o+k)):=fT _ _ _
theorem pn{l o:Nat}:gY (.ptr l o)=some (.ptr l o):=fQ _ _
theorem bq{e sz:Nat}{a b:Bool}{cs:List V}:O.beq (.cells e sz a b cs) (.cells e sz a b cs)=true:=O.kF _ _ _ _ _
theorem fD{X:Option V}{K:V->Prop}(h:oP X K):oP (fy false (.bool false)) λb=>oP (gV b X) K:=h
theorem gq{X:Option V}{K:V->Prop}(h:oP X K):oP (fy true (.bool true)) λb=>oP (gV b X) K:=h
theorem g0{X:Option V}{K:V->Prop}(h:K .undef):oP (fy true (.bool false)) λb=>oP (gV b X) K:=h
theorem OT{X:Option V}{K:V->Prop}(h:K .undef):oP (fy false (.bool true)) λb=>oP (gV b X) K:=h
theorem yd{C:fm}{f:Nat}{a:List V}{h:Hp}{K:ft}(H:cP C f a h K):oP (fy false (.bool false)) λb=>oP (gC b (some (f,a))) λy=>uj C y h K:=H
theorem wS{C:fm}{f:Nat}{a:List V}{h:Hp}{K:ft}(H:cP C f a h K):oP (fy true (.bool true)) λb=>oP (gC b (some (f,a))) λy=>uj C y h K:=H
theorem GP{C:fm}{f:Nat}{a:List V}{h:Hp}{K:ft}(H:K .undef h):oP (fy true (.bool false)) λb=>oP (gC b (some (f,a))) λy=>uj C y h K:=H
theorem w5{b:Bool}{A B:Prop}(h:if b=true then B else A):oP (pt .not (.bool b)) λv=>bP v A B:=by
 cases b <;> exact h
theorem PQ{b:Bool}{K:V->Prop}(h:K (.bool (!b))):oP (pt .not (.bool b)) K:=h
section
variable{F F':Nat->Prop}{h h':Hp}{cs:List Pc}{Q:ft}{u:U}{vv vb vs:V}
theorem ir{T n:Nat}{b ws:List V}{K:ft}(H:ej F h cs)(d:b.length=n)(e:ws.length=n)(c:gj ws=true)(f:∀a,ej F a (ev h.next T ws::cs)->Sn F h F a->K (.ptr h.next 0) a) :
  ig (some (O.cells T 1 true false b,λl=>V.ptr l 0)) h λv c=>fi (gI n v (.agg ws) c) λ_ a=>K v a:=by
 rw[fx];obtain⟨g,i⟩:=H.zo T b;obtain⟨a,j,_,k,m⟩:=g.Zx 0 rfl e d c;rw[j,ei];exact f a k (i.trans m)
theorem ml{T:Nat}{ws:List V}{K:ft}(H:ej F h cs)(b:gj ws=true)(c:∀a,ej F a (ev h.next T ws::cs)->Sn F h F a->K (.ptr h.next 0) a):ig (om T (.agg ws)) h K:=by
 rw[E7 b,fx];obtain⟨d,e⟩:=H.zo T ws;exact c _ d e
theorem zcR{T:Nat}(xs:List Nat){ps:Option (O×(Nat->V))}(b:ps=some (O.cells T 1 true false (gP xs),λl=> .slice l 0 xs.length)){K:ft}(H:ej F h cs)
  (c:∀F' a v,ej F' a cs->Sn F h F' a->iy eN F' a xs v->K v a):ig ps h K:=by
 subst b;rw[fx];obtain⟨d,e,r1⟩:=H.ZF (E:=eN) T rfl (wF F h xs) false;exact c _ _ _ d e r1
theorem qZ{T:Nat}(x:Nat):jr T 1 1 (V.I 0) [(0,V.I x)]=some (.cells T 1 true false (gP [x]),λl=> .slice l 0 1):=rfl
structure Ck (F:Nat->Prop) (h:Hp) (cs:List Pc) (lc:Nat) (u:U) (vv vb vs bl pl GL:V):Prop where
 H:ej F h cs
 c:∃(i ty:Nat),cs[i]? =some (ev lc ty [.I u.func,.I u.pc,vv,vb,vs,bl,pl,GL])
 u:DA F h u vv vb vs
variable{lc:Nat}{bl pl GL:V}
theorem Ck.since(C:Ck F h cs lc u vv vb vs bl pl GL)(s:Sn F h F' h')(a:ej F' h' cs):Ck F' h' cs lc u vv vb vs bl pl GL:=⟨a,C.c,C.u.since s⟩
theorem Ck.cons(C:Ck F h cs lc u vv vb vs bl pl GL)(s:Sn F h F' h'){p:Pc} (a:ej F' h' (p::cs)):Ck F' h' (p::cs) lc u vv vb vs bl pl GL:=
 ⟨a,let⟨i,ty,hc⟩:=C.c;⟨i+1,ty,hc⟩,C.u.since s⟩
theorem Ck.ld(C:Ck F h cs lc u vv vb vs bl pl GL)(o:Nat){y:V}(a:[.I u.func,.I u.pc,vv,vb,vs,bl,pl,GL][o]? =some y):ez (.ptr lc o) h=some y:=
 let⟨i,_,hc⟩:=C.c;C.H.ld i hc a
theorem Nz{a0 c:V}{n:Nat}(l:n<1000000)(P:(Nat->Prop)->Hp->Prop)(h0:P F h)
  (step:∀i,i<n->∀F' h',P F' h'->∀e:V->Hp->Prop,(∀a b,P a b->e (.bool true) b)->hH CS (gh c [.I (i:Nat)]) h' e) (H:∀F' h',P F' h'->Q (.bool true) h') :
  cP CS jG [a0,.I n,c] h Q:=by
 refine Jz rfl rfl ?_;unfold B2;refine Gt (λk f g j h'=>∃(F':Nat->Prop) (i:Nat),f = .I n/\g=c/\j = .I i/\i+k=n/\P F' h') ?_ (k:=n) ⟨F,0,rfl,rfl,rfl,by omega,h0⟩;rintro k f g j h' ⟨F',i,rfl,rfl,rfl,hk,hp⟩;unfold yF;by_cases hi:i<n
 ·refine gG ?_;refine step i hi F' h' hp _ λa b d=>?_;refine w5 (gi rfl ?_);exact fL ⟨k-1,by omega,a,i+1,rfl,rfl,rfl,by omega,d⟩
 ·exact iJ (H F' h' hp)
theorem JW(C:Ck F h cs lc u vv vb vs bl pl GL){l:List Nat}{v:V}(b:iy eN F h l v)(r:l.length<1000000)(j:∀w∈l,nt u w)(H:Q (.bool true) h):cP CS iX [.ptr lc 0,v] h Q:=by
 refine Hv rfl rfl ?_;unfold zM;refine ed b.len ?_;refine EH (λk c d e f h'=>∃i:Nat,c = .ptr lc 0/\d=v/\e = .I l.length/\f = .I (i:Nat)/\i+k=l.length/\h' = h) ?_ (k:=l.length) ⟨0,rfl,rfl,rfl,rfl,by omega,rfl⟩;rintro k c d e f h' ⟨i,rfl,rfl,rfl,rfl,hk,rfl⟩;unfold wL;by_cases hi:i<l.length
 ·refine gG ?_;obtain⟨l1,s,_,m,n⟩:=b.nat (gW hi) .i64;obtain⟨x,g,gx⟩:=j _ (AW hi);have a:=(jP.1 g).1;refine ed m (ed n (ed (fQ _ _) (ed (fT _ _ _) (oF (C.ld 2 rfl) (ed C.u.v.len ?_)))));refine AS (w5 (gi (by simpa using a) ?_));obtain⟨l2,t,y,_,o,_,_,p⟩:=C.u.val g;refine ed (fQ _ _) (ed (fT _ _ _) (oF (C.ld 2 rfl) (ed o (oF p.op ?_))));have q:x.op<19\/x.op=21:=by
   unfold Jo at gx;simpa using gx
  refine gZ (iO (fU (by simp;omega) ?_));refine gZ (iO (fU (by simp;omega) ?_));refine gZ (iO (fU (by simp;omega) ?_));refine gZ ?_;rw[N5 (by omega)];refine DH ?_;unfold uD;refine iO (fU (by simp) ?_);exact fL ⟨k-1,by omega,i+1,rfl,rfl,rfl,rfl,by omega,rfl⟩
 ·exact iJ H
theorem Y7(C:Ck F h cs lc u vv vb vs bl pl GL){i:Nat}{fs:List Fm}(hs:u.eh[i]? =some fs)(G:1<=fs.length/\fs.length<=30)(x:∀f∈fs,f.locals.length<=40/\f.stack.length<=60/\(∀v∈f.locals,nt u v)/\∀v∈f.stack,nt u v)
  (H:∀h',Sn F h F h'->ej F h' cs->Q (.bool true) h'):cP CS mg [.ptr lc 0,.I i] h Q:=by
 refine HP rfl rfl ?_;unfold zt;obtain⟨l1,I,f,_,y,z,_,q⟩:=C.u.st hs;refine ed (fQ _ _) (ed (fT _ _ _) (oF (C.ld 4 rfl) (ed y (ed z ?_))));refine ir C.H rfl rfl (by simp[q.one]) λJ n r=>?_;have s:=q.since r;refine oF (n.ld 0 rfl rfl) (ed s.len (gZ ?_));rw[N5 (by omega),mF,fT,fe,n.ld 0 (o:=0+0) rfl rfl,fe,s.len,fe,nw];refine ed rfl (iO (fU (by simp;omega) ?_));refine oF (n.ld 0 rfl rfl) (ed s.len ?_);have C2:=C.since r n.tail
 refine Ea (λk w c d e h'=>∃j:Nat,w = .ptr lc 0/\c=f/\d = .I fs.length/\e = .I (j:Nat)/\j+k=fs.length/\Sn F h F h'/\Ck F h' cs lc u vv vb vs bl pl GL) ?_ (k:=fs.length)
  ⟨0,rfl,rfl,rfl,rfl,by omega,r,C2⟩
 rintro k w c d e h' ⟨j,rfl,rfl,rfl,rfl,hk,s',t⟩;unfold wI;by_cases hj:j<fs.length
 ·refine gG ?_;obtain⟨l3,K,a,b,_,A,B,g,l⟩:=(q.since s').l0 (gW hj);refine ed A (ed B ?_);obtain⟨L,M,D,E⟩:=x _ (AW hj);refine ir t.H rfl rfl (by simp only[Ou,ey,g.one,l.one];rfl) λN m p=>?_;have g:=g.since p;have l:=l.since p;have C3:=t.since p m.tail;refine oF (m.ld 0 rfl rfl) (ed g.len ?_);refine ed (nw _ _ _ _) ?_;rw[N5 (by omega),mF,fT,fe,m.ld 0 (o:=0+3) rfl rfl,fe,l.len,fe,nw,N5 (by omega)];refine ed rfl (fD (ed rfl (fD (ed (fT _ _ _) (fD (ed (m.ld 0 rfl rfl) (yd ?_)))))));refine JW C3 g (by omega) D (ed rfl (fD (ed rfl (fD (ed (fT _ _ _) (fD (ed (m.ld 0 rfl rfl) (yd ?_))))))));refine JW C3 l (by omega) E (ed rfl (iO (fU (by simp) ?_)));exact fL ⟨k-1,by omega,j+1,rfl,rfl,rfl,rfl,by omega,s'.trans p,C3⟩
 ·exact iJ (H h' s' t.H)
end
