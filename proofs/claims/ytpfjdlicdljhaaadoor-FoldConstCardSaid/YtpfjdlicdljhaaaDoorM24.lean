/- Parts. -/
import Derived.Test.YtpfjdlicdljhaaaDoorM23
import Derived.Test.YtpfjdlicdljhaaaDoorM16
set_option maxHeartbeats 4000000
namespace Go.Proofs.YtpfjdlicdljhaaaDoor.Hx
open Un
def eZ:oY Int where
 sz:=1
 rel _ _ n cs:=cs=[.I n]
 len h:=by simp_all
 one h:=by subst h;rfl
 dO _ h:=h
 mono _ h:=h
def eW:oY (Nat×Nat) where
 sz:=2
 rel _ _ x cs:=cs=[.I (x.1:Nat),.I (x.2:Nat)]
 len h:=by simp_all
 one h:=by subst h;rfl
 dO _ h:=h
 mono _ h:=h
structure zR (F:Nat->Prop) (h:Hp) (u:U) (vv vb vs:V):Prop where
 v:fJ eV F h u.cR vv
 b:fJ eK F h u.blocks vb
 s:fJ eT F h u.cZ vs
theorem zR.dO{F:Nat->Prop}{h h':Hp}{u:U}{vv vb vs:V}(hk:∀l,F l->h'.get l=h.get l)(a:zR F h u vv vb vs):zR F h' u vv vb vs:=⟨a.v.dO hk,a.b.dO hk,a.s.dO hk⟩
theorem zR.mono{F F':Nat->Prop}{h:Hp}{u:U}{vv vb vs:V}(hk:∀l,F l->F' l)(a:zR F h u vv vb vs):zR F' h u vv vb vs:=⟨a.v.mono hk,a.b.mono hk,a.s.mono hk⟩
theorem zR.one{F:Nat->Prop}{h:Hp}{u:U}{vv vb vs:V}(a:zR F h u vv vb vs):dU (uC u vv vb vs)=true:=by simp only[uC,cY,a.v.one,a.b.one,a.s.one];rfl
theorem fJ.since{α:Type}{E:oY α}{F F':Nat->Prop}{h h':Hp}{xs:List α}{v:V}(hs:fJ E F h xs v)(s:Sn F h F' h'):fJ E F' h' xs v:=(hs.dO s.dO).mono s.mono
theorem zR.since{F F':Nat->Prop}{h h':Hp}{u:U}{vv vb vs:V}(a:zR F h u vv vb vs)(s:Sn F h F' h'):zR F' h' u vv vb vs:=(a.dO s.dO).mono s.mono
section
variable{F F':Nat->Prop}{h h':Hp}{cs:List Pc}{Q:dg}{u:U}{vv vb vs:V}
structure Y4 (h:Hp) (l o:Nat) (x:Vl) (w:V):Prop where
 op:df (.ptr l (o+0)) h=some (.I x.op)
 a:df (.ptr l (o+1)) h=some (.I x.a)
 b:df (.ptr l (o+2)) h=some (.I x.b)
 n:df (.ptr l (o+3)) h=some (.I x.n)
 args:df (.ptr l (o+4)) h=some w
 st:df (.ptr l (o+5)) h=some (.I x.state)
structure Xl (h:Hp) (l o:Nat) (x:Bk) (v n p:V):Prop where
 cR:df (.ptr l (o+0)) h=some v
 fin:df (.ptr l (o+1)) h=some (.I x.fin)
 cond:df (.ptr l (o+2)) h=some (.I x.cond)
 next:df (.ptr l (o+3)) h=some n
 c8:df (.ptr l (o+4)) h=some p
 st:df (.ptr l (o+5)) h=some (.I x.state)
theorem zR.val(a:zR F h u vv vb vs){i:Nat}{x:Vl}(c:u.cR[i]? =some x) :
  ∃l o w,F l/\eX 6 vv (.I i)=some (.ptr l o)/\eg 6 (.ptr l o) h=some (.agg (kN x w))/\fJ eN F h x.args w/\Y4 h l o x w:=by
 obtain⟨hi,rfl⟩:=gL.1 c;obtain⟨l,o,w,d,e,f,⟨a,rfl,g⟩,b⟩:=a.v.ix hi .i64;exact⟨l,o,a,d,e,f,g,⟨b 0 _ rfl,b 1 _ rfl,b 2 _ rfl,b 3 _ rfl,b 4 _ rfl,b 5 _ rfl⟩⟩
theorem zR.jB(a:zR F h u vv vb vs){i:Nat}{x:Bk}(d:u.blocks[i]? =some x) :
  ∃l o v n p,F l/\eX 6 vb (.I i)=some (.ptr l o)/\eg 6 (.ptr l o) h=some (.agg (nV x v n p))/\fJ eN F h x.cR v/\fJ eN F h x.next n/\fJ eN F h x.c8 p/\Xl h l o x v n p:=by
 obtain⟨hi,rfl⟩:=gL.1 d;obtain⟨l,o,w,e,f,g,⟨v,n,p,rfl,j,k,m⟩,c⟩:=a.b.ix hi .i64;exact⟨l,o,v,n,p,e,f,g,j,k,m,⟨c 0 _ rfl,c 1 _ rfl,c 2 _ rfl,c 3 _ rfl,c 4 _ rfl,c 5 _ rfl⟩⟩
theorem zR.st(a:zR F h u vv vb vs){i:Nat}{x:List Fm}(b:u.cZ[i]? =some x) :
  ∃l o f,F l/\eX 1 vs (.I i)=some (.ptr l o)/\eg 1 (.ptr l o) h=some (.agg [f])/\df (.ptr l o) h=some f/\fJ eF F h x f:=by
 obtain⟨hi,rfl⟩:=gL.1 b;obtain⟨l,o,w,c,d,e,⟨f,rfl,g⟩,j⟩:=a.s.ix hi .i64;exact⟨l,o,f,c,d,e,j 0 f rfl,g⟩
theorem fJ.tI{fs:List Fm}{f:V}(a:fJ eF F h fs f){i:Nat}{x:Fm}(c:fs[i]? =some x) :
  ∃l o a b,F l/\eX 4 f (.I i)=some (.ptr l o)/\eg 4 (.ptr l o) h=some (.agg (Jo x a b))/\fJ eN F h x.locals a/\fJ eN F h x.stack b:=by
 obtain⟨hi,rfl⟩:=gL.1 c;obtain⟨l,o,w,d,e,g,⟨a,b,rfl,j,k⟩,_⟩:=a.ix hi .i64;exact⟨l,o,a,b,d,e,g,j,k⟩
theorem fJ.nat{xs:List Nat}{v:V}(a:fJ eN F h xs v){i x:Nat}(b:xs[i]? =some x)(kd:IntKind):∃l o,F l/\eX 1 v (.int kd (i:Nat))=some (.ptr l o)/\df (.ptr l o) h=some (.I x):=by
 obtain ⟨hi,rfl⟩:=gL.1 b;obtain⟨l,o,w,d,e,f,c⟩:=a.Np hi kd rfl;obtain rfl:w = .I (xs[i]:Nat):=by
  have:[w]=[V.I (xs[i]:Nat)]:=c
  simp_all
 grind
theorem fJ.int{xs:List Int}{v:V}(a:fJ eZ F h xs v){i:Nat}{x:Int}(b:xs[i]? =some x)(kd:IntKind):∃l o,F l/\eX 1 v (.int kd (i:Nat))=some (.ptr l o)/\df (.ptr l o) h=some (.I x):=by
 obtain ⟨hi,rfl⟩:=gL.1 b;obtain⟨l,o,w,d,e,f,c⟩:=a.Np hi kd rfl;obtain rfl:w = .I xs[i]:=by
  have:[w]=[V.I xs[i]]:=c
  simp_all
 grind
theorem fJ.bool{xs:List Bool}{v:V}(a:fJ eB F h xs v){i:Nat}{x:Bool}(b:xs[i]? =some x)(kd:IntKind):∃l o,F l/\eX 1 v (.int kd (i:Nat))=some (.ptr l o)/\df (.ptr l o) h=some (.bool x):=by
 obtain ⟨hi,rfl⟩:=gL.1 b;obtain⟨l,o,w,d,e,f,c⟩:=a.Np hi kd rfl;obtain rfl:w = .bool xs[i]:=by
  have:[w]=[V.bool xs[i]]:=c
  simp_all
 grind
theorem fJ.list{α:Type}{E:oY α}{xs:List (List α)}{v:V}(a:fJ (eL E) F h xs v){i:Nat}{x:List α}(b:xs[i]? =some x)(kd:IntKind):∃l o w,F l/\eX 1 v (.int kd (i:Nat))=some (.ptr l o)/\df (.ptr l o) h=some w/\fJ E F h x w:=by
 obtain⟨hi,rfl⟩:=gL.1 b;obtain⟨l,o,w,c,d,e,f,g,j⟩:=a.Np hi kd rfl
 grind
theorem xM{t:Nat}{k:IntKind}{a b:Int}{A B:Prop}(h:if a=b then B else A):oP (cX .neq t (.int k a) (.int k b)) λv=>bP v A B:=by
 simp_all
theorem X1{t:Nat}{k:IntKind}{a b:Int}{A B:Prop}(h:if b<=a then A else B):oP (cX .geq t (.int k a) (.int k b)) λv=>bP v A B:=by
 simp_all
theorem So(a b:Nat):((a:Int) == (b:Int))=(a == b):=by
 grind
theorem ev{t:Nat}{k:IntKind}{a b:Int}{K:V->Prop}(h:K (.bool (decide (a=b)))):oP (cX .eql t (.int k a) (.int k b)) K:=by
 rw[fx]
 grind[decide,oP]
def jv(op:Nat):Nat:=if two op=true then 2 else if om op=true then 1 else 0
theorem G2{op:Nat}(H:Q (.I (jv op:Nat)) h):cP CS pO [.I op] h Q:=by
 refine Ky rfl rfl ?_;unfold Ew;have r9:∀b:Bool,(b=true->om op=true/\two op≠true)->(b=false->om op≠true/\two op≠true)->ed CS Q (.bool b) h:=by
  intro b u v;refine G7 ?_;unfold zT;rw[eP];unfold jv at H
  cases b with
  |true=>simp_all
  |false=>simp_all
 have a:∀b:Bool,b=two op->eQ CS Q (.I op) (.bool b) h:=by
  intro b p;refine Gz ?_;unfold zZ;rw[eP]
  cases b with
  |true=>simp_all[jv,if_pos]
  | false=>
    have o:two op≠true:=by rw[<-p];simp
    rw[if_neg (by simp)];refine ev ?_;rw[eP];split
    ·grind[absurd,ed,CS,jv,Un.om,Un.two,ed,CS,Un.two,Un.two]
    rename_i d;refine ev ?_;rw[eP];split
    ·grind[absurd,ed,CS,jv,Un.om,Un.two,ed,CS,Un.two,Un.two]
    rename_i f;refine ev ?_;rw[eP];split
    ·grind[absurd,ed,CS,jv,Un.om,Un.two,ed,CS,Un.two,Un.two]
    rename_i g;refine ev ?_;rw[eP];split
    ·grind[absurd,ed,CS,jv,Un.om,Un.two,ed,CS,Un.two,Un.two]
    rename_i i;refine ev ?_;rw[eP];split
    ·grind[absurd,ed,CS,jv,Un.om,Un.two,ed,CS,Un.two,Un.two]
    rename_i j;refine ev ?_;simp at d f g i j;refine r9 _ (λe=>⟨?_,o⟩) λe=>⟨?_,o⟩
    ·grind[Un.om,jv,Un.om,Un.two,ed,CS,Un.two,Un.two]
    ·have e:=of_decide_eq_false e
     intro hq;unfold om at hq
     grind
 have c:∀n:Nat,(op:Int)=n->(two n=true)->two op=true:=by grind
 refine ev ?_;rw[eP];split
 ·rename_i e;exact a _ (e.trans (c 3 (by simp_all) rfl).symm)
 rename_i d;refine ev ?_;rw[eP];split
 ·rename_i e;exact a _ (e.trans (c 4 (by simp_all) rfl).symm)
 rename_i f;refine ev ?_;rw[eP];split
 ·rename_i e;exact a _ (e.trans (c 5 (by simp_all) rfl).symm)
 rename_i g;refine ev ?_;rw[eP];split
 ·rename_i e;exact a _ (e.trans (c 6 (by simp_all) rfl).symm)
 rename_i i;refine ev ?_;rw[eP];split
 ·rename_i e;exact a _ (e.trans (c 7 (by simp_all) rfl).symm)
 rename_i j;refine ev ?_;rw[eP];split
 ·rename_i e;exact a _ (e.trans (c 10 (by simp_all) rfl).symm)
 rename_i q;refine ev ?_;rw[eP];split
 ·rename_i e;exact a _ (e.trans (c 11 (by simp_all) rfl).symm)
 rename_i r;refine ev ?_;rw[eP];split
 ·rename_i e;exact a _ (e.trans (c 12 (by simp_all) rfl).symm)
 rename_i s;refine ev ?_;rw[eP];split
 ·rename_i e;exact a _ (e.trans (c 13 (by simp_all) rfl).symm)
 rename_i t;refine ev ?_;rw[eP];split
 ·rename_i e;exact a _ (e.trans (c 14 (by simp_all) rfl).symm)
 rename_i k;refine ev ?_;rw[eP];split
 ·rename_i e;exact a _ (e.trans (c 18 (by simp_all) rfl).symm)
 rename_i l;refine ev ?_;rw[eP];split
 ·rename_i e;exact a _ (e.trans (c 19 (by simp_all) rfl).symm)
 rename_i m;refine ev (a _ ?_);simp at d f g i j q r s t k l m;rw[MN];unfold two
 grind
theorem DP{op:Nat}(H:Q (.bool (leaves op)) h):cP CS kD [.I op] h Q:=by
 refine Jj rfl rfl ?_
 grind[De,leaves,Int,So,fx,kO,c0,jG,CS,Un.leaves]
theorem uD{a b:Nat}(H:Q (.bool (decide (a<b))) h):cP CS gU [.I a,.I b] h Q:=by
 refine Ku rfl rfl ?_
 grind[EA,oD,kO,c0,jZ,fW,decide,Int,CS]
theorem Rk{xs:List Nat}{a b:V}(c:fJ eN F h xs a)(d:fJ eN F h xs b)(r:xs.length<1000000000)(H:Q (.bool true) h):cP CS iU [a,b] h Q:=by
 refine yQ rfl rfl ?_;unfold qo;refine cO c.len (cO d.len (xM (ei rfl (cO c.len ?_))));refine vT (λk e f g j h'=>∃i:Nat,e=a/\f=b/\g = .I xs.length/\j = .I (i:Nat)/\i+k=xs.length/\h' = h) ?_ (k:=xs.length) (by simp_all);rintro k e f g j h' ⟨i,rfl,rfl,rfl,rfl,hk,rfl⟩;unfold mO;by_cases hi:i<xs.length
 ·refine dZ ?_;obtain⟨l,o,_,m,n⟩:=c.nat (fg hi) .i64;obtain⟨s,t,_,p,q⟩:=d.nat (fg hi) .i64;refine cO m (cO n (cO p (cO q (xM (ei rfl ?_)))));exact du ⟨k-1,by omega,i+1,rfl,rfl,rfl,rfl,by omega,rfl⟩
 ·exact fq H
end
open Un
theorem XY:∀{l:List Nat}(h:0<l.length),l.take 1=[l[0]]
 |y::l,_=>by simp
theorem Fx(x:Vl):fu x=([x.a,x.b].take (jv x.op))++(if x.op=20 then x.args.take 1 else if x.op=21 then x.args else[]):=by
 unfold fu jv;by_cases c:x.op=21
 ·grind[two,om]
 ·rw[if_neg c];by_cases d:x.op=20
  ·grind[two]
  grind
section
variable{F F':Nat->Prop}{h h':Hp}{cs:List Pc}{Q:dg}{u:U}{vv vb vs:V}
theorem DB{x:Vl}(a:x.op=21\/x.op=20->x.args.length<=700):(fu x).length<=1000:=by
 rw[Fx]
 grind
theorem I8(T:cS F h cs){x:Vl}{c:V}(P:fJ eN F h x.args c)(R:x.op=21\/x.op=20->x.args.length<=1000000)(H:∀F' h' v,Sn F h F' h'->cS F' h' cs->fJ eN F' h' (fu x) v->Q v h'):cP CS pe [.agg (kN x c)] h Q:=by
 refine Mw rfl rfl ?_;unfold Gy;have U:dU (kN x c)=true:=by simp only[kN,cY,P.one];rfl
 rw[JG U,dC];obtain⟨C,D⟩:=T.vW dP (kN x c);have n1:(h.new (.cells 38 1 true false (kN x c))).next=h.next+1:=rfl;have C:cS F (h.new (.cells 38 1 true false (kN x c))) (cV h.next dP (kN x c)::cs):=C;have D:Sn F h F (h.new (.cells 38 1 true false (kN x c))):=D;generalize h.new (.cells 38 1 true false (kN x c))=d at*;rw[Cz,fQ];obtain⟨s,G⟩:=C.TX (E:=eN) (xs:=[]) (ws:=[]) (n:=0) cT rfl trivial rfl;have s:cS F (d.new (.cells 3 1 true false [])) (cW eN cT [] (.slice d.next 0 0)::cV h.next dP (kN x c)::cs):=s;have G:Sn F d F (d.new (.cells 3 1 true false [])):=G;have g2:(d.new (.cells 3 1 true false [])).get d.next=some (.cells 3 1 true false []):=dL _ _;have n2:(d.new (.cells 3 1 true false [])).next=d.next+1:=rfl;generalize d.new (.cells 3 1 true false [])=i at*;refine cO (by rfl) (cO (s.ld 1 rfl rfl) (cO (by rfl) (cO (s.ld 1 rfl rfl) ?_)));rw[Y0,fQ];obtain⟨j,I⟩:=s.TX (E:=eN) (xs:=[x.a,x.b]) (ws:=fi [x.a,x.b]) (n:=2) cT rfl (vw _ _ _) (Lo _);have j:cS F (i.new (.cells 3 1 true false (fi [x.a,x.b]))) (cW eN cT [x.a,x.b] (.slice i.next 0 2)::cW eN cT [] (.slice d.next 0 0)::cV h.next dP (kN x c)::cs):=j;have I:Sn F i F (i.new (.cells 3 1 true false (fi [x.a,x.b]))):=I;have g3:(i.new (.cells 3 1 true false (fi [x.a,x.b]))).get i.next=some (.cells 3 1 true false (fi [x.a,x.b])):=dL _ _;have W:(i.new (.cells 3 1 true false (fi [x.a,x.b]))).get d.next=some (.cells 3 1 true false []):=by grind[ez,trans]
 generalize i.new (.cells 3 1 true false (fi [x.a,x.b]))=X at*;refine cO (by rfl) (cO (j.ld 2 rfl rfl) ⟨by simp_all,j.ld 2 rfl rfl,j.ld 2 rfl rfl,by simp_all,?_⟩);refine G2 ⟨iC _,?_⟩;have Y:jv x.op<=2:=by
  unfold jv;split
  ·omega
  ·grind
 obtain⟨t,J,S⟩:=j.XN 0 rfl (n:=jv x.op) Y;refine cO J ⟨by simp_all,j.ld 2 rfl rfl,j.ld 2 rfl rfl,by simp_all,?_⟩;simp only[fY]at S;obtain⟨g,r,K,Z,k,s5⟩:=S.VS 1 0 rfl rfl (ic:=8) (by decide) (by decide) (by simp;omega);have u:c9 3 1 8 (.slice d.next 0 0) t X=some (.val g r):=K;rw[u,cU];refine⟨Z,?_⟩;simp only[jq,fY,Pr]at k;have w:=((D.trans G).trans I).trans s5;have o:fJ eN F r x.args c:=(P.dO w.dO)
 have p:∀(F':Nat->Prop) (h':Hp) (v:V) (l:List Nat),Sn F r F' h'->cS F' h' (cW eN cT ([x.a,x.b].take (jv x.op)) t::cW eN cT l v::cV h.next dP (kN x c)::cs)->l=fu x->oL CS Q v h':=by
  intro F' h' v l sF HF L;subst L;refine HX ?_;unfold BB;obtain⟨y,z,r6⟩:=HF.gh 1 rfl;exact H _ _ v ((w.trans sF).trans z) y.tail.tail.tail r6
 refine cO (by rfl) (cO (k.ld 2 rfl rfl) ?_);by_cases M:x.op=20
 ·have R:=by omega
  refine eh (ei (by omega) ?_);refine cO (by rfl) (cO (k.ld 2 rfl rfl) (cO (by rfl) (cO (k.ld 2 rfl rfl) (cO o.len (cO (Qs _ _ _ _) ?_)))));have em:(if false=true then max (1:Int) (x.args.length:Nat) else min (1:Int) (x.args.length:Nat))=((min 1 x.args.length:Nat):Int):=by simp;omega
  rw[em];obtain⟨N,O,A⟩:=o.cut (lo:=none) (hi:=some (.I ((min 1 x.args.length:Nat):Int))) (m:=0) (n:=min 1 x.args.length) rfl (by rfl) (J9 _) (by omega);refine cO O ?_;rw[UH]at A;obtain⟨e,B,q,n6,y,z⟩:=k.Ig 1 rfl (ic:=8) A (by decide) (by decide) (by simp;omega);have f:c9 3 1 8 g N r=some (.val e B):=q;rw[f,cU];refine p F B e _ z y ?_;rw[Fx,if_pos M]
  simp_all
 refine eh (dM (by omega) ?_);by_cases aa:x.op=21
 ·have R:=by omega
  refine eh (ei (by omega) ?_);refine cO (by rfl) (cO (k.ld 2 rfl rfl) ?_);obtain⟨e,B,q,n6,y,z⟩:=k.Ig 1 rfl (ic:=8) o (by decide) (by decide) (by simp;omega);have f:c9 3 1 8 g c r=some (.val e B):=q;rw[f,cU];refine p F B e _ z y ?_
  simp_all[Fx,if_neg,if_pos]
 ·refine eh (dM (by omega) ?_);refine p F r g _ (Sn.refl _ _) k ?_
  simp_all[Fx,if_neg,GK]
def HP(op:Nat):Bool:=two op&&op != 20
theorem FM(A:cS F h cs){x:Vl}{j:V}(w:fJ eN F h x.args j)(H:∀F' h' v,Sn F h F' h'->cS F' h' cs->fJ eN F' h' (fu x) v->Q v h'):cP CS fX [.agg (kN x j)] h Q:=by
 refine zM rfl rfl ?_;unfold rI;have B:dU (kN x j)=true:=by simp only[kN,cY,w.one];rfl
 rw [JG B,dC];obtain⟨c,p⟩:=A.vW dP (kN x j);have c:cS F (h.new (.cells 38 1 true false (kN x j))) (cV h.next dP (kN x j)::cs):=c;have p:Sn F h F (h.new (.cells 38 1 true false (kN x j))):=p;generalize h.new (.cells 38 1 true false (kN x j))=q at*;have r:=w.dO p.dO;have fin:∀(xs:List Nat),xs=fu x->Q (.slice q.next 0 xs.length) (q.new (.cells 3 1 true false (fi xs))):=by
  intro xs e;obtain⟨s,y,C⟩:=c.Ou (E:=eN) (n:=xs.length) cT rfl (vw F q xs) false;have:=H _ _ _ (p.trans y) s.tail (by rw[<-e];exact C);exact this
 have r9:∀b:Bool,(b=true->om x.op=true/\HP x.op≠true)->(b=false->om x.op≠true/\HP x.op≠true)->eJ CS Q (.ptr h.next 0) (.I x.op) (.bool b) q:=by
  intro b t D;refine wX ?_;unfold oK;rw[eP]
  cases b with
  | true=>
    rw[if_pos rfl];obtain⟨a1,a2⟩:=t rfl;refine cO (by rfl) (cO (c.ld 0 rfl rfl) ?_);rw[show oX 3 1 1 (V.I 0) [(0,V.I (x.a:Nat))]=some (.cells 3 1 true false (fi [x.a]),λl=> .slice l 0 1) from rfl,dC];refine fin [x.a] ?_;unfold HP at a2;unfold om at a1;unfold fu two om;simp only[Ie,CG]at a1
    rcases a1 with((((e|e)|e)|e)|e)|e <;> rw[e] <;> rfl
  | false=>
    rw[if_neg (by simp)];obtain⟨a1,a2⟩:=D rfl;by_cases k:x.op=20
    ·refine eh (ei (by omega) ?_)
     refine cO (by rfl) (cO (c.ld 0 rfl rfl) (cO r.len ?_));have R:fu x=x.a::x.b::x.args.take 1:=by unfold fu;rw[k];rfl
     by_cases S:x.args.length=0
     ·refine eh (ei (by omega) ?_)
      refine cO (by rfl) (cO (c.ld 0 rfl rfl) (cO (by rfl) (cO (c.ld 0 rfl rfl) ?_)))
      grind[Y0,dC,V3]
     ·refine eh (dM (by omega) ?_)
      obtain⟨l,o,G,I,z⟩:=r.nat (i:=0) (fg (by omega)) .i64;refine cO (by rfl) (cO (c.ld 0 rfl rfl) (cO (by rfl) (cO (c.ld 0 rfl rfl) (cO (by rfl) (cO (c.ld 0 rfl rfl) (cO I (cO z ?_)))))));rw[show oX 3 1 3 (V.I 0) [(0,V.I (x.a:Nat)),(1,V.I (x.b:Nat)),(2,V.I (x.args[0]:Nat))]=some (.cells 3 1 true false (fi [x.a,x.b,x.args[0]]),λl=> .slice l 0 3) from rfl,fQ];obtain⟨s,y⟩:=c.grow (tm.new q (.cells 3 1 true false (fi [x.a,x.b,x.args[0]])));refine⟨by grind[dL,O.jz],lV z (ez _ (c.fl _ G)),s.ld 0 rfl rfl,s.ld 0 rfl rfl,s.ld 0 rfl rfl,fin [x.a,x.b,x.args[0]] ?_⟩
      grind[XY]
    refine eh (dM (by omega) ?_);by_cases u:x.op=21
    ·refine eh (ei (by omega) ?_)
     refine cO (by rfl) (cO (c.ld 0 rfl rfl) ?_);refine H _ _ _ p c.tail ?_
     simp_all[fu,if_pos]
    ·refine eh (dM (by omega) ?_)
     refine H _ _ _ p c.tail ?_;have:fu x=[]:=by
       unfold fu;rw[if_neg u,if_neg k,if_neg,if_neg a1];intro e;apply a2;unfold HP;rw[e];simpa using k
     rw[this];exact .nil
 have d:∀b:Bool,b=HP x.op->dy CS Q (.ptr h.next 0) (.I x.op) (.bool b) q:=by
  intro b g;refine wS ?_;unfold nW;rw[eP]
  cases b with
  | true=>
    rw[if_pos rfl];refine cO (by rfl) (cO (c.ld 0 rfl rfl) (cO (by rfl) (cO (c.ld 0 rfl rfl) ?_)));rw[Y0,dC];refine fin [x.a,x.b] ?_;unfold HP at g;have g:=g.symm;rw[rm,bne_iff_ne]at g;unfold fu;rw[if_neg,if_neg g.2,if_pos g.1];intro e;rw[e]at g
    exact absurd g.1 (by decide)
  | false=>
    have m:HP x.op≠true:=by rw[<-g];simp
    rw[if_neg (by simp)];refine ev ?_;rw[eP];split
    ·rename_i e;refine r9 _ (λ_=>⟨?_,m⟩) (by grind)
     have:x.op=8:=by simp at e;omega
     rw[this];rfl
    rename_i J;have J:x.op≠8:=by grind
    refine ev ?_;rw[eP];split
    ·rename_i e;refine r9 _ (λ_=>⟨?_,m⟩) (by grind)
     have:x.op=9:=by simp at e;omega
     rw[this];rfl
    rename_i K;have K:x.op≠9:=by grind
    refine ev ?_;rw[eP];split
    ·rename_i e;refine r9 _ (λ_=>⟨?_,m⟩) (by grind)
     have:x.op=15:=by simp at e;omega
     rw[this];rfl
    rename_i L;have L:x.op≠15:=by grind
    refine ev ?_;rw[eP];split
    ·rename_i e;refine r9 _ (λ_=>⟨?_,m⟩) (by grind)
     have:x.op=16:=by simp at e;omega
     rw[this];rfl
    rename_i M;have M:x.op≠16:=by grind
    refine ev ?_;rw[eP];split
    ·rename_i e;refine r9 _ (λ_=>⟨?_,m⟩) (by grind)
     have:x.op=17:=by simp at e;omega
     rw[this];rfl
    rename_i N;have N:x.op≠17:=by grind
    refine ev ?_;refine r9 _ (λe=>⟨?_,m⟩) λe=>⟨?_,m⟩
    ·have:x.op=22:=by simp at e;omega
     rw[this];rfl
    ·have e:=of_decide_eq_false e
     intro hq;unfold om at hq
     grind
 have f:∀n:Nat,(x.op:Int)=n->(HP n=true)->HP x.op=true:=by grind
 refine cO (by rfl) (cO (c.ld 0 rfl rfl) ?_);refine ev ?_;rw[eP];split
 ·rename_i e;exact d _ (e.trans (f 3 (by simp_all) rfl).symm)
 rename_i T;refine ev ?_;rw[eP];split
 ·rename_i e;exact d _ (e.trans (f 4 (by simp_all) rfl).symm)
 rename_i U;refine ev ?_;rw[eP];split
 ·rename_i e;exact d _ (e.trans (f 5 (by simp_all) rfl).symm)
 rename_i W;refine ev ?_;rw[eP];split
 ·rename_i e;exact d _ (e.trans (f 6 (by simp_all) rfl).symm)
 rename_i X;refine ev ?_;rw[eP];split
 ·rename_i e;exact d _ (e.trans (f 7 (by simp_all) rfl).symm)
 rename_i Y;refine ev ?_;rw[eP];split
 ·rename_i e;exact d _ (e.trans (f 10 (by simp_all) rfl).symm)
 rename_i Z;refine ev ?_;rw[eP];split
 ·rename_i e;exact d _ (e.trans (f 11 (by simp_all) rfl).symm)
 rename_i f6;refine ev ?_;rw[eP];split
 ·rename_i e;exact d _ (e.trans (f 12 (by simp_all) rfl).symm)
 rename_i f7;refine ev ?_;rw[eP];split
 ·rename_i e;exact d _ (e.trans (f 13 (by simp_all) rfl).symm)
 rename_i f8;refine ev ?_;rw[eP];split
 ·rename_i e;exact d _ (e.trans (f 14 (by simp_all) rfl).symm)
 rename_i f9;refine ev ?_;rw[eP];split
 ·rename_i e;exact d _ (e.trans (f 18 (by simp_all) rfl).symm)
 rename_i P;refine ev (d _ ?_);rw[MN];unfold HP two
 grind
end
open Un
theorem pf{l o k:Nat}:dE k (.ptr l o)=some (.ptr l (o+k)):=dB _ _ _
theorem pn{l o:Nat}:fe (.ptr l o)=some (.ptr l o):=dq _ _
theorem bq{e sz:Nat}{a b:Bool}{cs:List V}:O.beq (.cells e sz a b cs) (.cells e sz a b cs)=true:=O.jz _ _ _ _ _
theorem dr{X:Option V}{K:V->Prop}(h:oP X K):oP (dA false (.bool false)) λb=>oP (gV b X) K:=h
theorem dV{X:Option V}{K:V->Prop}(h:oP X K):oP (dA true (.bool true)) λb=>oP (gV b X) K:=h
theorem er{X:Option V}{K:V->Prop}(h:K .undef):oP (dA true (.bool false)) λb=>oP (gV b X) K:=h
theorem Rx{X:Option V}{K:V->Prop}(h:K .undef):oP (dA false (.bool true)) λb=>oP (gV b X) K:=h
theorem tD{C:dc}{f:Nat}{a:List V}{h:Hp}{K:dg}(H:cP C f a h K):oP (dA false (.bool false)) λb=>oP (gC b (some (f,a))) λy=>tv C y h K:=H
theorem xN{C:dc}{f:Nat}{a:List V}{h:Hp}{K:dg}(H:cP C f a h K):oP (dA true (.bool true)) λb=>oP (gC b (some (f,a))) λy=>tv C y h K:=H
theorem Aa{C:dc}{f:Nat}{a:List V}{h:Hp}{K:dg}(H:K .undef h):oP (dA true (.bool false)) λb=>oP (gC b (some (f,a))) λy=>tv C y h K:=H
theorem qI{b:Bool}{A B:Prop}(h:if b=true then B else A):oP (lB .not (.bool b)) λv=>bP v A B:=by
 cases b <;> exact h
theorem IY{b:Bool}{K:V->Prop}(h:K (.bool (!b))):oP (lB .not (.bool b)) K:=h
section
variable{F F':Nat->Prop}{h h':Hp}{cs:List Pc}{Q:dg}{u:U}{vv vb vs:V}
theorem fo{T n:Nat}{b ws:List V}{K:dg}(H:cS F h cs)(d:b.length=n)(e:ws.length=n)(c:dU ws=true)(f:∀a,cS F a (cV h.next T ws::cs)->Sn F h F a->K (.ptr h.next 0) a) :
  gJ (some (O.cells T 1 true false b,λl=>V.ptr l 0)) h λv c=>dz (fk n v (.agg ws) c) λ_ a=>K v a:=by
 rw[dC];obtain⟨g,i⟩:=H.vW T b;obtain⟨a,j,_,k,m⟩:=g.T7 0 rfl e d c;rw[j,cU];exact f a k (i.trans m)
theorem kX{T:Nat}{ws:List V}{K:dg}(H:cS F h cs)(b:dU ws=true)(c:∀a,cS F a (cV h.next T ws::cs)->Sn F h F a->K (.ptr h.next 0) a):gJ (qd T (.agg ws)) h K:=by
 rw[JG b,dC];obtain⟨d,e⟩:=H.vW T ws;exact c _ d e
theorem V0{T:Nat}(xs:List Nat){b:Option (O×(Nat->V))}(c:b=some (O.cells T 1 true false (fi xs),λl=> .slice l 0 xs.length)){K:dg}(H:cS F h cs)
  (d:∀F' a v,cS F' a cs->Sn F h F' a->fJ eN F' a xs v->K v a):gJ b h K:=by
 subst c;rw[dC];obtain⟨e,f,r1⟩:=H.Ou (E:=eN) T rfl (vw F h xs) false;exact d _ _ _ e f r1
theorem kH{T:Nat}(x:Nat):oX T 1 1 (V.I 0) [(0,V.I x)]=some (.cells T 1 true false (fi [x]),λl=> .slice l 0 1):=rfl
structure Ck (F:Nat->Prop) (h:Hp) (cs:List Pc) (lc:Nat) (u:U) (vv vb vs bl pl Ay:V):Prop where
 H:cS F h cs
 c:∃(i ty:Nat),cs[i]? =some (cV lc ty [.I u.func,.I u.pc,vv,vb,vs,bl,pl,Ay])
 u:zR F h u vv vb vs
variable{lc:Nat}{bl pl Ay:V}
theorem Ck.since(C:Ck F h cs lc u vv vb vs bl pl Ay)(s:Sn F h F' h')(a:cS F' h' cs):Ck F' h' cs lc u vv vb vs bl pl Ay:=⟨a,C.c,C.u.since s⟩
theorem Ck.cons(C:Ck F h cs lc u vv vb vs bl pl Ay)(s:Sn F h F' h'){p:Pc} (a:cS F' h' (p::cs)):Ck F' h' (p::cs) lc u vv vb vs bl pl Ay:=
 ⟨a,let⟨i,ty,hc⟩:=C.c;⟨i+1,ty,hc⟩,C.u.since s⟩
theorem Ck.ld(C:Ck F h cs lc u vv vb vs bl pl Ay)(o:Nat){y:V}(a:[.I u.func,.I u.pc,vv,vb,vs,bl,pl,Ay][o]? =some y):df (.ptr lc o) h=some y:=
 let⟨i,_,hc⟩:=C.c;C.H.ld i hc a
theorem FV{a0 c:V}{n:Nat}(m:n<1000000)(P:(Nat->Prop)->Hp->Prop)(h0:P F h)
  (step:∀i,i<n->∀F' h',P F' h'->∀e:V->Hp->Prop,(∀a b,P a b->e (.bool true) b)->G9 CS (wD c [.I (i:Nat)]) h' e) (H:∀F' h',P F' h'->Q (.bool true) h') :
  cP CS fV [a0,.I n,c] h Q:=by
 refine C7 rfl rfl ?_;unfold wk;refine zY (λk f g j h'=>∃(F':Nat->Prop) (i:Nat),f = .I n/\g=c/\j = .I i/\i+k=n/\P F' h') ?_ (k:=n) ⟨F,0,rfl,rfl,rfl,by omega,h0⟩;rintro k f g j h' ⟨F',i,rfl,rfl,rfl,hk,l⟩;unfold sP;by_cases hi:i<n
 ·refine dZ ?_;refine step i hi F' h' l _ λa b d=>?_;refine qI (ei rfl ?_);exact du ⟨k-1,by omega,a,i+1,rfl,rfl,rfl,by omega,d⟩
 ·exact fq (H F' h' l)
theorem C0(C:Ck F h cs lc u vv vb vs bl pl Ay){l:List Nat}{v:V}(b:fJ eN F h l v)(r:l.length<1000000)(j:∀w∈l,jo u w)(H:Q (.bool true) h):cP CS fy [.ptr lc 0,v] h Q:=by
 refine Bf rfl rfl ?_;unfold tU;refine cO b.len ?_;refine yR (λk c d e f h'=>∃i:Nat,c = .ptr lc 0/\d=v/\e = .I l.length/\f = .I (i:Nat)/\i+k=l.length/\h' = h) ?_ (k:=l.length) ⟨0,rfl,rfl,rfl,rfl,by omega,rfl⟩;rintro k c d e f h' ⟨i,rfl,rfl,rfl,rfl,hk,rfl⟩;unfold qx;by_cases hi:i<l.length
 ·refine dZ ?_;obtain⟨l1,s,_,m,n⟩:=b.nat (fg hi) .i64;obtain⟨x,g,gx⟩:=j _ (ym hi);have a:=(gL.1 g).1;refine cO m (cO n (cO (dq _ _) (cO (dB _ _ _) (oF (C.ld 2 rfl) (cO C.u.v.len ?_)))));refine uD (qI (ei (by simpa using a) ?_));obtain⟨l2,t,y,_,o,_,_,p⟩:=C.u.val g;refine cO (dq _ _) (cO (dB _ _ _) (oF (C.ld 2 rfl) (cO o (oF p.op ?_))));have q:x.op<19\/x.op=21:=by
   unfold BO at gx;simpa using gx
  refine ev (fK (dM (by simp;omega) ?_));refine ev (fK (dM (by simp;omega) ?_));refine ev (fK (dM (by simp;omega) ?_));refine ev ?_;rw[QV (by omega)];refine xp ?_;unfold pF;refine fK (dM (by simp) ?_);exact du ⟨k-1,by omega,i+1,rfl,rfl,rfl,rfl,by omega,rfl⟩
 ·exact fq H
theorem RI(C:Ck F h cs lc u vv vb vs bl pl Ay){i:Nat}{fs:List Fm}(hs:u.cZ[i]? =some fs)(G:1<=fs.length/\fs.length<=30)(x:∀f∈fs,f.locals.length<=40/\f.stack.length<=60/\(∀v∈f.locals,jo u v)/\∀v∈f.stack,jo u v)
  (H:∀h',Sn F h F h'->cS F h' cs->Q (.bool true) h'):cP CS iQ [.ptr lc 0,.I i] h Q:=by
 refine Bh rfl rfl ?_;unfold tR;obtain⟨l1,I,f,_,y,z,_,q⟩:=C.u.st hs;refine cO (dq _ _) (cO (dB _ _ _) (oF (C.ld 4 rfl) (cO y (cO z ?_))));refine fo C.H rfl rfl (by simp[q.one]) λJ n r=>?_;have s:=q.since r;refine oF (n.ld 0 rfl rfl) (cO s.len (ev ?_));rw[QV (by omega),j6,dB,c0,n.ld 0 (o:=0+0) rfl rfl,c0,s.len,c0,qR];refine cO rfl (fK (dM (by simp;omega) ?_));refine oF (n.ld 0 rfl rfl) (cO s.len ?_);have C2:=C.since r n.tail
 refine yH (λk w c d e h'=>∃j:Nat,w = .ptr lc 0/\c=f/\d = .I fs.length/\e = .I (j:Nat)/\j+k=fs.length/\Sn F h F h'/\Ck F h' cs lc u vv vb vs bl pl Ay) ?_ (k:=fs.length)
  ⟨0,rfl,rfl,rfl,rfl,by omega,r,C2⟩
 rintro k w c d e h' ⟨j,rfl,rfl,rfl,rfl,hk,s',t⟩;unfold qy;by_cases hj:j<fs.length
 ·refine dZ ?_;obtain⟨l3,K,a,b,_,A,B,g,l⟩:=(q.since s').tI (fg hj);refine cO A (cO B ?_);obtain⟨L,M,D,E⟩:=x _ (ym hj);refine fo t.H rfl rfl (by simp only[Jo,cY,g.one,l.one];rfl) λN m p=>?_;have g:=g.since p;have l:=l.since p;have C3:=t.since p m.tail;refine oF (m.ld 0 rfl rfl) (cO g.len ?_);refine cO (qR _ _ _ _) ?_;rw[QV (by omega),j6,dB,c0,m.ld 0 (o:=0+3) rfl rfl,c0,l.len,c0,qR,QV (by omega)];refine cO rfl (dr (cO rfl (dr (cO (dB _ _ _) (dr (cO (m.ld 0 rfl rfl) (tD ?_)))))));refine C0 C3 g (by omega) D (cO rfl (dr (cO rfl (dr (cO (dB _ _ _) (dr (cO (m.ld 0 rfl rfl) (tD ?_))))))));refine C0 C3 l (by omega) E (cO rfl (fK (dM (by simp) ?_)));exact du ⟨k-1,by omega,j+1,rfl,rfl,rfl,rfl,by omega,s'.trans p,C3⟩
 ·exact fq (H h' s' t.H)
end
