/- Parts. -/
import Derived.Test.YtkpicojjjifmgabGreatDoorM23
import Derived.Test.YtkpicojjjifmgabGreatDoorM16
set_option maxHeartbeats 4000000
namespace Go.Proofs.YtkpicojjjifmgabGreatDoor.Hx
open Un
def eZ:qp Int where
 sz:=1
 rel _ _ n cs:=cs=[.I n]
 len h:=by simp_all
 one h:=by subst h;rfl
 fj _ h:=h
 mono _ h:=h
def eW:qp (Nat×Nat) where
 sz:=2
 rel _ _ x cs:=cs=[.I (x.1:Nat),.I (x.2:Nat)]
 len h:=by simp_all
 one h:=by subst h;rfl
 fj _ h:=h
 mono _ h:=h
structure wW (F:Nat->Prop) (h:Hp) (u:U) (vv vb vs:V):Prop where
 v:im eV F h u.ej vv
 b:im eK F h u.blocks vb
 s:im eT F h u.ev vs
theorem wW.fj{F:Nat->Prop}{h h':Hp}{u:U}{vv vb vs:V}(c:∀l,F l->h'.get l=h.get l)(a:wW F h u vv vb vs):wW F h' u vv vb vs:=⟨a.v.fj c,a.b.fj c,a.s.fj c⟩
theorem wW.mono{F F':Nat->Prop}{h:Hp}{u:U}{vv vb vs:V}(c:∀l,F l->F' l)(a:wW F h u vv vb vs):wW F' h u vv vb vs:=⟨a.v.mono c,a.b.mono c,a.s.mono c⟩
theorem wW.one{F:Nat->Prop}{h:Hp}{u:U}{vv vb vs:V}(a:wW F h u vv vb vs):gw (uC u vv vb vs)=true:=by simp only[uC,eJ,a.v.one,a.b.one,a.s.one];rfl
theorem im.since{α:Type}{E:qp α}{F F':Nat->Prop}{h h':Hp}{xs:List α}{v:V}(hs:im E F h xs v)(s:Sn F h F' h'):im E F' h' xs v:=(hs.fj s.fj).mono s.mono
theorem wW.since{F F':Nat->Prop}{h h':Hp}{u:U}{vv vb vs:V}(a:wW F h u vv vb vs)(s:Sn F h F' h'):wW F' h' u vv vb vs:=(a.fj s.fj).mono s.mono
section
variable{F F':Nat->Prop}{h h':Hp}{cs:List Pc}{Q:fD}{u:U}{vv vb vs:V}
structure zfh (h:Hp) (l o:Nat) (x:Vl) (w:V):Prop where
 op:fe (.ptr l (o+0)) h=some (.I x.op)
 a:fe (.ptr l (o+1)) h=some (.I x.a)
 b:fe (.ptr l (o+2)) h=some (.I x.b)
 n:fe (.ptr l (o+3)) h=some (.I x.n)
 args:fe (.ptr l (o+4)) h=some w
 st:fe (.ptr l (o+5)) h=some (.I x.state)
structure zeH (h:Hp) (l o:Nat) (x:Bk) (v n p:V):Prop where
 ej:fe (.ptr l (o+0)) h=some v
 fin:fe (.ptr l (o+1)) h=some (.I x.fin)
 cond:fe (.ptr l (o+2)) h=some (.I x.cond)
 next:fe (.ptr l (o+3)) h=some n
 fi:fe (.ptr l (o+4)) h=some p
 st:fe (.ptr l (o+5)) h=some (.I x.state)
theorem wW.val(a:wW F h u vv vb vs){i:Nat}{x:Vl}(hx:u.ej[i]? =some x) :
  ∃l o w,F l/\gB 6 vv (.I i)=some (.ptr l o)/\fW 6 (.ptr l o) h=some (.agg (mF x w))/\im eN F h x.args w/\zfh h l o x w:=by
 obtain⟨hi,rfl⟩:=ki.1 hx;obtain⟨l,o,w,c,d,e,⟨a,rfl,f⟩,b⟩:=a.v.ix hi .i64;exact⟨l,o,a,c,d,e,f,⟨b 0 _ rfl,b 1 _ rfl,b 2 _ rfl,b 3 _ rfl,b 4 _ rfl,b 5 _ rfl⟩⟩
theorem wW.pE(a:wW F h u vv vb vs){i:Nat}{x:Bk}(hx:u.blocks[i]? =some x) :
  ∃l o v n p,F l/\gB 6 vb (.I i)=some (.ptr l o)/\fW 6 (.ptr l o) h=some (.agg (km x v n p))/\im eN F h x.ej v/\im eN F h x.next n/\im eN F h x.fi p/\zeH h l o x v n p:=by
 obtain⟨hi,rfl⟩:=ki.1 hx;obtain⟨l,o,w,d,e,f,⟨v,n,p,rfl,g,j,k⟩,c⟩:=a.b.ix hi .i64;exact⟨l,o,v,n,p,d,e,f,g,j,k,⟨c 0 _ rfl,c 1 _ rfl,c 2 _ rfl,c 3 _ rfl,c 4 _ rfl,c 5 _ rfl⟩⟩
theorem wW.st(a:wW F h u vv vb vs){i:Nat}{x:List Fm}(hx:u.ev[i]? =some x) :
  ∃l o f,F l/\gB 1 vs (.I i)=some (.ptr l o)/\fW 1 (.ptr l o) h=some (.agg [f])/\fe (.ptr l o) h=some f/\im eF F h x f:=by
 obtain⟨hi,rfl⟩:=ki.1 hx;obtain⟨l,o,w,b,c,d,⟨f,rfl,e⟩,g⟩:=a.s.ix hi .i64;exact⟨l,o,f,b,c,d,g 0 f rfl,e⟩
theorem im.pG{fs:List Fm}{f:V}(a:im eF F h fs f){i:Nat}{x:Fm}(hx:fs[i]? =some x) :
  ∃l o a b,F l/\gB 4 f (.I i)=some (.ptr l o)/\fW 4 (.ptr l o) h=some (.agg (Ll x a b))/\im eN F h x.locals a/\im eN F h x.stack b:=by
 obtain⟨hi,rfl⟩:=ki.1 hx;obtain⟨l,o,w,c,d,e,⟨a,b,rfl,g,j⟩,_⟩:=a.ix hi .i64;exact⟨l,o,a,b,c,d,e,g,j⟩
theorem im.nat{xs:List Nat}{v:V}(a:im eN F h xs v){i x:Nat}(hx:xs[i]? =some x)(kd:IntKind):∃l o,F l/\gB 1 v (.int kd (i:Nat))=some (.ptr l o)/\fe (.ptr l o) h=some (.I x):=by
 obtain ⟨hi,rfl⟩:=ki.1 hx;obtain⟨l,o,w,c,d,e,b⟩:=a.U8 hi kd rfl;obtain rfl:w = .I (xs[i]:Nat):=by
  have:[w]=[V.I (xs[i]:Nat)]:=b
  simp_all
 grind
theorem im.int{xs:List Int}{v:V}(a:im eZ F h xs v){i:Nat}{x:Int}(hx:xs[i]? =some x)(kd:IntKind):∃l o,F l/\gB 1 v (.int kd (i:Nat))=some (.ptr l o)/\fe (.ptr l o) h=some (.I x):=by
 obtain ⟨hi,rfl⟩:=ki.1 hx;obtain⟨l,o,w,c,d,e,b⟩:=a.U8 hi kd rfl;obtain rfl:w = .I xs[i]:=by
  have:[w]=[V.I xs[i]]:=b
  simp_all
 grind
theorem im.bool{xs:List Bool}{v:V}(a:im eB F h xs v){i:Nat}{x:Bool}(hx:xs[i]? =some x)(kd:IntKind):∃l o,F l/\gB 1 v (.int kd (i:Nat))=some (.ptr l o)/\fe (.ptr l o) h=some (.bool x):=by
 obtain ⟨hi,rfl⟩:=ki.1 hx;obtain⟨l,o,w,c,d,e,b⟩:=a.U8 hi kd rfl;obtain rfl:w = .bool xs[i]:=by
  have:[w]=[V.bool xs[i]]:=b
  simp_all
 grind
theorem im.list{α:Type}{E:qp α}{xs:List (List α)}{v:V}(a:im (eL E) F h xs v){i:Nat}{x:List α}(hx:xs[i]? =some x)(kd:IntKind):∃l o w,F l/\gB 1 v (.int kd (i:Nat))=some (.ptr l o)/\fe (.ptr l o) h=some w/\im E F h x w:=by
 obtain⟨hi,rfl⟩:=ki.1 hx;obtain⟨l,o,w,b,c,d,f,e,g⟩:=a.U8 hi kd rfl
 grind
theorem yj{t:Nat}{k:IntKind}{a b:Int}{A B:Prop}(h:if a=b then B else A):oP (ez .neq t (.int k a) (.int k b)) λv=>bP v A B:=by
 simp_all
theorem Pe{t:Nat}{k:IntKind}{a b:Int}{A B:Prop}(h:if b<=a then A else B):oP (ez .geq t (.int k a) (.int k b)) λv=>bP v A B:=by
 simp_all
theorem ieq(a b:Nat):((a:Int) == (b:Int))=(a == b):=by
 grind
theorem ir{t:Nat}{k:IntKind}{a b:Int}{K:V->Prop}(h:K (.bool (decide (a=b)))):oP (ez .eql t (.int k a) (.int k b)) K:=by
 rw[g0]
 grind[decide,oP]
def om(op:Nat):Nat:=if two op=true then 2 else if nq op=true then 1 else 0
theorem Nv{op:Nat}(H:Q (.I (om op:Nat)) h):cP CS wB [.I op] h Q:=by
 refine SD rfl rfl ?_;unfold Mg;have r9:∀b:Bool,(b=true->nq op=true/\two op≠true)->(b=false->nq op≠true/\two op≠true)->gU CS Q (.bool b) h:=by
  intro b s t;refine M7 ?_;unfold GC;rw[iD];unfold om at H
  cases b with
  |true=>simp_all
  |false=>simp_all
 have a:∀b:Bool,b=two op->iE CS Q (.I op) (.bool b) h:=by
  intro b hb;refine Ob ?_;unfold G1;rw[iD]
  cases b with
  |true=>simp_all[om,if_pos]
  | false=>
    have m:two op≠true:=by rw[<-hb];simp
    rw[if_neg (by simp)];refine ir ?_;rw[iD];split
    ·grind[absurd,gU,CS,om,Un.nq,Un.two,gU,CS,Un.two,Un.two]
    rename_i d;refine ir ?_;rw[iD];split
    ·grind[absurd,gU,CS,om,Un.nq,Un.two,gU,CS,Un.two,Un.two]
    rename_i f;refine ir ?_;rw[iD];split
    ·grind[absurd,gU,CS,om,Un.nq,Un.two,gU,CS,Un.two,Un.two]
    rename_i g;refine ir ?_;rw[iD];split
    ·grind[absurd,gU,CS,om,Un.nq,Un.two,gU,CS,Un.two,Un.two]
    rename_i i;refine ir ?_;rw[iD];split
    ·grind[absurd,gU,CS,om,Un.nq,Un.two,gU,CS,Un.two,Un.two]
    rename_i j;refine ir ?_;simp at d f g i j;refine r9 _ (λe=>⟨?_,m⟩) λe=>⟨?_,m⟩
    ·grind[Un.nq,om,Un.nq,Un.two,gU,CS,Un.two,Un.two]
    ·have e:=of_decide_eq_false e
     intro hq;unfold nq at hq
     grind
 have c:∀n:Nat,(op:Int)=n->(two n=true)->two op=true:=by grind
 refine ir ?_;rw[iD];split
 ·rename_i e;exact a _ (e.trans (c 3 (by simp_all) rfl).symm)
 rename_i d;refine ir ?_;rw[iD];split
 ·rename_i e;exact a _ (e.trans (c 4 (by simp_all) rfl).symm)
 rename_i f;refine ir ?_;rw[iD];split
 ·rename_i e;exact a _ (e.trans (c 5 (by simp_all) rfl).symm)
 rename_i g;refine ir ?_;rw[iD];split
 ·rename_i e;exact a _ (e.trans (c 6 (by simp_all) rfl).symm)
 rename_i i;refine ir ?_;rw[iD];split
 ·rename_i e;exact a _ (e.trans (c 7 (by simp_all) rfl).symm)
 rename_i j;refine ir ?_;rw[iD];split
 ·rename_i e;exact a _ (e.trans (c 10 (by simp_all) rfl).symm)
 rename_i o;refine ir ?_;rw[iD];split
 ·rename_i e;exact a _ (e.trans (c 11 (by simp_all) rfl).symm)
 rename_i p;refine ir ?_;rw[iD];split
 ·rename_i e;exact a _ (e.trans (c 12 (by simp_all) rfl).symm)
 rename_i q;refine ir ?_;rw[iD];split
 ·rename_i e;exact a _ (e.trans (c 13 (by simp_all) rfl).symm)
 rename_i r;refine ir ?_;rw[iD];split
 ·rename_i e;exact a _ (e.trans (c 14 (by simp_all) rfl).symm)
 rename_i k;refine ir ?_;rw[iD];split
 ·rename_i e;exact a _ (e.trans (c 18 (by simp_all) rfl).symm)
 rename_i Wh;refine ir ?_;rw[iD];split
 ·rename_i e;exact a _ (e.trans (c 19 (by simp_all) rfl).symm)
 rename_i l;refine ir (a _ ?_);simp at d f g i j o p q r k Wh l;rw[Xz];unfold two
 grind
theorem Hm{op:Nat}(H:Q (.bool (leaves op)) h):cP CS oJ [.I op] h Q:=by
 refine Qx rfl rfl ?_
 grind[JX,leaves,Int,ieq,g0,iB,fo,pS,CS,Un.leaves]
theorem A6{a b:Nat}(H:Q (.bool (decide (a<b))) h):cP CS lj [.I a,.I b] h Q:=by
 refine TF rfl rfl ?_
 grind[LY,pP,iB,fo,kX,j8,decide,Int,CS]
theorem A5{xs:List Nat}{a b:V}(c:im eN F h xs a)(hb:im eN F h xs b)(q:xs.length<1000000000)(H:Q (.bool true) h):cP CS hY [a,b] h Q:=by
 refine EL rfl rfl ?_;unfold xN;refine eh c.len (eh hb.len (yj (gz rfl (eh c.len ?_))));refine BU (λk d e f g h'=>∃i:Nat,d=a/\e=b/\f = .I xs.length/\g = .I (i:Nat)/\i+k=xs.length/\h' = h) ?_ (k:=xs.length) (by simp_all);rintro k d e f g h' ⟨i,rfl,rfl,rfl,rfl,r,rfl⟩;unfold tW;by_cases hi:i<xs.length
 ·refine gK ?_;obtain⟨l,o,_,j,m⟩:=c.nat (iy hi) .i64;obtain⟨s,t,_,n,p⟩:=hb.nat (iy hi) .i64;refine eh j (eh m (eh n (eh p (yj (gz rfl ?_)))));exact fL ⟨k-1,by omega,i+1,rfl,rfl,rfl,rfl,by omega,rfl⟩
 ·exact iQ H
end
open Un
theorem zeE:∀{l:List Nat}(h:0<l.length),l.take 1=[l[0]]
 |y::l,_=>by simp
theorem Mu(x:Vl):hK x=([x.a,x.b].take (om x.op))++(if x.op=20 then x.args.take 1 else if x.op=21 then x.args else[]):=by
 unfold hK om;by_cases c:x.op=21
 ·rw[c];simp[two,nq]
 ·rw [if_neg c];by_cases d:x.op=20
  ·rw[d];simp[two]
  ·rw [if_neg d,if_neg d,if_neg c];by_cases e:two x.op=true
   ·simp[e]
   ·by_cases f:nq x.op=true
    ·simp[e,f]
    ·simp[e,f]
section
variable{F F':Nat->Prop}{h h':Hp}{cs:List Pc}{Q:fD}{u:U}{vv vb vs:V}
theorem KI{x:Vl}(c:x.op=21\/x.op=20->x.args.length<=700):(hK x).length<=1000:=by
 rw[Mu];by_cases b:x.op=20
 ·rw[if_pos b];simp;omega
 ·rw[if_neg b];by_cases a:x.op=21
  ·have:=c (.inl a);rw[if_pos a];simp;omega
  ·rw[if_neg a];simp;omega
theorem KA(Z:eo F h cs){x:Vl}{c:V}(W:im eN F h x.args c)(J:x.op=21\/x.op=20->x.args.length<=1000000)(H:∀F' h' v,Sn F h F' h'->eo F' h' cs->im eN F' h' (hK x) v->Q v h'):cP CS p9 [.agg (mF x c)] h Q:=by
 refine UA rfl rfl ?_;unfold NJ;have o1:gw (mF x c)=true:=by simp only[mF,eJ,W.one];rfl
 rw [Fg o1,fE];obtain⟨K,L⟩:=Z.Aw hH (mF x c);have n1:(h.new (.cells 34 1 true false (mF x c))).next=h.next+1:=rfl;have K:eo F (h.new (.cells 34 1 true false (mF x c))) (eQ h.next hH (mF x c)::cs):=K;have L:Sn F h F (h.new (.cells 34 1 true false (mF x c))):=L;generalize h.new (.cells 34 1 true false (mF x c))=d at*;rw[DI,hX];obtain⟨w,M⟩:=K.SB (E:=eN) (xs:=[]) (ws:=[]) (n:=0) eR rfl trivial rfl;have w:eo F (d.new (.cells 3 1 true false [])) (fg eN eR [] (.slice d.next 0 0)::eQ h.next hH (mF x c)::cs):=w;have M:Sn F d F (d.new (.cells 3 1 true false [])):=M;have g2:(d.new (.cells 3 1 true false [])).get d.next=some (.cells 3 1 true false []):=fq _ _;have n2:(d.new (.cells 3 1 true false [])).next=d.next+1:=rfl;generalize d.new (.cells 3 1 true false [])=k at*;refine oF (w.ld 1 rfl rfl) (oF (w.ld 1 rfl rfl) ?_);rw[nx2,hX];obtain⟨o,N⟩:=w.SB (E:=eN) (xs:=[x.a,x.b]) (ws:=ic [x.a,x.b]) (n:=2) eR rfl (zI _ _ _) (Ou _);have o:eo F (k.new (.cells 3 1 true false (ic [x.a,x.b]))) (fg eN eR [x.a,x.b] (.slice k.next 0 2)::fg eN eR [] (.slice d.next 0 0)::eQ h.next hH (mF x c)::cs):=o;have N:Sn F k F (k.new (.cells 3 1 true false (ic [x.a,x.b]))):=N;have X:(k.new (.cells 3 1 true false (ic [x.a,x.b]))).get k.next=some (.cells 3 1 true false (ic [x.a,x.b])):=fq _ _;have y:(k.new (.cells 3 1 true false (ic [x.a,x.b]))).get d.next=some (.cells 3 1 true false []):=(fk _ (by omega)).trans g2;generalize k.new (.cells 3 1 true false (ic [x.a,x.b]))=h3 at*;refine oF (o.ld 2 rfl rfl) ⟨⟨X,O.kF _ _ _ _ _⟩,o.ld 2 rfl rfl,o.ld 2 rfl rfl,⟨y,O.kF _ _ _ _ _⟩,?_⟩;refine Nv ⟨jO _,?_⟩;have hp:om x.op<=2:=by
  unfold om;split
  ·omega
  ·split <;> omega
 obtain⟨z,P,Y⟩:=o.zcr 0 rfl (n:=om x.op) hp;refine eh P ⟨⟨X,O.kF _ _ _ _ _⟩,o.ld 2 rfl rfl,o.ld 2 rfl rfl,⟨y,O.kF _ _ _ _ _⟩,?_⟩;simp only[ji]at Y;obtain⟨i,u,R,n5,p,s5⟩:=Y.zad 1 0 rfl rfl (jP:=8) (by decide) (by decide) (by simp;omega);have A:fh 3 1 8 (.slice d.next 0 0) z h3=some (.val i u):=R;rw[A,en];refine⟨n5,?_⟩;simp only[lO,ji,OG]at p;have B:=((L.trans M).trans N).trans s5;have q:im eN F u x.args c:=(W.fj B.fj)
 have r:∀(F':Nat->Prop) (h':Hp) (v:V) (l:List Nat),Sn F u F' h'->eo F' h' (fg eN eR ([x.a,x.b].take (om x.op)) z::fg eN eR l v::eQ h.next hH (mF x c)::cs)->l=hK x->uu CS Q v h':=by
  intro F' h' v l sF HF S;subst S;refine OU ?_;unfold IK;obtain⟨C,D,r6⟩:=HF.kL 1 rfl;exact H _ _ v ((B.trans sF).trans D) C.tail.tail.tail r6
 refine oF (p.ld 2 rfl rfl) ?_;by_cases j:x.op=20
 ·have J:=J (.inr j);refine gy (gz (by omega) ?_);refine oF (p.ld 2 rfl rfl) (oF (p.ld 2 rfl rfl) (eh q.len (eh (Zk _ _ _ _) ?_)));have em:(if false=true then max (1:Int) (x.args.length:Nat) else min (1:Int) (x.args.length:Nat))=((min 1 x.args.length:Nat):Int):=by simp;omega
  rw[em];obtain⟨T,U,G⟩:=q.cut (lo:=none) (hi:=some (.I ((min 1 x.args.length:Nat):Int))) (m:=0) (n:=min 1 x.args.length) rfl (Lk _ _ _) (Mj _) (by omega);refine eh U ?_;rw[ZT]at G;obtain⟨f,I,s,n6,C,D⟩:=p.Nf 1 rfl (jP:=8) G (by decide) (by decide) (by simp;omega);have g:fh 3 1 8 i T u=some (.val f I):=s;rw[g,en];refine r F I f _ D C ?_;rw[Mu,if_pos j];congr 1;rcases Nat.eq_zero_or_pos x.args.length with e|e
  ·rw[wAs e];rfl
  ·rw[wBl e]
 refine gy (gh (by omega) ?_);by_cases t:x.op=21
 ·have J:=J (.inl t);refine gy (gz (by omega) ?_);refine oF (p.ld 2 rfl rfl) ?_;obtain⟨f,I,s,n6,C,D⟩:=p.Nf 1 rfl (jP:=8) q (by decide) (by decide) (by simp;omega);have g:fh 3 1 8 i c u=some (.val f I):=s;rw[g,en];refine r F I f _ D C ?_;rw[Mu,if_neg j,if_pos t]
 ·refine gy (gh (by omega) ?_);refine r F u i _ (Sn.refl _ _) p ?_;rw[Mu,if_neg j,if_neg t,JL]
def O1(op:Nat):Bool:=two op&&op != 20
theorem Nw(K:eo F h cs){x:Vl}{g:V}(y:im eN F h x.args g)(H:∀F' h' v,Sn F h F' h'->eo F' h' cs->im eN F' h' (hK x) v->Q v h'):cP CS j7 [.agg (mF x g)] h Q:=by
 refine FT rfl rfl ?_;unfold yB;have L:gw (mF x g)=true:=by simp only[mF,eJ,y.one];rfl
 rw [Fg L,fE];obtain⟨c,p⟩:=K.Aw hH (mF x g);have c:eo F (h.new (.cells 34 1 true false (mF x g))) (eQ h.next hH (mF x g)::cs):=c;have p:Sn F h F (h.new (.cells 34 1 true false (mF x g))):=p;generalize h.new (.cells 34 1 true false (mF x g))=r at*;have j:=y.fj p.fj;have fin:∀(xs:List Nat),xs=hK x->Q (.slice r.next 0 xs.length) (r.new (.cells 3 1 true false (ic xs))):=by
  intro xs e;obtain⟨s,z,r2⟩:=c.za4 (E:=eN) (n:=xs.length) eR rfl (zI F r xs) false;have:=H _ _ _ (p.trans z) s.tail (by rw[<-e];exact r2);exact this
 have r9:∀b:Bool,(b=true->nq x.op=true/\O1 x.op≠true)->(b=false->nq x.op≠true/\O1 x.op≠true)->iC CS Q (.ptr h.next 0) (.I x.op) (.bool b) r:=by
  intro b u M;refine CY ?_;unfold uW;rw[iD]
  cases b with
  | true=>
    rw[if_pos rfl];obtain⟨a1,a2⟩:=u rfl;refine oF (c.ld 0 rfl rfl) ?_;rw[show jz 3 1 1 (V.I 0) [(0,V.I (x.a:Nat))]=some (.cells 3 1 true false (ic [x.a]),λl=> .slice l 0 1) from rfl,fE];refine fin [x.a] ?_;unfold O1 at a2;unfold nq at a1;unfold hK two nq;simp only[KO,Cw]at a1
    rcases a1 with((((e|e)|e)|e)|e)|e <;> rw[e] <;> rfl
  | false=>
    rw[if_neg (by simp)];obtain⟨a1,a2⟩:=M rfl;by_cases k:x.op=20
    ·refine gy (gz (by omega) ?_)
     refine oF (c.ld 0 rfl rfl) (eh j.len ?_);have A:hK x=x.a::x.b::x.args.take 1:=by unfold hK;rw[k];rfl
     by_cases N:x.args.length=0
     ·refine gy (gz (by omega) ?_)
      refine oF (c.ld 0 rfl rfl) (oF (c.ld 0 rfl rfl) ?_);rw[nx2,fE];refine fin [x.a,x.b] ?_;rw[A,wAs N];rfl
     ·refine gy (gh (by omega) ?_)
      obtain⟨l,o,P,R,B⟩:=j.nat (i:=0) (iy (by omega)) .i64;refine oF (c.ld 0 rfl rfl) (oF (c.ld 0 rfl rfl) (oF (c.ld 0 rfl rfl) (eh R (eh B ?_))));rw[show jz 3 1 3 (V.I 0) [(0,V.I (x.a:Nat)),(1,V.I (x.b:Nat)),(2,V.I (x.args[0]:Nat))]=some (.cells 3 1 true false (ic [x.a,x.b,x.args[0]]),λl=> .slice l 0 3) from rfl,hX];obtain⟨s,z⟩:=c.grow (mA.new r (.cells 3 1 true false (ic [x.a,x.b,x.args[0]])));refine⟨⟨fq _ _,O.kF _ _ _ _ _⟩,iA B (fk _ (c.fl _ P)),s.ld 0 rfl rfl,s.ld 0 rfl rfl,s.ld 0 rfl rfl,fin [x.a,x.b,x.args[0]] ?_⟩;rw[A,zeE (show 0<x.args.length by omega)]
    refine gy (gh (by omega) ?_);by_cases t:x.op=21
    ·refine gy (gz (by omega) ?_)
     refine oF (c.ld 0 rfl rfl) ?_;refine H _ _ _ p c.tail ?_;have:hK x=x.args:=by unfold hK;rw[if_pos t]
     rw[this];exact j
    ·refine gy (gh (by omega) ?_)
     refine H _ _ _ p c.tail ?_;have:hK x=[]:=by
       unfold hK;rw[if_neg t,if_neg k,if_neg,if_neg a1];intro e;apply a2;unfold O1;rw[e];simpa using k
     rw[this];exact .nil
 have d:∀b:Bool,b=O1 x.op->gq CS Q (.ptr h.next 0) (.I x.op) (.bool b) r:=by
  intro b hb;refine CZ ?_;unfold uB;rw[iD]
  cases b with
  | true=>
    rw[if_pos rfl];refine oF (c.ld 0 rfl rfl) (oF (c.ld 0 rfl rfl) ?_);rw[nx2,fE];refine fin [x.a,x.b] ?_;unfold O1 at hb;have hb:=hb.symm;rw[vH,wB6]at hb;unfold hK;rw[if_neg,if_neg hb.2,if_pos hb.1];intro e;rw[e]at hb
    exact absurd hb.1 (by decide)
  | false=>
    have m:O1 x.op≠true:=by rw[<-hb];simp
    rw[if_neg (by simp)];refine ir ?_;rw[iD];split
    ·rename_i e;refine r9 _ (λ_=>⟨?_,m⟩) λh=>absurd (h.symm.trans e) (by simp)
     have:x.op=8:=by simp at e;omega
     rw[this];rfl
    rename_i C;have C:x.op≠8:=λe=>C (by rw[e];rfl);refine ir ?_;rw[iD];split
    ·rename_i e;refine r9 _ (λ_=>⟨?_,m⟩) λh=>absurd (h.symm.trans e) (by simp)
     have:x.op=9:=by simp at e;omega
     rw[this];rfl
    rename_i D;have D:x.op≠9:=λe=>D (by rw[e];rfl);refine ir ?_;rw[iD];split
    ·rename_i e;refine r9 _ (λ_=>⟨?_,m⟩) λh=>absurd (h.symm.trans e) (by simp)
     have:x.op=15:=by simp at e;omega
     rw[this];rfl
    rename_i G;have G:x.op≠15:=λe=>G (by rw[e];rfl);refine ir ?_;rw[iD];split
    ·rename_i e;refine r9 _ (λ_=>⟨?_,m⟩) λh=>absurd (h.symm.trans e) (by simp)
     have:x.op=16:=by simp at e;omega
     rw[this];rfl
    rename_i I;have I:x.op≠16:=λe=>I (by rw[e];rfl);refine ir ?_;rw[iD];split
    ·rename_i e;refine r9 _ (λ_=>⟨?_,m⟩) λh=>absurd (h.symm.trans e) (by simp)
     have:x.op=17:=by simp at e;omega
     rw[this];rfl
    rename_i J;have J:x.op≠17:=λe=>J (by rw[e];rfl);refine ir ?_;refine r9 _ (λe=>⟨?_,m⟩) λe=>⟨?_,m⟩
    ·have:x.op=22:=by simp at e;omega
     rw[this];rfl
    ·have e:=of_decide_eq_false e
     intro hq;unfold nq at hq;simp only[KO,Cw]at hq;omega
 have f:∀n:Nat,(x.op:Int)=n->(O1 n=true)->O1 x.op=true:=λn e h=>by
  have:x.op=n:=by omega
  rw[this];exact h
 refine oF (c.ld 0 rfl rfl) ?_;refine ir ?_;rw[iD];split
 ·rename_i e;exact d _ (e.trans (f 3 (by simpa using e) rfl).symm)
 rename_i S;refine ir ?_;rw[iD];split
 ·rename_i e;exact d _ (e.trans (f 4 (by simpa using e) rfl).symm)
 rename_i T;refine ir ?_;rw[iD];split
 ·rename_i e;exact d _ (e.trans (f 5 (by simpa using e) rfl).symm)
 rename_i U;refine ir ?_;rw[iD];split
 ·rename_i e;exact d _ (e.trans (f 6 (by simpa using e) rfl).symm)
 rename_i W;refine ir ?_;rw[iD];split
 ·rename_i e;exact d _ (e.trans (f 7 (by simpa using e) rfl).symm)
 rename_i X;refine ir ?_;rw[iD];split
 ·rename_i e;exact d _ (e.trans (f 10 (by simpa using e) rfl).symm)
 rename_i Y;refine ir ?_;rw[iD];split
 ·rename_i e;exact d _ (e.trans (f 11 (by simpa using e) rfl).symm)
 rename_i Z;refine ir ?_;rw[iD];split
 ·rename_i e;exact d _ (e.trans (f 12 (by simpa using e) rfl).symm)
 rename_i f7;refine ir ?_;rw[iD];split
 ·rename_i e;exact d _ (e.trans (f 13 (by simpa using e) rfl).symm)
 rename_i f8;refine ir ?_;rw[iD];split
 ·rename_i e;exact d _ (e.trans (f 14 (by simpa using e) rfl).symm)
 rename_i f9;refine ir ?_;rw[iD];split
 ·rename_i e;exact d _ (e.trans (f 18 (by simpa using e) rfl).symm)
 rename_i w;refine ir (d _ ?_);rw[Xz];unfold O1 two;simp only[CU,KO,vH,Cw,wB6];constructor
 ·intro e;omega
 ·intro e;have q:∀n:Nat,¬decide ((x.op:Int)=(n:Nat))=true->x.op≠n:=λn h e=>h (by rw[e];simp);have k0:=q 3 S;have k1:=q 4 T;have k2:=q 5 U;have k3:=q 6 W;have k4:=q 7 X;have k5:=q 10 Y;have k6:=q 11 Z;have k7:=q 12 f7;have k8:=q 13 f8;have k9:=q 14 f9;have aa:=q 18 w;omega
end
open Un
theorem pf{l o k:Nat}:fJ k (.ptr l o)=some (.ptr l (o+k)):=fM _ _ _
theorem pn{l o:Nat}:iL (.ptr l o)=some (.ptr l o):=fZ _ _
theorem bq{e sz:Nat}{a b:Bool}{cs:List V}:O.beq (.cells e sz a b cs) (.cells e sz a b cs)=true:=O.kF _ _ _ _ _
theorem fG{X:Option V}{K:V->Prop}(h:oP X K):oP (fF false (.bool false)) λb=>oP (gV b X) K:=h
theorem fY{X:Option V}{K:V->Prop}(h:oP X K):oP (fF true (.bool true)) λb=>oP (gV b X) K:=h
theorem iu{X:Option V}{K:V->Prop}(h:K .undef):oP (fF true (.bool false)) λb=>oP (gV b X) K:=h
theorem O3{X:Option V}{K:V->Prop}(h:K .undef):oP (fF false (.bool true)) λb=>oP (gV b X) K:=h
theorem pW{C:fu}{f:Nat}{a:List V}{h:Hp}{K:fD}(H:cP C f a h K):oP (fF false (.bool false)) λb=>oP (gC b (some (f,a))) λy=>qP C y h K:=H
theorem vS{C:fu}{f:Nat}{a:List V}{h:Hp}{K:fD}(H:cP C f a h K):oP (fF true (.bool true)) λb=>oP (gC b (some (f,a))) λy=>qP C y h K:=H
theorem GL{C:fu}{f:Nat}{a:List V}{h:Hp}{K:fD}(H:K .undef h):oP (fF true (.bool false)) λb=>oP (gC b (some (f,a))) λy=>qP C y h K:=H
theorem rP{b:Bool}{A B:Prop}(h:if b=true then B else A):oP (qf .not (.bool b)) λv=>bP v A B:=by
 cases b <;> exact h
theorem VX{b:Bool}{K:V->Prop}(h:K (.bool (!b))):oP (qf .not (.bool b)) K:=h
section
variable{F F':Nat->Prop}{h h':Hp}{cs:List Pc}{Q:fD}{u:U}{vv vb vs:V}
theorem gZ{T n:Nat}{b ws:List V}{K:fD}(H:eo F h cs)(d:b.length=n)(e:ws.length=n)(c:gw ws=true)(f:∀a,eo F a (eQ h.next T ws::cs)->Sn F h F a->K (.ptr h.next 0) a) :
  hV (some (O.cells T 1 true false b,λl=>V.ptr l 0)) h λv c=>fm (gJ n v (.agg ws) c) λ_ a=>K v a:=by
 rw[fE];obtain⟨g,i⟩:=H.Aw T b;obtain⟨a,j,_,k,m⟩:=g.U1 0 rfl e d c;rw[j,en];exact f a k (i.trans m)
theorem jH{T:Nat}{ws:List V}{K:fD}(H:eo F h cs)(b:gw ws=true)(c:∀a,eo F a (eQ h.next T ws::cs)->Sn F h F a->K (.ptr h.next 0) a):hV (lR T (.agg ws)) h K:=by
 rw[Fg b,fE];obtain⟨d,e⟩:=H.Aw T ws;exact c _ d e
theorem zcS{T:Nat}(xs:List Nat){ps:Option (O×(Nat->V))}(hx:ps=some (O.cells T 1 true false (ic xs),λl=> .slice l 0 xs.length)){K:fD}(H:eo F h cs)
  (b:∀F' a v,eo F' a cs->Sn F h F' a->im eN F' a xs v->K v a):hV ps h K:=by
 subst hx;rw[fE];obtain⟨c,d,r1⟩:=H.za4 (E:=eN) T rfl (zI F h xs) false;exact b _ _ _ c d r1
theorem qB{T:Nat}(x:Nat):jz T 1 1 (V.I 0) [(0,V.I x)]=some (.cells T 1 true false (ic [x]),λl=> .slice l 0 1):=rfl
structure Ck (F:Nat->Prop) (h:Hp) (cs:List Pc) (lc:Nat) (u:U) (vv vb vs bl pl GD:V):Prop where
 H:eo F h cs
 c:∃(i ty:Nat),cs[i]? =some (eQ lc ty [.I u.func,.I u.pc,vv,vb,vs,bl,pl,GD])
 u:wW F h u vv vb vs
variable{lc:Nat}{bl pl GD:V}
theorem Ck.since(C:Ck F h cs lc u vv vb vs bl pl GD)(s:Sn F h F' h')(a:eo F' h' cs):Ck F' h' cs lc u vv vb vs bl pl GD:=⟨a,C.c,C.u.since s⟩
theorem Ck.cons(C:Ck F h cs lc u vv vb vs bl pl GD)(s:Sn F h F' h'){p:Pc} (a:eo F' h' (p::cs)):Ck F' h' (p::cs) lc u vv vb vs bl pl GD:=
 ⟨a,let⟨i,ty,hc⟩:=C.c;⟨i+1,ty,hc⟩,C.u.since s⟩
theorem Ck.ld(C:Ck F h cs lc u vv vb vs bl pl GD)(o:Nat){y:V}(a:[.I u.func,.I u.pc,vv,vb,vs,bl,pl,GD][o]? =some y):fe (.ptr lc o) h=some y:=
 let⟨i,_,hc⟩:=C.c;C.H.ld i hc a
theorem NY{a0 c:V}{n:Nat}(l:n<1000000)(P:(Nat->Prop)->Hp->Prop)(h0:P F h)
  (step:∀i,i<n->∀F' h',P F' h'->∀e:V->Hp->Prop,(∀a b,P a b->e (.bool true) b)->ij CS (gv c [.I (i:Nat)]) h' e) (H:∀F' h',P F' h'->Q (.bool true) h') :
  cP CS j5 [a0,.I n,c] h Q:=by
 refine KJ rfl rfl ?_;unfold Cn;refine GX (λk f g j h'=>∃(F':Nat->Prop) (i:Nat),f = .I n/\g=c/\j = .I i/\i+k=n/\P F' h') ?_ (k:=n) ⟨F,0,rfl,rfl,rfl,by omega,h0⟩;rintro k f g j h' ⟨F',i,rfl,rfl,rfl,m,hp⟩;unfold zy;by_cases hi:i<n
 ·refine gK ?_;refine step i hi F' h' hp _ λa b d=>?_;refine rP (gz rfl ?_);exact fL ⟨k-1,by omega,a,i+1,rfl,rfl,rfl,by omega,d⟩
 ·exact iQ (H F' h' hp)
theorem Ka(C:Ck F h cs lc u vv vb vs bl pl GD){l:List Nat}{v:V}(b:im eN F h l v)(q:l.length<1000000)(g:∀w∈l,vD u w)(H:Q (.bool true) h):cP CS jx [.ptr lc 0,v] h Q:=by
 refine Iq rfl rfl ?_;unfold Aa;refine eh b.len ?_;refine ET (λk c d e f h'=>∃i:Nat,c = .ptr lc 0/\d=v/\e = .I l.length/\f = .I (i:Nat)/\i+k=l.length/\h' = h) ?_ (k:=l.length) ⟨0,rfl,rfl,rfl,rfl,by omega,rfl⟩;rintro k c d e f h' ⟨i,rfl,rfl,rfl,rfl,r,rfl⟩;unfold yd;by_cases hi:i<l.length
 ·refine gK ?_;obtain⟨l1,s,_,j,m⟩:=b.nat (iy hi) .i64;obtain⟨x,hx,gx⟩:=g _ (AY hi);have a:=(ki.1 hx).1;refine eh j (eh m (eh (fZ _ _) (eh (fM _ _ _) (oF (C.ld 2 rfl) (eh C.u.v.len ?_)))));refine A6 (rP (gz (by simpa using a) ?_));obtain⟨l2,t,y,_,n,_,_,o⟩:=C.u.val hx;refine eh (fZ _ _) (eh (fM _ _ _) (oF (C.ld 2 rfl) (eh n (oF o.op ?_))));have p:x.op<19\/x.op=21:=by
   unfold IM at gx;simpa using gx
  refine ir (jj (gh (by simp;omega) ?_));refine ir (jj (gh (by simp;omega) ?_));refine ir (jj (gh (by simp;omega) ?_));refine ir ?_;rw[KM (by omega)];refine Du ?_;unfold vZ;refine jj (gh (by simp) ?_);exact fL ⟨k-1,by omega,i+1,rfl,rfl,rfl,rfl,by omega,rfl⟩
 ·exact iQ H
theorem Zp(C:Ck F h cs lc u vv vb vs bl pl GD){i:Nat}{fs:List Fm}(hs:u.ev[i]? =some fs)(E:1<=fs.length/\fs.length<=30)(w:∀f∈fs,f.locals.length<=40/\f.stack.length<=60/\(∀v∈f.locals,vD u v)/\∀v∈f.stack,vD u v)
  (H:∀h',Sn F h F h'->eo F h' cs->Q (.bool true) h'):cP CS mW [.ptr lc 0,.I i] h Q:=by
 refine Ig rfl rfl ?_;unfold Ad;obtain⟨l1,G,f,_,x,y,_,q⟩:=C.u.st hs;refine eh (fZ _ _) (eh (fM _ _ _) (oF (C.ld 4 rfl) (eh x (eh y ?_))));refine gZ C.H rfl rfl (by simp[q.one]) λI n r=>?_;have r2:=q.since r;refine oF (n.ld 0 rfl rfl) (eh r2.len (ir ?_));rw[KM (by omega),oH,fM,fo,n.ld 0 (o:=0+0) rfl rfl,fo,r2.len,fo,qn];refine eh rfl (jj (gh (by simp;omega) ?_));refine oF (n.ld 0 rfl rfl) (eh r2.len ?_);have C2:=C.since r n.tail
 refine Fk (λk t c d e h'=>∃j:Nat,t = .ptr lc 0/\c=f/\d = .I fs.length/\e = .I (j:Nat)/\j+k=fs.length/\Sn F h F h'/\Ck F h' cs lc u vv vb vs bl pl GD) ?_ (k:=fs.length)
  ⟨0,rfl,rfl,rfl,rfl,by omega,r,C2⟩
 rintro k t c d e h' ⟨j,rfl,rfl,rfl,rfl,J,s',s⟩;unfold xI;by_cases hj:j<fs.length
 ·refine gK ?_;obtain⟨l3,K,a,b,_,z,A,g,l⟩:=(q.since s').pG (iy hj);refine eh z (eh A ?_);obtain⟨L,M,B,D⟩:=w _ (AY hj);refine gZ s.H rfl rfl (by simp only[Ll,eJ,g.one,l.one];rfl) λN m p=>?_;have g:=g.since p;have l:=l.since p;have C3:=s.since p m.tail;refine oF (m.ld 0 rfl rfl) (eh g.len ?_);refine eh (qn _ _ _ _) ?_;rw[KM (by omega),oH,fM,fo,m.ld 0 (o:=0+3) rfl rfl,fo,l.len,fo,qn,KM (by omega)];refine eh rfl (fG (eh rfl (fG (eh (fM _ _ _) (fG (eh (m.ld 0 rfl rfl) (pW ?_)))))));refine Ka C3 g (by omega) B (eh rfl (fG (eh rfl (fG (eh (fM _ _ _) (fG (eh (m.ld 0 rfl rfl) (pW ?_))))))));refine Ka C3 l (by omega) D (eh rfl (jj (gh (by simp) ?_)));exact fL ⟨k-1,by omega,j+1,rfl,rfl,rfl,rfl,by omega,s'.trans p,C3⟩
 ·exact iQ (H h' s' s.H)
end
