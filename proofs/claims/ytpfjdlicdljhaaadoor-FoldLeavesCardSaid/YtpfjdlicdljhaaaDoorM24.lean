/- Parts. -/
import Derived.Test.YtpfjdlicdljhaaaDoorM23
import Derived.Test.YtpfjdlicdljhaaaDoorM16
set_option maxHeartbeats 4000000
namespace Go.Proofs.YtpfjdlicdljhaaaDoor.Hx
open Un
def eZ:pG Int where
 sz:=1
 rel _ _ n cs:=cs=[.I n]
 len h:=by simp_all
 one h:=by subst h;rfl
 eR _ h:=h
 mono _ h:=h
def eW:pG (Nat×Nat) where
 sz:=2
 rel _ _ x cs:=cs=[.I (x.1:Nat),.I (x.2:Nat)]
 len h:=by simp_all
 one h:=by subst h;rfl
 eR _ h:=h
 mono _ h:=h
structure CL (F:Nat->Prop) (h:Hp) (u:U) (vv vb vs:V):Prop where
 v:iA eV F h u.ef vv
 b:iA eK F h u.blocks vb
 s:iA eT F h u.eh vs
theorem CL.eR{F:Nat->Prop}{h h':Hp}{u:U}{vv vb vs:V}(hk:∀l,F l->h'.get l=h.get l)(a:CL F h u vv vb vs):CL F h' u vv vb vs:=⟨a.v.eR hk,a.b.eR hk,a.s.eR hk⟩
theorem CL.mono{F F':Nat->Prop}{h:Hp}{u:U}{vv vb vs:V}(hk:∀l,F l->F' l)(a:CL F h u vv vb vs):CL F' h u vv vb vs:=⟨a.v.mono hk,a.b.mono hk,a.s.mono hk⟩
theorem CL.one{F:Nat->Prop}{h:Hp}{u:U}{vv vb vs:V}(a:CL F h u vv vb vs):fW (uC u vv vb vs)=true:=by simp only[uC,ev,a.v.one,a.b.one,a.s.one];rfl
theorem iA.since{α:Type}{E:pG α}{F F':Nat->Prop}{h h':Hp}{xs:List α}{v:V}(hs:iA E F h xs v)(s:Sn F h F' h'):iA E F' h' xs v:=(hs.eR s.eR).mono s.mono
theorem CL.since{F F':Nat->Prop}{h h':Hp}{u:U}{vv vb vs:V}(a:CL F h u vv vb vs)(s:Sn F h F' h'):CL F' h' u vv vb vs:=(a.eR s.eR).mono s.mono
section
variable{F F':Nat->Prop}{h h':Hp}{cs:List Pc}{Q:fo}{u:U}{vv vb vs:V}
structure zci (h:Hp) (l o:Nat) (x:Vl) (w:V):Prop where
 op:ey (.ptr l (o+0)) h=some (.I x.op)
 a:ey (.ptr l (o+1)) h=some (.I x.a)
 b:ey (.ptr l (o+2)) h=some (.I x.b)
 n:ey (.ptr l (o+3)) h=some (.I x.n)
 args:ey (.ptr l (o+4)) h=some w
 st:ey (.ptr l (o+5)) h=some (.I x.state)
structure zb4 (h:Hp) (l o:Nat) (x:Bk) (v n p:V):Prop where
 ef:ey (.ptr l (o+0)) h=some v
 fin:ey (.ptr l (o+1)) h=some (.I x.fin)
 cond:ey (.ptr l (o+2)) h=some (.I x.cond)
 next:ey (.ptr l (o+3)) h=some n
 ez:ey (.ptr l (o+4)) h=some p
 st:ey (.ptr l (o+5)) h=some (.I x.state)
theorem CL.val(a:CL F h u vv vb vs){i:Nat}{x:Vl}(c:u.ef[i]? =some x) :
  ∃l o w,F l/\gI 6 vv (.I i)=some (.ptr l o)/\gy 6 (.ptr l o) h=some (.agg (lT x w))/\iA eN F h x.args w/\zci h l o x w:=by
 obtain⟨hi,rfl⟩:=jq.1 c;obtain⟨l,o,w,d,e,f,⟨a,rfl,g⟩,b⟩:=a.v.ix hi .i64;exact⟨l,o,a,d,e,f,g,⟨b 0 _ rfl,b 1 _ rfl,b 2 _ rfl,b 3 _ rfl,b 4 _ rfl,b 5 _ rfl⟩⟩
theorem CL.mh(a:CL F h u vv vb vs){i:Nat}{x:Bk}(d:u.blocks[i]? =some x) :
  ∃l o v n p,F l/\gI 6 vb (.I i)=some (.ptr l o)/\gy 6 (.ptr l o) h=some (.agg (lB x v n p))/\iA eN F h x.ef v/\iA eN F h x.next n/\iA eN F h x.ez p/\zb4 h l o x v n p:=by
 obtain⟨hi,rfl⟩:=jq.1 d;obtain⟨l,o,w,e,f,g,⟨v,n,p,rfl,j,k,m⟩,c⟩:=a.b.ix hi .i64;exact⟨l,o,v,n,p,e,f,g,j,k,m,⟨c 0 _ rfl,c 1 _ rfl,c 2 _ rfl,c 3 _ rfl,c 4 _ rfl,c 5 _ rfl⟩⟩
theorem CL.st(a:CL F h u vv vb vs){i:Nat}{x:List Fm}(b:u.eh[i]? =some x) :
  ∃l o f,F l/\gI 1 vs (.I i)=some (.ptr l o)/\gy 1 (.ptr l o) h=some (.agg [f])/\ey (.ptr l o) h=some f/\iA eF F h x f:=by
 obtain⟨hi,rfl⟩:=jq.1 b;obtain⟨l,o,w,c,d,e,⟨f,rfl,g⟩,j⟩:=a.s.ix hi .i64;exact⟨l,o,f,c,d,e,j 0 f rfl,g⟩
theorem iA.xI{fs:List Fm}{f:V}(a:iA eF F h fs f){i:Nat}{x:Fm}(c:fs[i]? =some x) :
  ∃l o a b,F l/\gI 4 f (.I i)=some (.ptr l o)/\gy 4 (.ptr l o) h=some (.agg (Ol x a b))/\iA eN F h x.locals a/\iA eN F h x.stack b:=by
 obtain⟨hi,rfl⟩:=jq.1 c;obtain⟨l,o,w,d,e,g,⟨a,b,rfl,j,k⟩,_⟩:=a.ix hi .i64;exact⟨l,o,a,b,d,e,g,j,k⟩
theorem iA.nat{xs:List Nat}{v:V}(a:iA eN F h xs v){i x:Nat}(b:xs[i]? =some x)(kd:IntKind):∃l o,F l/\gI 1 v (.int kd (i:Nat))=some (.ptr l o)/\ey (.ptr l o) h=some (.I x):=by
 obtain ⟨hi,rfl⟩:=jq.1 b;obtain⟨l,o,w,d,e,f,c⟩:=a.US hi kd rfl;obtain rfl:w = .I (xs[i]:Nat):=by
  have:[w]=[V.I (xs[i]:Nat)]:=c
  simp_all
 grind
theorem iA.int{xs:List Int}{v:V}(a:iA eZ F h xs v){i:Nat}{x:Int}(b:xs[i]? =some x)(kd:IntKind):∃l o,F l/\gI 1 v (.int kd (i:Nat))=some (.ptr l o)/\ey (.ptr l o) h=some (.I x):=by
 obtain ⟨hi,rfl⟩:=jq.1 b;obtain⟨l,o,w,d,e,f,c⟩:=a.US hi kd rfl;obtain rfl:w = .I xs[i]:=by
  have:[w]=[V.I xs[i]]:=c
  simp_all
 grind
theorem iA.bool{xs:List Bool}{v:V}(a:iA eB F h xs v){i:Nat}{x:Bool}(b:xs[i]? =some x)(kd:IntKind):∃l o,F l/\gI 1 v (.int kd (i:Nat))=some (.ptr l o)/\ey (.ptr l o) h=some (.bool x):=by
 obtain ⟨hi,rfl⟩:=jq.1 b;obtain⟨l,o,w,d,e,f,c⟩:=a.US hi kd rfl;obtain rfl:w = .bool xs[i]:=by
  have:[w]=[V.bool xs[i]]:=c
  simp_all
 grind
theorem iA.list{α:Type}{E:pG α}{xs:List (List α)}{v:V}(a:iA (eL E) F h xs v){i:Nat}{x:List α}(b:xs[i]? =some x)(kd:IntKind):∃l o w,F l/\gI 1 v (.int kd (i:Nat))=some (.ptr l o)/\ey (.ptr l o) h=some w/\iA E F h x w:=by
 obtain⟨hi,rfl⟩:=jq.1 b;obtain⟨l,o,w,c,d,e,f,g,j⟩:=a.US hi kd rfl
 grind
theorem Cw{t:Nat}{k:IntKind}{a b:Int}{A B:Prop}(h:if a=b then B else A):oP (eo .neq t (.int k a) (.int k b)) λv=>bP v A B:=by
 simp_all
theorem zbr{t:Nat}{k:IntKind}{a b:Int}{A B:Prop}(h:if b<=a then A else B):oP (eo .geq t (.int k a) (.int k b)) λv=>bP v A B:=by
 simp_all
theorem XZ(a b:Nat):((a:Int) == (b:Int))=(a == b):=by
 grind
theorem gQ{t:Nat}{k:IntKind}{a b:Int}{K:V->Prop}(h:K (.bool (decide (a=b)))):oP (eo .eql t (.int k a) (.int k b)) K:=by
 rw[ik]
 grind[decide,oP]
def mg(op:Nat):Nat:=if two op=true then 2 else if nP op=true then 1 else 0
theorem Ls{op:Nat}(H:Q (.I (mg op:Nat)) h):cP CS te [.I op] h Q:=by
 refine Pz rfl rfl ?_;unfold IZ;have r9:∀b:Bool,(b=true->nP op=true/\two op≠true)->(b=false->nP op≠true/\two op≠true)->gB CS Q (.bool b) h:=by
  intro b u v;refine KP ?_;unfold DJ;rw[gZ];unfold mg at H
  cases b with
  |true=>simp_all
  |false=>simp_all
 have a:∀b:Bool,b=two op->hH CS Q (.I op) (.bool b) h:=by
  intro b p;refine KU ?_;unfold DE;rw[gZ]
  cases b with
  |true=>simp_all[mg,if_pos]
  | false=>
    have o:two op≠true:=by rw[<-p];simp
    rw[if_neg (by simp)];refine gQ ?_;rw[gZ];split
    ·grind[absurd,gB,CS,mg,Un.nP,Un.two,gB,CS,Un.two,Un.two]
    rename_i d;refine gQ ?_;rw[gZ];split
    ·grind[absurd,gB,CS,mg,Un.nP,Un.two,gB,CS,Un.two,Un.two]
    rename_i f;refine gQ ?_;rw[gZ];split
    ·grind[absurd,gB,CS,mg,Un.nP,Un.two,gB,CS,Un.two,Un.two]
    rename_i g;refine gQ ?_;rw[gZ];split
    ·grind[absurd,gB,CS,mg,Un.nP,Un.two,gB,CS,Un.two,Un.two]
    rename_i i;refine gQ ?_;rw[gZ];split
    ·grind[absurd,gB,CS,mg,Un.nP,Un.two,gB,CS,Un.two,Un.two]
    rename_i j;refine gQ ?_;simp at d f g i j;refine r9 _ (λe=>⟨?_,o⟩) λe=>⟨?_,o⟩
    ·grind[Un.nP,mg,Un.nP,Un.two,gB,CS,Un.two,Un.two]
    ·have e:=of_decide_eq_false e
     intro hq;unfold nP at hq
     grind
 have c:∀n:Nat,(op:Int)=n->(two n=true)->two op=true:=by grind
 refine gQ ?_;rw[gZ];split
 ·rename_i e;exact a _ (e.trans (c 3 (by simp_all) rfl).symm)
 rename_i d;refine gQ ?_;rw[gZ];split
 ·rename_i e;exact a _ (e.trans (c 4 (by simp_all) rfl).symm)
 rename_i f;refine gQ ?_;rw[gZ];split
 ·rename_i e;exact a _ (e.trans (c 5 (by simp_all) rfl).symm)
 rename_i g;refine gQ ?_;rw[gZ];split
 ·rename_i e;exact a _ (e.trans (c 6 (by simp_all) rfl).symm)
 rename_i i;refine gQ ?_;rw[gZ];split
 ·rename_i e;exact a _ (e.trans (c 7 (by simp_all) rfl).symm)
 rename_i j;refine gQ ?_;rw[gZ];split
 ·rename_i e;exact a _ (e.trans (c 10 (by simp_all) rfl).symm)
 rename_i q;refine gQ ?_;rw[gZ];split
 ·rename_i e;exact a _ (e.trans (c 11 (by simp_all) rfl).symm)
 rename_i r;refine gQ ?_;rw[gZ];split
 ·rename_i e;exact a _ (e.trans (c 12 (by simp_all) rfl).symm)
 rename_i s;refine gQ ?_;rw[gZ];split
 ·rename_i e;exact a _ (e.trans (c 13 (by simp_all) rfl).symm)
 rename_i t;refine gQ ?_;rw[gZ];split
 ·rename_i e;exact a _ (e.trans (c 14 (by simp_all) rfl).symm)
 rename_i k;refine gQ ?_;rw[gZ];split
 ·rename_i e;exact a _ (e.trans (c 18 (by simp_all) rfl).symm)
 rename_i l;refine gQ ?_;rw[gZ];split
 ·rename_i e;exact a _ (e.trans (c 19 (by simp_all) rfl).symm)
 rename_i m;refine gQ (a _ ?_);simp at d f g i j q r s t k l m;rw[Rc];unfold two
 grind
theorem Ik{op:Nat}(H:Q (.bool (leaves op)) h):cP CS nU [.I op] h Q:=by
 refine M1 rfl rfl ?_
 grind[G4,leaves,Int,XZ,ik,gW,fe,pe,CS,Un.leaves]
theorem yS{a b:Nat}(H:Q (.bool (decide (a<b))) h):cP CS jN [.I a,.I b] h Q:=by
 refine Qb rfl rfl ?_
 grind[Ja,po,gW,fe,mj,iD,decide,Int,CS]
theorem U4{xs:List Nat}{a b:V}(c:iA eN F h xs a)(d:iA eN F h xs b)(r:xs.length<1000000000)(H:Q (.bool true) h):cP CS lJ [a,b] h Q:=by
 refine BC rfl rfl ?_;unfold uU;refine ed c.len (ed d.len (Cw (gw rfl (ed c.len ?_))));refine zz (λk e f g j h'=>∃i:Nat,e=a/\f=b/\g = .I xs.length/\j = .I (i:Nat)/\i+k=xs.length/\h' = h) ?_ (k:=xs.length) (by simp_all);rintro k e f g j h' ⟨i,rfl,rfl,rfl,rfl,hk,rfl⟩;unfold rj;by_cases hi:i<xs.length
 ·refine gv ?_;obtain⟨l,o,_,m,n⟩:=c.nat (ig hi) .i64;obtain⟨s,t,_,p,q⟩:=d.nat (ig hi) .i64;refine ed m (ed n (ed p (ed q (Cw (gw rfl ?_)))));exact fM ⟨k-1,by omega,i+1,rfl,rfl,rfl,rfl,by omega,rfl⟩
 ·exact ir H
end
open Un
theorem zbu:∀{l:List Nat}(h:0<l.length),l.take 1=[l[0]]
 |y::l,_=>by simp
theorem JX(x:Vl):g0 x=([x.a,x.b].take (mg x.op))++(if x.op=20 then x.args.take 1 else if x.op=21 then x.args else[]):=by
 unfold g0 mg;by_cases c:x.op=21
 ·grind[two,nP]
 ·rw[if_neg c];by_cases d:x.op=20
  ·grind[two]
  grind
section
variable{F F':Nat->Prop}{h h':Hp}{cs:List Pc}{Q:fo}{u:U}{vv vb vs:V}
theorem GY{x:Vl}(a:x.op=21\/x.op=20->x.args.length<=700):(g0 x).length<=1000:=by
 rw[JX]
 grind
theorem Ny(T:ei F h cs){x:Vl}{c:V}(P:iA eN F h x.args c)(R:x.op=21\/x.op=20->x.args.length<=1000000)(H:∀F' h' v,Sn F h F' h'->ei F' h' cs->iA eN F' h' (g0 x) v->Q v h'):cP CS sH [.agg (lT x c)] h Q:=by
 refine QJ rfl rfl ?_;unfold La;have U:fW (lT x c)=true:=by simp only[lT,ev,P.one];rfl
 rw[El U,fw];obtain⟨C,D⟩:=T.zt gi (lT x c);have n1:(h.new (.cells 38 1 true false (lT x c))).next=h.next+1:=rfl;have C:ei F (h.new (.cells 38 1 true false (lT x c))) (er h.next gi (lT x c)::cs):=C;have D:Sn F h F (h.new (.cells 38 1 true false (lT x c))):=D;generalize h.new (.cells 38 1 true false (lT x c))=d at*;rw[GN,ic];obtain⟨s,G⟩:=C.XE (E:=eN) (xs:=[]) (ws:=[]) (n:=0) en rfl trivial rfl;have s:ei F (d.new (.cells 3 1 true false [])) (eJ eN en [] (.slice d.next 0 0)::er h.next gi (lT x c)::cs):=s;have G:Sn F d F (d.new (.cells 3 1 true false [])):=G;have g2:(d.new (.cells 3 1 true false [])).get d.next=some (.cells 3 1 true false []):=fg _ _;have n2:(d.new (.cells 3 1 true false [])).next=d.next+1:=rfl;generalize d.new (.cells 3 1 true false [])=i at*;refine ed (by rfl) (ed (s.ld 1 rfl rfl) (ed (by rfl) (ed (s.ld 1 rfl rfl) ?_)));rw[nx2,ic];obtain⟨j,I⟩:=s.XE (E:=eN) (xs:=[x.a,x.b]) (ws:=gJ [x.a,x.b]) (n:=2) en rfl (tP _ _ _) (J7 _);have j:ei F (i.new (.cells 3 1 true false (gJ [x.a,x.b]))) (eJ eN en [x.a,x.b] (.slice i.next 0 2)::eJ eN en [] (.slice d.next 0 0)::er h.next gi (lT x c)::cs):=j;have I:Sn F i F (i.new (.cells 3 1 true false (gJ [x.a,x.b]))):=I;have g3:(i.new (.cells 3 1 true false (gJ [x.a,x.b]))).get i.next=some (.cells 3 1 true false (gJ [x.a,x.b])):=fg _ _;have W:(i.new (.cells 3 1 true false (gJ [x.a,x.b]))).get d.next=some (.cells 3 1 true false []):=by grind[fm,trans]
 generalize i.new (.cells 3 1 true false (gJ [x.a,x.b]))=X at*;refine ed (by rfl) (ed (j.ld 2 rfl rfl) ⟨by simp_all,j.ld 2 rfl rfl,j.ld 2 rfl rfl,by simp_all,?_⟩);refine Ls ⟨iZ _,?_⟩;have Y:mg x.op<=2:=by
  unfold mg;split
  ·omega
  ·grind
 obtain⟨t,J,S⟩:=j.zbp 0 rfl (n:=mg x.op) Y;refine ed J ⟨by simp_all,j.ld 2 rfl rfl,j.ld 2 rfl rfl,by simp_all,?_⟩;simp only[jx]at S;obtain⟨g,r,K,Z,k,s5⟩:=S.zah 1 0 rfl rfl (kE:=8) (by decide) (by decide) (by simp;omega);have u:eQ 3 1 8 (.slice d.next 0 0) t X=some (.val g r):=K;rw[u,ej];refine⟨Z,?_⟩;simp only[mZ,jx,Qk]at k;have w:=((D.trans G).trans I).trans s5;have o:iA eN F r x.args c:=(P.eR w.eR)
 have p:∀(F':Nat->Prop) (h':Hp) (v:V) (l:List Nat),Sn F r F' h'->ei F' h' (eJ eN en ([x.a,x.b].take (mg x.op)) t::eJ eN en l v::er h.next gi (lT x c)::cs)->l=g0 x->rI CS Q v h':=by
  intro F' h' v l sF HF L;subst L;refine LM ?_;unfold Fc;obtain⟨y,z,r6⟩:=HF.jQ 1 rfl;exact H _ _ v ((w.trans sF).trans z) y.tail.tail.tail r6
 refine ed (by rfl) (ed (k.ld 2 rfl rfl) ?_);by_cases M:x.op=20
 ·have R:=by omega
  refine fP (gw (by omega) ?_);refine ed (by rfl) (ed (k.ld 2 rfl rfl) (ed (by rfl) (ed (k.ld 2 rfl rfl) (ed o.len (ed (Wa _ _ _ _) ?_)))));have em:(if false=true then max (1:Int) (x.args.length:Nat) else min (1:Int) (x.args.length:Nat))=((min 1 x.args.length:Nat):Int):=by simp;omega
  rw[em];obtain⟨N,O,A⟩:=o.cut (lo:=none) (hi:=some (.I ((min 1 x.args.length:Nat):Int))) (m:=0) (n:=min 1 x.args.length) rfl (by rfl) (LK _) (by omega);refine ed O ?_;rw[Xk]at A;obtain⟨e,B,q,n6,y,z⟩:=k.L5 1 rfl (kE:=8) A (by decide) (by decide) (by simp;omega);have f:eQ 3 1 8 g N r=some (.val e B):=q;rw[f,ej];refine p F B e _ z y ?_;rw[JX,if_pos M]
  simp_all
 refine fP (fT (by omega) ?_);by_cases aa:x.op=21
 ·have R:=by omega
  refine fP (gw (by omega) ?_);refine ed (by rfl) (ed (k.ld 2 rfl rfl) ?_);obtain⟨e,B,q,n6,y,z⟩:=k.L5 1 rfl (kE:=8) o (by decide) (by decide) (by simp;omega);have f:eQ 3 1 8 g c r=some (.val e B):=q;rw[f,ej];refine p F B e _ z y ?_
  simp_all[JX,if_neg,if_pos]
 ·refine fP (fT (by omega) ?_);refine p F r g _ (Sn.refl _ _) k ?_
  simp_all[JX,if_neg,GD]
def LZ(op:Nat):Bool:=two op&&op != 20
theorem Gf(A:ei F h cs){x:Vl}{j:V}(w:iA eN F h x.args j)(H:∀F' h' v,Sn F h F' h'->ei F' h' cs->iA eN F' h' (g0 x) v->Q v h'):cP CS iG [.agg (lT x j)] h Q:=by
 refine CV rfl rfl ?_;unfold vj;have B:fW (lT x j)=true:=by simp only[lT,ev,w.one];rfl
 rw [El B,fw];obtain⟨c,p⟩:=A.zt gi (lT x j);have c:ei F (h.new (.cells 38 1 true false (lT x j))) (er h.next gi (lT x j)::cs):=c;have p:Sn F h F (h.new (.cells 38 1 true false (lT x j))):=p;generalize h.new (.cells 38 1 true false (lT x j))=q at*;have r:=w.eR p.eR;have fin:∀(xs:List Nat),xs=g0 x->Q (.slice q.next 0 xs.length) (q.new (.cells 3 1 true false (gJ xs))):=by
  intro xs e;obtain⟨s,y,r2⟩:=c.U1 (E:=eN) (n:=xs.length) en rfl (tP F q xs) false;have:=H _ _ _ (p.trans y) s.tail (by rw[<-e];exact r2);exact this
 have r9:∀b:Bool,(b=true->nP x.op=true/\LZ x.op≠true)->(b=false->nP x.op≠true/\LZ x.op≠true)->gU CS Q (.ptr h.next 0) (.I x.op) (.bool b) q:=by
  intro b t C;refine Ar ?_;unfold rS;rw[gZ]
  cases b with
  | true=>
    rw[if_pos rfl];obtain⟨a1,a2⟩:=t rfl;refine ed (by rfl) (ed (c.ld 0 rfl rfl) ?_);rw[show ji 3 1 1 (V.I 0) [(0,V.I (x.a:Nat))]=some (.cells 3 1 true false (gJ [x.a]),λl=> .slice l 0 1) from rfl,fw];refine fin [x.a] ?_;unfold LZ at a2;unfold nP at a1;unfold g0 two nP;simp only[PR,IB]at a1
    rcases a1 with((((e|e)|e)|e)|e)|e <;> rw[e] <;> rfl
  | false=>
    rw[if_neg (by simp)];obtain⟨a1,a2⟩:=C rfl;by_cases k:x.op=20
    ·refine fP (gw (by omega) ?_)
     refine ed (by rfl) (ed (c.ld 0 rfl rfl) (ed r.len ?_));have P:g0 x=x.a::x.b::x.args.take 1:=by unfold g0;rw[k];rfl
     by_cases R:x.args.length=0
     ·refine fP (gw (by omega) ?_)
      refine ed (by rfl) (ed (c.ld 0 rfl rfl) (ed (by rfl) (ed (c.ld 0 rfl rfl) ?_)))
      grind[nx2,fw,wAy]
     ·refine fP (fT (by omega) ?_)
      obtain⟨l,o,D,G,z⟩:=r.nat (i:=0) (ig (by omega)) .i64;refine ed (by rfl) (ed (c.ld 0 rfl rfl) (ed (by rfl) (ed (c.ld 0 rfl rfl) (ed (by rfl) (ed (c.ld 0 rfl rfl) (ed G (ed z ?_)))))));rw[show ji 3 1 3 (V.I 0) [(0,V.I (x.a:Nat)),(1,V.I (x.b:Nat)),(2,V.I (x.args[0]:Nat))]=some (.cells 3 1 true false (gJ [x.a,x.b,x.args[0]]),λl=> .slice l 0 3) from rfl,ic];obtain⟨s,y⟩:=c.grow (kM.new q (.cells 3 1 true false (gJ [x.a,x.b,x.args[0]])));refine⟨by grind[fg,O.jL],j5 z (fm _ (c.fl _ D)),s.ld 0 rfl rfl,s.ld 0 rfl rfl,s.ld 0 rfl rfl,fin [x.a,x.b,x.args[0]] ?_⟩
      grind[zbu]
    refine fP (fT (by omega) ?_);by_cases u:x.op=21
    ·refine fP (gw (by omega) ?_)
     refine ed (by rfl) (ed (c.ld 0 rfl rfl) ?_);refine H _ _ _ p c.tail ?_
     simp_all[g0,if_pos]
    ·refine fP (fT (by omega) ?_)
     refine H _ _ _ p c.tail ?_;have:g0 x=[]:=by
       unfold g0;rw[if_neg u,if_neg k,if_neg,if_neg a1];intro e;apply a2;unfold LZ;rw[e];simpa using k
     rw[this];exact .nil
 have d:∀b:Bool,b=LZ x.op->fO CS Q (.ptr h.next 0) (.I x.op) (.bool b) q:=by
  intro b g;refine Ad ?_;unfold rG;rw[gZ]
  cases b with
  | true=>
    rw[if_pos rfl];refine ed (by rfl) (ed (c.ld 0 rfl rfl) (ed (by rfl) (ed (c.ld 0 rfl rfl) ?_)));rw[nx2,fw];refine fin [x.a,x.b] ?_;unfold LZ at g;have g:=g.symm;rw[ve,bne_iff_ne]at g;unfold g0;rw[if_neg,if_neg g.2,if_pos g.1];intro e;rw[e]at g
    exact absurd g.1 (by decide)
  | false=>
    have m:LZ x.op≠true:=by rw[<-g];simp
    rw[if_neg (by simp)];refine gQ ?_;rw[gZ];split
    ·rename_i e;refine r9 _ (λ_=>⟨?_,m⟩) (by grind)
     have:x.op=8:=by simp at e;omega
     rw[this];rfl
    rename_i I;have I:x.op≠8:=by grind
    refine gQ ?_;rw[gZ];split
    ·rename_i e;refine r9 _ (λ_=>⟨?_,m⟩) (by grind)
     have:x.op=9:=by simp at e;omega
     rw[this];rfl
    rename_i J;have J:x.op≠9:=by grind
    refine gQ ?_;rw[gZ];split
    ·rename_i e;refine r9 _ (λ_=>⟨?_,m⟩) (by grind)
     have:x.op=15:=by simp at e;omega
     rw[this];rfl
    rename_i K;have K:x.op≠15:=by grind
    refine gQ ?_;rw[gZ];split
    ·rename_i e;refine r9 _ (λ_=>⟨?_,m⟩) (by grind)
     have:x.op=16:=by simp at e;omega
     rw[this];rfl
    rename_i L;have L:x.op≠16:=by grind
    refine gQ ?_;rw[gZ];split
    ·rename_i e;refine r9 _ (λ_=>⟨?_,m⟩) (by grind)
     have:x.op=17:=by simp at e;omega
     rw[this];rfl
    rename_i M;have M:x.op≠17:=by grind
    refine gQ ?_;refine r9 _ (λe=>⟨?_,m⟩) λe=>⟨?_,m⟩
    ·have:x.op=22:=by simp at e;omega
     rw[this];rfl
    ·have e:=of_decide_eq_false e
     intro hq;unfold nP at hq
     grind
 have f:∀n:Nat,(x.op:Int)=n->(LZ n=true)->LZ x.op=true:=by grind
 refine ed (by rfl) (ed (c.ld 0 rfl rfl) ?_);refine gQ ?_;rw[gZ];split
 ·rename_i e;exact d _ (e.trans (f 3 (by simp_all) rfl).symm)
 rename_i S;refine gQ ?_;rw[gZ];split
 ·rename_i e;exact d _ (e.trans (f 4 (by simp_all) rfl).symm)
 rename_i T;refine gQ ?_;rw[gZ];split
 ·rename_i e;exact d _ (e.trans (f 5 (by simp_all) rfl).symm)
 rename_i U;refine gQ ?_;rw[gZ];split
 ·rename_i e;exact d _ (e.trans (f 6 (by simp_all) rfl).symm)
 rename_i W;refine gQ ?_;rw[gZ];split
 ·rename_i e;exact d _ (e.trans (f 7 (by simp_all) rfl).symm)
 rename_i X;refine gQ ?_;rw[gZ];split
 ·rename_i e;exact d _ (e.trans (f 10 (by simp_all) rfl).symm)
 rename_i Y;refine gQ ?_;rw[gZ];split
 ·rename_i e;exact d _ (e.trans (f 11 (by simp_all) rfl).symm)
 rename_i Z;refine gQ ?_;rw[gZ];split
 ·rename_i e;exact d _ (e.trans (f 12 (by simp_all) rfl).symm)
 rename_i f7;refine gQ ?_;rw[gZ];split
 ·rename_i e;exact d _ (e.trans (f 13 (by simp_all) rfl).symm)
 rename_i f8;refine gQ ?_;rw[gZ];split
 ·rename_i e;exact d _ (e.trans (f 14 (by simp_all) rfl).symm)
 rename_i f9;refine gQ ?_;rw[gZ];split
 ·rename_i e;exact d _ (e.trans (f 18 (by simp_all) rfl).symm)
 rename_i N;refine gQ (d _ ?_);rw[Rc];unfold LZ two
 grind
end
open Un
theorem pf{l o k:Nat}:fH k (.ptr l o)=some (.ptr l (o+k)):=fJ _ _ _
theorem pn{l o:Nat}:ij (.ptr l o)=some (.ptr l o):=fI _ _
theorem bq{e sz:Nat}{a b:Bool}{cs:List V}:O.beq (.cells e sz a b cs) (.cells e sz a b cs)=true:=O.jL _ _ _ _ _
theorem fK{X:Option V}{K:V->Prop}(h:oP X K):oP (fQ false (.bool false)) λb=>oP (gV b X) K:=h
theorem gj{X:Option V}{K:V->Prop}(h:oP X K):oP (fQ true (.bool true)) λb=>oP (gV b X) K:=h
theorem gO{X:Option V}{K:V->Prop}(h:K .undef):oP (fQ true (.bool false)) λb=>oP (gV b X) K:=h
theorem Vg{X:Option V}{K:V->Prop}(h:K .undef):oP (fQ false (.bool true)) λb=>oP (gV b X) K:=h
theorem xM{C:fk}{f:Nat}{a:List V}{h:Hp}{K:fo}(H:cP C f a h K):oP (fQ false (.bool false)) λb=>oP (gC b (some (f,a))) λy=>xd C y h K:=H
theorem AQ{C:fk}{f:Nat}{a:List V}{h:Hp}{K:fo}(H:cP C f a h K):oP (fQ true (.bool true)) λb=>oP (gC b (some (f,a))) λy=>xd C y h K:=H
theorem DX{C:fk}{f:Nat}{a:List V}{h:Hp}{K:fo}(H:K .undef h):oP (fQ true (.bool false)) λb=>oP (gC b (some (f,a))) λy=>xd C y h K:=H
theorem ue{b:Bool}{A B:Prop}(h:if b=true then B else A):oP (oD .not (.bool b)) λv=>bP v A B:=by
 cases b <;> exact h
theorem MZ{b:Bool}{K:V->Prop}(h:K (.bool (!b))):oP (oD .not (.bool b)) K:=h
section
variable{F F':Nat->Prop}{h h':Hp}{cs:List Pc}{Q:fo}{u:U}{vv vb vs:V}
theorem iH{T n:Nat}{b ws:List V}{K:fo}(H:ei F h cs)(d:b.length=n)(e:ws.length=n)(c:fW ws=true)(f:∀a,ei F a (er h.next T ws::cs)->Sn F h F a->K (.ptr h.next 0) a) :
  im (some (O.cells T 1 true false b,λl=>V.ptr l 0)) h λv c=>fi (gG n v (.agg ws) c) λ_ a=>K v a:=by
 rw[fw];obtain⟨g,i⟩:=H.zt T b;obtain⟨a,j,_,k,m⟩:=g.Y0 0 rfl e d c;rw[j,ej];exact f a k (i.trans m)
theorem nQ{T:Nat}{ws:List V}{K:fo}(H:ei F h cs)(b:fW ws=true)(c:∀a,ei F a (er h.next T ws::cs)->Sn F h F a->K (.ptr h.next 0) a):im (pU T (.agg ws)) h K:=by
 rw[El b,fw];obtain⟨d,e⟩:=H.zt T ws;exact c _ d e
theorem zan{T:Nat}(xs:List Nat){ps:Option (O×(Nat->V))}(b:ps=some (O.cells T 1 true false (gJ xs),λl=> .slice l 0 xs.length)){K:fo}(H:ei F h cs)
  (c:∀F' a v,ei F' a cs->Sn F h F' a->iA eN F' a xs v->K v a):im ps h K:=by
 subst b;rw[fw];obtain⟨d,e,r1⟩:=H.U1 (E:=eN) T rfl (tP F h xs) false;exact c _ _ _ d e r1
theorem pY{T:Nat}(x:Nat):ji T 1 1 (V.I 0) [(0,V.I x)]=some (.cells T 1 true false (gJ [x]),λl=> .slice l 0 1):=rfl
structure Ck (F:Nat->Prop) (h:Hp) (cs:List Pc) (lc:Nat) (u:U) (vv vb vs bl pl D0:V):Prop where
 H:ei F h cs
 c:∃(i ty:Nat),cs[i]? =some (er lc ty [.I u.func,.I u.pc,vv,vb,vs,bl,pl,D0])
 u:CL F h u vv vb vs
variable{lc:Nat}{bl pl D0:V}
theorem Ck.since(C:Ck F h cs lc u vv vb vs bl pl D0)(s:Sn F h F' h')(a:ei F' h' cs):Ck F' h' cs lc u vv vb vs bl pl D0:=⟨a,C.c,C.u.since s⟩
theorem Ck.cons(C:Ck F h cs lc u vv vb vs bl pl D0)(s:Sn F h F' h'){p:Pc} (a:ei F' h' (p::cs)):Ck F' h' (p::cs) lc u vv vb vs bl pl D0:=
 ⟨a,let⟨i,ty,hc⟩:=C.c;⟨i+1,ty,hc⟩,C.u.since s⟩
theorem Ck.ld(C:Ck F h cs lc u vv vb vs bl pl D0)(o:Nat){y:V}(a:[.I u.func,.I u.pc,vv,vb,vs,bl,pl,D0][o]? =some y):ey (.ptr lc o) h=some y:=
 let⟨i,_,hc⟩:=C.c;C.H.ld i hc a
theorem K0{a0 c:V}{n:Nat}(m:n<1000000)(P:(Nat->Prop)->Hp->Prop)(h0:P F h)
  (step:∀i,i<n->∀F' h',P F' h'->∀e:V->Hp->Prop,(∀a b,P a b->e (.bool true) b)->gP CS (fU c [.I (i:Nat)]) h' e) (H:∀F' h',P F' h'->Q (.bool true) h') :
  cP CS je [a0,.I n,c] h Q:=by
 refine Hb rfl rfl ?_;unfold zP;refine Dv (λk f g j h'=>∃(F':Nat->Prop) (i:Nat),f = .I n/\g=c/\j = .I i/\i+k=n/\P F' h') ?_ (k:=n) ⟨F,0,rfl,rfl,rfl,by omega,h0⟩;rintro k f g j h' ⟨F',i,rfl,rfl,rfl,hk,l⟩;unfold wI;by_cases hi:i<n
 ·refine gv ?_;refine step i hi F' h' l _ λa b d=>?_;refine ue (gw rfl ?_);exact fM ⟨k-1,by omega,a,i+1,rfl,rfl,rfl,by omega,d⟩
 ·exact ir (H F' h' l)
theorem G0(C:Ck F h cs lc u vv vb vs bl pl D0){l:List Nat}{v:V}(b:iA eN F h l v)(r:l.length<1000000)(j:∀w∈l,mz u w)(H:Q (.bool true) h):cP CS iF [.ptr lc 0,v] h Q:=by
 refine E5 rfl rfl ?_;unfold xu;refine ed b.len ?_;refine BF (λk c d e f h'=>∃i:Nat,c = .ptr lc 0/\d=v/\e = .I l.length/\f = .I (i:Nat)/\i+k=l.length/\h' = h) ?_ (k:=l.length) ⟨0,rfl,rfl,rfl,rfl,by omega,rfl⟩;rintro k c d e f h' ⟨i,rfl,rfl,rfl,rfl,hk,rfl⟩;unfold ug;by_cases hi:i<l.length
 ·refine gv ?_;obtain⟨l1,s,_,m,n⟩:=b.nat (ig hi) .i64;obtain⟨x,g,gx⟩:=j _ (BG hi);have a:=(jq.1 g).1;refine ed m (ed n (ed (fI _ _) (ed (fJ _ _ _) (oF (C.ld 2 rfl) (ed C.u.v.len ?_)))));refine yS (ue (gw (by simpa using a) ?_));obtain⟨l2,t,y,_,o,_,_,p⟩:=C.u.val g;refine ed (fI _ _) (ed (fJ _ _ _) (oF (C.ld 2 rfl) (ed o (oF p.op ?_))));have q:x.op<19\/x.op=21:=by
   unfold Hv at gx;simpa using gx
  refine gQ (iI (fT (by simp;omega) ?_));refine gQ (iI (fT (by simp;omega) ?_));refine gQ (iI (fT (by simp;omega) ?_));refine gQ ?_;rw[Vr (by omega)];refine AO ?_;unfold tF;refine iI (fT (by simp) ?_);exact fM ⟨k-1,by omega,i+1,rfl,rfl,rfl,rfl,by omega,rfl⟩
 ·exact ir H
theorem Wk(C:Ck F h cs lc u vv vb vs bl pl D0){i:Nat}{fs:List Fm}(hs:u.eh[i]? =some fs)(E:1<=fs.length/\fs.length<=30)(w:∀f∈fs,f.locals.length<=40/\f.stack.length<=60/\(∀v∈f.locals,mz u v)/\∀v∈f.stack,mz u v)
  (H:∀h',Sn F h F h'->ei F h' cs->Q (.bool true) h'):cP CS lh [.ptr lc 0,.I i] h Q:=by
 refine EY rfl rfl ?_;unfold xj;obtain⟨l1,G,f,_,x,y,_,q⟩:=C.u.st hs;refine ed (fI _ _) (ed (fJ _ _ _) (oF (C.ld 4 rfl) (ed x (ed y ?_))));refine iH C.H rfl rfl (by simp[q.one]) λI n r=>?_;have r2:=q.since r;refine oF (n.ld 0 rfl rfl) (ed r2.len (gQ ?_));rw[Vr (by omega),ng,fJ,fe,n.ld 0 (o:=0+0) rfl rfl,fe,r2.len,fe,pg];refine ed rfl (iI (fT (by simp;omega) ?_));refine oF (n.ld 0 rfl rfl) (ed r2.len ?_);have C2:=C.since r n.tail
 refine Bz (λk t c d e h'=>∃j:Nat,t = .ptr lc 0/\c=f/\d = .I fs.length/\e = .I (j:Nat)/\j+k=fs.length/\Sn F h F h'/\Ck F h' cs lc u vv vb vs bl pl D0) ?_ (k:=fs.length)
  ⟨0,rfl,rfl,rfl,rfl,by omega,r,C2⟩
 rintro k t c d e h' ⟨j,rfl,rfl,rfl,rfl,hk,s',s⟩;unfold ui;by_cases hj:j<fs.length
 ·refine gv ?_;obtain⟨l3,J,a,b,_,z,A,g,l⟩:=(q.since s').xI (ig hj);refine ed z (ed A ?_);obtain⟨K,L,B,D⟩:=w _ (BG hj);refine iH s.H rfl rfl (by simp only[Ol,ev,g.one,l.one];rfl) λM m p=>?_;have g:=g.since p;have l:=l.since p;have C3:=s.since p m.tail;refine oF (m.ld 0 rfl rfl) (ed g.len ?_);refine ed (pg _ _ _ _) ?_;rw[Vr (by omega),ng,fJ,fe,m.ld 0 (o:=0+3) rfl rfl,fe,l.len,fe,pg,Vr (by omega)];refine ed rfl (fK (ed rfl (fK (ed (fJ _ _ _) (fK (ed (m.ld 0 rfl rfl) (xM ?_)))))));refine G0 C3 g (by omega) B (ed rfl (fK (ed rfl (fK (ed (fJ _ _ _) (fK (ed (m.ld 0 rfl rfl) (xM ?_))))))));refine G0 C3 l (by omega) D (ed rfl (iI (fT (by simp) ?_)));exact fM ⟨k-1,by omega,j+1,rfl,rfl,rfl,rfl,by omega,s'.trans p,C3⟩
 ·exact ir (H h' s' s.H)
end
