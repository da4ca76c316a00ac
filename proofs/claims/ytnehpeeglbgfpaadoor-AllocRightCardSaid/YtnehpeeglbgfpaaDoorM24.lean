/- Parts. -/
import Derived.Test.YtnehpeeglbgfpaaDoorM23
import Derived.Test.YtnehpeeglbgfpaaDoorM16
set_option maxHeartbeats 4000000
namespace Go.Proofs.YtnehpeeglbgfpaaDoor.Hx
open Un
def eZ:sQ Int where
 sz:=1
 rel _ _ n cs:=cs=[.I n]
 len h:=by simp_all
 one h:=by subst h;rfl
 eD _ h:=h
 mono _ h:=h
def eW:sQ (Nat×Nat) where
 sz:=2
 rel _ _ x cs:=cs=[.I (x.1:Nat),.I (x.2:Nat)]
 len h:=by simp_all
 one h:=by subst h;rfl
 eD _ h:=h
 mono _ h:=h
structure Af (F:Nat->Prop) (h:Hp) (u:U) (vv vb vs:V):Prop where
 v:iL eV F h u.ee vv
 b:iL eK F h u.blocks vb
 s:iL eT F h u.eh vs
theorem Af.eD{F:Nat->Prop}{h h':Hp}{u:U}{vv vb vs:V}(c:∀l,F l->h'.get l=h.get l)(a:Af F h u vv vb vs):Af F h' u vv vb vs:=⟨a.v.eD c,a.b.eD c,a.s.eD c⟩
theorem Af.mono{F F':Nat->Prop}{h:Hp}{u:U}{vv vb vs:V}(c:∀l,F l->F' l)(a:Af F h u vv vb vs):Af F' h u vv vb vs:=⟨a.v.mono c,a.b.mono c,a.s.mono c⟩
theorem Af.one{F:Nat->Prop}{h:Hp}{u:U}{vv vb vs:V}(a:Af F h u vv vb vs):gh (uC u vv vb vs)=true:=by simp only[uC,fc,a.v.one,a.b.one,a.s.one];rfl
theorem iL.since{α:Type}{E:sQ α}{F F':Nat->Prop}{h h':Hp}{xs:List α}{v:V}(a:iL E F h xs v)(s:Sn F h F' h'):iL E F' h' xs v:=(a.eD s.eD).mono s.mono
theorem Af.since{F F':Nat->Prop}{h h':Hp}{u:U}{vv vb vs:V}(a:Af F h u vv vb vs)(s:Sn F h F' h'):Af F' h' u vv vb vs:=(a.eD s.eD).mono s.mono
section
variable{F F':Nat->Prop}{h h':Hp}{cs:List Pc}{Q:fm}{u:U}{vv vb vs:V}
structure ZF (h:Hp) (l o:Nat) (x:Vl) (w:V):Prop where
 op:en (.ptr l (o+0)) h=some (.I x.op)
 a:en (.ptr l (o+1)) h=some (.I x.a)
 b:en (.ptr l (o+2)) h=some (.I x.b)
 n:en (.ptr l (o+3)) h=some (.I x.n)
 args:en (.ptr l (o+4)) h=some w
 st:en (.ptr l (o+5)) h=some (.I x.state)
structure Yo (h:Hp) (l o:Nat) (x:Bk) (v n p:V):Prop where
 ee:en (.ptr l (o+0)) h=some v
 fin:en (.ptr l (o+1)) h=some (.I x.fin)
 cond:en (.ptr l (o+2)) h=some (.I x.cond)
 next:en (.ptr l (o+3)) h=some n
 ft:en (.ptr l (o+4)) h=some p
 st:en (.ptr l (o+5)) h=some (.I x.state)
theorem Af.val(a:Af F h u vv vb vs){i:Nat}{x:Vl}(c:u.ee[i]? =some x) :
  ∃l o w,F l/\gy 6 vv (.I i)=some (.ptr l o)/\fZ 6 (.ptr l o) h=some (.agg (qT x w))/\iL eN F h x.args w/\ZF h l o x w:=by
 obtain⟨hi,rfl⟩:=jw.1 c;obtain⟨l,o,w,d,e,f,⟨a,rfl,g⟩,b⟩:=a.v.ix hi .i64;exact⟨l,o,a,d,e,f,g,⟨b 0 _ rfl,b 1 _ rfl,b 2 _ rfl,b 3 _ rfl,b 4 _ rfl,b 5 _ rfl⟩⟩
theorem Af.wh(a:Af F h u vv vb vs){i:Nat}{x:Bk}(d:u.blocks[i]? =some x) :
  ∃l o v n p,F l/\gy 6 vb (.I i)=some (.ptr l o)/\fZ 6 (.ptr l o) h=some (.agg (lC x v n p))/\iL eN F h x.ee v/\iL eN F h x.next n/\iL eN F h x.ft p/\Yo h l o x v n p:=by
 obtain⟨hi,rfl⟩:=jw.1 d;obtain⟨l,o,w,e,f,g,⟨v,n,p,rfl,j,k,m⟩,c⟩:=a.b.ix hi .i64;exact⟨l,o,v,n,p,e,f,g,j,k,m,⟨c 0 _ rfl,c 1 _ rfl,c 2 _ rfl,c 3 _ rfl,c 4 _ rfl,c 5 _ rfl⟩⟩
theorem Af.st(a:Af F h u vv vb vs){i:Nat}{x:List Fm}(b:u.eh[i]? =some x) :
  ∃l o f,F l/\gy 1 vs (.I i)=some (.ptr l o)/\fZ 1 (.ptr l o) h=some (.agg [f])/\en (.ptr l o) h=some f/\iL eF F h x f:=by
 obtain⟨hi,rfl⟩:=jw.1 b;obtain⟨l,o,w,c,d,e,⟨f,rfl,g⟩,j⟩:=a.s.ix hi .i64;exact⟨l,o,f,c,d,e,j 0 f rfl,g⟩
theorem iL.Zm{fs:List Fm}{f:V}(a:iL eF F h fs f){i:Nat}{x:Fm}(c:fs[i]? =some x) :
  ∃l o a b,F l/\gy 4 f (.I i)=some (.ptr l o)/\fZ 4 (.ptr l o) h=some (.agg (WH x a b))/\iL eN F h x.locals a/\iL eN F h x.stack b:=by
 obtain⟨hi,rfl⟩:=jw.1 c;obtain⟨l,o,w,d,e,g,⟨a,b,rfl,j,k⟩,_⟩:=a.ix hi .i64;exact⟨l,o,a,b,d,e,g,j,k⟩
theorem iL.nat{xs:List Nat}{v:V}(a:iL eN F h xs v){i x:Nat}(c:xs[i]? =some x)(b:IntKind):∃l o,F l/\gy 1 v (.int b (i:Nat))=some (.ptr l o)/\en (.ptr l o) h=some (.I x):=by
 obtain ⟨hi,rfl⟩:=jw.1 c;obtain⟨l,o,w,e,f,g,d⟩:=a.PO hi b rfl;obtain rfl:w = .I (xs[i]:Nat):=by
  have:[w]=[V.I (xs[i]:Nat)]:=d
  simp_all
 grind
theorem iL.int{xs:List Int}{v:V}(a:iL eZ F h xs v){i:Nat}{x:Int}(c:xs[i]? =some x)(b:IntKind):∃l o,F l/\gy 1 v (.int b (i:Nat))=some (.ptr l o)/\en (.ptr l o) h=some (.I x):=by
 obtain ⟨hi,rfl⟩:=jw.1 c;obtain⟨l,o,w,e,f,g,d⟩:=a.PO hi b rfl;obtain rfl:w = .I xs[i]:=by
  have:[w]=[V.I xs[i]]:=d
  simp_all
 grind
theorem iL.bool{xs:List Bool}{v:V}(a:iL eB F h xs v){i:Nat}{x:Bool}(c:xs[i]? =some x)(b:IntKind):∃l o,F l/\gy 1 v (.int b (i:Nat))=some (.ptr l o)/\en (.ptr l o) h=some (.bool x):=by
 obtain ⟨hi,rfl⟩:=jw.1 c;obtain⟨l,o,w,e,f,g,d⟩:=a.PO hi b rfl;obtain rfl:w = .bool xs[i]:=by
  have:[w]=[V.bool xs[i]]:=d
  simp_all
 grind
theorem iL.list{α:Type}{E:sQ α}{xs:List (List α)}{v:V}(a:iL (eL E) F h xs v){i:Nat}{x:List α}(c:xs[i]? =some x)(b:IntKind):∃l o w,F l/\gy 1 v (.int b (i:Nat))=some (.ptr l o)/\en (.ptr l o) h=some w/\iL E F h x w:=by
 obtain⟨hi,rfl⟩:=jw.1 c;obtain⟨l,o,w,d,e,g,f,j,k⟩:=a.PO hi b rfl
 grind
theorem Hh{t:Nat}{k:IntKind}{a b:Int}{A B:Prop}(h:if a=b then B else A):oP (ef .neq t (.int k a) (.int k b)) λv=>bP v A B:=by
 simp_all
theorem Ui{t:Nat}{k:IntKind}{a b:Int}{A B:Prop}(h:if a<=b then A else B):oP (ef .leq t (.int k a) (.int k b)) λv=>bP v A B:=by
 simp_all
theorem CL{t:Nat}{k:IntKind}{a b:Int}{A B:Prop}(h:if b<=a then A else B):oP (ef .geq t (.int k a) (.int k b)) λv=>bP v A B:=by
 simp_all
theorem G6(a b:Nat):((a:Int) == (b:Int))=(a == b):=by
 grind
theorem gG{t:Nat}{k:IntKind}{a b:Int}{K:V->Prop}(h:K (.bool (decide (a=b)))):oP (ef .eql t (.int k a) (.int k b)) K:=by
 rw[ig]
 grind[decide,oP]
def qw(op:Nat):Nat:=if two op=true then 2 else if ud op=true then 1 else 0
theorem Sj{op:Nat}(H:Q (.I (qw op:Nat)) h):cP CS xB [.I op] h Q:=by
 refine Lv rfl rfl ?_;unfold Gc;have l:∀b:Bool,(b=true->ud op=true/\two op≠true)->(b=false->ud op≠true/\two op≠true)->fW CS Q (.bool b) h:=by
  intro b s t;refine IJ ?_;unfold Bl;rw[gL];unfold qw at H
  cases b with
  |true=>simp_all
  |false=>simp_all
 have a:∀b:Bool,b=two op->gN CS Q (.I op) (.bool b) h:=by
  intro b m;refine Hy ?_;unfold A0;rw[gL]
  cases b with
  |true=>simp_all[qw,if_pos]
  | false=>
    have k:two op≠true:=by rw[<-m];simp
    rw[if_neg (by simp)];refine gG ?_;rw[gL];split
    ·grind[absurd,fW,CS,qw,Un.ud,Un.two,fW,CS,Un.two,Un.two]
    rename_i e1;refine gG ?_;rw[gL];split
    ·grind[absurd,fW,CS,qw,Un.ud,Un.two,fW,CS,Un.two,Un.two]
    rename_i e2;refine gG ?_;rw[gL];split
    ·grind[absurd,fW,CS,qw,Un.ud,Un.two,fW,CS,Un.two,Un.two]
    rename_i d;refine gG ?_;rw[gL];split
    ·grind[absurd,fW,CS,qw,Un.ud,Un.two,fW,CS,Un.two,Un.two]
    rename_i e4;refine gG ?_;rw[gL];split
    ·grind[absurd,fW,CS,qw,Un.ud,Un.two,fW,CS,Un.two,Un.two]
    rename_i f;refine gG ?_;simp at e1 e2 d e4 f;refine l _ (λe=>⟨?_,k⟩) λe=>⟨?_,k⟩
    ·grind[Un.ud,qw,Un.ud,Un.two,fW,CS,Un.two,Un.two]
    ·have e:=of_decide_eq_false e
     intro hq;unfold ud at hq
     grind
 have c:∀n:Nat,(op:Int)=n->(two n=true)->two op=true:=by grind
 refine gG ?_;rw[gL];split
 ·rename_i e;exact a _ (e.trans (c 3 (by simp_all) rfl).symm)
 rename_i e1;refine gG ?_;rw[gL];split
 ·rename_i e;exact a _ (e.trans (c 4 (by simp_all) rfl).symm)
 rename_i e2;refine gG ?_;rw[gL];split
 ·rename_i e;exact a _ (e.trans (c 5 (by simp_all) rfl).symm)
 rename_i d;refine gG ?_;rw[gL];split
 ·rename_i e;exact a _ (e.trans (c 6 (by simp_all) rfl).symm)
 rename_i e4;refine gG ?_;rw[gL];split
 ·rename_i e;exact a _ (e.trans (c 7 (by simp_all) rfl).symm)
 rename_i f;refine gG ?_;rw[gL];split
 ·rename_i e;exact a _ (e.trans (c 10 (by simp_all) rfl).symm)
 rename_i o;refine gG ?_;rw[gL];split
 ·rename_i e;exact a _ (e.trans (c 11 (by simp_all) rfl).symm)
 rename_i p;refine gG ?_;rw[gL];split
 ·rename_i e;exact a _ (e.trans (c 12 (by simp_all) rfl).symm)
 rename_i q;refine gG ?_;rw[gL];split
 ·rename_i e;exact a _ (e.trans (c 13 (by simp_all) rfl).symm)
 rename_i r;refine gG ?_;rw[gL];split
 ·rename_i e;exact a _ (e.trans (c 14 (by simp_all) rfl).symm)
 rename_i g;refine gG ?_;rw[gL];split
 ·rename_i e;exact a _ (e.trans (c 18 (by simp_all) rfl).symm)
 rename_i i;refine gG ?_;rw[gL];split
 ·rename_i e;exact a _ (e.trans (c 19 (by simp_all) rfl).symm)
 rename_i j;refine gG (a _ ?_);simp at e1 e2 d e4 f o p q r g i j;rw[Ut];unfold two
 grind
theorem JZ{op:Nat}(H:Q (.bool (leaves op)) h):cP CS oD [.I op] h Q:=by
 refine J8 rfl rfl ?_
 grind[Em,leaves,Int,G6,ig,gZ,eQ,iM,CS,Un.leaves]
theorem wi{a b:Nat}(H:Q (.bool (decide (a<b))) h):cP CS jH [.I a,.I b] h Q:=by
 refine Ln rfl rfl ?_
 grind[Gl,nU,gZ,eQ,jo,ir,decide,Int,CS]
theorem Qs{xs:List Nat}{a b:V}(c:iL eN F h xs a)(d:iL eN F h xs b)(r:xs.length<1000000000)(H:Q (.bool true) h):cP CS kV [a,b] h Q:=by
 refine zQ rfl rfl ?_;unfold rP;refine ec c.len (ec d.len (Hh (gU rfl (ec c.len ?_))));refine xr (λk e f g j h'=>∃i:Nat,e=a/\f=b/\g = .I xs.length/\j = .I (i:Nat)/\i+k=xs.length/\h' = h) ?_ (k:=xs.length) (by simp_all);rintro k e f g j h' ⟨i,rfl,rfl,rfl,rfl,s,rfl⟩;unfold py;by_cases hi:i<xs.length
 ·refine hV ?_;obtain⟨l,o,_,m,n⟩:=c.nat (iH hi) .i64;obtain⟨t,u,_,p,q⟩:=d.nat (iH hi) .i64;refine ec m (ec n (ec p (ec q (Hh (gU rfl ?_)))));exact gq ⟨k-1,by omega,i+1,rfl,rfl,rfl,rfl,by omega,rfl⟩
 ·exact jG H
end
open Un
theorem Xf:∀{l:List Nat}(h:0<l.length),l.take 1=[l[0]]
 |y::l,_=>by simp
theorem G4(x:Vl):mD x=([x.a,x.b].take (qw x.op))++(if x.op=20 then x.args.take 1 else if x.op=21 then x.args else[]):=by
 unfold mD qw;by_cases c:x.op=21
 ·grind[two,ud]
 ·rw[if_neg c];by_cases d:x.op=20
  ·grind[two]
  grind
section
variable{F F':Nat->Prop}{h h':Hp}{cs:List Pc}{Q:fm}{u:U}{vv vb vs:V}
theorem AR{x:Vl}(a:x.op=21\/x.op=20->x.args.length<=700):(mD x).length<=1000:=by
 rw[G4]
 grind
theorem Kl(S:er F h cs){x:Vl}{c:V}(O:iL eN F h x.args c)(P:x.op=21\/x.op=20->x.args.length<=1000000)(H:∀F' h' v,Sn F h F' h'->er F' h' cs->iL eN F' h' (mD x) v->Q v h'):cP CS qB [.agg (qT x c)] h Q:=by
 refine Nw rfl rfl ?_;unfold IE;have o1:gh (qT x c)=true:=by simp only[qT,fc,O.one];rfl
 rw[BS o1,fJ];obtain⟨C,s1⟩:=S.GG uf (qT x c);have n1:(h.new (.cells 46 1 true false (qT x c))).next=h.next+1:=rfl;have C:er F (h.new (.cells 46 1 true false (qT x c))) (ey h.next uf (qT x c)::cs):=C;have s1:Sn F h F (h.new (.cells 46 1 true false (qT x c))):=s1;generalize h.new (.cells 46 1 true false (qT x c))=d at*;rw[wJ,ij];obtain⟨s,D⟩:=C.KX (E:=eN) (xs:=[]) (ws:=[]) (n:=0) fy rfl trivial rfl;have s:er F (d.new (.cells 3 1 true false [])) (fo eN fy [] (.slice d.next 0 0)::ey h.next uf (qT x c)::cs):=s;have D:Sn F d F (d.new (.cells 3 1 true false [])):=D;have g2:(d.new (.cells 3 1 true false [])).get d.next=some (.cells 3 1 true false []):=ez _ _;have n2:(d.new (.cells 3 1 true false [])).next=d.next+1:=rfl;generalize d.new (.cells 3 1 true false [])=i at*;refine ec (by rfl) (ec (s.ld 1 rfl rfl) (ec (by rfl) (ec (s.ld 1 rfl rfl) ?_)));rw[Ww,ij];obtain⟨j,G⟩:=s.KX (E:=eN) (xs:=[x.a,x.b]) (ws:=mc [x.a,x.b]) (n:=2) fy rfl (ux _ _ _) (IC _);have j:er F (i.new (.cells 3 1 true false (mc [x.a,x.b]))) (fo eN fy [x.a,x.b] (.slice i.next 0 2)::fo eN fy [] (.slice d.next 0 0)::ey h.next uf (qT x c)::cs):=j;have G:Sn F i F (i.new (.cells 3 1 true false (mc [x.a,x.b]))):=G;have g3:(i.new (.cells 3 1 true false (mc [x.a,x.b]))).get i.next=some (.cells 3 1 true false (mc [x.a,x.b])):=ez _ _;have T:(i.new (.cells 3 1 true false (mc [x.a,x.b]))).get d.next=some (.cells 3 1 true false []):=by grind[eR,trans]
 generalize i.new (.cells 3 1 true false (mc [x.a,x.b]))=U at*;refine ec (by rfl) (ec (j.ld 2 rfl rfl) ⟨by simp_all,j.ld 2 rfl rfl,j.ld 2 rfl rfl,by simp_all,?_⟩);refine Sj ⟨jn _,?_⟩;have W:qw x.op<=2:=by
  unfold qw;split
  ·omega
  ·grind
 obtain⟨t,I,R⟩:=j.Vd 0 rfl (n:=qw x.op) W;refine ec I ⟨by simp_all,j.ld 2 rfl rfl,j.ld 2 rfl rfl,by simp_all,?_⟩;simp only[ot]at R;obtain⟨g,r,J,X,k,Y⟩:=R.RG 1 0 rfl rfl (lV:=8) (by decide) (by decide) (by simp;omega);have u:fh 3 1 8 (.slice d.next 0 0) t U=some (.val g r):=J;rw[u,ej];refine⟨X,?_⟩;simp only[AT,ot,LR]at k;have w:=((s1.trans D).trans G).trans Y;have o:iL eN F r x.args c:=(O.eD w.eD)
 have p:∀(F':Nat->Prop) (h':Hp) (v:V) (l:List Nat),Sn F r F' h'->er F' h' (fo eN fy ([x.a,x.b].take (qw x.op)) t::fo eN fy l v::ey h.next uf (qT x c)::cs)->l=mD x->pR CS Q v h':=by
  intro F' h' v l Z HF K;subst K;refine I7 ?_;unfold CB;obtain⟨y,z,r6⟩:=HF.mi 1 rfl;exact H _ _ v ((w.trans Z).trans z) y.tail.tail.tail r6
 refine ec (by rfl) (ec (k.ld 2 rfl rfl) ?_);by_cases L:x.op=20
 ·have P:=by omega
  refine hH (gU (by omega) ?_);refine ec (by rfl) (ec (k.ld 2 rfl rfl) (ec (by rfl) (ec (k.ld 2 rfl rfl) (ec o.len (ec (Ml _ _ _ _) ?_)))));have em:(if false=true then max (1:Int) (x.args.length:Nat) else min (1:Int) (x.args.length:Nat))=((min 1 x.args.length:Nat):Int):=by simp;omega
  rw[em];obtain⟨M,N,A⟩:=o.cut (lo:=none) (hi:=some (.I ((min 1 x.args.length:Nat):Int))) (m:=0) (n:=min 1 x.args.length) rfl (by rfl) (GM _) (by omega);refine ec N ?_;rw[SE]at A;obtain⟨e,B,q,n6,y,z⟩:=k.Nj 1 rfl (lV:=8) A (by decide) (by decide) (by simp;omega);have f:fh 3 1 8 g M r=some (.val e B):=q;rw[f,ej];refine p F B e _ z y ?_;rw[G4,if_pos L]
  simp_all
 refine hH (gB (by omega) ?_);by_cases aa:x.op=21
 ·have P:=by omega
  refine hH (gU (by omega) ?_);refine ec (by rfl) (ec (k.ld 2 rfl rfl) ?_);obtain⟨e,B,q,n6,y,z⟩:=k.Nj 1 rfl (lV:=8) o (by decide) (by decide) (by simp;omega);have f:fh 3 1 8 g c r=some (.val e B):=q;rw[f,ej];refine p F B e _ z y ?_
  simp_all[G4,if_neg,if_pos]
 ·refine hH (gB (by omega) ?_);refine p F r g _ (Sn.refl _ _) k ?_
  simp_all[G4,if_neg,IN]
end
open Un
section
variable{F F':Nat->Prop}{h h':Hp}{cs:List Pc}{Q:fm}{u:U}{vv vb vs:V}
def Jd(op:Nat):Bool:=two op&&op != 20
theorem Hl(C:er F h cs){x:Vl}{j:V}(z:iL eN F h x.args j)(H:∀F' h' v,Sn F h F' h'->er F' h' cs->iL eN F' h' (mD x) v->Q v h'):cP CS jS [.agg (qT x j)] h Q:=by
 refine Av rfl rfl ?_;unfold sR;have o1:gh (qT x j)=true:=by simp only[qT,fc,z.one];rfl
 rw [BS o1,fJ];obtain⟨c,s1⟩:=C.GG uf (qT x j);have c:er F (h.new (.cells 46 1 true false (qT x j))) (ey h.next uf (qT x j)::cs):=c;have s1:Sn F h F (h.new (.cells 46 1 true false (qT x j))):=s1;generalize h.new (.cells 46 1 true false (qT x j))=p at*;have r:=z.eD s1.eD;have fin:∀(xs:List Nat),xs=mD x->Q (.slice p.next 0 xs.length) (p.new (.cells 3 1 true false (mc xs))):=by
  intro xs e;obtain⟨s,A,r2⟩:=c.Sr (E:=eN) (n:=xs.length) fy rfl (ux F p xs) false;have:=H _ _ _ (s1.trans A) s.tail (by rw[<-e];exact r2);exact this
 have q:∀b:Bool,(b=true->ud x.op=true/\Jd x.op≠true)->(b=false->ud x.op≠true/\Jd x.op≠true)->gK CS Q (.ptr h.next 0) (.I x.op) (.bool b) p:=by
  intro b u D;refine yk ?_;unfold p5;rw[gL]
  cases b with
  | true=>
    rw[if_pos rfl];obtain⟨t,w⟩:=u rfl;refine ec (by rfl) (ec (c.ld 0 rfl rfl) ?_);rw[show ju 3 1 1 (V.I 0) [(0,V.I (x.a:Nat))]=some (.cells 3 1 true false (mc [x.a]),λl=> .slice l 0 1) from rfl,fJ];refine fin [x.a] ?_;unfold Jd at w;unfold ud at t;unfold mD two ud;simp only[IY,Jg]at t
    rcases t with((((e|e)|e)|e)|e)|e <;> rw[e] <;> rfl
  | false=>
    rw[if_neg (by simp)];obtain⟨t,w⟩:=D rfl;by_cases k:x.op=20
    ·refine hH (gU (by omega) ?_)
     refine ec (by rfl) (ec (c.ld 0 rfl rfl) (ec r.len ?_));have P:mD x=x.a::x.b::x.args.take 1:=by unfold mD;rw[k];rfl
     by_cases R:x.args.length=0
     ·refine hH (gU (by omega) ?_)
      refine ec (by rfl) (ec (c.ld 0 rfl rfl) (ec (by rfl) (ec (c.ld 0 rfl rfl) ?_)))
      grind[Ww,fJ,Wm]
     ·refine hH (gB (by omega) ?_)
      obtain⟨l,o,G,I,B⟩:=r.nat (i:=0) (iH (by omega)) .i64;refine ec (by rfl) (ec (c.ld 0 rfl rfl) (ec (by rfl) (ec (c.ld 0 rfl rfl) (ec (by rfl) (ec (c.ld 0 rfl rfl) (ec I (ec B ?_)))))));rw[show ju 3 1 3 (V.I 0) [(0,V.I (x.a:Nat)),(1,V.I (x.b:Nat)),(2,V.I (x.args[0]:Nat))]=some (.cells 3 1 true false (mc [x.a,x.b,x.args[0]]),λl=> .slice l 0 3) from rfl,ij];obtain⟨s,A⟩:=c.grow (kX.new p (.cells 3 1 true false (mc [x.a,x.b,x.args[0]])));refine⟨by grind[ez,O.ie],mN B (eR _ (c.fl _ G)),s.ld 0 rfl rfl,s.ld 0 rfl rfl,s.ld 0 rfl rfl,fin [x.a,x.b,x.args[0]] ?_⟩
      grind[Xf]
    refine hH (gB (by omega) ?_);by_cases y:x.op=21
    ·refine hH (gU (by omega) ?_)
     refine ec (by rfl) (ec (c.ld 0 rfl rfl) ?_);refine H _ _ _ s1 c.tail ?_
     simp_all[mD,if_pos]
    ·refine hH (gB (by omega) ?_)
     refine H _ _ _ s1 c.tail ?_;have:mD x=[]:=by
       unfold mD;rw[if_neg y,if_neg k,if_neg,if_neg t];intro e;apply w;unfold Jd;rw[e];simpa using k
     rw[this];exact .nil
 have d:∀b:Bool,b=Jd x.op->fK CS Q (.ptr h.next 0) (.I x.op) (.bool b) p:=by
  intro b g;refine yE ?_;unfold pK;rw[gL]
  cases b with
  | true=>
    rw[if_pos rfl];refine ec (by rfl) (ec (c.ld 0 rfl rfl) (ec (by rfl) (ec (c.ld 0 rfl rfl) ?_)));rw[Ww,fJ];refine fin [x.a,x.b] ?_;unfold Jd at g;have g:=g.symm;rw[qU,Su]at g;unfold mD;rw[if_neg,if_neg g.2,if_pos g.1];intro e;rw[e]at g
    exact absurd g.1 (by decide)
  | false=>
    have m:Jd x.op≠true:=by rw[<-g];simp
    rw[if_neg (by simp)];refine gG ?_;rw[gL];split
    ·rename_i e;refine q _ (λ_=>⟨?_,m⟩) (by grind)
     have:x.op=8:=by simp at e;omega
     rw[this];rfl
    rename_i J;have J:x.op≠8:=by grind
    refine gG ?_;rw[gL];split
    ·rename_i e;refine q _ (λ_=>⟨?_,m⟩) (by grind)
     have:x.op=9:=by simp at e;omega
     rw[this];rfl
    rename_i K;have K:x.op≠9:=by grind
    refine gG ?_;rw[gL];split
    ·rename_i e;refine q _ (λ_=>⟨?_,m⟩) (by grind)
     have:x.op=15:=by simp at e;omega
     rw[this];rfl
    rename_i L;have L:x.op≠15:=by grind
    refine gG ?_;rw[gL];split
    ·rename_i e;refine q _ (λ_=>⟨?_,m⟩) (by grind)
     have:x.op=16:=by simp at e;omega
     rw[this];rfl
    rename_i M;have M:x.op≠16:=by grind
    refine gG ?_;rw[gL];split
    ·rename_i e;refine q _ (λ_=>⟨?_,m⟩) (by grind)
     have:x.op=17:=by simp at e;omega
     rw[this];rfl
    rename_i g4;have g4:x.op≠17:=by grind
    refine gG ?_;refine q _ (λe=>⟨?_,m⟩) λe=>⟨?_,m⟩
    ·have:x.op=22:=by simp at e;omega
     rw[this];rfl
    ·have e:=of_decide_eq_false e
     intro hq;unfold ud at hq
     grind
 have f:∀n:Nat,(x.op:Int)=n->(Jd n=true)->Jd x.op=true:=by grind
 refine ec (by rfl) (ec (c.ld 0 rfl rfl) ?_);refine gG ?_;rw[gL];split
 ·rename_i e;exact d _ (e.trans (f 3 (by simp_all) rfl).symm)
 rename_i S;refine gG ?_;rw[gL];split
 ·rename_i e;exact d _ (e.trans (f 4 (by simp_all) rfl).symm)
 rename_i T;refine gG ?_;rw[gL];split
 ·rename_i e;exact d _ (e.trans (f 5 (by simp_all) rfl).symm)
 rename_i U;refine gG ?_;rw[gL];split
 ·rename_i e;exact d _ (e.trans (f 6 (by simp_all) rfl).symm)
 rename_i W;refine gG ?_;rw[gL];split
 ·rename_i e;exact d _ (e.trans (f 7 (by simp_all) rfl).symm)
 rename_i X;refine gG ?_;rw[gL];split
 ·rename_i e;exact d _ (e.trans (f 10 (by simp_all) rfl).symm)
 rename_i Y;refine gG ?_;rw[gL];split
 ·rename_i e;exact d _ (e.trans (f 11 (by simp_all) rfl).symm)
 rename_i Z;refine gG ?_;rw[gL];split
 ·rename_i e;exact d _ (e.trans (f 12 (by simp_all) rfl).symm)
 rename_i f7;refine gG ?_;rw[gL];split
 ·rename_i e;exact d _ (e.trans (f 13 (by simp_all) rfl).symm)
 rename_i f8;refine gG ?_;rw[gL];split
 ·rename_i e;exact d _ (e.trans (f 14 (by simp_all) rfl).symm)
 rename_i f9;refine gG ?_;rw[gL];split
 ·rename_i e;exact d _ (e.trans (f 18 (by simp_all) rfl).symm)
 rename_i N;refine gG (d _ ?_);rw[Ut];unfold Jd two
 grind
end
open Un
theorem pn{l o:Nat}:iu (.ptr l o)=some (.ptr l o):=fj _ _
theorem gM{X:Option V}{K:V->Prop}(h:oP X K):oP (gg false (.bool false)) λb=>oP (gV b X) K:=h
theorem jl{X:Option V}{K:V->Prop}(h:oP X K):oP (gg true (.bool true)) λb=>oP (gV b X) K:=h
theorem nR{X:Option V}{K:V->Prop}(h:K .undef):oP (gg true (.bool false)) λb=>oP (gV b X) K:=h
theorem QZ{X:Option V}{K:V->Prop}(h:K .undef):oP (gg false (.bool true)) λb=>oP (gV b X) K:=h
theorem tN{C:fg}{f:Nat}{a:List V}{h:Hp}{K:fm}(H:cP C f a h K):oP (gg false (.bool false)) λb=>oP (gC b (some (f,a))) λy=>xa C y h K:=H
theorem Hj{C:fg}{f:Nat}{a:List V}{h:Hp}{K:fm}(H:cP C f a h K):oP (gg true (.bool true)) λb=>oP (gC b (some (f,a))) λy=>xa C y h K:=H
theorem Rz{C:fg}{f:Nat}{a:List V}{h:Hp}{K:fm}(H:K .undef h):oP (gg true (.bool false)) λb=>oP (gC b (some (f,a))) λy=>xa C y h K:=H
theorem yz{b:Bool}{A B:Prop}(h:if b=true then B else A):oP (tk .not (.bool b)) λv=>bP v A B:=by
 cases b <;> exact h
theorem Oo{b:Bool}{K:V->Prop}(h:K (.bool (!b))):oP (tk .not (.bool b)) K:=h
section
variable{F F':Nat->Prop}{h h':Hp}{cs:List Pc}{Q:fm}{u:U}{vv vb vs:V}
theorem jy{T n:Nat}{b ws:List V}{K:fm}(H:er F h cs)(d:b.length=n)(e:ws.length=n)(c:gh ws=true)(f:∀a,er F a (ey h.next T ws::cs)->Sn F h F a->K (.ptr h.next 0) a) :
  iQ (some (O.cells T 1 true false b,λl=>V.ptr l 0)) h λv c=>fi (gW n v (.agg ws) c) λ_ a=>K v a:=by
 rw[fJ];obtain⟨g,s1⟩:=H.GG T b;obtain⟨a,e2,_,i,j⟩:=g.WC 0 rfl e d c;rw[e2,ej];exact f a i (s1.trans j)
theorem qx{T:Nat}{ws:List V}{K:fm}(H:er F h cs)(b:gh ws=true)(c:∀a,er F a (ey h.next T ws::cs)->Sn F h F a->K (.ptr h.next 0) a):iQ (sO T (.agg ws)) h K:=by
 rw[BS b,fJ];obtain⟨d,s1⟩:=H.GG T ws;exact c _ d s1
theorem U4{T:Nat}(xs:List Nat){ps:Option (O×(Nat->V))}(b:ps=some (O.cells T 1 true false (mc xs),λl=> .slice l 0 xs.length)){K:fm}(H:er F h cs)
  (c:∀F' a v,er F' a cs->Sn F h F' a->iL eN F' a xs v->K v a):iQ ps h K:=by
 subst b;rw[fJ];obtain⟨d,s1,r1⟩:=H.Sr (E:=eN) T rfl (ux F h xs) false;exact c _ _ _ d s1 r1
theorem Eh{T:Nat}(x:Nat):ju T 1 1 (V.I 0) [(0,V.I x)]=some (.cells T 1 true false (mc [x]),λl=> .slice l 0 1):=rfl
structure Ck (F:Nat->Prop) (h:Hp) (cs:List Pc) (lc:Nat) (u:U) (vv vb vs bl pl AZ:V):Prop where
 H:er F h cs
 c:∃(i ty:Nat),cs[i]? =some (ey lc ty [.I u.func,.I u.pc,vv,vb,vs,bl,pl,AZ])
 u:Af F h u vv vb vs
variable{lc:Nat}{bl pl AZ:V}
theorem Ck.since(C:Ck F h cs lc u vv vb vs bl pl AZ)(s:Sn F h F' h')(a:er F' h' cs):Ck F' h' cs lc u vv vb vs bl pl AZ:=⟨a,C.c,C.u.since s⟩
theorem Ck.cons(C:Ck F h cs lc u vv vb vs bl pl AZ)(s:Sn F h F' h'){p:Pc} (a:er F' h' (p::cs)):Ck F' h' (p::cs) lc u vv vb vs bl pl AZ:=
 ⟨a,let⟨i,ty,hc⟩:=C.c;⟨i+1,ty,hc⟩,C.u.since s⟩
theorem Ck.ld(C:Ck F h cs lc u vv vb vs bl pl AZ)(o:Nat){y:V}(a:[.I u.func,.I u.pc,vv,vb,vs,bl,pl,AZ][o]? =some y):en (.ptr lc o) h=some y:=
 let⟨i,_,hc⟩:=C.c;C.H.ld i hc a
theorem Iu{m c:V}{n:Nat}(o:n<1000000)(P:(Nat->Prop)->Hp->Prop)(h0:P F h)
  (step:∀i,i<n->∀F' h',P F' h'->∀e:V->Hp->Prop,(∀a b,P a b->e (.bool true) b)->gv CS (fQ c [.I (i:Nat)]) h' e) (H:∀F' h',P F' h'->Q (.bool true) h') :
  cP CS jc [m,.I n,c] h Q:=by
 refine EC rfl rfl ?_;unfold xE;refine BC (λk f g j h'=>∃(F':Nat->Prop) (i:Nat),f = .I n/\g=c/\j = .I i/\i+k=n/\P F' h') ?_ (k:=n) ⟨F,0,rfl,rfl,rfl,by omega,h0⟩;rintro k f g j h' ⟨F',i,rfl,rfl,rfl,p,l⟩;unfold tX;by_cases hi:i<n
 ·refine hV ?_;refine step i hi F' h' l _ λa b d=>?_;refine yz (gU rfl ?_);exact gq ⟨k-1,by omega,a,i+1,rfl,rfl,rfl,by omega,d⟩
 ·exact jG (H F' h' l)
theorem Ei(C:Ck F h cs lc u vv vb vs bl pl AZ){l:List Nat}{v:V}(b:iL eN F h l v)(r:l.length<1000000)(j:∀w∈l,Eo u w)(H:Q (.bool true) h):cP CS iB [.ptr lc 0,v] h Q:=by
 refine Co rfl rfl ?_;unfold vC;refine ec b.len ?_;refine zy (λk c d e f h'=>∃i:Nat,c = .ptr lc 0/\d=v/\e = .I l.length/\f = .I (i:Nat)/\i+k=l.length/\h' = h) ?_ (k:=l.length) ⟨0,rfl,rfl,rfl,rfl,by omega,rfl⟩;rintro k c d e f h' ⟨i,rfl,rfl,rfl,rfl,s,rfl⟩;unfold rf;by_cases hi:i<l.length
 ·refine hV ?_;obtain⟨t,o1,_,m,n⟩:=b.nat (iH hi) .i64;obtain⟨x,g,gx⟩:=j _ (Cj hi);have a:=(jw.1 g).1;refine ec m (ec n (ec (fj _ _) (ec (fH _ _ _) (oF (C.ld 2 rfl) (ec C.u.v.len ?_)))));refine wi (yz (gU (by simpa using a) ?_));obtain⟨l2,o2,w2,_,o,_,_,p⟩:=C.u.val g;refine ec (fj _ _) (ec (fH _ _ _) (oF (C.ld 2 rfl) (ec o (oF p.op ?_))));have q:x.op<19\/x.op=21:=by
   unfold JO at gx;simpa using gx
  refine gG (je (gB (by simp;omega) ?_));refine gG (je (gB (by simp;omega) ?_));refine gG (je (gB (by simp;omega) ?_));refine gG ?_;rw[OI (by omega)];refine yU ?_;unfold qP;refine je (gB (by simp) ?_);exact gq ⟨k-1,by omega,i+1,rfl,rfl,rfl,rfl,by omega,rfl⟩
 ·exact jG H
theorem Rg(C:Ck F h cs lc u vv vb vs bl pl AZ){i:Nat}{fs:List Fm}(x:u.eh[i]? =some fs)(G:1<=fs.length/\fs.length<=30)(y:∀f∈fs,f.locals.length<=40/\f.stack.length<=60/\(∀v∈f.locals,Eo u v)/\∀v∈f.stack,Eo u v)
  (H:∀h',Sn F h F h'->er F h' cs->Q (.bool true) h'):cP CS kL [.ptr lc 0,.I i] h Q:=by
 refine Cc rfl rfl ?_;unfold vG;obtain⟨I,o1,f,_,z,A,_,q⟩:=C.u.st x;refine ec (fj _ _) (ec (fH _ _ _) (oF (C.ld 4 rfl) (ec z (ec A ?_))));refine jy C.H rfl rfl (by simp[q.one]) λJ n r=>?_;have r2:=q.since r;refine oF (n.ld 0 rfl rfl) (ec r2.len (gG ?_));rw[OI (by omega),qJ,fH,eQ,n.ld 0 (o:=0+0) rfl rfl,eQ,r2.len,eQ,my];refine ec rfl (je (gB (by simp;omega) ?_));refine oF (n.ld 0 rfl rfl) (ec r2.len ?_);have C2:=C.since r n.tail
 refine zH (λk w c d e h'=>∃j:Nat,w = .ptr lc 0/\c=f/\d = .I fs.length/\e = .I (j:Nat)/\j+k=fs.length/\Sn F h F h'/\Ck F h' cs lc u vv vb vs bl pl AZ) ?_ (k:=fs.length)
  ⟨0,rfl,rfl,rfl,rfl,by omega,r,C2⟩
 rintro k w c d e h' ⟨j,rfl,rfl,rfl,rfl,K,s,t⟩;unfold rD;by_cases hj:j<fs.length
 ·refine hV ?_;obtain⟨l3,L,a,b,_,B,D,g,l⟩:=(q.since s).Zm (iH hj);refine ec B (ec D ?_);obtain⟨M,N,E,g4⟩:=y _ (Cj hj);refine jy t.H rfl rfl (by simp only[WH,fc,g.one,l.one];rfl) λO m p=>?_;have g:=g.since p;have l:=l.since p;have C3:=t.since p m.tail;refine oF (m.ld 0 rfl rfl) (ec g.len ?_);refine ec (my _ _ _ _) ?_;rw[OI (by omega),qJ,fH,eQ,m.ld 0 (o:=0+3) rfl rfl,eQ,l.len,eQ,my,OI (by omega)];refine ec rfl (gM (ec rfl (gM (ec (fH _ _ _) (gM (ec (m.ld 0 rfl rfl) (tN ?_)))))));refine Ei C3 g (by omega) E (ec rfl (gM (ec rfl (gM (ec (fH _ _ _) (gM (ec (m.ld 0 rfl rfl) (tN ?_))))))));refine Ei C3 l (by omega) g4 (ec rfl (je (gB (by simp) ?_)));exact gq ⟨k-1,by omega,j+1,rfl,rfl,rfl,rfl,by omega,s.trans p,C3⟩
 ·exact jG (H h' s t.H)
end
