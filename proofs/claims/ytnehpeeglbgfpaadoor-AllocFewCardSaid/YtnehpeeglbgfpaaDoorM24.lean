/- Parts. -/
import Derived.Test.YtnehpeeglbgfpaaDoorM23
import Derived.Test.YtnehpeeglbgfpaaDoorM16
set_option maxHeartbeats 4000000
namespace Go.Proofs.YtnehpeeglbgfpaaDoor.Hx
open Un
def eZ:sO Int where
 sz:=1
 rel _ _ n cs:=cs=[.I n]
 len h:=by simp_all
 one h:=by subst h;rfl
 eC _ h:=h
 mono _ h:=h
def eW:sO (Nat×Nat) where
 sz:=2
 rel _ _ x cs:=cs=[.I (x.1:Nat),.I (x.2:Nat)]
 len h:=by simp_all
 one h:=by subst h;rfl
 eC _ h:=h
 mono _ h:=h
structure zr (F:Nat->Prop) (h:Hp) (u:U) (vv vb vs:V):Prop where
 v:iB eV F h u.ee vv
 b:iB eK F h u.blocks vb
 s:iB eT F h u.ef vs
theorem zr.eC{F:Nat->Prop}{h h':Hp}{u:U}{vv vb vs:V}(c:∀l,F l->h'.get l=h.get l)(a:zr F h u vv vb vs):zr F h' u vv vb vs:=⟨a.v.eC c,a.b.eC c,a.s.eC c⟩
theorem zr.mono{F F':Nat->Prop}{h:Hp}{u:U}{vv vb vs:V}(c:∀l,F l->F' l)(a:zr F h u vv vb vs):zr F' h u vv vb vs:=⟨a.v.mono c,a.b.mono c,a.s.mono c⟩
theorem zr.one{F:Nat->Prop}{h:Hp}{u:U}{vv vb vs:V}(a:zr F h u vv vb vs):fZ (uC u vv vb vs)=true:=by simp only[uC,eR,a.v.one,a.b.one,a.s.one];rfl
theorem iB.since{α:Type}{E:sO α}{F F':Nat->Prop}{h h':Hp}{xs:List α}{v:V}(a:iB E F h xs v)(s:Sn F h F' h'):iB E F' h' xs v:=(a.eC s.eC).mono s.mono
theorem zr.since{F F':Nat->Prop}{h h':Hp}{u:U}{vv vb vs:V}(a:zr F h u vv vb vs)(s:Sn F h F' h'):zr F' h' u vv vb vs:=(a.eC s.eC).mono s.mono
section
variable{F F':Nat->Prop}{h h':Hp}{cs:List Pc}{Q:fu}{u:U}{vv vb vs:V}
structure WX (h:Hp) (l o:Nat) (x:Vl) (w:V):Prop where
 op:er (.ptr l (o+0)) h=some (.I x.op)
 a:er (.ptr l (o+1)) h=some (.I x.a)
 b:er (.ptr l (o+2)) h=some (.I x.b)
 n:er (.ptr l (o+3)) h=some (.I x.n)
 args:er (.ptr l (o+4)) h=some w
 st:er (.ptr l (o+5)) h=some (.I x.state)
structure VO (h:Hp) (l o:Nat) (x:Bk) (v n p:V):Prop where
 ee:er (.ptr l (o+0)) h=some v
 fin:er (.ptr l (o+1)) h=some (.I x.fin)
 cond:er (.ptr l (o+2)) h=some (.I x.cond)
 next:er (.ptr l (o+3)) h=some n
 fk:er (.ptr l (o+4)) h=some p
 st:er (.ptr l (o+5)) h=some (.I x.state)
theorem zr.val(a:zr F h u vv vb vs){i:Nat}{x:Vl}(c:u.ee[i]? =some x) :
  ∃l o w,F l/\gM 6 vv (.I i)=some (.ptr l o)/\hH 6 (.ptr l o) h=some (.agg (qq x w))/\iB eN F h x.args w/\WX h l o x w:=by
 obtain⟨hi,rfl⟩:=jv.1 c;obtain⟨l,o,w,d,e,f,⟨a,rfl,g⟩,b⟩:=a.v.ix hi .i64;exact⟨l,o,a,d,e,f,g,⟨b 0 _ rfl,b 1 _ rfl,b 2 _ rfl,b 3 _ rfl,b 4 _ rfl,b 5 _ rfl⟩⟩
theorem zr.vT(a:zr F h u vv vb vs){i:Nat}{x:Bk}(d:u.blocks[i]? =some x) :
  ∃l o v n p,F l/\gM 6 vb (.I i)=some (.ptr l o)/\hH 6 (.ptr l o) h=some (.agg (kJ x v n p))/\iB eN F h x.ee v/\iB eN F h x.next n/\iB eN F h x.fk p/\VO h l o x v n p:=by
 obtain⟨hi,rfl⟩:=jv.1 d;obtain⟨l,o,w,e,f,g,⟨v,n,p,rfl,j,k,m⟩,c⟩:=a.b.ix hi .i64;exact⟨l,o,v,n,p,e,f,g,j,k,m,⟨c 0 _ rfl,c 1 _ rfl,c 2 _ rfl,c 3 _ rfl,c 4 _ rfl,c 5 _ rfl⟩⟩
theorem zr.st(a:zr F h u vv vb vs){i:Nat}{x:List Fm}(b:u.ef[i]? =some x) :
  ∃l o f,F l/\gM 1 vs (.I i)=some (.ptr l o)/\hH 1 (.ptr l o) h=some (.agg [f])/\er (.ptr l o) h=some f/\iB eF F h x f:=by
 obtain⟨hi,rfl⟩:=jv.1 b;obtain⟨l,o,w,c,d,e,⟨f,rfl,g⟩,j⟩:=a.s.ix hi .i64;exact⟨l,o,f,c,d,e,j 0 f rfl,g⟩
theorem iB.WU{fs:List Fm}{f:V}(a:iB eF F h fs f){i:Nat}{x:Fm}(c:fs[i]? =some x) :
  ∃l o a b,F l/\gM 4 f (.I i)=some (.ptr l o)/\hH 4 (.ptr l o) h=some (.agg (UE x a b))/\iB eN F h x.locals a/\iB eN F h x.stack b:=by
 obtain⟨hi,rfl⟩:=jv.1 c;obtain⟨l,o,w,d,e,g,⟨a,b,rfl,j,k⟩,_⟩:=a.ix hi .i64;exact⟨l,o,a,b,d,e,g,j,k⟩
theorem iB.nat{xs:List Nat}{v:V}(a:iB eN F h xs v){i x:Nat}(c:xs[i]? =some x)(b:IntKind):∃l o,F l/\gM 1 v (.int b (i:Nat))=some (.ptr l o)/\er (.ptr l o) h=some (.I x):=by
 obtain ⟨hi,rfl⟩:=jv.1 c;obtain⟨l,o,w,e,f,g,d⟩:=a.OZ hi b rfl;obtain rfl:w = .I (xs[i]:Nat):=by
  have:[w]=[V.I (xs[i]:Nat)]:=d
  simp_all
 grind
theorem iB.int{xs:List Int}{v:V}(a:iB eZ F h xs v){i:Nat}{x:Int}(c:xs[i]? =some x)(b:IntKind):∃l o,F l/\gM 1 v (.int b (i:Nat))=some (.ptr l o)/\er (.ptr l o) h=some (.I x):=by
 obtain ⟨hi,rfl⟩:=jv.1 c;obtain⟨l,o,w,e,f,g,d⟩:=a.OZ hi b rfl;obtain rfl:w = .I xs[i]:=by
  have:[w]=[V.I xs[i]]:=d
  simp_all
 grind
theorem iB.bool{xs:List Bool}{v:V}(a:iB eB F h xs v){i:Nat}{x:Bool}(c:xs[i]? =some x)(b:IntKind):∃l o,F l/\gM 1 v (.int b (i:Nat))=some (.ptr l o)/\er (.ptr l o) h=some (.bool x):=by
 obtain ⟨hi,rfl⟩:=jv.1 c;obtain⟨l,o,w,e,f,g,d⟩:=a.OZ hi b rfl;obtain rfl:w = .bool xs[i]:=by
  have:[w]=[V.bool xs[i]]:=d
  simp_all
 grind
theorem iB.list{α:Type}{E:sO α}{xs:List (List α)}{v:V}(a:iB (eL E) F h xs v){i:Nat}{x:List α}(c:xs[i]? =some x)(b:IntKind):∃l o w,F l/\gM 1 v (.int b (i:Nat))=some (.ptr l o)/\er (.ptr l o) h=some w/\iB E F h x w:=by
 obtain⟨hi,rfl⟩:=jv.1 c;obtain⟨l,o,w,d,e,g,f,j,k⟩:=a.OZ hi b rfl
 grind
theorem Hc{t:Nat}{k:IntKind}{a b:Int}{A B:Prop}(h:if a=b then B else A):oP (ej .neq t (.int k a) (.int k b)) λv=>bP v A B:=by
 simp_all
theorem Tg{t:Nat}{k:IntKind}{a b:Int}{A B:Prop}(h:if a<=b then A else B):oP (ej .leq t (.int k a) (.int k b)) λv=>bP v A B:=by
 simp_all
theorem BH{t:Nat}{k:IntKind}{a b:Int}{A B:Prop}(h:if b<=a then A else B):oP (ej .geq t (.int k a) (.int k b)) λv=>bP v A B:=by
 simp_all
theorem Fw(a b:Nat):((a:Int) == (b:Int))=(a == b):=by
 grind
theorem gj{t:Nat}{k:IntKind}{a b:Int}{K:V->Prop}(h:K (.bool (decide (a=b)))):oP (ej .eql t (.int k a) (.int k b)) K:=by
 rw[hD]
 grind[decide,oP]
def pU(op:Nat):Nat:=if two op=true then 2 else if sP op=true then 1 else 0
theorem QE{op:Nat}(H:Q (.I (pU op:Nat)) h):cP CS wA [.I op] h Q:=by
 refine Km rfl rfl ?_;unfold EV;have m:∀b:Bool,(b=true->sP op=true/\two op≠true)->(b=false->sP op≠true/\two op≠true)->fU CS Q (.bool b) h:=by
  intro b t u;refine GP ?_;unfold Am;rw[gy];unfold pU at H
  cases b with
  |true=>simp_all
  |false=>simp_all
 have a:∀b:Bool,b=two op->gz CS Q (.I op) (.bool b) h:=by
  intro b o;refine GD ?_;unfold zM;rw[gy]
  cases b with
  |true=>simp_all[pU,if_pos]
  | false=>
    have l:two op≠true:=by rw[<-o];simp
    rw[if_neg (by simp)];refine gj ?_;rw[gy];split
    ·grind[absurd,fU,CS,pU,Un.sP,Un.two,fU,CS,Un.two,Un.two]
    rename_i e1;refine gj ?_;rw[gy];split
    ·grind[absurd,fU,CS,pU,Un.sP,Un.two,fU,CS,Un.two,Un.two]
    rename_i e2;refine gj ?_;rw[gy];split
    ·grind[absurd,fU,CS,pU,Un.sP,Un.two,fU,CS,Un.two,Un.two]
    rename_i d;refine gj ?_;rw[gy];split
    ·grind[absurd,fU,CS,pU,Un.sP,Un.two,fU,CS,Un.two,Un.two]
    rename_i f;refine gj ?_;rw[gy];split
    ·grind[absurd,fU,CS,pU,Un.sP,Un.two,fU,CS,Un.two,Un.two]
    rename_i g;refine gj ?_;simp at e1 e2 d f g;refine m _ (λe=>⟨?_,l⟩) λe=>⟨?_,l⟩
    ·grind[Un.sP,pU,Un.sP,Un.two,fU,CS,Un.two,Un.two]
    ·have e:=of_decide_eq_false e
     intro hq;unfold sP at hq
     grind
 have c:∀n:Nat,(op:Int)=n->(two n=true)->two op=true:=by grind
 refine gj ?_;rw[gy];split
 ·rename_i e;exact a _ (e.trans (c 3 (by simp_all) rfl).symm)
 rename_i e1;refine gj ?_;rw[gy];split
 ·rename_i e;exact a _ (e.trans (c 4 (by simp_all) rfl).symm)
 rename_i e2;refine gj ?_;rw[gy];split
 ·rename_i e;exact a _ (e.trans (c 5 (by simp_all) rfl).symm)
 rename_i d;refine gj ?_;rw[gy];split
 ·rename_i e;exact a _ (e.trans (c 6 (by simp_all) rfl).symm)
 rename_i f;refine gj ?_;rw[gy];split
 ·rename_i e;exact a _ (e.trans (c 7 (by simp_all) rfl).symm)
 rename_i g;refine gj ?_;rw[gy];split
 ·rename_i e;exact a _ (e.trans (c 10 (by simp_all) rfl).symm)
 rename_i p;refine gj ?_;rw[gy];split
 ·rename_i e;exact a _ (e.trans (c 11 (by simp_all) rfl).symm)
 rename_i q;refine gj ?_;rw[gy];split
 ·rename_i e;exact a _ (e.trans (c 12 (by simp_all) rfl).symm)
 rename_i r;refine gj ?_;rw[gy];split
 ·rename_i e;exact a _ (e.trans (c 13 (by simp_all) rfl).symm)
 rename_i s;refine gj ?_;rw[gy];split
 ·rename_i e;exact a _ (e.trans (c 14 (by simp_all) rfl).symm)
 rename_i i;refine gj ?_;rw[gy];split
 ·rename_i e;exact a _ (e.trans (c 18 (by simp_all) rfl).symm)
 rename_i j;refine gj ?_;rw[gy];split
 ·rename_i e;exact a _ (e.trans (c 19 (by simp_all) rfl).symm)
 rename_i k;refine gj (a _ ?_);simp at e1 e2 d f g p q r s i j k;rw[SQ];unfold two
 grind
theorem Ij{op:Nat}(H:Q (.bool (leaves op)) h):cP CS nG [.I op] h Q:=by
 refine IP rfl rfl ?_
 grind[DB,leaves,Int,Fw,hD,gQ,fg,ko,CS,Un.leaves]
theorem vM{a b:Nat}(H:Q (.bool (decide (a<b))) h):cP CS jo [.I a,.I b] h Q:=by
 refine JY rfl rfl ?_
 grind[EO,yd,gQ,fg,mU,jR,decide,Int,CS]
theorem OQ{xs:List Nat}{a b:V}(c:iB eN F h xs a)(d:iB eN F h xs b)(r:xs.length<1000000000)(H:Q (.bool true) h):cP CS ke [a,b] h Q:=by
 refine yU rfl rfl ?_;unfold qK;refine ec c.len (ec d.len (Hc (hV rfl (ec c.len ?_))));refine wu (λk e f g j h'=>∃i:Nat,e=a/\f=b/\g = .I xs.length/\j = .I (i:Nat)/\i+k=xs.length/\h' = h) ?_ (k:=xs.length) (by simp_all);rintro k e f g j h' ⟨i,rfl,rfl,rfl,rfl,s,rfl⟩;unfold oG;by_cases hi:i<xs.length
 ·refine ij ?_;obtain⟨l,o,_,m,n⟩:=c.nat (iQ hi) .i64;obtain⟨t,u,_,p,q⟩:=d.nat (iQ hi) .i64;refine ec m (ec n (ec p (ec q (Hc (hV rfl ?_)))));exact gv ⟨k-1,by omega,i+1,rfl,rfl,rfl,rfl,by omega,rfl⟩
 ·exact jZ H
end
open Un
theorem V5:∀{l:List Nat}(h:0<l.length),l.take 1=[l[0]]
 |y::l,_=>by simp
theorem Fv(x:Vl):lT x=([x.a,x.b].take (pU x.op))++(if x.op=20 then x.args.take 1 else if x.op=21 then x.args else[]):=by
 unfold lT pU;by_cases c:x.op=21
 ·grind[two,sP]
 ·rw[if_neg c];by_cases d:x.op=20
  ·grind[two]
  grind
section
variable{F F':Nat->Prop}{h h':Hp}{cs:List Pc}{Q:fu}{u:U}{vv vb vs:V}
theorem zI{x:Vl}(a:x.op=21\/x.op=20->x.args.length<=700):(lT x).length<=1000:=by
 rw[Fv]
 grind
theorem Js(S:en F h cs){x:Vl}{c:V}(O:iB eN F h x.args c)(P:x.op=21\/x.op=20->x.args.length<=1000000)(H:∀F' h' v,Sn F h F' h'->en F' h' cs->iB eN F' h' (lT x) v->Q v h'):cP CS pZ [.agg (qq x c)] h Q:=by
 refine Mj rfl rfl ?_;unfold GQ;have o1:fZ (qq x c)=true:=by simp only[qq,eR,O.one];rfl
 rw[A0 o1,fF];obtain⟨C,s1⟩:=S.GZ tj (qq x c);have n1:(h.new (.cells 46 1 true false (qq x c))).next=h.next+1:=rfl;have C:en F (h.new (.cells 46 1 true false (qq x c))) (eE h.next tj (qq x c)::cs):=C;have s1:Sn F h F (h.new (.cells 46 1 true false (qq x c))):=s1;generalize h.new (.cells 46 1 true false (qq x c))=d at*;rw[yf,hN];obtain⟨s,D⟩:=C.JX (E:=eN) (xs:=[]) (ws:=[]) (n:=0) fI rfl trivial rfl;have s:en F (d.new (.cells 3 1 true false [])) (ft eN fI [] (.slice d.next 0 0)::eE h.next tj (qq x c)::cs):=s;have D:Sn F d F (d.new (.cells 3 1 true false [])):=D;have g2:(d.new (.cells 3 1 true false [])).get d.next=some (.cells 3 1 true false []):=ey _ _;have n2:(d.new (.cells 3 1 true false [])).next=d.next+1:=rfl;generalize d.new (.cells 3 1 true false [])=i at*;refine ec (by rfl) (ec (s.ld 1 rfl rfl) (ec (by rfl) (ec (s.ld 1 rfl rfl) ?_)));rw[Uw,hN];obtain⟨j,G⟩:=s.JX (E:=eN) (xs:=[x.a,x.b]) (ws:=lF [x.a,x.b]) (n:=2) fI rfl (sS _ _ _) (Gt _);have j:en F (i.new (.cells 3 1 true false (lF [x.a,x.b]))) (ft eN fI [x.a,x.b] (.slice i.next 0 2)::ft eN fI [] (.slice d.next 0 0)::eE h.next tj (qq x c)::cs):=j;have G:Sn F i F (i.new (.cells 3 1 true false (lF [x.a,x.b]))):=G;have g3:(i.new (.cells 3 1 true false (lF [x.a,x.b]))).get i.next=some (.cells 3 1 true false (lF [x.a,x.b])):=ey _ _;have T:(i.new (.cells 3 1 true false (lF [x.a,x.b]))).get d.next=some (.cells 3 1 true false []):=by grind[eJ,trans]
 generalize i.new (.cells 3 1 true false (lF [x.a,x.b]))=U at*;refine ec (by rfl) (ec (j.ld 2 rfl rfl) ⟨by simp_all,j.ld 2 rfl rfl,j.ld 2 rfl rfl,by simp_all,?_⟩);refine QE ⟨je _,?_⟩;have W:pU x.op<=2:=by
  unfold pU;split
  ·omega
  ·grind
 obtain⟨t,I,R⟩:=j.TN 0 rfl (n:=pU x.op) W;refine ec I ⟨by simp_all,j.ld 2 rfl rfl,j.ld 2 rfl rfl,by simp_all,?_⟩;simp only[pP]at R;obtain⟨g,r,J,X,k,Y⟩:=R.Re 1 0 rfl rfl (lD:=8) (by decide) (by decide) (by simp;omega);have u:fh 3 1 8 (.slice d.next 0 0) t U=some (.val g r):=J;rw[u,eh];refine⟨X,?_⟩;simp only[Bt,pP,Lg]at k;have w:=((s1.trans D).trans G).trans Y;have o:iB eN F r x.args c:=(O.eC w.eC)
 have p:∀(F':Nat->Prop) (h':Hp) (v:V) (l:List Nat),Sn F r F' h'->en F' h' (ft eN fI ([x.a,x.b].take (pU x.op)) t::ft eN fI l v::eE h.next tj (qq x c)::cs)->l=lT x->py CS Q v h':=by
  intro F' h' v l Z HF K;subst K;refine Hz ?_;unfold By;obtain⟨y,z,r6⟩:=HF.mO 1 rfl;exact H _ _ v ((w.trans Z).trans z) y.tail.tail.tail r6
 refine ec (by rfl) (ec (k.ld 2 rfl rfl) ?_);by_cases L:x.op=20
 ·have P:=by omega
  refine gP (hV (by omega) ?_);refine ec (by rfl) (ec (k.ld 2 rfl rfl) (ec (by rfl) (ec (k.ld 2 rfl rfl) (ec o.len (ec (Dd _ _ _ _) ?_)))));have em:(if false=true then max (1:Int) (x.args.length:Nat) else min (1:Int) (x.args.length:Nat))=((min 1 x.args.length:Nat):Int):=by simp;omega
  rw[em];obtain⟨M,N,A⟩:=o.cut (lo:=none) (hi:=some (.I ((min 1 x.args.length:Nat):Int))) (m:=0) (n:=min 1 x.args.length) rfl (by rfl) (EL _) (by omega);refine ec N ?_;rw[OK]at A;obtain⟨e,B,q,n6,y,z⟩:=k.Ll 1 rfl (lD:=8) A (by decide) (by decide) (by simp;omega);have f:fh 3 1 8 g M r=some (.val e B):=q;rw[f,eh];refine p F B e _ z y ?_;rw[Fv,if_pos L]
  simp_all
 refine gP (gJ (by omega) ?_);by_cases aa:x.op=21
 ·have P:=by omega
  refine gP (hV (by omega) ?_);refine ec (by rfl) (ec (k.ld 2 rfl rfl) ?_);obtain⟨e,B,q,n6,y,z⟩:=k.Ll 1 rfl (lD:=8) o (by decide) (by decide) (by simp;omega);have f:fh 3 1 8 g c r=some (.val e B):=q;rw[f,eh];refine p F B e _ z y ?_
  simp_all[Fv,if_neg,if_pos]
 ·refine gP (gJ (by omega) ?_);refine p F r g _ (Sn.refl _ _) k ?_
  simp_all[Fv,if_neg,Hk]
end
open Un
section
variable{F F':Nat->Prop}{h h':Hp}{cs:List Pc}{Q:fu}{u:U}{vv vb vs:V}
def Hu(op:Nat):Bool:=two op&&op != 20
theorem FK(C:en F h cs){x:Vl}{j:V}(z:iB eN F h x.args j)(H:∀F' h' v,Sn F h F' h'->en F' h' cs->iB eN F' h' (lT x) v->Q v h'):cP CS jz [.agg (qq x j)] h Q:=by
 refine zx rfl rfl ?_;unfold rT;have o1:fZ (qq x j)=true:=by simp only[qq,eR,z.one];rfl
 rw [A0 o1,fF];obtain⟨c,s1⟩:=C.GZ tj (qq x j);have c:en F (h.new (.cells 46 1 true false (qq x j))) (eE h.next tj (qq x j)::cs):=c;have s1:Sn F h F (h.new (.cells 46 1 true false (qq x j))):=s1;generalize h.new (.cells 46 1 true false (qq x j))=p at*;have r:=z.eC s1.eC;have fin:∀(xs:List Nat),xs=lT x->Q (.slice p.next 0 xs.length) (p.new (.cells 3 1 true false (lF xs))):=by
  intro xs e;obtain⟨s,A,r2⟩:=c.Pu (E:=eN) (n:=xs.length) fI rfl (sS F p xs) false;have:=H _ _ _ (s1.trans A) s.tail (by rw[<-e];exact r2);exact this
 have q:∀b:Bool,(b=true->sP x.op=true/\Hu x.op≠true)->(b=false->sP x.op≠true/\Hu x.op≠true)->gw CS Q (.ptr h.next 0) (.I x.op) (.bool b) p:=by
  intro b u D;refine xg ?_;unfold oT;rw[gy]
  cases b with
  | true=>
    rw[if_pos rfl];obtain⟨t,w⟩:=u rfl;refine ec (by rfl) (ec (c.ld 0 rfl rfl) ?_);rw[show jm 3 1 1 (V.I 0) [(0,V.I (x.a:Nat))]=some (.cells 3 1 true false (lF [x.a]),λl=> .slice l 0 1) from rfl,fF];refine fin [x.a] ?_;unfold Hu at w;unfold sP at t;unfold lT two sP;simp only[Nq,I8]at t
    rcases t with((((e|e)|e)|e)|e)|e <;> rw[e] <;> rfl
  | false=>
    rw[if_neg (by simp)];obtain⟨t,w⟩:=D rfl;by_cases k:x.op=20
    ·refine gP (hV (by omega) ?_)
     refine ec (by rfl) (ec (c.ld 0 rfl rfl) (ec r.len ?_));have R:lT x=x.a::x.b::x.args.take 1:=by unfold lT;rw[k];rfl
     by_cases S:x.args.length=0
     ·refine gP (hV (by omega) ?_)
      refine ec (by rfl) (ec (c.ld 0 rfl rfl) (ec (by rfl) (ec (c.ld 0 rfl rfl) ?_)))
      grind[Uw,fF,US]
     ·refine gP (gJ (by omega) ?_)
      obtain⟨l,o,G,I,B⟩:=r.nat (i:=0) (iQ (by omega)) .i64;refine ec (by rfl) (ec (c.ld 0 rfl rfl) (ec (by rfl) (ec (c.ld 0 rfl rfl) (ec (by rfl) (ec (c.ld 0 rfl rfl) (ec I (ec B ?_)))))));rw[show jm 3 1 3 (V.I 0) [(0,V.I (x.a:Nat)),(1,V.I (x.b:Nat)),(2,V.I (x.args[0]:Nat))]=some (.cells 3 1 true false (lF [x.a,x.b,x.args[0]]),λl=> .slice l 0 3) from rfl,hN];obtain⟨s,A⟩:=c.grow (ki.new p (.cells 3 1 true false (lF [x.a,x.b,x.args[0]])));refine⟨by grind[ey,O.ie],mm B (eJ _ (c.fl _ G)),s.ld 0 rfl rfl,s.ld 0 rfl rfl,s.ld 0 rfl rfl,fin [x.a,x.b,x.args[0]] ?_⟩
      grind[V5]
    refine gP (gJ (by omega) ?_);by_cases y:x.op=21
    ·refine gP (hV (by omega) ?_)
     refine ec (by rfl) (ec (c.ld 0 rfl rfl) ?_);refine H _ _ _ s1 c.tail ?_
     simp_all[lT,if_pos]
    ·refine gP (gJ (by omega) ?_)
     refine H _ _ _ s1 c.tail ?_;have:lT x=[]:=by
       unfold lT;rw[if_neg y,if_neg k,if_neg,if_neg t];intro e;apply w;unfold Hu;rw[e];simpa using k
     rw[this];exact .nil
 have d:∀b:Bool,b=Hu x.op->fx CS Q (.ptr h.next 0) (.I x.op) (.bool b) p:=by
  intro b g;refine xb ?_;unfold pd;rw[gy]
  cases b with
  | true=>
    rw[if_pos rfl];refine ec (by rfl) (ec (c.ld 0 rfl rfl) (ec (by rfl) (ec (c.ld 0 rfl rfl) ?_)));rw[Uw,fF];refine fin [x.a,x.b] ?_;unfold Hu at g;have g:=g.symm;rw[te,bne_iff_ne]at g;unfold lT;rw[if_neg,if_neg g.2,if_pos g.1];intro e;rw[e]at g
    exact absurd g.1 (by decide)
  | false=>
    have m:Hu x.op≠true:=by rw[<-g];simp
    rw[if_neg (by simp)];refine gj ?_;rw[gy];split
    ·rename_i e;refine q _ (λ_=>⟨?_,m⟩) (by grind)
     have:x.op=8:=by simp at e;omega
     rw[this];rfl
    rename_i J;have J:x.op≠8:=by grind
    refine gj ?_;rw[gy];split
    ·rename_i e;refine q _ (λ_=>⟨?_,m⟩) (by grind)
     have:x.op=9:=by simp at e;omega
     rw[this];rfl
    rename_i K;have K:x.op≠9:=by grind
    refine gj ?_;rw[gy];split
    ·rename_i e;refine q _ (λ_=>⟨?_,m⟩) (by grind)
     have:x.op=15:=by simp at e;omega
     rw[this];rfl
    rename_i L;have L:x.op≠15:=by grind
    refine gj ?_;rw[gy];split
    ·rename_i e;refine q _ (λ_=>⟨?_,m⟩) (by grind)
     have:x.op=16:=by simp at e;omega
     rw[this];rfl
    rename_i M;have M:x.op≠16:=by grind
    refine gj ?_;rw[gy];split
    ·rename_i e;refine q _ (λ_=>⟨?_,m⟩) (by grind)
     have:x.op=17:=by simp at e;omega
     rw[this];rfl
    rename_i N;have N:x.op≠17:=by grind
    refine gj ?_;refine q _ (λe=>⟨?_,m⟩) λe=>⟨?_,m⟩
    ·have:x.op=22:=by simp at e;omega
     rw[this];rfl
    ·have e:=of_decide_eq_false e
     intro hq;unfold sP at hq
     grind
 have f:∀n:Nat,(x.op:Int)=n->(Hu n=true)->Hu x.op=true:=by grind
 refine ec (by rfl) (ec (c.ld 0 rfl rfl) ?_);refine gj ?_;rw[gy];split
 ·rename_i e;exact d _ (e.trans (f 3 (by simp_all) rfl).symm)
 rename_i T;refine gj ?_;rw[gy];split
 ·rename_i e;exact d _ (e.trans (f 4 (by simp_all) rfl).symm)
 rename_i U;refine gj ?_;rw[gy];split
 ·rename_i e;exact d _ (e.trans (f 5 (by simp_all) rfl).symm)
 rename_i W;refine gj ?_;rw[gy];split
 ·rename_i e;exact d _ (e.trans (f 6 (by simp_all) rfl).symm)
 rename_i X;refine gj ?_;rw[gy];split
 ·rename_i e;exact d _ (e.trans (f 7 (by simp_all) rfl).symm)
 rename_i Y;refine gj ?_;rw[gy];split
 ·rename_i e;exact d _ (e.trans (f 10 (by simp_all) rfl).symm)
 rename_i Z;refine gj ?_;rw[gy];split
 ·rename_i e;exact d _ (e.trans (f 11 (by simp_all) rfl).symm)
 rename_i f6;refine gj ?_;rw[gy];split
 ·rename_i e;exact d _ (e.trans (f 12 (by simp_all) rfl).symm)
 rename_i f7;refine gj ?_;rw[gy];split
 ·rename_i e;exact d _ (e.trans (f 13 (by simp_all) rfl).symm)
 rename_i f8;refine gj ?_;rw[gy];split
 ·rename_i e;exact d _ (e.trans (f 14 (by simp_all) rfl).symm)
 rename_i f9;refine gj ?_;rw[gy];split
 ·rename_i e;exact d _ (e.trans (f 18 (by simp_all) rfl).symm)
 rename_i P;refine gj (d _ ?_);rw[SQ];unfold Hu two
 grind
end
open Un
theorem pn{l o:Nat}:hJ (.ptr l o)=some (.ptr l o):=fc _ _
theorem ig{X:Option V}{K:V->Prop}(h:oP X K):oP (gB false (.bool false)) λb=>oP (gV b X) K:=h
theorem iV{X:Option V}{K:V->Prop}(h:oP X K):oP (gB true (.bool true)) λb=>oP (gV b X) K:=h
theorem mV{X:Option V}{K:V->Prop}(h:K .undef):oP (gB true (.bool false)) λb=>oP (gV b X) K:=h
theorem PX{X:Option V}{K:V->Prop}(h:K .undef):oP (gB false (.bool true)) λb=>oP (gV b X) K:=h
theorem ye{C:fe}{f:Nat}{a:List V}{h:Hp}{K:fu}(H:cP C f a h K):oP (gB false (.bool false)) λb=>oP (gC b (some (f,a))) λy=>yv C y h K:=H
theorem EG{C:fe}{f:Nat}{a:List V}{h:Hp}{K:fu}(H:cP C f a h K):oP (gB true (.bool true)) λb=>oP (gC b (some (f,a))) λy=>yv C y h K:=H
theorem PJ{C:fe}{f:Nat}{a:List V}{h:Hp}{K:fu}(H:K .undef h):oP (gB true (.bool false)) λb=>oP (gC b (some (f,a))) λy=>yv C y h K:=H
theorem yS{b:Bool}{A B:Prop}(h:if b=true then B else A):oP (xF .not (.bool b)) λv=>bP v A B:=by
 cases b <;> exact h
section
variable{F F':Nat->Prop}{h h':Hp}{cs:List Pc}{Q:fu}{u:U}{vv vb vs:V}
theorem jH{T n:Nat}{b ws:List V}{K:fu}(H:en F h cs)(d:b.length=n)(e:ws.length=n)(c:fZ ws=true)(f:∀a,en F a (eE h.next T ws::cs)->Sn F h F a->K (.ptr h.next 0) a) :
  iW (some (O.cells T 1 true false b,λl=>V.ptr l 0)) h λv c=>fj (gU n v (.agg ws) c) λ_ a=>K v a:=by
 rw[fF];obtain⟨g,s1⟩:=H.GZ T b;obtain⟨a,e2,_,i,j⟩:=g.Vo 0 rfl e d c;rw[e2,eh];exact f a i (s1.trans j)
theorem su{T:Nat}{ws:List V}{K:fu}(H:en F h cs)(b:fZ ws=true)(c:∀a,en F a (eE h.next T ws::cs)->Sn F h F a->K (.ptr h.next 0) a):iW (tQ T (.agg ws)) h K:=by
 rw[A0 b,fF];obtain⟨d,s1⟩:=H.GZ T ws;exact c _ d s1
theorem T7{T:Nat}(xs:List Nat){ps:Option (O×(Nat->V))}(b:ps=some (O.cells T 1 true false (lF xs),λl=> .slice l 0 xs.length)){K:fu}(H:en F h cs)
  (c:∀F' a v,en F' a cs->Sn F h F' a->iB eN F' a xs v->K v a):iW ps h K:=by
 subst b;rw[fF];obtain⟨d,s1,r1⟩:=H.Pu (E:=eN) T rfl (sS F h xs) false;exact c _ _ _ d s1 r1
theorem CB{T:Nat}(x:Nat):jm T 1 1 (V.I 0) [(0,V.I x)]=some (.cells T 1 true false (lF [x]),λl=> .slice l 0 1):=rfl
structure Ck (F:Nat->Prop) (h:Hp) (cs:List Pc) (lc:Nat) (u:U) (vv vb vs bl pl Ad:V):Prop where
 H:en F h cs
 c:∃(i ty:Nat),cs[i]? =some (eE lc ty [.I u.func,.I u.pc,vv,vb,vs,bl,pl,Ad])
 u:zr F h u vv vb vs
variable{lc:Nat}{bl pl Ad:V}
theorem Ck.since(C:Ck F h cs lc u vv vb vs bl pl Ad)(s:Sn F h F' h')(a:en F' h' cs):Ck F' h' cs lc u vv vb vs bl pl Ad:=⟨a,C.c,C.u.since s⟩
theorem Ck.cons(C:Ck F h cs lc u vv vb vs bl pl Ad)(s:Sn F h F' h'){p:Pc} (a:en F' h' (p::cs)):Ck F' h' (p::cs) lc u vv vb vs bl pl Ad:=
 ⟨a,let⟨i,ty,hc⟩:=C.c;⟨i+1,ty,hc⟩,C.u.since s⟩
theorem Ck.ld(C:Ck F h cs lc u vv vb vs bl pl Ad)(o:Nat){y:V}(a:[.I u.func,.I u.pc,vv,vb,vs,bl,pl,Ad][o]? =some y):er (.ptr lc o) h=some y:=
 let⟨i,_,hc⟩:=C.c;C.H.ld i hc a
theorem Gq{m c:V}{n:Nat}(o:n<1000000)(P:(Nat->Prop)->Hp->Prop)(h0:P F h)
  (step:∀i,i<n->∀F' h',P F' h'->∀e:V->Hp->Prop,(∀a b,P a b->e (.bool true) b)->gg CS (fL c [.I (i:Nat)]) h' e) (H:∀F' h',P F' h'->Q (.bool true) h') :
  cP CS iO [m,.I n,c] h Q:=by
 refine CD rfl rfl ?_;unfold wO;refine zX (λk f g j h'=>∃(F':Nat->Prop) (i:Nat),f = .I n/\g=c/\j = .I i/\i+k=n/\P F' h') ?_ (k:=n) ⟨F,0,rfl,rfl,rfl,by omega,h0⟩;rintro k f g j h' ⟨F',i,rfl,rfl,rfl,p,l⟩;unfold tk;by_cases hi:i<n
 ·refine ij ?_;refine step i hi F' h' l _ λa b d=>?_;refine yS (hV rfl ?_);exact gv ⟨k-1,by omega,a,i+1,rfl,rfl,rfl,by omega,d⟩
 ·exact jZ (H F' h' l)
theorem CY(C:Ck F h cs lc u vv vb vs bl pl Ad){l:List Nat}{v:V}(b:iB eN F h l v)(r:l.length<1000000)(j:∀w∈l,CH u w)(H:Q (.bool true) h):cP CS ik [.ptr lc 0,v] h Q:=by
 refine A9 rfl rfl ?_;unfold ug;refine ec b.len ?_;refine yA (λk c d e f h'=>∃i:Nat,c = .ptr lc 0/\d=v/\e = .I l.length/\f = .I (i:Nat)/\i+k=l.length/\h' = h) ?_ (k:=l.length) ⟨0,rfl,rfl,rfl,rfl,by omega,rfl⟩;rintro k c d e f h' ⟨i,rfl,rfl,rfl,rfl,s,rfl⟩;unfold qU;by_cases hi:i<l.length
 ·refine ij ?_;obtain⟨t,o1,_,m,n⟩:=b.nat (iQ hi) .i64;obtain⟨x,g,gx⟩:=j _ (B9 hi);have a:=(jv.1 g).1;refine ec m (ec n (ec (fc _ _) (ec (fM _ _ _) (oF (C.ld 2 rfl) (ec C.u.v.len ?_)))));refine vM (yS (hV (by simpa using a) ?_));obtain⟨l2,o2,w2,_,o,_,_,p⟩:=C.u.val g;refine ec (fc _ _) (ec (fM _ _ _) (oF (C.ld 2 rfl) (ec o (oF p.op ?_))));have q:x.op<19\/x.op=21:=by
   unfold Ia at gx;simpa using gx
  refine gj (jL (gJ (by simp;omega) ?_));refine gj (jL (gJ (by simp;omega) ?_));refine gj (jL (gJ (by simp;omega) ?_));refine gj ?_;rw[ML (by omega)];refine xR ?_;unfold qk;refine jL (gJ (by simp) ?_);exact gv ⟨k-1,by omega,i+1,rfl,rfl,rfl,rfl,by omega,rfl⟩
 ·exact jZ H
theorem Qs(C:Ck F h cs lc u vv vb vs bl pl Ad){i:Nat}{fs:List Fm}(x:u.ef[i]? =some fs)(I:1<=fs.length/\fs.length<=30)(y:∀f∈fs,f.locals.length<=40/\f.stack.length<=60/\(∀v∈f.locals,CH u v)/\∀v∈f.stack,CH u v)
  (H:∀h',Sn F h F h'->en F h' cs->Q (.bool true) h'):cP CS j7 [.ptr lc 0,.I i] h Q:=by
 refine Bj rfl rfl ?_;unfold uJ;obtain⟨J,o1,f,_,z,A,_,q⟩:=C.u.st x;refine ec (fc _ _) (ec (fM _ _ _) (oF (C.ld 4 rfl) (ec z (ec A ?_))));refine jH C.H rfl rfl (by simp[q.one]) λK n r=>?_;have r2:=q.since r;refine oF (n.ld 0 rfl rfl) (ec r2.len (gj ?_));rw[ML (by omega),qd,fM,fg,n.ld 0 (o:=0+0) rfl rfl,fg,r2.len,fg,ml];refine ec rfl (jL (gJ (by simp;omega) ?_));refine oF (n.ld 0 rfl rfl) (ec r2.len ?_);have C2:=C.since r n.tail
 refine yw (λk w c d e h'=>∃j:Nat,w = .ptr lc 0/\c=f/\d = .I fs.length/\e = .I (j:Nat)/\j+k=fs.length/\Sn F h F h'/\Ck F h' cs lc u vv vb vs bl pl Ad) ?_ (k:=fs.length)
  ⟨0,rfl,rfl,rfl,rfl,by omega,r,C2⟩
 rintro k w c d e h' ⟨j,rfl,rfl,rfl,rfl,L,s,t⟩;unfold qV;by_cases hj:j<fs.length
 ·refine ij ?_;obtain⟨l3,M,a,b,_,B,D,g,l⟩:=(q.since s).WU (iQ hj);refine ec B (ec D ?_);obtain⟨N,O,E,G⟩:=y _ (B9 hj);refine jH t.H rfl rfl (by simp only[UE,eR,g.one,l.one];rfl) λP m p=>?_;have g:=g.since p;have l:=l.since p;have C3:=t.since p m.tail;refine oF (m.ld 0 rfl rfl) (ec g.len ?_);refine ec (ml _ _ _ _) ?_;rw[ML (by omega),qd,fM,fg,m.ld 0 (o:=0+3) rfl rfl,fg,l.len,fg,ml,ML (by omega)];refine ec rfl (ig (ec rfl (ig (ec (fM _ _ _) (ig (ec (m.ld 0 rfl rfl) (ye ?_)))))));refine CY C3 g (by omega) E (ec rfl (ig (ec rfl (ig (ec (fM _ _ _) (ig (ec (m.ld 0 rfl rfl) (ye ?_))))))));refine CY C3 l (by omega) G (ec rfl (jL (gJ (by simp) ?_)));exact gv ⟨k-1,by omega,j+1,rfl,rfl,rfl,rfl,by omega,s.trans p,C3⟩
 ·exact jZ (H h' s t.H)
end
