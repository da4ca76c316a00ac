/- Parts. -/
import Derived.Test.YtcoaokdoecgcbaaGreatDoorM23
import Derived.Test.YtcoaokdoecgcbaaGreatDoorM16
set_option maxHeartbeats 4000000
namespace Go.Proofs.YtcoaokdoecgcbaaGreatDoor.Hx
open Un
def eZ:rG Int where
 sz:=1
 rel _ _ n cs:=cs=[.I n]
 len h:=by simp_all
 one h:=by subst h;rfl
 fh _ h:=h
 mono _ h:=h
def eW:rG (Nat×Nat) where
 sz:=2
 rel _ _ x cs:=cs=[.I (x.1:Nat),.I (x.2:Nat)]
 len h:=by simp_all
 one h:=by subst h;rfl
 fh _ h:=h
 mono _ h:=h
structure Is (F:Nat->Prop) (h:Hp) (u:U) (vv vb vs:V):Prop where
 v:iH eV F h u.ee vv
 b:iH eK F h u.blocks vb
 s:iH eT F h u.ez vs
theorem Is.fh{F:Nat->Prop}{h h':Hp}{u:U}{vv vb vs:V}(c:∀l,F l->h'.get l=h.get l)(a:Is F h u vv vb vs):Is F h' u vv vb vs:=⟨a.v.fh c,a.b.fh c,a.s.fh c⟩
theorem Is.mono{F F':Nat->Prop}{h:Hp}{u:U}{vv vb vs:V}(c:∀l,F l->F' l)(a:Is F h u vv vb vs):Is F' h u vv vb vs:=⟨a.v.mono c,a.b.mono c,a.s.mono c⟩
theorem Is.one{F:Nat->Prop}{h:Hp}{u:U}{vv vb vs:V}(a:Is F h u vv vb vs):gz (uC u vv vb vs)=true:=by simp only[uC,fe,a.v.one,a.b.one,a.s.one];rfl
theorem iH.since{α:Type}{E:rG α}{F F':Nat->Prop}{h h':Hp}{xs:List α}{v:V}(hs:iH E F h xs v)(s:Sn F h F' h'):iH E F' h' xs v:=(hs.fh s.fh).mono s.mono
theorem Is.since{F F':Nat->Prop}{h h':Hp}{u:U}{vv vb vs:V}(a:Is F h u vv vb vs)(s:Sn F h F' h'):Is F' h' u vv vb vs:=(a.fh s.fh).mono s.mono
section
variable{F F':Nat->Prop}{h h':Hp}{cs:List Pc}{Q:fo}{u:U}{vv vb vs:V}
structure zgE (h:Hp) (l o:Nat) (x:Vl) (w:V):Prop where
 op:eC (.ptr l (o+0)) h=some (.I x.op)
 a:eC (.ptr l (o+1)) h=some (.I x.a)
 b:eC (.ptr l (o+2)) h=some (.I x.b)
 n:eC (.ptr l (o+3)) h=some (.I x.n)
 args:eC (.ptr l (o+4)) h=some w
 st:eC (.ptr l (o+5)) h=some (.I x.state)
structure zfj (h:Hp) (l o:Nat) (x:Bk) (v n p:V):Prop where
 ee:eC (.ptr l (o+0)) h=some v
 fin:eC (.ptr l (o+1)) h=some (.I x.fin)
 cond:eC (.ptr l (o+2)) h=some (.I x.cond)
 next:eC (.ptr l (o+3)) h=some n
 fu:eC (.ptr l (o+4)) h=some p
 st:eC (.ptr l (o+5)) h=some (.I x.state)
theorem Is.val(a:Is F h u vv vb vs){i:Nat}{x:Vl}(c:u.ee[i]? =some x) :
  ∃l o w,F l/\gP 6 vv (.I i)=some (.ptr l o)/\gy 6 (.ptr l o) h=some (.agg (yH x w))/\iH eN F h x.args w/\zgE h l o x w:=by
 obtain⟨hi,rfl⟩:=kE.1 c;obtain⟨l,o,w,d,e,f,⟨a,rfl,g⟩,b⟩:=a.v.ix hi .i64;exact⟨l,o,a,d,e,f,g,⟨b 0 _ rfl,b 1 _ rfl,b 2 _ rfl,b 3 _ rfl,b 4 _ rfl,b 5 _ rfl⟩⟩
theorem Is.AA(a:Is F h u vv vb vs){i:Nat}{x:Bk}(d:u.blocks[i]? =some x) :
  ∃l o v n p,F l/\gP 6 vb (.I i)=some (.ptr l o)/\gy 6 (.ptr l o) h=some (.agg (rr x v n p))/\iH eN F h x.ee v/\iH eN F h x.next n/\iH eN F h x.fu p/\zfj h l o x v n p:=by
 obtain⟨hi,rfl⟩:=kE.1 d;obtain⟨l,o,w,e,f,g,⟨v,n,p,rfl,j,k,m⟩,c⟩:=a.b.ix hi .i64;exact⟨l,o,v,n,p,e,f,g,j,k,m,⟨c 0 _ rfl,c 1 _ rfl,c 2 _ rfl,c 3 _ rfl,c 4 _ rfl,c 5 _ rfl⟩⟩
theorem Is.st(a:Is F h u vv vb vs){i:Nat}{x:List Fm}(b:u.ez[i]? =some x) :
  ∃l o f,F l/\gP 1 vs (.I i)=some (.ptr l o)/\gy 1 (.ptr l o) h=some (.agg [f])/\eC (.ptr l o) h=some f/\iH eF F h x f:=by
 obtain⟨hi,rfl⟩:=kE.1 b;obtain⟨l,o,w,c,d,e,⟨f,rfl,g⟩,j⟩:=a.s.ix hi .i64;exact⟨l,o,f,c,d,e,j 0 f rfl,g⟩
theorem iH.frm{fs:List Fm}{f:V}(a:iH eF F h fs f){i:Nat}{x:Fm}(c:fs[i]? =some x) :
  ∃l o a b,F l/\gP 4 f (.I i)=some (.ptr l o)/\gy 4 (.ptr l o) h=some (.agg (fmC x a b))/\iH eN F h x.locals a/\iH eN F h x.stack b:=by
 obtain⟨hi,rfl⟩:=kE.1 c;obtain⟨l,o,w,d,e,g,⟨a,b,rfl,j,k⟩,_⟩:=a.ix hi .i64;exact⟨l,o,a,b,d,e,g,j,k⟩
theorem iH.nat{xs:List Nat}{v:V}(a:iH eN F h xs v){i x:Nat}(c:xs[i]? =some x)(b:IntKind):∃l o,F l/\gP 1 v (.int b (i:Nat))=some (.ptr l o)/\eC (.ptr l o) h=some (.I x):=by
 obtain⟨hi,rfl⟩:=kE.1 c
 let⟨l,o,w,e,f,g,d⟩:=a.XZ hi b rfl
 obtain rfl:w = .I (xs[i]:Nat):=by
  have:[w]=[V.I (xs[i]:Nat)]:=d
  simp_all
 grind
theorem iH.int{xs:List Int}{v:V}(a:iH eZ F h xs v){i:Nat}{x:Int}(c:xs[i]? =some x)(b:IntKind):∃l o,F l/\gP 1 v (.int b (i:Nat))=some (.ptr l o)/\eC (.ptr l o) h=some (.I x):=by
 obtain⟨hi,rfl⟩:=kE.1 c
 let⟨l,o,w,e,f,g,d⟩:=a.XZ hi b rfl
 obtain rfl:w = .I xs[i]:=by
  have:[w]=[V.I xs[i]]:=d
  simp_all
 grind
theorem iH.bool{xs:List Bool}{v:V}(a:iH eB F h xs v){i:Nat}{x:Bool}(c:xs[i]? =some x)(b:IntKind):∃l o,F l/\gP 1 v (.int b (i:Nat))=some (.ptr l o)/\eC (.ptr l o) h=some (.bool x):=by
 obtain⟨hi,rfl⟩:=kE.1 c
 let⟨l,o,w,e,f,g,d⟩:=a.XZ hi b rfl
 obtain rfl:w = .bool xs[i]:=by
  have:[w]=[V.bool xs[i]]:=d
  simp_all
 grind
theorem iH.list{α:Type}{E:rG α}{xs:List (List α)}{v:V}(a:iH (eL E) F h xs v){i:Nat}{x:List α}(c:xs[i]? =some x)(b:IntKind):∃l o w,F l/\gP 1 v (.int b (i:Nat))=some (.ptr l o)/\eC (.ptr l o) h=some w/\iH E F h x w:=by
 obtain⟨hi,rfl⟩:=kE.1 c
 let⟨l,o,w,d,e,g,f,j,k⟩:=a.XZ hi b rfl
 grind
theorem Ef{t:Nat}{k:IntKind}{a b:Int}{A B:Prop}(h:if a=b then B else A):oP (ef .neq t (.int k a) (.int k b)) λv=>bP v A B:=by
 simp_all
theorem zfl{t:Nat}{k:IntKind}{a b:Int}{A B:Prop}(h:if a<=b then A else B):oP (ef .leq t (.int k a) (.int k b)) λv=>bP v A B:=by
 simp_all
theorem PS{t:Nat}{k:IntKind}{a b:Int}{A B:Prop}(h:if b<=a then A else B):oP (ef .geq t (.int k a) (.int k b)) λv=>bP v A B:=by
 simp_all
theorem YD(a b:Nat):((a:Int) == (b:Int))=(a == b):=by
 grind
theorem fH{t:Nat}{k:IntKind}{a b:Int}{K:V->Prop}(h:K (.bool (decide (a=b)))):oP (ef .eql t (.int k a) (.int k b)) K:=by
 rw[iE]
 grind[oP]
def Bw(op:Nat):Nat:=if two op=true then 2 else if zA op=true then 1 else 0
theorem Zc{op:Nat}(H:Q (.I (Bw op:Nat)) h):cP CS Bc [.I op] h Q:=by
 refine Tf rfl rfl ?_;unfold L2;have l:∀b,(b=true->zA op=true/\two op≠true)->(b=false->zA op≠true/\two op≠true)->iD CS Q (.bool b) h:=by
  intro b s t;refine Ng ?_;unfold FW;rw[lP];unfold Bw at H
  cases b with
  |true=>simp_all
  |false=>simp_all
 have r4:∀b,b=two op->hV CS Q (.I op) (.bool b) h:=by
  intro b m;refine NH ?_;unfold Gq;rw[lP]
  cases b with
  |true=>simp_all[Bw,if_pos]
  | false=>
    have k:two op≠true:=by rw[<-m];simp
    rw[if_neg (by simp)];refine fH ?_;rw[lP];split
    ·grind[iD,Un.zA]
    rename_i e1;refine fH ?_;rw[lP];split
    ·grind[iD,Un.zA]
    rename_i e2;refine fH ?_;rw[lP];split
    ·grind[iD,Un.zA]
    rename_i c;refine fH ?_;rw[lP];split
    ·grind[iD,Un.zA]
    rename_i d;refine fH ?_;rw[lP];split
    ·grind[iD,Un.zA]
    rename_i f;refine fH ?_;simp at e1 e2 c d f;refine l _ (λe=>⟨?_,k⟩) λe=>⟨?_,k⟩
    ·grind[Bw,Un.zA]
    ·have e:=of_decide_eq_false e
     intro hq;unfold zA at hq
     grind
 have a:∀n:Nat,(op:Int)=n->(two n=true)->two op=true:=by grind
 refine fH ?_;rw[lP];split
 ·rename_i e;exact r4 _ (e.trans (a 3 (by simp_all) rfl).symm)
 rename_i e1;refine fH ?_;rw[lP];split
 ·rename_i e;exact r4 _ (e.trans (a 4 (by simp_all) rfl).symm)
 rename_i e2;refine fH ?_;rw[lP];split
 ·rename_i e;exact r4 _ (e.trans (a 5 (by simp_all) rfl).symm)
 rename_i c;refine fH ?_;rw[lP];split
 ·rename_i e;exact r4 _ (e.trans (a 6 (by simp_all) rfl).symm)
 rename_i d;refine fH ?_;rw[lP];split
 ·rename_i e;exact r4 _ (e.trans (a 7 (by simp_all) rfl).symm)
 rename_i f;refine fH ?_;rw[lP];split
 ·rename_i e;exact r4 _ (e.trans (a 10 (by simp_all) rfl).symm)
 rename_i o;refine fH ?_;rw[lP];split
 ·rename_i e;exact r4 _ (e.trans (a 11 (by simp_all) rfl).symm)
 rename_i p;refine fH ?_;rw[lP];split
 ·rename_i e;exact r4 _ (e.trans (a 12 (by simp_all) rfl).symm)
 rename_i q;refine fH ?_;rw[lP];split
 ·rename_i e;exact r4 _ (e.trans (a 13 (by simp_all) rfl).symm)
 rename_i r;refine fH ?_;rw[lP];split
 ·rename_i e;exact r4 _ (e.trans (a 14 (by simp_all) rfl).symm)
 rename_i g;refine fH ?_;rw[lP];split
 ·rename_i e;exact r4 _ (e.trans (a 18 (by simp_all) rfl).symm)
 rename_i i;refine fH ?_;rw[lP];split
 ·rename_i e;exact r4 _ (e.trans (a 19 (by simp_all) rfl).symm)
 rename_i j;refine fH (r4 _ ?_);simp at e1 e2 c d f o p q r g i j;rw[Uv];unfold two
 grind
theorem Px{op:Nat}(H:Q (.bool (leaves op)) h):cP CS qK [.I op] h Q:=by
 refine Qo rfl rfl ?_
 grind[JP,leaves,YD,iE,fY,eD,iC]
theorem Ax{a b:Nat}(H:Q (.bool (decide (a<b))) h):cP CS ka [.I a,.I b] h Q:=by
 refine Sg rfl rfl ?_
 grind[L8,jc,fY,eD,jC,gQ,decide,Int,CS]
theorem ZX{xs:List Nat}{a b:V}(c:iH eN F h xs a)(d:iH eN F h xs b)(hl:xs.length<1000000000)(H:Q (.bool true) h):cP CS mi [a,b] h Q:=by
 refine CW rfl rfl ?_;unfold vt;refine ec c.len (ec d.len (Ef (gN rfl (ec c.len ?_))));refine AR (λk e f g j h'=>∃i,e=a/\f=b/\g = .I xs.length/\j = .I (i:Nat)/\i+k=xs.length/\h' = h) ?_ (k:=xs.length) (by simp_all);rintro k e f g j h' ⟨i,rfl,rfl,rfl,rfl,r,rfl⟩;unfold rq;by_cases hi:i<xs.length
 ·refine gU ?_
  let⟨l,o,_,m,n⟩:=c.nat (iz hi) .i64
  let⟨l',o',_,p,q⟩:=d.nat (iz hi) .i64
  refine ec m (ec n (ec p (ec q (Ef (gN rfl ?_)))));exact gf ⟨k-1,by omega,i+1,rfl,rfl,rfl,rfl,by omega,rfl⟩
 ·exact iY H
end
open Un
theorem MV(x:Vl):kj x=([x.a,x.b].take (Bw x.op))++(if x.op=20 then x.args.take 1 else if x.op=21 then x.args else[]):=by
 unfold kj Bw;by_cases c:x.op=21
 ·grind[two,zA]
 ·rw[if_neg c];by_cases d:x.op=20
  ·grind[two]
  grind
section
variable{F F':Nat->Prop}{h h':Hp}{cs:List Pc}{Q:fo}{u:U}{vv vb vs:V}
theorem Nc{x:Vl}(hl:x.op=21\/x.op=20->x.args.length<=700):(kj x).length<=1000:=by
 rw[MV]
 grind
theorem Qs(R:ej F h cs){x:Vl}{c:V}(O:iH eN F h x.args c)(hl:x.op=21\/x.op=20->x.args.length<=1000000)(H:∀F' h' v,Sn F h F' h'->ej F' h' cs->iH eN F' h' (kj x) v->Q v h'):cP CS sQ [.agg (yH x c)] h Q:=by
 refine Ue rfl rfl ?_;unfold NT;have S:gz (yH x c)=true:=by simp only[yH,fe,O.one];rfl
 rw[JF S,fI];obtain⟨C,s1⟩:=R.HM zT (yH x c);have n1:(h.new (.cells 81 1 true false (yH x c))).next=h.next+1:=rfl;have C:ej F (h.new (.cells 81 1 true false (yH x c))) (ft h.next zT (yH x c)::cs):=C;have s1:Sn F h F (h.new (.cells 81 1 true false (yH x c))):=s1;generalize h.new (.cells 81 1 true false (yH x c))=d at*;rw[tY,hH];obtain⟨s,D⟩:=C.NX (E:=eN) (xs:=[]) (ws:=[]) (n:=0) fw rfl trivial rfl;have s:ej F (d.new (.cells 3 1 true false [])) (fE eN fw [] (.slice d.next 0 0)::ft h.next zT (yH x c)::cs):=s;have D:Sn F d F (d.new (.cells 3 1 true false [])):=D;have g2:(d.new (.cells 3 1 true false [])).get d.next=some (.cells 3 1 true false []):=eJ _ _;have n2:(d.new (.cells 3 1 true false [])).next=d.next+1:=rfl;generalize d.new (.cells 3 1 true false [])=i at*;refine ec (by rfl) (ec (s.ld 1 rfl rfl) (ec (by rfl) (ec (s.ld 1 rfl rfl) ?_)));rw[nx2,hH];obtain⟨j,G⟩:=s.NX (E:=eN) (xs:=[x.a,x.b]) (ws:=nD [x.a,x.b]) (n:=2) fw rfl (zY _ _ _) (Np _);have j:ej F (i.new (.cells 3 1 true false (nD [x.a,x.b]))) (fE eN fw [x.a,x.b] (.slice i.next 0 2)::fE eN fw [] (.slice d.next 0 0)::ft h.next zT (yH x c)::cs):=j;have G:Sn F i F (i.new (.cells 3 1 true false (nD [x.a,x.b]))):=G;have g3:(i.new (.cells 3 1 true false (nD [x.a,x.b]))).get i.next=some (.cells 3 1 true false (nD [x.a,x.b])):=eJ _ _;have T:(i.new (.cells 3 1 true false (nD [x.a,x.b]))).get d.next=some (.cells 3 1 true false []):=by grind[eE,trans]
 generalize i.new (.cells 3 1 true false (nD [x.a,x.b]))=U at*;refine ec (by rfl) (ec (j.ld 2 rfl rfl) ⟨by simp_all,j.ld 2 rfl rfl,j.ld 2 rfl rfl,by simp_all,?_⟩);refine Zc ⟨jv _,?_⟩;have W:Bw x.op<=2:=by
  unfold Bw;split
  ·omega
  ·grind
 obtain⟨t,I,P⟩:=j.zdK 0 rfl (n:=Bw x.op) W;refine ec I ⟨by simp_all,j.ld 2 rfl rfl,j.ld 2 rfl rfl,by simp_all,?_⟩;simp only[AD]at P;obtain⟨g,r,J,X,k,Y⟩:=P.zek 1 0 rfl rfl (lE:=8) (by decide) (by decide) (by simp;omega);have u:eQ 3 1 8 (.slice d.next 0 0) t U=some (.val g r):=J;rw[u,eh];refine⟨X,?_⟩;simp only[OH,AD,OJ]at k;have w:=((s1.trans D).trans G).trans Y;have o:iH eN F r x.args c:=(O.fh w.fh)
 have p:∀(F':Nat->Prop) (h':Hp) (v:V) (l:List Nat),Sn F r F' h'->ej F' h' (fE eN fw ([x.a,x.b].take (Bw x.op)) t::fE eN fw l v::ft h.next zT (yH x c)::cs)->l=kj x->sh CS Q v h':=by
  intro F' h' v l Z HF K;subst K;refine OZ ?_;unfold Ih;obtain⟨y,z,r6⟩:=HF.ji 1 rfl;exact H _ _ v ((w.trans Z).trans z) y.tail.tail.tail r6
 refine ec (by rfl) (ec (k.ld 2 rfl rfl) ?_);by_cases L:x.op=20
 ·have hl:=by omega
  refine gw (gN (by omega) ?_);refine ec (by rfl) (ec (k.ld 2 rfl rfl) (ec (by rfl) (ec (k.ld 2 rfl rfl) (ec o.len (ec (SY _ _ _ _) ?_)))));have em:(if false=true then max (1:Int) (x.args.length:Nat) else min (1:Int) (x.args.length:Nat))=((min 1 x.args.length:Nat):Int):=by simp;omega
  rw[em];obtain⟨M,N,A⟩:=o.cut (lo:=none) (hi:=some (.I ((min 1 x.args.length:Nat):Int))) (m:=0) (n:=min 1 x.args.length) rfl (by rfl) (Ll _) (by omega);refine ec N ?_;rw[wBL]at A;obtain⟨e,B,q,n6,y,z⟩:=k.O9 1 rfl (lE:=8) A (by decide) (by decide) (by simp;omega);have f:eQ 3 1 8 g M r=some (.val e B):=q;rw[f,eh];refine p F B e _ z y ?_;rw[MV,if_pos L]
  simp_all
 refine gw (gD (by omega) ?_);by_cases aa:x.op=21
 ·have hl:=by omega
  refine gw (gN (by omega) ?_);refine ec (by rfl) (ec (k.ld 2 rfl rfl) ?_);obtain⟨e,B,q,n6,y,z⟩:=k.O9 1 rfl (lE:=8) o (by decide) (by decide) (by simp;omega);have f:eQ 3 1 8 g c r=some (.val e B):=q;rw[f,eh];refine p F B e _ z y ?_
  simp_all[MV,if_neg,if_pos]
 ·refine gw (gD (by omega) ?_);refine p F r g _ (Sn.refl _ _) k ?_
  simp_all[MV,if_neg,Hf]
end
open Un
theorem pf{l o k:Nat}:fK k (.ptr l o)=some (.ptr l (o+k)):=fN _ _ _
theorem pn{l o:Nat}:gq (.ptr l o)=some (.ptr l o):=fi _ _
theorem bq{e sz:Nat}{a b:Bool}{cs:List V}:O.beq (.cells e sz a b cs) (.cells e sz a b cs)=true:=O.jA _ _ _ _ _
theorem gZ{X:Option V}{K:V->Prop}(h:oP X K):oP (gW false (.bool false)) λb=>oP (gV b X) K:=h
theorem jH{X:Option V}{K:V->Prop}(h:oP X K):oP (gW true (.bool true)) λb=>oP (gV b X) K:=h
theorem qx{X:Option V}{K:V->Prop}(h:K .undef):oP (gW true (.bool false)) λb=>oP (gV b X) K:=h
theorem vr{X:Option V}{K:V->Prop}(h:K .undef):oP (gW false (.bool true)) λb=>oP (gV b X) K:=h
theorem vh{C:fj}{f:Nat}{a:List V}{h:Hp}{K:fo}(H:cP C f a h K):oP (gW false (.bool false)) λb=>oP (gC b (some (f,a))) λy=>AS C y h K:=H
theorem NQ{C:fj}{f:Nat}{a:List V}{h:Hp}{K:fo}(H:cP C f a h K):oP (gW true (.bool true)) λb=>oP (gC b (some (f,a))) λy=>AS C y h K:=H
theorem YJ{C:fj}{f:Nat}{a:List V}{h:Hp}{K:fo}(H:K .undef h):oP (gW true (.bool false)) λb=>oP (gC b (some (f,a))) λy=>AS C y h K:=H
theorem po{b:Bool}{A B:Prop}(h:if b=true then B else A):oP (qH .not (.bool b)) λv=>bP v A B:=by
 cases b <;> exact h
theorem Rx{b:Bool}{K:V->Prop}(h:K (.bool (!b))):oP (qH .not (.bool b)) K:=h
section
variable{F F':Nat->Prop}{h h':Hp}{cs:List Pc}{Q:fo}{u:U}{vv vb vs:V}
theorem lM{T n:Nat}{b ws:List V}{K:fo}(H:ej F h cs)(d:b.length=n)(e:ws.length=n)(c:gz ws=true)(f:∀a,ej F a (ft h.next T ws::cs)->Sn F h F a->K (.ptr h.next 0) a) :
  hZ (some (O.cells T 1 true false b,λl=>V.ptr l 0)) h λv c=>fg (gL n v (.agg ws) c) λ_ a=>K v a:=by
 rw[fI]
 let⟨g,s1⟩:=H.HM T b
 let⟨a,e2,_,i,j⟩:=g.XM 0 rfl e d c
 rw[e2,eh];exact f a i (s1.trans j)
theorem rL{T:Nat}{ws:List V}{K:fo}(H:ej F h cs)(b:gz ws=true)(c:∀a,ej F a (ft h.next T ws::cs)->Sn F h F a->K (.ptr h.next 0) a):hZ (nj T (.agg ws)) h K:=by
 rw[JF b,fI]
 let⟨d,s1⟩:=H.HM T ws
 exact c _ d s1
theorem Zl{T:Nat}(xs:List Nat){b:Option (O×(Nat->V))}(c:b=some (O.cells T 1 true false (nD xs),λl=> .slice l 0 xs.length)){K:fo}(H:ej F h cs)
  (d:∀F' a v,ej F' a cs->Sn F h F' a->iH eN F' a xs v->K v a):hZ b h K:=by
 subst c;rw[fI]
 let⟨e,s1,r1⟩:=H.Xu T rfl (zY F h xs) false
 exact d _ _ _ e s1 r1
theorem DG{T:Nat}(x:Nat):iK T 1 1 (V.I 0) [(0,V.I x)]=some (.cells T 1 true false (nD [x]),λl=> .slice l 0 1):=rfl
structure Ck (F:Nat->Prop) (h:Hp) (cs:List Pc) (lc:Nat) (u:U) (vv vb vs bl pl GC:V):Prop where
 H:ej F h cs
 c:∃(i ty:Nat),cs[i]? =some (ft lc ty [.I u.func,.I u.pc,vv,vb,vs,bl,pl,GC])
 u:Is F h u vv vb vs
variable{lc:Nat}{bl pl GC:V}
theorem Ck.since(C:Ck F h cs lc u vv vb vs bl pl GC)(s:Sn F h F' h')(a:ej F' h' cs):Ck F' h' cs lc u vv vb vs bl pl GC:=⟨a,C.c,C.u.since s⟩
theorem Ck.cons(C:Ck F h cs lc u vv vb vs bl pl GC)(s:Sn F h F' h'){p:Pc} (a:ej F' h' (p::cs)):Ck F' h' (p::cs) lc u vv vb vs bl pl GC:=
 ⟨a,let⟨i,ty,hc⟩:=C.c;⟨i+1,ty,hc⟩,C.u.since s⟩
theorem Ck.ld(C:Ck F h cs lc u vv vb vs bl pl GC)(o:Nat){y:V}(a:[.I u.func,.I u.pc,vv,vb,vs,bl,pl,GC][o]? =some y):eC (.ptr lc o) h=some y:=
 let⟨i,_,hc⟩:=C.c;C.H.ld i hc a
theorem Nk{m c:V}{n:Nat}(o:n<1000000)(P:(Nat->Prop)->Hp->Prop)(h0:P F h)
  (step:∀i,i<n->∀F' h',P F' h'->∀e,(∀a b,P a b->e (.bool true) b)->gO CS (fX c [.I (i:Nat)]) h' e) (H:∀F' h',P F' h'->Q (.bool true) h') :
  cP CS jw [m,.I n,c] h Q:=by
 refine Km rfl rfl ?_;unfold Bd;refine FE (λk f g j h'=>∃F' i,f = .I n/\g=c/\j = .I (i:Nat)/\i+k=n/\P F' h') ?_ (k:=n) ⟨F,0,rfl,rfl,rfl,by omega,h0⟩;rintro k f g j h' ⟨F',i,rfl,rfl,rfl,p,l⟩;unfold wT;by_cases hi:i<n
 ·refine gU ?_;refine step i hi F' h' l _ λa b d=>?_;refine po (gN rfl ?_);exact gf ⟨k-1,by omega,a,i+1,rfl,rfl,rfl,by omega,d⟩
 ·exact iY (H F' h' l)
theorem Ks(C:Ck F h cs lc u vv vb vs bl pl GC){l:List Nat}{v:V}(hl:iH eN F h l v)(p:l.length<1000000)(f:∀w∈l,FD u w)(H:Q (.bool true) h):cP CS iS [.ptr lc 0,v] h Q:=by
 refine HW rfl rfl ?_;unfold zp;refine ec hl.len ?_;refine Du (λk b c d e h'=>∃i,b = .ptr lc 0/\c=v/\d = .I l.length/\e = .I (i:Nat)/\i+k=l.length/\h' = h) ?_ (k:=l.length) ⟨0,rfl,rfl,rfl,rfl,by omega,rfl⟩;rintro k b c d e h' ⟨i,rfl,rfl,rfl,rfl,q,rfl⟩;unfold tV;by_cases hi:i<l.length
 ·refine gU ?_
  let⟨l1,r,_,g,j⟩:=hl.nat (iz hi) .i64
  let⟨x,hx,gx⟩:=f _ (Dg hi)
  have a:=(kE.1 hx).1;refine ec g (ec j (ec (fi _ _) (ec (fN _ _ _) (oF (C.ld 2 rfl) (ec C.u.v.len ?_)))));refine Ax (po (gN (by simpa using a) ?_))
  let⟨l2,o2,w2,_,m,_,_,n⟩:=C.u.val hx
  refine ec (fi _ _) (ec (fN _ _ _) (oF (C.ld 2 rfl) (ec m (oF n.op ?_))));have o:x.op<19\/x.op=21:=by
   unfold P9 at gx;simpa using gx
  refine fH (gh (gD (by simp;omega) ?_));refine fH (gh (gD (by simp;omega) ?_));refine fH (gh (gD (by simp;omega) ?_));refine fH ?_;rw[V7 (by omega)];refine CJ ?_;unfold th;refine gh (gD (by simp) ?_);exact gf ⟨k-1,by omega,i+1,rfl,rfl,rfl,rfl,by omega,rfl⟩
 ·exact iY H
theorem Yt(C:Ck F h cs lc u vv vb vs bl pl GC){i:Nat}{fs:List Fm}(hs:u.ez[i]? =some fs)(E:1<=fs.length/\fs.length<=30)(w:∀f∈fs,f.locals.length<=40/\f.stack.length<=60/\(∀v∈f.locals,FD u v)/\∀v∈f.stack,FD u v)
  (H:∀h',Sn F h F h'->ej F h' cs->Q (.bool true) h'):cP CS ma [.ptr lc 0,.I i] h Q:=by
 refine HX rfl rfl ?_;unfold yJ
 let⟨l1,G,f,_,x,y,_,p⟩:=C.u.st hs
 refine ec (fi _ _) (ec (fN _ _ _) (oF (C.ld 4 rfl) (ec x (ec y ?_))));refine lM C.H rfl rfl (by simp[p.one]) λI n q=>?_;have r2:=p.since q;refine oF (n.ld 0 rfl rfl) (ec r2.len (fH ?_));rw[V7 (by omega),ta,fN,eD,n.ld 0 rfl rfl,eD,r2.len,eD,iG];refine ec rfl (gh (gD (by simp;omega) ?_));refine oF (n.ld 0 rfl rfl) (ec r2.len ?_);have C2:=C.since q n.tail
 refine DI (λk t c d e h'=>∃j,t = .ptr lc 0/\c=f/\d = .I fs.length/\e = .I (j:Nat)/\j+k=fs.length/\Sn F h F h'/\Ck F h' cs lc u vv vb vs bl pl GC) ?_ (k:=fs.length)
  ⟨0,rfl,rfl,rfl,rfl,by omega,q,C2⟩
 rintro k t c d e h' ⟨j,rfl,rfl,rfl,rfl,J,r,s⟩;unfold vg;by_cases hj:j<fs.length
 ·refine gU ?_
  let⟨l3,K,a,b,_,z,A,g,l⟩:=(p.since r).frm (iz hj)
  refine ec z (ec A ?_)
  let⟨L,M,B,D⟩:=w _ (Dg hj)
  refine lM s.H rfl rfl (by simp only[fmC,fe,g.one,l.one];rfl) λN m o=>?_;have g:=g.since o;have l:=l.since o;have C3:=s.since o m.tail;refine oF (m.ld 0 rfl rfl) (ec g.len ?_);refine ec (iG _ _ _ _) ?_;rw[V7 (by omega),ta,fN,eD,m.ld 0 rfl rfl,eD,l.len,eD,iG,V7 (by omega)];refine ec rfl (gZ (ec rfl (gZ (ec (fN _ _ _) (gZ (ec (m.ld 0 rfl rfl) (vh ?_)))))));refine Ks C3 g (by omega) B (ec rfl (gZ (ec rfl (gZ (ec (fN _ _ _) (gZ (ec (m.ld 0 rfl rfl) (vh ?_))))))));refine Ks C3 l (by omega) D (ec rfl (gh (gD (by simp) ?_)));exact gf ⟨k-1,by omega,j+1,rfl,rfl,rfl,rfl,by omega,r.trans o,C3⟩
 ·exact iY (H h' r s.H)
end
