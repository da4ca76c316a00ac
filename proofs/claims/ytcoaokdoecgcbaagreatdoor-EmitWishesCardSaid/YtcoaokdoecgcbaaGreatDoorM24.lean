/- Parts. -/
import Derived.Test.YtcoaokdoecgcbaaGreatDoorM23
import Derived.Test.YtcoaokdoecgcbaaGreatDoorM16
set_option maxHeartbeats 4000000
namespace Go.Proofs.YtcoaokdoecgcbaaGreatDoor.Hx
open Un
variable{K:V->Prop}{F:Nat->Prop}{X:Option V}{h:Hp}{F':Nat->Prop}{A B:Prop}{a:List V}{T:Nat}{b:Int}{t:Nat}{v:V}{f:Nat}{u:U}{vb vs vv:V}{C:mw}{h':Hp}
def eZ:ue Int where
 sz:=1
 rel _ _ n cs:=cs=[.I n]
 len h:=by simp_all
 one h:=by subst h;rfl
 fm _ h:=h
 mono _ h:=h
def eW:ue (Nat×Nat) where
 sz:=2
 rel _ _ x cs:=cs=[.I (x.1:Nat),.I (x.2:Nat)]
 len h:=by simp_all
 one h:=by subst h;rfl
 fm _ h:=h
 mono _ h:=h
structure Ff (F:Nat->Prop) (h:Hp) (u:U) (vv vb vs:V):Prop where
 v:iD eV F h u.ee vv
 b:iD eK F h u.blocks vb
 s:iD eT F h u.ez vs
theorem Ff.fm(c:∀l,F l->h'.get l=h.get l)(a:Ff F h u vv vb vs):Ff F h' u vv vb vs:=⟨a.v.fm c,a.b.fm c,a.s.fm c⟩
theorem Ff.mono(c:∀l,F l->F' l)(a:Ff F h u vv vb vs):Ff F' h u vv vb vs:=⟨a.v.mono c,a.b.mono c,a.s.mono c⟩
theorem Ff.one(a:Ff F h u vv vb vs):gj (uC u vv vb vs)=true:=by simp only[uC,fh,a.v.one,a.b.one,a.s.one];rfl
theorem iD.since{α:Type}{E:ue α}{xs:List α}(hs:iD E F h xs v)(s:Sn F h F' h'):iD E F' h' xs v:=(hs.fm s.fm).mono s.mono
theorem Ff.since(a:Ff F h u vv vb vs)(s:Sn F h F' h'):Ff F' h' u vv vb vs:=(a.fm s.fm).mono s.mono
section
variable{F F':Nat->Prop}{h h':Hp}{cs:List Pc}{Q:fo}{u:U}{vv vb vs:V}
structure zgA (h:Hp) (l o:Nat) (x:Vl) (w:V):Prop where
 op:eD (.ptr l (o+0)) h=some (.I x.op)
 a:eD (.ptr l (o+1)) h=some (.I x.a)
 b:eD (.ptr l (o+2)) h=some (.I x.b)
 n:eD (.ptr l (o+3)) h=some (.I x.n)
 args:eD (.ptr l (o+4)) h=some w
 st:eD (.ptr l (o+5)) h=some (.I x.state)
structure zfr (h:Hp) (l o:Nat) (x:Bk) (v n p:V):Prop where
 ee:eD (.ptr l (o+0)) h=some v
 fin:eD (.ptr l (o+1)) h=some (.I x.fin)
 cond:eD (.ptr l (o+2)) h=some (.I x.cond)
 next:eD (.ptr l (o+3)) h=some n
 fj:eD (.ptr l (o+4)) h=some p
 st:eD (.ptr l (o+5)) h=some (.I x.state)
theorem Ff.val(a:Ff F h u vv vb vs){i:Nat}{x:Vl}(c:u.ee[i]? =some x) :
  ∃l o w,F l/\gQ 6 vv (.I i)=some (.ptr l o)/\gi 6 (.ptr l o) h=some (.agg (ym x w))/\iD eN F h x.args w/\zgA h l o x w:=by
 obtain⟨hi,rfl⟩:=j6.1 c;obtain⟨l,o,w,d,e,f,⟨a,rfl,g⟩,b⟩:=a.v.ix hi .i64;exact⟨l,o,a,d,e,f,g,⟨b 0 _ rfl,b 1 _ rfl,b 2 _ rfl,b 3 _ rfl,b 4 _ rfl,b 5 _ rfl⟩⟩
theorem Ff.Bt(a:Ff F h u vv vb vs){i:Nat}{x:Bk}(d:u.blocks[i]? =some x) :
  ∃l o v n p,F l/\gQ 6 vb (.I i)=some (.ptr l o)/\gi 6 (.ptr l o) h=some (.agg (pY x v n p))/\iD eN F h x.ee v/\iD eN F h x.next n/\iD eN F h x.fj p/\zfr h l o x v n p:=by
 obtain⟨hi,rfl⟩:=j6.1 d;obtain⟨l,o,w,e,f,g,⟨v,n,p,rfl,j,k,m⟩,c⟩:=a.b.ix hi .i64;exact⟨l,o,v,n,p,e,f,g,j,k,m,⟨c 0 _ rfl,c 1 _ rfl,c 2 _ rfl,c 3 _ rfl,c 4 _ rfl,c 5 _ rfl⟩⟩
theorem Ff.st(a:Ff F h u vv vb vs){i:Nat}{x:List Fm}(b:u.ez[i]? =some x) :
  ∃l o f,F l/\gQ 1 vs (.I i)=some (.ptr l o)/\gi 1 (.ptr l o) h=some (.agg [f])/\eD (.ptr l o) h=some f/\iD eF F h x f:=by
 obtain⟨hi,rfl⟩:=j6.1 b;obtain⟨l,o,w,c,d,e,⟨f,rfl,g⟩,j⟩:=a.s.ix hi .i64;exact⟨l,o,f,c,d,e,j 0 f rfl,g⟩
theorem iD.qO{fs:List Fm}{f:V}(a:iD eF F h fs f){i:Nat}{x:Fm}(c:fs[i]? =some x) :
  ∃l o a b,F l/\gQ 4 f (.I i)=some (.ptr l o)/\gi 4 (.ptr l o) h=some (.agg (fmC x a b))/\iD eN F h x.locals a/\iD eN F h x.stack b:=by
 obtain⟨hi,rfl⟩:=j6.1 c;obtain⟨l,o,w,d,e,g,⟨a,b,rfl,j,k⟩,_⟩:=a.ix hi .i64;exact⟨l,o,a,b,d,e,g,j,k⟩
theorem iD.nat{xs:List Nat}(a:iD eN F h xs v){i x:Nat}(c:xs[i]? =some x)(b:IntKind):∃l o,F l/\gQ 1 v (.int b (i:Nat))=some (.ptr l o)/\eD (.ptr l o) h=some (.I x):=by
 obtain⟨hi,rfl⟩:=j6.1 c
 let⟨l,o,w,e,f,g,d⟩:=a.Yk hi b rfl
 obtain rfl:w = .I (xs[i]:Nat):=by
  have:[w]=[V.I (xs[i]:Nat)]:=d
  simp_all
 grind
theorem iD.int{xs:List Int}(a:iD eZ F h xs v){i:Nat}{x:Int}(c:xs[i]? =some x)(b:IntKind):∃l o,F l/\gQ 1 v (.int b (i:Nat))=some (.ptr l o)/\eD (.ptr l o) h=some (.I x):=by
 obtain⟨hi,rfl⟩:=j6.1 c
 let⟨l,o,w,e,f,g,d⟩:=a.Yk hi b rfl
 obtain rfl:w = .I xs[i]:=by
  have:[w]=[V.I xs[i]]:=d
  simp_all
 grind
theorem iD.bool{xs:List Bool}(a:iD eB F h xs v){i:Nat}{x:Bool}(c:xs[i]? =some x)(b:IntKind):∃l o,F l/\gQ 1 v (.int b (i:Nat))=some (.ptr l o)/\eD (.ptr l o) h=some (.bool x):=by
 obtain⟨hi,rfl⟩:=j6.1 c
 let⟨l,o,w,e,f,g,d⟩:=a.Yk hi b rfl
 obtain rfl:w = .bool xs[i]:=by
  have:[w]=[V.bool xs[i]]:=d
  simp_all
 grind
theorem iD.list{α:Type}{E:ue α}{xs:List (List α)}(a:iD (eL E) F h xs v){i:Nat}{x:List α}(c:xs[i]? =some x)(b:IntKind):∃l o w,F l/\gQ 1 v (.int b (i:Nat))=some (.ptr l o)/\eD (.ptr l o) h=some w/\iD E F h x w:=by
 obtain⟨hi,rfl⟩:=j6.1 c
 let⟨l,o,w,d,e,g,f,j,k⟩:=a.Yk hi b rfl
 grind
theorem Eo{k:IntKind}{a:Int}(h:if a=b then B else A):oP (eh .neq t (.int k a) (.int k b)) λv=>bP v A B:=by
 simp_all
theorem zf0{k:IntKind}{a:Int}(h:if a<=b then A else B):oP (eh .leq t (.int k a) (.int k b)) λv=>bP v A B:=by
 simp_all
theorem LG{k:IntKind}{a:Int}(h:if b<=a then A else B):oP (eh .geq t (.int k a) (.int k b)) λv=>bP v A B:=by
 simp_all
theorem ieq(a b:Nat):((a:Int) == (b:Int))=(a == b):=by
 grind
theorem fK{k:IntKind}{a:Int}(h:K (.bool (decide (a=b)))):oP (eh .eql t (.int k a) (.int k b)) K:=by
 rw[hZ]
 grind[oP]
def B9(op:Nat):Nat:=if two op=true then 2 else if tZ op=true then 1 else 0
theorem zak{op:Nat}(H:Q (.I (B9 op:Nat)) h):cP CS HH [.I op] h Q:=by
 refine Vm ?_;have m:∀b,(b=true->tZ op=true/\two op≠true)->(b=false->tZ op≠true/\two op≠true)->iO Q (.bool b) h:=by
  intro b t u;refine P9 ?_;unfold AT;rw[mh];unfold B9 at H
  cases b with
  |true=>simp_all
  |false=>simp_all
 have a:∀b,b=two op->ie Q (.I op) (.bool b) h:=by
  intro b o;refine P1 ?_;unfold Bd;rw[mh]
  cases b with
  |true=>simp_all[B9,if_pos]
  | false=>
    have l:two op≠true:=by rw[<-o];simp
    rw[if_neg (by simp)];refine fK ?_;rw[mh];split
    ·grind[iO,Un.tZ]
    rename_i e1;refine fK ?_;rw[mh];split
    ·grind[iO,Un.tZ]
    rename_i e2;refine fK ?_;rw[mh];split
    ·grind[iO,Un.tZ]
    rename_i d;refine fK ?_;rw[mh];split
    ·grind[iO,Un.tZ]
    rename_i f;refine fK ?_;rw[mh];split
    ·grind[iO,Un.tZ]
    rename_i g;refine fK ?_;simp at e1 e2 d f g;refine m _ (λe=>⟨?_,l⟩) λe=>⟨?_,l⟩
    ·grind[B9,Un.tZ]
    ·have e:=of_decide_eq_false e
     intro hq;unfold tZ at hq
     grind
 have c:∀n:Nat,(op:Int)=n->(two n=true)->two op=true:=by grind
 refine fK ?_;rw[mh];split
 ·rename_i e;exact a _ (e.trans (c 3 (by simp_all) rfl).symm)
 rename_i e1;refine fK ?_;rw[mh];split
 ·rename_i e;exact a _ (e.trans (c 4 (by simp_all) rfl).symm)
 rename_i e2;refine fK ?_;rw[mh];split
 ·rename_i e;exact a _ (e.trans (c 5 (by simp_all) rfl).symm)
 rename_i d;refine fK ?_;rw[mh];split
 ·rename_i e;exact a _ (e.trans (c 6 (by simp_all) rfl).symm)
 rename_i f;refine fK ?_;rw[mh];split
 ·rename_i e;exact a _ (e.trans (c 7 (by simp_all) rfl).symm)
 rename_i g;refine fK ?_;rw[mh];split
 ·rename_i e;exact a _ (e.trans (c 10 (by simp_all) rfl).symm)
 rename_i p;refine fK ?_;rw[mh];split
 ·rename_i e;exact a _ (e.trans (c 11 (by simp_all) rfl).symm)
 rename_i q;refine fK ?_;rw[mh];split
 ·rename_i e;exact a _ (e.trans (c 12 (by simp_all) rfl).symm)
 rename_i r;refine fK ?_;rw[mh];split
 ·rename_i e;exact a _ (e.trans (c 13 (by simp_all) rfl).symm)
 rename_i s;refine fK ?_;rw[mh];split
 ·rename_i e;exact a _ (e.trans (c 14 (by simp_all) rfl).symm)
 rename_i i;refine fK ?_;rw[mh];split
 ·rename_i e;exact a _ (e.trans (c 18 (by simp_all) rfl).symm)
 rename_i j;refine fK ?_;rw[mh];split
 ·rename_i e;exact a _ (e.trans (c 19 (by simp_all) rfl).symm)
 rename_i k;refine fK (a _ ?_);simp at e1 e2 d f g p q r s i j k;rw[VC];unfold two
 grind
theorem RD{op:Nat}(H:Q (.bool (leaves op)) h):cP CS Ac [.I op] h Q:=by
 refine S7 ?_
 grind[L7,leaves,ieq,hZ,gz,fe,jB]
theorem A7{a b:Nat}(H:Q (.bool (decide (a<b))) h):cP CS mM [.I a,.I b] h Q:=by
 refine Ud ?_
 grind[Nz,jt,gz,fe,gX,jU,decide,Int,CS]
theorem zaq{xs:List Nat}{a b:V}(c:iD eN F h xs a)(d:iD eN F h xs b)(hl:xs.length<1000000000)(H:Q (.bool true) h):cP CS qw [a,b] h Q:=by
 refine Fu ?_;refine ec c.len (ec d.len (Eo (fX rfl (ec c.len ?_))));refine Bz (λk e f g j h'=>∃i,e=a/\f=b/\g = .I xs.length/\j = .I (i:Nat)/\i+k=xs.length/\h' = h) ?_ (k:=xs.length) (by simp_all);rintro k e f g j h' ⟨i,rfl,rfl,rfl,rfl,r,rfl⟩;unfold nI;by_cases hi:i<xs.length
 ·refine gJ ?_
  let⟨l,o,_,m,n⟩:=c.nat (hN hi) .i64
  let⟨l',o',_,p,q⟩:=d.nat (hN hi) .i64
  refine ec m (ec n (ec p (ec q (Eo (fX rfl ?_)))));exact fT ⟨k-1,by omega,i+1,rfl,rfl,rfl,rfl,by omega,rfl⟩
 ·exact iY H
theorem Om(x:Vl):jq x=([x.a,x.b].take (B9 x.op))++(if x.op=20 then x.args.take 1 else if x.op=21 then x.args else[]):=by
 unfold jq B9;by_cases c:x.op=21
 ·grind[two,tZ]
 ·rw[if_neg c];by_cases d:x.op=20
  ·grind[two]
  grind
theorem PS{x:Vl}(hl:x.op=21\/x.op=20->x.args.length<=700):(jq x).length<=1000:=by
 rw[Om]
 grind
theorem Sh(R:ej F h cs){x:Vl}{c:V}(O:iD eN F h x.args c)(hl:x.op=21\/x.op=20->x.args.length<=1000000)(H:∀F' h' v,Sn F h F' h'->ej F' h' cs->iD eN F' h' (jq x) v->Q v h'):cP CS A9 [.agg (ym x c)] h Q:=by
 refine W8 ?_;have S:gj (ym x c)=true:=by simp only[ym,fh,O.one];rfl
 rw[Lm S,fH];obtain⟨C,s1⟩:=R.Dy Bg (ym x c);have n1:(h.new (.cells 81 1 true false (ym x c))).next=h.next+1:=rfl;have C:ej F (h.new (.cells 81 1 true false (ym x c))) (fi h.next Bg (ym x c)::cs):=C;have s1:Sn F h F (h.new (.cells 81 1 true false (ym x c))):=s1;generalize h.new (.cells 81 1 true false (ym x c))=d at*;rw[Ej,gU];obtain⟨s,D⟩:=C.SM (E:=eN) (xs:=[]) (ws:=[]) (n:=0) fJ rfl trivial rfl;have s:ej F (d.new (.cells 3 1 true false [])) (fu eN fJ [] (.slice d.next 0 0)::fi h.next Bg (ym x c)::cs):=s;have D:Sn F d F (d.new (.cells 3 1 true false [])):=D;have g2:(d.new (.cells 3 1 true false [])).get d.next=some (.cells 3 1 true false []):=eQ _ _;have n2:(d.new (.cells 3 1 true false [])).next=d.next+1:=rfl;generalize d.new (.cells 3 1 true false [])=i at*;refine ec (by rfl) (ec (s.ld 1 rfl rfl) (ec (by rfl) (ec (s.ld 1 rfl rfl) ?_)));rw[nx2,gU];obtain⟨j,G⟩:=s.SM (E:=eN) (xs:=[x.a,x.b]) (ws:=oJ [x.a,x.b]) (n:=2) fJ rfl (AV _ _ _) (PT _);have j:ej F (i.new (.cells 3 1 true false (oJ [x.a,x.b]))) (fu eN fJ [x.a,x.b] (.slice i.next 0 2)::fu eN fJ [] (.slice d.next 0 0)::fi h.next Bg (ym x c)::cs):=j;have G:Sn F i F (i.new (.cells 3 1 true false (oJ [x.a,x.b]))):=G;have g3:(i.new (.cells 3 1 true false (oJ [x.a,x.b]))).get i.next=some (.cells 3 1 true false (oJ [x.a,x.b])):=eQ _ _;have T:(i.new (.cells 3 1 true false (oJ [x.a,x.b]))).get d.next=some (.cells 3 1 true false []):=by grind[eE,trans]
 generalize i.new (.cells 3 1 true false (oJ [x.a,x.b]))=U at*;refine ec (by rfl) (ec (j.ld 2 rfl rfl) ⟨by simp_all,j.ld 2 rfl rfl,j.ld 2 rfl rfl,by simp_all,?_⟩);refine zak ⟨jj _,?_⟩;have hp:B9 x.op<=2:=by
  unfold B9;split
  ·omega
  ·grind
 obtain⟨t,I,P⟩:=j.ze1 0 rfl (n:=B9 x.op) hp;refine ec I ⟨by simp_all,j.ld 2 rfl rfl,j.ld 2 rfl rfl,by simp_all,?_⟩;simp only[CW]at P;obtain⟨g,r,J,W,k,X⟩:=P.zeJ 1 0 rfl rfl (jh:=8) (by decide) (by decide) (by simp;omega);have u:fg 3 1 8 (.slice d.next 0 0) t U=some (.val g r):=J;rw[u,ef];refine⟨W,?_⟩;simp only[Mc,CW,QX]at k;have w:=((s1.trans D).trans G).trans X;have o:iD eN F r x.args c:=(O.fm w.fm)
 have p:∀(F':Nat->Prop) (h':Hp) (v:V) (l:List Nat),Sn F r F' h'->ej F' h' (fu eN fJ ([x.a,x.b].take (B9 x.op)) t::fu eN fJ l v::fi h.next Bg (ym x c)::cs)->l=jq x->uE Q v h':=by
  intro F' h' v l Y Z K;subst K;refine QC ?_;unfold Cd;obtain⟨y,z,r6⟩:=Z.jG 1 rfl;exact H _ _ v ((w.trans Y).trans z) y.tail.tail.tail r6
 refine ec (by rfl) (ec (k.ld 2 rfl rfl) ?_);by_cases L:x.op=20
 ·have hl:=by omega
  refine fD (fX (by omega) ?_);refine ec (by rfl) (ec (k.ld 2 rfl rfl) (ec (by rfl) (ec (k.ld 2 rfl rfl) (ec o.len (ec (TZ _ _ _ _) ?_)))));have em:(if false=true then max (1:Int) (x.args.length:Nat) else min (1:Int) (x.args.length:Nat))=((min 1 x.args.length:Nat):Int):=by simp;omega
  rw[em];obtain⟨M,N,A⟩:=o.cut (lo:=none) (hi:=some (.I ((min 1 x.args.length:Nat):Int))) (m:=0) (n:=min 1 x.args.length) rfl (by rfl) (L9 _) (by omega);refine ec N ?_;rw[wBU]at A;obtain⟨e,B,q,n6,y,z⟩:=k.V2 1 rfl (jh:=8) A (by decide) (by decide) (by simp;omega);have f:fg 3 1 8 g M r=some (.val e B):=q;rw[f,ef];refine p F B e _ z y ?_;rw[Om,if_pos L]
  simp_all
 refine fD (fN (by omega) ?_);by_cases aa:x.op=21
 ·have hl:=by omega
  refine fD (fX (by omega) ?_);refine ec (by rfl) (ec (k.ld 2 rfl rfl) ?_);obtain⟨e,B,q,n6,y,z⟩:=k.V2 1 rfl (jh:=8) o (by decide) (by decide) (by simp;omega);have f:fg 3 1 8 g c r=some (.val e B):=q;rw[f,ef];refine p F B e _ z y ?_
  simp_all[Om,if_neg,if_pos]
 ·refine fD (fN (by omega) ?_);refine p F r g _ (Sn.refl _ _) k ?_
  simp_all[Om,if_neg,GA]
theorem pf{l o k:Nat}:fV k (.ptr l o)=some (.ptr l (o+k)):=fx _ _ _
theorem pn{l o:Nat}:fR (.ptr l o)=some (.ptr l o):=eC _ _
theorem bq{e sz:Nat}{a b:Bool}{cs:List V}:O.beq (.cells e sz a b cs) (.cells e sz a b cs)=true:=O.jT _ _ _ _ _
theorem gR(h:oP X K):oP (iE false (.bool false)) λb=>oP (gV b X) K:=h
theorem j7(h:oP X K):oP (iE true (.bool true)) λb=>oP (gV b X) K:=h
theorem sy(h:K .undef):oP (iE true (.bool false)) λb=>oP (gV b X) K:=h
theorem BP(h:K .undef):oP (iE false (.bool true)) λb=>oP (gV b X) K:=h
theorem xu{K:fo}(H:cP C f a h K):oP (iE false (.bool false)) λb=>oP (gC b (some (f,a))) λy=>Gn C y h K:=H
theorem OP{K:fo}(H:cP C f a h K):oP (iE true (.bool true)) λb=>oP (gC b (some (f,a))) λy=>Gn C y h K:=H
theorem zaD{K:fo}(H:K .undef h):oP (iE true (.bool false)) λb=>oP (gC b (some (f,a))) λy=>Gn C y h K:=H
theorem qS{b:Bool}(h:if b=true then B else A):oP (za .not (.bool b)) λv=>bP v A B:=by
 cases b <;> exact h
theorem Tt(a:X=some (.bool false))(H:K (.bool false)):oP (nr (.bool false) X) K:=by simp_all
theorem Xz{b:Bool}(h:K (.bool (!b))):oP (za .not (.bool b)) K:=h
end
section
variable{F F':Nat->Prop}{h h':Hp}{cs:List Pc}{Q:fo}{u:U}{vv vb vs:V}
theorem j5{n:Nat}{b ws:List V}{K:fo}(H:ej F h cs)(d:b.length=n)(e:ws.length=n)(c:gj ws=true)(f:∀a,ej F a (fi h.next T ws::cs)->Sn F h F a->K (.ptr h.next 0) a) :
  hV (some (O.cells T 1 true false b,λl=>V.ptr l 0)) h λv c=>eJ (gw n v (.agg ws) c) λ_ a=>K v a:=by
 rw[fH]
 let⟨g,s1⟩:=H.Dy T b
 let⟨a,e2,_,i,j⟩:=g.Wh 0 rfl e d c
 rw[e2,ef];exact f a i (s1.trans j)
theorem pz{ws:List V}{K:fo}(H:ej F h cs)(b:gj ws=true)(c:∀a,ej F a (fi h.next T ws::cs)->Sn F h F a->K (.ptr h.next 0) a):hV (mO T (.agg ws)) h K:=by
 rw[Lm b,fH]
 let⟨d,s1⟩:=H.Dy T ws
 exact c _ d s1
theorem zb4(xs:List Nat){b:Option (O×(Nat->V))}(c:b=some (O.cells T 1 true false (oJ xs),λl=> .slice l 0 xs.length)){K:fo}(H:ej F h cs)
  (d:∀F' a v,ej F' a cs->Sn F h F' a->iD eN F' a xs v->K v a):hV b h K:=by
 subst c;rw[fH]
 let⟨e,s1,r1⟩:=H.zdy T rfl (AV F h xs) false
 exact d _ _ _ e s1 r1
theorem FG(x:Nat):iW T 1 1 (V.I 0) [(0,V.I x)]=some (.cells T 1 true false (oJ [x]),λl=> .slice l 0 1):=rfl
structure Ck (F:Nat->Prop) (h:Hp) (cs:List Pc) (lc:Nat) (u:U) (vv vb vs bl pl GQ:V):Prop where
 H:ej F h cs
 c:∃(i ty:Nat),cs[i]? =some (fi lc ty [.I u.func,.I u.pc,vv,vb,vs,bl,pl,GQ])
 u:Ff F h u vv vb vs
variable{lc:Nat}{bl pl GQ:V}
theorem Ck.since(C:Ck F h cs lc u vv vb vs bl pl GQ)(s:Sn F h F' h')(a:ej F' h' cs):Ck F' h' cs lc u vv vb vs bl pl GQ:=⟨a,C.c,C.u.since s⟩
theorem Ck.cons(C:Ck F h cs lc u vv vb vs bl pl GQ)(s:Sn F h F' h'){p:Pc} (a:ej F' h' (p::cs)):Ck F' h' (p::cs) lc u vv vb vs bl pl GQ:=
 ⟨a,let⟨i,ty,hc⟩:=C.c;⟨i+1,ty,hc⟩,C.u.since s⟩
theorem Ck.ld(C:Ck F h cs lc u vv vb vs bl pl GQ)(o:Nat){y:V}(a:[.I u.func,.I u.pc,vv,vb,vs,bl,pl,GQ][o]? =some y):eD (.ptr lc o) h=some y:=
 let⟨i,_,hc⟩:=C.c;C.H.ld i hc a
theorem PI{l c:V}{n:Nat}(m:n<1000000)(P:(Nat->Prop)->Hp->Prop)(h0:P F h)
  (step:∀i,i<n->∀F' h',P F' h'->∀e,(∀a b,P a b->e (.bool true) b)->gO CS (gg c [.I (i:Nat)]) h' e) (H:∀F' h',P F' h'->Q (.bool true) h') :
  cP CS kR [l,.I n,c] h Q:=by
 refine K9 ?_;refine GG (λk f g j h'=>∃F' i,f = .I n/\g=c/\j = .I (i:Nat)/\i+k=n/\P F' h') ?_ (k:=n) ⟨F,0,rfl,rfl,rfl,by omega,h0⟩;rintro k f g j h' ⟨F',i,rfl,rfl,rfl,o,hp⟩;unfold rT;by_cases hi:i<n
 ·refine gJ ?_;refine step i hi F' h' hp _ λa b d=>?_;refine qS (fX rfl ?_);exact fT ⟨k-1,by omega,a,i+1,rfl,rfl,rfl,by omega,d⟩
 ·exact iY (H F' h' hp)
theorem LI(C:Ck F h cs lc u vv vb vs bl pl GQ){l:List Nat}{v:V}(hl:iD eN F h l v)(p:l.length<1000000)(f:∀w∈l,nD u w)(H:Q (.bool true) h):cP CS kU [.ptr lc 0,v] h Q:=by
 refine Jh ?_;refine ec hl.len ?_;refine EI (λk b c d e h'=>∃i,b = .ptr lc 0/\c=v/\d = .I l.length/\e = .I (i:Nat)/\i+k=l.length/\h' = h) ?_ (k:=l.length) ⟨0,rfl,rfl,rfl,rfl,by omega,rfl⟩;rintro k b c d e h' ⟨i,rfl,rfl,rfl,rfl,q,rfl⟩;unfold qB;by_cases hi:i<l.length
 ·refine gJ ?_
  let⟨r,s,_,g,j⟩:=hl.nat (hN hi) .i64
  let⟨x,hx,gx⟩:=f _ (AQ hi)
  have a:=(j6.1 hx).1;refine ec g (ec j (ec (eC _ _) (ec (fx _ _ _) (oF (C.ld 2 rfl) (ec C.u.v.len ?_)))));refine A7 (qS (fX (by simpa using a) ?_))
  let⟨t,o2,w2,_,m,_,_,n⟩:=C.u.val hx
  refine ec (eC _ _) (ec (fx _ _ _) (oF (C.ld 2 rfl) (ec m (oF n.op ?_))));have o:x.op<19\/x.op=21:=by
   unfold FP at gx;simpa using gx
  refine fK (gf (fN (by simp;omega) ?_));refine fK (gf (fN (by simp;omega) ?_));refine fK (gf (fN (by simp;omega) ?_));refine fK ?_;rw[JH (by omega)];refine Ef ?_;unfold pT;refine gf (fN (by simp) ?_);exact fT ⟨k-1,by omega,i+1,rfl,rfl,rfl,rfl,by omega,rfl⟩
 ·exact iY H
theorem zbx(C:Ck F h cs lc u vv vb vs bl pl GQ){i:Nat}{fs:List Fm}(hs:u.ez[i]? =some fs)(D:1<=fs.length/\fs.length<=30)(t:∀f∈fs,f.locals.length<=40/\f.stack.length<=60/\(∀v∈f.locals,nD u v)/\∀v∈f.stack,nD u v)
  (H:∀h',Sn F h F h'->ej F h' cs->Q (.bool true) h'):cP CS pe [.ptr lc 0,.I i] h Q:=by
 refine Ju ?_
 let⟨E,G,f,_,w,x,_,p⟩:=C.u.st hs
 refine ec (eC _ _) (ec (fx _ _ _) (oF (C.ld 4 rfl) (ec w (ec x ?_))));refine j5 C.H rfl rfl (by simp[p.one]) λI n q=>?_;have r2:=p.since q;refine oF (n.ld 0 rfl rfl) (ec r2.len (fK ?_));rw[JH (by omega),qN,fx,fe,n.ld 0 rfl rfl,fe,r2.len,fe,iT];refine ec rfl (gf (fN (by simp;omega) ?_));refine oF (n.ld 0 rfl rfl) (ec r2.len ?_);have C2:=C.since q n.tail
 refine Fe (λk s c d e h'=>∃j,s = .ptr lc 0/\c=f/\d = .I fs.length/\e = .I (j:Nat)/\j+k=fs.length/\Sn F h F h'/\Ck F h' cs lc u vv vb vs bl pl GQ) ?_ (k:=fs.length)
  ⟨0,rfl,rfl,rfl,rfl,by omega,q,C2⟩
 rintro k s c d e h' ⟨j,rfl,rfl,rfl,rfl,J,s',r⟩;unfold qC;by_cases hj:j<fs.length
 ·refine gJ ?_
  let⟨K,L,a,b,_,y,z,g,l⟩:=(p.since s').qO (hN hj)
  refine ec y (ec z ?_)
  let⟨M,N,A,B⟩:=t _ (AQ hj)
  refine j5 r.H rfl rfl (by simp only[fmC,fh,g.one,l.one];rfl) λO m o=>?_;have g:=g.since o;have l:=l.since o;have C3:=r.since o m.tail;refine oF (m.ld 0 rfl rfl) (ec g.len ?_);refine ec (iT _ _ _ _) ?_;rw[JH (by omega),qN,fx,fe,m.ld 0 rfl rfl,fe,l.len,fe,iT,JH (by omega)];refine ec rfl (gR (ec rfl (gR (ec (fx _ _ _) (gR (ec (m.ld 0 rfl rfl) (xu ?_)))))));refine LI C3 g (by omega) A (ec rfl (gR (ec rfl (gR (ec (fx _ _ _) (gR (ec (m.ld 0 rfl rfl) (xu ?_))))))));refine LI C3 l (by omega) B (ec rfl (gf (fN (by simp) ?_)));exact fT ⟨k-1,by omega,j+1,rfl,rfl,rfl,rfl,by omega,s'.trans o,C3⟩
 ·exact iY (H h' s' r.H)
end
