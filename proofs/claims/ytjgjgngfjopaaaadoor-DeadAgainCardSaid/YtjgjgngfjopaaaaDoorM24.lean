/- Parts. -/
import Derived.Test.YtjgjgngfjopaaaaDoorM23
import Derived.Test.YtjgjgngfjopaaaaDoorM16
namespace Go.Proofs.YtjgjgngfjopaaaaDoor.Hx
open Un
def eZ:qA Int where
 sz:=1
 rel _ _ n cs:=cs=[.I n]
 len h:=by subst h;rfl
 one h:=by subst h;rfl
 fk _ h:=h
 mono _ h:=h
def eW:qA (Nat×Nat) where
 sz:=2
 rel _ _ x cs:=cs=[.I (x.1:Nat),.I (x.2:Nat)]
 len h:=by subst h;rfl
 one h:=by subst h;rfl
 fk _ h:=h
 mono _ h:=h
structure A0 (F:Nat->Prop) (h:Hp) (u:U) (vv vb vs:V):Prop where
 v:iC eV F h u.ef vv
 b:iC eK F h u.blocks vb
 s:iC eT F h u.eh vs
theorem A0.fk{F:Nat->Prop}{h h':Hp}{u:U}{vv vb vs:V}(c:∀l,F l->h'.get l=h.get l)(a:A0 F h u vv vb vs):A0 F h' u vv vb vs:=⟨a.v.fk c,a.b.fk c,a.s.fk c⟩
theorem A0.mono{F F':Nat->Prop}{h:Hp}{u:U}{vv vb vs:V}(c:∀l,F l->F' l)(a:A0 F h u vv vb vs):A0 F' h u vv vb vs:=⟨a.v.mono c,a.b.mono c,a.s.mono c⟩
theorem A0.one{F:Nat->Prop}{h:Hp}{u:U}{vv vb vs:V}(a:A0 F h u vv vb vs):gv (uC u vv vb vs)=true:=by simp only[uC,eQ,a.v.one,a.b.one,a.s.one];rfl
theorem iC.since{α:Type}{E:qA α}{F F':Nat->Prop}{h h':Hp}{xs:List α}{v:V}(hs:iC E F h xs v)(s:Sn F h F' h'):iC E F' h' xs v:=(hs.fk s.fk).mono s.mono
theorem A0.since{F F':Nat->Prop}{h h':Hp}{u:U}{vv vb vs:V}(a:A0 F h u vv vb vs)(s:Sn F h F' h'):A0 F' h' u vv vb vs:=(a.fk s.fk).mono s.mono
section
variable{F F':Nat->Prop}{h h':Hp}{cs:List Pc}{Q:fy}{u:U}{vv vb vs:V}
structure zdJ (h:Hp) (l o:Nat) (x:Vl) (w:V):Prop where
 op:ez (.ptr l (o+0)) h=some (.I x.op)
 a:ez (.ptr l (o+1)) h=some (.I x.a)
 b:ez (.ptr l (o+2)) h=some (.I x.b)
 n:ez (.ptr l (o+3)) h=some (.I x.n)
 args:ez (.ptr l (o+4)) h=some w
 st:ez (.ptr l (o+5)) h=some (.I x.state)
structure zcU (h:Hp) (l o:Nat) (x:Bk) (v n p:V):Prop where
 ef:ez (.ptr l (o+0)) h=some v
 fin:ez (.ptr l (o+1)) h=some (.I x.fin)
 cond:ez (.ptr l (o+2)) h=some (.I x.cond)
 next:ez (.ptr l (o+3)) h=some n
 fg:ez (.ptr l (o+4)) h=some p
 st:ez (.ptr l (o+5)) h=some (.I x.state)
theorem A0.val(a:A0 F h u vv vb vs){i:Nat}{x:Vl}(c:u.ef[i]? =some x) :
  ∃l o w,F l/\gD 6 vv (.I i)=some (.ptr l o)/\gg 6 (.ptr l o) h=some (.agg (mz x w))/\iC eN F h x.args w/\zdJ h l o x w:=by
 obtain⟨hi,rfl⟩:=iR.1 c;obtain⟨l,o,w,d,e,f,⟨a,rfl,g⟩,b⟩:=a.v.ix hi .i64;exact⟨l,o,a,d,e,f,g,⟨b 0 _ rfl,b 1 _ rfl,b 2 _ rfl,b 3 _ rfl,b 4 _ rfl,b 5 _ rfl⟩⟩
theorem A0.nW(a:A0 F h u vv vb vs){i:Nat}{x:Bk}(d:u.blocks[i]? =some x) :
  ∃l o v n p,F l/\gD 6 vb (.I i)=some (.ptr l o)/\gg 6 (.ptr l o) h=some (.agg (kr x v n p))/\iC eN F h x.ef v/\iC eN F h x.next n/\iC eN F h x.fg p/\zcU h l o x v n p:=by
 obtain⟨hi,rfl⟩:=iR.1 d;obtain⟨l,o,w,e,f,g,⟨v,n,p,rfl,j,k,m⟩,c⟩:=a.b.ix hi .i64;exact⟨l,o,v,n,p,e,f,g,j,k,m,⟨c 0 _ rfl,c 1 _ rfl,c 2 _ rfl,c 3 _ rfl,c 4 _ rfl,c 5 _ rfl⟩⟩
theorem A0.st(a:A0 F h u vv vb vs){i:Nat}{x:List Fm}(b:u.eh[i]? =some x) :
  ∃l o f,F l/\gD 1 vs (.I i)=some (.ptr l o)/\gg 1 (.ptr l o) h=some (.agg [f])/\ez (.ptr l o) h=some f/\iC eF F h x f:=by
 obtain⟨hi,rfl⟩:=iR.1 b;obtain⟨l,o,w,c,d,e,⟨f,rfl,g⟩,j⟩:=a.s.ix hi .i64;exact⟨l,o,f,c,d,e,j 0 f rfl,g⟩
theorem iC.oA{fs:List Fm}{f:V}(a:iC eF F h fs f){i:Nat}{x:Fm}(c:fs[i]? =some x) :
  ∃l o a b,F l/\gD 4 f (.I i)=some (.ptr l o)/\gg 4 (.ptr l o) h=some (.agg (MH x a b))/\iC eN F h x.locals a/\iC eN F h x.stack b:=by
 obtain⟨hi,rfl⟩:=iR.1 c;obtain⟨l,o,w,d,e,g,⟨a,b,rfl,j,k⟩,_⟩:=a.ix hi .i64;exact⟨l,o,a,b,d,e,g,j,k⟩
theorem iC.nat{xs:List Nat}{v:V}(a:iC eN F h xs v){i x:Nat}(b:xs[i]? =some x)(kd:IntKind):∃l o,F l/\gD 1 v (.int kd (i:Nat))=some (.ptr l o)/\ez (.ptr l o) h=some (.I x):=by
 obtain ⟨hi,rfl⟩:=iR.1 b;obtain⟨l,o,w,c,d,e,f⟩:=a.Tz hi kd rfl;obtain rfl:w = .I (xs[i]:Nat):=by
  have:[w]=[V.I (xs[i]:Nat)]:=f;simpa using this
 exact⟨l,o,c,d,e⟩
theorem iC.int{xs:List Int}{v:V}(a:iC eZ F h xs v){i:Nat}{x:Int}(b:xs[i]? =some x)(kd:IntKind):∃l o,F l/\gD 1 v (.int kd (i:Nat))=some (.ptr l o)/\ez (.ptr l o) h=some (.I x):=by
 obtain ⟨hi,rfl⟩:=iR.1 b;obtain⟨l,o,w,c,d,e,f⟩:=a.Tz hi kd rfl;obtain rfl:w = .I xs[i]:=by
  have:[w]=[V.I xs[i]]:=f;simpa using this
 exact⟨l,o,c,d,e⟩
theorem iC.bool{xs:List Bool}{v:V}(a:iC eB F h xs v){i:Nat}{x:Bool}(b:xs[i]? =some x)(kd:IntKind):∃l o,F l/\gD 1 v (.int kd (i:Nat))=some (.ptr l o)/\ez (.ptr l o) h=some (.bool x):=by
 obtain ⟨hi,rfl⟩:=iR.1 b;obtain⟨l,o,w,c,d,e,f⟩:=a.Tz hi kd rfl;obtain rfl:w = .bool xs[i]:=by
  have:[w]=[V.bool xs[i]]:=f;simpa using this
 exact⟨l,o,c,d,e⟩
theorem iC.list{α:Type}{E:qA α}{xs:List (List α)}{v:V}(a:iC (eL E) F h xs v){i:Nat}{x:List α}(b:xs[i]? =some x)(kd:IntKind):∃l o w,F l/\gD 1 v (.int kd (i:Nat))=some (.ptr l o)/\ez (.ptr l o) h=some w/\iC E F h x w:=by
 obtain⟨hi,rfl⟩:=iR.1 b;obtain⟨l,o,w,c,d,e,f,g,j⟩:=a.Tz hi kd rfl;obtain rfl:w=f:=by simpa using g
 exact⟨l,o,w,c,d,e,j⟩
theorem zN{t:Nat}{k:IntKind}{a b:Int}{A B:Prop}(h:if a=b then B else A):oP (eo .neq t (.int k a) (.int k b)) λv=>bP v A B:=by
 simp only[tu,gU,xV,X1];by_cases e:a=b
 ·rw[if_pos e]at h;rw[if_neg (λh=>h e)];exact h
 ·rw[if_neg e]at h;rw[if_pos e];exact h
theorem TN{t:Nat}{k:IntKind}{a b:Int}{A B:Prop}(h:if b<=a then A else B):oP (eo .geq t (.int k a) (.int k b)) λv=>bP v A B:=by
 simp only[mW,gU,xV,AW];exact h
theorem Vv(a b:Nat):((a:Int) == (b:Int))=(a == b):=by
 rw[Vw,z8,z8];omega
theorem hZ{t:Nat}{k:IntKind}{a b:Int}{K:V->Prop}(h:K (.bool (decide (a=b)))):oP (eo .eql t (.int k a) (.int k b)) K:=by
 rw[gQ];have:(a == b)=decide (a=b):=by by_cases e:a=b <;> simp[e]
 rw[this];exact h
def sQ(op:Nat):Nat:=if two op=true then 2 else if pg op=true then 1 else 0
theorem Mb{op:Nat}(H:Q (.I (sQ op:Nat)) h):cP CS uT [.I op] h Q:=by
 refine Qv rfl rfl ?_;unfold Kk;have r9:∀b:Bool,(b=true->pg op=true/\two op≠true)->(b=false->pg op≠true/\two op≠true)->lG CS Q (.bool b) h:=by
  intro b m o;refine Lt ?_;unfold E8;rw[ie];unfold sQ at H
  cases b with
  |true=>rw[if_neg (m rfl).2,if_pos (m rfl).1]at H;exact H
  |false=>rw[if_neg (o rfl).2,if_neg (o rfl).1]at H;exact H
 have r4:∀b:Bool,b=two op->iq CS Q (.I op) (.bool b) h:=by
  intro b p;refine Lo ?_;unfold EE;rw[ie]
  cases b with
  |true=>unfold sQ at H;rw[if_pos p.symm]at H;exact H
  | false=>
    have c:two op≠true:=by rw[<-p];simp
    rw[if_neg (by simp)];refine hZ ?_;rw[ie];split
    ·rename_i e;refine r9 _ (λ_=>⟨?_,c⟩) λh=>absurd (h.symm.trans e) (by simp)
     have:op=8:=by simp at e;omega
     subst this;rfl
    rename_i d;refine hZ ?_;rw[ie];split
    ·rename_i e;refine r9 _ (λ_=>⟨?_,c⟩) λh=>absurd (h.symm.trans e) (by simp)
     have:op=9:=by simp at e;omega
     subst this;rfl
    rename_i f;refine hZ ?_;rw[ie];split
    ·rename_i e;refine r9 _ (λ_=>⟨?_,c⟩) λh=>absurd (h.symm.trans e) (by simp)
     have:op=15:=by simp at e;omega
     subst this;rfl
    rename_i e3;refine hZ ?_;rw[ie];split
    ·rename_i e;refine r9 _ (λ_=>⟨?_,c⟩) λh=>absurd (h.symm.trans e) (by simp)
     have:op=16:=by simp at e;omega
     subst this;rfl
    rename_i g;refine hZ ?_;rw[ie];split
    ·rename_i e;refine r9 _ (λ_=>⟨?_,c⟩) λh=>absurd (h.symm.trans e) (by simp)
     have:op=17:=by simp at e;omega
     subst this;rfl
    rename_i i;refine hZ ?_;simp at d f e3 g i;refine r9 _ (λe=>⟨?_,c⟩) λe=>⟨?_,c⟩
    ·have:op=22:=by simp at e;omega
     subst this;rfl
    ·have e:=of_decide_eq_false e
     intro hq;unfold pg at hq;simp only[KM,z8]at hq;omega
 have a:∀n:Nat,(op:Int)=n->(two n=true)->two op=true:=λn e h=>by
  have:op=n:=by omega
  subst this;exact h
 refine hZ ?_;rw[ie];split
 ·rename_i e;exact r4 _ (e.trans (a 3 (by simpa using e) rfl).symm)
 rename_i d;refine hZ ?_;rw[ie];split
 ·rename_i e;exact r4 _ (e.trans (a 4 (by simpa using e) rfl).symm)
 rename_i f;refine hZ ?_;rw[ie];split
 ·rename_i e;exact r4 _ (e.trans (a 5 (by simpa using e) rfl).symm)
 rename_i e3;refine hZ ?_;rw[ie];split
 ·rename_i e;exact r4 _ (e.trans (a 6 (by simpa using e) rfl).symm)
 rename_i g;refine hZ ?_;rw[ie];split
 ·rename_i e;exact r4 _ (e.trans (a 7 (by simpa using e) rfl).symm)
 rename_i i;refine hZ ?_;rw[ie];split
 ·rename_i e;exact r4 _ (e.trans (a 10 (by simpa using e) rfl).symm)
 rename_i q;refine hZ ?_;rw[ie];split
 ·rename_i e;exact r4 _ (e.trans (a 11 (by simpa using e) rfl).symm)
 rename_i r;refine hZ ?_;rw[ie];split
 ·rename_i e;exact r4 _ (e.trans (a 12 (by simpa using e) rfl).symm)
 rename_i e8;refine hZ ?_;rw[ie];split
 ·rename_i e;exact r4 _ (e.trans (a 13 (by simpa using e) rfl).symm)
 rename_i s;refine hZ ?_;rw[ie];split
 ·rename_i e;exact r4 _ (e.trans (a 14 (by simpa using e) rfl).symm)
 rename_i j;refine hZ ?_;rw[ie];split
 ·rename_i e;exact r4 _ (e.trans (a 18 (by simpa using e) rfl).symm)
 rename_i k;refine hZ ?_;rw[ie];split
 ·rename_i e;exact r4 _ (e.trans (a 19 (by simpa using e) rfl).symm)
 rename_i l;refine hZ (r4 _ ?_);simp at d f e3 g i q r e8 s j k l;rw[Vw];unfold two;simp only[AW,KM,uZ,z8];omega
theorem J5{op:Nat}(H:Q (.bool (leaves op)) h):cP CS oO [.I op] h Q:=by
 refine Pf rfl rfl ?_;unfold Il;have e:leaves op=(((op:Int) == 22) ||((op:Int) == 23)):=by
  unfold leaves;rw[show((op:Int) == 22)=(op == 22) from Vv op 22,show((op:Int) == 23)=(op == 23) from Vv op 23]
 simp only[gQ,gU,fj,xQ];rw[<-e];exact H
theorem zy{a b:Nat}(H:Q (.bool (decide (a<b))) h):cP CS km [.I a,.I b] h Q:=by
 refine PB rfl rfl ?_;unfold Ke;simp only[mW,gU,fj,jD,jU];have e:(decide ((0:Int)<=(a:Nat))&&decide (((a:Nat):Int)<(b:Nat)))=decide (a<b):=by
  rw[Vw];simp only[uZ,AW];omega
 rw[e];exact H
theorem VV{xs:List Nat}{a b:V}(c:iC eN F h xs a)(d:iC eN F h xs b)(r:xs.length<1000000000)(H:Q (.bool true) h):cP CS mh [a,b] h Q:=by
 refine DQ rfl rfl ?_;unfold vJ;refine ed c.len (ed d.len (zN (gw rfl (ed c.len ?_))));refine Ao (λk e f g j h'=>∃i:Nat,e=a/\f=b/\g = .I xs.length/\j = .I (i:Nat)/\i+k=xs.length/\h' = h) ?_ (k:=xs.length) ⟨0,rfl,rfl,rfl,rfl,by omega,rfl⟩;rintro k e f g j h' ⟨i,rfl,rfl,rfl,rfl,s,rfl⟩;unfold rQ;by_cases hi:i<xs.length
 ·refine gG ?_;obtain⟨l,o,_,m,n⟩:=c.nat (gP hi) .i64;obtain⟨t,u,_,p,q⟩:=d.nat (gP hi) .i64;refine ed m (ed n (ed p (ed q (zN (gw rfl ?_)))));exact fN ⟨k-1,by omega,i+1,rfl,rfl,rfl,rfl,by omega,rfl⟩
 ·exact iI H
end
open Un
theorem zb8:∀{l:List Nat}(h:0<l.length),l.take 1=[l[0]]
 |y::l,_=>by simp
theorem KQ(x:Vl):je x=([x.a,x.b].take (sQ x.op))++(if x.op=20 then x.args.take 1 else if x.op=21 then x.args else[]):=by
 unfold je sQ;by_cases c:x.op=21
 ·rw[c];simp[two,pg]
 ·rw [if_neg c];by_cases d:x.op=20
  ·rw[d];simp[two]
  ·rw [if_neg d,if_neg d,if_neg c];by_cases e:two x.op=true
   ·simp[e]
   ·by_cases f:pg x.op=true
    ·simp[e,f]
    ·simp[e,f]
section
variable{F F':Nat->Prop}{h h':Hp}{cs:List Pc}{Q:fy}{u:U}{vv vb vs:V}
theorem Ij{x:Vl}(c:x.op=21\/x.op=20->x.args.length<=700):(je x).length<=1000:=by
 rw[KQ];by_cases b:x.op=20
 ·rw[if_pos b];simp;omega
 ·rw[if_neg b];by_cases a:x.op=21
  ·have:=c (.inl a);rw[if_pos a];simp;omega
  ·rw[if_neg a];simp;omega
theorem Ou(Y:en F h cs){x:Vl}{c:V}(W:iC eN F h x.args c)(J:x.op=21\/x.op=20->x.args.length<=1000000)(H:∀F' h' v,Sn F h F' h'->en F' h' cs->iC eN F' h' (je x) v->Q v h'):cP CS tV [.agg (mz x c)] h Q:=by
 refine Sy rfl rfl ?_;unfold Md;have Z:gv (mz x c)=true:=by simp only[mz,eQ,W.one];rfl
 rw [Du Z,fE];obtain⟨K,L⟩:=Y.zf hH (mz x c);have n1:(h.new (.cells 46 1 true false (mz x c))).next=h.next+1:=rfl;have K:en F (h.new (.cells 46 1 true false (mz x c))) (ev h.next hH (mz x c)::cs):=K;have L:Sn F h F (h.new (.cells 46 1 true false (mz x c))):=L;generalize h.new (.cells 46 1 true false (mz x c))=d at*;rw[EP,hK];obtain⟨w,M⟩:=K.Vp (E:=eN) (xs:=[]) (ws:=[]) (n:=0) ey rfl trivial rfl;have w:en F (d.new (.cells 3 1 true false [])) (eR eN ey [] (.slice d.next 0 0)::ev h.next hH (mz x c)::cs):=w;have M:Sn F d F (d.new (.cells 3 1 true false [])):=M;have g2:(d.new (.cells 3 1 true false [])).get d.next=some (.cells 3 1 true false []):=fi _ _;have n2:(d.new (.cells 3 1 true false [])).next=d.next+1:=rfl;generalize d.new (.cells 3 1 true false [])=k at*;refine oF (w.ld 1 rfl rfl) (oF (w.ld 1 rfl rfl) ?_);rw[nx2,hK];obtain⟨o,N⟩:=w.Vp (E:=eN) (xs:=[x.a,x.b]) (ws:=hO [x.a,x.b]) (n:=2) ey rfl (xU _ _ _) (Mt _);have o:en F (k.new (.cells 3 1 true false (hO [x.a,x.b]))) (eR eN ey [x.a,x.b] (.slice k.next 0 2)::eR eN ey [] (.slice d.next 0 0)::ev h.next hH (mz x c)::cs):=o;have N:Sn F k F (k.new (.cells 3 1 true false (hO [x.a,x.b]))):=N;have g3:(k.new (.cells 3 1 true false (hO [x.a,x.b]))).get k.next=some (.cells 3 1 true false (hO [x.a,x.b])):=fi _ _;have y:(k.new (.cells 3 1 true false (hO [x.a,x.b]))).get d.next=some (.cells 3 1 true false []):=(fo _ (by omega)).trans g2;generalize k.new (.cells 3 1 true false (hO [x.a,x.b]))=h3 at*;refine oF (o.ld 2 rfl rfl) ⟨⟨g3,O.gO _ _ _ _ _⟩,o.ld 2 rfl rfl,o.ld 2 rfl rfl,⟨y,O.gO _ _ _ _ _⟩,?_⟩;refine Mb ⟨jj _,?_⟩;have hp:sQ x.op<=2:=by
  unfold sQ;split
  ·omega
  ·split <;> omega
 obtain⟨z,P,X⟩:=o.zaV 0 rfl (n:=sQ x.op) hp;refine ed P ⟨⟨g3,O.gO _ _ _ _ _⟩,o.ld 2 rfl rfl,o.ld 2 rfl rfl,⟨y,O.gO _ _ _ _ _⟩,?_⟩;simp only[iY]at X;obtain⟨i,u,R,n5,p,s5⟩:=X.YU 1 0 rfl rfl (jM:=8) (by decide) (by decide) (by simp;omega);have A:fe 3 1 8 (.slice d.next 0 0) z h3=some (.val i u):=R;rw[A,ei];refine⟨n5,?_⟩;simp only[lj,iY,OO]at p;have B:=((L.trans M).trans N).trans s5;have q:iC eN F u x.args c:=(W.fk B.fk)
 have r:∀(F':Nat->Prop) (h':Hp) (v:V) (l:List Nat),Sn F u F' h'->en F' h' (eR eN ey ([x.a,x.b].take (sQ x.op)) z::eR eN ey l v::ev h.next hH (mz x c)::cs)->l=je x->tj CS Q v h':=by
  intro F' h' v l sF HF S;subst S;refine Nd ?_;unfold G7;obtain⟨C,D,r6⟩:=HF.lO 1 rfl;exact H _ _ v ((B.trans sF).trans D) C.tail.tail.tail r6
 refine oF (p.ld 2 rfl rfl) ?_;by_cases j:x.op=20
 ·have J:=J (.inr j);refine gj (gw (by omega) ?_);refine oF (p.ld 2 rfl rfl) (oF (p.ld 2 rfl rfl) (ed q.len (ed (VI _ _ _ _) ?_)));have em:(if false=true then max (1:Int) (x.args.length:Nat) else min (1:Int) (x.args.length:Nat))=((min 1 x.args.length:Nat):Int):=by simp;omega
  rw[em];obtain⟨T,U,G⟩:=q.cut (lo:=none) (hi:=some (.I ((min 1 x.args.length:Nat):Int))) (m:=0) (n:=min 1 x.args.length) rfl (Gn _ _ _) (Kl _) (by omega);refine ed U ?_;rw[Vt]at G;obtain⟨f,I,s,n6,C,D⟩:=p.M7 1 rfl (jM:=8) G (by decide) (by decide) (by simp;omega);have g:fe 3 1 8 i T u=some (.val f I):=s;rw[g,ei];refine r F I f _ D C ?_;rw[KQ,if_pos j];congr 1;rcases Nat.eq_zero_or_pos x.args.length with e|e
  ·rw[UZ e];rfl
  ·rw[wBx e]
 refine gj (gi (by omega) ?_);by_cases t:x.op=21
 ·have J:=J (.inl t);refine gj (gw (by omega) ?_);refine oF (p.ld 2 rfl rfl) ?_;obtain⟨f,I,s,n6,C,D⟩:=p.M7 1 rfl (jM:=8) q (by decide) (by decide) (by simp;omega);have g:fe 3 1 8 i c u=some (.val f I):=s;rw[g,ei];refine r F I f _ D C ?_;rw[KQ,if_neg j,if_pos t]
 ·refine gj (gi (by omega) ?_);refine r F u i _ (Sn.refl _ _) p ?_;rw[KQ,if_neg j,if_neg t,Eo]
def Nb(op:Nat):Bool:=two op&&op != 20
theorem Ly(J:en F h cs){x:Vl}{g:V}(y:iC eN F h x.args g)(H:∀F' h' v,Sn F h F' h'->en F' h' cs->iC eN F' h' (je x) v->Q v h'):cP CS jG [.agg (mz x g)] h Q:=by
 refine Er rfl rfl ?_;unfold wM;have K:gv (mz x g)=true:=by simp only[mz,eQ,y.one];rfl
 rw [Du K,fE];obtain⟨c,p⟩:=J.zf hH (mz x g);have c:en F (h.new (.cells 46 1 true false (mz x g))) (ev h.next hH (mz x g)::cs):=c;have p:Sn F h F (h.new (.cells 46 1 true false (mz x g))):=p;generalize h.new (.cells 46 1 true false (mz x g))=r at*;have j:=y.fk p.fk;have fin:∀(xs:List Nat),xs=je x->Q (.slice r.next 0 xs.length) (r.new (.cells 3 1 true false (hO xs))):=by
  intro xs e;obtain⟨s,z,L⟩:=c.ZS (E:=eN) (n:=xs.length) ey rfl (xU F r xs) false;have:=H _ _ _ (p.trans z) s.tail (by rw[<-e];exact L);exact this
 have r9:∀b:Bool,(b=true->pg x.op=true/\Nb x.op≠true)->(b=false->pg x.op≠true/\Nb x.op≠true)->il CS Q (.ptr h.next 0) (.I x.op) (.bool b) r:=by
  intro b u M;refine Bz ?_;unfold sW;rw[ie]
  cases b with
  | true=>
    rw[if_pos rfl];obtain⟨a1,a2⟩:=u rfl;refine oF (c.ld 0 rfl rfl) ?_;rw[show jt 3 1 1 (V.I 0) [(0,V.I (x.a:Nat))]=some (.cells 3 1 true false (hO [x.a]),λl=> .slice l 0 1) from rfl,fE];refine fin [x.a] ?_;unfold Nb at a2;unfold pg at a1;unfold je two pg;simp only[KM,z8]at a1
    rcases a1 with((((e|e)|e)|e)|e)|e <;> rw[e] <;> rfl
  | false=>
    rw[if_neg (by simp)];obtain⟨a1,a2⟩:=M rfl;by_cases k:x.op=20
    ·refine gj (gw (by omega) ?_)
     refine oF (c.ld 0 rfl rfl) (ed j.len ?_);have A:je x=x.a::x.b::x.args.take 1:=by unfold je;rw[k];rfl
     by_cases N:x.args.length=0
     ·refine gj (gw (by omega) ?_)
      refine oF (c.ld 0 rfl rfl) (oF (c.ld 0 rfl rfl) ?_);rw[nx2,fE];refine fin [x.a,x.b] ?_;rw[A,UZ N];rfl
     ·refine gj (gi (by omega) ?_)
      obtain⟨l,o,P,R,B⟩:=j.nat (i:=0) (gP (by omega)) .i64;refine oF (c.ld 0 rfl rfl) (oF (c.ld 0 rfl rfl) (oF (c.ld 0 rfl rfl) (ed R (ed B ?_))));rw[show jt 3 1 3 (V.I 0) [(0,V.I (x.a:Nat)),(1,V.I (x.b:Nat)),(2,V.I (x.args[0]:Nat))]=some (.cells 3 1 true false (hO [x.a,x.b,x.args[0]]),λl=> .slice l 0 3) from rfl,hK];obtain⟨s,z⟩:=c.grow (lV.new r (.cells 3 1 true false (hO [x.a,x.b,x.args[0]])));refine⟨⟨fi _ _,O.gO _ _ _ _ _⟩,iF B (fo _ (c.fl _ P)),s.ld 0 rfl rfl,s.ld 0 rfl rfl,s.ld 0 rfl rfl,fin [x.a,x.b,x.args[0]] ?_⟩;rw[A,zb8 (show 0<x.args.length by omega)]
    refine gj (gi (by omega) ?_);by_cases t:x.op=21
    ·refine gj (gw (by omega) ?_)
     refine oF (c.ld 0 rfl rfl) ?_;refine H _ _ _ p c.tail ?_;have:je x=x.args:=by unfold je;rw[if_pos t]
     rw[this];exact j
    ·refine gj (gi (by omega) ?_)
     refine H _ _ _ p c.tail ?_;have:je x=[]:=by
       unfold je;rw[if_neg t,if_neg k,if_neg,if_neg a1];intro e;apply a2;unfold Nb;rw[e];simpa using k
     rw[this];exact .nil
 have r4:∀b:Bool,b=Nb x.op->fZ CS Q (.ptr h.next 0) (.I x.op) (.bool b) r:=by
  intro b f;refine Bo ?_;unfold tE;rw[ie]
  cases b with
  | true=>
    rw[if_pos rfl];refine oF (c.ld 0 rfl rfl) (oF (c.ld 0 rfl rfl) ?_);rw[nx2,fE];refine fin [x.a,x.b] ?_;unfold Nb at f;have f:=f.symm;rw[uZ,X1]at f;unfold je;rw[if_neg,if_neg f.2,if_pos f.1];intro e;rw[e]at f
    exact absurd f.1 (by decide)
  | false=>
    have m:Nb x.op≠true:=by rw[<-f];simp
    rw[if_neg (by simp)];refine hZ ?_;rw[ie];split
    ·rename_i e;refine r9 _ (λ_=>⟨?_,m⟩) λh=>absurd (h.symm.trans e) (by simp)
     have:x.op=8:=by simp at e;omega
     rw[this];rfl
    rename_i C;have C:x.op≠8:=λe=>C (by rw[e];rfl);refine hZ ?_;rw[ie];split
    ·rename_i e;refine r9 _ (λ_=>⟨?_,m⟩) λh=>absurd (h.symm.trans e) (by simp)
     have:x.op=9:=by simp at e;omega
     rw[this];rfl
    rename_i D;have D:x.op≠9:=λe=>D (by rw[e];rfl);refine hZ ?_;rw[ie];split
    ·rename_i e;refine r9 _ (λ_=>⟨?_,m⟩) λh=>absurd (h.symm.trans e) (by simp)
     have:x.op=15:=by simp at e;omega
     rw[this];rfl
    rename_i G;have G:x.op≠15:=λe=>G (by rw[e];rfl);refine hZ ?_;rw[ie];split
    ·rename_i e;refine r9 _ (λ_=>⟨?_,m⟩) λh=>absurd (h.symm.trans e) (by simp)
     have:x.op=16:=by simp at e;omega
     rw[this];rfl
    rename_i g3;have g3:x.op≠16:=λe=>g3 (by rw[e];rfl);refine hZ ?_;rw[ie];split
    ·rename_i e;refine r9 _ (λ_=>⟨?_,m⟩) λh=>absurd (h.symm.trans e) (by simp)
     have:x.op=17:=by simp at e;omega
     rw[this];rfl
    rename_i I;have I:x.op≠17:=λe=>I (by rw[e];rfl);refine hZ ?_;refine r9 _ (λe=>⟨?_,m⟩) λe=>⟨?_,m⟩
    ·have:x.op=22:=by simp at e;omega
     rw[this];rfl
    ·have e:=of_decide_eq_false e
     intro hq;unfold pg at hq;simp only[KM,z8]at hq;omega
 have d:∀n:Nat,(x.op:Int)=n->(Nb n=true)->Nb x.op=true:=λn e h=>by
  have:x.op=n:=by omega
  rw[this];exact h
 refine oF (c.ld 0 rfl rfl) ?_;refine hZ ?_;rw[ie];split
 ·rename_i e;exact r4 _ (e.trans (d 3 (by simpa using e) rfl).symm)
 rename_i S;refine hZ ?_;rw[ie];split
 ·rename_i e;exact r4 _ (e.trans (d 4 (by simpa using e) rfl).symm)
 rename_i T;refine hZ ?_;rw[ie];split
 ·rename_i e;exact r4 _ (e.trans (d 5 (by simpa using e) rfl).symm)
 rename_i U;refine hZ ?_;rw[ie];split
 ·rename_i e;exact r4 _ (e.trans (d 6 (by simpa using e) rfl).symm)
 rename_i W;refine hZ ?_;rw[ie];split
 ·rename_i e;exact r4 _ (e.trans (d 7 (by simpa using e) rfl).symm)
 rename_i X;refine hZ ?_;rw[ie];split
 ·rename_i e;exact r4 _ (e.trans (d 10 (by simpa using e) rfl).symm)
 rename_i Y;refine hZ ?_;rw[ie];split
 ·rename_i e;exact r4 _ (e.trans (d 11 (by simpa using e) rfl).symm)
 rename_i Z;refine hZ ?_;rw[ie];split
 ·rename_i e;exact r4 _ (e.trans (d 12 (by simpa using e) rfl).symm)
 rename_i f7;refine hZ ?_;rw[ie];split
 ·rename_i e;exact r4 _ (e.trans (d 13 (by simpa using e) rfl).symm)
 rename_i f8;refine hZ ?_;rw[ie];split
 ·rename_i e;exact r4 _ (e.trans (d 14 (by simpa using e) rfl).symm)
 rename_i f9;refine hZ ?_;rw[ie];split
 ·rename_i e;exact r4 _ (e.trans (d 18 (by simpa using e) rfl).symm)
 rename_i w;refine hZ (r4 _ ?_);rw[Vw];unfold Nb two;simp only[AW,KM,uZ,z8,X1];constructor
 ·intro e;omega
 ·intro e;have q:∀n:Nat,¬decide ((x.op:Int)=(n:Nat))=true->x.op≠n:=λn h e=>h (by rw[e];simp);have k0:=q 3 S;have k1:=q 4 T;have k2:=q 5 U;have k3:=q 6 W;have k4:=q 7 X;have k5:=q 10 Y;have k6:=q 11 Z;have k7:=q 12 f7;have k8:=q 13 f8;have k9:=q 14 f9;have aa:=q 18 w;omega
end
open Un
theorem fG{X:Option V}{K:V->Prop}(h:oP X K):oP (fx false (.bool false)) λb=>oP (gV b X) K:=h
theorem fU{X:Option V}{K:V->Prop}(h:oP X K):oP (fx true (.bool true)) λb=>oP (gV b X) K:=h
theorem hY{X:Option V}{K:V->Prop}(h:K .undef):oP (fx true (.bool false)) λb=>oP (gV b X) K:=h
theorem N1{X:Option V}{K:V->Prop}(h:K .undef):oP (fx false (.bool true)) λb=>oP (gV b X) K:=h
theorem wW{C:fu}{f:Nat}{a:List V}{h:Hp}{K:fy}(H:cP C f a h K):oP (fx false (.bool false)) λb=>oP (gC b (some (f,a))) λy=>qB C y h K:=H
theorem uS{C:fu}{f:Nat}{a:List V}{h:Hp}{K:fy}(H:cP C f a h K):oP (fx true (.bool true)) λb=>oP (gC b (some (f,a))) λy=>qB C y h K:=H
theorem E0{C:fu}{f:Nat}{a:List V}{h:Hp}{K:fy}(H:K .undef h):oP (fx true (.bool false)) λb=>oP (gC b (some (f,a))) λy=>qB C y h K:=H
theorem qi{b:Bool}{A B:Prop}(h:if b=true then B else A):oP (qz .not (.bool b)) λv=>bP v A B:=by
 cases b <;> exact h
theorem YX{b:Bool}{K:V->Prop}(h:K (.bool (!b))):oP (qz .not (.bool b)) K:=h
section
variable{F F':Nat->Prop}{h h':Hp}{cs:List Pc}{Q:fy}{u:U}{vv vb vs:V}
theorem iG{T n:Nat}{b ws:List V}{K:fy}(H:en F h cs)(d:b.length=n)(e:ws.length=n)(c:gv ws=true)(f:∀a,en F a (ev h.next T ws::cs)->Sn F h F a->K (.ptr h.next 0) a) :
  ik (some (O.cells T 1 true false b,λl=>V.ptr l 0)) h λv c=>fm (gK n v (.agg ws) c) λ_ a=>K v a:=by
 rw[fE];obtain⟨g,i⟩:=H.zf T b;obtain⟨a,j,_,k,m⟩:=g.XP 0 rfl e d c;rw[j,ei];exact f a k (i.trans m)
theorem mH{T:Nat}{ws:List V}{K:fy}(H:en F h cs)(b:gv ws=true)(c:∀a,en F a (ev h.next T ws::cs)->Sn F h F a->K (.ptr h.next 0) a):ik (m0 T (.agg ws)) h K:=by
 rw[Du b,fE];obtain⟨d,e⟩:=H.zf T ws;exact c _ d e
theorem Ol{T:Nat}(xs:List Nat){ps:Option (O×(Nat->V))}(b:ps=some (O.cells T 1 true false (hO xs),λl=> .slice l 0 xs.length)){K:fy}(H:en F h cs)
  (c:∀F' a v,en F' a cs->Sn F h F' a->iC eN F' a xs v->K v a):ik ps h K:=by
 subst b;rw[fE];obtain⟨d,e,r1⟩:=H.ZS (E:=eN) T rfl (xU F h xs) false;exact c _ _ _ d e r1
theorem nR{T:Nat}(x:Nat):jt T 1 1 (V.I 0) [(0,V.I x)]=some (.cells T 1 true false (hO [x]),λl=> .slice l 0 1):=rfl
structure Ck (F:Nat->Prop) (h:Hp) (cs:List Pc) (lc:Nat) (u:U) (vv vb vs bl pl Fo:V):Prop where
 H:en F h cs
 c:∃(i ty:Nat),cs[i]? =some (ev lc ty [.I u.func,.I u.pc,vv,vb,vs,bl,pl,Fo])
 u:A0 F h u vv vb vs
variable{lc:Nat}{bl pl Fo:V}
theorem Ck.since(C:Ck F h cs lc u vv vb vs bl pl Fo)(s:Sn F h F' h')(a:en F' h' cs):Ck F' h' cs lc u vv vb vs bl pl Fo:=⟨a,C.c,C.u.since s⟩
theorem Ck.cons(C:Ck F h cs lc u vv vb vs bl pl Fo)(s:Sn F h F' h'){p:Pc} (a:en F' h' (p::cs)):Ck F' h' (p::cs) lc u vv vb vs bl pl Fo:=
 ⟨a,let⟨i,ty,hc⟩:=C.c;⟨i+1,ty,hc⟩,C.u.since s⟩
theorem Ck.ld(C:Ck F h cs lc u vv vb vs bl pl Fo)(o:Nat){y:V}(a:[.I u.func,.I u.pc,vv,vb,vs,bl,pl,Fo][o]? =some y):ez (.ptr lc o) h=some y:=
 let⟨i,_,hc⟩:=C.c;C.H.ld i hc a
theorem MP{a0 c:V}{n:Nat}(l:n<1000000)(P:(Nat->Prop)->Hp->Prop)(h0:P F h)
  (step:∀i,i<n->∀F' h',P F' h'->∀e:V->Hp->Prop,(∀a b,P a b->e (.bool true) b)->ic CS (gh c [.I (i:Nat)]) h' e) (H:∀F' h',P F' h'->Q (.bool true) h') :
  cP CS jF [a0,.I n,c] h Q:=by
 refine I8 rfl rfl ?_;unfold A6;refine FG (λk f g j h'=>∃(F':Nat->Prop) (i:Nat),f = .I n/\g=c/\j = .I i/\i+k=n/\P F' h') ?_ (k:=n) ⟨F,0,rfl,rfl,rfl,by omega,h0⟩;rintro k f g j h' ⟨F',i,rfl,rfl,rfl,m,hp⟩;unfold xM;by_cases hi:i<n
 ·refine gG ?_;refine step i hi F' h' hp _ λa b d=>?_;refine qi (gw rfl ?_);exact fN ⟨k-1,by omega,a,i+1,rfl,rfl,rfl,by omega,d⟩
 ·exact iI (H F' h' hp)
theorem IB(C:Ck F h cs lc u vv vb vs bl pl Fo){l:List Nat}{v:V}(b:iC eN F h l v)(r:l.length<1000000)(j:∀w∈l,w7 u w)(H:Q (.bool true) h):cP CS jb [.ptr lc 0,v] h Q:=by
 refine Gy rfl rfl ?_;unfold yH;refine ed b.len ?_;refine Dh (λk c d e f h'=>∃i:Nat,c = .ptr lc 0/\d=v/\e = .I l.length/\f = .I (i:Nat)/\i+k=l.length/\h' = h) ?_ (k:=l.length) ⟨0,rfl,rfl,rfl,rfl,by omega,rfl⟩;rintro k c d e f h' ⟨i,rfl,rfl,rfl,rfl,s,rfl⟩;unfold we;by_cases hi:i<l.length
 ·refine gG ?_;obtain⟨l1,t,_,m,n⟩:=b.nat (gP hi) .i64;obtain⟨x,g,gx⟩:=j _ (zq hi);have a:=(iR.1 g).1;refine ed m (ed n (ed (fX _ _) (ed (eJ _ _ _) (oF (C.ld 2 rfl) (ed C.u.v.len ?_)))));refine zy (qi (gw (by simpa using a) ?_));obtain⟨l2,y,z,_,o,_,_,p⟩:=C.u.val g;refine ed (fX _ _) (ed (eJ _ _ _) (oF (C.ld 2 rfl) (ed o (oF p.op ?_))));have q:x.op<19\/x.op=21:=by
   unfold Ii at gx;simpa using gx
  refine hZ (js (gi (by simp;omega) ?_));refine hZ (js (gi (by simp;omega) ?_));refine hZ (js (gi (by simp;omega) ?_));refine hZ ?_;rw[La (by omega)];refine Co ?_;unfold uP;refine js (gi (by simp) ?_);exact fN ⟨k-1,by omega,i+1,rfl,rfl,rfl,rfl,by omega,rfl⟩
 ·exact iI H
theorem XJ(C:Ck F h cs lc u vv vb vs bl pl Fo){i:Nat}{fs:List Fm}(hs:u.eh[i]? =some fs)(E:1<=fs.length/\fs.length<=30)(x:∀f∈fs,f.locals.length<=40/\f.stack.length<=60/\(∀v∈f.locals,w7 u v)/\∀v∈f.stack,w7 u v)
  (H:∀h',Sn F h F h'->en F h' cs->Q (.bool true) h'):cP CS me [.ptr lc 0,.I i] h Q:=by
 refine GD rfl rfl ?_;unfold yF;obtain⟨l1,G,f,_,y,z,_,q⟩:=C.u.st hs;refine ed (fX _ _) (ed (eJ _ _ _) (oF (C.ld 4 rfl) (ed y (ed z ?_))));refine iG C.H rfl rfl (by simp[q.one]) λI n r=>?_;have s:=q.since r;refine oF (n.ld 0 rfl rfl) (ed s.len (hZ ?_));rw[La (by omega),mn,eJ,fj,n.ld 0 (o:=0+0) rfl rfl,fj,s.len,fj,nf];refine ed rfl (js (gi (by simp;omega) ?_));refine oF (n.ld 0 rfl rfl) (ed s.len ?_);have C2:=C.since r n.tail
 refine DI (λk w c d e h'=>∃j:Nat,w = .ptr lc 0/\c=f/\d = .I fs.length/\e = .I (j:Nat)/\j+k=fs.length/\Sn F h F h'/\Ck F h' cs lc u vv vb vs bl pl Fo) ?_ (k:=fs.length)
  ⟨0,rfl,rfl,rfl,rfl,by omega,r,C2⟩
 rintro k w c d e h' ⟨j,rfl,rfl,rfl,rfl,J,s',t⟩;unfold wi;by_cases hj:j<fs.length
 ·refine gG ?_;obtain⟨l3,K,a,b,_,A,B,g,l⟩:=(q.since s').oA (gP hj);refine ed A (ed B ?_);obtain⟨L,M,g3,D⟩:=x _ (zq hj);refine iG t.H rfl rfl (by simp only[MH,eQ,g.one,l.one];rfl) λN m p=>?_;have g:=g.since p;have l:=l.since p;have C3:=t.since p m.tail;refine oF (m.ld 0 rfl rfl) (ed g.len ?_);refine ed (nf _ _ _ _) ?_;rw[La (by omega),mn,eJ,fj,m.ld 0 (o:=0+3) rfl rfl,fj,l.len,fj,nf,La (by omega)];refine ed rfl (fG (ed rfl (fG (ed (eJ _ _ _) (fG (ed (m.ld 0 rfl rfl) (wW ?_)))))));refine IB C3 g (by omega) g3 (ed rfl (fG (ed rfl (fG (ed (eJ _ _ _) (fG (ed (m.ld 0 rfl rfl) (wW ?_))))))));refine IB C3 l (by omega) D (ed rfl (js (gi (by simp) ?_)));exact fN ⟨k-1,by omega,j+1,rfl,rfl,rfl,rfl,by omega,s'.trans p,C3⟩
 ·exact iI (H h' s' t.H)
end
