/- Parts. -/
import Derived.Test.YtloecllhljfidaaGreatDoorM23
import Derived.Test.YtloecllhljfidaaGreatDoorM16
set_option maxHeartbeats 4000000
namespace Go.Proofs.YtloecllhljfidaaGreatDoor.Hx
open Un
variable{K:V->Prop}{F:Nat->Prop}{X:Option V}{h:Hp}{F':Nat->Prop}{a:List V}{T:Nat}{A B:Prop}{b:Bool}{v:V}{f t:Nat}{u:U}{vb vs vv:V}{C:kW}{h':Hp}
def eZ:qf Int where
 sz:=1
 rel _ _ n cs:=cs=[.I n]
 len h:=by simp_all
 one h:=by subst h;rfl
 fk _ h:=h
 mono _ h:=h
def eW:qf (Nat×Nat) where
 sz:=2
 rel _ _ x cs:=cs=[.I (x.1:Nat),.I (x.2:Nat)]
 len h:=by simp_all
 one h:=by subst h;rfl
 fk _ h:=h
 mono _ h:=h
structure tL (F:Nat->Prop) (h:Hp) (u:U) (vv vb vs:V):Prop where
 v:il eV F h u.ej vv
 b:il eK F h u.blocks vb
 s:il eT F h u.eo vs
theorem tL.fk(hk:∀l,F l->h'.get l=h.get l)(a:tL F h u vv vb vs):tL F h' u vv vb vs:=⟨a.v.fk hk,a.b.fk hk,a.s.fk hk⟩
theorem tL.mono(hk:∀l,F l->F' l)(a:tL F h u vv vb vs):tL F' h u vv vb vs:=⟨a.v.mono hk,a.b.mono hk,a.s.mono hk⟩
theorem tL.one(a:tL F h u vv vb vs):gj (uC u vv vb vs)=true:=by simp only[uC,eQ,a.v.one,a.b.one,a.s.one];rfl
theorem il.since{α:Type}{E:qf α}{xs:List α}(hs:il E F h xs v)(s:Sn F h F' h'):il E F' h' xs v:=(hs.fk s.fk).mono s.mono
theorem tL.since(a:tL F h u vv vb vs)(s:Sn F h F' h'):tL F' h' u vv vb vs:=(a.fk s.fk).mono s.mono
section
variable{F F':Nat->Prop}{h h':Hp}{cs:List Pc}{Q:fq}{u:U}{vv vb vs:V}
structure zgq (h:Hp) (l o:Nat) (x:Vl) (w:V):Prop where
 op:fe (.ptr l (o+0)) h=some (.I x.op)
 a:fe (.ptr l (o+1)) h=some (.I x.a)
 b:fe (.ptr l (o+2)) h=some (.I x.b)
 n:fe (.ptr l (o+3)) h=some (.I x.n)
 args:fe (.ptr l (o+4)) h=some w
 st:fe (.ptr l (o+5)) h=some (.I x.state)
structure zfy (h:Hp) (l o:Nat) (x:Bk) (v n p:V):Prop where
 ej:fe (.ptr l (o+0)) h=some v
 fin:fe (.ptr l (o+1)) h=some (.I x.fin)
 cond:fe (.ptr l (o+2)) h=some (.I x.cond)
 next:fe (.ptr l (o+3)) h=some n
 fh:fe (.ptr l (o+4)) h=some p
 st:fe (.ptr l (o+5)) h=some (.I x.state)
theorem tL.val(a:tL F h u vv vb vs){i:Nat}{x:Vl}(hx:u.ej[i]? =some x) :
  ∃l o w,F l/\gB 6 vv (.I i)=some (.ptr l o)/\fO 6 (.ptr l o) h=some (.agg (mh x w))/\il eN F h x.args w/\zgq h l o x w:=by
 obtain⟨hi,rfl⟩:=jo.1 hx;obtain⟨l,o,w,c,d,e,⟨a,rfl,f⟩,b⟩:=a.v.ix hi .i64;exact⟨l,o,a,c,d,e,f,⟨b 0 _ rfl,b 1 _ rfl,b 2 _ rfl,b 3 _ rfl,b 4 _ rfl,b 5 _ rfl⟩⟩
theorem tL.nJ(a:tL F h u vv vb vs){i:Nat}{x:Bk}(hx:u.blocks[i]? =some x) :
  ∃l o v n p,F l/\gB 6 vb (.I i)=some (.ptr l o)/\fO 6 (.ptr l o) h=some (.agg (ku x v n p))/\il eN F h x.ej v/\il eN F h x.next n/\il eN F h x.fh p/\zfy h l o x v n p:=by
 obtain⟨hi,rfl⟩:=jo.1 hx;obtain⟨l,o,w,d,e,f,⟨v,n,p,rfl,g,j,k⟩,c⟩:=a.b.ix hi .i64;exact⟨l,o,v,n,p,d,e,f,g,j,k,⟨c 0 _ rfl,c 1 _ rfl,c 2 _ rfl,c 3 _ rfl,c 4 _ rfl,c 5 _ rfl⟩⟩
theorem tL.st(a:tL F h u vv vb vs){i:Nat}{x:List Fm}(hx:u.eo[i]? =some x) :
  ∃l o f,F l/\gB 1 vs (.I i)=some (.ptr l o)/\fO 1 (.ptr l o) h=some (.agg [f])/\fe (.ptr l o) h=some f/\il eF F h x f:=by
 obtain⟨hi,rfl⟩:=jo.1 hx;obtain⟨l,o,w,b,c,d,⟨f,rfl,e⟩,g⟩:=a.s.ix hi .i64;exact⟨l,o,f,b,c,d,g 0 f rfl,e⟩
theorem il.lV{fs:List Fm}{f:V}(a:il eF F h fs f){i:Nat}{x:Fm}(hx:fs[i]? =some x) :
  ∃l o a b,F l/\gB 4 f (.I i)=some (.ptr l o)/\fO 4 (.ptr l o) h=some (.agg (Pj x a b))/\il eN F h x.locals a/\il eN F h x.stack b:=by
 obtain⟨hi,rfl⟩:=jo.1 hx;obtain⟨l,o,w,c,d,e,⟨a,b,rfl,g,j⟩,_⟩:=a.ix hi .i64;exact⟨l,o,a,b,c,d,e,g,j⟩
theorem il.nat{xs:List Nat}(a:il eN F h xs v){i x:Nat}(hx:xs[i]? =some x)(kd:IntKind):∃l o,F l/\gB 1 v (.int kd (i:Nat))=some (.ptr l o)/\fe (.ptr l o) h=some (.I x):=by
 obtain⟨hi,rfl⟩:=jo.1 hx
 let⟨l,o,w,c,d,e,b⟩:=a.Wd hi kd rfl
 obtain rfl:w = .I (xs[i]:Nat):=by
  have:[w]=[V.I (xs[i]:Nat)]:=b
  simp_all
 grind
theorem il.int{xs:List Int}(a:il eZ F h xs v){i:Nat}{x:Int}(hx:xs[i]? =some x)(kd:IntKind):∃l o,F l/\gB 1 v (.int kd (i:Nat))=some (.ptr l o)/\fe (.ptr l o) h=some (.I x):=by
 obtain⟨hi,rfl⟩:=jo.1 hx
 let⟨l,o,w,c,d,e,b⟩:=a.Wd hi kd rfl
 obtain rfl:w = .I xs[i]:=by
  have:[w]=[V.I xs[i]]:=b
  simp_all
 grind
theorem il.bool{xs:List Bool}(a:il eB F h xs v){i:Nat}{x:Bool}(hx:xs[i]? =some x)(kd:IntKind):∃l o,F l/\gB 1 v (.int kd (i:Nat))=some (.ptr l o)/\fe (.ptr l o) h=some (.bool x):=by
 obtain⟨hi,rfl⟩:=jo.1 hx
 let⟨l,o,w,c,d,e,b⟩:=a.Wd hi kd rfl
 obtain rfl:w = .bool xs[i]:=by
  have:[w]=[V.bool xs[i]]:=b
  simp_all
 grind
theorem il.list{α:Type}{E:qf α}{xs:List (List α)}(a:il (eL E) F h xs v){i:Nat}{x:List α}(hx:xs[i]? =some x)(kd:IntKind):∃l o w,F l/\gB 1 v (.int kd (i:Nat))=some (.ptr l o)/\fe (.ptr l o) h=some w/\il E F h x w:=by
 obtain⟨hi,rfl⟩:=jo.1 hx
 let⟨l,o,w,b,c,d,f,e,g⟩:=a.Wd hi kd rfl
 grind
theorem yq{k:IntKind}{a b:Int}(h:if a=b then B else A):oP (ez .neq t (.int k a) (.int k b)) λv=>bP v A B:=by
 simp_all
theorem PO{k:IntKind}{a b:Int}(h:if b<=a then A else B):oP (ez .geq t (.int k a) (.int k b)) λv=>bP v A B:=by
 simp_all
theorem ieq(a b:Nat):((a:Int) == (b:Int))=(a == b):=by
 grind
theorem hX{k:IntKind}{a b:Int}(h:K (.bool (decide (a=b)))):oP (ez .eql t (.int k a) (.int k b)) K:=by
 rw[gR]
 grind[oP]
def se(op:Nat):Nat:=if two op=true then 2 else if ml op=true then 1 else 0
theorem Ol{op:Nat}(H:Q (.I (se op:Nat)) h):cP CS zl [.I op] h Q:=by
 refine T0 ?_;have o:∀b,(b=true->ml op=true/\two op≠true)->(b=false->ml op≠true/\two op≠true)->iI Q (.bool b) h:=by
  intro b t u;refine Oi ?_;unfold Ba;rw[im];unfold se at H
  cases b with
  |true=>simp_all
  |false=>simp_all
 have a:∀b,b=two op->iq Q (.I op) (.bool b) h:=by
  intro b hb;refine N7 ?_;unfold A5;rw[im]
  cases b with
  |true=>simp_all[se,if_pos]
  | false=>
    have m:two op≠true:=by rw[<-hb];simp
    rw[if_neg (by simp)];refine hX ?_;rw[im];split
    ·grind[iI,Un.ml]
    rename_i d;refine hX ?_;rw[im];split
    ·grind[iI,Un.ml]
    rename_i f;refine hX ?_;rw[im];split
    ·grind[iI,Un.ml]
    rename_i g;refine hX ?_;rw[im];split
    ·grind[iI,Un.ml]
    rename_i i;refine hX ?_;rw[im];split
    ·grind[iI,Un.ml]
    rename_i j;refine hX ?_;simp at d f g i j;refine o _ (λe=>⟨?_,m⟩) λe=>⟨?_,m⟩
    ·grind[se,Un.ml]
    ·have e:=of_decide_eq_false e
     intro hq;unfold ml at hq
     grind
 have c:∀n:Nat,(op:Int)=n->(two n=true)->two op=true:=by grind
 refine hX ?_;rw[im];split
 ·rename_i e;exact a _ (e.trans (c 3 (by simp_all) rfl).symm)
 rename_i d;refine hX ?_;rw[im];split
 ·rename_i e;exact a _ (e.trans (c 4 (by simp_all) rfl).symm)
 rename_i f;refine hX ?_;rw[im];split
 ·rename_i e;exact a _ (e.trans (c 5 (by simp_all) rfl).symm)
 rename_i g;refine hX ?_;rw[im];split
 ·rename_i e;exact a _ (e.trans (c 6 (by simp_all) rfl).symm)
 rename_i i;refine hX ?_;rw[im];split
 ·rename_i e;exact a _ (e.trans (c 7 (by simp_all) rfl).symm)
 rename_i j;refine hX ?_;rw[im];split
 ·rename_i e;exact a _ (e.trans (c 10 (by simp_all) rfl).symm)
 rename_i p;refine hX ?_;rw[im];split
 ·rename_i e;exact a _ (e.trans (c 11 (by simp_all) rfl).symm)
 rename_i q;refine hX ?_;rw[im];split
 ·rename_i e;exact a _ (e.trans (c 12 (by simp_all) rfl).symm)
 rename_i r;refine hX ?_;rw[im];split
 ·rename_i e;exact a _ (e.trans (c 13 (by simp_all) rfl).symm)
 rename_i s;refine hX ?_;rw[im];split
 ·rename_i e;exact a _ (e.trans (c 14 (by simp_all) rfl).symm)
 rename_i k;refine hX ?_;rw[im];split
 ·rename_i e;exact a _ (e.trans (c 18 (by simp_all) rfl).symm)
 rename_i Yr;refine hX ?_;rw[im];split
 ·rename_i e;exact a _ (e.trans (c 19 (by simp_all) rfl).symm)
 rename_i l;refine hX (a _ ?_);simp at d f g i j p q r s k Yr l;rw[Wr];unfold two
 grind
theorem L9{op:Nat}(H:Q (.bool (leaves op)) h):cP CS sW [.I op] h Q:=by
 refine QQ ?_
 grind[KT,leaves,ieq,gR,iQ,ft,uN]
theorem AB{a b:Nat}(H:Q (.bool (decide (a<b))) h):cP CS lR [.I a,.I b] h Q:=by
 refine Ss ?_
 grind[MN,nW,iQ,ft,j7,mb,decide,Int,CS]
theorem Zc{xs:List Nat}{a b:V}(c:il eN F h xs a)(hb:il eN F h xs b)(q:xs.length<1000000000)(H:Q (.bool true) h):cP CS qe [a,b] h Q:=by
 refine Fk ?_;refine eh c.len (eh hb.len (yq (fW rfl (eh c.len ?_))));refine Bn (λk d e f g h'=>∃i,d=a/\e=b/\f = .I xs.length/\g = .I (i:Nat)/\i+k=xs.length/\h' = h) ?_ (k:=xs.length) (by simp_all);rintro k d e f g h' ⟨i,rfl,rfl,rfl,rfl,hk,rfl⟩;unfold ng;by_cases hi:i<xs.length
 ·refine gy ?_
  let⟨l,o,_,j,m⟩:=c.nat (gN hi) .i64
  let⟨l',o',_,n,p⟩:=hb.nat (gN hi) .i64
  refine eh j (eh m (eh n (eh p (yq (fW rfl ?_)))));exact fF ⟨k-1,by omega,i+1,rfl,rfl,rfl,rfl,by omega,rfl⟩
 ·exact hY H
end
open Un
theorem zf0:∀{l:List Nat}(h:0<l.length),l.take 1=[l[0]]
 |y::l,_=>by simp
theorem Nf(x:Vl):gG x=([x.a,x.b].take (se x.op))++(if x.op=20 then x.args.take 1 else if x.op=21 then x.args else[]):=by
 unfold gG se;by_cases c:x.op=21
 ·grind[two,ml]
 ·rw[if_neg c];by_cases d:x.op=20
  ·grind[two]
  grind
section
variable{F F':Nat->Prop}{h h':Hp}{cs:List Pc}{Q:fq}{u:U}{vv vb vs:V}
theorem Lb{x:Vl}(a:x.op=21\/x.op=20->x.args.length<=700):(gG x).length<=1000:=by
 rw[Nf]
 grind
theorem KV(T:ev F h cs){x:Vl}{c:V}(P:il eN F h x.args c)(R:x.op=21\/x.op=20->x.args.length<=1000000)(H:∀F' h' v,Sn F h F' h'->ev F' h' cs->il eN F' h' (gG x) v->Q v h'):cP CS rF [.agg (mh x c)] h Q:=by
 refine VE ?_;have U:gj (mh x c)=true:=by simp only[mh,eQ,P.one];rfl
 rw[EY U,fu];obtain⟨C,D⟩:=T.yP gK (mh x c);have n1:(h.new (.cells 45 1 true false (mh x c))).next=h.next+1:=rfl;have C:ev F (h.new (.cells 45 1 true false (mh x c))) (eJ h.next gK (mh x c)::cs):=C;have D:Sn F h F (h.new (.cells 45 1 true false (mh x c))):=D;generalize h.new (.cells 45 1 true false (mh x c))=d at*;rw[C8,gO];obtain⟨s,G⟩:=C.TC (E:=eN) (xs:=[]) (ws:=[]) (n:=0) eR rfl trivial rfl;have s:ev F (d.new (.cells 3 1 true false [])) (fg eN eR [] (.slice d.next 0 0)::eJ h.next gK (mh x c)::cs):=s;have G:Sn F d F (d.new (.cells 3 1 true false [])):=G;have g2:(d.new (.cells 3 1 true false [])).get d.next=some (.cells 3 1 true false []):=fm _ _;have n2:(d.new (.cells 3 1 true false [])).next=d.next+1:=rfl;generalize d.new (.cells 3 1 true false [])=i at*;refine eh (by rfl) (eh (s.ld 1 rfl rfl) (eh (by rfl) (eh (s.ld 1 rfl rfl) ?_)));rw[nx2,gO];obtain⟨j,I⟩:=s.TC (E:=eN) (xs:=[x.a,x.b]) (ws:=ig [x.a,x.b]) (n:=2) eR rfl (xC _ _ _) (OT _);have j:ev F (i.new (.cells 3 1 true false (ig [x.a,x.b]))) (fg eN eR [x.a,x.b] (.slice i.next 0 2)::fg eN eR [] (.slice d.next 0 0)::eJ h.next gK (mh x c)::cs):=j;have I:Sn F i F (i.new (.cells 3 1 true false (ig [x.a,x.b]))):=I;have g3:(i.new (.cells 3 1 true false (ig [x.a,x.b]))).get i.next=some (.cells 3 1 true false (ig [x.a,x.b])):=fm _ _;have W:(i.new (.cells 3 1 true false (ig [x.a,x.b]))).get d.next=some (.cells 3 1 true false []):=by grind[fo,trans]
 generalize i.new (.cells 3 1 true false (ig [x.a,x.b]))=X at*;refine eh (by rfl) (eh (j.ld 2 rfl rfl) ⟨by simp_all,j.ld 2 rfl rfl,j.ld 2 rfl rfl,by simp_all,?_⟩);refine Ol ⟨iZ _,?_⟩;have hp:se x.op<=2:=by
  unfold se;split
  ·omega
  ·grind
 obtain⟨t,J,S⟩:=j.za8 0 rfl (n:=se x.op) hp;refine eh J ⟨by simp_all,j.ld 2 rfl rfl,j.ld 2 rfl rfl,by simp_all,?_⟩;simp only[oU]at S;obtain⟨g,r,K,Y,k,Z⟩:=S.zbR 1 0 rfl rfl (jL:=8) (by decide) (by decide) (by simp;omega);have u:fi 3 1 8 (.slice d.next 0 0) t X=some (.val g r):=K;rw[u,en];refine⟨Y,?_⟩;simp only[pJ,oU,UA]at k;have w:=((D.trans G).trans I).trans Z;have o:il eN F r x.args c:=(P.fk w.fk)
 have p:∀(F':Nat->Prop) (h':Hp) (v:V) (l:List Nat),Sn F r F' h'->ev F' h' (fg eN eR ([x.a,x.b].take (se x.op)) t::fg eN eR l v::eJ h.next gK (mh x c)::cs)->l=gG x->vy Q v h':=by
  intro F' h' v l sF HF L;subst L;refine Pq ?_;unfold Cp;obtain⟨y,z,r6⟩:=HF.jc 1 rfl;exact H _ _ v ((w.trans sF).trans z) y.tail.tail.tail r6
 refine eh (by rfl) (eh (k.ld 2 rfl rfl) ?_);by_cases M:x.op=20
 ·have R:=by omega
  refine fX (fW (by omega) ?_);refine eh (by rfl) (eh (k.ld 2 rfl rfl) (eh (by rfl) (eh (k.ld 2 rfl rfl) (eh o.len (eh (Ts _ _ _ _) ?_)))));have em:(if false=true then max (1:Int) (x.args.length:Nat) else min (1:Int) (x.args.length:Nat))=((min 1 x.args.length:Nat):Int):=by simp;omega
  rw[em];obtain⟨N,O,A⟩:=o.cut (lo:=none) (hi:=some (.I ((min 1 x.args.length:Nat):Int))) (m:=0) (n:=min 1 x.args.length) rfl (by rfl) (Mr _) (by omega);refine eh O ?_;rw[wBP]at A;obtain⟨e,B,q,n6,y,z⟩:=k.OV 1 rfl (jL:=8) A (by decide) (by decide) (by simp;omega);have f:fi 3 1 8 g N r=some (.val e B):=q;rw[f,en];refine p F B e _ z y ?_;rw[Nf,if_pos M]
  simp_all
 refine fX (fP (by omega) ?_);by_cases aa:x.op=21
 ·have R:=by omega
  refine fX (fW (by omega) ?_);refine eh (by rfl) (eh (k.ld 2 rfl rfl) ?_);obtain⟨e,B,q,n6,y,z⟩:=k.OV 1 rfl (jL:=8) o (by decide) (by decide) (by simp;omega);have f:fi 3 1 8 g c r=some (.val e B):=q;rw[f,en];refine p F B e _ z y ?_
  simp_all[Nf,if_neg,if_pos]
 ·refine fX (fP (by omega) ?_);refine p F r g _ (Sn.refl _ _) k ?_
  simp_all[Nf,if_neg,Lg]
end
open Un
section
variable{F F':Nat->Prop}{h h':Hp}{cs:List Pc}{Q:fq}{u:U}{vv vb vs:V}
def Pp(op:Nat):Bool:=two op&&op != 20
theorem N5(A:ev F h cs){x:Vl}{g:V}(w:il eN F h x.args g)(H:∀F' h' v,Sn F h F' h'->ev F' h' cs->il eN F' h' (gG x) v->Q v h'):cP CS kT [.agg (mh x g)] h Q:=by
 refine Gl ?_;have B:gj (mh x g)=true:=by simp only[mh,eQ,w.one];rfl
 rw [EY B,fu];obtain⟨c,m⟩:=A.yP gK (mh x g);have c:ev F (h.new (.cells 45 1 true false (mh x g))) (eJ h.next gK (mh x g)::cs):=c;have m:Sn F h F (h.new (.cells 45 1 true false (mh x g))):=m;generalize h.new (.cells 45 1 true false (mh x g))=p at*;have r:=w.fk m.fk;have fin:∀(xs:List Nat),xs=gG x->Q (.slice p.next 0 xs.length) (p.new (.cells 3 1 true false (ig xs))):=by
  intro xs e;obtain⟨s,y,C⟩:=c.zaa (E:=eN) (n:=xs.length) eR rfl (xC F p xs) false;have:=H _ _ _ (m.trans y) s.tail (by rw[<-e];exact C);exact this
 have q:∀b:Bool,(b=true->ml x.op=true/\Pp x.op≠true)->(b=false->ml x.op≠true/\Pp x.op≠true)->ik Q (.ptr h.next 0) (.I x.op) (.bool b) p:=by
  intro b t D;refine CP ?_;unfold oK;rw[im]
  cases b with
  | true=>
    rw[if_pos rfl];obtain⟨a1,a2⟩:=t rfl;refine eh (by rfl) (eh (c.ld 0 rfl rfl) ?_);rw[show iS 3 1 1 (V.I 0) [(0,V.I (x.a:Nat))]=some (.cells 3 1 true false (ig [x.a]),λl=> .slice l 0 1) from rfl,fu];refine fin [x.a] ?_;unfold Pp at a2;unfold ml at a1;unfold gG two ml;simp only[OK,Bg]at a1
    rcases a1 with((((e|e)|e)|e)|e)|e <;> rw[e] <;> rfl
  | false=>
    rw[if_neg (by simp)];obtain⟨a1,a2⟩:=D rfl;by_cases j:x.op=20
    ·refine fX (fW (by omega) ?_)
     refine eh (by rfl) (eh (c.ld 0 rfl rfl) (eh r.len ?_));have R:gG x=x.a::x.b::x.args.take 1:=by unfold gG;rw[j];rfl
     by_cases S:x.args.length=0
     ·refine fX (fW (by omega) ?_)
      refine eh (by rfl) (eh (c.ld 0 rfl rfl) (eh (by rfl) (eh (c.ld 0 rfl rfl) ?_)))
      grind[nx2,fu,wA9]
     ·refine fX (fP (by omega) ?_)
      obtain⟨l,o,G,I,z⟩:=r.nat (i:=0) (gN (by omega)) .i64;refine eh (by rfl) (eh (c.ld 0 rfl rfl) (eh (by rfl) (eh (c.ld 0 rfl rfl) (eh (by rfl) (eh (c.ld 0 rfl rfl) (eh I (eh z ?_)))))));rw[show iS 3 1 3 (V.I 0) [(0,V.I (x.a:Nat)),(1,V.I (x.b:Nat)),(2,V.I (x.args[0]:Nat))]=some (.cells 3 1 true false (ig [x.a,x.b,x.args[0]]),λl=> .slice l 0 3) from rfl,gO];obtain⟨s,y⟩:=c.grow (lP.new p (.cells 3 1 true false (ig [x.a,x.b,x.args[0]])));refine⟨by grind[fm,O.kE],ij z (fo _ (c.fl _ G)),s.ld 0 rfl rfl,s.ld 0 rfl rfl,s.ld 0 rfl rfl,fin [x.a,x.b,x.args[0]] ?_⟩
      grind[zf0]
    refine fX (fP (by omega) ?_);by_cases u:x.op=21
    ·refine fX (fW (by omega) ?_)
     refine eh (by rfl) (eh (c.ld 0 rfl rfl) ?_);refine H _ _ _ m c.tail ?_
     simp_all[gG,if_pos]
    ·refine fX (fP (by omega) ?_)
     refine H _ _ _ m c.tail ?_;have:gG x=[]:=by
       unfold gG;rw[if_neg u,if_neg j,if_neg,if_neg a1];intro e;apply a2;unfold Pp;rw[e];simpa using j
     rw[this];exact .nil
 have d:∀b:Bool,b=Pp x.op->gh Q (.ptr h.next 0) (.I x.op) (.bool b) p:=by
  intro b hb;refine CY ?_;unfold om;rw[im]
  cases b with
  | true=>
    rw[if_pos rfl];refine eh (by rfl) (eh (c.ld 0 rfl rfl) (eh (by rfl) (eh (c.ld 0 rfl rfl) ?_)));rw[nx2,fu];refine fin [x.a,x.b] ?_;unfold Pp at hb;have hb:=hb.symm;rw[vU,wB2]at hb;unfold gG;rw[if_neg,if_neg hb.2,if_pos hb.1];intro e;rw[e]at hb
    exact absurd hb.1 (by decide)
  | false=>
    have k:Pp x.op≠true:=by rw[<-hb];simp
    rw[if_neg (by simp)];refine hX ?_;rw[im];split
    ·rename_i e;refine q _ (λ_=>⟨?_,k⟩) (by grind)
     have:x.op=8:=by simp at e;omega
     rw[this];rfl
    rename_i J;have J:x.op≠8:=by grind
    refine hX ?_;rw[im];split
    ·rename_i e;refine q _ (λ_=>⟨?_,k⟩) (by grind)
     have:x.op=9:=by simp at e;omega
     rw[this];rfl
    rename_i K;have K:x.op≠9:=by grind
    refine hX ?_;rw[im];split
    ·rename_i e;refine q _ (λ_=>⟨?_,k⟩) (by grind)
     have:x.op=15:=by simp at e;omega
     rw[this];rfl
    rename_i L;have L:x.op≠15:=by grind
    refine hX ?_;rw[im];split
    ·rename_i e;refine q _ (λ_=>⟨?_,k⟩) (by grind)
     have:x.op=16:=by simp at e;omega
     rw[this];rfl
    rename_i M;have M:x.op≠16:=by grind
    refine hX ?_;rw[im];split
    ·rename_i e;refine q _ (λ_=>⟨?_,k⟩) (by grind)
     have:x.op=17:=by simp at e;omega
     rw[this];rfl
    rename_i N;have N:x.op≠17:=by grind
    refine hX ?_;refine q _ (λe=>⟨?_,k⟩) λe=>⟨?_,k⟩
    ·have:x.op=22:=by simp at e;omega
     rw[this];rfl
    ·have e:=of_decide_eq_false e
     intro hq;unfold ml at hq
     grind
 have f:∀n:Nat,(x.op:Int)=n->(Pp n=true)->Pp x.op=true:=by grind
 refine eh (by rfl) (eh (c.ld 0 rfl rfl) ?_);refine hX ?_;rw[im];split
 ·rename_i e;exact d _ (e.trans (f 3 (by simp_all) rfl).symm)
 rename_i T;refine hX ?_;rw[im];split
 ·rename_i e;exact d _ (e.trans (f 4 (by simp_all) rfl).symm)
 rename_i U;refine hX ?_;rw[im];split
 ·rename_i e;exact d _ (e.trans (f 5 (by simp_all) rfl).symm)
 rename_i W;refine hX ?_;rw[im];split
 ·rename_i e;exact d _ (e.trans (f 6 (by simp_all) rfl).symm)
 rename_i X;refine hX ?_;rw[im];split
 ·rename_i e;exact d _ (e.trans (f 7 (by simp_all) rfl).symm)
 rename_i Y;refine hX ?_;rw[im];split
 ·rename_i e;exact d _ (e.trans (f 10 (by simp_all) rfl).symm)
 rename_i Z;refine hX ?_;rw[im];split
 ·rename_i e;exact d _ (e.trans (f 11 (by simp_all) rfl).symm)
 rename_i f6;refine hX ?_;rw[im];split
 ·rename_i e;exact d _ (e.trans (f 12 (by simp_all) rfl).symm)
 rename_i f7;refine hX ?_;rw[im];split
 ·rename_i e;exact d _ (e.trans (f 13 (by simp_all) rfl).symm)
 rename_i f8;refine hX ?_;rw[im];split
 ·rename_i e;exact d _ (e.trans (f 14 (by simp_all) rfl).symm)
 rename_i f9;refine hX ?_;rw[im];split
 ·rename_i e;exact d _ (e.trans (f 18 (by simp_all) rfl).symm)
 rename_i P;refine hX (d _ ?_);rw[Wr];unfold Pp two
 grind
end
open Un
theorem pf{l o k:Nat}:fI k (.ptr l o)=some (.ptr l (o+k)):=gf _ _ _
theorem pn{l o:Nat}:gP (.ptr l o)=some (.ptr l o):=fS _ _
theorem bq{e sz:Nat}{a:Bool}{cs:List V}:O.beq (.cells e sz a b cs) (.cells e sz a b cs)=true:=O.kE _ _ _ _ _
theorem fG(h:oP X K):oP (fH false (.bool false)) λb=>oP (gV b X) K:=h
theorem gw(h:oP X K):oP (fH true (.bool true)) λb=>oP (gV b X) K:=h
theorem hV(h:K .undef):oP (fH true (.bool false)) λb=>oP (gV b X) K:=h
theorem QC(h:K .undef):oP (fH false (.bool true)) λb=>oP (gV b X) K:=h
theorem xx{K:fq}(H:cP C f a h K):oP (fH false (.bool false)) λb=>oP (gC b (some (f,a))) λy=>vB C y h K:=H
theorem yF{K:fq}(H:cP C f a h K):oP (fH true (.bool true)) λb=>oP (gC b (some (f,a))) λy=>vB C y h K:=H
theorem Hg{K:fq}(H:K .undef h):oP (fH true (.bool false)) λb=>oP (gC b (some (f,a))) λy=>vB C y h K:=H
theorem pY(h:if b=true then B else A):oP (pK .not (.bool b)) λv=>bP v A B:=by
 cases b <;> exact h
theorem qt(a:X=some (.bool false))(H:K (.bool false)):oP (nY (.bool false) X) K:=by simp_all
theorem QM(h:K (.bool (!b))):oP (pK .not (.bool b)) K:=h
section
variable{F F':Nat->Prop}{h h':Hp}{cs:List Pc}{Q:fq}{u:U}{vv vb vs:V}
theorem gQ{n:Nat}{b ws:List V}{K:fq}(H:ev F h cs)(d:b.length=n)(e:ws.length=n)(c:gj ws=true)(f:∀a,ev F a (eJ h.next T ws::cs)->Sn F h F a->K (.ptr h.next 0) a) :
  gS (some (O.cells T 1 true false b,λl=>V.ptr l 0)) h λv c=>fj (gq n v (.agg ws) c) λ_ a=>K v a:=by
 rw[fu]
 let⟨g,i⟩:=H.yP T b
 let⟨a,j,_,k,m⟩:=g.Qy 0 rfl e d c
 rw[j,en];exact f a k (i.trans m)
theorem j4{ws:List V}{K:fq}(H:ev F h cs)(b:gj ws=true)(c:∀a,ev F a (eJ h.next T ws::cs)->Sn F h F a->K (.ptr h.next 0) a):gS (mi T (.agg ws)) h K:=by
 rw[EY b,fu]
 let⟨d,e⟩:=H.yP T ws
 exact c _ d e
theorem Q5(xs:List Nat){b:Option (O×(Nat->V))}(hx:b=some (O.cells T 1 true false (ig xs),λl=> .slice l 0 xs.length)){K:fq}(H:ev F h cs)
  (c:∀F' a v,ev F' a cs->Sn F h F' a->il eN F' a xs v->K v a):gS b h K:=by
 subst hx;rw[fu]
 let⟨d,e,f⟩:=H.zaa T rfl (xC F h xs) false
 exact c _ _ _ d e f
theorem mH(x:Nat):iS T 1 1 (V.I 0) [(0,V.I x)]=some (.cells T 1 true false (ig [x]),λl=> .slice l 0 1):=rfl
structure Ck (F:Nat->Prop) (h:Hp) (cs:List Pc) (lc:Nat) (u:U) (vv vb vs bl pl Hf:V):Prop where
 H:ev F h cs
 c:∃(i ty:Nat),cs[i]? =some (eJ lc ty [.I u.func,.I u.pc,vv,vb,vs,bl,pl,Hf])
 u:tL F h u vv vb vs
variable{lc:Nat}{bl pl Hf:V}
theorem Ck.since(C:Ck F h cs lc u vv vb vs bl pl Hf)(s:Sn F h F' h')(a:ev F' h' cs):Ck F' h' cs lc u vv vb vs bl pl Hf:=⟨a,C.c,C.u.since s⟩
theorem Ck.cons(C:Ck F h cs lc u vv vb vs bl pl Hf)(s:Sn F h F' h'){p:Pc} (a:ev F' h' (p::cs)):Ck F' h' (p::cs) lc u vv vb vs bl pl Hf:=
 ⟨a,let⟨i,ty,hc⟩:=C.c;⟨i+1,ty,hc⟩,C.u.since s⟩
theorem Ck.ld(C:Ck F h cs lc u vv vb vs bl pl Hf)(o:Nat){y:V}(a:[.I u.func,.I u.pc,vv,vb,vs,bl,pl,Hf][o]? =some y):fe (.ptr lc o) h=some y:=
 let⟨i,_,hc⟩:=C.c;C.H.ld i hc a
theorem N4{a0 c:V}{n:Nat}(l:n<1000000)(P:(Nat->Prop)->Hp->Prop)(h0:P F h)
  (step:∀i,i<n->∀F' h',P F' h'->∀e,(∀a b,P a b->e (.bool true) b)->gY CS (gi c [.I (i:Nat)]) h' e) (H:∀F' h',P F' h'->Q (.bool true) h') :
  cP CS km [a0,.I n,c] h Q:=by
 refine KB ?_;refine GX (λk f g j h'=>∃F' i,f = .I n/\g=c/\j = .I (i:Nat)/\i+k=n/\P F' h') ?_ (k:=n) ⟨F,0,rfl,rfl,rfl,by omega,h0⟩;rintro k f g j h' ⟨F',i,rfl,rfl,rfl,hk,hp⟩;unfold sq;by_cases hi:i<n
 ·refine gy ?_;refine step i hi F' h' hp _ λa b d=>?_;refine pY (fW rfl ?_);exact fF ⟨k-1,by omega,a,i+1,rfl,rfl,rfl,by omega,d⟩
 ·exact hY (H F' h' hp)
theorem K1(C:Ck F h cs lc u vv vb vs bl pl Hf){l:List Nat}{v:V}(b:il eN F h l v)(q:l.length<1000000)(g:∀w∈l,mq u w)(H:Q (.bool true) h):cP CS ju [.ptr lc 0,v] h Q:=by
 refine IP ?_;refine eh b.len ?_;refine EH (λk c d e f h'=>∃i,c = .ptr lc 0/\d=v/\e = .I l.length/\f = .I (i:Nat)/\i+k=l.length/\h' = h) ?_ (k:=l.length) ⟨0,rfl,rfl,rfl,rfl,by omega,rfl⟩;rintro k c d e f h' ⟨i,rfl,rfl,rfl,rfl,hk,rfl⟩;unfold pV;by_cases hi:i<l.length
 ·refine gy ?_
  let⟨l1,r,_,j,m⟩:=b.nat (gN hi) .i64
  let⟨x,hx,gx⟩:=g _ (zI hi)
  have a:=(jo.1 hx).1;refine eh j (eh m (eh (fS _ _) (eh (gf _ _ _) (oF (C.ld 2 rfl) (eh C.u.v.len ?_)))));refine AB (pY (fW (by simpa using a) ?_))
  let⟨l2,s,t,_,n,_,_,o⟩:=C.u.val hx
  refine eh (fS _ _) (eh (gf _ _ _) (oF (C.ld 2 rfl) (eh n (oF o.op ?_))));have p:x.op<19\/x.op=21:=by
   unfold Jk at gx;simpa using gx
  refine hX (iB (fP (by simp;omega) ?_));refine hX (iB (fP (by simp;omega) ?_));refine hX (iB (fP (by simp;omega) ?_));refine hX ?_;rw[Li (by omega)];refine Eh ?_;unfold px;refine iB (fP (by simp) ?_);exact fF ⟨k-1,by omega,i+1,rfl,rfl,rfl,rfl,by omega,rfl⟩
 ·exact hY H
theorem YU(C:Ck F h cs lc u vv vb vs bl pl Hf){i:Nat}{fs:List Fm}(hs:u.eo[i]? =some fs)(E:1<=fs.length/\fs.length<=30)(w:∀f∈fs,f.locals.length<=40/\f.stack.length<=60/\(∀v∈f.locals,mq u v)/\∀v∈f.stack,mq u v)
  (H:∀h',Sn F h F h'->ev F h' cs->Q (.bool true) h'):cP CS pe [.ptr lc 0,.I i] h Q:=by
 refine IA ?_
 let⟨l1,G,f,_,x,y,_,p⟩:=C.u.st hs
 refine eh (fS _ _) (eh (gf _ _ _) (oF (C.ld 4 rfl) (eh x (eh y ?_))));refine gQ C.H rfl rfl (by simp[p.one]) λI n q=>?_;have r:=p.since q;refine oF (n.ld 0 rfl rfl) (eh r.len (hX ?_));rw[Li (by omega),mK,gf,ft,n.ld 0 rfl rfl,ft,r.len,ft,nN];refine eh rfl (iB (fP (by simp;omega) ?_));refine oF (n.ld 0 rfl rfl) (eh r.len ?_);have C2:=C.since q n.tail
 refine E3 (λk t c d e h'=>∃j,t = .ptr lc 0/\c=f/\d = .I fs.length/\e = .I (j:Nat)/\j+k=fs.length/\Sn F h F h'/\Ck F h' cs lc u vv vb vs bl pl Hf) ?_ (k:=fs.length)
  ⟨0,rfl,rfl,rfl,rfl,by omega,q,C2⟩
 rintro k t c d e h' ⟨j,rfl,rfl,rfl,rfl,hk,s',s⟩;unfold p6;by_cases hj:j<fs.length
 ·refine gy ?_
  let⟨l3,J,a,b,_,z,A,g,l⟩:=(p.since s').lV (gN hj)
  refine eh z (eh A ?_)
  let⟨K,L,B,D⟩:=w _ (zI hj)
  refine gQ s.H rfl rfl (by simp only[Pj,eQ,g.one,l.one];rfl) λM m o=>?_;have g:=g.since o;have l:=l.since o;have C3:=s.since o m.tail;refine oF (m.ld 0 rfl rfl) (eh g.len ?_);refine eh (nN _ _ _ _) ?_;rw[Li (by omega),mK,gf,ft,m.ld 0 rfl rfl,ft,l.len,ft,nN,Li (by omega)];refine eh rfl (fG (eh rfl (fG (eh (gf _ _ _) (fG (eh (m.ld 0 rfl rfl) (xx ?_)))))));refine K1 C3 g (by omega) B (eh rfl (fG (eh rfl (fG (eh (gf _ _ _) (fG (eh (m.ld 0 rfl rfl) (xx ?_))))))));refine K1 C3 l (by omega) D (eh rfl (iB (fP (by simp) ?_)));exact fF ⟨k-1,by omega,j+1,rfl,rfl,rfl,rfl,by omega,s'.trans o,C3⟩
 ·exact hY (H h' s' s.H)
end
