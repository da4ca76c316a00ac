/- Parts. -/
import Derived.Test.YtloecllhljfidaaDoorM23
import Derived.Test.YtloecllhljfidaaDoorM16
set_option maxHeartbeats 4000000
namespace Go.Proofs.YtloecllhljfidaaDoor.Hx
open Un
def eZ:o0 Int where
 sz:=1
 rel _ _ n cs:=cs=[.I n]
 len h:=by simp_all
 one h:=by subst h;rfl
 fe _ h:=h
 mono _ h:=h
def eW:o0 (Nat×Nat) where
 sz:=2
 rel _ _ x cs:=cs=[.I (x.1:Nat),.I (x.2:Nat)]
 len h:=by simp_all
 one h:=by subst h;rfl
 fe _ h:=h
 mono _ h:=h
structure tL (F:Nat->Prop) (h:Hp) (u:U) (vv vb vs:V):Prop where
 v:iG eV F h u.ef vv
 b:iG eK F h u.blocks vb
 s:iG eT F h u.eh vs
theorem tL.fe{F:Nat->Prop}{h h':Hp}{u:U}{vv vb vs:V}(hk:∀l,F l->h'.get l=h.get l)(a:tL F h u vv vb vs):tL F h' u vv vb vs:=⟨a.v.fe hk,a.b.fe hk,a.s.fe hk⟩
theorem tL.mono{F F':Nat->Prop}{h:Hp}{u:U}{vv vb vs:V}(hk:∀l,F l->F' l)(a:tL F h u vv vb vs):tL F' h u vv vb vs:=⟨a.v.mono hk,a.b.mono hk,a.s.mono hk⟩
theorem tL.one{F:Nat->Prop}{h:Hp}{u:U}{vv vb vs:V}(a:tL F h u vv vb vs):fZ (uC u vv vb vs)=true:=by simp only[uC,eo,a.v.one,a.b.one,a.s.one];rfl
theorem iG.since{α:Type}{E:o0 α}{F F':Nat->Prop}{h h':Hp}{xs:List α}{v:V}(hs:iG E F h xs v)(s:Sn F h F' h'):iG E F' h' xs v:=(hs.fe s.fe).mono s.mono
theorem tL.since{F F':Nat->Prop}{h h':Hp}{u:U}{vv vb vs:V}(a:tL F h u vv vb vs)(s:Sn F h F' h'):tL F' h' u vv vb vs:=(a.fe s.fe).mono s.mono
section
variable{F F':Nat->Prop}{h h':Hp}{cs:List Pc}{Q:fq}{u:U}{vv vb vs:V}
structure zdd (h:Hp) (l o:Nat) (x:Vl) (w:V):Prop where
 op:eQ (.ptr l (o+0)) h=some (.I x.op)
 a:eQ (.ptr l (o+1)) h=some (.I x.a)
 b:eQ (.ptr l (o+2)) h=some (.I x.b)
 n:eQ (.ptr l (o+3)) h=some (.I x.n)
 args:eQ (.ptr l (o+4)) h=some w
 st:eQ (.ptr l (o+5)) h=some (.I x.state)
structure zcJ (h:Hp) (l o:Nat) (x:Bk) (v n p:V):Prop where
 ef:eQ (.ptr l (o+0)) h=some v
 fin:eQ (.ptr l (o+1)) h=some (.I x.fin)
 cond:eQ (.ptr l (o+2)) h=some (.I x.cond)
 next:eQ (.ptr l (o+3)) h=some n
 ez:eQ (.ptr l (o+4)) h=some p
 st:eQ (.ptr l (o+5)) h=some (.I x.state)
theorem tL.val(a:tL F h u vv vb vs){i:Nat}{x:Vl}(hx:u.ef[i]? =some x) :
  ∃l o w,F l/\hV 6 vv (.I i)=some (.ptr l o)/\fM 6 (.ptr l o) h=some (.agg (lW x w))/\iG eN F h x.args w/\zdd h l o x w:=by
 obtain⟨hi,rfl⟩:=jk.1 hx;obtain⟨l,o,w,c,d,e,⟨a,rfl,f⟩,b⟩:=a.v.ix hi .i64;exact⟨l,o,a,c,d,e,f,⟨b 0 _ rfl,b 1 _ rfl,b 2 _ rfl,b 3 _ rfl,b 4 _ rfl,b 5 _ rfl⟩⟩
theorem tL.vf(a:tL F h u vv vb vs){i:Nat}{x:Bk}(hx:u.blocks[i]? =some x) :
  ∃l o v n p,F l/\hV 6 vb (.I i)=some (.ptr l o)/\fM 6 (.ptr l o) h=some (.agg (kS x v n p))/\iG eN F h x.ef v/\iG eN F h x.next n/\iG eN F h x.ez p/\zcJ h l o x v n p:=by
 obtain⟨hi,rfl⟩:=jk.1 hx;obtain⟨l,o,w,d,e,f,⟨v,n,p,rfl,g,j,k⟩,c⟩:=a.b.ix hi .i64;exact⟨l,o,v,n,p,d,e,f,g,j,k,⟨c 0 _ rfl,c 1 _ rfl,c 2 _ rfl,c 3 _ rfl,c 4 _ rfl,c 5 _ rfl⟩⟩
theorem tL.st(a:tL F h u vv vb vs){i:Nat}{x:List Fm}(hx:u.eh[i]? =some x) :
  ∃l o f,F l/\hV 1 vs (.I i)=some (.ptr l o)/\fM 1 (.ptr l o) h=some (.agg [f])/\eQ (.ptr l o) h=some f/\iG eF F h x f:=by
 obtain⟨hi,rfl⟩:=jk.1 hx;obtain⟨l,o,w,b,c,d,⟨f,rfl,e⟩,g⟩:=a.s.ix hi .i64;exact⟨l,o,f,b,c,d,g 0 f rfl,e⟩
theorem iG.wB{fs:List Fm}{f:V}(a:iG eF F h fs f){i:Nat}{x:Fm}(hx:fs[i]? =some x) :
  ∃l o a b,F l/\hV 4 f (.I i)=some (.ptr l o)/\fM 4 (.ptr l o) h=some (.agg (Ji x a b))/\iG eN F h x.locals a/\iG eN F h x.stack b:=by
 obtain⟨hi,rfl⟩:=jk.1 hx;obtain⟨l,o,w,c,d,e,⟨a,b,rfl,g,j⟩,_⟩:=a.ix hi .i64;exact⟨l,o,a,b,c,d,e,g,j⟩
theorem iG.nat{xs:List Nat}{v:V}(a:iG eN F h xs v){i x:Nat}(hx:xs[i]? =some x)(kd:IntKind):∃l o,F l/\hV 1 v (.int kd (i:Nat))=some (.ptr l o)/\eQ (.ptr l o) h=some (.I x):=by
 obtain ⟨hi,rfl⟩:=jk.1 hx;obtain⟨l,o,w,c,d,e,b⟩:=a.Wj hi kd rfl;obtain rfl:w = .I (xs[i]:Nat):=by
  have:[w]=[V.I (xs[i]:Nat)]:=b
  simp_all
 grind
theorem iG.int{xs:List Int}{v:V}(a:iG eZ F h xs v){i:Nat}{x:Int}(hx:xs[i]? =some x)(kd:IntKind):∃l o,F l/\hV 1 v (.int kd (i:Nat))=some (.ptr l o)/\eQ (.ptr l o) h=some (.I x):=by
 obtain ⟨hi,rfl⟩:=jk.1 hx;obtain⟨l,o,w,c,d,e,b⟩:=a.Wj hi kd rfl;obtain rfl:w = .I xs[i]:=by
  have:[w]=[V.I xs[i]]:=b
  simp_all
 grind
theorem iG.bool{xs:List Bool}{v:V}(a:iG eB F h xs v){i:Nat}{x:Bool}(hx:xs[i]? =some x)(kd:IntKind):∃l o,F l/\hV 1 v (.int kd (i:Nat))=some (.ptr l o)/\eQ (.ptr l o) h=some (.bool x):=by
 obtain ⟨hi,rfl⟩:=jk.1 hx;obtain⟨l,o,w,c,d,e,b⟩:=a.Wj hi kd rfl;obtain rfl:w = .bool xs[i]:=by
  have:[w]=[V.bool xs[i]]:=b
  simp_all
 grind
theorem iG.list{α:Type}{E:o0 α}{xs:List (List α)}{v:V}(a:iG (eL E) F h xs v){i:Nat}{x:List α}(hx:xs[i]? =some x)(kd:IntKind):∃l o w,F l/\hV 1 v (.int kd (i:Nat))=some (.ptr l o)/\eQ (.ptr l o) h=some w/\iG E F h x w:=by
 obtain⟨hi,rfl⟩:=jk.1 hx;obtain⟨l,o,w,b,c,d,f,e,g⟩:=a.Wj hi kd rfl
 grind
theorem zs{t:Nat}{k:IntKind}{a b:Int}{A B:Prop}(h:if a=b then B else A):oP (eJ .neq t (.int k a) (.int k b)) λv=>bP v A B:=by
 simp_all
theorem WH{t:Nat}{k:IntKind}{a b:Int}{A B:Prop}(h:if b<=a then A else B):oP (eJ .geq t (.int k a) (.int k b)) λv=>bP v A B:=by
 simp_all
theorem ieq(a b:Nat):((a:Int) == (b:Int))=(a == b):=by
 grind
theorem ju{t:Nat}{k:IntKind}{a b:Int}{K:V->Prop}(h:K (.bool (decide (a=b)))):oP (eJ .eql t (.int k a) (.int k b)) K:=by
 rw[ie]
 grind[decide,oP]
def mz(op:Nat):Nat:=if two op=true then 2 else if pe op=true then 1 else 0
theorem K2{op:Nat}(H:Q (.I (mz op:Nat)) h):cP CS sN [.I op] h Q:=by
 refine PS rfl rfl ?_;unfold Jc;have r9:∀b:Bool,(b=true->pe op=true/\two op≠true)->(b=false->pe op≠true/\two op≠true)->gz CS Q (.bool b) h:=by
  intro b s t;refine LC ?_;unfold DP;rw[ll];unfold mz at H
  cases b with
  |true=>simp_all
  |false=>simp_all
 have r4:∀b:Bool,b=two op->gY CS Q (.I op) (.bool b) h:=by
  intro b hb;refine KK ?_;unfold Dz;rw[ll]
  cases b with
  |true=>simp_all[mz,if_pos]
  | false=>
    have m:two op≠true:=by rw[<-hb];simp
    rw[if_neg (by simp)];refine ju ?_;rw[ll];split
    ·grind[absurd,gz,CS,mz,Un.pe,Un.two,gz,CS,Un.two,Un.two]
    rename_i c;refine ju ?_;rw[ll];split
    ·grind[absurd,gz,CS,mz,Un.pe,Un.two,gz,CS,Un.two,Un.two]
    rename_i d;refine ju ?_;rw[ll];split
    ·grind[absurd,gz,CS,mz,Un.pe,Un.two,gz,CS,Un.two,Un.two]
    rename_i f;refine ju ?_;rw[ll];split
    ·grind[absurd,gz,CS,mz,Un.pe,Un.two,gz,CS,Un.two,Un.two]
    rename_i g;refine ju ?_;rw[ll];split
    ·grind[absurd,gz,CS,mz,Un.pe,Un.two,gz,CS,Un.two,Un.two]
    rename_i i;refine ju ?_;simp at c d f g i;refine r9 _ (λe=>⟨?_,m⟩) λe=>⟨?_,m⟩
    ·grind[Un.pe,mz,Un.pe,Un.two,gz,CS,Un.two,Un.two]
    ·have e:=of_decide_eq_false e
     intro hq;unfold pe at hq
     grind
 have a:∀n:Nat,(op:Int)=n->(two n=true)->two op=true:=by grind
 refine ju ?_;rw[ll];split
 ·rename_i e;exact r4 _ (e.trans (a 3 (by simp_all) rfl).symm)
 rename_i c;refine ju ?_;rw[ll];split
 ·rename_i e;exact r4 _ (e.trans (a 4 (by simp_all) rfl).symm)
 rename_i d;refine ju ?_;rw[ll];split
 ·rename_i e;exact r4 _ (e.trans (a 5 (by simp_all) rfl).symm)
 rename_i f;refine ju ?_;rw[ll];split
 ·rename_i e;exact r4 _ (e.trans (a 6 (by simp_all) rfl).symm)
 rename_i g;refine ju ?_;rw[ll];split
 ·rename_i e;exact r4 _ (e.trans (a 7 (by simp_all) rfl).symm)
 rename_i i;refine ju ?_;rw[ll];split
 ·rename_i e;exact r4 _ (e.trans (a 10 (by simp_all) rfl).symm)
 rename_i o;refine ju ?_;rw[ll];split
 ·rename_i e;exact r4 _ (e.trans (a 11 (by simp_all) rfl).symm)
 rename_i p;refine ju ?_;rw[ll];split
 ·rename_i e;exact r4 _ (e.trans (a 12 (by simp_all) rfl).symm)
 rename_i q;refine ju ?_;rw[ll];split
 ·rename_i e;exact r4 _ (e.trans (a 13 (by simp_all) rfl).symm)
 rename_i r;refine ju ?_;rw[ll];split
 ·rename_i e;exact r4 _ (e.trans (a 14 (by simp_all) rfl).symm)
 rename_i j;refine ju ?_;rw[ll];split
 ·rename_i e;exact r4 _ (e.trans (a 18 (by simp_all) rfl).symm)
 rename_i k;refine ju ?_;rw[ll];split
 ·rename_i e;exact r4 _ (e.trans (a 19 (by simp_all) rfl).symm)
 rename_i l;refine ju (r4 _ ?_);simp at c d f g i o p q r j k l;rw[Th];unfold two
 grind
theorem Ek{op:Nat}(H:Q (.bool (leaves op)) h):cP CS mG [.I op] h Q:=by
 refine N4 rfl rfl ?_
 grind[HH,leaves,Int,ieq,ie,iy,fy,pD,CS,Un.leaves]
theorem yi{a b:Nat}(H:Q (.bool (decide (a<b))) h):cP CS jX [.I a,.I b] h Q:=by
 refine QO rfl rfl ?_
 grind[Jg,pq,iy,fy,qO,jD,decide,Int,CS]
theorem yQ{xs:List Nat}{a b:V}(c:iG eN F h xs a)(hb:iG eN F h xs b)(q:xs.length<1000000000)(H:Q (.bool true) h):cP CS gJ [a,b] h Q:=by
 refine BT rfl rfl ?_;unfold tR;refine ed c.len (ed hb.len (zs (gI rfl (ed c.len ?_))));refine zg (λk d e f g h'=>∃i:Nat,d=a/\e=b/\f = .I xs.length/\g = .I (i:Nat)/\i+k=xs.length/\h' = h) ?_ (k:=xs.length) (by simp_all);rintro k d e f g h' ⟨i,rfl,rfl,rfl,rfl,hk,rfl⟩;unfold ql;by_cases hi:i<xs.length
 ·refine gR ?_;obtain⟨l,o,_,j,m⟩:=c.nat (g0 hi) .i64;obtain⟨r,s,_,n,p⟩:=hb.nat (g0 hi) .i64;refine ed j (ed m (ed n (ed p (zs (gI rfl ?_)))));exact fS ⟨k-1,by omega,i+1,rfl,rfl,rfl,rfl,by omega,rfl⟩
 ·exact jf H
end
open Un
theorem Ka(x:Vl):gO x=([x.a,x.b].take (mz x.op))++(if x.op=20 then x.args.take 1 else if x.op=21 then x.args else[]):=by
 unfold gO mz;by_cases c:x.op=21
 ·grind[two,pe]
 ·rw[if_neg c];by_cases d:x.op=20
  ·grind[two]
  grind
section
variable{F F':Nat->Prop}{h h':Hp}{cs:List Pc}{Q:fq}{u:U}{vv vb vs:V}
theorem Py{x:Vl}(a:x.op=21\/x.op=20->x.args.length<=700):(gO x).length<=1000:=by
 rw[Ka]
 grind
theorem BI(T:ej F h cs){x:Vl}{c:V}(P:iG eN F h x.args c)(R:x.op=21\/x.op=20->x.args.length<=1000000)(H:∀F' h' v,Sn F h F' h'->ej F' h' cs->iG eN F' h' (gO x) v->Q v h'):cP CS mc [.agg (lW x c)] h Q:=by
 refine RH rfl rfl ?_;unfold LB;have U:fZ (lW x c)=true:=by simp only[lW,eo,P.one];rfl
 rw[Ep U,fF];obtain⟨C,D⟩:=T.yO gi (lW x c);have n1:(h.new (.cells 40 1 true false (lW x c))).next=h.next+1:=rfl;have C:ej F (h.new (.cells 40 1 true false (lW x c))) (er h.next gi (lW x c)::cs):=C;have D:Sn F h F (h.new (.cells 40 1 true false (lW x c))):=D;generalize h.new (.cells 40 1 true false (lW x c))=d at*;rw[Di,gZ];obtain⟨s,G⟩:=C.Vz (E:=eN) (xs:=[]) (ws:=[]) (n:=0) en rfl trivial rfl;have s:ej F (d.new (.cells 3 1 true false [])) (ev eN en [] (.slice d.next 0 0)::er h.next gi (lW x c)::cs):=s;have G:Sn F d F (d.new (.cells 3 1 true false [])):=G;have g2:(d.new (.cells 3 1 true false [])).get d.next=some (.cells 3 1 true false []):=fi _ _;have n2:(d.new (.cells 3 1 true false [])).next=d.next+1:=rfl;generalize d.new (.cells 3 1 true false [])=i at*;refine ed (by rfl) (ed (s.ld 1 rfl rfl) (ed (by rfl) (ed (s.ld 1 rfl rfl) ?_)));rw[nx2,gZ];obtain⟨j,I⟩:=s.Vz (E:=eN) (xs:=[x.a,x.b]) (ws:=iT [x.a,x.b]) (n:=2) en rfl (wh _ _ _) (LN _);have j:ej F (i.new (.cells 3 1 true false (iT [x.a,x.b]))) (ev eN en [x.a,x.b] (.slice i.next 0 2)::ev eN en [] (.slice d.next 0 0)::er h.next gi (lW x c)::cs):=j;have I:Sn F i F (i.new (.cells 3 1 true false (iT [x.a,x.b]))):=I;have g3:(i.new (.cells 3 1 true false (iT [x.a,x.b]))).get i.next=some (.cells 3 1 true false (iT [x.a,x.b])):=fi _ _;have W:(i.new (.cells 3 1 true false (iT [x.a,x.b]))).get d.next=some (.cells 3 1 true false []):=by grind[fh,trans]
 generalize i.new (.cells 3 1 true false (iT [x.a,x.b]))=X at*;refine ed (by rfl) (ed (j.ld 2 rfl rfl) ⟨by simp_all,j.ld 2 rfl rfl,j.ld 2 rfl rfl,by simp_all,?_⟩);refine K2 ⟨jb _,?_⟩;have Y:mz x.op<=2:=by
  unfold mz;split
  ·omega
  ·grind
 obtain⟨t,J,S⟩:=j.ZN 0 rfl (n:=mz x.op) Y;refine ed J ⟨by simp_all,j.ld 2 rfl rfl,j.ld 2 rfl rfl,by simp_all,?_⟩;simp only[jx]at S;obtain⟨g,r,K,Z,k,s5⟩:=S.zaQ 1 0 rfl rfl (kj:=8) (by decide) (by decide) (by simp;omega);have u:eR 3 1 8 (.slice d.next 0 0) t X=some (.val g r):=K;rw[u,ei];refine⟨Z,?_⟩;simp only[lU,jx,MR]at k;have w:=((D.trans G).trans I).trans s5;have o:iG eN F r x.args c:=(P.fe w.fe)
 have p:∀(F':Nat->Prop) (h':Hp) (v:V) (l:List Nat),Sn F r F' h'->ej F' h' (ev eN en ([x.a,x.b].take (mz x.op)) t::ev eN en l v::er h.next gi (lW x c)::cs)->l=gO x->qQ CS Q v h':=by
  intro F' h' v l sF HF L;subst L;refine Mh ?_;unfold FA;obtain⟨y,z,r6⟩:=HF.lH 1 rfl;exact H _ _ v ((w.trans sF).trans z) y.tail.tail.tail r6
 refine ed (by rfl) (ed (k.ld 2 rfl rfl) ?_);by_cases M:x.op=20
 ·have R:=by omega
  refine gM (gI (by omega) ?_);refine ed (by rfl) (ed (k.ld 2 rfl rfl) (ed (by rfl) (ed (k.ld 2 rfl rfl) (ed o.len (ed (PK _ _ _ _) ?_)))));have em:(if false=true then max (1:Int) (x.args.length:Nat) else min (1:Int) (x.args.length:Nat))=((min 1 x.args.length:Nat):Int):=by simp;omega
  rw[em];obtain⟨N,O,A⟩:=o.cut (lo:=none) (hi:=some (.I ((min 1 x.args.length:Nat):Int))) (m:=0) (n:=min 1 x.args.length) rfl (by rfl) (Jw _) (by omega);refine ed O ?_;rw[X9]at A;obtain⟨e,B,q,n6,y,z⟩:=k.NI 1 rfl (kj:=8) A (by decide) (by decide) (by simp;omega);have f:eR 3 1 8 g N r=some (.val e B):=q;rw[f,ei];refine p F B e _ z y ?_;rw[Ka,if_pos M]
  simp_all
 refine gM (gv (by omega) ?_);by_cases aa:x.op=21
 ·have R:=by omega
  refine gM (gI (by omega) ?_);refine ed (by rfl) (ed (k.ld 2 rfl rfl) ?_);obtain⟨e,B,q,n6,y,z⟩:=k.NI 1 rfl (kj:=8) o (by decide) (by decide) (by simp;omega);have f:eR 3 1 8 g c r=some (.val e B):=q;rw[f,ei];refine p F B e _ z y ?_
  simp_all[Ka,if_neg,if_pos]
 ·refine gM (gv (by omega) ?_);refine p F r g _ (Sn.refl _ _) k ?_
  simp_all[Ka,if_neg,HU]
end
open Un
theorem pf{l o k:Nat}:fQ k (.ptr l o)=some (.ptr l (o+k)):=fR _ _ _
theorem pn{l o:Nat}:gU (.ptr l o)=some (.ptr l o):=fI _ _
theorem bq{e sz:Nat}{a b:Bool}{cs:List V}:O.beq (.cells e sz a b cs) (.cells e sz a b cs)=true:=O.lC _ _ _ _ _
theorem hZ{X:Option V}{K:V->Prop}(h:oP X K):oP (gq false (.bool false)) λb=>oP (gV b X) K:=h
theorem gL{X:Option V}{K:V->Prop}(h:oP X K):oP (gq true (.bool true)) λb=>oP (gV b X) K:=h
theorem oe{X:Option V}{K:V->Prop}(h:K .undef):oP (gq true (.bool false)) λb=>oP (gV b X) K:=h
theorem vw{C:fm}{f:Nat}{a:List V}{h:Hp}{K:fq}(H:cP C f a h K):oP (gq false (.bool false)) λb=>oP (gC b (some (f,a))) λy=>vD C y h K:=H
theorem uj{C:fm}{f:Nat}{a:List V}{h:Hp}{K:fq}(H:cP C f a h K):oP (gq true (.bool true)) λb=>oP (gC b (some (f,a))) λy=>vD C y h K:=H
theorem Xe{C:fm}{f:Nat}{a:List V}{h:Hp}{K:fq}(H:K .undef h):oP (gq true (.bool false)) λb=>oP (gC b (some (f,a))) λy=>vD C y h K:=H
theorem wW{b:Bool}{A B:Prop}(h:if b=true then B else A):oP (vC .not (.bool b)) λv=>bP v A B:=by
 cases b <;> exact h
theorem NH{X:Option V}{K:V->Prop}(a:X=some (.bool false))(H:K (.bool false)):oP (uP (.bool false) X) K:=by simp_all
theorem TS{b:Bool}{K:V->Prop}(h:K (.bool (!b))):oP (vC .not (.bool b)) K:=h
section
variable{F F':Nat->Prop}{h h':Hp}{cs:List Pc}{Q:fq}{u:U}{vv vb vs:V}
theorem gQ{T n:Nat}{b ws:List V}{K:fq}(H:ej F h cs)(d:b.length=n)(e:ws.length=n)(c:fZ ws=true)(f:∀a,ej F a (er h.next T ws::cs)->Sn F h F a->K (.ptr h.next 0) a) :
  gX (some (O.cells T 1 true false b,λl=>V.ptr l 0)) h λv c=>fc (gh n v (.agg ws) c) λ_ a=>K v a:=by
 rw[fF];obtain⟨g,i⟩:=H.yO T b;obtain⟨a,j,_,k,m⟩:=g.Uf 0 rfl e d c;rw[j,ei];exact f a k (i.trans m)
theorem jP{T:Nat}{ws:List V}{K:fq}(H:ej F h cs)(b:fZ ws=true)(c:∀a,ej F a (er h.next T ws::cs)->Sn F h F a->K (.ptr h.next 0) a):gX (mm T (.agg ws)) h K:=by
 rw[Ep b,fF];obtain⟨d,e⟩:=H.yO T ws;exact c _ d e
theorem Oz{T:Nat}(xs:List Nat){ps:Option (O×(Nat->V))}(hx:ps=some (O.cells T 1 true false (iT xs),λl=> .slice l 0 xs.length)){K:fq}(H:ej F h cs)
  (b:∀F' a v,ej F' a cs->Sn F h F' a->iG eN F' a xs v->K v a):gX ps h K:=by
 subst hx;rw[fF];obtain⟨c,d,r1⟩:=H.Y3 (E:=eN) T rfl (wh F h xs) false;exact b _ _ _ c d r1
theorem mN{T:Nat}(x:Nat):jd T 1 1 (V.I 0) [(0,V.I x)]=some (.cells T 1 true false (iT [x]),λl=> .slice l 0 1):=rfl
structure Ck (F:Nat->Prop) (h:Hp) (cs:List Pc) (lc:Nat) (u:U) (vv vb vs bl pl CZ:V):Prop where
 H:ej F h cs
 c:∃(i ty:Nat),cs[i]? =some (er lc ty [.I u.func,.I u.pc,vv,vb,vs,bl,pl,CZ])
 u:tL F h u vv vb vs
variable{lc:Nat}{bl pl CZ:V}
theorem Ck.since(C:Ck F h cs lc u vv vb vs bl pl CZ)(s:Sn F h F' h')(a:ej F' h' cs):Ck F' h' cs lc u vv vb vs bl pl CZ:=⟨a,C.c,C.u.since s⟩
theorem Ck.cons(C:Ck F h cs lc u vv vb vs bl pl CZ)(s:Sn F h F' h'){p:Pc} (a:ej F' h' (p::cs)):Ck F' h' (p::cs) lc u vv vb vs bl pl CZ:=
 ⟨a,let⟨i,ty,hc⟩:=C.c;⟨i+1,ty,hc⟩,C.u.since s⟩
theorem Ck.ld(C:Ck F h cs lc u vv vb vs bl pl CZ)(o:Nat){y:V}(a:[.I u.func,.I u.pc,vv,vb,vs,bl,pl,CZ][o]? =some y):eQ (.ptr lc o) h=some y:=
 let⟨i,_,hc⟩:=C.c;C.H.ld i hc a
theorem KT{a0 c:V}{n:Nat}(m:n<1000000)(P:(Nat->Prop)->Hp->Prop)(h0:P F h)
  (step:∀i,i<n->∀F' h',P F' h'->∀e:V->Hp->Prop,(∀a b,P a b->e (.bool true) b)->gN CS (fO c [.I (i:Nat)]) h' e) (H:∀F' h',P F' h'->Q (.bool true) h') :
  cP CS jq [a0,.I n,c] h Q:=by
 refine HQ rfl rfl ?_;unfold zK;refine Df (λk f g j h'=>∃(F':Nat->Prop) (i:Nat),f = .I n/\g=c/\j = .I i/\i+k=n/\P F' h') ?_ (k:=n) ⟨F,0,rfl,rfl,rfl,by omega,h0⟩;rintro k f g j h' ⟨F',i,rfl,rfl,rfl,hk,l⟩;unfold wm;by_cases hi:i<n
 ·refine gR ?_;refine step i hi F' h' l _ λa b d=>?_;refine wW (gI rfl ?_);exact fS ⟨k-1,by omega,a,i+1,rfl,rfl,rfl,by omega,d⟩
 ·exact jf (H F' h' l)
theorem GS(C:Ck F h cs lc u vv vb vs bl pl CZ){l:List Nat}{v:V}(b:iG eN F h l v)(q:l.length<1000000)(g:∀w∈l,mq u w)(H:Q (.bool true) h):cP CS iM [.ptr lc 0,v] h Q:=by
 refine EL rfl rfl ?_;unfold xA;refine ed b.len ?_;refine Bb (λk c d e f h'=>∃i:Nat,c = .ptr lc 0/\d=v/\e = .I l.length/\f = .I (i:Nat)/\i+k=l.length/\h' = h) ?_ (k:=l.length) ⟨0,rfl,rfl,rfl,rfl,by omega,rfl⟩;rintro k c d e f h' ⟨i,rfl,rfl,rfl,rfl,hk,rfl⟩;unfold uA;by_cases hi:i<l.length
 ·refine gR ?_;obtain⟨l1,r,_,j,m⟩:=b.nat (g0 hi) .i64;obtain⟨x,hx,gx⟩:=g _ (EA hi);have a:=(jk.1 hx).1;refine ed j (ed m (ed (fI _ _) (ed (fR _ _ _) (oF (C.ld 2 rfl) (ed C.u.v.len ?_)))));refine yi (wW (gI (by simpa using a) ?_));obtain⟨l2,s,t,_,n,_,_,o⟩:=C.u.val hx;refine ed (fI _ _) (ed (fR _ _ _) (oF (C.ld 2 rfl) (ed n (oF o.op ?_))));have p:x.op<19\/x.op=21:=by
   unfold LG at gx;simpa using gx
  refine ju (jF (gv (by simp;omega) ?_));refine ju (jF (gv (by simp;omega) ?_));refine ju (jF (gv (by simp;omega) ?_));refine ju ?_;rw[O9 (by omega)];refine A2 ?_;unfold se;refine jF (gv (by simp) ?_);exact fS ⟨k-1,by omega,i+1,rfl,rfl,rfl,rfl,by omega,rfl⟩
 ·exact jf H
theorem W2(C:Ck F h cs lc u vv vb vs bl pl CZ){i:Nat}{fs:List Fm}(hs:u.eh[i]? =some fs)(E:1<=fs.length/\fs.length<=30)(w:∀f∈fs,f.locals.length<=40/\f.stack.length<=60/\(∀v∈f.locals,mq u v)/\∀v∈f.stack,mq u v)
  (H:∀h',Sn F h F h'->ej F h' cs->Q (.bool true) h'):cP CS lJ [.ptr lc 0,.I i] h Q:=by
 refine E2 rfl rfl ?_;unfold xK;obtain⟨l1,G,f,_,x,y,_,q⟩:=C.u.st hs;refine ed (fI _ _) (ed (fR _ _ _) (oF (C.ld 4 rfl) (ed x (ed y ?_))));refine gQ C.H rfl rfl (by simp[q.one]) λI n r=>?_;have r2:=q.since r;refine oF (n.ld 0 rfl rfl) (ed r2.len (ju ?_));rw[O9 (by omega),qd,fR,fy,n.ld 0 (o:=0+0) rfl rfl,fy,r2.len,fy,pS];refine ed rfl (jF (gv (by simp;omega) ?_));refine oF (n.ld 0 rfl rfl) (ed r2.len ?_);have C2:=C.since r n.tail
 refine Ba (λk t c d e h'=>∃j:Nat,t = .ptr lc 0/\c=f/\d = .I fs.length/\e = .I (j:Nat)/\j+k=fs.length/\Sn F h F h'/\Ck F h' cs lc u vv vb vs bl pl CZ) ?_ (k:=fs.length)
  ⟨0,rfl,rfl,rfl,rfl,by omega,r,C2⟩
 rintro k t c d e h' ⟨j,rfl,rfl,rfl,rfl,hk,s',s⟩;unfold ur;by_cases hj:j<fs.length
 ·refine gR ?_;obtain⟨l3,J,a,b,_,z,A,g,l⟩:=(q.since s').wB (g0 hj);refine ed z (ed A ?_);obtain⟨K,L,B,D⟩:=w _ (EA hj);refine gQ s.H rfl rfl (by simp only[Ji,eo,g.one,l.one];rfl) λM m p=>?_;have g:=g.since p;have l:=l.since p;have C3:=s.since p m.tail;refine oF (m.ld 0 rfl rfl) (ed g.len ?_);refine ed (pS _ _ _ _) ?_;rw[O9 (by omega),qd,fR,fy,m.ld 0 (o:=0+3) rfl rfl,fy,l.len,fy,pS,O9 (by omega)];refine ed rfl (hZ (ed rfl (hZ (ed (fR _ _ _) (hZ (ed (m.ld 0 rfl rfl) (vw ?_)))))));refine GS C3 g (by omega) B (ed rfl (hZ (ed rfl (hZ (ed (fR _ _ _) (hZ (ed (m.ld 0 rfl rfl) (vw ?_))))))));refine GS C3 l (by omega) D (ed rfl (jF (gv (by simp) ?_)));exact fS ⟨k-1,by omega,j+1,rfl,rfl,rfl,rfl,by omega,s'.trans p,C3⟩
 ·exact jf (H h' s' s.H)
end
