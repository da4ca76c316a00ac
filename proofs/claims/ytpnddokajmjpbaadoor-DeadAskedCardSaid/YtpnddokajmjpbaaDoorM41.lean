/- Parts. -/
import Derived.Test.YtpnddokajmjpbaaDoorM38
import Derived.Test.YtpnddokajmjpbaaDoorM40
namespace Go.Proofs.YtpnddokajmjpbaaDoor.Hx
open Go.Proofs.YtpnddokajmjpbaaDoor.Un Go.Proofs.YtpnddokajmjpbaaDoor.Dm
theorem DS.perm {u:U}{D:Nat->Prop}{mk:List Bool} {wl a:List Nat}(d:DS u D mk wl)(c:∀v,v∈wl↔v∈a)(e:wl.length=a.length):DS u D mk a:=
 ⟨d.len,d.sound,λv b=>d.work v ((c v).2 b),λv b=>(d.closed v b).imp (c v).1 id,by rw[<-e];exact d.less,d.done⟩
theorem DS.ofD{u:U}{D D':Nat->Prop}{mk:List Bool}{wl:List Nat}(d:DS u D mk wl)(h:∀v,D' v->mk[v]? =some true):DS u D' mk wl:=⟨d.len,d.sound,d.work,d.closed,d.less,h⟩
def StV (u:U)(i s:Nat):Prop:=∃(j:Nat)(x:Vl),j<i/\u.vals[j]? =some x/\leaves x.op=true/\x.state=s
def StB (u:U)(i s:Nat):Prop:=∃(b:Nat)(B:Bk),b<i/\u.blocks[b]? =some B/\B.fin=3/\B.state=s
theorem De {st:List Bool}{s t:Nat}(h:st[t]? =some true):(st.set s true)[t]? =some true:=by
 by_cases e:t=s
 ·subst e;exact wAK (wAB.1 h).1
 ·rw[wAN λh=>e h.symm];exact h
section
variable{F F':Nat->Prop}{h h':Hp}{cs ds:List Pc}{Q:QP1}{u:U}{vv vb vs:V}
theorem GQ (H:Q (.bool true) h):cP CS jT [] h Q:=by
 obtain⟨fn,c,a,b⟩:=bodyKnown;exact cP.known a b (show CS.K jT [] h=some (.bool true) from rfl) rfl rfl H
structure Lw where
 a:Nat
 s:Nat
 t:Nat
 f:Nat
 Ta:Nat
 Ts:Nat
 Tt:Nat
 Tf:Nat
abbrev Aw (w:Lw) (ak:List Bool) (av:V) (st:List Bool) (sv:V) (wl:List Nat) (tv:V) (ds:List Pc):List Pc:=
 rowP eB tyBool ak av::quP tyInt wl tv::cellP w.t w.Tt [tv]::cellP w.a w.Ta [av]::rowP eB tyBool st sv::cellP w.s w.Ts [sv]::cellP w.f w.Tf [.func fO [] [.ptr w.a 0,.ptr w.t 0]]::ds
variable{w:Lw}{ak st:List Bool}{av sv tv:V}{wl:List Nat}
theorem AY (d:Hold F h (Aw w ak av st sv wl tv ds)){n:Nat}(p:n<ak.length)(J:wl.length+2*ak.count false<100000)
  (H:∀h' e f g,Sn F h F h'->Mk ak wl [n] e f->Hold F h' (Aw w e av st sv f g ds)->Q (.tuple []) h') :
  cP CS fO [.int .i64 n,.ptr w.a 0,.ptr w.t 0] h Q:=by
 refine rj rfl rfl ?_;unfold ke;obtain⟨b,i⟩:∃b,ak[n]? =some b:=⟨_,wAA p⟩
 obtain⟨l1,K,s,v⟩:=d.boolR 0 rfl i .i64;refine d9 (d.ld 3 rfl rfl) (d9 s (d9 v (jE ?_)))
 cases b with
 |true=>exact if_t rfl (H h ak wl tv (Sn.refl _ _) (Mk.skip i) d)
 | false=>
   refine if_f (by simp) ?_;obtain⟨l2,L,q,x,z,_,j,A⟩:=d.stR 0 rfl (k:=n) (y:=true) (u:=V.bool true) p rfl rfl rfl;refine d9 (d.ld 3 rfl rfl) (d9 x ?_);rw[z,ec];simp only[wAC]at j;refine d9 (j.ld 2 rfl rfl) ?_;rw[iY,ev];obtain⟨c,B,C,_,l,D⟩:=j.pushQ 1 rfl (by_:=8) (ety:=3) (y:=n) (ro:=false) (by decide) (by omega);have m:happend 3 1 8 tv (.slice q.next 0 1) (q.new (.cells 3 1 true false (nats [n])))=some (.val c B):=C;rw[m,ec];simp only[wAC,wAE]at l;obtain⟨E,G,_,r,I⟩:=l.st 2 (o:=0) (u:=c) rfl (by simp) (l.oneQ 1 rfl);rw[G,ec];simp only[wAC,wAE]at r;exact H E _ _ c ((A.trans D).trans I) (Mk.put i) r
theorem CI (g:Good u){lv J:Nat}(hu:URd F h u vv vb vs)(H0:Hold F h (Aw w ak av st sv wl tv (cellP lv J (uC u vv vb vs)::ds)))(am:ak.length=u.vals.length)(an:st.length=u.states.length){s:Nat}{fs:List Fm}(e:u.states[s]? =some fs)(hb:wl.length+2*ak.count false<100000)
  (H:∀h' a b c,Sn F h F h'->Mk ak wl (frames fs) a b->Hold F h' (Aw w a av (st.set s true) sv b c (cellP lv J (uC u vv vb vs)::ds))->Q (.tuple []) h') :
  cP CS fN [.int .i64 s,.ptr w.s 0,.ptr lv 0,.ptr w.f 0] h Q:=by
 refine rg rfl rfl ?_;unfold j5;have pf:∀{l o k:Nat},pFA k (.ptr l o)=some (.ptr l (o+k)):=ed _ _ _;obtain⟨q2,q3⟩:=rV g s fs e;have M:=qi g e;have ao:=(wAB.1 e).1;obtain⟨l2,o2,h2,e1,e2,_,H2,s2⟩:=H0.stR 4 rfl (k:=s) (y:=true) (u:=V.bool true) (by omega) rfl rfl rfl;refine d9 (H0.ld 5 rfl rfl) (d9 e1 ?_);rw[e2,ec];simp only[wAC,wAE]at H2;obtain⟨I,hI⟩:∃I:Nat->LP,I=λk l h'=>∃(j:Nat) (a:List Bool) (b:List Nat) (c:V),l=[.int .i64 s,.ptr lv 0,.ptr w.f 0,.int .i64 j]/\j+k=fs.length/\Sn F h F h'/\Mk ak wl (frames (fs.take j)) a b/\Hold F h' (Aw w a av (st.set s true) sv b c (cellP lv J (uC u vv vb vs)::ds)):=⟨_,rfl⟩
 refine pS I (λk x0 x2 q x5 h3 hi=>?_) (k:=fs.length) ?_;rotate_left
 ·rw[hI];exact⟨0,ak,wl,tv,rfl,by omega,s2,by rw[wBU];exact Mk.refl _ _,H2⟩
 clear H2 s2 e1 e2;rw[hI]at hi;obtain⟨j,i,n,r,⟨⟩,hk,s3,N,X⟩:=hi;unfold jq;obtain⟨lx,ox,f,_,x1,_,q,xf⟩:=(hu.since s3).st e;have q:pLd (.ptr lx (ox+0)) h3=some f:=q;refine oF (X.ld 7 rfl rfl) (d9 x1 (oF q (d9 xf.len ?_)));by_cases hj:j<fs.length;rotate_left
 ·refine ltNo ?_;obtain rfl:j=fs.length:=by omega
  rw[wAg]at N;exact H h3 i n r s3 N X
 refine ltYes ?_;have hx:=wAA hj;have aa:=wAT hj;have d:=wAR hj;generalize fs[j]=x at*;obtain⟨r1,r2⟩:=q3 x d;have ab:∀v∈x.locals,v<u.vals.length:=λv t=>M v (wAy.2 ⟨x,d,wAu _ t⟩);have ac:∀v∈x.stack,v<u.vals.length:=λv t=>M v (wAy.2 ⟨x,d,wBc _ t⟩);obtain⟨ly,oy,xa,xb,_,y1,y2,ya,yb⟩:=xf.frm hx;refine oF (X.ld 7 rfl rfl) (d9 x1 (oF q (d9 y1 (d9 y2 ?_))));refine fU X rfl rfl (by simp only[fmC,ee,ya.one,yb.one];rfl) λh4 Y s4=>?_;generalize h3.next=O at*;have Y:Hold F h4 (Aw w i av (st.set s true) sv n r (cellP O 40 (fmC x xa xb)::cellP lv J (uC u vv vb vs)::ds)):=Y.toTail 7 (by simp);have l3:=N.less;obtain⟨I1,p⟩:∃I:Nat->LP,I=λk l h'=>∃(m:Nat) (a:List Bool) (b:List Nat) (c:V),l=[.int .i64 s,.ptr lv 0,.ptr w.f 0,.int .i64 j,.ptr O 0,.int .i64 m]/\m+k=x.locals.length/\Sn F h4 F h'/\Mk i n (x.locals.take m) a b/\Hold F h' (Aw w a av (st.set s true) sv b c (cellP O 40 (fmC x xa xb)::cellP lv J (uC u vv vb vs)::ds)):=⟨_,rfl⟩
 refine pT I1 (λk1 x0 x2 q x5 x6 x7 h5 hi=>?_) (k:=x.locals.length) ?_;rotate_left
 ·rw[p];exact⟨0,i,n,r,rfl,by omega,Sn.refl _ _,by rw[wBU];exact Mk.refl _ _,Y⟩
 clear Y;rw[p]at hi;obtain⟨m,P,R,ae,⟨⟩,S,Z,T,K⟩:=hi;unfold jr;have U:=(ya.since s4).since Z;have ag:=(yb.since s4).since Z;have l5:=T.less;have n5:=T.len;have n3:=N.len;refine oF (K.ld 7 rfl rfl) (d9 U.len ?_);by_cases hm:m<x.locals.length
 ·refine ltYes ?_;have t:=wAA hm;have z:=wAT hm;have ah:=ab _ (wAR hm);generalize x.locals[m]=v at*;obtain⟨lz,oz,_,z1,z2⟩:=U.nat t .i64;refine d9 (K.ld 6 rfl rfl) (oF (K.ld 7 rfl rfl) (d9 z1 (d9 z2 ?_)));simp only[jS,lE,wAl,wBC];refine AY K (by omega) (by omega) λh6 A B C L D E=>⟨L.next,?_⟩
  refine addOne ⟨k1-1,by omega,?_⟩;rw[p];exact⟨m+1,A,B,C,rfl,by omega,Z.trans L,by rw[z];exact T.trans D,E⟩
 refine ltNo ?_;obtain rfl:m=x.locals.length:=by omega
 rw[wAg]at T;clear hm S p I1;obtain⟨I2,G⟩:∃I:Nat->LP,I=λk l h'=>∃(m:Nat) (a:List Bool) (b:List Nat) (c:V),l=[.int .i64 s,.ptr lv 0,.ptr w.f 0,.int .i64 j,.ptr O 0,.int .i64 m]/\m+k=x.stack.length/\Sn F h5 F h'/\Mk P R (x.stack.take m) a b/\Hold F h' (Aw w a av (st.set s true) sv b c (cellP O 40 (fmC x xa xb)::cellP lv J (uC u vv vb vs)::ds)):=⟨_,rfl⟩
 refine pU I2 (λk1 x0 x2 q x5 x6 x7 h6 hi=>?_) (k:=x.stack.length) ?_;rotate_left
 ·rw[G];exact⟨0,P,R,ae,rfl,by omega,Sn.refl _ _,by rw[wBU];exact Mk.refl _ _,K⟩
 clear K;rw[G]at hi;obtain⟨m,A,B,C,⟨⟩,S,L,D,E⟩:=hi;unfold jp;have W:=ag.since L;have l6:=D.less;have n6:=D.len;refine oF (E.ld 7 rfl rfl) (d9 W.len ?_);by_cases hm:m<x.stack.length
 ·refine ltYes ?_;have t:=wAA hm;have z:=wAT hm;have ah:=ac _ (wAR hm);generalize x.stack[m]=v at*;obtain⟨lz,oz,_,z1,z2⟩:=W.nat t .i64;refine d9 (E.ld 6 rfl rfl) (oF (E.ld 7 rfl rfl) (d9 z1 (d9 z2 ?_)));simp only[jS,lE,wAl,wBC];refine AY E (by omega) (by omega) λh7 ai aj al s7 m7 H7=>⟨s7.next,?_⟩
  refine addOne ⟨k1-1,by omega,?_⟩;rw[G];exact⟨m+1,ai,aj,al,rfl,by omega,L.trans s7,by rw[z];exact D.trans m7,H7⟩
 refine ltNo ?_;obtain rfl:m=x.stack.length:=by omega
 rw[wAg]at D;refine addOne ⟨k-1,by omega,?_⟩;rw[hI];refine⟨j+1,A,B,C,rfl,by omega,((s3.trans s4).trans Z).trans L,?_,E.fromTail 7 (by simp)⟩;rw[aa,Am];exact N.trans (T.trans D)
end
open Go.Proofs.YtpnddokajmjpbaaDoor.Un Go.Proofs.YtpnddokajmjpbaaDoor.Dm
section
variable{F F':Nat->Prop}{h h':Hp}{cs ds:List Pc}{Q:QP1}{u:U}{vv vb vs:V}
theorem Iq{u:U}(h:AL u.vals):Args u:=λv x a=>wAq (h x (wAI a)) (by decide)
abbrev sF (w:Lw)(lv:Nat):V:= .func fN [] [.ptr w.s 0,.ptr lv 0,.ptr w.f 0]
theorem Gc {w:Lw}{ak st:List Bool}{av sv tv:V}{wl:List Nat}(b:Hold F h (Aw w ak av st sv wl tv ds))(c:∀i,i<ak.length->ak[i]? =some true)(d:∀i,i<st.length->st[i]? =some true)(la:ak.length<=3000)(o:st.length<=1000)(H:Q (.bool true) h) :
  hZ CS Q [.ptr w.a 0,.ptr w.s 0,.int .i64 0] h:=by
 refine qU (λk l h'=>∃i:Nat,l=[.ptr w.a 0,.ptr w.s 0,.int .i64 (i:Nat)]/\i+k=ak.length/\h' = h) ?_ (k:=ak.length) ⟨0,rfl,by omega,rfl⟩;rintro k _ _ _ h ⟨i,⟨⟩,p,rfl⟩;unfold jP;refine d9 (b.ld 3 rfl rfl) (d9 (b.len 0 rfl) ?_);by_cases hi:i<ak.length
 ·refine ltYes ?_;obtain⟨l1,g,e,f⟩:=b.boolR 0 rfl (c i hi) .i64;refine d9 (b.ld 3 rfl rfl) (d9 e (d9 f (jE (if_t rfl ?_))));exact addOne ⟨k-1,by omega,i+1,rfl,by omega,rfl⟩
 refine ltNo ?_;refine qP (λk l h'=>∃i:Nat,l=[.ptr w.s 0,.int .i64 (i:Nat)]/\i+k=st.length/\h' = h) ?_ (k:=st.length) ⟨0,rfl,by omega,rfl⟩;rintro m _ _ h ⟨j,⟨⟩,n,rfl⟩;unfold jJ;refine d9 (b.ld 5 rfl rfl) (d9 (b.len 4 rfl) ?_);by_cases hj:j<st.length
 ·refine ltYes ?_;obtain⟨l1,g,e,f⟩:=b.boolR 4 rfl (d j hj) .i64;refine d9 (b.ld 5 rfl rfl) (d9 e (d9 f (jE (if_t rfl ?_))));exact addOne ⟨m-1,by omega,j+1,rfl,by omega,rfl⟩
 exact ltNo H
theorem EH (g:Good u){w:Lw}{ak st:List Bool}{av sv tv:V}{wl:List Nat}{lv E:Nat}(Z:Hold F h (Aw w ak av st sv wl tv (cellP lv E (uC u vv vb vs)::ds)))(hu:URd F h u vv vb vs)(d:DS u (Root u) ak wl)(b:∀i,i<u.vals.length->Live u i)(ab:st.length=u.states.length)(G:∀i,i<st.length->st[i]? =some true)(H:∀h',Q (.bool true) h') :
  hK CS Q [.ptr lv 0,.ptr w.a 0,.ptr w.s 0,.ptr w.t 0,.ptr w.f 0] h:=by
 have nv:=g.nv;have ns:=g.ns;have pf:∀{l o k:Nat},pFA k (.ptr l o)=some (.ptr l (o+k)):=ed _ _ _;obtain⟨I,J⟩:∃I:Nat->LP,I=λk l h'=>∃(F':Nat->Prop) (ak:List Bool) (wl:List Nat) (tv:V),l=[.ptr lv 0,.ptr w.a 0,.ptr w.s 0,.ptr w.t 0,.ptr w.f 0]/\k=wl.length+2*ak.count false/\Sn F h F' h'/\DS u (Root u) ak wl/\Hold F' h' (Aw w ak av st sv wl tv (cellP lv E (uC u vv vb vs)::ds)):=⟨_,rfl⟩
 refine qM I (λk x3 x4 x5 x6 x7 h1 hi=>?_) (k:=wl.length+2*ak.count false) ?_;rotate_left
 ·rw[J];exact⟨F,ak,wl,tv,rfl,rfl,Sn.refl _ _,d,Z⟩
 clear d Z;rw[J]at hi;obtain⟨F1,ak,wl,tv,⟨⟩,hk,s1,d,c⟩:=hi;unfold jQ;have u1:=hu.since s1;have dl:=d.less;refine d9 (c.ld 2 rfl rfl) (d9 (c.lenQ 1 rfl) ?_)
 cases wl with
 | nil=>
   refine tS (if_f (by simp) ?_);have K:=d.len
   exact Gc c (λi hi=>d.all (b i (by omega))) G (by omega) (by omega) (H _)
 | cons v wl=>
   have L:v<u.vals.length:=by
     have:=(wAB.1 (d.work v (by simp))).1;rw[d.len]at this;exact this
   obtain⟨x,C⟩:∃x,u.vals[v]? =some x:=⟨_,wAA L⟩
   rw[wAX]at hk dl;refine tS (if_t (by simp <;> omega) ?_);obtain⟨l1,o1,ac,x1,x2,x3,H2⟩:=c.popQ 1 rfl;obtain⟨l2,o2,xw,ae,y1,y2,M,_⟩:=u1.val C;refine oF (c.ld 7 rfl rfl) (d9 (c.ld 2 rfl rfl) (d9 x1 (d9 x2 (d9 y1 (d9 y2 ?_)))));refine yw c M λD h3 uv s3 H3 r3=>⟨s3.next,?_⟩
   obtain⟨l3,o3,n,_,_,z3,N⟩:=H3.popQ 1 rfl;refine d9 (H3.ld 2 rfl rfl) (d9 z3 ?_);simp only[wAC,wAE]at N;obtain⟨h5,e5,_,O,s5⟩:=N.st 2 (o:=0) (u:=n) rfl (by simp) (N.oneQ 1 rfl);rw[e5,ec];simp only[wAC,wAE]at O;have p:∀w∈uses x,w<u.vals.length:=λw hw=>qC (g.use v x C w hw);have hun:=w9 λh=>ux g C h;have r5:=r3.since s5;have d':DS u (Root u) ak (wl++[v]):=d.perm (λy=>by simp[or_comm]) (by simp);have K:=d.len;obtain⟨I5,e⟩:∃I:Nat->LP,I=λk l h'=>∃(j:Nat) (q:List Bool) (r:List Nat) (P:V),l=[.ptr lv 0,.ptr w.a 0,.ptr w.s 0,.ptr w.t 0,.ptr w.f 0,uv,.int .i64 (j:Nat)]/\j+k=(uses x).length/\Sn D h5 D h'/\Mk ak wl ((uses x).take j) q r/\Hold D h' (Aw w q av st sv r P (cellP lv E (uC u vv vb vs)::ds)):=⟨_,rfl⟩
   refine qH I5 (λk5 x3 x4 x5 x6 x7 ag ah h6 hi=>?_) (k:=(uses x).length) ?_;rotate_left
   ·rw[e]
    exact⟨0,ak,wl,n,rfl,by omega,Sn.refl _ _,by rw[wBU];exact Mk.refl _ _,O⟩
   rw[e]at hi;clear O;obtain⟨j,z,A,R,⟨⟩,ai,S,B,T⟩:=hi;unfold jN;have r6:=r5.since S;have l6:=B.less;have n6:=B.len;refine d9 r6.len ?_;by_cases hj:j<(uses x).length
   ·refine ltYes ?_
    have ha:=wAA hj;have U:=wAT hj;have aa:=p _ (wAR hj);generalize (uses x)[j]=a at*;obtain⟨l7,o7,_,q1,q2⟩:=r6.nat ha .i64;refine d9 (T.ld 6 rfl rfl) (d9 q1 (d9 q2 ?_));simp only[jS,lE,wAl,wBC];refine AY T (by omega) (by omega) λh7 W X Y s7 m7 H7=>⟨s7.next,?_⟩
    refine gj (m:=1) (by omega) (by omega) ⟨k5-1,by omega,?_⟩;rw[e];exact⟨j+1,W,X,Y,rfl,by omega,S.trans s7,by rw[U];exact B.trans m7,H7⟩
   ·refine ltNo ?_
    obtain rfl:j=(uses x).length:=by omega
    rw[wAg]at B;refine⟨A.length+2*z.count false,by omega,?_⟩;rw[J];exact⟨D,z,A,R,rfl,rfl,((s1.trans s3).trans s5).trans S,d'.pop C p B,T⟩
end
open Go.Proofs.YtpnddokajmjpbaaDoor.Un Go.Proofs.YtpnddokajmjpbaaDoor.Dm
section
variable{F F':Nat->Prop}{h h':Hp}{cs ds:List Pc}{Q:QP1}{u:U}{vv vb vs:V}
theorem BR {u:U}{i v:Nat}{x:Vl}(c:u.vals[i]? =some x)(g:RtV u (i+1) v):RtV u i v\/(v=i/\(x.op=19\/x.op=20\/x.op=22\/x.op=23))\/∃fs,leaves x.op=true/\u.states[x.state]? =some fs/\v∈frames fs:=by
 rcases g with⟨h,y,a,b⟩|⟨j,y,fs,h,a,b,d,f⟩
 ·by_cases e:v=i
  ·subst e;rw[c]at a;cases a;exact .inr (.inl ⟨rfl,b⟩)
  ·exact .inl (.inl ⟨by omega,y,a,b⟩)
 ·by_cases e:j=i
  ·subst e;rw[c]at a;cases a;exact .inr (.inr ⟨fs,b,d,f⟩)
  ·exact .inl (.inr ⟨j,y,fs,by omega,a,b,d,f⟩)
theorem BE {u:U}{i s:Nat}{x:Vl}(d:u.vals[i]? =some x)(hs:StV u (i+1) s):StV u i s\/(leaves x.op=true/\x.state=s):=by
 obtain⟨j,y,f,a,b,c⟩:=hs;by_cases e:j=i
 ·subst e;rw[d]at a;cases a;exact .inr ⟨b,c⟩
 ·exact .inl ⟨j,y,by omega,a,b,c⟩
theorem DW {u:U}{i v:Nat}{B:Bk}(d:u.blocks[i]? =some B)(g:RtB u (i+1) v):RtB u i v\/(B.fin=2/\v=B.cond)\/∃fs,B.fin=3/\u.states[B.state]? =some fs/\v∈frames fs:=by
 rcases g with⟨j,y,h,a,b,c⟩|⟨j,y,fs,h,a,b,c,f⟩
 ·by_cases e:j=i
  ·subst e;rw[d]at a;cases a;exact .inr (.inl ⟨b,c⟩)
  ·exact .inl (.inl ⟨j,y,by omega,a,b,c⟩)
 ·by_cases e:j=i
  ·subst e;rw[d]at a;cases a;exact .inr (.inr ⟨fs,b,c,f⟩)
  ·exact .inl (.inr ⟨j,y,fs,by omega,a,b,c,f⟩)
theorem Ep {u:U}{i s:Nat}{B:Bk}(d:u.blocks[i]? =some B)(hs:StB u (i+1) s):StB u i s\/(B.fin=3/\B.state=s):=by
 obtain⟨j,y,f,a,b,c⟩:=hs;by_cases e:j=i
 ·subst e;rw[d]at a;cases a;exact .inr ⟨b,c⟩
 ·exact .inl ⟨j,y,by omega,a,b,c⟩
theorem IZ (g:Good u){mk:List Bool}{wl:List Nat}(d:DS u (λv=>RtV u u.vals.length v\/RtB u u.blocks.length v) mk wl):DS u (Root u) mk wl:=d.ofD λv k=>by
 have f:=Dk g k;rcases k with h|⟨j,x,fs,a,c,e,i⟩|⟨b,B,a,c,e⟩|⟨b,B,fs,a,c,e,i⟩
 ·exact d.done v (.inl (.inl ⟨f,h⟩))
 ·exact d.done v (.inl (.inr ⟨j,x,fs,(wAB.1 a).1,a,c,e,i⟩))
 ·exact d.done v (.inr (.inl ⟨b,B,(wAB.1 a).1,a,c,e⟩))
 ·exact d.done v (.inr (.inr ⟨b,B,fs,(wAB.1 a).1,a,c,e,i⟩))
theorem IQ (g:Good u){w:Lw}{ak st:List Bool}{av sv tv:V}{wl:List Nat}{lv S:Nat}(H0:Hold F h (Aw w ak av st sv wl tv (cellP lv S (uC u vv vb vs)::ds)))(hu:URd F h u vv vb vs)(d:DS u (λv=>RtV u u.vals.length v\/RtB u 0 v) ak wl)(C:∀i,i<u.vals.length->Live u i)(p:st.length=u.states.length)
  (K:∀s,s<u.states.length->StV u u.vals.length s\/StB u u.blocks.length s) (n:∀s,StV u u.vals.length s\/StB u 0 s->st[s]? =some true) (H:∀h',Q (.bool true) h') :
  hY CS Q [.ptr lv 0,.ptr w.a 0,.ptr w.s 0,.ptr w.t 0,.ptr w.f 0,sF w lv,.int .i64 0] h:=by
 have nv:=g.nv;have nb:=g.nb;have pf:∀{l o k:Nat},pFA k (.ptr l o)=some (.ptr l (o+k)):=ed _ _ _
 obtain ⟨I,P⟩:∃I:Nat->LP,I=λk l h'=>∃(i:Nat) (ak st:List Bool) (wl:List Nat) (tv:V),l=[.ptr lv 0,.ptr w.a 0,.ptr w.s 0,.ptr w.t 0,.ptr w.f 0,sF w lv,.int .i64 i]/\i+k=u.blocks.length/\Sn F h F h'/\DS u (λv=>RtV u u.vals.length v\/RtB u i v) ak wl/\st.length=u.states.length/\(∀s,StV u u.vals.length s\/StB u i s->st[s]? =some true)/\
   Hold F h' (Aw w ak av st sv wl tv (cellP lv S (uC u vv vb vs)::ds)):=⟨_,rfl⟩
 refine qy I (λk x3 x4 x5 x6 x7 x8 x9 j hi=>?_) (k:=u.blocks.length) ?_;rotate_left
 ·rw[P];exact⟨0,ak,st,wl,tv,rfl,by omega,Sn.refl _ _,d,p,n,H0⟩
 clear d H0 n p ak st wl tv;rw[P]at hi;obtain⟨i,ak,st,wl,tv,⟨⟩,hk,T,d,p,n,D⟩:=hi;unfold jK;have R:=hu.since T;have dl:=d.less;refine oF (D.ld 7 rfl rfl) (d9 R.b.len ?_);by_cases hi:i<u.blocks.length;rotate_left
 ·refine ltNo ?_;obtain rfl:i=u.blocks.length:=by omega
  exact EH g D R (IZ g d) C p (λs hs=>n s (K s (by omega))) H
 refine ltYes ?_;have y:=wAA hi;generalize u.blocks[i]=B at*;obtain⟨lb,ob,bv,bn,bp,_,L,_,_,_,_,M⟩:=R.blk y
 have N:∀{q r x z},Sn F j F q->DS u (λv=>(RtV u u.vals.length v\/RtB u i v)\/(B.fin=2/\v=B.cond)) r x->Hold F q (Aw w r av st sv x z (cellP lv S (uC u vv vb vs)::ds))->
   f3 CS Q (ltI I k) [.ptr lv 0,.ptr w.a 0,.ptr w.s 0,.ptr w.t 0,.ptr w.f 0,sF w lv,.int .i64 i] q:=λ{q r x z} G O J=>by
  refine qj ?_;unfold jB;have u2:=R.since G;have aa:=O.less;obtain⟨lb,ob,bv,bn,bp,_,L,_,_,_,_,M⟩:=u2.blk y;refine oF (J.ld 7 rfl rfl) (d9 L (oF M.fin (fk ?_)));by_cases c:B.fin=3
  ·refine if_t (by omega) ?_;have hs:B.state<u.states.length:=by
    rcases g.fin i B y with⟨e,_⟩|⟨e,_⟩|⟨_,_,e⟩
    ·omega
    ·omega
    ·exact e
   obtain⟨fs,A⟩:∃fs,u.states[B.state]? =some fs:=⟨_,wAA hs⟩
   refine oF (J.ld 7 rfl rfl) (d9 L (oF M.st ?_));simp only[sF,jS,lE,wAl,wBC];refine CI g u2 J O.len p A (by omega) λh3 U W X s3 m3 H3=>?_;refine jy ?_;unfold gX;refine addOne ⟨k-1,by omega,?_⟩;rw[P];refine⟨i+1,U,_,W,X,rfl,by omega,(T.trans G).trans s3,O.mark m3 (λv m=> .root (.inr (.inr (.inr ⟨i,B,fs,y,c,A,m⟩)))) (qi g A) λv m=>?_,by rw[wA6];exact p,λs E=>?_,H3⟩
   ·rcases m with m|m
    ·exact .inl (.inl (.inl m))
    ·rcases DW y m with j|j|⟨Y,_,q,h3⟩
     ·exact .inl (.inl (.inr j))
     ·exact .inl (.inr j)
     ·rw[A]at q;cases q;exact .inr h3
   ·rcases E with j|j
    ·exact De (n s (.inl j))
    ·rcases Ep y j with q|⟨_,q⟩
     ·exact De (n s (.inr q))
     ·rw[<-q];exact wAK (by omega)
  ·refine if_f (by omega) (jy ?_);unfold gX;refine addOne ⟨k-1,by omega,?_⟩;rw[P];refine⟨i+1,r,st,x,z,rfl,by omega,T.trans G,O.ofD λv m=>O.done v ?_,p,λs E=>?_,J⟩
   ·rcases m with m|m
    ·exact .inl (.inl m)
    ·rcases DW y m with j|j|⟨Y,j,_⟩
     ·exact .inl (.inr j)
     ·exact .inr j
     ·omega
   ·rcases E with j|j
    ·exact n s (.inl j)
    ·rcases Ep y j with q|⟨q,_⟩
     ·exact n s (.inr q)
     ·omega
 refine oF (D.ld 7 rfl rfl) (d9 L (oF M.fin (fk ?_)));by_cases c:B.fin=2
 ·refine if_t (by omega) ?_;have Z:B.cond<u.vals.length:=by
   rcases g.fin i B y with⟨h,_⟩|⟨_,_,h⟩|⟨h,_⟩
   ·omega
   ·exact qC h
   ·omega
  have ab:=d.len;refine d9 (D.ld 6 rfl rfl) (oF (D.ld 7 rfl rfl) (d9 L (oF M.cond ?_)));simp only[jS,lE,wAl,wBC];refine AY D (by omega) (by omega) λq r x z G m2 J=>⟨G.next,N G (d.mark m2 (λv m=>?_) (λv m=>?_) λv m=>?_) J⟩
  ·rw[wAW.1 m];exact .root (.inr (.inr (.inl ⟨i,B,y,c,rfl⟩)))
  ·rw[wAW.1 m];exact Z
  ·exact m.imp id λh=>by rw[h.2];simp
 ·refine if_f (by omega) (N (Sn.refl _ _) (d.ofD λv m=>?_) D);rcases m with j|j
  ·exact d.done v j
  ·exact absurd j.1 c
theorem Iy (g:Good u){w:Lw}{ak st:List Bool}{av sv tv:V}{wl:List Nat}{lv S:Nat}(H0:Hold F h (Aw w ak av st sv wl tv (cellP lv S (uC u vv vb vs)::ds)))(hu:URd F h u vv vb vs)(d:DS u (RtV u 0) ak wl)(C:∀i,i<u.vals.length->Live u i)(e:st.length=u.states.length)
  (J:∀s,s<u.states.length->StV u u.vals.length s\/StB u u.blocks.length s) (H:∀h',Q (.bool true) h') :
  ie CS Q [.ptr lv 0,.ptr w.a 0,.ptr w.s 0,.ptr w.t 0,.ptr w.f 0,sF w lv,.int .i64 0] h:=by
 have nv:=g.nv;have nb:=g.nb;have pf:∀{l o k:Nat},pFA k (.ptr l o)=some (.ptr l (o+k)):=ed _ _ _
 obtain ⟨I,T⟩:∃I:Nat->LP,I=λk l h'=>∃(i:Nat) (ak st:List Bool) (wl:List Nat) (tv:V),l=[.ptr lv 0,.ptr w.a 0,.ptr w.s 0,.ptr w.t 0,.ptr w.f 0,sF w lv,.int .i64 i]/\i+k=u.vals.length/\Sn F h F h'/\DS u (RtV u i) ak wl/\st.length=u.states.length/\(∀s,StV u i s->st[s]? =some true)/\
   Hold F h' (Aw w ak av st sv wl tv (cellP lv S (uC u vv vb vs)::ds)):=⟨_,rfl⟩
 refine qQ I (λk x3 x4 x5 x6 x7 x8 x9 c hi=>?_) (k:=u.vals.length) ?_;rotate_left
 ·rw[T];exact⟨0,ak,st,wl,tv,rfl,by omega,Sn.refl _ _,d,e,λs ⟨_,_,h,_⟩=>by omega,H0⟩
 clear d H0 e ak st wl tv;rw[T]at hi;obtain⟨i,ak,st,wl,tv,⟨⟩,hk,s1,d,e,y,G⟩:=hi;unfold jM;have P:=hu.since s1;have dl:=d.less;have aa:=d.len;refine oF (G.ld 7 rfl rfl) (d9 P.v.len ?_);by_cases hi:i<u.vals.length;rotate_left
 ·refine ltNo ?_;obtain rfl:i=u.vals.length:=by omega
  refine IQ g G P (d.ofD λv n=>n.elim (d.done v) λh=>?_) C e J (λs hs=>hs.elim (y s) λh=>?_) H
  ·rcases h with⟨_,_,h,_⟩|⟨_,_,_,h,_⟩ <;> omega
  ·obtain⟨_,_,h,_⟩:=h;omega
 refine ltYes ?_;have p:=wAA hi;generalize u.vals[i]=x at*;obtain⟨lx,ox,xw,_,K,_,_,R⟩:=P.val p;have U:∀w∈[i],w<u.vals.length:=λw W=>by rw[wAW.1 W];omega
 have D:∀{z j q m A},Sn F c F z->DS u (RtV u (i+1)) j m->q.length=u.states.length->(∀s:Nat,StV u (i+1) s->q[s]? =some true)->Hold F z (Aw w j av q sv m A (cellP lv S (uC u vv vb vs)::ds))->
   fI CS Q (ltI I k) [.ptr lv 0,.ptr w.a 0,.ptr w.s 0,.ptr w.t 0,.ptr w.f 0,sF w lv,.int .i64 i] z:=λ{z j q m A} L E l2 X M=>by
  refine ql ?_;unfold jF;refine addOne ⟨k-1,by omega,?_⟩;rw[T];exact⟨i+1,j,q,m,A,rfl,by omega,s1.trans L,E,l2,X,M⟩
 have B:∀b:Bool,(b=true↔x.op=19\/x.op=20\/x.op=22\/x.op=23)->fy CS Q (ltI I k) [.ptr lv 0,.ptr w.a 0,.ptr w.s 0,.ptr w.t 0,.ptr w.f 0,sF w lv,.int .i64 i,.bool b] c:=λb hb=>by
  refine qo ?_;unfold jG;refine st_b ?_
  cases b with
  | false=>
    have N:¬(x.op=19\/x.op=20\/x.op=22\/x.op=23):=λh=>by have:=hb.2 h;cases this
    have O:leaves x.op≠true:=λh=>N (by unfold leaves at h;rw[wAw,wAt,wAt]at h;omega);refine if_f (by simp) (D (Sn.refl _ _) (d.ofD λv n=>?_) e (λs hs=>?_) G)
    ·rcases BR p n with c|⟨_,c⟩|⟨_,c,_⟩
     ·exact d.done v c
     ·exact absurd c N
     ·exact absurd c O
    ·rcases BE p hs with c|⟨c,_⟩
     ·exact y s c
     ·exact absurd c O
  | true =>
    have Y:=hb.1 rfl;refine if_t rfl (d9 (G.ld 6 rfl rfl) ?_);simp only[jS,lE,wAl,wBC];refine AY G (by omega) (by omega) λz j m A L m2 M=>?_;have E:DS u (λv=>RtV u i v\/v=i) j m:=d.mark m2 (λw W=>by rw[wAW.1 W];exact .root (.inl ⟨x,p,Y⟩)) U λv n=>n.imp id λh=>by rw[h];simp
    have u2:=P.since L;obtain⟨lx,ox,xw,_,K,_,_,R⟩:=u2.val p;have z0:=R.op;have Z:pLd (.ptr lv (0+2)) z=some vv:=M.ld 7 rfl rfl;refine oF Z (d9 K (oF z0 (d9 (fF ..) (d9 (a:= .bool (leaves x.op)) ?_ (st_b ?_)))))
    ·simp only[en,ed,Z,K,z0,fF,sU]
     unfold leaves;rw[show((x.op:Int) == 22)=(x.op == 22) from ieq _ 22,show((x.op:Int) == 23)=(x.op == 23) from ieq _ 23]
    ·cases hl:leaves x.op with
     | true=>
       obtain⟨fs,r⟩:∃fs,u.states[x.state]? =some fs:=⟨_,wAA (g.leave i x p hl)⟩
       have ab:=(wAB.1 r).1;have ac:=E.less;refine if_t rfl (oF Z (d9 K (oF R.st ?_)));simp only[sF,jS,lE,wAl,wBC];refine CI g u2 M E.len e r (by omega) λh3 ae ag ah s3 m3 H3=>?_;refine D (L.trans s3) (E.mark m3 (λv n=> .root (.inr (.inl ⟨i,x,fs,p,hl,r,n⟩))) (qi g r) λv n=>?_) (by rw[wA6];exact e) (λs hs=>?_) H3
       ·rcases BR p n with c|⟨c,_⟩|⟨ai,_,z,h3⟩
        ·exact .inl (.inl c)
        ·exact .inl (.inr c)
        ·rw[r]at z;cases z
         exact .inr h3
       ·rcases BE p hs with c|⟨_,c⟩
        ·exact De (y s c)
        ·rw[<-c]
         exact wAK (by omega)
     | false=>
       refine if_f (by simp) (D L (E.ofD λv n=>E.done v ?_) e (λs hs=>?_) M)
       ·rcases BR p n with c|⟨c,_⟩|⟨_,c,_⟩
        ·exact .inl c
        ·exact .inr c
        ·rw[hl]at c;cases c
       ·rcases BE p hs with c|⟨c,_⟩
        ·exact y s c
        ·rw[hl]at c;cases c
 refine oF (G.ld 7 rfl rfl) (d9 K (oF R.op ?_));by_cases c1:x.op=19
 ·exact d9 (eqlT (by omega)) (st_b (if_t rfl (B true ⟨λ_=> .inl c1,λ_=>rfl⟩)))
 refine d9 (eqlF (by omega)) (st_b (if_f (by simp) ?_));by_cases c2:x.op=20
 ·exact d9 (eqlT (by omega)) (st_b (if_t rfl (B true ⟨λ_=> .inr (.inl c2),λ_=>rfl⟩)))
 refine d9 (eqlF (by omega)) (st_b (if_f (by simp) ?_));by_cases c3:x.op=22
 ·exact d9 (eqlT (by omega)) (st_b (if_t rfl (B true ⟨λ_=> .inr (.inr (.inl c3)),λ_=>rfl⟩)))
 refine d9 (eqlF (by omega)) (st_b (if_f (by simp) (d9 (fF ..) (B _ ?_))));rw[wAt];constructor
 ·intro h;exact .inr (.inr (.inr (by omega)))
 ·intro h;omega
theorem CU {ops a:List Int}{np:Int}{vo j:V}(H0:Hold F h cs)(m:SlR (eI .i64) F h ops vo)(n:SlR (eI .i64) F h a j)(ho:ops.length<9223372036854775808)(H:∀h',Q (.bool true) h') :
  cP CS iJ [.agg [vo,j,.int .i64 np]] h Q:=by
 refine rZ rfl rfl ?_;unfold kN;have pf:∀{l o k:Nat},pFA k (.ptr l o)=some (.ptr l (o+k)):=ed _ _ _;refine kh H0 (by simp only[ee,m.one,n.one];rfl) λf T U=>?_;refine d9 (T.ldA 0 rfl rfl) ?_;refine IP T (m.since U) (n.since U) ho λF2 A W s2 H2 hw=>?_;have C:Good (unitM ops a np):=Gz ops a np;have a0:=Iq (Ji ops a np);generalize unitM ops a np=D at*;obtain⟨vv,vb,vs,rfl,w1,W,w3⟩:=hw;refine II C a0 H2 ⟨w1,W,w3⟩ λF3 q az wv wb ws s3 H3 d aa G=>?_;have e:∀v,D.vals.length<=v->asF az v = -1:=λv c=>by
  unfold asF;rw[wAL,wAh (by omega)];rfl
 have g:Good (trimA D (asF az)):=Gt C (d.fit C e);obtain⟨I,J⟩:=GO C d e;generalize trimA D (asF az)=u at*;have nv:=g.nv;have ns:=g.ns;refine fU H3 rfl rfl G.one λh4 X Y=>?_;generalize q.next=lv at*;refine GQ (d9 rfl (ez (d9 (X.ldA 0 rfl rfl) (rr ?_))));refine Dy g X (G.since Y) λF5 Z s5 H5=>?_;refine d9 rfl (st_b (if_f (by simp) ?_));have K:=(G.since Y).since s5;refine oF (H5.ld 0 rfl rfl) (d9 K.v.len ?_);rw[gh (z:=V.bool false) rfl (by decide) (by omega),ev];obtain⟨H6,s6⟩:=H5.make (E:=eB) (ty:=tyBool) (y:=false) (u:=V.bool false) u.vals.length rfl rfl;generalize Z.new (.cells tyBool 1 true false (List.replicate u.vals.length (V.bool false)))=h6 at*;generalize Z.next=ka at*;refine uy H6 rfl λh7 H7 s7=>?_;generalize h6.next=la at*;have r:=s6.trans s7;refine oF (H7.ld 2 rfl rfl) (d9 (K.since r).s.len ?_);rw[gh (z:=V.bool false) rfl (by decide) (by omega),ev];obtain⟨H8,s8⟩:=H7.make (E:=eB) (ty:=tyBool) (y:=false) (u:=V.bool false) u.states.length rfl rfl;generalize h7.new (.cells tyBool 1 true false (List.replicate u.states.length (V.bool false)))=h8 at*;generalize h7.next=ks at*;refine uy H8 rfl λh9 H9 s9=>?_;generalize h8.next=ls at*;refine uG H9 λL M N=>?_;generalize h9.next=lt at*;refine uy M rfl λab O P=>?_;generalize L.next=lf at*;have R:=((((K.since r).since s8).since s9).since N).since P;have S:=(O.add (p:=quP tyInt [] .nilSlice) (.inl ⟨rfl,rfl⟩) λ_ h=>h).perm [6,0,2,5,4,3,1] 7 (by decide) (by decide) (by simp);have t:∀v:Nat,(List.replicate u.vals.length false)[v]?≠some true:=λv c=>by
  rw[wA4]at c;split at c <;> cases c
 refine Iy g (w:=⟨la,ls,lt,lf,_,_,_,_⟩) (lv:=lv) S R ⟨wAi,λv c=>absurd c (t v),λv c=>(nomatch c),λv c=>absurd c (t v),by simp,λv c=>?_⟩ I wAi (λs hs=>?_) H
 ·rcases c with⟨h,_⟩|⟨_,_,_,h,_⟩ <;> omega
 ·rcases J s hs with⟨i,x,f,A,q⟩|⟨b,B,f,A,q⟩
  ·exact .inl ⟨i,x,(wAB.1 f).1,f,A,q⟩
  ·exact .inr ⟨b,B,(wAB.1 f).1,f,A,q⟩
end
