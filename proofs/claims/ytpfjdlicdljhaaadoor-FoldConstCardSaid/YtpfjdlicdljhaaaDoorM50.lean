/- Parts. -/
import Derived.Test.YtpfjdlicdljhaaaDoorM41
import Derived.Test.YtpfjdlicdljhaaaDoorM49
import Derived.Test.YtpfjdlicdljhaaaDoorM48
set_option maxHeartbeats 4000000
namespace Go.Proofs.YtpfjdlicdljhaaaDoor.Hx
open Un Dm
theorem MY(l:List V):dU l=l.all V.one:=by
 induction l with
 |nil=>rfl
 |cons a l b=>rw[cY,b];rfl
theorem MG{l ws:List V}(h:dU l=true)(b:dU ws=true)(n m:Nat):dU (l.take n++ws++l.drop m)=true:=by
 rw[MY,Kd]at*;intro x a;rcases EC.1 a with a|a
 ·rcases EC.1 a with a|a
  ·exact h x (Yy a)
  ·exact b x a
 ·exact h x (List.mem_of_mem_drop a)
section
variable{F F':Nat->Prop}{h h':Hp}{cs:List Pc}
theorem cS.Y1{α:Type}{E:oY α}{ty:Nat}{xs:List α}{v:V}(H:cS F h cs)(i:Nat)(hi:cs[i]? =some (cW E ty xs v)){k j:Nat}(hk:k<xs.length)(b:j<E.sz){y:α}{u:V}(c:u.one=true)(d:∀w,E.rel F h xs[k] w->E.rel F h y (w.set j u)) :
  ∃l o h',eX E.sz v (.I k)=some (.ptr l o)/\fk 1 (.ptr l (o+j)) u h=some (.val .undef h')/\h.next<=h'.next/\cS F h' (cs.set i (cW E ty (xs.set k y) v))/\Sn F h F h':=by
 obtain⟨t,h',_,e,f,g,a⟩:=(H.row i hi).store hk b c d;exact⟨t,_,h',e,f,a.next,H.xS hi a g λ_ h=> .inl h⟩
theorem cS.V9{α:Type}{E:oY α}{ty:Nat}{xs:List α}{v:V}(H:cS F h cs)(i:Nat)(hi:cs[i]? =some (cW E ty xs v)){k:Nat}(hk:k<xs.length)(kd:IntKind) :
  ∃l o w,eX E.sz v (.int kd k)=some (.ptr l o)/\eg E.sz (.ptr l o) h=some (.agg w)/\E.rel F h xs[k] w/\∀j u,w[j]? =some u->df (.ptr l (o+j)) h=some u:=by
 rcases H.row i hi with⟨_,rfl⟩|⟨t,ws,rfl,m,n,b,e,p⟩
 ·simp at hk
 ·obtain ⟨w,c,f,d⟩:=e.get (i:=k) (x:=xs[k]) (fg hk);refine⟨t,0+k*E.sz,w,se _ _ _ _ _ _ hk,?_,d,λj u a=>?_⟩
  ·rw[xF b,yD,yW f,c];rfl
  ·rw[JB b,J5];have g:j<E.sz:=by rw[<-E.len d];exact(gL.1 a).1
   rw[<-c,X2 g,V1]at a;rw[yD];exact a
theorem cS.ZX{α:Type}{E:oY α}{ty:Nat}{xs:List α}{v:V}(H:cS F h cs)(i:Nat)(hi:cs[i]? =some (cW E ty xs v)){k:Nat}(hk:k<xs.length){y:α}{ws:List V}(a:E.rel F h y ws) :
  ∃l o h',eX E.sz v (.I k)=some (.ptr l o)/\fk E.sz (.ptr l o) (.agg ws) h=some (.val .undef h')/\h.next<=h'.next/\cS F h' (cs.set i (cW E ty (xs.set k y) v))/\Sn F h F h':=by
 rcases H.row i hi with⟨_,rfl⟩|⟨t,ds,rfl,b,c,f,d,g⟩
 ·simp at hk
 ·obtain ⟨w,s,j,u⟩:=d.get (i:=k) (x:=xs[k]) (fg hk);have m:=E.len a
  obtain ⟨n,q⟩:=H.xS (p:=cW E ty (xs.set k y) (.slice t 0 xs.length)) (h':=h.put t (.cells ty E.sz true false (ds.take (k*E.sz)++ws++ds.drop (k*E.sz+E.sz)))) hi (tm.put _ rfl b)
   (.inr ⟨t,_,by simp,b,c,ie _ b,m7.dO (h:=h) (λl r=>kJ _ b λe=>c (e▸r)) (d.set hk a),MG g (E.one a) _ _⟩) λ_ h=> .inl h
  exact⟨t,k*E.sz,_,by rw[se _ _ _ _ _ _ hk,yD],Qh f m j (E.one a),iC _,n,q⟩
end
open Un Dm
abbrev CK:Nat:=54
section
variable{F F':Nat->Prop}{h h':Hp}{cs ds:List Pc}{Q:dg}{u:U}{vv vb vs gS:V}{az:List Int}{lf:Nat}
abbrev Fo(lf:Nat) (u:U) (vv vb vs gS:V) (az:List Int) (ds:List Pc):List Pc:=
 cV lf CK [.I u.func,.I u.pc,vv,vb,vs,gS]::cW eV dP u.cR vv::cW eK dm u.blocks vb::cW eZ cT az gS::ds
theorem DE{b:Bool}(H:Q (.int .u64 (BC b)) h):cP CS kG [.bool b] h Q:=by
 refine ML rfl rfl ?_;unfold Hc;cases b
 ·exact fK (dM (by simp) H)
 ·exact fK (ei rfl H)
theorem PE{op:Nat}{a b:Int}(g:zS .u64 a)(i:zS .u64 b)(e:op=6\/op=7)(H:Q (.int .u64 (uV op a b)) h):cP CS sq [.I op,.I (nX a),.I (nX b)] h Q:=by
 refine Hz rfl rfl ?_;unfold Bz;have f:∀d:Int,(d=0↔nX b=0)->(d≠0->op=6->kK ((nX a).tdiv d)=uV 6 a b)->(d≠0->op=7->kK ((nX a).tmod d)=uV 7 a b)->mw CS Q [.I op,.I (nX a),.I d] h:=λd h0 j k=>by
  refine DL ?_;unfold xY;refine eh ?_;by_cases z:d=0
  ·refine ei z ?_;have z:=h0.1 z;rw[show uV op a b=0 by rcases e with rfl|rfl <;> simp[uV,z]]at H;exact H
  refine dM z (eh ?_);have hq:cX .quo 2 (.I (nX a)) (.I d)=some (.I (jr .i64 ((nX a).tdiv d))):=by
   cases d with
   | ofNat n=>cases n with
     |zero=>exact absurd rfl z
     |succ n=>rfl
   |negSucc n=>rfl
  have l:cX .rem 2 (.I (nX a)) (.I d)=some (.I ((nX a).tmod d)):=by
   cases d with
   | ofNat n=>cases n with
     |zero=>exact absurd rfl z
     |succ n=>rfl
   |negSucc n=>rfl
  rcases e with rfl|rfl
  ·refine ei rfl (cO hq (cO (by rw[jA]) ?_));rw[nF,mc];have:kK (IntKind.i64.wrap ((nX a).tdiv d))=kK ((nX a).tdiv d):=by
    simp only[IntKind.wrap,IntKind.signed,IntKind.bits,Sv,zv,Nat.reduceSub,Int.reducePow,kK];split <;> omega
   rw[this,j z rfl];exact H
  ·refine dM (by omega) (cO l (cO (by rw[jA,nF]) ?_));rw[k z rfl];exact H
 refine cO (fx ..) (cO (a:= .bool (decide (nX a = -9223372036854775808/\nX b = -1))) ?_ (fK ?_))
 ·simp only[c0,fx,fW];congr 2;rw[MN,rm,CG,CG,zv]
 simp only[zS]at g i;by_cases c:nX a = -9223372036854775808/\nX b = -1
 ·refine ei (Ka c) (f 1 ⟨λh=>by omega,λh=>by omega⟩ (λ_ _=>?_) λ_ _=>?_)
  ·rw[Int.tdiv_one];simp only[uV,c.2];simp;have:=c.1;unfold nX at this;unfold kK;split at this <;> omega
  ·simp[uV,c.2,kK]
 ·refine dM (by rw[zv];exact c) (f (nX b) Iff.rfl (λz _=>?_) λz _=>?_)
  ·by_cases z1:nX b = -1
   ·simp[uV,z1];unfold kK nX;split <;> omega
   ·simp[uV,z,z1]
  ·by_cases z1:nX b = -1
   ·simp[uV,z1,kK]
   ·simp[uV,z,z1]
theorem Vp{op:Nat}{a b:Int}(d:zS .u64 a)(f:zS .u64 b)(g:3<=op/\op<=14)(H:Q (.int .u64 (uV op a b)) h):cP CS yL [.I op,.int .u64 a,.int .u64 b] h Q:=by
 refine Mf rfl rfl ?_;unfold GS;refine cO (by rw[jA,He d]) (cO (by rw[jA,He f]) ?_);have e0:∀n:Nat,op=n->uV op a b=uV n a b:=λn h=>by rw[h]
 refine eh ?_;by_cases c:op=3
 ·rw[e0 _ c]at H;exact ei (by omega) (cO (by rw[z9,nF];rfl) H)
 refine dM (by omega) (eh ?_);by_cases c:op=4
 ·rw[e0 _ c]at H;exact ei (by omega) (cO (by rw[Dz,nF];rfl) H)
 refine dM (by omega) (eh ?_);by_cases c:op=5
 ·rw[e0 _ c]at H;exact ei (by omega) (cO (by rw[KV,nF];rfl) H)
 refine dM (by omega) ?_;have k:∀q:Bool,(q=true↔op=6\/op=7)->qJ CS Q [.I op,.int .u64 a,.int .u64 b,.I (nX a),.I (nX b),.I op,.bool q] h:=λq hq=>by
  refine FQ ?_;unfold AB;refine fK ?_;by_cases c:op=6\/op=7
  ·exact ei (hq.2 c) (PE d f c H)
  refine dM (λh=>c (hq.1 h)) (eh ?_);by_cases c:op=8
  ·rw[e0 _ c]at H;refine ei (by omega) (cO (by rw[JW,nF]) ?_);rw[show uV 8 a b=kK (0-a) by simp[uV]]at H;exact H
  refine dM (by omega) (eh ?_);by_cases c:op=9
  ·rw[e0 _ c]at H;exact ei (by omega) (JT (DE H))
  refine dM (by omega) (eh ?_);by_cases c:op=10
  ·rw[e0 _ c]at H;exact ei (by omega) (JT (DE H))
  refine dM (by omega) (eh ?_);by_cases c:op=11
  ·rw[e0 _ c]at H;refine ei (by omega) (cO (mf ..) ?_);rw[show(a != b)=decide (a≠b) by by_cases e:a=b <;> simp[e]];exact DE H
  refine dM (by omega) (eh ?_);by_cases c:op=12
  ·rw[e0 _ c]at H;exact ei (by omega) (cO (jZ ..) (DE H))
  refine dM (by omega) (eh ?_);by_cases c:op=13
  ·rw[e0 _ c]at H;exact ei (by omega) (cO (Gm ..) (DE H))
  refine dM (by omega) (eh ?_);obtain rfl:op=14:=by omega
  exact ei rfl (cO (jZ ..) (DE H))
 refine cO (fx ..) (fK ?_);by_cases c:op=6
 ·exact ei (by rw[CG];omega) (k _ (by simp;omega))
 ·exact dM (by rw[CG];omega) (cO (fx ..) (k _ (by simp;omega)))
theorem OU{op:Nat}{a b:Int}(d:zS .u64 a)(e:zS .u64 b)(c:3<=op/\op<=14)(H:Q (.tuple [.int .u64 (uV op a b),.bool true]) h):cP CS ui [.I op,.int .u64 a,.int .u64 b] h Q:=by
 refine JF rfl rfl ?_;unfold Cy;refine cO (jZ ..) (cO (a:= .bool false) ?_ (fK (dM (by simp) (Vp d e c H))));rw[QV (by omega)];simp only[c0,qR,jG];rw[QV (by omega)];rfl
theorem CC(a:cS F h (Fo lf u vv vb vs gS az ds)){v:Nat}{x:Vl}(f:u.cR[v]? =some x)(H:∀h',Sn F h F h'->cS F h' (Fo lf u vv vb vs gS az ds)->Q (.tuple [.int .u64 (kK x.n),.bool (decide (x.op=2))]) h') :
  cP CS fU [.ptr lf 0,.I v] h Q:=by
 refine Bs rfl rfl ?_;unfold tT;obtain⟨g,e⟩:=gL.1 f;obtain⟨l,o,w,i,j,⟨p,c,d⟩,_⟩:=a.V9 1 rfl g .i64;rw[e]at c d;subst c;refine cO pn (cO pf (oF (a.ld 0 rfl rfl) (cO i (cO j ?_))));refine fo a rfl rfl (by simp only[kN,cY,d.one];rfl) λk b m=>?_;refine oF (b.ld 0 rfl rfl) (cO (by rw[jA,nF]) (oF (b.ld 0 rfl rfl) (cO (fx ..) ?_)));rw[show((x.op:Int) == 2)=decide (x.op=2) by rw[MN,CG,zv];omega];exact H k m b.tail
end
open Un Dm
section
variable{F F':Nat->Prop}{h h':Hp}{cs ds:List Pc}{Q:dg}{u:U}{vv vb vs gS:V}{az:List Int}{lf:Nat}
theorem cS.Xi{α:Type}{E:oY α}{ty:Nat}{xs:List α}{v:V}(H:cS F h cs)(i:Nat)(hi:cs[i]? =some (cW E ty xs v)):fJ E (λl=>F l\/E8 cs l) h xs v:=(H.row i hi).read.mono λ_ a=>a.imp id λa=>⟨i,_,hi,a⟩
theorem A6{x:Vl}(e:3<=x.op)(d:x.op<=14):(x.op=8\/x.op=9)/\fu x=[x.a]\/¬(x.op=8\/x.op=9)/\fu x=[x.a,x.b]:=by
 unfold fu;by_cases c:x.op=8\/x.op=9
 ·refine .inl ⟨c,?_⟩;rcases c with c|c <;> simp[c,two,om]
 ·refine .inr ⟨c,?_⟩;have:two x.op=true:=by unfold two;simp;omega
  rw[if_neg (by omega),if_neg (by omega),if_pos this]
theorem OL(b:vZ u){v:Nat}(n:Int):vZ (Ao u v n):=λw y a=>by
 have a:(u.cR.set v (Of n))[w]? =some y:=a;rw[List.getElem?_set]at a;split at a
 ·split at a
  ·cases a;exact J9 _
  ·cases a
 ·exact b w y a
theorem O7(g:Good u)(ha:vZ u)(p:vs.one=true)(S:cS F h (Fo lf u vv vb vs gS az ds))
  (H:∀F' h' u' c,Sn F h F' h'->cS F' h' (Fo lf u' vv vb vs gS az ds)->LZ vZ u u' c (λv=>v<u.cR.length)->Q (.bool c) h') :
  cP CS fF [.ptr lf 0] h Q:=by
 refine Ae rfl rfl ?_;unfold th;have nv:=g.nv;have Y:dU (uC u vv vb vs)=true:=by simp only[uC,cY,S.one 1 rfl,S.one 2 rfl,p];rfl
 refine cO pn (cO pf (cO (Vw S 0 rfl) ?_));refine D2 (D5 g) S.W2 Y (S.Xi 2 rfl) λK q seen post s2 H2 G=>?_;have H3:=S.Ui s2 H2;have s3:=s2.back;have Z:∀b,b<u.blocks.length->b∈post.reverse:=λb L=>by
  obtain⟨l,hl⟩:=g.reach b L;exact Ta.2 (J8 G hl)
 have aa:∀b∈post.reverse,b<u.blocks.length:=λb L=>G.pre b (Ta.1 L);have ay:post.reverse.length<=u.blocks.length:=by
  have h1:=G.nodup;rw[OG,GK]at h1;rw[List.length_reverse];exact gq _ _ h1 G.pre
 generalize post.reverse=d at*;have nb:=g.nb;clear s2 H2 G;refine cO (H3.len 0 rfl) ?_
 obtain ⟨I,hI⟩:∃I:Nat->LP,I=λk l h'=>∃(F':Nat->Prop) (u':U) (c:Bool) (i:Nat),l=[.ptr lf 0,.bool c,q,.I d.length,.I i]/\i+k=d.length/\Sn F h F' h'/\LZ vZ u u' c (λv=>∃m b j,m<i/\d[m]? =some b/\At u v b j)/\
   cS F' h' (cW eN cT d q::Fo lf u' vv vb vs gS az ds):=⟨_,rfl⟩
 refine xE I (λk x0 x3 aj ak al C hi=>?_) (k:=d.length) ?_;rotate_left
 ·rw[hI];exact⟨F,u,false,0,rfl,by omega,s3,(LZ.start g ha).more λ_ v ⟨m,_,_,h,_⟩=>by omega,H3⟩
 clear H3 s3;rw[hI]at hi;obtain⟨F4,u4,c4,i,⟨⟩,hk,s4,t4,T⟩:=hi;unfold pA;by_cases hi:i<d.length;rotate_left
 ·refine fq ?_;refine H F4 C u4 c4 s4 T.tail (t4.more λ_ v r=> .inl ?_);obtain⟨b,j,s⟩:=g.yx v r trivial;obtain⟨B,D,_⟩:=id s;obtain⟨m,hm⟩:=kh.1 (Z b (gL.1 D).1);have:=(gL.1 hm).1;exact⟨m,b,j,by omega,hm,s⟩
 refine dZ ?_;have L:=fg hi;generalize d[i]=b at*;have am:=aa b (zD L);obtain⟨l1,o1,p1,p2⟩:=T.E2 0 rfl L .i64;have D:=fg am;have an:u4.blocks[b]? =some u.blocks[b]:=by rw[t4.blocks];exact D
 generalize u.blocks[b]=B at*;obtain⟨ab,eB⟩:=gL.1 an;obtain⟨l2,o2,w2,q1,q2,⟨bv,bn,bp,ew,iv,_,_⟩,q4⟩:=T.V9 3 rfl ab .i64;rw[eB]at ew iv;subst ew;refine cO p1 (cO p2 (cO pn (cO pf (oF (T.ld 1 rfl rfl) (cO q1 (oF (q4 0 _ rfl) (cO iv.len ?_)))))));have aA:B.cR.length<=u.cR.length:=gq _ B.cR (En g D) λv r=>by
  obtain⟨k,hk⟩:=kh.1 r;exact g.gz v b k ⟨B,D,hk⟩
 obtain ⟨I1,M⟩:∃I1:Nat->LP,I1=λk l h'=>∃(F':Nat->Prop) (u':U) (c:Bool) (j:Nat),l=[.ptr lf 0,.bool c,q,.I d.length,.I i,bv,.I B.cR.length,.I (j:Nat)]/\j+k=B.cR.length/\Sn F4 C F' h'/\LZ vZ u u' c (λv=>(∃m b j,m<i/\d[m]? =some b/\At u v b j)\/∃m,m<j/\At u v b m)/\
   cS F' h' (cW eN cT d q::Fo lf u' vv vb vs gS az ds):=⟨_,rfl⟩
 refine xu I1 (λk1 x0 x3 aj ak al aB aC aD h5 ac=>?_) (k:=B.cR.length) ?_;rotate_left
 ·rw[M];exact⟨F4,u4,c4,0,rfl,by omega,Sn.refl _ _,t4.more λ_ v r=> .inl (r.elim id λ⟨m,h,_⟩=>by omega),T⟩
 clear T q1 q2 q4 p1 p2 t4;rw[M]at ac;obtain⟨F5,t,c5,j,⟨⟩,aE,s5,t5,H5⟩:=ac;unfold py;have ao:=iv.since s5;by_cases hj:j<B.cR.length;rotate_left
 ·refine fq (du ⟨k-1,by omega,?_⟩);rw[hI];refine⟨F5,t,c5,i+1,rfl,by omega,s4.trans s5,t5.more λ_ v ⟨m,b',j',h1,K,V⟩=> .inl ?_,H5⟩;by_cases e:m=i
  ·subst e;rw[L]at K;cases K;obtain⟨B',C,h5⟩:=id V;rw[D]at C;cases C;have:=(gL.1 h5).1;exact .inr ⟨j',by omega,V⟩
  ·exact .inl ⟨m,b',j',by omega,K,V⟩
 refine dZ ?_;have r:=fg hj;generalize B.cR[j]=v at*;have s:At u v b j:=⟨B,D,r⟩
 have N:v<t.cR.length:=by rw[t5.len];exact g.gz v b j s
 obtain⟨l3,o3,_,p1,p2⟩:=ao.nat r .i64;have hx:=fg N;obtain⟨l4,o4,w4,z1,z2,⟨wa,ew,ia⟩,_⟩:=H5.V9 2 rfl N .i64;generalize t.cR[v]=x at*;subst ew;refine cO p1 (cO p2 (cO pn (cO pf (oF (H5.ld 1 rfl rfl) (cO z1 (cO z2 ?_))))));refine fo H5 rfl rfl (by simp only[kN,cY,ia.one];rfl) λh6 H6 s6=>?_;generalize h5.next=lx at*;refine cO (H6.zt 0 rfl rfl) (I8 H6 (ia.since s6) (λ_=>EY (t5.args v x hx) (by decide)) λF7 h7 uv s7 H7 iu=>?_)
 have O:∀{F' h' u' c'},Sn F5 h5 F' h'->cS F' h' (cW eN cT d q::Fo lf u' vv vb vs gS az ds)->LZ vZ u u' c' (λv=>(∃m b j,m<i/\d[m]? =some b/\At u v b j)\/∃m,m<j+1/\At u v b m)->
   gf CS Q (xR I k) (xR I1 k1) [.ptr lf 0,.bool c',q,.I d.length,.I i,bv,.I B.cR.length,.I j] h':=λ{F' h' u' c'} s' H' t'=>by
  refine xm ?_;unfold nT;refine du ⟨k1-1,by omega,?_⟩;rw[M];exact⟨F',u',c',j+1,rfl,by omega,s5.trans s',t',H'⟩
 have more:(c5=false->Yo u v)->LZ vZ u t c5 (λv=>(∃m b j,m<i/\d[m]? =some b/\At u v b j)\/∃m,m<j+1/\At u v b m):=λhf=>t5.more λhc w p=>by
  rcases p with p|⟨m,h1,K⟩
  ·exact .inl (.inl p)
  ·by_cases e:m=j
   ·subst e;obtain⟨B',V,C⟩:=K;rw[D]at V;cases V;rw[r]at C;cases C;exact .inr (hf hc)
   ·exact .inl (.inr ⟨m,by omega,K⟩)
 have ux:c5=false->u.cR[v]? =some x:=λhc=>by rw[<-(t5.same hc).1];exact hx
 have ae:df (.ptr lx (0+0)) h7=some (.I x.op):=H7.ld 0 rfl rfl;refine oF ae (cO (jZ ..) (cO (a:= .bool (decide (x.op<3\/14<x.op))) ?_ ?_))
 ·simp only[pf,c0,ae,qR,jG];congr 2;rw[MN,Ie,zv,zv,zv];omega
 by_cases XV:x.op<3\/14<x.op
 ·rw[Ka XV];refine cO rfl (fK (ei rfl (O (s6.trans s7) H7.tail (more λhc y n P f=>?_))));rw[ux hc]at P;cases P;have:=f.lo;have:=f.hi;omega
 rw[QV XV];have hu:=A6 (x:=x) (by omega) (by omega);have lB:fu x≠[]:=by rcases hu with⟨_,h⟩|⟨_,h⟩ <;> rw[h] <;> simp
 have ag:(fu x).length=if x.op=8\/x.op=9 then 1 else 2:=by rcases hu with⟨c,h⟩|⟨c,h⟩ <;> rw[h] <;> simp[c]
 refine cO (a:= .bool false) ?_ (fK (dM (by simp) ?_))
 ·simp only[j6,c0,iu.len,fx];congr 2;rw[QO,ag];split <;> simp
 have ga:∀w∈fu x,∃y,t.cR[w]? =some y:=λw p=>by
  obtain⟨y,P,_⟩:=t5.yS.use v x hx w p;exact⟨y,P⟩
 have u0:(fu x)[0]? =some x.a:=by rcases hu with⟨_,h⟩|⟨_,h⟩ <;> rw[h] <;> rfl
 obtain⟨E,A⟩:=ga x.a (zD u0);obtain⟨la,oa,_,a1,a2⟩:=iu.nat u0 .i64;refine cO a1 (cO a2 ?_);have ap:cS F7 h7 (Fo lf t vv vb vs gS az (cW eN cT d q::cV lx dP (kN x wa)::ds)):=H7.perm [2,3,4,5,1,0] 6 (by decide) (by decide) (by simp);have aq:0<(fu x).length/\(fu x).length<=2:=by rw[ag];split <;> omega
 obtain⟨z,W⟩:∃z,(fu x)[(fu x).length-1]? =some z:=⟨_,fg (by omega)⟩
 have ah:¬(x.op=8\/x.op=9)->z=x.b:=λc=>by
  rcases hu with⟨c',_⟩|⟨_,h⟩
  ·exact(c c').elim
  ·rw[h]at W;simpa using W.symm
 have ar:(x.op=8\/x.op=9)->z=x.a:=λc=>by
  rcases hu with⟨_,h⟩|⟨c',_⟩
  ·rw[h]at W;simpa using W.symm
  ·exact(c' c).elim
 obtain⟨J,o⟩:=ga z (zD W);refine CC ap A λh8 s8 H8=>cO rfl (cO rfl (cO (iu.since s8).len (DC (by omega) aq.1 ?_)));obtain⟨lb,ob,_,b1,b2⟩:=(iu.since s8).nat W .i64;refine cO b1 (cO b2 (CC H8 o λh9 s9 X=>cO rfl (cO rfl (oF (X.ld 5 rfl rfl) ?_))));refine OU (Jt _) (Jt _) (by omega) (cO rfl (cO rfl (cO (fW _ _) (cO (fW _ _) (fK ?_)))));have X:cS F7 h9 (cW eN cT d q::Fo lf t vv vb vs gS az ds):=(X.perm [5,4,0,1,2,3] 6 (by decide) (by decide) (by simp)).tail;have ai:=((s6.trans s7).trans s8).trans s9;by_cases hk2:E.op=2/\J.op=2
 ·have p:kK (nX (uV x.op (kK E.n) (kK J.n)))=uV x.op (kK E.n) (kK J.n):=by
   have:=DT x.op (kK E.n) (kK J.n);simp only[zS]at this;unfold kK nX at*;split <;> omega
  have f:Fv t x (nX (uV x.op (kK E.n) (kK J.n))):=⟨by omega,by omega,kK E.n,kK J.n,⟨E,A,hk2.1,rfl⟩,λc=>⟨J,by rw[<-ah c];exact o,hk2.2,rfl⟩,p⟩
  refine ei (by simp[hk2]) (cO pn (cO pf (oF (X.ld 1 rfl rfl) (cO (by rw[jA,He (DT _ _ _)]) ?_))));generalize nX (uV x.op (kK E.n) (kK J.n))=n at*;refine cO (show _=some (.agg (kN (Of n) .cQ)) from rfl) ?_;obtain⟨l6,o6,au,r1,r2,_,R,aw⟩:=X.ZX 2 rfl N (y:=Of n) (ws:=kN (Of n) .cQ) ⟨.cQ,rfl,.inl ⟨rfl,rfl⟩⟩;refine cO r1 ?_;rw[show fk 6 (.ptr l6 o6) _ h9=_ from r2,cU];have R:cS F7 au (cW eN cT d q::Fo lf (Ao t v n) vv vb vs gS az ds):=R;exact O (ai.trans aw) R (t5.step hx f (OL t5.args _) _)
 ·refine dM (by simp;omega) (O ai X (more λhc y n P f=>?_));rw[ux hc]at P;cases P;obtain⟨a,b,⟨aF,e1,e2,_⟩,ax,_⟩:=f.kn;rw[<-(t5.same hc).1,A]at e1;cases e1;refine hk2 ⟨e2,?_⟩;by_cases c:x.op=8\/x.op=9
  ·rw[ar c,A]at o;cases o;exact e2
  ·obtain⟨aG,e3,e4,_⟩:=ax c;rw[ah c,(t5.same hc).1,e3]at o;cases o;exact e4
end
open Un Dm
def ZE(v:Nat)(l:List Nat)(one:Int)(b:Bool):Prop:=b=true\/(b=false/\one = -1/\∀a∈l,a=v)\/(b=false/\∃r:Nat,one=(r:Int)/\r≠v/\r∈l/\∀a∈l,a=v\/a=r)
def YQ(u:U)(v r:Nat):Prop:=∃x,u.cR[v]? =some x/\x.op=21/\r≠v/\r∈x.args/\∀a∈x.args,a=v\/a=r
def QH(u:U)(v:Nat):Prop:=∃x n,u.cR[v]? =some x/\x.op=22/\Kw u x.a n/\n≠0
section
variable{F F':Nat->Prop}{h h':Hp}{cs ds:List Pc}{Q:dg}{u:U}{vv vb vs gS:V}{az:List Int}{lf:Nat}
theorem Tg(g:Good u)(Z:vZ u)(aa:az.length=u.cR.length)(C:cS F h (Fo lf u vv vb vs gS az ds))
  (H:∀F' h' iz c,Sn F h F' h'->cS F' h' (Fo lf u vv vb vs gS iz ds)->(c=false->iz=az)->(c=true->∃v r,YQ u v r/\iz=az.set v (r:Int))->Q (.bool c) h') :
  cP CS gm [.ptr lf 0] h Q:=by
 refine Cc rfl rfl ?_;unfold uy;have nv:=g.nv;refine cO pn (cO pf (oF (C.ld 0 rfl rfl) (cO (C.len 1 rfl) ?_)));obtain⟨I,D⟩:∃I:Nat->LP,I=λk l h'=>∃(i:Nat),l=[.ptr lf 0,.bool false,vv,.I u.cR.length,.I i]/\i+k=u.cR.length/\Sn F h F h'/\cS F h' (Fo lf u vv vb vs gS az ds):=⟨_,rfl⟩
 refine zy I (λk x0 x3 E G J K hi=>?_) (k:=u.cR.length) (by rw[D];exact⟨0,rfl,by omega,Sn.refl _ _,C⟩);rw[D]at hi;obtain⟨i,⟨⟩,hk,L,M⟩:=hi;unfold rr;by_cases hi:i<u.cR.length;rotate_left
 ·refine fq (rz ?_);unfold kT;exact H F K az false L M (λ_=>rfl) λh=>nomatch h
 refine dZ ?_;have V:=fg hi;obtain⟨l4,o4,w4,z1,z2,⟨N,ew,O⟩,_⟩:=M.V9 1 rfl hi .i64;generalize u.cR[i]=x at*;subst ew;refine cO z1 (cO z2 (fo M rfl rfl (by simp only[kN,cY,O.one];rfl) λh2 m o=>?_));generalize K.next=lx at*;have r8:∀{h'},Sn F K F h'->cS F h' (Fo lf u vv vb vs gS az ds)->jm CS Q (xR I k) [.ptr lf 0,.bool false,vv,.I u.cR.length,.I i] h':=λ{h'} s' H'=>by
  refine zO ?_;unfold rK;refine du ⟨k-1,by omega,?_⟩;rw[D];exact⟨i+1,rfl,by omega,L.trans s',H'⟩
 refine oF (m.ld 0 rfl rfl) (xM ?_);by_cases P:x.op=21;rotate_left
 ·exact dM (by omega) (r8 o m.tail)
 refine ei (by omega) (oF (m.ld 0 rfl rfl) (cO O.len ?_));have W:=Z i x V;obtain⟨t,n⟩:∃t:Nat->LP,t=λk l h'=>∃(one:Int) (e:Bool) (j:Nat),l=[.ptr lf 0,.bool false,.I i,.I one,.bool e,vv,.I u.cR.length,.I i,N,.I x.args.length,.I j]/\j+k=x.args.length/\h' = h2/\ZE i (x.args.take j) one e:=⟨_,rfl⟩
 refine zH t (λX x0 x3 x4 x6 x7 E G J ab ac ae h3 p=>?_) (k:=x.args.length) (by rw[n];exact⟨-1,false,0,rfl,by omega,rfl,.inr (.inl ⟨rfl,rfl,by simp⟩)⟩);rw[n]at p;obtain⟨one,e,j,⟨⟩,ag,rfl,w⟩:=p;unfold rW;have i2:=O.since o;by_cases hj:j<x.args.length;rotate_left
 ·refine fq (cO (oD ..) ?_);obtain rfl:j=x.args.length:=by omega
  rw[E5]at w;refine cO (a:= .bool (decide (0<=one)&&!e)) ?_ (fK ?_)
  ·simp only[c0,SH,Ok,fW]
  rcases w with rfl|⟨rfl,rfl,_⟩|⟨rfl,r,rfl,z,A,B⟩
  ·exact dM (by simp) (r8 o m.tail)
  ·exact dM (by simp) (r8 o m.tail)
  ·refine ei (by simp) (oN (m.ld 1 rfl rfl) ?_);obtain⟨l5,o5,Y,p1,R,_,S,s6⟩:=m.D7 4 rfl (k:=i) (y:=(r:Int)) (u:= .I r) (by omega) rfl rfl rfl;refine cO p1 ?_;rw[R,cU];refine rz ?_;unfold kT;have S:cS F Y (cV lx dP (kN x N)::Fo lf u vv vb vs gS (az.set i (r:Int)) ds):=S;exact H F Y _ true ((L.trans o).trans s6) S.tail (λh=>nomatch h) λ_=>⟨i,r,⟨x,V,P,z,A,B⟩,rfl⟩
 refine dZ ?_;have hv:=fg hj;have T:=LV hj;generalize x.args[j]=a at*;obtain⟨l6,o6,_,p1,R⟩:=i2.nat hv .i64;have s:∀{Oz:Int} {d:Bool},ZE i (x.args.take j++[a]) Oz d->iT CS Q (xR I k) (xR t X) [.ptr lf 0,.bool false,.I i,.I Oz,.bool d,vv,.I u.cR.length,.I i,N,.I x.args.length,.I j] h3:=λ{Oz d} U=>by
  refine zf ?_;unfold qt;refine du ⟨X-1,by omega,?_⟩;rw[n];exact⟨Oz,d,j+1,rfl,by omega,rfl,by rw[T];exact U⟩
 refine cO p1 (cO R (cO (mf ..) (cO (a:= .bool (decide (a≠i/\(a:Int)≠one))) ?_ (fK ?_))))
 ·simp only[c0,mf,fW];congr 2;rw[MN,rm,bne_iff_ne,bne_iff_ne,zv];omega
 by_cases c:a≠i/\(a:Int)≠one
 ·refine ei (Ka c) (cO (a:= .bool (e ||decide (0<=one))) ?_ (s ?_))
  ·simp only[c0,oD,jG]
  rcases w with rfl|⟨rfl,rfl,q⟩|⟨rfl,r,rfl,z,A,B⟩
  ·exact .inl rfl
  ·refine .inr (.inr ⟨rfl,a,rfl,c.1,by simp,λb f=>?_⟩);rcases EC.1 f with f|f
   ·exact .inl (q b f)
   ·exact .inr (by simpa using f)
  ·exact .inl (by simp)
 ·refine dM (by rw[zv];exact c) (s ?_);rcases w with rfl|⟨rfl,rfl,q⟩|⟨rfl,r,rfl,z,A,B⟩
  ·exact .inl rfl
  ·refine .inr (.inl ⟨rfl,rfl,λb f=>?_⟩);rcases EC.1 f with f|f
   ·exact q b f
   ·have:b=a:=by simpa using f
    omega
  ·refine .inr (.inr ⟨rfl,r,rfl,z,PM _ A,λb f=>?_⟩);rcases EC.1 f with f|f
   ·exact B b f
   ·have:b=a:=by simpa using f
    omega
theorem OC(g:Good u)(L:az.length=u.cR.length)(p:cS F h (Fo lf u vv vb vs gS az ds))
  (H:∀F' h' iz c,Sn F h F' h'->cS F' h' (Fo lf u vv vb vs gS iz ds)->iz.length=az.length->(∀v,iz[v]? =az[v]?\/(iz[v]? =some (-1)/\QH u v))->(c=false->iz=az)->(c=true->∃v,v<u.cR.length/\iz[v]? =some (-1)/\QH u v)->Q (.bool c) h') :
  cP CS fG [.ptr lf 0] h Q:=by
 refine Aq rfl rfl ?_;unfold sH;have nv:=g.nv;refine cO pn (cO pf (oF (p.ld 0 rfl rfl) (cO (p.len 1 rfl) ?_)));obtain⟨I,r⟩:∃I:Nat->LP,I=λk l h'=>∃(i:Nat) (c:Bool) (iz:List Int),l=[.ptr lf 0,.bool c,vv,.I u.cR.length,.I i]/\i+k=u.cR.length/\Sn F h F h'/\cS F h' (Fo lf u vv vb vs gS iz ds)/\iz.length=az.length/\(∀v,iz[v]? =az[v]?\/(iz[v]? =some (-1)/\QH u v))/\(c=false->iz=az)/\(c=true->∃v,v<u.cR.length/\iz[v]? =some (-1)/\QH u v):=⟨_,rfl⟩
 refine xU I (λk x0 x3 M N O s hi=>?_) (k:=u.cR.length) (by rw[r];exact⟨0,false,az,rfl,by omega,Sn.refl _ _,p,rfl,λ_=> .inl rfl,λ_=>rfl,λh=>nomatch h⟩);rw[r]at hi;obtain⟨i,c,iz,⟨⟩,hk,D,t,j,m,w,z⟩:=hi;unfold pM;by_cases hi:i<u.cR.length;rotate_left
 ·exact fq (H F s iz c D t j m w z)
 refine dZ ?_;have E:=fg hi;obtain⟨l4,o4,w4,P,R,⟨S,T,U⟩,_⟩:=t.V9 1 rfl hi .i64;generalize u.cR[i]=x at*;subst T;refine cO P (cO R (fo t rfl rfl (by simp only[kN,cY,U.one];rfl) λV o A=>?_));generalize s.next=lx at*;have r8:∀{h' c' b},Sn F s F h'->cS F h' (Fo lf u vv vb vs gS b ds)->b.length=az.length->(∀v,b[v]? =az[v]?\/(b[v]? =some (-1)/\QH u v))->(c' = false->b=az)->(c' = true->∃v,v<u.cR.length/\b[v]? =some (-1)/\QH u v)->gy CS Q (xR I k) [.ptr lf 0,.bool c',vv,.I u.cR.length,.I i] h':=λ{h' c' b} s' W X Y Z t4=>by
  refine xZ ?_;unfold pS;refine du ⟨k-1,by omega,?_⟩;rw[r];exact⟨i+1,c',b,rfl,by omega,D.trans s',W,X,Y,Z,t4⟩
 refine oF (o.ld 0 rfl rfl) (xM ?_);by_cases d:x.op=22;rotate_left
 ·exact dM (by omega) (r8 A o.tail j m w z)
 obtain⟨y,G,_⟩:=g.use i x E x.a (AW.2 (by rw[d];rfl) (by omega));have B:cS F V (Fo lf u vv vb vs gS iz (cV lx dP (kN x S)::ds)):=o.perm [1,2,3,4,0] 5 (by decide) (by decide) (by simp);refine ei (by omega) (oF (o.ld 0 rfl rfl) (CC B G λh3 J f=>cO rfl (cO rfl ?_)));have f:cS F h3 (Fo lf u vv vb vs gS iz ds):=(f.perm [4,0,1,2,3] 5 (by decide) (by decide) (by simp)).tail;refine cO (a:= .bool (decide (y.op=2/\kK y.n≠0))) ?_ (fK ?_)
 ·simp only[c0,mf,fW];congr 2;rw[MN,rm,bne_iff_ne,zv,zv]
 by_cases hk2:y.op=2/\kK y.n≠0
 ·refine ei (Ka hk2) (oN (f.ld 0 rfl rfl) ?_);obtain⟨l5,o5,h6,p1,p2,_,C,s6⟩:=f.D7 3 rfl (k:=i) (y:=(-1:Int)) (u:= .I (-1)) (by omega) rfl rfl rfl;refine cO p1 ?_;rw[p2,cU];have C:cS F h6 (Fo lf u vv vb vs gS (iz.set i (-1)) ds):=C;have K:QH u i:=⟨x,kK y.n,E,d,⟨y,G,hk2.1,rfl⟩,hk2.2⟩
  have hs:(iz.set i (-1))[i]? =some (-1):=HT (by omega);refine r8 ((A.trans J).trans s6) C (by rw[Hb];exact j) (λv=>?_) (λh=>nomatch h) λ_=>⟨i,hi,hs,K⟩
  by_cases e:v=i
  ·subst e;exact .inr ⟨hs,K⟩
  ·rw[CL λq=>e q.symm];exact m v
 ·exact dM (by rw[zv];exact hk2) (r8 (A.trans J) f j m w z)
end
open Un Dm
section
variable{F F':Nat->Prop}{h h':Hp}{cs ds:List Pc}{Q:dg}{u:U}{vv vb vs gS:V}{az:List Int}{lf:Nat}
theorem TU(g:Good u)(M:cS F h (Fo lf u vv vb vs gS az ds))
  (H:∀F' h' u2 c,Sn F h F' h'->cS F' h' (Fo lf u2 vv vb vs gS az ds)->zz u u2 c (λb=>b<u.blocks.length)->Q (.bool c) h') :
  cP CS gj [.ptr lf 0] h Q:=by
 refine B5 rfl rfl ?_;unfold uX;have nb:=g.nb;refine cO pn (cO pf (oF (M.ld 0 rfl rfl) (cO (M.len 2 rfl) ?_)));obtain⟨I,N⟩:∃I:Nat->LP,I=λk l h'=>∃(F':Nat->Prop) (u2:U) (c:Bool) (i:Nat),l=[.ptr lf 0,.bool c,vb,.I u.blocks.length,.I i]/\i+k=u.blocks.length/\Sn F h F' h'/\cS F' h' (Fo lf u2 vv vb vs gS az ds)/\zz u u2 c (λb=>b<i)/\∀b,i<=b->u2.blocks[b]? =u.blocks[b]?:=⟨_,rfl⟩
 refine zJ I (λk x0 x3 ac ae ag P hi=>?_) (k:=u.blocks.length) (by rw[N];exact⟨F,u,false,0,rfl,by omega,Sn.refl _ _,M,(zz.start u).more λ_ b r=>by omega,λ_ _=>rfl⟩);rw[N]at hi;obtain⟨d,u1,c,i,⟨⟩,hk,s1,R,t,lB⟩:=hi;unfold rC;by_cases hi:i<u.blocks.length;rotate_left
 ·exact fq (H d P u1 c s1 R (t.more λ_ b r=> .inl (by omega)))
 refine dZ ?_;have D:=fg hi;generalize u.blocks[i]=B at*;have s:u1.blocks[i]? =some B:=by rw[lB i (iC _)];exact D
 obtain ⟨f,eB⟩:=gL.1 s;obtain⟨l4,o4,w4,z1,z2,⟨bv,bn,bp,ew,iv,S,ip⟩,_⟩:=R.V9 2 rfl f .i64;rw[eB]at ew iv S ip;subst ew;refine cO z1 (cO z2 (fo R rfl rfl (by simp only[nV,cY,iv.one,S.one,ip.one];rfl) λT G J=>?_));generalize P.next=lx at*;have r8:∀{F' h' c' u'},Sn d P F' h'->cS F' h' (Fo lf u' vv vb vs gS az ds)->zz u u' c' (λb=>b<i+1)->(∀b,i+1<=b->u'.blocks[b]? =u.blocks[b]?)->hX CS Q (xR I k) [.ptr lf 0,.bool c',vb,.I u.blocks.length,.I i] h':=λ{F' h' c' u'} s' H' t' V=>by
  refine zK ?_;unfold rE;refine du ⟨k-1,by omega,?_⟩;rw[N];exact⟨F',u',c',i+1,rfl,by omega,s1.trans s',H',t',V⟩
 have more:(∀n,B.fin=2->¬Kw u B.cond n)->zz u u1 c (λb=>b<i+1):=λhf=>t.more λ_ b r=>by
  by_cases q:b=i
  ·subst q;exact .inr λA n hA T=>by
    rw[D]at hA;cases hA;exact hf n T
  ·exact .inl (by omega)
 refine oF (G.ld 0 rfl rfl) (xM ?_);by_cases hf2:B.fin=2;rotate_left
 ·exact dM (by omega) (r8 J G.tail (more λ_ q=>absurd q hf2) λb r=>lB b (by omega))
 obtain ⟨y,x,hlen⟩:∃y,u.cR[B.cond]? =some y/\B.next.length=2:=by
  rcases g.fin i B D with⟨q,_⟩|⟨_,q,y,x,_⟩|⟨q,_⟩
  ·omega
  ·exact⟨y,x,q⟩
  ·omega
 have W:u1.cR[B.cond]? =some y:=by rw[t.e.cR];exact x
 have X:cS d T (Fo lf u1 vv vb vs gS az (cV lx dm (nV B bv bn bp)::ds)):=G.perm [1,2,3,4,0] 5 (by decide) (by decide) (by simp);refine ei (by omega) (oF (G.ld 0 rfl rfl) (CC X W λa Y m=>cO rfl (cO rfl (IY (fK ?_)))));by_cases hk2:y.op=2;rotate_left
 ·refine ei (by simp[hk2]) (r8 (J.trans Y) (m.perm [4,0,1,2,3] 5 (by decide) (by decide) (by simp)).tail (more λn _ ⟨y',e1,e2,_⟩=>?_) λb r=>lB b (by omega));rw[x]at e1;cases e1;exact hk2 e2
 have z:=(S.since J).since Y;have n0:=fg (show 0<B.next.length by omega);have n1:=fg (show 1<B.next.length by omega);obtain⟨la,oa,_,a1,a2⟩:=z.nat n0 .i64;obtain⟨lb,ob,_,b1,b2⟩:=z.nat n1 .i64;refine dM (by simp[hk2]) (oF (m.ld 4 rfl rfl) (cO a1 (cO a2 (eh ?_))));have Z:=J.trans Y;have C:∀to:Nat,(if kK y.n=0 then B.next[1]? else B.next[0]?)=some to->iW CS Q (xR I k) [.ptr lf 0,.I i,.I (to:Nat),vb,.I u.blocks.length,.I i] a:=λto aa=>by
  have m:cS d a (Fo lf u1 vv vb vs gS az ds):=(m.perm [4,0,1,2,3] 5 (by decide) (by decide) (by simp)).tail;refine yC ?_;unfold qG;refine cO pn (cO pf (oF (m.ld 0 rfl rfl) (cO pn (cO pf (oF (m.ld 0 rfl rfl) (cO pn (cO pf (oF (m.ld 0 rfl rfl) ?_))))))));rw[kH,fQ];obtain⟨o,s4,r4⟩:=m.Ou (E:=eN) (xs:=[to]) (ws:=fi [to]) (n:=1) cT rfl (vw _ _ _) false;have hg:(a.new (.cells 3 1 true false (fi [to]))).get a.next=some (.cells 3 1 true false (fi [to])):=dL _ _;have o:cS (λl=>d l\/l=a.next) (a.new (.cells 3 1 true false (fi [to]))) (Fo lf u1 vv vb vs gS az ds):=o;have s4:Sn d a (λl=>d l\/l=a.next) (a.new (.cells 3 1 true false (fi [to]))):=s4;have r4:fJ eN (λl=>d l\/l=a.next) (a.new (.cells 3 1 true false (fi [to]))) [to] (.slice a.next 0 1):=r4;generalize a.new (.cells 3 1 true false (fi [to]))=h4 at*;generalize ab:(λl=>d l\/l=a.next)=F4 at*;have f4:F4 a.next:=by rw[<-ab];exact .inr rfl
  obtain ⟨l5,o5,h5,c1,c2,n5,H5,K⟩:=o.Y1 2 rfl (k:=i) (j:=1) (u:= .I 1) (y:={B with fin:=1}) f (by decide) rfl λw ⟨v,n,p,e,q⟩=>by
   rw[eB]at e q;subst e;exact⟨v,n,p,rfl,q⟩
  refine cO c1 (cO pf ⟨⟨hg,O.jz _ _ _ _ _⟩,o.ld 0 rfl rfl,o.ld 0 rfl rfl,o.ld 0 rfl rfl,?_⟩);rw[show fk 1 (.ptr l5 (o5+1)) _ h4=_ from c2,cU];obtain⟨l6,o6,h6,d1,d2,n6,H6,s6⟩:=H5.Y1 2 rfl (k:=i) (j:=2) (u:= .I 0) (y:={B with fin:=1,cond:=0}) (by rw[Hb];exact f) (by decide) rfl λw ⟨v,n,p,e,q⟩=>by
   rw[List.getElem_set_self]at e q;subst e;exact⟨v,n,p,rfl,q⟩
  refine ⟨n5,cO d1 (cO pf ⟨⟨by rw[K.dO _ f4];exact hg,O.jz _ _ _ _ _⟩,?_⟩)⟩;rw[show fk 1 (.ptr l6 (o6+2)) _ h5=_ from d2,cU];have r6:=(r4.since K).since s6;obtain⟨l7,o7,h7,g1,g2,n7,L,s7⟩:=H6.Y1 2 rfl (k:=i) (j:=3) (u:= .slice a.next 0 1) (y:=MP B to) (by rw[Hb,Hb];exact f) (by decide) rfl λw ⟨v,n,p,e,q1,_,q3⟩=>by
   rw[List.getElem_set_self]at e q1 q3;subst e;exact⟨v,_,p,rfl,q1,r6,q3⟩
  refine⟨n6,cO g1 (cO pf ⟨⟨by rw[s6.dO _ f4,K.dO _ f4];exact hg,O.jz _ _ _ _ _⟩,?_⟩)⟩;rw[show fk 1 (.ptr l7 (o7+3)) _ h6=_ from g2,cU];have L:cS F4 h7 (Fo lf {u1 with blocks:=((u1.blocks.set i {B with fin:=1}).set i {B with fin:=1,cond:=0}).set i (MP B to)} vv vb vs gS az ds):=L;rw[List.set_set,List.set_set]at L;refine⟨n7,r8 ((((Z.trans s4).trans K).trans s6).trans s7) L (t.step D s hf2 ⟨y,x,hk2,rfl⟩ aa _) λb r=>?_⟩;show(u1.blocks.set i _)[b]? =_;rw[CL (by omega)];exact lB b (by omega)
 by_cases hz:kK y.n=0
 ·refine ei hz (oF (m.ld 4 rfl rfl) (cO b1 (cO b2 (C _ ?_))));rw[if_pos hz];exact n1
 ·refine dM hz (C _ ?_);rw[if_neg hz];exact n0
end
open Un Dm
abbrev Fh:Nat:=81
def ke(u:U):List Int:=(List.range u.cR.length).map λ(i:Nat)=>(i:Int)
abbrev Yh(u:U) (i:Nat) (c:Bool) (u2:U) (az:List Int) (u1:U) (e c2 d f:Bool) (a:List Int):Prop:=
 LZ vZ u u1 e (λv=>1<=i/\v<u.cR.length)/\
 (c2=false->a=ke u)/\(c2=true->∃v r,YQ u1 v r/\a=(ke u).set v (r:Int))/\
 az.length=a.length/\(∀v,az[v]? =a[v]?\/(az[v]? =some (-1)/\QH u1 v))/\(d=false->az=a)/\(d=true->∃v,v<u1.cR.length/\az[v]? =some (-1)/\QH u1 v)/\
 zz u1 u2 f (λb=>4<=i/\b<u1.blocks.length)/\c=(f ||(d ||(c2 ||e)))/\
 (i<4->f=false/\u2=u1)/\(i<3->d=false)/\(i<2->c2=false)/\(i<1->e=false/\u1=u)
def Ag(u:U)(i:Nat)(c:Bool)(u2:U)(az:List Int):Prop:=∃(u1:U)(a c2 b d:Bool)(e:List Int),Yh u i c u2 az u1 a c2 b d e
section
variable{F F':Nat->Prop}{h h':Hp}{cs ds:List Pc}{Q:dg}{u:U}{vv vb vs gS:V}{az:List Int}{lf:Nat}
def IT:List V:=[.func fF [] [],.func gm [] [],.func fG [] [],.func gj [] []]
theorem Qn(a:cS F h cs)(H:∀h' l,Sn F h F h'->cS F h' (cV l Fh IT::cs)->Q (.slice l 0 4) h'):cP CS uj [] h Q:=by
 refine JJ rfl rfl ?_;unfold Dv;rw[show oX 81 1 4 V.nilFunc [(0,V.func fF [] []),(1,V.func gm [] []),(2,V.func fG [] []),(3,V.func gj [] [])]=some (.cells 81 1 true false IT,λl=> .slice l 0 4) from rfl,dC];obtain⟨b,c⟩:=a.vW 81 IT;exact H _ h.next c b
theorem Ag.start(g:Good u)(a:vZ u):Ag u 0 false u (ke u):=⟨u,false,false,false,false,ke u,(LZ.start g a).more λ_ v h=>by omega,λ_=>rfl,λh=>(nomatch h),rfl,λ_=> .inl rfl,λ_=>rfl,λh=>(nomatch h),(zz.start u).more λ_ b h=>by omega,rfl,λ_=>⟨rfl,rfl⟩,λ_=>rfl,λ_=>rfl,λ_=>⟨rfl,rfl⟩⟩
theorem yd:(ke u).length=u.cR.length:=by simp[ke]
theorem QD(g:Good u)(ha:vZ u)(V:vs.one=true)(aa:gS.one=true)(p:cS F h (cV lf CK [.I u.func,.I u.pc,vv,vb,vs,gS]::cW eV dP u.cR vv::cW eK dm u.blocks vb::ds))
  (H:∀F' h' u2 av az c,Sn F h F' h'->cS F' h' (Fo lf u2 vv vb vs av az ds)->Ag u 4 c u2 az->Q (.bool c) h') :
  cP CS jX [.ptr lf 0] h Q:=by
 refine Bj rfl rfl ?_;unfold tE;have y:dU (uC u vv vb vs)=true:=by simp only[uC,cY,p.one 1 rfl,p.one 2 rfl,V];rfl
 refine cO pn (cO pf (cO (Vw p 0 rfl) (NP y (p.len 1 rfl) g.nv p λh1 av W K=>cO pn (cO pf ?_))));obtain⟨X,e2,_,s,Y⟩:=K.st 1 (o:=5) (u:=av) rfl (by simp) (K.one 0 rfl);rw[show fk 1 (.ptr lf (0+5)) av h1=_ from e2,cU];have s:cS F X (cW eZ cT (ke u) av::cV lf CK [.I u.func,.I u.pc,vv,vb,vs,av]::cW eV dP u.cR vv::cW eK dm u.blocks vb::ds):=s;have s:cS F X (Fo lf u vv vb vs av (ke u) ds):=s.perm [1,2,3,0] 4 (by decide) (by decide) (by simp);refine Qn s λh3 lr Z C=>cO rfl ?_;have C:cS F h3 (Fo lf u vv vb vs av (ke u) (cV lr Fh IT::ds)):=C.perm [1,2,3,4,0] 5 (by decide) (by decide) (by simp);have z:=(W.trans Y).trans Z;obtain⟨I,L⟩:∃I:Nat->LP,I=λk l h'=>∃(F':Nat->Prop) (u2:U) (az:List Int) (c:Bool) (i:Nat),l=[.ptr lf 0,.bool c,.slice lr 0 4,.I (4:Nat),.I i]/\i+k=4/\Sn F h F' h'/\cS F' h' (Fo lf u2 vv vb vs av az (cV lr Fh IT::ds))/\Ag u i c u2 az:=⟨_,rfl⟩
 refine zh I (λk x0 x3 ab ac ae w hi=>?_) (k:=4) (by rw[L];exact⟨F,u,ke u,false,0,rfl,rfl,z,C,Ag.start g ha⟩);clear p K s C W Y Z z;rw[L]at hi;obtain⟨F4,f,az,c,i,⟨⟩,hk,s4,a,u1,D,c2,c3,c4,E,t,p1,G,M,g2,x,g4,e1,ec,i4,J,N,i1⟩:=hi;unfold qP;by_cases hi:i<4;rotate_left
 ·refine fq ?_;obtain rfl:i=4:=by omega
  exact H F4 w f av az c s4 (a.perm [4,0,1,2,3] 5 (by decide) (by decide) (by simp)).tail ⟨u1,D,c2,c3,c4,E,t,p1,G,M,g2,x,g4,e1,ec,i4,J,N,i1⟩
 obtain⟨rfl,rfl⟩:=i4 hi
 have fin:∀{F' h' u' iz c' d},Sn F4 w F' h'->cS F' h' (Fo lf u' vv vb vs av iz (cV lr Fh IT::ds))->Ag u (i+1) d u' iz->(c' ||c)=d->
   oP (kI (.bool c') (some (.bool c))) (λO=>oP (cX .add 3 (.I i) (.I 1)) λP=>xR I k [.ptr lf 0,O,.slice lr 0 4,.I (4:Nat),P] h'):=λ{F' h' u' iz c' d} s' H' A e=>by
  refine cO (jG _ _) (du ⟨k-1,by omega,?_⟩);rw[L,e];exact⟨F',u',iz,d,i+1,rfl,by omega,s4.trans s',H',A⟩
 subst ec;refine dZ (cO (se _ _ _ _ _ _ hi) ?_);have lz:∀{az:List Int},az=E->c2=false->az.length=f.cR.length:=λe q=>by rw[e,p1 q,yd,t.len]
 obtain rfl|rfl|rfl|rfl:i=0\/i=1\/i=2\/i=3:=by omega
 ·refine cO (a.ld 4 (o:=0+0*1) rfl rfl) ?_;show cP CS fF [.ptr lf 0] w _;obtain⟨rfl,rfl⟩:=i1 (by omega);obtain rfl:=N (by omega);obtain rfl:=J (by omega);refine O7 t.yS t.args V a λR S T j m n t5=>fin m n ⟨T,j,false,false,false,E,t5.more λ_ v h=> .inl h.2,p1,λh=>(nomatch h),M,λv=> .inl (by rw[x rfl]),x,λh=>(nomatch h),(zz.start T).more λ_ b h=>by omega,rfl,λ_=>⟨rfl,rfl⟩,λ_=>rfl,λ_=>rfl,λh=>by omega⟩ (by simp)
 ·refine cO (a.ld 4 (o:=0+1*1) rfl rfl) ?_;show cP CS gm [.ptr lf 0] w _;obtain rfl:=N (by omega);obtain rfl:=J (by omega);obtain rfl:=x rfl;refine Tg t.yS t.args (lz rfl rfl) a λR S B j m n t5 t6=>fin m n ⟨f,D,j,false,false,B,t.more λ_ v h=> .inl ⟨by omega,h.2⟩,λh=>(t5 h).trans (p1 rfl),λh=>?_,rfl,λv=> .inl rfl,λ_=>rfl,λh=>(nomatch h),(zz.start f).more λ_ b h=>by omega,rfl,λ_=>⟨rfl,rfl⟩,λ_=>rfl,λh=>by omega,λh=>by omega⟩ (by simp);rw[<-p1 rfl];exact t6 h
 ·refine cO (a.ld 4 (o:=0+2*1) rfl rfl) ?_;show cP CS fG [.ptr lf 0] w _;obtain rfl:=J (by omega);obtain rfl:=x rfl;have hl:az.length=f.cR.length:=by
   cases c2 with
   |false=>exact lz rfl rfl
   | true=>
     obtain⟨v,r,_,e⟩:=G rfl;rw[e,Hb,yd,t.len]
  refine OC t.yS hl a λR S B j m n t5 t6 t7 t8=>fin m n ⟨f,D,c2,j,false,az,t.more λ_ v h=> .inl ⟨by omega,h.2⟩,p1,G,t5,t6,t7,t8,(zz.start f).more λ_ b h=>by omega,rfl,λ_=>⟨rfl,rfl⟩,λh=>by omega,λh=>by omega,λh=>by omega⟩ (by simp)
 ·refine cO (a.ld 4 (o:=0+3*1) rfl rfl) ?_;show cP CS gj [.ptr lf 0] w _;refine TU t.yS a λR S T j m n t5=>fin m n ⟨f,D,c2,c3,j,E,t.more λ_ v h=> .inl ⟨by omega,h.2⟩,p1,G,M,g2,x,g4,t5.more λ_ b h=> .inl h.2,rfl,λh=>by omega,λh=>by omega,λh=>by omega,λh=>by omega⟩ (by simp)
end
