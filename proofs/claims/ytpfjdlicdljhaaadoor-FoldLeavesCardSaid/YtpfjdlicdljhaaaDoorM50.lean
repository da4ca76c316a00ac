/- Parts. -/
import Derived.Test.YtpfjdlicdljhaaaDoorM41
import Derived.Test.YtpfjdlicdljhaaaDoorM49
import Derived.Test.YtpfjdlicdljhaaaDoorM48
set_option maxHeartbeats 4000000
namespace Go.Proofs.YtpfjdlicdljhaaaDoor.Hx
open Un Dm
theorem Rx(l:List V):fW l=l.all V.one:=by
 induction l with
 |nil=>rfl
 |cons a l b=>rw[ev,b];rfl
theorem Ri{l ws:List V}(h:fW l=true)(b:fW ws=true)(n m:Nat):fW (l.take n++ws++l.drop m)=true:=by
 rw[Rx,Oj]at*;intro x a;rcases FM.1 a with a|a
 ·rcases FM.1 a with a|a
  ·exact h x (wBZ a)
  ·exact b x a
 ·exact h x (List.mem_of_mem_drop a)
section
variable{F F':Nat->Prop}{h h':Hp}{cs:List Pc}
theorem ei.stP{α:Type}{E:pG α}{ty:Nat}{xs:List α}{v:V}(H:ei F h cs)(i:Nat)(hi:cs[i]? =some (eJ E ty xs v)){k j:Nat}(hk:k<xs.length)(b:j<E.sz){y:α}{u:V}(c:u.one=true)(d:∀w,E.rel F h xs[k] w->E.rel F h y (w.set j u)) :
  ∃l o h',gI E.sz v (.I k)=some (.ptr l o)/\gG 1 (.ptr l (o+j)) u h=some (.val .undef h')/\h.next<=h'.next/\ei F h' (cs.set i (eJ E ty (xs.set k y) v))/\Sn F h F h':=by
 obtain⟨t,h',_,e,f,g,a⟩:=(H.row i hi).store hk b c d;exact⟨t,_,h',e,f,a.next,H.AS hi a g λ_ h=> .inl h⟩
theorem ei.ixO{α:Type}{E:pG α}{ty:Nat}{xs:List α}{v:V}(H:ei F h cs)(i:Nat)(hi:cs[i]? =some (eJ E ty xs v)){k:Nat}(hk:k<xs.length)(kd:IntKind) :
  ∃l o w,gI E.sz v (.int kd k)=some (.ptr l o)/\gy E.sz (.ptr l o) h=some (.agg w)/\E.rel F h xs[k] w/\∀j u,w[j]? =some u->ey (.ptr l (o+j)) h=some u:=by
 rcases H.row i hi with⟨_,rfl⟩|⟨t,ws,rfl,m,n,b,e,p⟩
 ·simp at hk
 ·obtain ⟨w,c,f,d⟩:=e.get (i:=k) (x:=xs[k]) (ig hk);refine⟨t,0+k*E.sz,w,vU _ _ _ _ _ _ hk,?_,d,λj u a=>?_⟩
  ·rw[Bf b,wX,BY f,c];rfl
  ·rw[M5 b,N5];have g:j<E.sz:=by rw[<-E.len d];exact(jq.1 a).1
   rw[<-c,wBW g,wBn]at a;rw[wX];exact a
theorem ei.stE{α:Type}{E:pG α}{ty:Nat}{xs:List α}{v:V}(H:ei F h cs)(i:Nat)(hi:cs[i]? =some (eJ E ty xs v)){k:Nat}(hk:k<xs.length){y:α}{ws:List V}(a:E.rel F h y ws) :
  ∃l o h',gI E.sz v (.I k)=some (.ptr l o)/\gG E.sz (.ptr l o) (.agg ws) h=some (.val .undef h')/\h.next<=h'.next/\ei F h' (cs.set i (eJ E ty (xs.set k y) v))/\Sn F h F h':=by
 rcases H.row i hi with⟨_,rfl⟩|⟨t,ds,rfl,b,c,f,d,g⟩
 ·simp at hk
 ·obtain ⟨w,s,j,u⟩:=d.get (i:=k) (x:=xs[k]) (ig hk);have m:=E.len a
  obtain ⟨n,q⟩:=H.AS (p:=eJ E ty (xs.set k y) (.slice t 0 xs.length)) (h':=h.put t (.cells ty E.sz true false (ds.take (k*E.sz)++ws++ds.drop (k*E.sz+E.sz)))) hi (kM.put _ rfl b)
   (.inr ⟨t,_,by simp,b,c,fS _ b,oX.eR (h:=h) (λl r=>fZ _ b λe=>c (e▸r)) (d.set hk a),Ri g (E.one a) _ _⟩) λ_ h=> .inl h
  exact⟨t,k*E.sz,_,by rw[vU _ _ _ _ _ _ hk,wX],WE f m j (E.one a),iZ _,n,q⟩
end
open Un Dm
abbrev Hu:Nat:=54
section
variable{F F':Nat->Prop}{h h':Hp}{cs ds:List Pc}{Q:fo}{u:U}{vv vb vs jM:V}{az:List Int}{lf:Nat}
abbrev Fo(lf:Nat) (u:U) (vv vb vs jM:V) (az:List Int) (ds:List Pc):List Pc:=
 er lf Hu [.I u.func,.I u.pc,vv,vb,vs,jM]::eJ eV gi u.ef vv::eJ eK fu u.blocks vb::eJ eZ en az jM::ds
theorem Iy{b:Bool}(H:Q (.int .u64 (Fb b)) h):cP CS nM [.bool b] h Q:=by
 refine QH rfl rfl ?_;unfold K3;cases b
 ·exact iI (fT (by simp) H)
 ·exact iI (gw rfl H)
theorem TW{op:Nat}{a b:Int}(g:CO .u64 a)(i:CO .u64 b)(e:op=6\/op=7)(H:Q (.int .u64 (AK op a b)) h):cP CS wj [.I op,.I (ry a),.I (ry b)] h Q:=by
 refine LW rfl rfl ?_;unfold Fs;have f:∀d:Int,(d=0↔ry b=0)->(d≠0->op=6->rh ((ry a).tdiv d)=AK 6 a b)->(d≠0->op=7->rh ((ry a).tmod d)=AK 7 a b)->p6 CS Q [.I op,.I (ry a),.I d] h:=λd h0 j k=>by
  refine ID ?_;unfold Bo;refine fP ?_;by_cases z:d=0
  ·refine gw z ?_;have z:=h0.1 z;rw[show AK op a b=0 by rcases e with rfl|rfl <;> simp[AK,z]]at H;exact H
  refine fT z (fP ?_);have hq:eo .quo 2 (.I (ry a)) (.I d)=some (.I (ll .i64 ((ry a).tdiv d))):=by
   cases d with
   | ofNat n=>cases n with
     |zero=>exact absurd rfl z
     |succ n=>rfl
   |negSucc n=>rfl
  have l:eo .rem 2 (.I (ry a)) (.I d)=some (.I ((ry a).tmod d)):=by
   cases d with
   | ofNat n=>cases n with
     |zero=>exact absurd rfl z
     |succ n=>rfl
   |negSucc n=>rfl
  rcases e with rfl|rfl
  ·refine gw rfl (ed hq (ed (by rw[mi]) ?_));rw[uo,pB];have:rh (IntKind.i64.wrap ((ry a).tdiv d))=rh ((ry a).tdiv d):=by
    simp only[IntKind.wrap,IntKind.signed,IntKind.bits,Yq,CH,Nat.reduceSub,Int.reducePow,rh];split <;> omega
   rw[this,j z rfl];exact H
  ·refine fT (by omega) (ed l (ed (by rw[mi,uo]) ?_));rw[k z rfl];exact H
 refine ed (ik ..) (ed (a:= .bool (decide (ry a = -9223372036854775808/\ry b = -1))) ?_ (iI ?_))
 ·simp only[fe,ik,iD];congr 2;rw[Rc,ve,IB,IB,CH]
 simp only[CO]at g i;by_cases c:ry a = -9223372036854775808/\ry b = -1
 ·refine gw (PY c) (f 1 ⟨λh=>by omega,λh=>by omega⟩ (λ_ _=>?_) λ_ _=>?_)
  ·rw[Int.tdiv_one];simp only[AK,c.2];simp;have:=c.1;unfold ry at this;unfold rh;split at this <;> omega
  ·simp[AK,c.2,rh]
 ·refine fT (by rw[CH];exact c) (f (ry b) Iff.rfl (λz _=>?_) λz _=>?_)
  ·by_cases z1:ry b = -1
   ·simp[AK,z1];unfold rh ry;split <;> omega
   ·simp[AK,z,z1]
  ·by_cases z1:ry b = -1
   ·simp[AK,z1,rh]
   ·simp[AK,z,z1]
theorem ZW{op:Nat}{a b:Int}(d:CO .u64 a)(f:CO .u64 b)(g:3<=op/\op<=14)(H:Q (.int .u64 (AK op a b)) h):cP CS B9 [.I op,.int .u64 a,.int .u64 b] h Q:=by
 refine QQ rfl rfl ?_;unfold Ko;refine ed (by rw[mi,FH d]) (ed (by rw[mi,FH f]) ?_);have e0:∀n:Nat,op=n->AK op a b=AK n a b:=λn h=>by rw[h]
 refine fP ?_;by_cases c:op=3
 ·rw[e0 _ c]at H;exact gw (by omega) (ed (by rw[DL,uo];rfl) H)
 refine fT (by omega) (fP ?_);by_cases c:op=4
 ·rw[e0 _ c]at H;exact gw (by omega) (ed (by rw[pj,uo];rfl) H)
 refine fT (by omega) (fP ?_);by_cases c:op=5
 ·rw[e0 _ c]at H;exact gw (by omega) (ed (by rw[PO,uo];rfl) H)
 refine fT (by omega) ?_;have k:∀q:Bool,(q=true↔op=6\/op=7)->uf CS Q [.I op,.int .u64 a,.int .u64 b,.I (ry a),.I (ry b),.I op,.bool q] h:=λq hq=>by
  refine Ly ?_;unfold DD;refine iI ?_;by_cases c:op=6\/op=7
  ·exact gw (hq.2 c) (TW d f c H)
  refine fT (λh=>c (hq.1 h)) (fP ?_);by_cases c:op=8
  ·rw[e0 _ c]at H;refine gw (by omega) (ed (by rw[N6,uo]) ?_);rw[show AK 8 a b=rh (0-a) by simp[AK]]at H;exact H
  refine fT (by omega) (fP ?_);by_cases c:op=9
  ·rw[e0 _ c]at H;exact gw (by omega) (NL (Iy H))
  refine fT (by omega) (fP ?_);by_cases c:op=10
  ·rw[e0 _ c]at H;exact gw (by omega) (NL (Iy H))
  refine fT (by omega) (fP ?_);by_cases c:op=11
  ·rw[e0 _ c]at H;refine gw (by omega) (ed (yx ..) ?_);rw[show(a != b)=decide (a≠b) by by_cases e:a=b <;> simp[e]];exact Iy H
  refine fT (by omega) (fP ?_);by_cases c:op=12
  ·rw[e0 _ c]at H;exact gw (by omega) (ed (mj ..) (Iy H))
  refine fT (by omega) (fP ?_);by_cases c:op=13
  ·rw[e0 _ c]at H;exact gw (by omega) (ed (Li ..) (Iy H))
  refine fT (by omega) (fP ?_);obtain rfl:op=14:=by omega
  exact gw rfl (ed (mj ..) (Iy H))
 refine ed (ik ..) (iI ?_);by_cases c:op=6
 ·exact gw (by rw[IB];omega) (k _ (by simp;omega))
 ·exact fT (by rw[IB];omega) (ed (ik ..) (k _ (by simp;omega)))
theorem TD{op:Nat}{a b:Int}(d:CO .u64 a)(e:CO .u64 b)(c:3<=op/\op<=14)(H:Q (.tuple [.int .u64 (AK op a b),.bool true]) h):cP CS xU [.I op,.int .u64 a,.int .u64 b] h Q:=by
 refine Ni rfl rfl ?_;unfold Hw;refine ed (mj ..) (ed (a:= .bool false) ?_ (iI (fT (by simp) (ZW d e c H))));rw[Vr (by omega)];simp only[fe,pg,pe];rw[Vr (by omega)];rfl
theorem G2(a:ei F h (Fo lf u vv vb vs jM az ds)){v:Nat}{x:Vl}(f:u.ef[v]? =some x)(H:∀h',Sn F h F h'->ei F h' (Fo lf u vv vb vs jM az ds)->Q (.tuple [.int .u64 (rh x.n),.bool (decide (x.op=2))]) h') :
  cP CS jd [.ptr lf 0,.I v] h Q:=by
 refine ES rfl rfl ?_;unfold xx;obtain⟨g,e⟩:=jq.1 f;obtain⟨l,o,w,i,j,⟨p,c,d⟩,_⟩:=a.ixO 1 rfl g .i64;rw[e]at c d;subst c;refine ed pn (ed pf (oF (a.ld 0 rfl rfl) (ed i (ed j ?_))));refine iH a rfl rfl (by simp only[lT,ev,d.one];rfl) λk b m=>?_;refine oF (b.ld 0 rfl rfl) (ed (by rw[mi,uo]) (oF (b.ld 0 rfl rfl) (ed (ik ..) ?_)));rw[show((x.op:Int) == 2)=decide (x.op=2) by rw[Rc,IB,CH];omega];exact H k m b.tail
end
open Un Dm
section
variable{F F':Nat->Prop}{h h':Hp}{cs ds:List Pc}{Q:fo}{u:U}{vv vb vs jM:V}{az:List Int}{lf:Nat}
theorem ei.zbN{α:Type}{E:pG α}{ty:Nat}{xs:List α}{v:V}(H:ei F h cs)(i:Nat)(hi:cs[i]? =some (eJ E ty xs v)):iA E (λl=>F l\/Jw cs l) h xs v:=(H.row i hi).read.mono λ_ a=>a.imp id λa=>⟨i,_,hi,a⟩
theorem Ig{x:Vl}(e:3<=x.op)(d:x.op<=14):(x.op=8\/x.op=9)/\g0 x=[x.a]\/¬(x.op=8\/x.op=9)/\g0 x=[x.a,x.b]:=by
 unfold g0;by_cases c:x.op=8\/x.op=9
 ·refine .inl ⟨c,?_⟩;rcases c with c|c <;> simp[c,two,nP]
 ·refine .inr ⟨c,?_⟩;have:two x.op=true:=by unfold two;simp;omega
  rw[if_neg (by omega),if_neg (by omega),if_pos this]
theorem TF(b:yP u){v:Nat}(n:Int):yP (DY u v n):=λw y a=>by
 have a:(u.ef.set v (RO n))[w]? =some y:=a;rw[List.getElem?_set]at a;split at a
 ·split at a
  ·cases a;exact LK _
  ·cases a
 ·exact b w y a
theorem TG(g:Good u)(ha:yP u)(p:vs.one=true)(R:ei F h (Fo lf u vv vb vs jM az ds))
  (H:∀F' h' u' c,Sn F h F' h'->ei F' h' (Fo lf u' vv vb vs jM az ds)->Qj yP u u' c (λv=>v<u.ef.length)->Q (.bool c) h') :
  cP CS iR [.ptr lf 0] h Q:=by
 refine DT rfl rfl ?_;unfold wU;have nv:=g.nv;have X:fW (uC u vv vb vs)=true:=by simp only[uC,ev,R.one 1 rfl,R.one 2 rfl,p];rfl
 refine ed pn (ed pf (ed (ld5 R 0 rfl) ?_));refine Iu (Io g) R.zbF X (R.zbN 2 rfl) λJ vo seen post s2 H2 G=>?_;have H3:=R.Zd s2 H2;have s3:=s2.back;have Y:∀b,b<u.blocks.length->b∈post.reverse:=λb K=>by
  obtain⟨l,hl⟩:=g.reach b K;exact YL.2 (NP G hl)
 have Z:∀b∈post.reverse,b<u.blocks.length:=λb K=>G.pre b (YL.1 K);have ax:post.reverse.length<=u.blocks.length:=by
  have h1:=G.nodup;rw[Vy,GD]at h1;rw[List.length_reverse];exact jD _ _ h1 G.pre
 generalize post.reverse=d at*;have nb:=g.nb;clear s2 H2 G;refine ed (H3.len 0 rfl) ?_
 obtain ⟨I,hI⟩:∃I:Nat->LP,I=λk l h'=>∃(F':Nat->Prop) (u':U) (c:Bool) (i:Nat),l=[.ptr lf 0,.bool c,vo,.I d.length,.I i]/\i+k=d.length/\Sn F h F' h'/\Qj yP u u' c (λv=>∃m b j,m<i/\d[m]? =some b/\At u v b j)/\
   ei F' h' (eJ eN en d vo::Fo lf u' vv vb vs jM az ds):=⟨_,rfl⟩
 refine Bi I (λk x0 x3 ai aj ak A hi=>?_) (k:=d.length) ?_;rotate_left
 ·rw[hI];exact⟨F,u,false,0,rfl,by omega,s3,(Qj.start g ha).more λ_ v ⟨m,_,_,h,_⟩=>by omega,H3⟩
 clear H3 s3;rw[hI]at hi;obtain⟨F4,u4,c4,i,⟨⟩,hk,s4,t4,S⟩:=hi;unfold tm;by_cases hi:i<d.length;rotate_left
 ·refine ir ?_;refine H F4 A u4 c4 s4 S.tail (t4.more λ_ v q=> .inl ?_);obtain⟨b,j,r⟩:=g.CE v q trivial;obtain⟨B,C,_⟩:=id r;obtain⟨m,hm⟩:=mm.1 (Y b (jq.1 C).1);have:=(jq.1 hm).1;exact⟨m,b,j,by omega,hm,r⟩
 refine gv ?_;have K:=ig hi;generalize d[i]=b at*;have al:=Z b (AI K);obtain⟨l1,o1,p1,p2⟩:=S.Jv 0 rfl K .i64;have C:=ig al;have am:u4.blocks[b]? =some u.blocks[b]:=by rw[t4.blocks];exact C
 generalize u.blocks[b]=B at*;obtain⟨aa,eB⟩:=jq.1 am;obtain⟨l2,o2,w2,q1,q2,⟨bv,bn,bp,ew,iv,_,_⟩,q4⟩:=S.ixO 3 rfl aa .i64;rw[eB]at ew iv;subst ew;refine ed p1 (ed p2 (ed pn (ed pf (oF (S.ld 1 rfl rfl) (ed q1 (oF (q4 0 _ rfl) (ed iv.len ?_)))))));have ay:B.ef.length<=u.ef.length:=jD _ B.ef (MH g C) λv q=>by
  obtain⟨k,hk⟩:=mm.1 q;exact g.jA v b k ⟨B,C,hk⟩
 obtain ⟨I1,L⟩:∃I1:Nat->LP,I1=λk l h'=>∃(F':Nat->Prop) (u':U) (c:Bool) (j:Nat),l=[.ptr lf 0,.bool c,vo,.I d.length,.I i,bv,.I B.ef.length,.I (j:Nat)]/\j+k=B.ef.length/\Sn F4 A F' h'/\Qj yP u u' c (λv=>(∃m b j,m<i/\d[m]? =some b/\At u v b j)\/∃m,m<j/\At u v b m)/\
   ei F' h' (eJ eN en d vo::Fo lf u' vv vb vs jM az ds):=⟨_,rfl⟩
 refine AV I1 (λk1 x0 x3 ai aj ak aA aB aC h5 ab=>?_) (k:=B.ef.length) ?_;rotate_left
 ·rw[L];exact⟨F4,u4,c4,0,rfl,by omega,Sn.refl _ _,t4.more λ_ v q=> .inl (q.elim id λ⟨m,h,_⟩=>by omega),S⟩
 clear S q1 q2 q4 p1 p2 t4;rw[L]at ab;obtain⟨F5,s,c5,j,⟨⟩,aD,s5,t5,H5⟩:=ab;unfold sS;have an:=iv.since s5;by_cases hj:j<B.ef.length;rotate_left
 ·refine ir (fM ⟨k-1,by omega,?_⟩);rw[hI];refine⟨F5,s,c5,i+1,rfl,by omega,s4.trans s5,t5.more λ_ v ⟨m,b',j',h1,J,T⟩=> .inl ?_,H5⟩;by_cases e:m=i
  ·subst e;rw[K]at J;cases J;obtain⟨B',A,h5⟩:=id T;rw[C]at A;cases A;have:=(jq.1 h5).1;exact .inr ⟨j',by omega,T⟩
  ·exact .inl ⟨m,b',j',by omega,J,T⟩
 refine gv ?_;have q:=ig hj;generalize B.ef[j]=v at*;have r:At u v b j:=⟨B,C,q⟩
 have M:v<s.ef.length:=by rw[t5.len];exact g.jA v b j r
 obtain⟨l3,o3,_,p1,p2⟩:=an.nat q .i64;have hx:=ig M;obtain⟨l4,o4,w4,z1,z2,⟨wa,ew,ia⟩,_⟩:=H5.ixO 2 rfl M .i64;generalize s.ef[v]=x at*;subst ew;refine ed p1 (ed p2 (ed pn (ed pf (oF (H5.ld 1 rfl rfl) (ed z1 (ed z2 ?_))))));refine iH H5 rfl rfl (by simp only[lT,ev,ia.one];rfl) λh6 H6 s6=>?_;generalize h5.next=lx at*;refine ed (H6.C9 0 rfl rfl) (Ny H6 (ia.since s6) (λ_=>Fe (t5.args v x hx) (by decide)) λF7 h7 uv s7 H7 iu=>?_)
 have N:∀{F' h' u' c'},Sn F5 h5 F' h'->ei F' h' (eJ eN en d vo::Fo lf u' vv vb vs jM az ds)->Qj yP u u' c' (λv=>(∃m b j,m<i/\d[m]? =some b/\At u v b j)\/∃m,m<j+1/\At u v b m)->
   jj CS Q (Bx I k) (Bx I1 k1) [.ptr lf 0,.bool c',vo,.I d.length,.I i,bv,.I B.ef.length,.I j] h':=λ{F' h' u' c'} s' H' t'=>by
  refine AD ?_;unfold rD;refine fM ⟨k1-1,by omega,?_⟩;rw[L];exact⟨F',u',c',j+1,rfl,by omega,s5.trans s',t',H'⟩
 have more:(c5=false->Unf u v)->Qj yP u s c5 (λv=>(∃m b j,m<i/\d[m]? =some b/\At u v b j)\/∃m,m<j+1/\At u v b m):=λhf=>t5.more λhc w p=>by
  rcases p with p|⟨m,h1,J⟩
  ·exact .inl (.inl p)
  ·by_cases e:m=j
   ·subst e;obtain⟨B',T,A⟩:=J;rw[C]at T;cases T;rw[q]at A;cases A;exact .inr (hf hc)
   ·exact .inl (.inr ⟨m,by omega,J⟩)
 have ux:c5=false->u.ef[v]? =some x:=λhc=>by rw[<-(t5.same hc).1];exact hx
 have ac:ey (.ptr lx (0+0)) h7=some (.I x.op):=H7.ld 0 rfl rfl;refine oF ac (ed (mj ..) (ed (a:= .bool (decide (x.op<3\/14<x.op))) ?_ ?_))
 ·simp only[pf,fe,ac,pg,pe];congr 2;rw[Rc,PR,CH,CH,CH];omega
 by_cases UR:x.op<3\/14<x.op
 ·rw[PY UR];refine ed rfl (iI (gw rfl (N (s6.trans s7) H7.tail (more λhc y n O f=>?_))));rw[ux hc]at O;cases O;have:=f.lo;have:=f.hi;omega
 rw[Vr UR];have hu:=Ig (x:=x) (by omega) (by omega);have oD:g0 x≠[]:=by rcases hu with⟨_,h⟩|⟨_,h⟩ <;> rw[h] <;> simp
 have ae:(g0 x).length=if x.op=8\/x.op=9 then 1 else 2:=by rcases hu with⟨c,h⟩|⟨c,h⟩ <;> rw[h] <;> simp[c]
 refine ed (a:= .bool false) ?_ (iI (fT (by simp) ?_))
 ·simp only[ng,fe,iu.len,ik];congr 2;rw[UT,ae];split <;> simp
 have ga:∀w∈g0 x,∃y,s.ef[w]? =some y:=λw p=>by
  obtain⟨y,O,_⟩:=t5.B0.use v x hx w p;exact⟨y,O⟩
 have u0:(g0 x)[0]? =some x.a:=by rcases hu with⟨_,h⟩|⟨_,h⟩ <;> rw[h] <;> rfl
 obtain⟨D,t⟩:=ga x.a (AI u0);obtain⟨la,oa,_,a1,a2⟩:=iu.nat u0 .i64;refine ed a1 (ed a2 ?_);have ao:ei F7 h7 (Fo lf s vv vb vs jM az (eJ eN en d vo::er lx gi (lT x wa)::ds)):=H7.perm [2,3,4,5,1,0] 6 (by decide) (by decide) (by simp);have ap:0<(g0 x).length/\(g0 x).length<=2:=by rw[ae];split <;> omega
 obtain⟨z,V⟩:∃z,(g0 x)[(g0 x).length-1]? =some z:=⟨_,ig (by omega)⟩
 have ag:¬(x.op=8\/x.op=9)->z=x.b:=λc=>by
  rcases hu with⟨c',_⟩|⟨_,h⟩
  ·exact(c c').elim
  ·rw[h]at V;simpa using V.symm
 have aq:(x.op=8\/x.op=9)->z=x.a:=λc=>by
  rcases hu with⟨_,h⟩|⟨c',_⟩
  ·rw[h]at V;simpa using V.symm
  ·exact(c' c).elim
 obtain⟨E,o⟩:=ga z (AI V);refine G2 ao t λh8 s8 H8=>ed rfl (ed rfl (ed (iu.since s8).len (xY (by omega) ap.1 ?_)));obtain⟨lb,ob,_,b1,b2⟩:=(iu.since s8).nat V .i64;refine ed b1 (ed b2 (G2 H8 o λh9 s9 W=>ed rfl (ed rfl (oF (W.ld 5 rfl rfl) ?_))));refine TD (QB _) (QB _) (by omega) (ed rfl (ed rfl (ed (iD _ _) (ed (iD _ _) (iI ?_)))));have W:ei F7 h9 (eJ eN en d vo::Fo lf s vv vb vs jM az ds):=(W.perm [5,4,0,1,2,3] 6 (by decide) (by decide) (by simp)).tail;have ah:=((s6.trans s7).trans s8).trans s9;by_cases hk2:D.op=2/\E.op=2
 ·have p:rh (ry (AK x.op (rh D.n) (rh E.n)))=AK x.op (rh D.n) (rh E.n):=by
   have:=NQ x.op (rh D.n) (rh E.n);simp only[CO]at this;unfold rh ry at*;split <;> omega
  have f:Fv s x (ry (AK x.op (rh D.n) (rh E.n))):=⟨by omega,by omega,rh D.n,rh E.n,⟨D,t,hk2.1,rfl⟩,λc=>⟨E,by rw[<-ag c];exact o,hk2.2,rfl⟩,p⟩
  refine gw (by simp[hk2]) (ed pn (ed pf (oF (W.ld 1 rfl rfl) (ed (by rw[mi,FH (NQ _ _ _)]) ?_))));generalize ry (AK x.op (rh D.n) (rh E.n))=n at*;refine ed (show _=some (.agg (lT (RO n) .ee)) from rfl) ?_;obtain⟨l6,o6,ar,r1,r2,_,P,au⟩:=W.stE 2 rfl M (y:=RO n) (ws:=lT (RO n) .ee) ⟨.ee,rfl,.inl ⟨rfl,rfl⟩⟩;refine ed r1 ?_;rw[show gG 6 (.ptr l6 o6) _ h9=_ from r2,ej];have P:ei F7 ar (eJ eN en d vo::Fo lf (DY s v n) vv vb vs jM az ds):=P;exact N (ah.trans au) P (t5.step hx f (TF t5.args _) _)
 ·refine fT (by simp;omega) (N ah W (more λhc y n O f=>?_));rw[ux hc]at O;cases O;obtain⟨a,b,⟨aE,e1,e2,_⟩,aw,_⟩:=f.kn;rw[<-(t5.same hc).1,t]at e1;cases e1;refine hk2 ⟨e2,?_⟩;by_cases c:x.op=8\/x.op=9
  ·rw[aq c,t]at o;cases o;exact e2
  ·obtain⟨aF,e3,e4,_⟩:=aw c;rw[ag c,(t5.same hc).1,e3]at o;cases o;exact e4
end
open Un Dm
def PhM(v:Nat)(l:List Nat)(one:Int)(b:Bool):Prop:=b=true\/(b=false/\one = -1/\∀a∈l,a=v)\/(b=false/\∃r:Nat,one=(r:Int)/\r≠v/\r∈l/\∀a∈l,a=v\/a=r)
def PhO(u:U)(v r:Nat):Prop:=∃x,u.ef[v]? =some x/\x.op=21/\r≠v/\r∈x.args/\∀a∈x.args,a=v\/a=r
def Vz(u:U)(v:Nat):Prop:=∃x n,u.ef[v]? =some x/\x.op=22/\Kw u x.a n/\n≠0
section
variable{F F':Nat->Prop}{h h':Hp}{cs ds:List Pc}{Q:fo}{u:U}{vv vb vs jM:V}{az:List Int}{lf:Nat}
theorem YT(g:Good u)(ha:yP u)(aa:az.length=u.ef.length)(C:ei F h (Fo lf u vv vb vs jM az ds))
  (H:∀F' h' kL c,Sn F h F' h'->ei F' h' (Fo lf u vv vb vs jM kL ds)->(c=false->kL=az)->(c=true->∃v r,PhO u v r/\kL=az.set v (r:Int))->Q (.bool c) h') :
  cP CS jn [.ptr lf 0] h Q:=by
 refine FQ rfl rfl ?_;unfold yO;have nv:=g.nv;refine ed pn (ed pf (oF (C.ld 0 rfl rfl) (ed (C.len 1 rfl) ?_)));obtain⟨I,D⟩:∃I:Nat->LP,I=λk l h'=>∃(i:Nat),l=[.ptr lf 0,.bool false,vv,.I u.ef.length,.I i]/\i+k=u.ef.length/\Sn F h F h'/\ei F h' (Fo lf u vv vb vs jM az ds):=⟨_,rfl⟩
 refine CY I (λk x0 x3 E G J K hi=>?_) (k:=u.ef.length) (by rw[D];exact⟨0,rfl,by omega,Sn.refl _ _,C⟩);rw[D]at hi;obtain⟨i,⟨⟩,hk,L,M⟩:=hi;unfold vL;by_cases hi:i<u.ef.length;rotate_left
 ·refine ir (vz ?_);unfold ot;exact H F K az false L M (λ_=>rfl) λh=>nomatch h
 refine gv ?_;have W:=ig hi;obtain⟨l4,o4,w4,z1,z2,⟨N,ew,O⟩,_⟩:=M.ixO 1 rfl hi .i64;generalize u.ef[i]=x at*;subst ew;refine ed z1 (ed z2 (iH M rfl rfl (by simp only[lT,ev,O.one];rfl) λh2 m o=>?_));generalize K.next=lx at*;have r8:∀{h'},Sn F K F h'->ei F h' (Fo lf u vv vb vs jM az ds)->lY CS Q (Bx I k) [.ptr lf 0,.bool false,vv,.I u.ef.length,.I i] h':=λ{h'} s' H'=>by
  refine C8 ?_;unfold vx;refine fM ⟨k-1,by omega,?_⟩;rw[D];exact⟨i+1,rfl,by omega,L.trans s',H'⟩
 refine oF (m.ld 0 rfl rfl) (Cw ?_);by_cases P:x.op=21;rotate_left
 ·exact fT (by omega) (r8 o m.tail)
 refine gw (by omega) (oF (m.ld 0 rfl rfl) (ed O.len ?_));have X:=ha i x W;obtain⟨t,n⟩:∃t:Nat->LP,t=λk l h'=>∃(one:Int) (e:Bool) (j:Nat),l=[.ptr lf 0,.bool false,.I i,.I one,.bool e,vv,.I u.ef.length,.I i,N,.I x.args.length,.I j]/\j+k=x.args.length/\h' = h2/\PhM i (x.args.take j) one e:=⟨_,rfl⟩
 refine CU t (λY x0 x3 x4 x6 x7 E G J ab ac ae h3 p=>?_) (k:=x.args.length) (by rw[n];exact⟨-1,false,0,rfl,by omega,rfl,.inr (.inl ⟨rfl,rfl,by simp⟩)⟩);rw[n]at p;obtain⟨one,e,j,⟨⟩,ag,rfl,w⟩:=p;unfold vH;have i2:=O.since o;by_cases hj:j<x.args.length;rotate_left
 ·refine ir (ed (po ..) ?_);obtain rfl:j=x.args.length:=by omega
  rw[Js]at w;refine ed (a:= .bool (decide (0<=one)&&!e)) ?_ (iI ?_)
  ·simp only[fe,XS,Sf,iD]
  rcases w with rfl|⟨rfl,rfl,_⟩|⟨rfl,r,rfl,z,A,B⟩
  ·exact fT (by simp) (r8 o m.tail)
  ·exact fT (by simp) (r8 o m.tail)
  ·refine gw (by simp) (oN (m.ld 1 rfl rfl) ?_);obtain⟨l5,o5,Z,R,S,_,T,s6⟩:=m.Ir 4 rfl (k:=i) (y:=(r:Int)) (u:= .I r) (by omega) rfl rfl rfl;refine ed R ?_;rw[S,ej];refine vz ?_;unfold ot;have T:ei F Z (er lx gi (lT x N)::Fo lf u vv vb vs jM (az.set i (r:Int)) ds):=T;exact H F Z _ true ((L.trans o).trans s6) T.tail (λh=>nomatch h) λ_=>⟨i,r,⟨x,W,P,z,A,B⟩,rfl⟩
 refine gv ?_;have hv:=ig hj;have U:=Qh hj;generalize x.args[j]=a at*;obtain⟨l6,o6,_,R,S⟩:=i2.nat hv .i64;have s:∀{UC:Int} {d:Bool},PhM i (x.args.take j++[a]) UC d->lH CS Q (Bx I k) (Bx t Y) [.ptr lf 0,.bool false,.I i,.I UC,.bool d,vv,.I u.ef.length,.I i,N,.I x.args.length,.I j] h3:=λ{UC d} V=>by
  refine BZ ?_;unfold uQ;refine fM ⟨Y-1,by omega,?_⟩;rw[n];exact⟨UC,d,j+1,rfl,by omega,rfl,by rw[U];exact V⟩
 refine ed R (ed S (ed (yx ..) (ed (a:= .bool (decide (a≠i/\(a:Int)≠one))) ?_ (iI ?_))))
 ·simp only[fe,yx,iD];congr 2;rw[Rc,ve,bne_iff_ne,bne_iff_ne,CH];omega
 by_cases c:a≠i/\(a:Int)≠one
 ·refine gw (PY c) (ed (a:= .bool (e ||decide (0<=one))) ?_ (s ?_))
  ·simp only[fe,po,pe]
  rcases w with rfl|⟨rfl,rfl,q⟩|⟨rfl,r,rfl,z,A,B⟩
  ·exact .inl rfl
  ·refine .inr (.inr ⟨rfl,a,rfl,c.1,by simp,λb f=>?_⟩);rcases FM.1 f with f|f
   ·exact .inl (q b f)
   ·exact .inr (by simpa using f)
  ·exact .inl (by simp)
 ·refine fT (by rw[CH];exact c) (s ?_);rcases w with rfl|⟨rfl,rfl,q⟩|⟨rfl,r,rfl,z,A,B⟩
  ·exact .inl rfl
  ·refine .inr (.inl ⟨rfl,rfl,λb f=>?_⟩);rcases FM.1 f with f|f
   ·exact q b f
   ·have:b=a:=by simpa using f
    omega
  ·refine .inr (.inr ⟨rfl,r,rfl,z,Wn _ A,λb f=>?_⟩);rcases FM.1 f with f|f
   ·exact B b f
   ·have:b=a:=by simpa using f
    omega
theorem Um(g:Good u)(L:az.length=u.ef.length)(p:ei F h (Fo lf u vv vb vs jM az ds))
  (H:∀F' h' kL c,Sn F h F' h'->ei F' h' (Fo lf u vv vb vs jM kL ds)->kL.length=az.length->(∀v,kL[v]? =az[v]?\/(kL[v]? =some (-1)/\Vz u v))->(c=false->kL=az)->(c=true->∃v,v<u.ef.length/\kL[v]? =some (-1)/\Vz u v)->Q (.bool c) h') :
  cP CS iP [.ptr lf 0] h Q:=by
 refine Dj rfl rfl ?_;unfold wS;have nv:=g.nv;refine ed pn (ed pf (oF (p.ld 0 rfl rfl) (ed (p.len 1 rfl) ?_)));obtain⟨I,r⟩:∃I:Nat->LP,I=λk l h'=>∃(i:Nat) (c:Bool) (kL:List Int),l=[.ptr lf 0,.bool c,vv,.I u.ef.length,.I i]/\i+k=u.ef.length/\Sn F h F h'/\ei F h' (Fo lf u vv vb vs jM kL ds)/\kL.length=az.length/\(∀v,kL[v]? =az[v]?\/(kL[v]? =some (-1)/\Vz u v))/\(c=false->kL=az)/\(c=true->∃v,v<u.ef.length/\kL[v]? =some (-1)/\Vz u v):=⟨_,rfl⟩
 refine A7 I (λk x0 x3 M N O s hi=>?_) (k:=u.ef.length) (by rw[r];exact⟨0,false,az,rfl,by omega,Sn.refl _ _,p,rfl,λ_=> .inl rfl,λ_=>rfl,λh=>nomatch h⟩);rw[r]at hi;obtain⟨i,c,kL,⟨⟩,hk,D,t,j,m,w,z⟩:=hi;unfold sU;by_cases hi:i<u.ef.length;rotate_left
 ·exact ir (H F s kL c D t j m w z)
 refine gv ?_;have E:=ig hi;obtain⟨l4,o4,w4,P,R,⟨S,T,U⟩,_⟩:=t.ixO 1 rfl hi .i64;generalize u.ef[i]=x at*;subst T;refine ed P (ed R (iH t rfl rfl (by simp only[lT,ev,U.one];rfl) λV o A=>?_));generalize s.next=lx at*;have r8:∀{h' c' b},Sn F s F h'->ei F h' (Fo lf u vv vb vs jM b ds)->b.length=az.length->(∀v,b[v]? =az[v]?\/(b[v]? =some (-1)/\Vz u v))->(c' = false->b=az)->(c' = true->∃v,v<u.ef.length/\b[v]? =some (-1)/\Vz u v)->jr CS Q (Bx I k) [.ptr lf 0,.bool c',vv,.I u.ef.length,.I i] h':=λ{h' c' b} s' W X Y t3 Z=>by
  refine Bs ?_;unfold tE;refine fM ⟨k-1,by omega,?_⟩;rw[r];exact⟨i+1,c',b,rfl,by omega,D.trans s',W,X,Y,t3,Z⟩
 refine oF (o.ld 0 rfl rfl) (Cw ?_);by_cases d:x.op=22;rotate_left
 ·exact fT (by omega) (r8 A o.tail j m w z)
 obtain⟨y,G,_⟩:=g.use i x E x.a (ED.2 (by rw[d];rfl) (by omega));have B:ei F V (Fo lf u vv vb vs jM kL (er lx gi (lT x S)::ds)):=o.perm [1,2,3,4,0] 5 (by decide) (by decide) (by simp);refine gw (by omega) (oF (o.ld 0 rfl rfl) (G2 B G λh3 J f=>ed rfl (ed rfl ?_)));have f:ei F h3 (Fo lf u vv vb vs jM kL ds):=(f.perm [4,0,1,2,3] 5 (by decide) (by decide) (by simp)).tail;refine ed (a:= .bool (decide (y.op=2/\rh y.n≠0))) ?_ (iI ?_)
 ·simp only[fe,yx,iD];congr 2;rw[Rc,ve,bne_iff_ne,CH,CH]
 by_cases hk2:y.op=2/\rh y.n≠0
 ·refine gw (PY hk2) (oN (f.ld 0 rfl rfl) ?_);obtain⟨l5,o5,h6,p1,p2,_,C,s6⟩:=f.Ir 3 rfl (k:=i) (y:=(-1:Int)) (u:= .I (-1)) (by omega) rfl rfl rfl;refine ed p1 ?_;rw[p2,ej];have C:ei F h6 (Fo lf u vv vb vs jM (kL.set i (-1)) ds):=C;have K:Vz u i:=⟨x,rh y.n,E,d,⟨y,G,hk2.1,rfl⟩,hk2.2⟩
  have hs:(kL.set i (-1))[i]? =some (-1):=MT (by omega);refine r8 ((A.trans J).trans s6) C (by rw[KD];exact j) (λv=>?_) (λh=>nomatch h) λ_=>⟨i,hi,hs,K⟩
  by_cases e:v=i
  ·subst e;exact .inr ⟨hs,K⟩
  ·rw[HO λq=>e q.symm];exact m v
 ·exact fT (by rw[CH];exact hk2) (r8 (A.trans J) f j m w z)
end
open Un Dm
section
variable{F F':Nat->Prop}{h h':Hp}{cs ds:List Pc}{Q:fo}{u:U}{vv vb vs jM:V}{az:List Int}{lf:Nat}
theorem YU(g:Good u)(M:ei F h (Fo lf u vv vb vs jM az ds))
  (H:∀F' h' u2 c,Sn F h F' h'->ei F' h' (Fo lf u2 vv vb vs jM az ds)->C0 u u2 c (λb=>b<u.blocks.length)->Q (.bool c) h') :
  cP CS jm [.ptr lf 0] h Q:=by
 refine FY rfl rfl ?_;unfold yQ;have nb:=g.nb;refine ed pn (ed pf (oF (M.ld 0 rfl rfl) (ed (M.len 2 rfl) ?_)));obtain⟨I,N⟩:∃I:Nat->LP,I=λk l h'=>∃(F':Nat->Prop) (u2:U) (c:Bool) (i:Nat),l=[.ptr lf 0,.bool c,vb,.I u.blocks.length,.I i]/\i+k=u.blocks.length/\Sn F h F' h'/\ei F' h' (Fo lf u2 vv vb vs jM az ds)/\C0 u u2 c (λb=>b<i)/\∀b,i<=b->u2.blocks[b]? =u.blocks[b]?:=⟨_,rfl⟩
 refine CP I (λk x0 x3 ac ae ag P hi=>?_) (k:=u.blocks.length) (by rw[N];exact⟨F,u,false,0,rfl,by omega,Sn.refl _ _,M,(C0.start u).more λ_ b r=>by omega,λ_ _=>rfl⟩);rw[N]at hi;obtain⟨d,u1,c,i,⟨⟩,hk,s1,R,t,oD⟩:=hi;unfold vF;by_cases hi:i<u.blocks.length;rotate_left
 ·exact ir (H d P u1 c s1 R (t.more λ_ b r=> .inl (by omega)))
 refine gv ?_;have D:=ig hi;generalize u.blocks[i]=B at*;have s:u1.blocks[i]? =some B:=by rw[oD i (iZ _)];exact D
 obtain ⟨f,eB⟩:=jq.1 s;obtain⟨l4,o4,w4,z1,z2,⟨bv,bn,bp,ew,iv,S,ip⟩,_⟩:=R.ixO 2 rfl f .i64;rw[eB]at ew iv S ip;subst ew;refine ed z1 (ed z2 (iH R rfl rfl (by simp only[lB,ev,iv.one,S.one,ip.one];rfl) λT G J=>?_));generalize P.next=lx at*;have r8:∀{F' h' c' u'},Sn d P F' h'->ei F' h' (Fo lf u' vv vb vs jM az ds)->C0 u u' c' (λb=>b<i+1)->(∀b,i+1<=b->u'.blocks[b]? =u.blocks[b]?)->jX CS Q (Bx I k) [.ptr lf 0,.bool c',vb,.I u.blocks.length,.I i] h':=λ{F' h' c' u'} s' H' t' V=>by
  refine CM ?_;unfold vy;refine fM ⟨k-1,by omega,?_⟩;rw[N];exact⟨F',u',c',i+1,rfl,by omega,s1.trans s',H',t',V⟩
 have more:(∀n,B.fin=2->¬Kw u B.cond n)->C0 u u1 c (λb=>b<i+1):=λhf=>t.more λ_ b r=>by
  by_cases q:b=i
  ·subst q;exact .inr λA n hA T=>by
    rw[D]at hA;cases hA;exact hf n T
  ·exact .inl (by omega)
 refine oF (G.ld 0 rfl rfl) (Cw ?_);by_cases hf2:B.fin=2;rotate_left
 ·exact fT (by omega) (r8 J G.tail (more λ_ q=>absurd q hf2) λb r=>oD b (by omega))
 obtain ⟨y,x,hlen⟩:∃y,u.ef[B.cond]? =some y/\B.next.length=2:=by
  rcases g.fin i B D with⟨q,_⟩|⟨_,q,y,x,_⟩|⟨q,_⟩
  ·omega
  ·exact⟨y,x,q⟩
  ·omega
 have W:u1.ef[B.cond]? =some y:=by rw[t.e.ef];exact x
 have X:ei d T (Fo lf u1 vv vb vs jM az (er lx fu (lB B bv bn bp)::ds)):=G.perm [1,2,3,4,0] 5 (by decide) (by decide) (by simp);refine gw (by omega) (oF (G.ld 0 rfl rfl) (G2 X W λa Y m=>ed rfl (ed rfl (MZ (iI ?_)))));by_cases hk2:y.op=2;rotate_left
 ·refine gw (by simp[hk2]) (r8 (J.trans Y) (m.perm [4,0,1,2,3] 5 (by decide) (by decide) (by simp)).tail (more λn _ ⟨y',e1,e2,_⟩=>?_) λb r=>oD b (by omega));rw[x]at e1;cases e1;exact hk2 e2
 have z:=(S.since J).since Y;have n0:=ig (show 0<B.next.length by omega);have n1:=ig (show 1<B.next.length by omega);obtain⟨la,oa,_,a1,a2⟩:=z.nat n0 .i64;obtain⟨lb,ob,_,b1,b2⟩:=z.nat n1 .i64;refine fT (by simp[hk2]) (oF (m.ld 4 rfl rfl) (ed a1 (ed a2 (fP ?_))));have Z:=J.trans Y;have C:∀to:Nat,(if rh y.n=0 then B.next[1]? else B.next[0]?)=some to->lE CS Q (Bx I k) [.ptr lf 0,.I i,.I (to:Nat),vb,.I u.blocks.length,.I i] a:=λto aa=>by
  have m:ei d a (Fo lf u1 vv vb vs jM az ds):=(m.perm [4,0,1,2,3] 5 (by decide) (by decide) (by simp)).tail;refine Cf ?_;unfold uK;refine ed pn (ed pf (oF (m.ld 0 rfl rfl) (ed pn (ed pf (oF (m.ld 0 rfl rfl) (ed pn (ed pf (oF (m.ld 0 rfl rfl) ?_))))))));rw[pY,ic];obtain⟨o,s4,r4⟩:=m.U1 (E:=eN) (xs:=[to]) (ws:=gJ [to]) (n:=1) en rfl (tP _ _ _) false;have hg:(a.new (.cells 3 1 true false (gJ [to]))).get a.next=some (.cells 3 1 true false (gJ [to])):=fg _ _;have o:ei (λl=>d l\/l=a.next) (a.new (.cells 3 1 true false (gJ [to]))) (Fo lf u1 vv vb vs jM az ds):=o;have s4:Sn d a (λl=>d l\/l=a.next) (a.new (.cells 3 1 true false (gJ [to]))):=s4;have r4:iA eN (λl=>d l\/l=a.next) (a.new (.cells 3 1 true false (gJ [to]))) [to] (.slice a.next 0 1):=r4;generalize a.new (.cells 3 1 true false (gJ [to]))=h4 at*;generalize ab:(λl=>d l\/l=a.next)=F4 at*;have f4:F4 a.next:=by rw[<-ab];exact .inr rfl
  obtain ⟨l5,o5,h5,c1,c2,n5,H5,K⟩:=o.stP 2 rfl (k:=i) (j:=1) (u:= .I 1) (y:={B with fin:=1}) f (by decide) rfl λw ⟨v,n,p,e,q⟩=>by
   rw[eB]at e q;subst e;exact⟨v,n,p,rfl,q⟩
  refine ed c1 (ed pf ⟨⟨hg,O.jL _ _ _ _ _⟩,o.ld 0 rfl rfl,o.ld 0 rfl rfl,o.ld 0 rfl rfl,?_⟩);rw[show gG 1 (.ptr l5 (o5+1)) _ h4=_ from c2,ej];obtain⟨l6,o6,h6,d1,d2,n6,H6,s6⟩:=H5.stP 2 rfl (k:=i) (j:=2) (u:= .I 0) (y:={B with fin:=1,cond:=0}) (by rw[KD];exact f) (by decide) rfl λw ⟨v,n,p,e,q⟩=>by
   rw[List.getElem_set_self]at e q;subst e;exact⟨v,n,p,rfl,q⟩
  refine ⟨n5,ed d1 (ed pf ⟨⟨by rw[K.eR _ f4];exact hg,O.jL _ _ _ _ _⟩,?_⟩)⟩;rw[show gG 1 (.ptr l6 (o6+2)) _ h5=_ from d2,ej];have r6:=(r4.since K).since s6;obtain⟨l7,o7,h7,g1,g2,n7,L,s7⟩:=H6.stP 2 rfl (k:=i) (j:=3) (u:= .slice a.next 0 1) (y:=QN B to) (by rw[KD,KD];exact f) (by decide) rfl λw ⟨v,n,p,e,q1,_,q3⟩=>by
   rw[List.getElem_set_self]at e q1 q3;subst e;exact⟨v,_,p,rfl,q1,r6,q3⟩
  refine⟨n6,ed g1 (ed pf ⟨⟨by rw[s6.eR _ f4,K.eR _ f4];exact hg,O.jL _ _ _ _ _⟩,?_⟩)⟩;rw[show gG 1 (.ptr l7 (o7+3)) _ h6=_ from g2,ej];have L:ei F4 h7 (Fo lf {u1 with blocks:=((u1.blocks.set i {B with fin:=1}).set i {B with fin:=1,cond:=0}).set i (QN B to)} vv vb vs jM az ds):=L;rw[List.set_set,List.set_set]at L;refine⟨n7,r8 ((((Z.trans s4).trans K).trans s6).trans s7) L (t.step D s hf2 ⟨y,x,hk2,rfl⟩ aa _) λb r=>?_⟩;show(u1.blocks.set i _)[b]? =_;rw[HO (by omega)];exact oD b (by omega)
 by_cases hz:rh y.n=0
 ·refine gw hz (oF (m.ld 4 rfl rfl) (ed b1 (ed b2 (C _ ?_))));rw[if_pos hz];exact n1
 ·refine fT hz (C _ ?_);rw[if_neg hz];exact n0
end
open Un Dm
abbrev JF:Nat:=81
def nq(u:U):List Int:=(List.range u.ef.length).map λ(i:Nat)=>(i:Int)
def Ag(u:U)(i:Nat)(c:Bool)(u2:U)(az:List Int):Prop:=∃(u1:U)(e c2 d f:Bool)(a:List Int), Qj yP u u1 e (λv=>1<=i/\v<u.ef.length)/\(c2=false->a=nq u)/\(c2=true->∃v r,PhO u1 v r/\a=(nq u).set v (r:Int))/\az.length=a.length/\(∀v,az[v]? =a[v]?\/(az[v]? =some (-1)/\Vz u1 v))/\(d=false->az=a)/\(d=true->∃v,v<u1.ef.length/\az[v]? =some (-1)/\Vz u1 v)/\C0 u1 u2 f (λb=>4<=i/\b<u1.blocks.length)/\c=(f ||(d ||(c2 ||e)))/\(i<4->f=false/\u2=u1)/\(i<3->d=false)/\(i<2->c2=false)/\(i<1->e=false/\u1=u)
section
variable{F F':Nat->Prop}{h h':Hp}{cs ds:List Pc}{Q:fo}{u:U}{vv vb vs jM:V}{az:List Int}{lf:Nat}
def Mg:List V:=[.func iR [] [],.func jn [] [],.func iP [] [],.func jm [] []]
theorem WX(a:ei F h cs)(H:∀h' l,Sn F h F h'->ei F h' (er l JF Mg::cs)->Q (.slice l 0 4) h'):cP CS xN [] h Q:=by
 refine NG rfl rfl ?_;unfold GI;rw[show ji 81 1 4 V.nilFunc [(0,V.func iR [] []),(1,V.func jn [] []),(2,V.func iP [] []),(3,V.func jm [] [])]=some (.cells 81 1 true false Mg,λl=> .slice l 0 4) from rfl,fw];obtain⟨b,c⟩:=a.zt 81 Mg;exact H _ h.next c b
theorem Ag.start(g:Good u)(a:yP u):Ag u 0 false u (nq u):=⟨u,false,false,false,false,nq u,(Qj.start g a).more λ_ v h=>by omega,λ_=>rfl,λh=>(nomatch h),rfl,λ_=> .inl rfl,λ_=>rfl,λh=>(nomatch h),(C0.start u).more λ_ b h=>by omega,rfl,λ_=>⟨rfl,rfl⟩,λ_=>rfl,λ_=>rfl,λ_=>⟨rfl,rfl⟩⟩
theorem A3:(nq u).length=u.ef.length:=by simp[nq]
theorem VK(g:Good u)(ha:yP u)(W:vs.one=true)(aa:jM.one=true)(s:ei F h (er lf Hu [.I u.func,.I u.pc,vv,vb,vs,jM]::eJ eV gi u.ef vv::eJ eK fu u.blocks vb::ds))
  (H:∀F' h' u2 av az c,Sn F h F' h'->ei F' h' (Fo lf u2 vv vb vs av az ds)->Ag u 4 c u2 az->Q (.bool c) h') :
  cP CS mR [.ptr lf 0] h Q:=by
 refine EU rfl rfl ?_;unfold xL;have z:fW (uC u vv vb vs)=true:=by simp only[uC,ev,s.one 1 rfl,s.one 2 rfl,W];rfl
 refine ed pn (ed pf (ed (ld5 s 0 rfl) (SE z (s.len 1 rfl) g.nv s λh1 av X L=>ed pn (ed pf ?_))));obtain⟨Y,e2,_,w,Z⟩:=L.st 1 (o:=5) (u:=av) rfl (by simp) (L.one 0 rfl);rw[show gG 1 (.ptr lf (0+5)) av h1=_ from e2,ej];have w:ei F Y (eJ eZ en (nq u) av::er lf Hu [.I u.func,.I u.pc,vv,vb,vs,av]::eJ eV gi u.ef vv::eJ eK fu u.blocks vb::ds):=w;have w:ei F Y (Fo lf u vv vb vs av (nq u) ds):=w.perm [1,2,3,0] 4 (by decide) (by decide) (by simp);refine WX w λh3 lr s3 D=>ed rfl ?_;have D:ei F h3 (Fo lf u vv vb vs av (nq u) (er lr JF Mg::ds)):=D.perm [1,2,3,4,0] 5 (by decide) (by decide) (by simp);have B:=(X.trans Z).trans s3;obtain⟨I,M⟩:∃I:Nat->LP,I=λk l h'=>∃(F':Nat->Prop) (u2:U) (az:List Int) (c:Bool) (i:Nat),l=[.ptr lf 0,.bool c,.slice lr 0 4,.I (4:Nat),.I i]/\i+k=4/\Sn F h F' h'/\ei F' h' (Fo lf u2 vv vb vs av az (er lr JF Mg::ds))/\Ag u i c u2 az:=⟨_,rfl⟩
 refine BD I (λk x0 x3 ab ac ae x hi=>?_) (k:=4) (by rw[M];exact⟨F,u,nq u,false,0,rfl,rfl,B,D,Ag.start g ha⟩);clear s L w D X Z s3 B;rw[M]at hi;obtain⟨F4,f,az,c,i,⟨⟩,hk,s4,a,u1,E,c2,c3,c4,G,t,j,J,N,g2,y,g4,e1,ec,i4,K,O,i1⟩:=hi;unfold tQ;by_cases hi:i<4;rotate_left
 ·refine ir ?_;obtain rfl:i=4:=by omega
  exact H F4 x f av az c s4 (a.perm [4,0,1,2,3] 5 (by decide) (by decide) (by simp)).tail ⟨u1,E,c2,c3,c4,G,t,j,J,N,g2,y,g4,e1,ec,i4,K,O,i1⟩
 obtain⟨rfl,rfl⟩:=i4 hi
 have fin:∀{F' h' u' kL c' d},Sn F4 x F' h'->ei F' h' (Fo lf u' vv vb vs av kL (er lr JF Mg::ds))->Ag u (i+1) d u' kL->(c' ||c)=d->
   oP (om (.bool c') (some (.bool c))) (λP=>oP (eo .add 3 (.I i) (.I 1)) λR=>Bx I k [.ptr lf 0,P,.slice lr 0 4,.I (4:Nat),R] h'):=λ{F' h' u' kL c' d} s' H' A e=>by
  refine ed (pe _ _) (fM ⟨k-1,by omega,?_⟩);rw[M,e];exact⟨F',u',kL,d,i+1,rfl,by omega,s4.trans s',H',A⟩
 subst ec;refine gv (ed (vU _ _ _ _ _ _ hi) ?_);have lz:∀{az:List Int},az=G->c2=false->az.length=f.ef.length:=λe q=>by rw[e,j q,A3,t.len]
 obtain rfl|rfl|rfl|rfl:i=0\/i=1\/i=2\/i=3:=by omega
 ·refine ed (a.ld 4 (o:=0+0*1) rfl rfl) ?_;show cP CS iR [.ptr lf 0] x _;obtain⟨rfl,rfl⟩:=i1 (by omega);obtain rfl:=O (by omega);obtain rfl:=K (by omega);refine TG t.B0 t.args W a λS T V m n p t5=>fin n p ⟨V,m,false,false,false,G,t5.more λ_ v h=> .inl h.2,j,λh=>(nomatch h),N,λv=> .inl (by rw[y rfl]),y,λh=>(nomatch h),(C0.start V).more λ_ b h=>by omega,rfl,λ_=>⟨rfl,rfl⟩,λ_=>rfl,λ_=>rfl,λh=>by omega⟩ (by simp)
 ·refine ed (a.ld 4 (o:=0+1*1) rfl rfl) ?_;show cP CS jn [.ptr lf 0] x _;obtain rfl:=O (by omega);obtain rfl:=K (by omega);obtain rfl:=y rfl;refine YT t.B0 t.args (lz rfl rfl) a λS T C m n p t5 t6=>fin n p ⟨f,E,m,false,false,C,t.more λ_ v h=> .inl ⟨by omega,h.2⟩,λh=>(t5 h).trans (j rfl),λh=>?_,rfl,λv=> .inl rfl,λ_=>rfl,λh=>(nomatch h),(C0.start f).more λ_ b h=>by omega,rfl,λ_=>⟨rfl,rfl⟩,λ_=>rfl,λh=>by omega,λh=>by omega⟩ (by simp);rw[<-j rfl];exact t6 h
 ·refine ed (a.ld 4 (o:=0+2*1) rfl rfl) ?_;show cP CS iP [.ptr lf 0] x _;obtain rfl:=K (by omega);obtain rfl:=y rfl;have hl:az.length=f.ef.length:=by
   cases c2 with
   |false=>exact lz rfl rfl
   | true=>
     obtain⟨v,r,_,e⟩:=J rfl;rw[e,KD,A3,t.len]
  refine Um t.B0 hl a λS T C m n p t5 t6 t7 t8=>fin n p ⟨f,E,c2,m,false,az,t.more λ_ v h=> .inl ⟨by omega,h.2⟩,j,J,t5,t6,t7,t8,(C0.start f).more λ_ b h=>by omega,rfl,λ_=>⟨rfl,rfl⟩,λh=>by omega,λh=>by omega,λh=>by omega⟩ (by simp)
 ·refine ed (a.ld 4 (o:=0+3*1) rfl rfl) ?_;show cP CS jm [.ptr lf 0] x _;refine YU t.B0 a λS T V m n p t5=>fin n p ⟨f,E,c2,c3,m,G,t.more λ_ v h=> .inl ⟨by omega,h.2⟩,j,J,N,g2,y,g4,t5.more λ_ b h=> .inl h.2,rfl,λh=>by omega,λh=>by omega,λh=>by omega,λh=>by omega⟩ (by simp)
end
