/- Parts. -/
import Derived.Test.YtflkbfabonggkaaGreatDoorM41
import Derived.Test.YtflkbfabonggkaaGreatDoorM49
import Derived.Test.YtflkbfabonggkaaGreatDoorM48
set_option maxHeartbeats 4000000
namespace Go.Proofs.YtflkbfabonggkaaGreatDoor.Hx
open Un Dm
theorem Uz(l:List V):gj l=l.all V.one:=by
 induction l with
 |nil=>rfl
 |cons a l b=>rw[ey,b];rfl
theorem Ts{l ws:List V}(h:gj l=true)(b:gj ws=true)(n m:Nat):gj (l.take n++ws++l.drop m)=true:=by
 rw[Uz,Q1]at*;intro x a;rcases I8.1 a with a|a
 ·rcases I8.1 a with a|a
  ·exact h x (wBb a)
  ·exact b x a
 ·exact h x (List.mem_of_mem_drop a)
section
variable{F F':Nat->Prop}{h h':Hp}{cs:List Pc}
theorem ej.stP{α:Type}{E:p8 α}{ty:Nat}{xs:List α}{v:V}(H:ej F h cs)(i:Nat)(hi:cs[i]? =some (eJ E ty xs v)){k j:Nat}(hk:k<xs.length)(b:j<E.sz){y:α}{u:V}(c:u.one=true)(d:∀w,E.rel F h xs[k] w->E.rel F h y (w.set j u)) :
  ∃l o h',gz E.sz v (.I k)=some (.ptr l o)/\gI 1 (.ptr l (o+j)) u h=some (.val .undef h')/\h.next<=h'.next/\ej F h' (cs.set i (eJ E ty (xs.set k y) v))/\Sn F h F h':=by
 obtain⟨t,h',_,e,f,g,a⟩:=(H.row i hi).store hk b c d;exact⟨t,_,h',e,f,a.next,H.DG hi a g λ_ h=> .inl h⟩
theorem ej.ixO{α:Type}{E:p8 α}{ty:Nat}{xs:List α}{v:V}(H:ej F h cs)(i:Nat)(hi:cs[i]? =some (eJ E ty xs v)){k:Nat}(hk:k<xs.length)(kd:IntKind) :
  ∃l o w,gz E.sz v (.int kd k)=some (.ptr l o)/\gv E.sz (.ptr l o) h=some (.agg w)/\E.rel F h xs[k] w/\∀j u,w[j]? =some u->ez (.ptr l (o+j)) h=some u:=by
 rcases H.row i hi with⟨_,rfl⟩|⟨t,ws,rfl,m,n,b,e,p⟩
 ·simp at hk
 ·obtain ⟨w,c,f,d⟩:=e.get (i:=k) (x:=xs[k]) (gW hk);refine⟨t,0+k*E.sz,w,yl _ _ _ _ _ _ hk,?_,d,λj u a=>?_⟩
  ·rw[DU b,zj,Er f,c];rfl
  ·rw[PJ b,Qf];have g:j<E.sz:=by rw[<-E.len d];exact(jP.1 a).1
   rw[<-c,wBY g,wBW]at a;rw[zj];exact a
theorem ej.stE{α:Type}{E:p8 α}{ty:Nat}{xs:List α}{v:V}(H:ej F h cs)(i:Nat)(hi:cs[i]? =some (eJ E ty xs v)){k:Nat}(hk:k<xs.length){y:α}{ws:List V}(a:E.rel F h y ws) :
  ∃l o h',gz E.sz v (.I k)=some (.ptr l o)/\gI E.sz (.ptr l o) (.agg ws) h=some (.val .undef h')/\h.next<=h'.next/\ej F h' (cs.set i (eJ E ty (xs.set k y) v))/\Sn F h F h':=by
 rcases H.row i hi with⟨_,rfl⟩|⟨t,ds,rfl,b,c,f,d,g⟩
 ·simp at hk
 ·obtain ⟨w,s,j,u⟩:=d.get (i:=k) (x:=xs[k]) (gW hk);have m:=E.len a
  obtain ⟨n,q⟩:=H.DG (p:=eJ E ty (xs.set k y) (.slice t 0 xs.length)) (h':=h.put t (.cells ty E.sz true false (ds.take (k*E.sz)++ws++ds.drop (k*E.sz+E.sz)))) hi (lN.put _ rfl b)
   (.inr ⟨t,_,by simp,b,c,gg _ b,qb.fh (h:=h) (λl r=>gB _ b λe=>c (e▸r)) (d.set hk a),Ts g (E.one a) _ _⟩) λ_ h=> .inl h
  exact⟨t,k*E.sz,_,by rw[yl _ _ _ _ _ _ hk,zj],Zo f m j (E.one a),iZ _,n,q⟩
end
open Un Dm
abbrev JL:Nat:=43
section
variable{F F':Nat->Prop}{h h':Hp}{cs ds:List Pc}{Q:ft}{u:U}{vv vb vs kG:V}{az:List Int}{lf:Nat}
abbrev Fo(lf:Nat) (u:U) (vv vb vs kG:V) (az:List Int) (ds:List Pc):List Pc:=
 ev lf JL [.I u.func,.I u.pc,vv,vb,vs,kG]::eJ eV gL u.ef vv::eJ eK fI u.blocks vb::eJ eZ eo az kG::ds
theorem La{b:Bool}(H:Q (.int .u64 (Iy b)) h):cP CS pg [.bool b] h Q:=by
 refine Uq rfl rfl ?_;unfold MR;cases b
 ·exact iO (fU (by simp) H)
 ·exact iO (gi rfl H)
theorem WT{op:Nat}{a b:Int}(g:qc .u64 a)(i:qc .u64 b)(e:op=6\/op=7)(H:Q (.int .u64 (A4 op a b)) h):cP CS yC [.I op,.I (uA a),.I (uA b)] h Q:=by
 refine Ot rfl rfl ?_;unfold IA;have f:∀d:Int,(d=0↔uA b=0)->(d≠0->op=6->pz ((uA a).tdiv d)=A4 6 a b)->(d≠0->op=7->pz ((uA a).tmod d)=A4 7 a b)->qT CS Q [.I op,.I (uA a),.I d] h:=λd h0 j k=>by
  refine KM ?_;unfold Dy;refine fX ?_;by_cases z:d=0
  ·refine gi z ?_;have z:=h0.1 z;rw[show A4 op a b=0 by rcases e with rfl|rfl <;> simp[A4,z]]at H;exact H
  refine fU z (fX ?_);have hq:en .quo 2 (.I (uA a)) (.I d)=some (.I (lH .i64 ((uA a).tdiv d))):=by
   cases d with
   | ofNat n=>cases n with
     |zero=>exact absurd rfl z
     |succ n=>rfl
   |negSucc n=>rfl
  have l:en .rem 2 (.I (uA a)) (.I d)=some (.I ((uA a).tmod d)):=by
   cases d with
   | ofNat n=>cases n with
     |zero=>exact absurd rfl z
     |succ n=>rfl
   |negSucc n=>rfl
  rcases e with rfl|rfl
  ·refine gi rfl (ed hq (ed (by rw[iC]) ?_));rw[jk,qD];have:pz (IntKind.i64.wrap ((uA a).tdiv d))=pz ((uA a).tdiv d):=by
    simp only[IntKind.wrap,IntKind.signed,IntKind.bits,ZR,AQ,Nat.reduceSub,Int.reducePow,pz];split <;> omega
   rw[this,j z rfl];exact H
  ·refine fU (by omega) (ed l (ed (by rw[iC,jk]) ?_));rw[k z rfl];exact H
 refine ed (ik ..) (ed (a:= .bool (decide (uA a = -9223372036854775808/\uA b = -1))) ?_ (iO ?_))
 ·simp only[fe,ik,jc];congr 2;rw[Tf,xg,HR,HR,AQ]
 simp only[qc]at g i;by_cases c:uA a = -9223372036854775808/\uA b = -1
 ·refine gi (Kt c) (f 1 ⟨λh=>by omega,λh=>by omega⟩ (λ_ _=>?_) λ_ _=>?_)
  ·rw[Int.tdiv_one];simp only[A4,c.2];simp;have:=c.1;unfold uA at this;unfold pz;split at this <;> omega
  ·simp[A4,c.2,pz]
 ·refine fU (by rw[AQ];exact c) (f (uA b) Iff.rfl (λz _=>?_) λz _=>?_)
  ·by_cases z1:uA b = -1
   ·simp[A4,z1];unfold pz uA;split <;> omega
   ·simp[A4,z,z1]
  ·by_cases z1:uA b = -1
   ·simp[A4,z1,pz]
   ·simp[A4,z,z1]
theorem zcx{op:Nat}{a b:Int}(d:qc .u64 a)(f:qc .u64 b)(g:3<=op/\op<=14)(H:Q (.int .u64 (A4 op a b)) h):cP CS Ee [.I op,.int .u64 a,.int .u64 b] h Q:=by
 refine TE rfl rfl ?_;unfold NA;refine ed (by rw[iC,Nk d]) (ed (by rw[iC,Nk f]) ?_);have e0:∀n:Nat,op=n->A4 op a b=A4 n a b:=λn h=>by rw[h]
 refine fX ?_;by_cases c:op=3
 ·rw[e0 _ c]at H;exact gi (by omega) (ed (by rw[mj,jk];rfl) H)
 refine fU (by omega) (fX ?_);by_cases c:op=4
 ·rw[e0 _ c]at H;exact gi (by omega) (ed (by rw[oR,jk];rfl) H)
 refine fU (by omega) (fX ?_);by_cases c:op=5
 ·rw[e0 _ c]at H;exact gi (by omega) (ed (by rw[Nv,jk];rfl) H)
 refine fU (by omega) ?_;have k:∀q:Bool,(q=true↔op=6\/op=7)->wT CS Q [.I op,.int .u64 a,.int .u64 b,.I (uA a),.I (uA b),.I op,.bool q] h:=λq hq=>by
  refine Mx ?_;unfold Ga;refine iO ?_;by_cases c:op=6\/op=7
  ·exact gi (hq.2 c) (WT d f c H)
  refine fU (λh=>c (hq.1 h)) (fX ?_);by_cases c:op=8
  ·rw[e0 _ c]at H;refine gi (by omega) (ed (by rw[Qj,jk]) ?_);rw[show A4 8 a b=pz (0-a) by simp[A4]]at H;exact H
  refine fU (by omega) (fX ?_);by_cases c:op=9
  ·rw[e0 _ c]at H;exact gi (by omega) (QR (La H))
  refine fU (by omega) (fX ?_);by_cases c:op=10
  ·rw[e0 _ c]at H;exact gi (by omega) (QR (La H))
  refine fU (by omega) (fX ?_);by_cases c:op=11
  ·rw[e0 _ c]at H;refine gi (by omega) (ed (tP ..) ?_);rw[show(a != b)=decide (a≠b) by by_cases e:a=b <;> simp[e]];exact La H
  refine fU (by omega) (fX ?_);by_cases c:op=12
  ·rw[e0 _ c]at H;exact gi (by omega) (ed (jB ..) (La H))
  refine fU (by omega) (fX ?_);by_cases c:op=13
  ·rw[e0 _ c]at H;exact gi (by omega) (ed (Ki ..) (La H))
  refine fU (by omega) (fX ?_);obtain rfl:op=14:=by omega
  exact gi rfl (ed (jB ..) (La H))
 refine ed (ik ..) (iO ?_);by_cases c:op=6
 ·exact gi (by rw[HR];omega) (k _ (by simp;omega))
 ·exact fU (by rw[HR];omega) (ed (ik ..) (k _ (by simp;omega)))
theorem Xl{op:Nat}{a b:Int}(d:qc .u64 a)(e:qc .u64 b)(c:3<=op/\op<=14)(H:Q (.tuple [.int .u64 (A4 op a b),.bool true]) h):cP CS z8 [.I op,.int .u64 a,.int .u64 b] h Q:=by
 refine QB rfl rfl ?_;unfold Jp;refine ed (jB ..) (ed (a:= .bool false) ?_ (iO (fU (by simp) (zcx d e c H))));rw[N5 (by omega)];simp only[fe,nw,pH];rw[N5 (by omega)];rfl
theorem Jn(a:ej F h (Fo lf u vv vb vs kG az ds)){v:Nat}{x:Vl}(f:u.ef[v]? =some x)(H:∀h',Sn F h F h'->ej F h' (Fo lf u vv vb vs kG az ds)->Q (.tuple [.int .u64 (pz x.n),.bool (decide (x.op=2))]) h') :
  cP CS jF [.ptr lf 0,.I v] h Q:=by
 refine Hu rfl rfl ?_;unfold zz;obtain⟨hv,e⟩:=jP.1 f;obtain⟨l,o,w,g,i,⟨m,c,d⟩,_⟩:=a.ixO 1 rfl hv .i64;rw[e]at c d;subst c;refine ed pn (ed pf (oF (a.ld 0 rfl rfl) (ed g (ed i ?_))));refine ir a rfl rfl (by simp only[my,ey,d.one];rfl) λj b k=>?_;refine oF (b.ld 0 rfl rfl) (ed (by rw[iC,jk]) (oF (b.ld 0 rfl rfl) (ed (ik ..) ?_)));rw[show((x.op:Int) == 2)=decide (x.op=2) by rw[Tf,HR,AQ];omega];exact H j k b.tail
end
open Un Dm
section
variable{F F':Nat->Prop}{h h':Hp}{cs ds:List Pc}{Q:ft}{u:U}{vv vb vs kG:V}{az:List Int}{lf:Nat}
theorem ej.zd3{α:Type}{E:p8 α}{ty:Nat}{xs:List α}{v:V}(H:ej F h cs)(i:Nat)(hi:cs[i]? =some (eJ E ty xs v)):iy E (λl=>F l\/L2 cs l) h xs v:=(H.row i hi).read.mono λ_ a=>a.imp id λa=>⟨i,_,hi,a⟩
theorem V7{x:Vl}(e:3<=x.op)(d:x.op<=14):(x.op=8\/x.op=9)/\iH x=[x.a]\/¬(x.op=8\/x.op=9)/\iH x=[x.a,x.b]:=by
 unfold iH;by_cases c:x.op=8\/x.op=9
 ·refine .inl ⟨c,?_⟩;rcases c with c|c <;> simp[c,two,na]
 ·refine .inr ⟨c,?_⟩;have:two x.op=true:=by unfold two;simp;omega
  rw[if_neg (by omega),if_neg (by omega),if_pos this]
theorem Wq(b:AN u){v:Nat}(n:Int):AN (Gx u v n):=λw y a=>by
 have a:(u.ef.set v (Vj n))[w]? =some y:=a;rw[List.getElem?_set]at a;split at a
 ·split at a
  ·cases a;exact NJ _
  ·cases a
 ·exact b w y a
theorem Xk(g:Good u)(ha:AN u)(p:vs.one=true)(P:ej F h (Fo lf u vv vb vs kG az ds))
  (H:∀F' h' u' c,Sn F h F' h'->ej F' h' (Fo lf u' vv vb vs kG az ds)->Td AN u u' c (λv=>v<u.ef.length)->Q (.bool c) h') :
  cP CS jn [.ptr lf 0] h Q:=by
 refine GQ rfl rfl ?_;unfold yY;have nv:=g.nv;have W:gj (uC u vv vb vs)=true:=by simp only[uC,ey,P.one 1 rfl,P.one 2 rfl,p];rfl
 refine ed pn (ed pf (ed (ld5 P 0 rfl) ?_));refine Ku (Kl g) P.ze3 W (P.zd3 2 rfl) λE vo seen post s2 H2 G=>?_;have H3:=P.zbw s2 H2;have s3:=s2.back;have X:∀b,b<u.blocks.length->b∈post.reverse:=λb J=>by
  obtain⟨l,hl⟩:=g.reach b J;exact wBH.2 (QA G hl)
 have Y:∀b∈post.reverse,b<u.blocks.length:=λb J=>G.pre b (wBH.1 J);have aw:post.reverse.length<=u.blocks.length:=by
  have h1:=G.nodup;rw[Y1,Jk]at h1;rw[List.length_reverse];exact jj _ _ h1 G.pre
 generalize post.reverse=d at*;have nb:=g.nb;clear s2 H2 G;refine ed (H3.len 0 rfl) ?_
 obtain ⟨I,hI⟩:∃I:Nat->LP,I=λk l h'=>∃(F':Nat->Prop) (u':U) (c:Bool) (i:Nat),l=[.ptr lf 0,.bool c,vo,.I d.length,.I i]/\i+k=d.length/\Sn F h F' h'/\Td AN u u' c (λv=>∃m b j,m<i/\d[m]? =some b/\At u v b j)/\
   ej F' h' (eJ eN eo d vo::Fo lf u' vv vb vs kG az ds):=⟨_,rfl⟩
 refine C0 I (λk x0 x3 ah ai aj t hi=>?_) (k:=d.length) ?_;rotate_left
 ·rw[hI];exact⟨F,u,false,0,rfl,by omega,s3,(Td.start g ha).more λ_ v ⟨m,_,_,h,_⟩=>by omega,H3⟩
 clear H3 s3;rw[hI]at hi;obtain⟨F4,u4,c4,i,⟨⟩,hk,s4,t4,R⟩:=hi;unfold uL;by_cases hi:i<d.length;rotate_left
 ·refine iJ ?_;refine H F4 t u4 c4 s4 R.tail (t4.more λ_ v hv=> .inl ?_);obtain⟨b,j,q⟩:=g.Fi v hv trivial;obtain⟨B,A,_⟩:=id q;obtain⟨m,hm⟩:=mQ.1 (X b (jP.1 A).1);have:=(jP.1 hm).1;exact⟨m,b,j,by omega,hm,q⟩
 refine gG ?_;have J:=gW hi;generalize d[i]=b at*;have ak:=Y b (Dh J);obtain⟨l1,o1,p1,p2⟩:=R.LW 0 rfl J .i64;have A:=gW ak;have al:u4.blocks[b]? =some u.blocks[b]:=by rw[t4.blocks];exact A
 generalize u.blocks[b]=B at*;obtain⟨Z,eB⟩:=jP.1 al;obtain⟨l2,o2,w2,q1,q2,⟨bv,bn,bp,ew,iv,_,_⟩,q4⟩:=R.ixO 3 rfl Z .i64;rw[eB]at ew iv;subst ew;refine ed p1 (ed p2 (ed pn (ed pf (oF (R.ld 1 rfl rfl) (ed q1 (oF (q4 0 _ rfl) (ed iv.len ?_)))))));have ax:B.ef.length<=u.ef.length:=jj _ B.ef (Ab g A) λv hv=>by
  obtain⟨k,hk⟩:=mQ.1 hv;exact g.jE v b k ⟨B,A,hk⟩
 obtain ⟨I1,K⟩:∃I1:Nat->LP,I1=λk l h'=>∃(F':Nat->Prop) (u':U) (c:Bool) (j:Nat),l=[.ptr lf 0,.bool c,vo,.I d.length,.I i,bv,.I B.ef.length,.I (j:Nat)]/\j+k=B.ef.length/\Sn F4 t F' h'/\Td AN u u' c (λv=>(∃m b j,m<i/\d[m]? =some b/\At u v b j)\/∃m,m<j/\At u v b m)/\
   ej F' h' (eJ eN eo d vo::Fo lf u' vv vb vs kG az ds):=⟨_,rfl⟩
 refine Di I1 (λk1 x0 x3 ah ai aj ay aA aB h5 aa=>?_) (k:=B.ef.length) ?_;rotate_left
 ·rw[K];exact⟨F4,u4,c4,0,rfl,by omega,Sn.refl _ _,t4.more λ_ v hv=> .inl (hv.elim id λ⟨m,h,_⟩=>by omega),R⟩
 clear R q1 q2 q4 p1 p2 t4;rw[K]at aa;obtain⟨F5,r,c5,j,⟨⟩,aC,s5,t5,H5⟩:=aa;unfold vt;have am:=iv.since s5;by_cases hj:j<B.ef.length;rotate_left
 ·refine iJ (fL ⟨k-1,by omega,?_⟩);rw[hI];refine⟨F5,r,c5,i+1,rfl,by omega,s4.trans s5,t5.more λ_ v ⟨m,b',j',h1,E,S⟩=> .inl ?_,H5⟩;by_cases e:m=i
  ·subst e;rw[J]at E;cases E;obtain⟨B',t,h5⟩:=id S;rw[A]at t;cases t;have:=(jP.1 h5).1;exact .inr ⟨j',by omega,S⟩
  ·exact .inl ⟨m,b',j',by omega,E,S⟩
 refine gG ?_;have hv:=gW hj;generalize B.ef[j]=v at*;have q:At u v b j:=⟨B,A,hv⟩
 have L:v<r.ef.length:=by rw[t5.len];exact g.jE v b j q
 obtain⟨l3,o3,_,p1,p2⟩:=am.nat hv .i64;have hx:=gW L;obtain⟨l4,o4,w4,z1,z2,⟨wa,ew,ia⟩,_⟩:=H5.ixO 2 rfl L .i64;generalize r.ef[v]=x at*;subst ew;refine ed p1 (ed p2 (ed pn (ed pf (oF (H5.ld 1 rfl rfl) (ed z1 (ed z2 ?_))))));refine ir H5 rfl rfl (by simp only[my,ey,ia.one];rfl) λh6 H6 s6=>?_;generalize h5.next=lx at*;refine ed (H6.zb 0 rfl rfl) (Qy H6 (ia.since s6) (λ_=>Ie (t5.args v x hx) (by decide)) λF7 h7 uv s7 H7 iu=>?_)
 have M:∀{F' h' u' c'},Sn F5 h5 F' h'->ej F' h' (eJ eN eo d vo::Fo lf u' vv vb vs kG az ds)->Td AN u u' c' (λv=>(∃m b j,m<i/\d[m]? =some b/\At u v b j)\/∃m,m<j+1/\At u v b m)->
   jM CS Q (BK I k) (BK I1 k1) [.ptr lf 0,.bool c',vo,.I d.length,.I i,bv,.I B.ef.length,.I j] h':=λ{F' h' u' c'} s' H' t'=>by
  refine CD ?_;unfold tG;refine fL ⟨k1-1,by omega,?_⟩;rw[K];exact⟨F',u',c',j+1,rfl,by omega,s5.trans s',t',H'⟩
 have more:(c5=false->Unf u v)->Td AN u r c5 (λv=>(∃m b j,m<i/\d[m]? =some b/\At u v b j)\/∃m,m<j+1/\At u v b m):=λhf=>t5.more λhc w p=>by
  rcases p with p|⟨m,h1,E⟩
  ·exact .inl (.inl p)
  ·by_cases e:m=j
   ·subst e;obtain⟨B',S,t⟩:=E;rw[A]at S;cases S;rw[hv]at t;cases t;exact .inr (hf hc)
   ·exact .inl (.inr ⟨m,by omega,E⟩)
 have ux:c5=false->u.ef[v]? =some x:=λhc=>by rw[<-(t5.same hc).1];exact hx
 have ab:ez (.ptr lx (0+0)) h7=some (.I x.op):=H7.ld 0 rfl rfl;refine oF ab (ed (jB ..) (ed (a:= .bool (decide (x.op<3\/14<x.op))) ?_ ?_))
 ·simp only[pf,fe,ab,nw,pH];congr 2;rw[Tf,PV,AQ,AQ,AQ];omega
 by_cases hop:x.op<3\/14<x.op
 ·rw[Kt hop];refine ed rfl (iO (gi rfl (M (s6.trans s7) H7.tail (more λhc y n N f=>?_))));rw[ux hc]at N;cases N;have:=f.lo;have:=f.hi;omega
 rw[N5 hop];have hu:=V7 (x:=x) (by omega) (by omega);have pt:iH x≠[]:=by rcases hu with⟨_,h⟩|⟨_,h⟩ <;> rw[h] <;> simp
 have ac:(iH x).length=if x.op=8\/x.op=9 then 1 else 2:=by rcases hu with⟨c,h⟩|⟨c,h⟩ <;> rw[h] <;> simp[c]
 refine ed (a:= .bool false) ?_ (iO (fU (by simp) ?_))
 ·simp only[mF,fe,iu.len,ik];congr 2;rw[Ti,ac];split <;> simp
 have ga:∀w∈iH x,∃y,r.ef[w]? =some y:=λw p=>by
  obtain⟨y,N,_⟩:=t5.DW.use v x hx w p;exact⟨y,N⟩
 have u0:(iH x)[0]? =some x.a:=by rcases hu with⟨_,h⟩|⟨_,h⟩ <;> rw[h] <;> rfl
 obtain⟨C,s⟩:=ga x.a (Dh u0);obtain⟨la,oa,_,a1,a2⟩:=iu.nat u0 .i64;refine ed a1 (ed a2 ?_);have an:ej F7 h7 (Fo lf r vv vb vs kG az (eJ eN eo d vo::ev lx gL (my x wa)::ds)):=H7.perm [2,3,4,5,1,0] 6 (by decide) (by decide) (by simp);have ao:0<(iH x).length/\(iH x).length<=2:=by rw[ac];split <;> omega
 obtain⟨z,T⟩:∃z,(iH x)[(iH x).length-1]? =some z:=⟨_,gW (by omega)⟩
 have ae:¬(x.op=8\/x.op=9)->z=x.b:=λc=>by
  rcases hu with⟨c',_⟩|⟨_,h⟩
  ·exact(c c').elim
  ·rw[h]at T;simpa using T.symm
 have ap:(x.op=8\/x.op=9)->z=x.a:=λc=>by
  rcases hu with⟨_,h⟩|⟨c',_⟩
  ·rw[h]at T;simpa using T.symm
  ·exact(c' c).elim
 obtain⟨D,o⟩:=ga z (Dh T);refine Jn an s λh8 s8 H8=>ed rfl (ed rfl (ed (iu.since s8).len (Aa (by omega) ao.1 ?_)));obtain⟨lb,ob,_,b1,b2⟩:=(iu.since s8).nat T .i64;refine ed b1 (ed b2 (Jn H8 o λh9 s9 V=>ed rfl (ed rfl (oF (V.ld 5 rfl rfl) ?_))));refine Xl (Cw _) (Cw _) (by omega) (ed rfl (ed rfl (ed (jc _ _) (ed (jc _ _) (iO ?_)))));have V:ej F7 h9 (eJ eN eo d vo::Fo lf r vv vb vs kG az ds):=(V.perm [5,4,0,1,2,3] 6 (by decide) (by decide) (by simp)).tail;have ag:=((s6.trans s7).trans s8).trans s9;by_cases hk2:C.op=2/\D.op=2
 ·have p:pz (uA (A4 x.op (pz C.n) (pz D.n)))=A4 x.op (pz C.n) (pz D.n):=by
   have:=Py x.op (pz C.n) (pz D.n);simp only[qc]at this;unfold pz uA at*;split <;> omega
  have f:Fv r x (uA (A4 x.op (pz C.n) (pz D.n))):=⟨by omega,by omega,pz C.n,pz D.n,⟨C,s,hk2.1,rfl⟩,λc=>⟨D,by rw[<-ae c];exact o,hk2.2,rfl⟩,p⟩
  refine gi (by simp[hk2]) (ed pn (ed pf (oF (V.ld 1 rfl rfl) (ed (by rw[iC,Nk (Py _ _ _)]) ?_))));generalize uA (A4 x.op (pz C.n) (pz D.n))=n at*;refine ed (show _=some (.agg (my (Vj n) .ee)) from rfl) ?_;obtain⟨l6,o6,aq,r1,r2,_,O,ar⟩:=V.stE 2 rfl L (y:=Vj n) (ws:=my (Vj n) .ee) ⟨.ee,rfl,.inl ⟨rfl,rfl⟩⟩;refine ed r1 ?_;rw[show gI 6 (.ptr l6 o6) _ h9=_ from r2,ei];have O:ej F7 aq (eJ eN eo d vo::Fo lf (Gx r v n) vv vb vs kG az ds):=O;exact M (ag.trans ar) O (t5.step hx f (Wq t5.args _) _)
 ·refine fU (by simp;omega) (M ag V (more λhc y n N f=>?_));rw[ux hc]at N;cases N;obtain⟨a,b,⟨aD,e1,e2,_⟩,au,_⟩:=f.kn;rw[<-(t5.same hc).1,s]at e1;cases e1;refine hk2 ⟨e2,?_⟩;by_cases c:x.op=8\/x.op=9
  ·rw[ap c,s]at o;cases o;exact e2
  ·obtain⟨aE,e3,e4,_⟩:=au c;rw[ae c,(t5.same hc).1,e3]at o;cases o;exact e4
end
open Un Dm
def PhM(v:Nat)(l:List Nat)(one:Int)(b:Bool):Prop:=b=true\/(b=false/\one = -1/\∀a∈l,a=v)\/(b=false/\∃r:Nat,one=(r:Int)/\r≠v/\r∈l/\∀a∈l,a=v\/a=r)
def PhO(u:U)(v r:Nat):Prop:=∃x,u.ef[v]? =some x/\x.op=21/\r≠v/\r∈x.args/\∀a∈x.args,a=v\/a=r
def YI(u:U)(v:Nat):Prop:=∃x n,u.ef[v]? =some x/\x.op=22/\Kw u x.a n/\n≠0
section
variable{F F':Nat->Prop}{h h':Hp}{cs ds:List Pc}{Q:ft}{u:U}{vv vb vs kG:V}{az:List Int}{lf:Nat}
theorem zai(g:Good u)(Y:AN u)(Z:az.length=u.ef.length)(C:ej F h (Fo lf u vv vb vs kG az ds))
  (H:∀F' h' lO c,Sn F h F' h'->ej F' h' (Fo lf u vv vb vs kG lO ds)->(c=false->lO=az)->(c=true->∃v r,PhO u v r/\lO=az.set v (r:Int))->Q (.bool c) h') :
  cP CS jS [.ptr lf 0] h Q:=by
 refine IQ rfl rfl ?_;unfold AH;have nv:=g.nv;refine ed pn (ed pf (oF (C.ld 0 rfl rfl) (ed (C.len 1 rfl) ?_)));obtain⟨I,D⟩:∃I:Nat->LP,I=λk l h'=>∃(i:Nat),l=[.ptr lf 0,.bool false,vv,.I u.ef.length,.I i]/\i+k=u.ef.length/\Sn F h F h'/\ej F h' (Fo lf u vv vb vs kG az ds):=⟨_,rfl⟩
 refine Fz I (λk x0 x3 E G J K hi=>?_) (k:=u.ef.length) (by rw[D];exact⟨0,rfl,by omega,Sn.refl _ _,C⟩);rw[D]at hi;obtain⟨i,⟨⟩,hk,L,M⟩:=hi;unfold yj;by_cases hi:i<u.ef.length;rotate_left
 ·refine iJ (xL ?_);unfold pM;exact H F K az false L M (λ_=>rfl) λh=>nomatch h
 refine gG ?_;have U:=gW hi;obtain⟨l4,o4,w4,z1,z2,⟨N,ew,O⟩,_⟩:=M.ixO 1 rfl hi .i64;generalize u.ef[i]=x at*;subst ew;refine ed z1 (ed z2 (ir M rfl rfl (by simp only[my,ey,O.one];rfl) λh2 m o=>?_));generalize K.next=lx at*;have r8:∀{h'},Sn F K F h'->ej F h' (Fo lf u vv vb vs kG az ds)->mP CS Q (BK I k) [.ptr lf 0,.bool false,vv,.I u.ef.length,.I i] h':=λ{h'} s' H'=>by
  refine FM ?_;unfold xR;refine fL ⟨k-1,by omega,?_⟩;rw[D];exact⟨i+1,rfl,by omega,L.trans s',H'⟩
 refine oF (m.ld 0 rfl rfl) (yg ?_);by_cases P:x.op=21;rotate_left
 ·exact fU (by omega) (r8 o m.tail)
 refine gi (by omega) (oF (m.ld 0 rfl rfl) (ed O.len ?_));have V:=Y i x U;obtain⟨t,n⟩:∃t:Nat->LP,t=λk l h'=>∃(one:Int) (e:Bool) (j:Nat),l=[.ptr lf 0,.bool false,.I i,.I one,.bool e,vv,.I u.ef.length,.I i,N,.I x.args.length,.I j]/\j+k=x.args.length/\h' = h2/\PhM i (x.args.take j) one e:=⟨_,rfl⟩
 refine Ft t (λW x0 x3 x4 x6 x7 E G J aa ab ac h3 p=>?_) (k:=x.args.length) (by rw[n];exact⟨-1,false,0,rfl,by omega,rfl,.inr (.inl ⟨rfl,rfl,by simp⟩)⟩);rw[n]at p;obtain⟨one,e,j,⟨⟩,ae,rfl,w⟩:=p;unfold xJ;have i2:=O.since o;by_cases hj:j<x.args.length;rotate_left
 ·refine iJ (ed (nM ..) ?_);obtain rfl:j=x.args.length:=by omega
  rw[JC]at w;refine ed (a:= .bool (decide (0<=one)&&!e)) ?_ (iO ?_)
  ·simp only[fe,zaH,Va,jc]
  rcases w with rfl|⟨rfl,rfl,_⟩|⟨rfl,r,rfl,z,A,B⟩
  ·exact fU (by simp) (r8 o m.tail)
  ·exact fU (by simp) (r8 o m.tail)
  ·refine gi (by simp) (oN (m.ld 1 rfl rfl) ?_);obtain⟨l5,o5,X,p1,p2,_,R,s6⟩:=m.Jj 4 rfl (k:=i) (y:=(r:Int)) (u:= .I r) (by omega) rfl rfl rfl;refine ed p1 ?_;rw[p2,ei];refine xL ?_;unfold pM;have R:ej F X (ev lx gL (my x N)::Fo lf u vv vb vs kG (az.set i (r:Int)) ds):=R;exact H F X _ true ((L.trans o).trans s6) R.tail (λh=>nomatch h) λ_=>⟨i,r,⟨x,U,P,z,A,B⟩,rfl⟩
 refine gG ?_;have hv:=gW hj;have S:=N6 hj;generalize x.args[j]=a at*;obtain⟨l6,o6,_,p1,p2⟩:=i2.nat hv .i64;have s:∀{W6:Int} {d:Bool},PhM i (x.args.take j++[a]) W6 d->mz CS Q (BK I k) (BK t W) [.ptr lf 0,.bool false,.I i,.I W6,.bool d,vv,.I u.ef.length,.I i,N,.I x.args.length,.I j] h3:=λ{W6 d} T=>by
  refine Ej ?_;unfold wQ;refine fL ⟨W-1,by omega,?_⟩;rw[n];exact⟨W6,d,j+1,rfl,by omega,rfl,by rw[S];exact T⟩
 refine ed p1 (ed p2 (ed (tP ..) (ed (a:= .bool (decide (a≠i/\(a:Int)≠one))) ?_ (iO ?_))))
 ·simp only[fe,tP,jc];congr 2;rw[Tf,xg,bne_iff_ne,bne_iff_ne,AQ];omega
 by_cases c:a≠i/\(a:Int)≠one
 ·refine gi (Kt c) (ed (a:= .bool (e ||decide (0<=one))) ?_ (s ?_))
  ·simp only[fe,nM,pH]
  rcases w with rfl|⟨rfl,rfl,q⟩|⟨rfl,r,rfl,z,A,B⟩
  ·exact .inl rfl
  ·refine .inr (.inr ⟨rfl,a,rfl,c.1,by simp,λb f=>?_⟩);rcases I8.1 f with f|f
   ·exact .inl (q b f)
   ·exact .inr (by simpa using f)
  ·exact .inl (by simp)
 ·refine fU (by rw[AQ];exact c) (s ?_);rcases w with rfl|⟨rfl,rfl,q⟩|⟨rfl,r,rfl,z,A,B⟩
  ·exact .inl rfl
  ·refine .inr (.inl ⟨rfl,rfl,λb f=>?_⟩);rcases I8.1 f with f|f
   ·exact q b f
   ·have:b=a:=by simpa using f
    omega
  ·refine .inr (.inr ⟨rfl,r,rfl,z,Xu _ A,λb f=>?_⟩);rcases I8.1 f with f|f
   ·exact B b f
   ·have:b=a:=by simpa using f
    omega
theorem V1(g:Good u)(L:az.length=u.ef.length)(p:ej F h (Fo lf u vv vb vs kG az ds))
  (H:∀F' h' lO c,Sn F h F' h'->ej F' h' (Fo lf u vv vb vs kG lO ds)->lO.length=az.length->(∀v,lO[v]? =az[v]?\/(lO[v]? =some (-1)/\YI u v))->(c=false->lO=az)->(c=true->∃v,v<u.ef.length/\lO[v]? =some (-1)/\YI u v)->Q (.bool c) h') :
  cP CS jo [.ptr lf 0] h Q:=by
 refine FQ rfl rfl ?_;unfold yR;have nv:=g.nv;refine ed pn (ed pf (oF (p.ld 0 rfl rfl) (ed (p.len 1 rfl) ?_)));obtain⟨I,r⟩:∃I:Nat->LP,I=λk l h'=>∃(i:Nat) (c:Bool) (lO:List Int),l=[.ptr lf 0,.bool c,vv,.I u.ef.length,.I i]/\i+k=u.ef.length/\Sn F h F h'/\ej F h' (Fo lf u vv vb vs kG lO ds)/\lO.length=az.length/\(∀v,lO[v]? =az[v]?\/(lO[v]? =some (-1)/\YI u v))/\(c=false->lO=az)/\(c=true->∃v,v<u.ef.length/\lO[v]? =some (-1)/\YI u v):=⟨_,rfl⟩
 refine Dc I (λk x0 x3 M N O s hi=>?_) (k:=u.ef.length) (by rw[r];exact⟨0,false,az,rfl,by omega,Sn.refl _ _,p,rfl,λ_=> .inl rfl,λ_=>rfl,λh=>nomatch h⟩);rw[r]at hi;obtain⟨i,c,lO,⟨⟩,hk,D,t,j,m,w,z⟩:=hi;unfold vH;by_cases hi:i<u.ef.length;rotate_left
 ·exact iJ (H F s lO c D t j m w z)
 refine gG ?_;have E:=gW hi;obtain⟨l4,o4,w4,P,R,⟨S,T,U⟩,_⟩:=t.ixO 1 rfl hi .i64;generalize u.ef[i]=x at*;subst T;refine ed P (ed R (ir t rfl rfl (by simp only[my,ey,U.one];rfl) λV o A=>?_));generalize s.next=lx at*;have r8:∀{h' c' b},Sn F s F h'->ej F h' (Fo lf u vv vb vs kG b ds)->b.length=az.length->(∀v,b[v]? =az[v]?\/(b[v]? =some (-1)/\YI u v))->(c' = false->b=az)->(c' = true->∃v,v<u.ef.length/\b[v]? =some (-1)/\YI u v)->jX CS Q (BK I k) [.ptr lf 0,.bool c',vv,.I u.ef.length,.I i] h':=λ{h' c' b} s' W X Y t3 t4=>by
  refine DS ?_;unfold uI;refine fL ⟨k-1,by omega,?_⟩;rw[r];exact⟨i+1,c',b,rfl,by omega,D.trans s',W,X,Y,t3,t4⟩
 refine oF (o.ld 0 rfl rfl) (yg ?_);by_cases d:x.op=22;rotate_left
 ·exact fU (by omega) (r8 A o.tail j m w z)
 obtain⟨y,G,_⟩:=g.use i x E x.a (EG.2 (by rw[d];rfl) (by omega));have B:ej F V (Fo lf u vv vb vs kG lO (ev lx gL (my x S)::ds)):=o.perm [1,2,3,4,0] 5 (by decide) (by decide) (by simp);refine gi (by omega) (oF (o.ld 0 rfl rfl) (Jn B G λZ J f=>ed rfl (ed rfl ?_)));have f:ej F Z (Fo lf u vv vb vs kG lO ds):=(f.perm [4,0,1,2,3] 5 (by decide) (by decide) (by simp)).tail;refine ed (a:= .bool (decide (y.op=2/\pz y.n≠0))) ?_ (iO ?_)
 ·simp only[fe,tP,jc];congr 2;rw[Tf,xg,bne_iff_ne,AQ,AQ]
 by_cases hk2:y.op=2/\pz y.n≠0
 ·refine gi (Kt hk2) (oN (f.ld 0 rfl rfl) ?_);obtain⟨l5,o5,h6,p1,p2,_,C,s6⟩:=f.Jj 3 rfl (k:=i) (y:=(-1:Int)) (u:= .I (-1)) (by omega) rfl rfl rfl;refine ed p1 ?_;rw[p2,ei];have C:ej F h6 (Fo lf u vv vb vs kG (lO.set i (-1)) ds):=C;have K:YI u i:=⟨x,pz y.n,E,d,⟨y,G,hk2.1,rfl⟩,hk2.2⟩
  have hs:(lO.set i (-1))[i]? =some (-1):=O9 (by omega);refine r8 ((A.trans J).trans s6) C (by rw[LU];exact j) (λv=>?_) (λh=>nomatch h) λ_=>⟨i,hi,hs,K⟩
  by_cases e:v=i
  ·subst e;exact .inr ⟨hs,K⟩
  ·rw[Kk λq=>e q.symm];exact m v
 ·exact fU (by rw[AQ];exact hk2) (r8 (A.trans J) f j m w z)
end
open Un Dm
section
variable{F F':Nat->Prop}{h h':Hp}{cs ds:List Pc}{Q:ft}{u:U}{vv vb vs kG:V}{az:List Int}{lf:Nat}
theorem za8(g:Good u)(M:ej F h (Fo lf u vv vb vs kG az ds))
  (H:∀F' h' u2 c,Sn F h F' h'->ej F' h' (Fo lf u2 vv vb vs kG az ds)->FH u u2 c (λb=>b<u.blocks.length)->Q (.bool c) h') :
  cP CS jT [.ptr lf 0] h Q:=by
 refine I0 rfl rfl ?_;unfold AM;have nb:=g.nb;refine ed pn (ed pf (oF (M.ld 0 rfl rfl) (ed (M.len 2 rfl) ?_)));obtain⟨I,N⟩:∃I:Nat->LP,I=λk l h'=>∃(F':Nat->Prop) (u2:U) (c:Bool) (i:Nat),l=[.ptr lf 0,.bool c,vb,.I u.blocks.length,.I i]/\i+k=u.blocks.length/\Sn F h F' h'/\ej F' h' (Fo lf u2 vv vb vs kG az ds)/\FH u u2 c (λb=>b<i)/\∀b,i<=b->u2.blocks[b]? =u.blocks[b]?:=⟨_,rfl⟩
 refine FJ I (λk x0 x3 ac ae ag P hi=>?_) (k:=u.blocks.length) (by rw[N];exact⟨F,u,false,0,rfl,by omega,Sn.refl _ _,M,(FH.start u).more λ_ b r=>by omega,λ_ _=>rfl⟩);rw[N]at hi;obtain⟨d,u1,c,i,⟨⟩,hk,s1,R,t,pt⟩:=hi;unfold xM;by_cases hi:i<u.blocks.length;rotate_left
 ·exact iJ (H d P u1 c s1 R (t.more λ_ b r=> .inl (by omega)))
 refine gG ?_;have D:=gW hi;generalize u.blocks[i]=B at*;have s:u1.blocks[i]? =some B:=by rw[pt i (iZ _)];exact D
 obtain ⟨f,eB⟩:=jP.1 s;obtain⟨l4,o4,w4,z1,z2,⟨bv,bn,bp,ew,iv,S,ip⟩,_⟩:=R.ixO 2 rfl f .i64;rw[eB]at ew iv S ip;subst ew;refine ed z1 (ed z2 (ir R rfl rfl (by simp only[kI,ey,iv.one,S.one,ip.one];rfl) λT G J=>?_));generalize P.next=lx at*;have r8:∀{F' h' c' u'},Sn d P F' h'->ej F' h' (Fo lf u' vv vb vs kG az ds)->FH u u' c' (λb=>b<i+1)->(∀b,i+1<=b->u'.blocks[b]? =u.blocks[b]?)->kV CS Q (BK I k) [.ptr lf 0,.bool c',vb,.I u.blocks.length,.I i] h':=λ{F' h' c' u'} s' H' t' V=>by
  refine FA ?_;unfold xI;refine fL ⟨k-1,by omega,?_⟩;rw[N];exact⟨F',u',c',i+1,rfl,by omega,s1.trans s',H',t',V⟩
 have more:(∀n,B.fin=2->¬Kw u B.cond n)->FH u u1 c (λb=>b<i+1):=λhf=>t.more λ_ b r=>by
  by_cases q:b=i
  ·subst q;exact .inr λA n hA T=>by
    rw[D]at hA;cases hA;exact hf n T
  ·exact .inl (by omega)
 refine oF (G.ld 0 rfl rfl) (yg ?_);by_cases hf2:B.fin=2;rotate_left
 ·exact fU (by omega) (r8 J G.tail (more λ_ q=>absurd q hf2) λb r=>pt b (by omega))
 obtain ⟨y,x,hlen⟩:∃y,u.ef[B.cond]? =some y/\B.next.length=2:=by
  rcases g.fin i B D with⟨q,_⟩|⟨_,q,y,x,_⟩|⟨q,_⟩
  ·omega
  ·exact⟨y,x,q⟩
  ·omega
 have W:u1.ef[B.cond]? =some y:=by rw[t.e.ef];exact x
 have X:ej d T (Fo lf u1 vv vb vs kG az (ev lx fI (kI B bv bn bp)::ds)):=G.perm [1,2,3,4,0] 5 (by decide) (by decide) (by simp);refine gi (by omega) (oF (G.ld 0 rfl rfl) (Jn X W λa Y m=>ed rfl (ed rfl (PQ (iO ?_)))));by_cases hk2:y.op=2;rotate_left
 ·refine gi (by simp[hk2]) (r8 (J.trans Y) (m.perm [4,0,1,2,3] 5 (by decide) (by decide) (by simp)).tail (more λn _ ⟨y',e1,e2,_⟩=>?_) λb r=>pt b (by omega));rw[x]at e1;cases e1;exact hk2 e2
 have z:=(S.since J).since Y;have n0:=gW (show 0<B.next.length by omega);have n1:=gW (show 1<B.next.length by omega);obtain⟨la,oa,_,a1,a2⟩:=z.nat n0 .i64;obtain⟨lb,ob,_,b1,b2⟩:=z.nat n1 .i64;refine fU (by simp[hk2]) (oF (m.ld 4 rfl rfl) (ed a1 (ed a2 (fX ?_))));have Z:=J.trans Y;have C:∀to:Nat,(if pz y.n=0 then B.next[1]? else B.next[0]?)=some to->mC CS Q (BK I k) [.ptr lf 0,.I i,.I (to:Nat),vb,.I u.blocks.length,.I i] a:=λto aa=>by
  have m:ej d a (Fo lf u1 vv vb vs kG az ds):=(m.perm [4,0,1,2,3] 5 (by decide) (by decide) (by simp)).tail;refine Ey ?_;unfold wm;refine ed pn (ed pf (oF (m.ld 0 rfl rfl) (ed pn (ed pf (oF (m.ld 0 rfl rfl) (ed pn (ed pf (oF (m.ld 0 rfl rfl) ?_))))))));rw[qZ,gR];obtain⟨o,s4,r4⟩:=m.ZF (E:=eN) (xs:=[to]) (ws:=gP [to]) (n:=1) eo rfl (wF _ _ _) false;have hg:(a.new (.cells 3 1 true false (gP [to]))).get a.next=some (.cells 3 1 true false (gP [to])):=fg _ _;have o:ej (λl=>d l\/l=a.next) (a.new (.cells 3 1 true false (gP [to]))) (Fo lf u1 vv vb vs kG az ds):=o;have s4:Sn d a (λl=>d l\/l=a.next) (a.new (.cells 3 1 true false (gP [to]))):=s4;have r4:iy eN (λl=>d l\/l=a.next) (a.new (.cells 3 1 true false (gP [to]))) [to] (.slice a.next 0 1):=r4;generalize a.new (.cells 3 1 true false (gP [to]))=h4 at*;generalize ab:(λl=>d l\/l=a.next)=F4 at*;have f4:F4 a.next:=by rw[<-ab];exact .inr rfl
  obtain ⟨l5,o5,h5,c1,c2,n5,H5,K⟩:=o.stP 2 rfl (k:=i) (j:=1) (u:= .I 1) (y:={B with fin:=1}) f (by decide) rfl λw ⟨v,n,p,e,q⟩=>by
   rw[eB]at e q;subst e;exact⟨v,n,p,rfl,q⟩
  refine ed c1 (ed pf ⟨⟨hg,O.kF _ _ _ _ _⟩,o.ld 0 rfl rfl,o.ld 0 rfl rfl,o.ld 0 rfl rfl,?_⟩);rw[show gI 1 (.ptr l5 (o5+1)) _ h4=_ from c2,ei];obtain⟨l6,o6,h6,d1,d2,n6,H6,s6⟩:=H5.stP 2 rfl (k:=i) (j:=2) (u:= .I 0) (y:={B with fin:=1,cond:=0}) (by rw[LU];exact f) (by decide) rfl λw ⟨v,n,p,e,q⟩=>by
   rw[List.getElem_set_self]at e q;subst e;exact⟨v,n,p,rfl,q⟩
  refine ⟨n5,ed d1 (ed pf ⟨⟨by rw[K.fh _ f4];exact hg,O.kF _ _ _ _ _⟩,?_⟩)⟩;rw[show gI 1 (.ptr l6 (o6+2)) _ h5=_ from d2,ei];have r6:=(r4.since K).since s6;obtain⟨l7,o7,h7,g1,g2,n7,L,s7⟩:=H6.stP 2 rfl (k:=i) (j:=3) (u:= .slice a.next 0 1) (y:=TO B to) (by rw[LU,LU];exact f) (by decide) rfl λw ⟨v,n,p,e,q1,_,q3⟩=>by
   rw[List.getElem_set_self]at e q1 q3;subst e;exact⟨v,_,p,rfl,q1,r6,q3⟩
  refine⟨n6,ed g1 (ed pf ⟨⟨by rw[s6.fh _ f4,K.fh _ f4];exact hg,O.kF _ _ _ _ _⟩,?_⟩)⟩;rw[show gI 1 (.ptr l7 (o7+3)) _ h6=_ from g2,ei];have L:ej F4 h7 (Fo lf {u1 with blocks:=((u1.blocks.set i {B with fin:=1}).set i {B with fin:=1,cond:=0}).set i (TO B to)} vv vb vs kG az ds):=L;rw[List.set_set,List.set_set]at L;refine⟨n7,r8 ((((Z.trans s4).trans K).trans s6).trans s7) L (t.step D s hf2 ⟨y,x,hk2,rfl⟩ aa _) λb r=>?_⟩;show(u1.blocks.set i _)[b]? =_;rw[Kk (by omega)];exact pt b (by omega)
 by_cases hz:pz y.n=0
 ·refine gi hz (oF (m.ld 4 rfl rfl) (ed b1 (ed b2 (C _ ?_))));rw[if_pos hz];exact n1
 ·refine fU hz (C _ ?_);rw[if_neg hz];exact n0
end
open Un Dm
abbrev L7:Nat:=95
def AV(u:U):List Int:=(List.range u.ef.length).map λ(i:Nat)=>(i:Int)
def Ag(u:U)(i:Nat)(c:Bool)(u2:U)(az:List Int):Prop:=∃(u1:U)(e c2 d f:Bool)(a:List Int), Td AN u u1 e (λv=>1<=i/\v<u.ef.length)/\(c2=false->a=AV u)/\(c2=true->∃v r,PhO u1 v r/\a=(AV u).set v (r:Int))/\az.length=a.length/\(∀v,az[v]? =a[v]?\/(az[v]? =some (-1)/\YI u1 v))/\(d=false->az=a)/\(d=true->∃v,v<u1.ef.length/\az[v]? =some (-1)/\YI u1 v)/\FH u1 u2 f (λb=>4<=i/\b<u1.blocks.length)/\c=(f ||(d ||(c2 ||e)))/\(i<4->f=false/\u2=u1)/\(i<3->d=false)/\(i<2->c2=false)/\(i<1->e=false/\u1=u)
section
variable{F F':Nat->Prop}{h h':Hp}{cs ds:List Pc}{Q:ft}{u:U}{vv vb vs kG:V}{az:List Int}{lf:Nat}
def OY:List V:=[.func jn [] [],.func jS [] [],.func jo [] [],.func jT [] []]
theorem Zy(a:ej F h cs)(H:∀h' l,Sn F h F h'->ej F h' (ev l L7 OY::cs)->Q (.slice l 0 4) h'):cP CS z9 [] h Q:=by
 refine QE rfl rfl ?_;unfold JD;rw[show jr 95 1 4 V.nilFunc [(0,V.func jn [] []),(1,V.func jS [] []),(2,V.func jo [] []),(3,V.func jT [] [])]=some (.cells 95 1 true false OY,λl=> .slice l 0 4) from rfl,fx];obtain⟨b,c⟩:=a.zo 95 OY;exact H _ h.next c b
theorem Ag.start(g:Good u)(a:AN u):Ag u 0 false u (AV u):=⟨u,false,false,false,false,AV u,(Td.start g a).more λ_ v h=>by omega,λ_=>rfl,λh=>(nomatch h),rfl,λ_=> .inl rfl,λ_=>rfl,λh=>(nomatch h),(FH.start u).more λ_ b h=>by omega,rfl,λ_=>⟨rfl,rfl⟩,λ_=>rfl,λ_=>rfl,λ_=>⟨rfl,rfl⟩⟩
theorem Dv:(AV u).length=u.ef.length:=by simp[AV]
theorem Y5(g:Good u)(ha:AN u)(T:vs.one=true)(aa:kG.one=true)(p:ej F h (ev lf JL [.I u.func,.I u.pc,vv,vb,vs,kG]::eJ eV gL u.ef vv::eJ eK fI u.blocks vb::ds))
  (H:∀F' h' u2 av az c,Sn F h F' h'->ej F' h' (Fo lf u2 vv vb vs av az ds)->Ag u 4 c u2 az->Q (.bool c) h') :
  cP CS oH [.ptr lf 0] h Q:=by
 refine Hw rfl rfl ?_;unfold zq;have y:gj (uC u vv vb vs)=true:=by simp only[uC,ey,p.one 1 rfl,p.one 2 rfl,T];rfl
 refine ed pn (ed pf (ed (ld5 p 0 rfl) (VG y (p.len 1 rfl) g.nv p λh1 av V J=>ed pn (ed pf ?_))));obtain⟨W,e2,_,s,X⟩:=J.st 1 (o:=5) (u:=av) rfl (by simp) (J.one 0 rfl);rw[show gI 1 (.ptr lf (0+5)) av h1=_ from e2,ei];have s:ej F W (eJ eZ eo (AV u) av::ev lf JL [.I u.func,.I u.pc,vv,vb,vs,av]::eJ eV gL u.ef vv::eJ eK fI u.blocks vb::ds):=s;have s:ej F W (Fo lf u vv vb vs av (AV u) ds):=s.perm [1,2,3,0] 4 (by decide) (by decide) (by simp);refine Zy s λh3 lr Y C=>ed rfl ?_;have C:ej F h3 (Fo lf u vv vb vs av (AV u) (ev lr L7 OY::ds)):=C.perm [1,2,3,4,0] 5 (by decide) (by decide) (by simp);have z:=(V.trans X).trans Y;obtain⟨I,K⟩:∃I:Nat->LP,I=λk l h'=>∃(F':Nat->Prop) (u2:U) (az:List Int) (c:Bool) (i:Nat),l=[.ptr lf 0,.bool c,.slice lr 0 4,.I (4:Nat),.I i]/\i+k=4/\Sn F h F' h'/\ej F' h' (Fo lf u2 vv vb vs av az (ev lr L7 OY::ds))/\Ag u i c u2 az:=⟨_,rfl⟩
 refine Em I (λk x0 x3 ab ac ae w hi=>?_) (k:=4) (by rw[K];exact⟨F,u,AV u,false,0,rfl,rfl,z,C,Ag.start g ha⟩);clear p J s C V X Y z;rw[K]at hi;obtain⟨Z,f,az,c,i,⟨⟩,hk,s4,a,u1,D,c2,c3,c4,E,t,p1,p2,L,g2,x,g4,e1,ec,i4,G,M,i1⟩:=hi;unfold wj;by_cases hi:i<4;rotate_left
 ·refine iJ ?_;obtain rfl:i=4:=by omega
  exact H Z w f av az c s4 (a.perm [4,0,1,2,3] 5 (by decide) (by decide) (by simp)).tail ⟨u1,D,c2,c3,c4,E,t,p1,p2,L,g2,x,g4,e1,ec,i4,G,M,i1⟩
 obtain⟨rfl,rfl⟩:=i4 hi
 have fin:∀{F' h' u' lO c' d},Sn Z w F' h'->ej F' h' (Fo lf u' vv vb vs av lO (ev lr L7 OY::ds))->Ag u (i+1) d u' lO->(c' ||c)=d->
   oP (nP (.bool c') (some (.bool c))) (λN=>oP (en .add 3 (.I i) (.I 1)) λO=>BK I k [.ptr lf 0,N,.slice lr 0 4,.I (4:Nat),O] h'):=λ{F' h' u' lO c' d} s' H' A e=>by
  refine ed (pH _ _) (fL ⟨k-1,by omega,?_⟩);rw[K,e];exact⟨F',u',lO,d,i+1,rfl,by omega,s4.trans s',H',A⟩
 subst ec;refine gG (ed (yl _ _ _ _ _ _ hi) ?_);have lz:∀{az:List Int},az=E->c2=false->az.length=f.ef.length:=λe q=>by rw[e,p1 q,Dv,t.len]
 obtain rfl|rfl|rfl|rfl:i=0\/i=1\/i=2\/i=3:=by omega
 ·refine ed (a.ld 4 (o:=0+0*1) rfl rfl) ?_;show cP CS jn [.ptr lf 0] w _;obtain⟨rfl,rfl⟩:=i1 (by omega);obtain rfl:=M (by omega);obtain rfl:=G (by omega);refine Xk t.DW t.args T a λP R S j m n t5=>fin m n ⟨S,j,false,false,false,E,t5.more λ_ v h=> .inl h.2,p1,λh=>(nomatch h),L,λv=> .inl (by rw[x rfl]),x,λh=>(nomatch h),(FH.start S).more λ_ b h=>by omega,rfl,λ_=>⟨rfl,rfl⟩,λ_=>rfl,λ_=>rfl,λh=>by omega⟩ (by simp)
 ·refine ed (a.ld 4 (o:=0+1*1) rfl rfl) ?_;show cP CS jS [.ptr lf 0] w _;obtain rfl:=M (by omega);obtain rfl:=G (by omega);obtain rfl:=x rfl;refine zai t.DW t.args (lz rfl rfl) a λP R B j m n t5 t6=>fin m n ⟨f,D,j,false,false,B,t.more λ_ v h=> .inl ⟨by omega,h.2⟩,λh=>(t5 h).trans (p1 rfl),λh=>?_,rfl,λv=> .inl rfl,λ_=>rfl,λh=>(nomatch h),(FH.start f).more λ_ b h=>by omega,rfl,λ_=>⟨rfl,rfl⟩,λ_=>rfl,λh=>by omega,λh=>by omega⟩ (by simp);rw[<-p1 rfl];exact t6 h
 ·refine ed (a.ld 4 (o:=0+2*1) rfl rfl) ?_;show cP CS jo [.ptr lf 0] w _;obtain rfl:=G (by omega);obtain rfl:=x rfl;have hl:az.length=f.ef.length:=by
   cases c2 with
   |false=>exact lz rfl rfl
   | true=>
     obtain⟨v,r,_,e⟩:=p2 rfl;rw[e,LU,Dv,t.len]
  refine V1 t.DW hl a λP R B j m n t5 t6 t7 t8=>fin m n ⟨f,D,c2,j,false,az,t.more λ_ v h=> .inl ⟨by omega,h.2⟩,p1,p2,t5,t6,t7,t8,(FH.start f).more λ_ b h=>by omega,rfl,λ_=>⟨rfl,rfl⟩,λh=>by omega,λh=>by omega,λh=>by omega⟩ (by simp)
 ·refine ed (a.ld 4 (o:=0+3*1) rfl rfl) ?_;show cP CS jT [.ptr lf 0] w _;refine za8 t.DW a λP R S j m n t5=>fin m n ⟨f,D,c2,c3,j,E,t.more λ_ v h=> .inl ⟨by omega,h.2⟩,p1,p2,L,g2,x,g4,t5.more λ_ b h=> .inl h.2,rfl,λh=>by omega,λh=>by omega,λh=>by omega,λh=>by omega⟩ (by simp)
end
