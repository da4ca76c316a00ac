/- Parts. -/
import Derived.Test.YtbdcpiokodljaaaGreatDoorM41
import Derived.Test.YtbdcpiokodljaaaGreatDoorM49
import Derived.Test.YtbdcpiokodljaaaGreatDoorM48
set_option maxHeartbeats 4000000
namespace Go.Proofs.YtbdcpiokodljaaaGreatDoor.Hx
open Un Dm
theorem Vm(l:List V):gv l=l.all V.one:=by
 induction l with
 |nil=>rfl
 |cons a l b=>rw[eo,b];rfl
theorem UI{l ws:List V}(h:gv l=true)(b:gv ws=true)(n m:Nat):gv (l.take n++ws++l.drop m)=true:=by
 rw[Vm,RU]at*;intro x a;rcases JT.1 a with a|a
 ·rcases JT.1 a with a|a
  ·exact h x (wBa a)
  ·exact b x a
 ·exact h x (List.mem_of_mem_drop a)
section
variable{F F':Nat->Prop}{h h':Hp}{cs:List Pc}
theorem ej.stP{α:Type}{E:qH α}{ty:Nat}{xs:List α}{v:V}(H:ej F h cs)(i:Nat)(hi:cs[i]? =some (eJ E ty xs v)){k j:Nat}(hk:k<xs.length)(b:j<E.sz){y:α}{u:V}(c:u.one=true)(d:∀w,E.rel F h xs[k] w->E.rel F h y (w.set j u)) :
  ∃l o h',gG E.sz v (.I k)=some (.ptr l o)/\gJ 1 (.ptr l (o+j)) u h=some (.val .undef h')/\h.next<=h'.next/\ej F h' (cs.set i (eJ E ty (xs.set k y) v))/\Sn F h F h':=by
 obtain⟨t,h',_,e,f,g,a⟩:=(H.row i hi).store hk b c d;exact⟨t,_,h',e,f,a.next,H.DV hi a g λ_ h=> .inl h⟩
theorem ej.ixO{α:Type}{E:qH α}{ty:Nat}{xs:List α}{v:V}(H:ej F h cs)(i:Nat)(hi:cs[i]? =some (eJ E ty xs v)){k:Nat}(hk:k<xs.length)(kd:IntKind) :
  ∃l o w,gG E.sz v (.int kd k)=some (.ptr l o)/\fX E.sz (.ptr l o) h=some (.agg w)/\E.rel F h xs[k] w/\∀j u,w[j]? =some u->ez (.ptr l (o+j)) h=some u:=by
 rcases H.row i hi with⟨_,rfl⟩|⟨t,ws,rfl,m,n,b,e,p⟩
 ·simp at hk
 ·obtain ⟨w,c,f,d⟩:=e.get (i:=k) (x:=xs[k]) (hO hk);refine⟨t,0+k*E.sz,w,za _ _ _ _ _ _ hk,?_,d,λj u a=>?_⟩
  ·rw[Eo b,zO,EI f,c];rfl
  ·rw[Q1 b,Ru];have g:j<E.sz:=by rw[<-E.len d];exact(kj.1 a).1
   rw[<-c,wBv g,wBW]at a;rw[zO];exact a
theorem ej.stE{α:Type}{E:qH α}{ty:Nat}{xs:List α}{v:V}(H:ej F h cs)(i:Nat)(hi:cs[i]? =some (eJ E ty xs v)){k:Nat}(hk:k<xs.length){y:α}{ws:List V}(a:E.rel F h y ws) :
  ∃l o h',gG E.sz v (.I k)=some (.ptr l o)/\gJ E.sz (.ptr l o) (.agg ws) h=some (.val .undef h')/\h.next<=h'.next/\ej F h' (cs.set i (eJ E ty (xs.set k y) v))/\Sn F h F h':=by
 rcases H.row i hi with⟨_,rfl⟩|⟨t,ds,rfl,b,c,f,d,g⟩
 ·simp at hk
 ·obtain ⟨w,s,j,u⟩:=d.get (i:=k) (x:=xs[k]) (hO hk);have m:=E.len a
  obtain ⟨n,q⟩:=H.DV (p:=eJ E ty (xs.set k y) (.slice t 0 xs.length)) (h':=h.put t (.cells ty E.sz true false (ds.take (k*E.sz)++ws++ds.drop (k*E.sz+E.sz)))) hi (mw.put _ rfl b)
   (.inr ⟨t,_,by simp,b,c,gq _ b,qP.fi (h:=h) (λl r=>gK _ b λe=>c (e▸r)) (d.set hk a),UI g (E.one a) _ _⟩) λ_ h=> .inl h
  exact⟨t,k*E.sz,_,by rw[za _ _ _ _ _ _ hk,zO],zah f m j (E.one a),ju _,n,q⟩
end
open Un Dm
abbrev J9:Nat:=57
section
variable{F F':Nat->Prop}{h h':Hp}{cs ds:List Pc}{Q:fo}{u:U}{vv vb vs mf:V}{az:List Int}{lf:Nat}
abbrev Fo(lf:Nat) (u:U) (vv vb vs mf:V) (az:List Int) (ds:List Pc):List Pc:=
 ey lf J9 [.I u.func,.I u.pc,vv,vb,vs,mf]::eJ eV gP u.ef vv::eJ eK fJ u.blocks vb::eJ eZ ev az mf::ds
theorem LN{b:Bool}(H:Q (.int .u64 (Jj b)) h):cP CS p6 [.bool b] h Q:=by
 refine Uq rfl rfl ?_;unfold Ny;cases b
 ·exact iJ (fU (by simp) H)
 ·exact iJ (gj rfl H)
theorem XC{op:Nat}{a b:Int}(g:rO .u64 a)(i:rO .u64 b)(e:op=6\/op=7)(H:Q (.int .u64 (BC op a b)) h):cP CS zh [.I op,.I (vg a),.I (vg b)] h Q:=by
 refine Pb rfl rfl ?_;unfold Ja;have f:∀d:Int,(d=0↔vg b=0)->(d≠0->op=6->qo ((vg a).tdiv d)=BC 6 a b)->(d≠0->op=7->qo ((vg a).tmod d)=BC 7 a b)->rP CS Q [.I op,.I (vg a),.I d] h:=λd h0 j k=>by
  refine LU ?_;unfold Ec;refine fZ ?_;by_cases z:d=0
  ·refine gj z ?_;have z:=h0.1 z;rw[show BC op a b=0 by rcases e with rfl|rfl <;> simp[BC,z]]at H;exact H
  refine fU z (fZ ?_);have hq:en .quo 2 (.I (vg a)) (.I d)=some (.I (mq .i64 ((vg a).tdiv d))):=by
   cases d with
   | ofNat n=>cases n with
     |zero=>exact absurd rfl z
     |succ n=>rfl
   |negSucc n=>rfl
  have l:en .rem 2 (.I (vg a)) (.I d)=some (.I ((vg a).tmod d)):=by
   cases d with
   | ofNat n=>cases n with
     |zero=>exact absurd rfl z
     |succ n=>rfl
   |negSucc n=>rfl
  rcases e with rfl|rfl
  ·refine gj rfl (ed hq (ed (by rw[iH]) ?_));rw[jB,qZ];have:qo (IntKind.i64.wrap ((vg a).tdiv d))=qo ((vg a).tdiv d):=by
    simp only[IntKind.wrap,IntKind.signed,IntKind.bits,wBc,A4,Nat.reduceSub,Int.reducePow,qo];split <;> omega
   rw[this,j z rfl];exact H
  ·refine fU (by omega) (ed l (ed (by rw[iH,jB]) ?_));rw[k z rfl];exact H
 refine ed (gO ..) (ed (a:= .bool (decide (vg a = -9223372036854775808/\vg b = -1))) ?_ (iJ ?_))
 ·simp only[fe,gO,j6];congr 2;rw[Ue,yl,IE,IE,A4]
 simp only[rO]at g i;by_cases c:vg a = -9223372036854775808/\vg b = -1
 ·refine gj (Ml c) (f 1 ⟨λh=>by omega,λh=>by omega⟩ (λ_ _=>?_) λ_ _=>?_)
  ·rw[Int.tdiv_one];simp only[BC,c.2];simp;have:=c.1;unfold vg at this;unfold qo;split at this <;> omega
  ·simp[BC,c.2,qo]
 ·refine fU (by rw[A4];exact c) (f (vg b) Iff.rfl (λz _=>?_) λz _=>?_)
  ·by_cases z1:vg b = -1
   ·simp[BC,z1];unfold qo vg;split <;> omega
   ·simp[BC,z,z1]
  ·by_cases z1:vg b = -1
   ·simp[BC,z1,qo]
   ·simp[BC,z,z1]
theorem zdN{op:Nat}{a b:Int}(d:rO .u64 a)(f:rO .u64 b)(g:3<=op/\op<=14)(H:Q (.int .u64 (BC op a b)) h):cP CS E8 [.I op,.int .u64 a,.int .u64 b] h Q:=by
 refine Vi rfl rfl ?_;unfold Oo;refine ed (by rw[iH,Oj d]) (ed (by rw[iH,Oj f]) ?_);have e0:∀n:Nat,op=n->BC op a b=BC n a b:=λn h=>by rw[h]
 refine fZ ?_;by_cases c:op=3
 ·rw[e0 _ c]at H;exact gj (by omega) (ed (by rw[mQ,jB];rfl) H)
 refine fU (by omega) (fZ ?_);by_cases c:op=4
 ·rw[e0 _ c]at H;exact gj (by omega) (ed (by rw[pI,jB];rfl) H)
 refine fU (by omega) (fZ ?_);by_cases c:op=5
 ·rw[e0 _ c]at H;exact gj (by omega) (ed (by rw[NY,jB];rfl) H)
 refine fU (by omega) ?_;have k:∀q:Bool,(q=true↔op=6\/op=7)->xN CS Q [.I op,.int .u64 a,.int .u64 b,.I (vg a),.I (vg b),.I op,.bool q] h:=λq hq=>by
  refine OV ?_;unfold Hs;refine iJ ?_;by_cases c:op=6\/op=7
  ·exact gj (hq.2 c) (XC d f c H)
  refine fU (λh=>c (hq.1 h)) (fZ ?_);by_cases c:op=8
  ·rw[e0 _ c]at H;refine gj (by omega) (ed (by rw[Rx,jB]) ?_);rw[show BC 8 a b=qo (0-a) by simp[BC]]at H;exact H
  refine fU (by omega) (fZ ?_);by_cases c:op=9
  ·rw[e0 _ c]at H;exact gj (by omega) (RN (LN H))
  refine fU (by omega) (fZ ?_);by_cases c:op=10
  ·rw[e0 _ c]at H;exact gj (by omega) (RN (LN H))
  refine fU (by omega) (fZ ?_);by_cases c:op=11
  ·rw[e0 _ c]at H;refine gj (by omega) (ed (oU ..) ?_);rw[show(a != b)=decide (a≠b) by by_cases e:a=b <;> simp[e]];exact LN H
  refine fU (by omega) (fZ ?_);by_cases c:op=12
  ·rw[e0 _ c]at H;exact gj (by omega) (ed (jT ..) (LN H))
  refine fU (by omega) (fZ ?_);by_cases c:op=13
  ·rw[e0 _ c]at H;exact gj (by omega) (ed (KX ..) (LN H))
  refine fU (by omega) (fZ ?_);obtain rfl:op=14:=by omega
  exact gj rfl (ed (jT ..) (LN H))
 refine ed (gO ..) (iJ ?_);by_cases c:op=6
 ·exact gj (by rw[IE];omega) (k _ (by simp;omega))
 ·exact fU (by rw[IE];omega) (ed (gO ..) (k _ (by simp;omega)))
theorem XZ{op:Nat}{a b:Int}(d:rO .u64 a)(e:rO .u64 b)(c:3<=op/\op<=14)(H:Q (.tuple [.int .u64 (BC op a b),.bool true]) h):cP CS Au [.I op,.int .u64 a,.int .u64 b] h Q:=by
 refine Rk rfl rfl ?_;unfold Km;refine ed (jT ..) (ed (a:= .bool false) ?_ (iJ (fU (by simp) (zdN d e c H))));rw[OZ (by omega)];simp only[fe,oT,pK];rw[OZ (by omega)];rfl
theorem Kk(a:ej F h (Fo lf u vv vb vs mf az ds)){v:Nat}{x:Vl}(f:u.ef[v]? =some x)(H:∀h',Sn F h F h'->ej F h' (Fo lf u vv vb vs mf az ds)->Q (.tuple [.int .u64 (qo x.n),.bool (decide (x.op=2))]) h') :
  cP CS jU [.ptr lf 0,.I v] h Q:=by
 refine Iw rfl rfl ?_;unfold zZ;obtain⟨hv,e⟩:=kj.1 f;obtain⟨l,o,w,g,i,⟨m,c,d⟩,_⟩:=a.ixO 1 rfl hv .i64;rw[e]at c d;subst c;refine ed pn (ed pf (oF (a.ld 0 rfl rfl) (ed g (ed i ?_))));refine gW a rfl rfl (by simp only[mW,eo,d.one];rfl) λj b k=>?_;refine oF (b.ld 0 rfl rfl) (ed (by rw[iH,jB]) (oF (b.ld 0 rfl rfl) (ed (gO ..) ?_)));rw[show((x.op:Int) == 2)=decide (x.op=2) by rw[Ue,IE,A4];omega];exact H j k b.tail
end
open Un Dm
section
variable{F F':Nat->Prop}{h h':Hp}{cs ds:List Pc}{Q:fo}{u:U}{vv vb vs mf:V}{az:List Int}{lf:Nat}
theorem ej.zeO{α:Type}{E:qH α}{ty:Nat}{xs:List α}{v:V}(H:ej F h cs)(i:Nat)(hi:cs[i]? =some (eJ E ty xs v)):ie E (λl=>F l\/MG cs l) h xs v:=(H.row i hi).read.mono λ_ a=>a.imp id λa=>⟨i,_,hi,a⟩
theorem Xf{x:Vl}(e:3<=x.op)(d:x.op<=14):(x.op=8\/x.op=9)/\iP x=[x.a]\/¬(x.op=8\/x.op=9)/\iP x=[x.a,x.b]:=by
 unfold iP;by_cases c:x.op=8\/x.op=9
 ·refine .inl ⟨c,?_⟩;rcases c with c|c <;> simp[c,two,nW]
 ·refine .inr ⟨c,?_⟩;have:two x.op=true:=by unfold two;simp;omega
  rw[if_neg (by omega),if_neg (by omega),if_pos this]
theorem WY(b:AH u){v:Nat}(n:Int):AH (HH u v n):=λw y a=>by
 have a:(u.ef.set v (VX n))[w]? =some y:=a;rw[List.getElem?_set]at a;split at a
 ·split at a
  ·cases a;exact Ol _
  ·cases a
 ·exact b w y a
theorem WZ(g:Good u)(ha:AH u)(o:vs.one=true)(L:ej F h (Fo lf u vv vb vs mf az ds))
  (H:∀F' h' u' c,Sn F h F' h'->ej F' h' (Fo lf u' vv vb vs mf az ds)->Uc AH u u' c (λv=>v<u.ef.length)->Q (.bool c) h') :
  cP CS jD [.ptr lf 0] h Q:=by
 refine Hr rfl rfl ?_;unfold zB;have nv:=g.nv;have P:gv (uC u vv vb vs)=true:=by simp only[uC,eo,L.one 1 rfl,L.one 2 rfl,o];rfl
 refine ed pn (ed pf (ed (ld5 L 0 rfl) ?_));refine L4 (Ln g) L.ze1 P (L.zeO 2 rfl) λs vo seen post s2 H2 G=>?_;have H3:=L.zcH s2 H2;have s3:=s2.back;have R:∀b,b<u.blocks.length->b∈post.reverse:=λb t=>by
  let⟨l,hl⟩:=g.reach b t
  exact wBH.2 (Ra G hl)
 have S:=λb t=>G.pre b (wBH.1 t);have an:post.reverse.length<=u.blocks.length:=by
  have h1:=G.nodup;rw[YE,JY]at h1;rw[List.length_reverse];exact jA _ _ h1 G.pre
 generalize post.reverse=d at*;have nb:=g.nb;refine ed (H3.len 0 rfl) ?_
 obtain ⟨I,hI⟩:∃I,I=λk l h'=>∃F' u' c i,l=[.ptr lf 0,.bool c,vo,.I d.length,.I (i:Nat)]/\i+k=d.length/\Sn F h F' h'/\Uc AH u u' c (λv=>∃m b j,m<i/\d[m]? =some b/\At u v b j)/\
   ej F' h' (eJ eN ev d vo::Fo lf u' vv vb vs mf az ds):=⟨_,rfl⟩
 refine DU I (λk x0 x3 aa ab ac q hi=>?_) (k:=d.length) ?_;rotate_left
 ·rw[hI];exact⟨F,u,false,0,rfl,by omega,s3,(Uc.start g ha).more λ_ v ⟨m,_,_,h,_⟩=>by omega,H3⟩
 rw[hI]at hi;obtain⟨F4,u4,c4,i,⟨⟩,hk,s4,t4,T⟩:=hi;unfold vT;by_cases hi:i<d.length;rotate_left
 ·refine iI ?_;refine H F4 q u4 c4 s4 T.tail (t4.more λ_ v hv=> .inl ?_)
  let⟨b,j,p⟩:=g.FU v hv trivial
  let⟨B,r,_⟩:=id p
  let⟨m,hm⟩:=nT.1 (R b (kj.1 r).1)
  have:=(kj.1 hm).1;exact⟨m,b,j,by omega,hm,p⟩
 refine gy ?_;have t:=hO hi;generalize d[i]=b at*;have ae:=S b (DQ t)
 let⟨l1,o1,p1,p2⟩:=T.MK 0 rfl t .i64
 have r:=hO ae;have ag:u4.blocks[b]? =some u.blocks[b]:=by rw[t4.blocks];exact r
 generalize u.blocks[b]=B at*
 let⟨hbl4,eB⟩:=kj.1 ag
 let⟨l2,o2,w2,q1,q2,⟨bv,bn,bp,ew,iv,_,_⟩,q4⟩:=T.ixO 3 rfl hbl4 .i64
 rw [eB]at ew iv;subst ew;refine ed p1 (ed p2 (ed pn (ed pf (oF (T.ld 1 rfl rfl) (ed q1 (oF (q4 0 _ rfl) (ed iv.len ?_)))))));have ao:=jA _ B.ef (AR g r) λv hv=>by
  let⟨k,hk⟩:=nT.1 hv
  exact g.jW v b k ⟨B,r,hk⟩
 obtain ⟨I1,A⟩:∃I1,I1=λk l h'=>∃F' u' c j,l=[.ptr lf 0,.bool c,vo,.I d.length,.I i,bv,.I B.ef.length,.I (j:Nat)]/\j+k=B.ef.length/\Sn F4 q F' h'/\Uc AH u u' c (λv=>(∃m b j,m<i/\d[m]? =some b/\At u v b j)\/∃m,m<j/\At u v b m)/\
   ej F' h' (eJ eN ev d vo::Fo lf u' vv vb vs mf az ds):=⟨_,rfl⟩
 refine Eh I1 (λk1 x0 x3 aa ab ac ap aq ar h5 U=>?_) (k:=B.ef.length) ?_;rotate_left
 ·rw[A];exact⟨F4,u4,c4,0,rfl,by omega,Sn.refl _ _,t4.more λ_ v hv=> .inl (hv.elim id λ⟨m,h,_⟩=>by omega),T⟩
 rw[A]at U;obtain⟨F5,C,c5,j,⟨⟩,au,s5,t5,H5⟩:=U;unfold wL;have ah:=iv.since s5;by_cases hj:j<B.ef.length;rotate_left
 ·refine iI (fI ⟨k-1,by omega,?_⟩);rw[hI];refine⟨F5,C,c5,i+1,rfl,by omega,s4.trans s5,t5.more λ_ v ⟨m,b',j',h1,s,M⟩=> .inl ?_,H5⟩;by_cases e:m=i
  ·subst e;rw[t]at s;cases s
   let⟨B',q,h5⟩:=id M
   rw[r]at q;cases q;have:=(kj.1 h5).1;exact .inr ⟨j',by omega,M⟩
  ·exact .inl ⟨m,b',j',by omega,s,M⟩
 refine gy ?_;have hv:=hO hj;generalize B.ef[j]=v at*;have p:At u v b j:=⟨B,r,hv⟩
 have D:v<C.ef.length:=by rw[t5.len];exact g.jW v b j p
 let⟨l3,o3,_,p1,p2⟩:=ah.nat hv .i64
 have hx:=hO D
 let⟨l4,o4,w4,z1,z2,⟨wa,ew,ia⟩,_⟩:=H5.ixO 2 rfl D .i64
 generalize C.ef[v]=x at*;subst ew;refine ed p1 (ed p2 (ed pn (ed pf (oF (H5.ld 1 rfl rfl) (ed z1 (ed z2 ?_))))));refine gW H5 rfl rfl (by simp only[mW,eo,ia.one];rfl) λh6 H6 s6=>?_;generalize h5.next=lx at*;refine ed (H6.tK 0 rfl rfl) (KT H6 (ia.since s6) (λ_=>Ix (t5.args v x hx) (by decide)) λF7 h7 uv s7 H7 iu=>?_)
 have E:∀{F' h' u' c'},Sn F5 h5 F' h'->ej F' h' (eJ eN ev d vo::Fo lf u' vv vb vs mf az ds)->Uc AH u u' c' (λv=>(∃m b j,m<i/\d[m]? =some b/\At u v b j)\/∃m,m<j+1/\At u v b m)->
   j8 CS Q (BY I k) (BY I1 k1) [.ptr lf 0,.bool c',vo,.I d.length,.I i,bv,.I B.ef.length,.I j] h':=λ{F' h' u' c'} s' H' t'=>by
  refine Dk ?_;unfold ug;refine fI ⟨k1-1,by omega,?_⟩;rw[A];exact⟨F',u',c',j+1,rfl,by omega,s5.trans s',t',H'⟩
 have more:(c5=false->Unf u v)->Uc AH u C c5 (λv=>(∃m b j,m<i/\d[m]? =some b/\At u v b j)\/∃m,m<j+1/\At u v b m):=λhf=>t5.more λhc w o=>by
  rcases o with o|⟨m,h1,s⟩
  ·exact .inl (.inl o)
  ·by_cases e:m=j
   ·subst e
    let⟨B',M,q⟩:=s
    rw[r]at M;cases M;rw[hv]at q;cases q;exact .inr (hf hc)
   ·exact .inl (.inr ⟨m,by omega,s⟩)
 have ux:c5=false->u.ef[v]? =some x:=λhc=>by rw[<-(t5.same hc).1];exact hx
 have V:ez (.ptr lx (0+0)) h7=some (.I x.op):=H7.ld 0 rfl rfl;refine oF V (ed (jT ..) (ed (a:= .bool (decide (x.op<3\/14<x.op))) ?_ ?_))
 ·simp only[pf,fe,V,oT,pK];congr 2;rw[Ue,RC,A4,A4,A4];omega
 by_cases hop:x.op<3\/14<x.op
 ·rw[Ml hop];refine ed rfl (iJ (gj rfl (E (s6.trans s7) H7.tail (more λhc y n J f=>?_))));rw[ux hc]at J;cases J;have:=f.lo;have:=f.hi;omega
 rw[OZ hop];have W:=Xf (x:=x) (by omega) (by omega);have pA:iP x≠[]:=by rcases W with⟨_,h⟩|⟨_,h⟩ <;> rw[h] <;> simp
 have X:(iP x).length=if x.op=8\/x.op=9 then 1 else 2:=by rcases W with⟨c,h⟩|⟨c,h⟩ <;> rw[h] <;> simp[c]
 refine ed (a:= .bool false) ?_ (iJ (fU (by simp) ?_))
 ·simp only[nr,fe,iu.len,gO];congr 2;rw[Uf,X];split <;> simp
 have ga:∀w∈iP x,∃y,C.ef[w]? =some y:=λw o=>by
  let⟨y,J,_⟩:=t5.GD.use v x hx w o
  exact⟨y,J⟩
 have u0:(iP x)[0]? =some x.a:=by rcases W with⟨_,h⟩|⟨_,h⟩ <;> rw[h] <;> rfl
 let⟨ya,hya⟩:=ga x.a (DQ u0)
 let⟨la,oa,_,a1,a2⟩:=iu.nat u0 .i64
 refine ed a1 (ed a2 ?_);have ai:=H7.perm [2,3,4,5,1,0] 6 (by decide) (by decide) (by simp);have aj:0<(iP x).length/\(iP x).length<=2:=by rw[X];split <;> omega
 obtain⟨z,N⟩:∃z,(iP x)[(iP x).length-1]? =some z:=⟨_,hO (by omega)⟩
 have Y:¬(x.op=8\/x.op=9)->z=x.b:=λc=>by
  rcases W with⟨c',_⟩|⟨_,h⟩
  ·exact(c c').elim
  ·rw[h]at N;simpa using N.symm
 have ak:(x.op=8\/x.op=9)->z=x.a:=λc=>by
  rcases W with⟨_,h⟩|⟨c',_⟩
  ·rw[h]at N;simpa using N.symm
  ·exact(c' c).elim
 let⟨yb,hyb⟩:=ga z (DQ N)
 refine Kk ai hya λh8 s8 H8=>ed rfl (ed rfl (ed (iu.since s8).len (Av (by omega) aj.1 ?_)))
 let⟨lb,ob,_,b1,b2⟩:=(iu.since s8).nat N .i64
 refine ed b1 (ed b2 (Kk H8 hyb λh9 s9 O=>ed rfl (ed rfl (oF (O.ld 5 rfl rfl) ?_))));refine XZ (Dr _) (Dr _) (by omega) (ed rfl (ed rfl (ed (j6 _ _) (ed (j6 _ _) (iJ ?_)))));have O:=(O.perm [5,4,0,1,2,3] 6 (by decide) (by decide) (by simp)).tail;have Z:=((s6.trans s7).trans s8).trans s9;by_cases hk2:ya.op=2/\yb.op=2
 ·have o:qo (vg (BC x.op (qo ya.n) (qo yb.n)))=BC x.op (qo ya.n) (qo yb.n):=by
   have:=QO x.op (qo ya.n) (qo yb.n);simp[rO]at this;unfold qo vg at*;split <;> omega
  have f:Fv C x (vg (BC x.op (qo ya.n) (qo yb.n))):=⟨by omega,by omega,qo ya.n,qo yb.n,⟨ya,hya,hk2.1,rfl⟩,λc=>⟨yb,by rw[<-Y c];exact hyb,hk2.2,rfl⟩,o⟩
  refine gj (by simp[hk2]) (ed pn (ed pf (oF (O.ld 1 rfl rfl) (ed (by rw[iH,Oj (QO _ _ _)]) ?_))));generalize vg (BC x.op (qo ya.n) (qo yb.n))=n at*;refine ed (show _=some (.agg (mW (VX n) .ee)) from rfl) ?_
  let⟨l6,o6,al,r1,r2,_,K,am⟩:=O.stE 2 rfl D (y:=VX n) (ws:=mW (VX n) .ee) ⟨.ee,rfl,.inl ⟨rfl,rfl⟩⟩
  refine ed r1 ?_;rw[show gJ 6 (.ptr l6 o6) _ h9=_ from r2,ei];have K:ej F7 al (eJ eN ev d vo::Fo lf (HH C v n) vv vb vs mf az ds):=K;exact E (Z.trans am) K (t5.step hx f (WY t5.args _) _)
 ·refine fU (by simp;omega) (E Z O (more λhc y n J f=>?_));rw[ux hc]at J;cases J
  let⟨a,b,⟨ya',e1,e2,_⟩,hb',_⟩:=f.kn
  rw[<-(t5.same hc).1,hya]at e1;cases e1;refine hk2 ⟨e2,?_⟩;by_cases c:x.op=8\/x.op=9
  ·rw[ak c,hya]at hyb;cases hyb;exact e2
  ·let⟨yb',e3,e4,_⟩:=hb' c
   rw[Y c,(t5.same hc).1,e3]at hyb;cases hyb;exact e4
end
open Un Dm
def PhM(v:Nat)(l:List Nat)(one:Int)(b:Bool):Prop:=b=true\/(b=false/\one = -1/\∀a∈l,a=v)\/(b=false/\∃r:Nat,one=(r:Int)/\r≠v/\r∈l/\∀a∈l,a=v\/a=r)
def PhO(u:U)(v r:Nat):Prop:=∃x,u.ef[v]? =some x/\x.op=21/\r≠v/\r∈x.args/\∀a∈x.args,a=v\/a=r
def ZB(u:U)(v:Nat):Prop:=∃x n,u.ef[v]? =some x/\x.op=22/\Kw u x.a n/\n≠0
section
variable{F F':Nat->Prop}{h h':Hp}{cs ds:List Pc}{Q:fo}{u:U}{vv vb vs mf:V}{az:List Int}{lf:Nat}
theorem za4(g:Good u)(V:AH u)(W:az.length=u.ef.length)(B:ej F h (Fo lf u vv vb vs mf az ds))
  (H:∀F' h' mO c,Sn F h F' h'->ej F' h' (Fo lf u vv vb vs mf mO ds)->(c=false->mO=az)->(c=true->∃v r,PhO u v r/\mO=az.set v (r:Int))->Q (.bool c) h') :
  cP CS km [.ptr lf 0] h Q:=by
 refine Jz rfl rfl ?_;unfold By;have nv:=g.nv;refine ed pn (ed pf (oF (B.ld 0 rfl rfl) (ed (B.len 1 rfl) ?_)));obtain⟨I,C⟩:∃I,I=λk l h'=>∃i,l=[.ptr lf 0,.bool false,vv,.I u.ef.length,.I (i:Nat)]/\i+k=u.ef.length/\Sn F h F h'/\ej F h' (Fo lf u vv vb vs mf az ds):=⟨_,rfl⟩
 refine GB I (λk X Y D E G J hi=>?_) (k:=u.ef.length) (by rw[C];exact⟨0,rfl,by omega,Sn.refl _ _,B⟩);rw[C]at hi;obtain⟨i,⟨⟩,hk,K,L⟩:=hi;unfold yr;by_cases hi:i<u.ef.length;rotate_left
 ·refine iI (yR ?_);unfold qu;exact H F J az false K L (λ_=>rfl) λh=>nomatch h
 refine gy ?_;have R:=hO hi
 let⟨l4,o4,w4,z1,z2,⟨S,ew,ia⟩,_⟩:=L.ixO 1 rfl hi .i64
 generalize u.ef[i]=x at*;subst ew;refine ed z1 (ed z2 (gW L rfl rfl (by simp only[mW,eo,ia.one];rfl) λZ m o=>?_));generalize J.next=lx at*;have r8:∀{h'},Sn F J F h'->ej F h' (Fo lf u vv vb vs mf az ds)->nR CS Q (BY I k) [.ptr lf 0,.bool false,vv,.I u.ef.length,.I i] h':=λ{h'} s' H'=>by
  refine Gx ?_;unfold yy;refine fI ⟨k-1,by omega,?_⟩;rw[C];exact⟨i+1,rfl,by omega,K.trans s',H'⟩
 refine oF (m.ld 0 rfl rfl) (tI ?_);by_cases M:x.op=21;rotate_left
 ·exact fU (by omega) (r8 o m.tail)
 refine gj (by omega) (oF (m.ld 0 rfl rfl) (ed ia.len ?_));have T:=V i x R;obtain⟨t,n⟩:∃t,t=λk l h'=>∃one e j,l=[.ptr lf 0,.bool false,.I i,.I one,.bool e,vv,.I u.ef.length,.I i,S,.I x.args.length,.I (j:Nat)]/\j+k=x.args.length/\h' = Z/\PhM i (x.args.take j) one e:=⟨_,rfl⟩
 refine Gz t (λU X Y x4 x6 x7 D E G aa ab ac h3 p=>?_) (k:=x.args.length) (by rw[n];exact⟨-1,false,0,rfl,by omega,rfl,.inr (.inl ⟨rfl,rfl,by simp⟩)⟩);rw[n]at p;obtain⟨one,e,j,⟨⟩,ae,rfl,w⟩:=p;unfold yx;have i2:=ia.since o;by_cases hj:j<x.args.length;rotate_left
 ·refine iI (ed (oS ..) ?_);obtain rfl:j=x.args.length:=by omega
  rw[Lp]at w;refine ed (a:= .bool (decide (0<=one)&&!e)) ?_ (iJ ?_)
  ·simp[ zbI]
  rcases w with rfl|⟨rfl,rfl,_⟩|⟨rfl,r,rfl,y,z,A⟩
  ·exact fU (by simp) (r8 o m.tail)
  ·exact fU (by simp) (r8 o m.tail)
  ·refine gj (by simp) (oN (m.ld 1 rfl rfl) ?_);obtain⟨l5,o5,h6,p1,p2,_,N,s6⟩:=m.JZ 4 rfl (k:=i) (by omega) rfl rfl rfl;refine ed p1 ?_;rw[p2,ei];refine yR ?_;unfold qu;have N:=N;exact H F h6 _ true ((K.trans o).trans s6) N.tail (λh=>nomatch h) λ_=>⟨i,r,⟨x,R,M,y,z,A⟩,rfl⟩
 refine gy ?_;have hv:=hO hj;have O:=OX hj;generalize x.args[j]=a at*
 let⟨l6,o6,_,p1,p2⟩:=i2.nat hv .i64
 have s:∀{Xe:Int} {d:Bool},PhM i (x.args.take j++[a]) Xe d->ng CS Q (BY I k) (BY t U) [.ptr lf 0,.bool false,.I i,.I Xe,.bool d,vv,.I u.ef.length,.I i,S,.I x.args.length,.I j] h3:=λ{Xe d} P=>by
  refine E9 ?_;unfold xW;refine fI ⟨U-1,by omega,?_⟩;rw[n];exact⟨Xe,d,j+1,rfl,by omega,rfl,by rw[O];exact P⟩
 refine ed p1 (ed p2 (ed (oU ..) (ed (a:= .bool (decide (a≠i/\(a:Int)≠one))) ?_ (iJ ?_))))
 ·simp only[fe,oU,j6];congr 2;rw[Ue,yl,bne_iff_ne,bne_iff_ne,A4];omega
 by_cases c:a≠i/\(a:Int)≠one
 ·refine gj (Ml c) (ed (a:= .bool (e ||decide (0<=one))) ?_ (s ?_))
  ·simp[ oS]
  rcases w with rfl|⟨rfl,rfl,q⟩|⟨rfl,r,rfl,y,z,A⟩
  ·exact .inl rfl
  ·refine .inr (.inr ⟨rfl,a,rfl,c.1,by simp,λb f=>?_⟩);rcases JT.1 f with f|f
   ·exact .inl (q b f)
   ·exact .inr (by simpa using f)
  ·exact .inl (by simp)
 ·refine fU (by rw[A4];exact c) (s ?_);rcases w with rfl|⟨rfl,rfl,q⟩|⟨rfl,r,rfl,y,z,A⟩
  ·exact .inl rfl
  ·refine .inr (.inl ⟨rfl,rfl,λb f=>?_⟩);rcases JT.1 f with f|f
   ·exact q b f
   ·have:b=a:=by simpa using f
    omega
  ·refine .inr (.inr ⟨rfl,r,rfl,y,Yj _ z,λb f=>?_⟩);rcases JT.1 f with f|f
   ·exact A b f
   ·have:b=a:=by simpa using f
    omega
theorem Xr(g:Good u)(K:az.length=u.ef.length)(p:ej F h (Fo lf u vv vb vs mf az ds))
  (H:∀F' h' mO c,Sn F h F' h'->ej F' h' (Fo lf u vv vb vs mf mO ds)->mO.length=az.length->(∀v,mO[v]? =az[v]?\/(mO[v]? =some (-1)/\ZB u v))->(c=false->mO=az)->(c=true->∃v,v<u.ef.length/\mO[v]? =some (-1)/\ZB u v)->Q (.bool c) h') :
  cP CS jG [.ptr lf 0] h Q:=by
 refine G7 rfl rfl ?_;unfold zp;have nv:=g.nv;refine ed pn (ed pf (oF (p.ld 0 rfl rfl) (ed (p.len 1 rfl) ?_)));obtain⟨I,r⟩:∃I,I=λk l h'=>∃i c mO,l=[.ptr lf 0,.bool c,vv,.I u.ef.length,.I (i:Nat)]/\i+k=u.ef.length/\Sn F h F h'/\ej F h' (Fo lf u vv vb vs mf mO ds)/\mO.length=az.length/\(∀v,mO[v]? =az[v]?\/(mO[v]? =some (-1)/\ZB u v))/\(c=false->mO=az)/\(c=true->∃v,v<u.ef.length/\mO[v]? =some (-1)/\ZB u v):=⟨_,rfl⟩
 refine DH I (λk T U L M N s hi=>?_) (k:=u.ef.length) (by rw[r];exact⟨0,false,az,rfl,by omega,Sn.refl _ _,p,rfl,λ_=> .inl rfl,λ_=>rfl,λh=>nomatch h⟩);rw[r]at hi;obtain⟨i,c,mO,⟨⟩,hk,D,t,j,m,w,z⟩:=hi;unfold vz;by_cases hi:i<u.ef.length;rotate_left
 ·exact iI (H F s mO c D t j m w z)
 refine gy ?_;have E:=hO hi
 let⟨l4,V,W,z1,z2,⟨wa,ew,ia⟩,_⟩:=t.ixO 1 rfl hi .i64
 generalize u.ef[i]=x at*;subst ew;refine ed z1 (ed z2 (gW t rfl rfl (by simp only[mW,eo,ia.one];rfl) λX o A=>?_));generalize s.next=lx at*;have r8:∀{h' c' b},Sn F s F h'->ej F h' (Fo lf u vv vb vs mf b ds)->b.length=az.length->(∀v,b[v]? =az[v]?\/(b[v]? =some (-1)/\ZB u v))->(c' = false->b=az)->(c' = true->∃v,v<u.ef.length/\b[v]? =some (-1)/\ZB u v)->kE CS Q (BY I k) [.ptr lf 0,.bool c',vv,.I u.ef.length,.I i] h':=λ{h' c' b} s' O P R t3 t4=>by
  refine Eb ?_;unfold wG;refine fI ⟨k-1,by omega,?_⟩;rw[r];exact⟨i+1,c',b,rfl,by omega,D.trans s',O,P,R,t3,t4⟩
 refine oF (o.ld 0 rfl rfl) (tI ?_);by_cases d:x.op=22;rotate_left
 ·exact fU (by omega) (r8 A o.tail j m w z)
 let⟨y,hy,_⟩:=g.use i x E x.a (EK.2 (by rw[d];rfl) (by omega))
 have B:=o.perm [1,2,3,4,0] 5 (by decide) (by decide) (by simp);refine gj (by omega) (oF (o.ld 0 rfl rfl) (Kk B hy λY G f=>ed rfl (ed rfl ?_)));have f:=(f.perm [4,0,1,2,3] 5 (by decide) (by decide) (by simp)).tail;refine ed (a:= .bool (decide (y.op=2/\qo y.n≠0))) ?_ (iJ ?_)
 ·simp only[fe,oU,j6];congr 2;rw[Ue,yl,bne_iff_ne,A4,A4]
 by_cases hk2:y.op=2/\qo y.n≠0
 ·refine gj (Ml hk2) (oN (f.ld 0 rfl rfl) ?_);obtain⟨l5,Z,h6,p1,p2,_,C,S⟩:=f.JZ 3 rfl (k:=i) (by omega) rfl rfl rfl;refine ed p1 ?_;rw[p2,ei];have C:=C;have J:ZB u i:=⟨x,qo y.n,E,d,⟨y,hy,hk2.1,rfl⟩,hk2.2⟩
  have hs:(mO.set i (-1))[i]? =some (-1):=Qd (by omega);refine r8 ((A.trans G).trans S) C (by rw[MC];exact j) (λv=>?_) (λh=>nomatch h) λ_=>⟨i,hi,hs,J⟩
  by_cases e:v=i
  ·subst e;exact .inr ⟨hs,J⟩
  ·rw[K6 λq=>e q.symm];exact m v
 ·exact fU (by rw[A4];exact hk2) (r8 (A.trans G) f j m w z)
end
open Un Dm
section
variable{F F':Nat->Prop}{h h':Hp}{cs ds:List Pc}{Q:fo}{u:U}{vv vb vs mf:V}{az:List Int}{lf:Nat}
theorem za1(g:Good u)(K:ej F h (Fo lf u vv vb vs mf az ds))
  (H:∀F' h' u2 c,Sn F h F' h'->ej F' h' (Fo lf u2 vv vb vs mf az ds)->Gm u u2 c (λb=>b<u.blocks.length)->Q (.bool c) h') :
  cP CS ko [.ptr lf 0] h Q:=by
 refine JD rfl rfl ?_;unfold A8;have nb:=g.nb;refine ed pn (ed pf (oF (K.ld 0 rfl rfl) (ed (K.len 2 rfl) ?_)))
 let I:Nat->LP:=λk l h'=>∃F' u2 c i,l=[.ptr lf 0,.bool c,vb,.I u.blocks.length,.I (i:Nat)]/\i+k=u.blocks.length/\Sn F h F' h'/\ej F' h' (Fo lf u2 vv vb vs mf az ds)/\Gm u u2 c (λb=>b<i)/\∀b,i<=b->u2.blocks[b]? =u.blocks[b]?
 refine Gv I (λk x0 x3 aa ab ac L hi=>?_) (k:=u.blocks.length) (⟨F,u,false,0,rfl,by omega,Sn.refl _ _,K,(Gm.start u).more λ_ b o=>by omega,λ_ _=>rfl⟩);obtain⟨f,u1,c,i,⟨⟩,hk,s1,M,t,pA⟩:=hi;unfold yH;by_cases hi:i<u.blocks.length;rotate_left
 ·exact iI (H f L u1 c s1 M (t.more λ_ b o=> .inl (by omega)))
 refine gy ?_;have C:=hO hi;generalize u.blocks[i]=B at*;have r:u1.blocks[i]? =some B:=by rw[pA i (ju _)];exact C
 let⟨hi1,eB⟩:=kj.1 r
 let⟨l4,o4,w4,z1,z2,⟨bv,bn,bp,ew,iv,iN,ip⟩,_⟩:=M.ixO 2 rfl hi1 .i64
 rw [eB]at ew iv iN ip;subst ew;refine ed z1 (ed z2 (gW M rfl rfl (by simp only[lB,eo,iv.one,iN.one,ip.one];rfl) λh2 D E=>?_));generalize L.next=lx at*;have r8:∀{F' h' c' u'},Sn f L F' h'->ej F' h' (Fo lf u' vv vb vs mf az ds)->Gm u u' c' (λb=>b<i+1)->(∀b,i+1<=b->u'.blocks[b]? =u.blocks[b]?)->lP CS Q (BY I k) [.ptr lf 0,.bool c',vb,.I u.blocks.length,.I i] h':=λ{F' h' c' u'} s' H' t' N=>by
  refine Gy ?_;unfold yK;refine fI ⟨k-1,by omega,?_⟩;exact⟨F',u',c',i+1,rfl,by omega,s1.trans s',H',t',N⟩
 have more:(∀n,B.fin=2->¬Kw u B.cond n)->Gm u u1 c (λb=>b<i+1):=λhf=>t.more λ_ b o=>by
  by_cases q:b=i
  ·subst q;exact .inr λA n hA h2=>by
    rw[C]at hA;cases hA;exact hf n h2
  ·exact .inl (by omega)
 refine oF (D.ld 0 rfl rfl) (tI ?_);by_cases hf2:B.fin=2;rotate_left
 ·exact fU (by omega) (r8 E D.tail (more λ_ q=>absurd q hf2) λb o=>pA b (by omega))
 obtain ⟨y,s,hlen⟩:∃y,u.ef[B.cond]? =some y/\B.next.length=2:=by
  rcases g.fin i B C with⟨q,_⟩|⟨_,q,y,s,_⟩|⟨q,_⟩
  ·omega
  ·exact⟨y,s,q⟩
  ·omega
 have P:u1.ef[B.cond]? =some y:=by rw[t.e.ef];exact s
 have R:=D.perm [1,2,3,4,0] 5 (by decide) (by decide) (by simp);refine gj (by omega) (oF (D.ld 0 rfl rfl) (Kk R P λa S d=>ed rfl (ed rfl (Nc (iJ ?_)))));by_cases hk2:y.op=2;rotate_left
 ·refine gj (by simp[hk2]) (r8 (E.trans S) (d.perm [4,0,1,2,3] 5 (by decide) (by decide) (by simp)).tail (more λn _ ⟨y',e1,e2,_⟩=>?_) λb o=>pA b (by omega));rw[s]at e1;cases e1;exact hk2 e2
 have x:=(iN.since E).since S;have n0:=hO (show 0<B.next.length by omega);have n1:=hO (show 1<B.next.length by omega)
 let⟨la,oa,_,a1,a2⟩:=x.nat n0 .i64
 let⟨lb,ob,_,b1,b2⟩:=x.nat n1 .i64
 refine fU (by simp[hk2]) (oF (d.ld 4 rfl rfl) (ed a1 (ed a2 (fZ ?_))));have T:=E.trans S;have z:∀to,(if qo y.n=0 then B.next[1]? else B.next[0]?)=some to->ni CS Q (BY I k) [.ptr lf 0,.I i,.I (to:Nat),vb,.I u.blocks.length,.I i] a:=λto U=>by
  have d:=(d.perm [4,0,1,2,3] 5 (by decide) (by decide) (by simp)).tail;refine EJ ?_;unfold wZ;refine ed pn (ed pf (oF (d.ld 0 rfl rfl) (ed pn (ed pf (oF (d.ld 0 rfl rfl) (ed pn (ed pf (oF (d.ld 0 rfl rfl) ?_))))))));rw[rS,g0];obtain⟨m,s4,V⟩:=d.ZY ev rfl (yd _ _ _) false;have W:(a.new (.cells 3 1 true false (gZ [to]))).get a.next=some (.cells 3 1 true false (gZ [to])):=fh _ _;have m:ej (λl=>f l\/l=a.next) (a.new (.cells 3 1 true false (gZ [to]))) (Fo lf u1 vv vb vs mf az ds):=m;have s4:Sn f a (λl=>f l\/l=a.next) (a.new (.cells 3 1 true false (gZ [to]))):=s4;have V:ie eN (λl=>f l\/l=a.next) (a.new (.cells 3 1 true false (gZ [to]))) [to] (.slice a.next 0 1):=V;generalize a.new (.cells 3 1 true false (gZ [to]))=h4 at*;generalize X:(λl=>f l\/l=a.next)=F4 at*;have Y:F4 a.next:=by rw[<-X];exact .inr rfl
  let ⟨l5,o5,h5,c1,c2,n5,H5,G⟩:=m.stP 2 rfl (j:=1) (u:= .I 1) (y:={B with fin:=1}) hi1 (by decide) rfl λw ⟨v,n,p,e,q⟩=>by
   rw[eB]at e q;subst e;exact⟨v,n,p,rfl,q⟩
  refine ed c1 (ed pf ⟨⟨W,O.kX _ _ _ _ _⟩,m.ld 0 rfl rfl,m.ld 0 rfl rfl,m.ld 0 rfl rfl,?_⟩);rw[show gJ 1 (.ptr l5 (o5+1)) _ h4=_ from c2,ei]
  let ⟨l6,o6,h6,d1,d2,n6,H6,Z⟩:=H5.stP 2 rfl (j:=2) (u:= .I 0) (y:={B with fin:=1,cond:=0}) (by rw[MC];exact hi1) (by decide) rfl λw ⟨v,n,p,e,q⟩=>by
   rw[List.getElem_set_self]at e q;subst e;exact⟨v,n,p,rfl,q⟩
  refine ⟨n5,ed d1 (ed pf ⟨⟨by rw[G.fi _ Y];exact W,O.kX _ _ _ _ _⟩,?_⟩)⟩;rw[show gJ 1 (.ptr l6 (o6+2)) _ h5=_ from d2,ei];have r6:=(V.since G).since Z;obtain⟨l7,o7,h7,g1,g2,n7,J,s7⟩:=H6.stP 2 rfl (j:=3) (y:=UO B to) (by rw[MC,MC];exact hi1) (by decide) rfl λw ⟨v,n,p,e,q1,_,q3⟩=>by
   rw[List.getElem_set_self]at e q1 q3;subst e;exact⟨v,_,p,rfl,q1,r6,q3⟩
  refine⟨n6,ed g1 (ed pf ⟨⟨by rw[Z.fi _ Y,G.fi _ Y];exact W,O.kX _ _ _ _ _⟩,?_⟩)⟩;rw[show gJ 1 (.ptr l7 (o7+3)) _ h6=_ from g2,ei];have J:ej F4 h7 (Fo lf {u1 with blocks:=((u1.blocks.set i {B with fin:=1}).set i {B with fin:=1,cond:=0}).set i (UO B to)} vv vb vs mf az ds):=J;rw[List.set_set,List.set_set]at J;refine⟨n7,r8 ((((T.trans s4).trans G).trans Z).trans s7) J (t.step C r hf2 ⟨y,s,hk2,rfl⟩ U _) λb o=>?_⟩;show(u1.blocks.set i _)[b]? =_;rw[K6 (by omega)];exact pA b (by omega)
 by_cases hz:qo y.n=0
 ·refine gj hz (oF (d.ld 4 rfl rfl) (ed b1 (ed b2 (z _ ?_))));rw[if_pos hz];exact n1
 ·refine fU hz (z _ ?_);rw[if_neg hz];exact n0
end
open Un Dm
abbrev MW:Nat:=102
def CE(u:U):List Int:=(List.range u.ef.length).map λ(i:Nat)=>(i:Int)
abbrev AgX(u:U) (i:Nat) (c:Bool) (u2:U) (az:List Int) (u1:U) (e c2 d f:Bool) (a:List Int):Prop:=
 Uc AH u u1 e (λv=>1<=i/\v<u.ef.length)/\
 (c2=false->a=CE u)/\(c2=true->∃v r,PhO u1 v r/\a=(CE u).set v (r:Int))/\
 az.length=a.length/\(∀v,az[v]? =a[v]?\/(az[v]? =some (-1)/\ZB u1 v))/\(d=false->az=a)/\(d=true->∃v,v<u1.ef.length/\az[v]? =some (-1)/\ZB u1 v)/\
 Gm u1 u2 f (λb=>4<=i/\b<u1.blocks.length)/\c=(f ||(d ||(c2 ||e)))/\
 (i<4->f=false/\u2=u1)/\(i<3->d=false)/\(i<2->c2=false)/\(i<1->e=false/\u1=u)
def Ag(u:U)(i:Nat)(c:Bool)(u2:U)(az:List Int):Prop:=∃(u1:U)(a c2 b d:Bool)(e:List Int),AgX u i c u2 az u1 a c2 b d e
section
variable{F F':Nat->Prop}{h h':Hp}{cs ds:List Pc}{Q:fo}{u:U}{vv vb vs mf:V}{az:List Int}{lf:Nat}
def PW:List V:=[.func jD [] [],.func km [] [],.func jG [] [],.func ko [] []]
theorem ZL(a:ej F h cs)(H:∀h' l,Sn F h F h'->ej F h' (ey l MW PW::cs)->Q (.slice l 0 4) h'):cP CS AE [] h Q:=by
 refine QI rfl rfl ?_;unfold KV;rw[show jK 102 1 4 V.nilFunc [(0,V.func jD [] []),(1,V.func km [] []),(2,V.func jG [] []),(3,V.func ko [] [])]=some (.cells 102 1 true false PW,λl=> .slice l 0 4) from rfl,fE];obtain⟨b,c⟩:=a.zT 102 PW;exact H _ h.next c b
theorem Ag.start(g:Good u)(a:AH u):Ag u 0 false u (CE u):=⟨u,false,false,false,false,CE u,(Uc.start g a).more λ_ v h=>by omega,λ_=>rfl,λh=>(nomatch h),rfl,λ_=> .inl rfl,λ_=>rfl,λh=>(nomatch h),(Gm.start u).more λ_ b h=>by omega,rfl,λ_=>⟨rfl,rfl⟩,λ_=>rfl,λ_=>rfl,λ_=>⟨rfl,rfl⟩⟩
theorem Ek:(CE u).length=u.ef.length:=by simp[CE]
theorem YT(g:Good u)(ha:AH u)(T:vs.one=true)(aa:mf.one=true)(p:ej F h (ey lf J9 [.I u.func,.I u.pc,vv,vb,vs,mf]::eJ eV gP u.ef vv::eJ eK fJ u.blocks vb::ds))
  (H:∀F' h' u2 av az c,Sn F h F' h'->ej F' h' (Fo lf u2 vv vb vs av az ds)->Ag u 4 c u2 az->Q (.bool c) h') :
  cP CS pE [.ptr lf 0] h Q:=by
 refine IN rfl rfl ?_;unfold z9;have y:gv (uC u vv vb vs)=true:=by simp only[uC,eo,p.one 1 rfl,p.one 2 rfl,T];rfl
 refine ed pn (ed pf (ed (ld5 p 0 rfl) (WB y (p.len 1 rfl) g.nv p λh1 av V J=>ed pn (ed pf ?_))));obtain⟨W,e2,_,s,X⟩:=J.st 1 (o:=5) (u:=av) rfl (by simp) (J.one 0 rfl);rw[show gJ 1 (.ptr lf (0+5)) av h1=_ from e2,ei];have s:ej F W (eJ eZ ev (CE u) av::ey lf J9 [.I u.func,.I u.pc,vv,vb,vs,av]::eJ eV gP u.ef vv::eJ eK fJ u.blocks vb::ds):=s;have s:ej F W (Fo lf u vv vb vs av (CE u) ds):=s.perm [1,2,3,0] 4 (by decide) (by decide) (by simp);refine ZL s λh3 lr Y C=>ed rfl ?_;have C:ej F h3 (Fo lf u vv vb vs av (CE u) (ey lr MW PW::ds)):=C.perm [1,2,3,4,0] 5 (by decide) (by decide) (by simp);have z:=(V.trans X).trans Y;obtain⟨I,K⟩:∃I:Nat->LP,I=λk l h'=>∃(F':Nat->Prop) (u2:U) (az:List Int) (c:Bool) (i:Nat),l=[.ptr lf 0,.bool c,.slice lr 0 4,.I (4:Nat),.I i]/\i+k=4/\Sn F h F' h'/\ej F' h' (Fo lf u2 vv vb vs av az (ey lr MW PW::ds))/\Ag u i c u2 az:=⟨_,rfl⟩
 refine FA I (λk x0 x3 ab ac ae w hi=>?_) (k:=4) (by rw[K];exact⟨F,u,CE u,false,0,rfl,rfl,z,C,Ag.start g ha⟩);clear p J s C V X Y z;rw[K]at hi;obtain⟨Z,f,az,c,i,⟨⟩,hk,s4,a,u1,D,c2,c3,c4,E,t,p1,p2,L,g2,x,g4,e1,ec,i4,G,M,i1⟩:=hi;unfold xH;by_cases hi:i<4;rotate_left
 ·refine iI ?_;obtain rfl:i=4:=by omega
  exact H Z w f av az c s4 (a.perm [4,0,1,2,3] 5 (by decide) (by decide) (by simp)).tail ⟨u1,D,c2,c3,c4,E,t,p1,p2,L,g2,x,g4,e1,ec,i4,G,M,i1⟩
 obtain⟨rfl,rfl⟩:=i4 hi
 have fin:∀{F' h' u' mO c' d},Sn Z w F' h'->ej F' h' (Fo lf u' vv vb vs av mO (ey lr MW PW::ds))->Ag u (i+1) d u' mO->(c' ||c)=d->
   oP (nt (.bool c') (some (.bool c))) (λN=>oP (en .add 3 (.I i) (.I 1)) λO=>BY I k [.ptr lf 0,N,.slice lr 0 4,.I (4:Nat),O] h'):=λ{F' h' u' mO c' d} s' H' A e=>by
  refine ed (pK _ _) (fI ⟨k-1,by omega,?_⟩);rw[K,e];exact⟨F',u',mO,d,i+1,rfl,by omega,s4.trans s',H',A⟩
 subst ec;refine gy (ed (za _ _ _ _ _ _ hi) ?_);have lz:∀{az:List Int},az=E->c2=false->az.length=f.ef.length:=λe q=>by rw[e,p1 q,Ek,t.len]
 obtain rfl|rfl|rfl|rfl:i=0\/i=1\/i=2\/i=3:=by omega
 ·refine ed (a.ld 4 (o:=0+0*1) rfl rfl) ?_;show cP CS jD [.ptr lf 0] w _;obtain⟨rfl,rfl⟩:=i1 (by omega);obtain rfl:=M (by omega);obtain rfl:=G (by omega);refine WZ t.GD t.args T a λP R S j m n t5=>fin m n ⟨S,j,false,false,false,E,t5.more λ_ v h=> .inl h.2,p1,λh=>(nomatch h),L,λv=> .inl (by rw[x rfl]),x,λh=>(nomatch h),(Gm.start S).more λ_ b h=>by omega,rfl,λ_=>⟨rfl,rfl⟩,λ_=>rfl,λ_=>rfl,λh=>by omega⟩ (by simp)
 ·refine ed (a.ld 4 (o:=0+1*1) rfl rfl) ?_;show cP CS km [.ptr lf 0] w _;obtain rfl:=M (by omega);obtain rfl:=G (by omega);obtain rfl:=x rfl;refine za4 t.GD t.args (lz rfl rfl) a λP R B j m n t5 t6=>fin m n ⟨f,D,j,false,false,B,t.more λ_ v h=> .inl ⟨by omega,h.2⟩,λh=>(t5 h).trans (p1 rfl),λh=>?_,rfl,λv=> .inl rfl,λ_=>rfl,λh=>(nomatch h),(Gm.start f).more λ_ b h=>by omega,rfl,λ_=>⟨rfl,rfl⟩,λ_=>rfl,λh=>by omega,λh=>by omega⟩ (by simp);rw[<-p1 rfl];exact t6 h
 ·refine ed (a.ld 4 (o:=0+2*1) rfl rfl) ?_;show cP CS jG [.ptr lf 0] w _;obtain rfl:=G (by omega);obtain rfl:=x rfl;have hl:az.length=f.ef.length:=by
   cases c2 with
   |false=>exact lz rfl rfl
   | true=>
     obtain⟨v,r,_,e⟩:=p2 rfl;rw[e,MC,Ek,t.len]
  refine Xr t.GD hl a λP R B j m n t5 t6 t7 t8=>fin m n ⟨f,D,c2,j,false,az,t.more λ_ v h=> .inl ⟨by omega,h.2⟩,p1,p2,t5,t6,t7,t8,(Gm.start f).more λ_ b h=>by omega,rfl,λ_=>⟨rfl,rfl⟩,λh=>by omega,λh=>by omega,λh=>by omega⟩ (by simp)
 ·refine ed (a.ld 4 (o:=0+3*1) rfl rfl) ?_;show cP CS ko [.ptr lf 0] w _;refine za1 t.GD a λP R S j m n t5=>fin m n ⟨f,D,c2,c3,j,E,t.more λ_ v h=> .inl ⟨by omega,h.2⟩,p1,p2,L,g2,x,g4,t5.more λ_ b h=> .inl h.2,rfl,λh=>by omega,λh=>by omega,λh=>by omega,λh=>by omega⟩ (by simp)
end
