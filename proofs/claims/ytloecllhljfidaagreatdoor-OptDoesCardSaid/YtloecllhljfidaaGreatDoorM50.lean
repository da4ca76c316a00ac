/- Parts. -/
import Derived.Test.YtloecllhljfidaaGreatDoorM41
import Derived.Test.YtloecllhljfidaaGreatDoorM49
import Derived.Test.YtloecllhljfidaaGreatDoorM48
set_option maxHeartbeats 4000000
namespace Go.Proofs.YtloecllhljfidaaGreatDoor.Hx
open Un Dm
variable{α:Type}{xs:List α}{E:qf α}{ty:Nat}{b:Int}{op:Nat}{v:V}
theorem Vp(l:List V):gj l=l.all V.one:=by
 induction l with
 |nil=>rfl
 |cons a l b=>rw[eQ,b];rfl
theorem U2{l ws:List V}(h:gj l=true)(a:gj ws=true)(n m:Nat):gj (l.take n++ws++l.drop m)=true:=by
 rw[Vp,Sj]at*;intro x hx;rcases EG.1 hx with hx|hx
 ·rcases EG.1 hx with hx|hx
  ·exact h x (wBt hx)
  ·exact a x hx
 ·exact h x (List.mem_of_mem_drop hx)
section
variable{F F':Nat->Prop}{h h':Hp}{cs:List Pc}
theorem ev.stP(H:ev F h cs)(i:Nat)(hi:cs[i]? =some (fg E ty xs v)){k j:Nat}(hk:k<xs.length)(b:j<E.sz){y:α}{u:V}(c:u.one=true)(d:∀w,E.rel F h xs[k] w->E.rel F h y (w.set j u)) :
  ∃l o h',gB E.sz v (.I k)=some (.ptr l o)/\gq 1 (.ptr l (o+j)) u h=some (.val .undef h')/\h.next<=h'.next/\ev F h' (cs.set i (fg E ty (xs.set k y) v))/\Sn F h F h':=by
 obtain⟨t,h',_,e,f,g,a⟩:=(H.row i hi).store hk b c d;exact⟨t,_,h',e,f,a.next,H.Au hi a g λ_ h=> .inl h⟩
theorem ev.ixO(H:ev F h cs)(i:Nat)(hi:cs[i]? =some (fg E ty xs v)){k:Nat}(hk:k<xs.length)(kd:IntKind) :
  ∃l o w,gB E.sz v (.int kd k)=some (.ptr l o)/\fO E.sz (.ptr l o) h=some (.agg w)/\E.rel F h xs[k] w/\∀j u,w[j]? =some u->fe (.ptr l (o+j)) h=some u:=by
 rcases H.row i hi with⟨_,rfl⟩|⟨t,ws,rfl,m,n,b,e,p⟩
 ·simp at hk
 ·obtain ⟨w,c,f,d⟩:=e.get (i:=k) (x:=xs[k]) (gN hk);refine⟨t,0+k*E.sz,w,yJ _ _ _ _ _ _ hk,?_,d,λj u a=>?_⟩
  ·rw[Bf b,C7,EN f,c];rfl
  ·rw[Rl b,Q2];have g:j<E.sz:=by rw[<-E.len d];exact(jo.1 a).1
   rw[<-c,List.getElem?_take_of_lt g,wBa]at a;rw[C7];exact a
theorem VG(l:List α):l=[]\/∃p z,l=p++[z]:=by
 rcases List.eq_nil_or_concat l with h|⟨p,z,h⟩
 ·exact .inl h
 ·exact .inr ⟨p,z,h.trans List.concat_eq_append⟩
theorem ev.stE(H:ev F h cs)(i:Nat)(hi:cs[i]? =some (fg E ty xs v)){k:Nat}(hk:k<xs.length){y:α}{ws:List V}(a:E.rel F h y ws) :
  ∃l o h',gB E.sz v (.I k)=some (.ptr l o)/\gq E.sz (.ptr l o) (.agg ws) h=some (.val .undef h')/\h.next<=h'.next/\ev F h' (cs.set i (fg E ty (xs.set k y) v))/\Sn F h F h':=by
 rcases H.row i hi with⟨_,rfl⟩|⟨t,ds,rfl,b,c,f,d,g⟩
 ·simp at hk
 ·obtain ⟨w,s,j,u⟩:=d.get (i:=k) (x:=xs[k]) (gN hk);have m:=E.len a
  obtain ⟨n,q⟩:=H.Au (p:=fg E ty (xs.set k y) (.slice t 0 xs.length)) (h':=h.put t (.cells ty E.sz true false (ds.take (k*E.sz)++ws++ds.drop (k*E.sz+E.sz)))) hi (lP.put _ rfl b)
   (.inr ⟨t,_,by simp,b,c,fY _ b,qX.fk (h:=h) (λl r=>gI _ b λe=>c (e▸r)) (d.set hk a),U2 g (E.one a) _ _⟩) λ_ h=> .inl h
  exact⟨t,k*E.sz,_,by rw[yJ _ _ _ _ _ _ hk,C7],zaz f m j (E.one a),iZ _,n,q⟩
end
open Un Dm
abbrev NG:Nat:=86
section
variable{F F':Nat->Prop}{h h':Hp}{cs ds:List Pc}{Q:fq}{u:U}{vv vb vs jC:V}{az:List Int}{lf:Nat}
abbrev Fo(lf:Nat) (u:U) (vv vb vs jC:V) (az:List Int) (ds:List Pc):List Pc:=
 eJ lf NG [.I u.func,.I u.pc,vv,vb,vs,jC]::fg eV gK u.ej vv::fg eK fJ u.blocks vb::fg eZ eR az jC::ds
theorem L2{b:Bool}(H:Q (.int .u64 (IW b)) h):cP CS rG [.bool b] h Q:=by
 refine UM ?_;cases b
 ·exact iB (fP (by simp) H)
 ·exact iB (fW rfl H)
theorem X6{a:Int}(g:sO .u64 a)(hb:sO .u64 b)(e:op=6\/op=7)(H:Q (.int .u64 (Bh op a b)) h):cP CS Ct [.I op,.I (vQ a),.I (vQ b)] h Q:=by
 refine PC ?_;have f:∀d,(d=0↔vQ b=0)->(d≠0->op=6->qq ((vQ a).tdiv d)=Bh 6 a b)->(d≠0->op=7->qq ((vQ a).tmod d)=Bh 7 a b)->ta Q [.I op,.I (vQ a),.I d] h:=λd h0 i j=>by
  refine L4 ?_;unfold DZ;refine fX ?_;by_cases z:d=0
  ·refine fW z ?_;have z:=h0.1 z;rw[show Bh op a b=0 by rcases e with rfl|rfl <;> simp[Bh,z]]at H;exact H
  refine fP z (fX ?_);have hq:ez .quo 2 (.I (vQ a)) (.I d)=some (.I (lO .i64 ((vQ a).tdiv d))):=by
   cases d with
   | ofNat n=>cases n with
     |zero=>exact absurd rfl z
     |succ n=>rfl
   |negSucc n=>rfl
  have k:ez .rem 2 (.I (vQ a)) (.I d)=some (.I ((vQ a).tmod d)):=by
   cases d with
   | ofNat n=>cases n with
     |zero=>exact absurd rfl z
     |succ n=>rfl
   |negSucc n=>rfl
  rcases e with rfl|rfl
  ·refine fW rfl (eh hq (eh (by rw[iz]) ?_));rw[jn,rT];have:qq (IntKind.i64.wrap ((vQ a).tdiv d))=qq ((vQ a).tdiv d):=by
    simp[IntKind.wrap,IntKind.signed,IntKind.bits,wBd,qq];split <;> omega
   rw[this,i z rfl];exact H
  ·refine fP (by omega) (eh k (eh (by rw[iz,jn]) ?_));rw[j z rfl];exact H
 refine eh (gR ..) (eh (a:= .bool (decide (vQ a = -9223372036854775808/\vQ b = -1))) ?_ (iB ?_))
 ·simp only[ft,gR,mb];congr 2;rw[Wr,vU,Bg,Bg,zX]
 simp[sO]at g hb;by_cases c:vQ a = -9223372036854775808/\vQ b = -1
 ·refine fW (JO c) (f 1 ⟨λh=>by omega,λh=>by omega⟩ (λ_ _=>?_) λ_ _=>?_)
  ·rw[Int.tdiv_one];simp only[Bh,c.2];simp;have:=c.1;unfold vQ at this;unfold qq;split at this <;> omega
  ·simp[Bh,c.2,qq]
 ·refine fP (by rw[zX];exact c) (f (vQ b) Iff.rfl (λz _=>?_) λz _=>?_)
  ·by_cases z1:vQ b = -1
   ·simp[Bh,z1];unfold qq vQ;split <;> omega
   ·simp[Bh,z,z1]
  ·by_cases z1:vQ b = -1
   ·simp[Bh,z1,qq]
   ·simp[Bh,z,z1]
theorem zeb{a:Int}(f:sO .u64 a)(hb:sO .u64 b)(g:3<=op/\op<=14)(H:Q (.int .u64 (Bh op a b)) h):cP CS Jv [.I op,.int .u64 a,.int .u64 b] h Q:=by
 refine VM ?_;refine eh (by rw[iz,Om f]) (eh (by rw[iz,Om hb]) ?_);have d:∀n,op=n->Bh op a b=Bh n a b:=λn h=>by rw[h]
 refine fX ?_;by_cases c:op=3
 ·rw[d _ c]at H;exact fW (by omega) (eh (by rw[nT,jn];rfl) H)
 refine fP (by omega) (fX ?_);by_cases c:op=4
 ·rw[d _ c]at H;exact fW (by omega) (eh (by rw[pI,jn];rfl) H)
 refine fP (by omega) (fX ?_);by_cases c:op=5
 ·rw[d _ c]at H;exact fW (by omega) (eh (by rw[OG,jn];rfl) H)
 refine fP (by omega) ?_;have k:∀q,(q=true↔op=6\/op=7)->xW Q [.I op,.int .u64 a,.int .u64 b,.I (vQ a),.I (vQ b),.I op,.bool q] h:=λq hq=>by
  refine OX ?_;unfold Ht;refine iB ?_;by_cases c:op=6\/op=7
  ·exact fW (hq.2 c) (X6 f hb c H)
  refine fP (λh=>c (hq.1 h)) (fX ?_);by_cases c:op=8
  ·rw[d _ c]at H;refine fW (by omega) (eh (by rw[Se,jn]) ?_);rw[show Bh 8 a b=qq (0-a) by simp[Bh]]at H;exact H
  refine fP (by omega) (fX ?_);by_cases c:op=9
  ·rw[d _ c]at H;exact fW (by omega) (RT (L2 H))
  refine fP (by omega) (fX ?_);by_cases c:op=10
  ·rw[d _ c]at H;exact fW (by omega) (RT (L2 H))
  refine fP (by omega) (fX ?_);by_cases c:op=11
  ·rw[d _ c]at H;refine fW (by omega) (eh (vf ..) ?_);rw[show(a != b)=decide (a≠b) by by_cases e:a=b <;> simp[e]];exact L2 H
  refine fP (by omega) (fX ?_);by_cases c:op=12
  ·rw[d _ c]at H;exact fW (by omega) (eh (j7 ..) (L2 H))
  refine fP (by omega) (fX ?_);by_cases c:op=13
  ·rw[d _ c]at H;exact fW (by omega) (eh (KA ..) (L2 H))
  refine fP (by omega) (fX ?_);obtain rfl:op=14:=by omega
  exact fW rfl (eh (j7 ..) (L2 H))
 refine eh (gR ..) (iB ?_);by_cases c:op=6
 ·exact fW (by rw[Bg];omega) (k _ (by simp;omega))
 ·exact fP (by rw[Bg];omega) (eh (gR ..) (k _ (by simp;omega)))
theorem YC{a:Int}(d:sO .u64 a)(hb:sO .u64 b)(c:3<=op/\op<=14)(H:Q (.tuple [.int .u64 (Bh op a b),.bool true]) h):cP CS E8 [.I op,.int .u64 a,.int .u64 b] h Q:=by
 refine RA ?_;refine eh (j7 ..) (eh (a:= .bool false) ?_ (iB (fP (by simp) (zeb d hb c H))));rw[Li (by omega)];simp only[ft,nN];rw[Li (by omega)];rfl
theorem Ln(a:ev F h (Fo lf u vv vb vs jC az ds)){v:Nat}{x:Vl}(hx:u.ej[v]? =some x)(H:∀h',Sn F h F h'->ev F h' (Fo lf u vv vb vs jC az ds)->Q (.tuple [.int .u64 (qq x.n),.bool (decide (x.op=2))]) h') :
  cP CS kI [.ptr lf 0,.I v] h Q:=by
 refine IF ?_
 let⟨hv,e⟩:=jo.1 hx
 let⟨l,o,w,z1,z2,⟨wa,ew,ha⟩,_⟩:=a.ixO 1 rfl hv .i64
 rw[e]at ew ha;subst ew;refine eh pn (eh pf (oF (a.ld 0 rfl rfl) (eh z1 (eh z2 ?_))));refine gQ a rfl rfl (by simp only[mh,eQ,ha.one];rfl) λc b d=>?_;refine oF (b.ld 0 rfl rfl) (eh (by rw[iz,jn]) (oF (b.ld 0 rfl rfl) (eh (gR ..) ?_)));rw[show((x.op:Int) == 2)=decide (x.op=2) by rw[Wr,Bg,zX];omega];exact H c d b.tail
end
open Un Dm
section
variable{F F':Nat->Prop}{h h':Hp}{cs ds:List Pc}{Q:fq}{u:U}{vv vb vs jC:V}{az:List Int}{lf:Nat}
theorem ev.zfM(H:ev F h cs)(i:Nat)(hi:cs[i]? =some (fg E ty xs v)):il E (λl=>F l\/OR cs l) h xs v:=(H.row i hi).read.mono λ_ a=>a.imp id λa=>⟨i,_,hi,a⟩
theorem Yg{x:Vl}(e:3<=x.op)(d:x.op<=14):(x.op=8\/x.op=9)/\gG x=[x.a]\/¬(x.op=8\/x.op=9)/\gG x=[x.a,x.b]:=by
 unfold gG;by_cases c:x.op=8\/x.op=9
 ·refine .inl ⟨c,?_⟩;rcases c with c|c <;> simp[c,two,ml]
 ·refine .inr ⟨c,?_⟩;have:two x.op=true:=by unfold two;simp;omega
  rw[if_neg (by omega),if_neg (by omega),if_pos this]
theorem XC(b:rM u){v:Nat}(n:Int):rM (Hc u v n):=λw y a=>by
 have a:(u.ej.set v (W1 n))[w]? =some y:=a;rw[List.getElem?_set]at a;split at a
 ·split at a
  ·cases a;exact Mr _
  ·cases a
 ·exact b w y a
theorem Xy(g:Good u)(ha:rM u)(o:vs.one=true)(L:ev F h (Fo lf u vv vb vs jC az ds))
  (H:∀F' h' u' c,Sn F h F' h'->ev F' h' (Fo lf u' vv vb vs jC az ds)->UD rM u u' c (λv=>v<u.ej.length)->Q (.bool c) h') :
  cP CS jT [.ptr lf 0] h Q:=by
 refine G3 ?_;have nv:=g.nv;have P:gj (uC u vv vb vs)=true:=by simp only[uC,eQ,L.one 1 rfl,L.one 2 rfl,o];rfl
 refine eh pn (eh pf (eh (ld5 L 0 rfl) ?_));refine Mb (L5 g) L.zeN P (L.zfM 2 rfl) λs t seen post s2 H2 G=>?_;have H3:=L.zcW s2 H2;have s3:=s2.back;have R:∀b,b<u.blocks.length->b∈post.reverse:=λb hb=>by
  let⟨l,hl⟩:=g.reach b hb
  exact wBG.2 (O4 G hl)
 have S:=λb hb=>G.pre b (wBG.1 hb);have am:post.reverse.length<=u.blocks.length:=by
  have h1:=G.nodup;rw[wBq,Lg]at h1;rw[List.length_reverse];exact iP _ _ h1 G.pre
 generalize post.reverse=d at*;have nb:=g.nb;refine eh (H3.len 0 rfl) ?_
 obtain ⟨I,hI⟩:∃I,I=λk l h'=>∃F' u' c i,l=[.ptr lf 0,.bool c,t,.I d.length,.I (i:Nat)]/\i+k=d.length/\Sn F h F' h'/\UD rM u u' c (λv=>∃m b j,m<i/\d[m]? =some b/\At u v b j)/\
   ev F' h' (fg eN eR d t::Fo lf u' vv vb vs jC az ds):=⟨_,rfl⟩
 refine Dk I (λk x0 x3 aa ab ac q hi=>?_) (k:=d.length) ?_;rotate_left
 ·rw[hI];exact⟨F,u,false,0,rfl,by omega,s3,(UD.start g ha).more λ_ v ⟨m,_,_,h,_⟩=>by omega,H3⟩
 rw[hI]at hi;obtain⟨F4,u4,c4,i,⟨⟩,hk,s4,t4,T⟩:=hi;unfold wk;by_cases hi:i<d.length;rotate_left
 ·refine hY ?_;refine H F4 q u4 c4 s4 T.tail (t4.more λ_ v hv=> .inl ?_)
  let⟨b,j,p⟩:=g.B6 v hv trivial
  let⟨B,r,_⟩:=id p
  let⟨m,hm⟩:=mn.1 (R b (jo.1 r).1)
  have:=(jo.1 hm).1;exact⟨m,b,j,by omega,hm,p⟩
 refine gy ?_;have hb:=gN hi;generalize d[i]=b at*;have ad:=S b (zD hb)
 let⟨l1,o1,p1,p2⟩:=T.L6 0 rfl hb .i64
 have r:=gN ad;have ae:u4.blocks[b]? =some u.blocks[b]:=by rw[t4.blocks];exact r
 generalize u.blocks[b]=B at*
 let⟨hbl4,eB⟩:=jo.1 ae
 let⟨l2,o2,w2,q1,q2,⟨bv,bn,bp,ew,iv,_,_⟩,q4⟩:=T.ixO 3 rfl hbl4 .i64
 rw [eB]at ew iv;subst ew;refine eh p1 (eh p2 (eh pn (eh pf (oF (T.ld 1 rfl rfl) (eh q1 (oF (q4 0 _ rfl) (eh iv.len ?_)))))));have an:=iP _ B.ej (wM g r) λv hv=>by
  let⟨k,hk⟩:=mn.1 hv
  exact g.iM v b k ⟨B,r,hk⟩
 obtain ⟨I1,A⟩:∃I1,I1=λk l h'=>∃F' u' c j,l=[.ptr lf 0,.bool c,t,.I d.length,.I i,bv,.I B.ej.length,.I (j:Nat)]/\j+k=B.ej.length/\Sn F4 q F' h'/\UD rM u u' c (λv=>(∃m b j,m<i/\d[m]? =some b/\At u v b j)\/∃m,m<j/\At u v b m)/\
   ev F' h' (fg eN eR d t::Fo lf u' vv vb vs jC az ds):=⟨_,rfl⟩
 refine DT I1 (λk1 x0 x3 aa ab ac ao ap aq h5 U=>?_) (k:=B.ej.length) ?_;rotate_left
 ·rw[A];exact⟨F4,u4,c4,0,rfl,by omega,Sn.refl _ _,t4.more λ_ v hv=> .inl (hv.elim id λ⟨m,h,_⟩=>by omega),T⟩
 rw[A]at U;obtain⟨F5,C,c5,j,⟨⟩,ar,s5,t5,H5⟩:=U;unfold wi;have ag:=iv.since s5;by_cases hj:j<B.ej.length;rotate_left
 ·refine hY (fF ⟨k-1,by omega,?_⟩);rw[hI];refine⟨F5,C,c5,i+1,rfl,by omega,s4.trans s5,t5.more λ_ v ⟨m,b',j',h1,s,M⟩=> .inl ?_,H5⟩;by_cases e:m=i
  ·subst e;rw[hb]at s;cases s
   let⟨B',q,h5⟩:=id M
   rw[r]at q;cases q;have:=(jo.1 h5).1;exact .inr ⟨j',by omega,M⟩
  ·exact .inl ⟨m,b',j',by omega,s,M⟩
 refine gy ?_;have hv:=gN hj;generalize B.ej[j]=v at*;have p:At u v b j:=⟨B,r,hv⟩
 have D:v<C.ej.length:=by rw[t5.len];exact g.iM v b j p
 let⟨l3,o3,_,p1,p2⟩:=ag.nat hv .i64
 have hx:=gN D
 let⟨l4,o4,w4,z1,z2,⟨wa,ew,ia⟩,_⟩:=H5.ixO 2 rfl D .i64
 generalize C.ej[v]=x at*;subst ew;refine eh p1 (eh p2 (eh pn (eh pf (oF (H5.ld 1 rfl rfl) (eh z1 (eh z2 ?_))))));refine gQ H5 rfl rfl (by simp only[mh,eQ,ia.one];rfl) λh6 H6 s6=>?_;generalize h5.next=lx at*;refine eh (H6.mY 0 rfl rfl) (KV H6 (ia.since s6) (λ_=>Gq (t5.args v x hx) (by decide)) λF7 h7 uv s7 H7 iu=>?_)
 have E:∀{F' h' u' c'},Sn F5 h5 F' h'->ev F' h' (fg eN eR d t::Fo lf u' vv vb vs jC az ds)->UD rM u u' c' (λv=>(∃m b j,m<i/\d[m]? =some b/\At u v b j)\/∃m,m<j+1/\At u v b m)->
   jG Q (Es I k) (Es I1 k1) [.ptr lf 0,.bool c',t,.I d.length,.I i,bv,.I B.ej.length,.I j] h':=λ{F' h' u' c'} s' H' t'=>by
  refine CE ?_;unfold vE;refine fF ⟨k1-1,by omega,?_⟩;rw[A];exact⟨F',u',c',j+1,rfl,by omega,s5.trans s',t',H'⟩
 have more:(c5=false->Unf u v)->UD rM u C c5 (λv=>(∃m b j,m<i/\d[m]? =some b/\At u v b j)\/∃m,m<j+1/\At u v b m):=λhf=>t5.more λhc w o=>by
  rcases o with o|⟨m,h1,s⟩
  ·exact .inl (.inl o)
  ·by_cases e:m=j
   ·subst e
    let⟨B',M,q⟩:=s
    rw[r]at M;cases M;rw[hv]at q;cases q;exact .inr (hf hc)
   ·exact .inl (.inr ⟨m,by omega,s⟩)
 have ux:c5=false->u.ej[v]? =some x:=λhc=>by rw[<-(t5.same hc).1];exact hx
 have V:fe (.ptr lx (0+0)) h7=some (.I x.op):=H7.ld 0 rfl rfl;refine oF V (eh (j7 ..) (eh (a:= .bool (decide (x.op<3\/14<x.op))) ?_ ?_))
 ·simp only[pf,ft,V,nN,uN];congr 2;rw[Wr,OK,zX,zX,zX];omega
 by_cases hop:x.op<3\/14<x.op
 ·rw[JO hop];refine eh rfl (iB (fW rfl (E (s6.trans s7) H7.tail (more λhc y n J f=>?_))));rw[ux hc]at J;cases J;have:=f.lo;have:=f.hi;omega
 rw[Li hop];have W:=Yg (x:=x) (by omega) (by omega);have pK:gG x≠[]:=by rcases W with⟨_,h⟩|⟨_,h⟩ <;> rw[h] <;> simp
 have X:(gG x).length=if x.op=8\/x.op=9 then 1 else 2:=by rcases W with⟨c,h⟩|⟨c,h⟩ <;> rw[h] <;> simp[c]
 refine eh (a:= .bool false) ?_ (iB (fP (by simp) ?_))
 ·simp only[mK,ft,iu.len,gR];congr 2;rw[PG,X];split <;> simp
 have ga:∀w∈gG x,∃y,C.ej[w]? =some y:=λw o=>by
  let⟨y,J,_⟩:=t5.zz.use v x hx w o
  exact⟨y,J⟩
 have u0:(gG x)[0]? =some x.a:=by rcases W with⟨_,h⟩|⟨_,h⟩ <;> rw[h] <;> rfl
 let⟨ya,hya⟩:=ga x.a (zD u0)
 let⟨la,oa,_,a1,a2⟩:=iu.nat u0 .i64
 refine eh a1 (eh a2 ?_);have ah:=H7.perm [2,3,4,5,1,0] 6 (by decide) (by decide) (by simp);have ai:0<(gG x).length/\(gG x).length<=2:=by rw[X];split <;> omega
 obtain⟨z,N⟩:∃z,(gG x)[(gG x).length-1]? =some z:=⟨_,gN (by omega)⟩
 have Y:¬(x.op=8\/x.op=9)->z=x.b:=λc=>by
  rcases W with⟨c',_⟩|⟨_,h⟩
  ·exact(c c').elim
  ·rw[h]at N;simpa using N.symm
 have aj:(x.op=8\/x.op=9)->z=x.a:=λc=>by
  rcases W with⟨_,h⟩|⟨c',_⟩
  ·rw[h]at N;simpa using N.symm
  ·exact(c' c).elim
 let⟨yb,hyb⟩:=ga z (zD N)
 refine Ln ah hya λh8 s8 H8=>eh rfl (eh rfl (eh (iu.since s8).len (sR (by omega) ai.1 ?_)))
 let⟨lb,ob,_,b1,b2⟩:=(iu.since s8).nat N .i64
 refine eh b1 (eh b2 (Ln H8 hyb λh9 s9 O=>eh rfl (eh rfl (oF (O.ld 5 rfl rfl) ?_))));refine YC (Cw _) (Cw _) (by omega) (eh rfl (eh rfl (eh (mb _ _) (eh (mb _ _) (iB ?_)))));have O:=(O.perm [5,4,0,1,2,3] 6 (by decide) (by decide) (by simp)).tail;have Z:=((s6.trans s7).trans s8).trans s9;by_cases hk2:ya.op=2/\yb.op=2
 ·have o:qq (vQ (Bh x.op (qq ya.n) (qq yb.n)))=Bh x.op (qq ya.n) (qq yb.n):=by
   have:=QW x.op (qq ya.n) (qq yb.n);simp[sO]at this;unfold qq vQ at*;split <;> omega
  have f:Fv C x (vQ (Bh x.op (qq ya.n) (qq yb.n))):=⟨by omega,by omega,qq ya.n,qq yb.n,⟨ya,hya,hk2.1,rfl⟩,λc=>⟨yb,by rw[<-Y c];exact hyb,hk2.2,rfl⟩,o⟩
  refine fW (by simp[hk2]) (eh pn (eh pf (oF (O.ld 1 rfl rfl) (eh (by rw[iz,Om (QW _ _ _)]) ?_))));generalize vQ (Bh x.op (qq ya.n) (qq yb.n))=n at*;refine eh (show _=some (.agg (mh (W1 n) .ei)) from rfl) ?_
  let⟨l6,o6,ak,r1,r2,_,K,al⟩:=O.stE 2 rfl D (y:=W1 n) (ws:=mh (W1 n) .ei) ⟨.ei,rfl,.inl ⟨rfl,rfl⟩⟩
  refine eh r1 ?_;rw[show gq 6 (.ptr l6 o6) _ h9=_ from r2,en];have K:ev F7 ak (fg eN eR d t::Fo lf (Hc C v n) vv vb vs jC az ds):=K;exact E (Z.trans al) K (t5.step hx f (XC t5.args _) _)
 ·refine fP (by simp;omega) (E Z O (more λhc y n J f=>?_));rw[ux hc]at J;cases J
  let⟨a,b,⟨ya',e1,e2,_⟩,hb',_⟩:=f.kn
  rw[<-(t5.same hc).1,hya]at e1;cases e1;refine hk2 ⟨e2,?_⟩;by_cases c:x.op=8\/x.op=9
  ·rw[aj c,hya]at hyb;cases hyb;exact e2
  ·let⟨yb',e3,e4,_⟩:=hb' c
   rw[Y c,(t5.same hc).1,e3]at hyb;cases hyb;exact e4
end
open Un Dm
def PhM(v:Nat)(l:List Nat)(one:Int)(b:Bool):Prop:=b=true\/(b=false/\one = -1/\∀a∈l,a=v)\/(b=false/\∃r:Nat,one=(r:Int)/\r≠v/\r∈l/\∀a∈l,a=v\/a=r)
def PhO(u:U)(v r:Nat):Prop:=∃x,u.ej[v]? =some x/\x.op=21/\r≠v/\r∈x.args/\∀a∈x.args,a=v\/a=r
def Z3(u:U)(v:Nat):Prop:=∃x n,u.ej[v]? =some x/\x.op=22/\Kw u x.a n/\n≠0
section
variable{F F':Nat->Prop}{h h':Hp}{cs ds:List Pc}{Q:fq}{u:U}{vv vb vs jC:V}{az:List Int}{lf:Nat}
theorem zci(g:Good u)(U:rM u)(V:az.length=u.ej.length)(A:ev F h (Fo lf u vv vb vs jC az ds))
  (H:∀F' h' jD c,Sn F h F' h'->ev F' h' (Fo lf u vv vb vs jC jD ds)->(c=false->jD=az)->(c=true->∃v r,PhO u v r/\jD=az.set v (r:Int))->Q (.bool c) h') :
  cP CS kZ [.ptr lf 0] h Q:=by
 refine JY ?_;have nv:=g.nv;refine eh pn (eh pf (oF (A.ld 0 rfl rfl) (eh (A.len 1 rfl) ?_)));obtain⟨I,B⟩:∃I,I=λk l h'=>∃i,l=[.ptr lf 0,.bool false,vv,.I u.ej.length,.I (i:Nat)]/\i+k=u.ej.length/\Sn F h F h'/\ev F h' (Fo lf u vv vb vs jC az ds):=⟨_,rfl⟩
 refine Gm I (λk W X C D E G hi=>?_) (k:=u.ej.length) (by rw[B];exact⟨0,rfl,by omega,Sn.refl _ _,A⟩);rw[B]at hi;obtain⟨i,⟨⟩,hk,J,K⟩:=hi;unfold yt;by_cases hi:i<u.ej.length;rotate_left
 ·refine hY (ym ?_);unfold qx;exact H F G az false J K (λ_=>rfl) λh=>nomatch h
 refine gy ?_;have hx:=gN hi
 let⟨l4,o4,w4,z1,z2,⟨R,ew,ia⟩,_⟩:=K.ixO 1 rfl hi .i64
 generalize u.ej[i]=x at*;subst ew;refine eh z1 (eh z2 (gQ K rfl rfl (by simp only[mh,eQ,ia.one];rfl) λY f n=>?_));generalize G.next=lx at*;have L:∀{h'},Sn F G F h'->ev F h' (Fo lf u vv vb vs jC az ds)->mX Q (Es I k) [.ptr lf 0,.bool false,vv,.I u.ej.length,.I i] h':=λ{h'} s' Z=>by
  refine Gy ?_;unfold yk;refine fF ⟨k-1,by omega,?_⟩;rw[B];exact⟨i+1,rfl,by omega,J.trans s',Z⟩
 refine oF (f.ld 0 rfl rfl) (yq ?_);by_cases M:x.op=21;rotate_left
 ·exact fP (by omega) (L n f.tail)
 refine fW (by omega) (oF (f.ld 0 rfl rfl) (eh ia.len ?_));have S:=U i x hx;obtain⟨s,m⟩:∃s,s=λk l h'=>∃one e j,l=[.ptr lf 0,.bool false,.I i,.I one,.bool e,vv,.I u.ej.length,.I i,R,.I x.args.length,.I (j:Nat)]/\j+k=x.args.length/\h' = Y/\PhM i (x.args.take j) one e:=⟨_,rfl⟩
 refine Gx s (λT W X x4 x6 x7 C D E aa ab ac h3 o=>?_) (k:=x.args.length) (by rw[m];exact⟨-1,false,0,rfl,by omega,rfl,.inr (.inl ⟨rfl,rfl,by simp⟩)⟩);rw[m]at o;obtain⟨one,e,j,⟨⟩,ad,rfl,t⟩:=o;unfold yy;have i2:=ia.since n;by_cases hj:j<x.args.length;rotate_left
 ·refine hY (eh (nW ..) ?_);obtain rfl:j=x.args.length:=by omega
  rw[I2]at t;refine eh (a:= .bool (decide (0<=one)&&!e)) ?_ (iB ?_)
  ·simp[ zcf]
  rcases t with rfl|⟨rfl,rfl,_⟩|⟨rfl,r,rfl,w,y,z⟩
  ·exact fP (by simp) (L n f.tail)
  ·exact fP (by simp) (L n f.tail)
  ·refine fW (by simp) (oN (f.ld 1 rfl rfl) ?_);obtain⟨l5,o5,h6,p1,p2,_,N,s6⟩:=f.IH 4 rfl (k:=i) (by omega) rfl rfl rfl;refine eh p1 ?_;rw[p2,en];refine ym ?_;unfold qx;have N:=N;exact H F h6 _ true ((J.trans n).trans s6) N.tail (λh=>nomatch h) λ_=>⟨i,r,⟨x,hx,M,w,y,z⟩,rfl⟩
 refine gy ?_;have hv:=gN hj;have O:=M4 hj;generalize x.args[j]=a at*
 let⟨l6,o6,_,p1,p2⟩:=i2.nat hv .i64
 have p:∀{XP:Int} {d:Bool},PhM i (x.args.take j++[a]) XP d->mF Q (Es I k) (Es s T) [.ptr lf 0,.bool false,.I i,.I XP,.bool d,vv,.I u.ej.length,.I i,R,.I x.args.length,.I j] h3:=λ{XP d} P=>by
  refine Fi ?_;unfold xK;refine fF ⟨T-1,by omega,?_⟩;rw[m];exact⟨XP,d,j+1,rfl,by omega,rfl,by rw[O];exact P⟩
 refine eh p1 (eh p2 (eh (vf ..) (eh (a:= .bool (decide (a≠i/\(a:Int)≠one))) ?_ (iB ?_))))
 ·simp only[ft,vf,mb];congr 2;rw[Wr,vU,wB2,wB2,zX];omega
 by_cases c:a≠i/\(a:Int)≠one
 ·refine fW (JO c) (eh (a:= .bool (e ||decide (0<=one))) ?_ (p ?_))
  ·simp[ nW]
  rcases t with rfl|⟨rfl,rfl,q⟩|⟨rfl,r,rfl,w,y,z⟩
  ·exact .inl rfl
  ·refine .inr (.inr ⟨rfl,a,rfl,c.1,by simp,λb hb=>?_⟩);rcases EG.1 hb with hb|hb
   ·exact .inl (q b hb)
   ·exact .inr (by simpa using hb)
  ·exact .inl (by simp)
 ·refine fP (by rw[zX];exact c) (p ?_);rcases t with rfl|⟨rfl,rfl,q⟩|⟨rfl,r,rfl,w,y,z⟩
  ·exact .inl rfl
  ·refine .inr (.inl ⟨rfl,rfl,λb hb=>?_⟩);rcases EG.1 hb with hb|hb
   ·exact q b hb
   ·have:b=a:=by simpa using hb
    omega
  ·refine .inr (.inr ⟨rfl,r,rfl,w,Ti _ y,λb hb=>?_⟩);rcases EG.1 hb with hb|hb
   ·exact z b hb
   ·have:b=a:=by simpa using hb
    omega
theorem Xr(g:Good u)(K:az.length=u.ej.length)(p:ev F h (Fo lf u vv vb vs jC az ds))
  (H:∀F' h' jD c,Sn F h F' h'->ev F' h' (Fo lf u vv vb vs jC jD ds)->jD.length=az.length->(∀v,jD[v]? =az[v]?\/(jD[v]? =some (-1)/\Z3 u v))->(c=false->jD=az)->(c=true->∃v,v<u.ej.length/\jD[v]? =some (-1)/\Z3 u v)->Q (.bool c) h') :
  cP CS jS [.ptr lf 0] h Q:=by
 refine Hw ?_;have nv:=g.nv;refine eh pn (eh pf (oF (p.ld 0 rfl rfl) (eh (p.len 1 rfl) ?_)));obtain⟨I,r⟩:∃I,I=λk l h'=>∃i c jD,l=[.ptr lf 0,.bool c,vv,.I u.ej.length,.I (i:Nat)]/\i+k=u.ej.length/\Sn F h F h'/\ev F h' (Fo lf u vv vb vs jC jD ds)/\jD.length=az.length/\(∀v,jD[v]? =az[v]?\/(jD[v]? =some (-1)/\Z3 u v))/\(c=false->jD=az)/\(c=true->∃v,v<u.ej.length/\jD[v]? =some (-1)/\Z3 u v):=⟨_,rfl⟩
 refine DI I (λk U V L M N s hi=>?_) (k:=u.ej.length) (by rw[r];exact⟨0,false,az,rfl,by omega,Sn.refl _ _,p,rfl,λ_=> .inl rfl,λ_=>rfl,λh=>nomatch h⟩);rw[r]at hi;obtain⟨i,c,jD,⟨⟩,hk,E,t,j,m,w,z⟩:=hi;unfold wW;by_cases hi:i<u.ej.length;rotate_left
 ·exact hY (H F s jD c E t j m w z)
 refine gy ?_;have hx:=gN hi
 let⟨l4,W,X,z1,z2,⟨wa,ew,ia⟩,_⟩:=t.ixO 1 rfl hi .i64
 generalize u.ej[i]=x at*;subst ew;refine eh z1 (eh z2 (gQ t rfl rfl (by simp only[mh,eQ,ia.one];rfl) λY o A=>?_));generalize s.next=lx at*;have B:∀{h' c' b},Sn F s F h'->ev F h' (Fo lf u vv vb vs jC b ds)->b.length=az.length->(∀v,b[v]? =az[v]?\/(b[v]? =some (-1)/\Z3 u v))->(c' = false->b=az)->(c' = true->∃v,v<u.ej.length/\b[v]? =some (-1)/\Z3 u v)->jX Q (Es I k) [.ptr lf 0,.bool c',vv,.I u.ej.length,.I i] h':=λ{h' c' b} s' O P R S t4=>by
  refine Ee ?_;unfold wZ;refine fF ⟨k-1,by omega,?_⟩;rw[r];exact⟨i+1,c',b,rfl,by omega,E.trans s',O,P,R,S,t4⟩
 refine oF (o.ld 0 rfl rfl) (yq ?_);by_cases d:x.op=22;rotate_left
 ·exact fP (by omega) (B A o.tail j m w z)
 let⟨y,hy,_⟩:=g.use i x hx x.a (yV.2 (by rw[d];rfl) (by omega))
 have C:=o.perm [1,2,3,4,0] 5 (by decide) (by decide) (by simp);refine fW (by omega) (oF (o.ld 0 rfl rfl) (Ln C hy λZ G f=>eh rfl (eh rfl ?_)));have f:=(f.perm [4,0,1,2,3] 5 (by decide) (by decide) (by simp)).tail;refine eh (a:= .bool (decide (y.op=2/\qq y.n≠0))) ?_ (iB ?_)
 ·simp only[ft,vf,mb];congr 2;rw[Wr,vU,wB2,zX,zX]
 by_cases hk2:y.op=2/\qq y.n≠0
 ·refine fW (JO hk2) (oN (f.ld 0 rfl rfl) ?_);obtain⟨l5,o5,h6,p1,p2,_,D,T⟩:=f.IH 3 rfl (k:=i) (by omega) rfl rfl rfl;refine eh p1 ?_;rw[p2,en];have D:=D;have J:Z3 u i:=⟨x,qq y.n,hx,d,⟨y,hy,hk2.1,rfl⟩,hk2.2⟩
  have hs:(jD.set i (-1))[i]? =some (-1):=MR (by omega);refine B ((A.trans G).trans T) D (by rw[Lj];exact j) (λv=>?_) (λh=>nomatch h) λ_=>⟨i,hi,hs,J⟩
  by_cases e:v=i
  ·subst e;exact .inr ⟨hs,J⟩
  ·rw[I9 λq=>e q.symm];exact m v
 ·exact fP (by rw[zX];exact hk2) (B (A.trans G) f j m w z)
end
open Un Dm
section
variable{F F':Nat->Prop}{h h':Hp}{cs ds:List Pc}{Q:fq}{u:U}{vv vb vs jC:V}{az:List Int}{lf:Nat}
theorem zbU(g:Good u)(J:ev F h (Fo lf u vv vb vs jC az ds))
  (H:∀F' h' u2 c,Sn F h F' h'->ev F' h' (Fo lf u2 vv vb vs jC az ds)->Gb u u2 c (λb=>b<u.blocks.length)->Q (.bool c) h') :
  cP CS kY [.ptr lf 0] h Q:=by
 refine JI ?_;have nb:=g.nb;refine eh pn (eh pf (oF (J.ld 0 rfl rfl) (eh (J.len 2 rfl) ?_)))
 let I:Nat->LP:=λk l h'=>∃F' u2 c i,l=[.ptr lf 0,.bool c,vb,.I u.blocks.length,.I (i:Nat)]/\i+k=u.blocks.length/\Sn F h F' h'/\ev F' h' (Fo lf u2 vv vb vs jC az ds)/\Gb u u2 c (λb=>b<i)/\∀b,i<=b->u2.blocks[b]? =u.blocks[b]?
 refine Gz I (λk x0 x3 aa ab ac K hi=>?_) (k:=u.blocks.length) (⟨F,u,false,0,rfl,by omega,Sn.refl _ _,J,(Gb.start u).more λ_ b hb=>by omega,λ_ _=>rfl⟩);obtain⟨f,u1,c,i,⟨⟩,hk,s1,L,t,pK⟩:=hi;unfold yw;by_cases hi:i<u.blocks.length;rotate_left
 ·exact hY (H f K u1 c s1 L (t.more λ_ b hb=> .inl (by omega)))
 refine gy ?_;have z:=gN hi;generalize u.blocks[i]=B at*;have o:u1.blocks[i]? =some B:=by rw[pK i (iZ _)];exact z
 let⟨hi1,eB⟩:=jo.1 o
 let⟨l4,o4,w4,z1,z2,⟨bv,bn,bp,ew,iv,iN,ip⟩,_⟩:=L.ixO 2 rfl hi1 .i64
 rw [eB]at ew iv iN ip;subst ew;refine eh z1 (eh z2 (gQ L rfl rfl (by simp only[ku,eQ,iv.one,iN.one,ip.one];rfl) λh2 C D=>?_));generalize K.next=lx at*;have M:∀{F' h' c' u'},Sn f K F' h'->ev F' h' (Fo lf u' vv vb vs jC az ds)->Gb u u' c' (λb=>b<i+1)->(∀b,i+1<=b->u'.blocks[b]? =u.blocks[b]?)->kS Q (Es I k) [.ptr lf 0,.bool c',vb,.I u.blocks.length,.I i] h':=λ{F' h' c' u'} s' H' t' N=>by
  refine Gc ?_;unfold yE;refine fF ⟨k-1,by omega,?_⟩;exact⟨F',u',c',i+1,rfl,by omega,s1.trans s',H',t',N⟩
 have more:(∀n,B.fin=2->¬Kw u B.cond n)->Gb u u1 c (λb=>b<i+1):=λhf=>t.more λ_ b hb=>by
  by_cases q:b=i
  ·subst q;exact .inr λA n hA h2=>by
    rw[z]at hA;cases hA;exact hf n h2
  ·exact .inl (by omega)
 refine oF (C.ld 0 rfl rfl) (yq ?_);by_cases hf2:B.fin=2;rotate_left
 ·exact fP (by omega) (M D C.tail (more λ_ q=>absurd q hf2) λb hb=>pK b (by omega))
 obtain ⟨y,r,hlen⟩:∃y,u.ej[B.cond]? =some y/\B.next.length=2:=by
  rcases g.fin i B z with⟨q,_⟩|⟨_,q,y,r,_⟩|⟨q,_⟩
  ·omega
  ·exact⟨y,r,q⟩
  ·omega
 have P:u1.ej[B.cond]? =some y:=by rw[t.e.ej];exact r
 have R:=C.perm [1,2,3,4,0] 5 (by decide) (by decide) (by simp);refine fW (by omega) (oF (C.ld 0 rfl rfl) (Ln R P λa S d=>eh rfl (eh rfl (QM (iB ?_)))));by_cases hk2:y.op=2;rotate_left
 ·refine fW (by simp[hk2]) (M (D.trans S) (d.perm [4,0,1,2,3] 5 (by decide) (by decide) (by simp)).tail (more λn _ ⟨y',e1,e2,_⟩=>?_) λb hb=>pK b (by omega));rw[r]at e1;cases e1;exact hk2 e2
 have s:=(iN.since D).since S;have n0:=gN (show 0<B.next.length by omega);have n1:=gN (show 1<B.next.length by omega)
 let⟨la,oa,_,a1,a2⟩:=s.nat n0 .i64
 let⟨lb,ob,_,b1,b2⟩:=s.nat n1 .i64
 refine fP (by simp[hk2]) (oF (d.ld 4 rfl rfl) (eh a1 (eh a2 (fX ?_))));have T:=D.trans S;have x:∀to,(if qq y.n=0 then B.next[1]? else B.next[0]?)=some to->mG Q (Es I k) [.ptr lf 0,.I i,.I (to:Nat),vb,.I u.blocks.length,.I i] a:=λto U=>by
  have d:=(d.perm [4,0,1,2,3] 5 (by decide) (by decide) (by simp)).tail;refine Fe ?_;unfold xG;refine eh pn (eh pf (oF (d.ld 0 rfl rfl) (eh pn (eh pf (oF (d.ld 0 rfl rfl) (eh pn (eh pf (oF (d.ld 0 rfl rfl) ?_))))))));rw[mH,gO];obtain⟨m,s4,V⟩:=d.zaa eR rfl (xC _ _ _) false;have W:(a.new (.cells 3 1 true false (ig [to]))).get a.next=some (.cells 3 1 true false (ig [to])):=fm _ _;have m:ev (λl=>f l\/l=a.next) (a.new (.cells 3 1 true false (ig [to]))) (Fo lf u1 vv vb vs jC az ds):=m;have s4:Sn f a (λl=>f l\/l=a.next) (a.new (.cells 3 1 true false (ig [to]))):=s4;have V:il eN (λl=>f l\/l=a.next) (a.new (.cells 3 1 true false (ig [to]))) [to] (.slice a.next 0 1):=V;generalize a.new (.cells 3 1 true false (ig [to]))=h4 at*;generalize X:(λl=>f l\/l=a.next)=F4 at*;have Y:F4 a.next:=by rw[<-X];exact .inr rfl
  let ⟨l5,o5,h5,c1,c2,n5,H5,E⟩:=m.stP 2 rfl (j:=1) (u:= .I 1) (y:={B with fin:=1}) hi1 (by decide) rfl λw ⟨v,n,p,e,q⟩=>by
   rw[eB]at e q;subst e;exact⟨v,n,p,rfl,q⟩
  refine eh c1 (eh pf ⟨⟨W,O.kE _ _ _ _ _⟩,m.ld 0 rfl rfl,m.ld 0 rfl rfl,m.ld 0 rfl rfl,?_⟩);rw[show gq 1 (.ptr l5 (o5+1)) _ h4=_ from c2,en]
  let ⟨l6,o6,h6,d1,d2,n6,H6,Z⟩:=H5.stP 2 rfl (j:=2) (u:= .I 0) (y:={B with fin:=1,cond:=0}) (by rw[Lj];exact hi1) (by decide) rfl λw ⟨v,n,p,e,q⟩=>by
   rw[List.getElem_set_self]at e q;subst e;exact⟨v,n,p,rfl,q⟩
  refine ⟨n5,eh d1 (eh pf ⟨⟨by rw[E.fk _ Y];exact W,O.kE _ _ _ _ _⟩,?_⟩)⟩;rw[show gq 1 (.ptr l6 (o6+2)) _ h5=_ from d2,en];have r6:=(V.since E).since Z;obtain⟨l7,o7,h7,g1,g2,n7,G,s7⟩:=H6.stP 2 rfl (j:=3) (y:=UL B to) (by rw[Lj,Lj];exact hi1) (by decide) rfl λw ⟨v,n,p,e,q1,_,q3⟩=>by
   rw[List.getElem_set_self]at e q1 q3;subst e;exact⟨v,_,p,rfl,q1,r6,q3⟩
  refine⟨n6,eh g1 (eh pf ⟨⟨by rw[Z.fk _ Y,E.fk _ Y];exact W,O.kE _ _ _ _ _⟩,?_⟩)⟩;rw[show gq 1 (.ptr l7 (o7+3)) _ h6=_ from g2,en];have G:ev F4 h7 (Fo lf {u1 with blocks:=((u1.blocks.set i {B with fin:=1}).set i {B with fin:=1,cond:=0}).set i (UL B to)} vv vb vs jC az ds):=G;rw[List.set_set,List.set_set]at G;refine⟨n7,M ((((T.trans s4).trans E).trans Z).trans s7) G (t.step z o hf2 ⟨y,r,hk2,rfl⟩ U _) λb hb=>?_⟩;show(u1.blocks.set i _)[b]? =_;rw[I9 (by omega)];exact pK b (by omega)
 by_cases hz:qq y.n=0
 ·refine fW hz (oF (d.ld 4 rfl rfl) (eh b1 (eh b2 (x _ ?_))));rw[if_pos hz];exact n1
 ·refine fP hz (x _ ?_);rw[if_neg hz];exact n0
end
open Un Dm
abbrev Rc:Nat:=121
def GK(u:U):List Int:=(List.range u.ej.length).map λ(i:Nat)=>(i:Int)
abbrev AgX(u:U) (i:Nat) (c:Bool) (u2:U) (az:List Int) (u1:U) (e c2 d f:Bool) (a:List Int):Prop:=
 UD rM u u1 e (λv=>1<=i/\v<u.ej.length)/\
 (c2=false->a=GK u)/\(c2=true->∃v r,PhO u1 v r/\a=(GK u).set v (r:Int))/\
 az.length=a.length/\(∀v,az[v]? =a[v]?\/(az[v]? =some (-1)/\Z3 u1 v))/\(d=false->az=a)/\(d=true->∃v,v<u1.ej.length/\az[v]? =some (-1)/\Z3 u1 v)/\
 Gb u1 u2 f (λb=>4<=i/\b<u1.blocks.length)/\c=(f ||(d ||(c2 ||e)))/\
 (i<4->f=false/\u2=u1)/\(i<3->d=false)/\(i<2->c2=false)/\(i<1->e=false/\u1=u)
def Ag(u:U)(i:Nat)(c:Bool)(u2:U)(az:List Int):Prop:=∃u1 a c2 b d e,AgX u i c u2 az u1 a c2 b d e
section
variable{F F':Nat->Prop}{h h':Hp}{cs ds:List Pc}{Q:fq}{u:U}{vv vb vs jC:V}{az:List Int}{lf:Nat}
def Ty:List V:=[.func jT [] [],.func kZ [] [],.func jS [] [],.func kY [] []]
theorem zac(a:ev F h cs)(H:∀h' l,Sn F h F h'->ev F h' (eJ l Rc Ty::cs)->Q (.slice l 0 4) h'):cP CS EL [] h Q:=by
 refine RL ?_;rw[show iS 121 1 4 V.nilFunc [(0,V.func jT [] []),(1,V.func kZ [] []),(2,V.func jS [] []),(3,V.func kY [] [])]=some (.cells 121 1 true false Ty,λl=> .slice l 0 4) from rfl,fu]
 let⟨b,c⟩:=a.yP 121 Ty
 exact H _ h.next c b
theorem Ag.start(g:Good u)(a:rM u):Ag u 0 false u (GK u):=⟨u,false,false,false,false,GK u,(UD.start g a).more λ_ v h=>by omega,λ_=>rfl,λh=>(nomatch h),rfl,λ_=> .inl rfl,λ_=>rfl,λh=>(nomatch h),(Gb.start u).more λ_ b h=>by omega,rfl,λ_=>⟨rfl,rfl⟩,λ_=>rfl,λ_=>rfl,λ_=>⟨rfl,rfl⟩⟩
theorem DV:(GK u).length=u.ej.length:=by simp[GK]
theorem zah(g:Good u)(ha:rM u)(R:vs.one=true)(aa:jC.one=true)(w:ev F h (eJ lf NG [.I u.func,.I u.pc,vv,vb,vs,jC]::fg eV gK u.ej vv::fg eK fJ u.blocks vb::ds))
  (H:∀F' h' u2 av az c,Sn F h F' h'->ev F' h' (Fo lf u2 vv vb vs av az ds)->Ag u 4 c u2 az->Q (.bool c) h') :
  cP CS uI [.ptr lf 0] h Q:=by
 refine IC ?_;have x:gj (uC u vv vb vs)=true:=by simp only[uC,eQ,w.one 1 rfl,w.one 2 rfl,R];rfl
 refine eh pn (eh pf (eh (ld5 w 0 rfl) (Nj x (w.len 1 rfl) g.nv w λh1 av s1 S=>eh pn (eh pf ?_))))
 let⟨h2,e2,_,y,s2⟩:=S.st 1 (o:=5) rfl (by simp) (S.one 0 rfl)
 rw[show gq 1 (.ptr lf (0+5)) av h1=_ from e2,en];have y:=y;have y:=y.perm [1,2,3,0] 4 (by decide) (by decide) (by simp);refine zac y λh3 lr s3 E=>eh rfl ?_;have E:=E.perm [1,2,3,4,0] 5 (by decide) (by decide) (by simp);have G:=(s1.trans s2).trans s3
 let I:Nat->LP:=λk l h'=>∃F' u2 az c i,l=[.ptr lf 0,.bool c,.slice lr 0 4,.I (4:Nat),.I (i:Nat)]/\i+k=4/\Sn F h F' h'/\ev F' h' (Fo lf u2 vv vb vs av az (eJ lr Rc Ty::ds))/\Ag u i c u2 az
 refine Ew I (λk x0 x3 ab ac ad p hi=>?_) (k:=4) (⟨F,u,GK u,false,0,rfl,rfl,G,E,Ag.start g ha⟩);obtain⟨T,f,az,c,i,⟨⟩,hk,s4,a,u1,B,c2,U,c4,C,t,p1,p2,J,V,s,W,e1,X,Y,D,K,Z⟩:=hi;unfold xL;by_cases hi:i<4;rotate_left
 ·refine hY ?_;obtain rfl:i=4:=by omega
  exact H T p f av az c s4 (a.perm [4,0,1,2,3] 5 (by decide) (by decide) (by simp)).tail ⟨u1,B,c2,U,c4,C,t,p1,p2,J,V,s,W,e1,X,Y,D,K,Z⟩
 obtain⟨rfl,rfl⟩:=Y hi
 have fin:∀{F' h' u' jD c' d},Sn T p F' h'->ev F' h' (Fo lf u' vv vb vs av jD (eJ lr Rc Ty::ds))->Ag u (i+1) d u' jD->(c' ||c)=d->
   oP (nY (.bool c') (some (.bool c))) (λL=>oP (ez .add 3 (.I i) (.I 1)) λM=>Es I k [.ptr lf 0,L,.slice lr 0 4,.I (4:Nat),M] h'):=λ{F' h' u' jD c' d} s' H' A e=>by
  refine eh (uN _ _) (fF ⟨k-1,by omega,?_⟩);rw[e];exact⟨F',u',jD,d,i+1,rfl,by omega,s4.trans s',H',A⟩
 subst X;refine gy (eh (yJ _ _ _ _ _ _ hi) ?_);have lz:∀{az:List Int},az=C->c2=false->az.length=f.ej.length:=λe q=>by rw[e,p1 q,DV,t.len]
 obtain rfl|rfl|rfl|rfl:i=0\/i=1\/i=2\/i=3:=by omega
 ·refine eh (a.ld 4 rfl rfl) ?_;show cP CS jT [.ptr lf 0] p _;obtain⟨rfl,rfl⟩:=Z (by omega);obtain rfl:=K (by omega);obtain rfl:=D (by omega);refine Xy t.zz t.args R a λN O P j m n t5=>fin m n ⟨P,j,false,false,false,C,t5.more λ_ v h=> .inl h.2,p1,λh=>(nomatch h),J,λv=> .inl (by rw[s rfl]),s,λh=>(nomatch h),(Gb.start P).more λ_ b h=>by omega,rfl,λ_=>⟨rfl,rfl⟩,λ_=>rfl,λ_=>rfl,λh=>by omega⟩ (by simp)
 ·refine eh (a.ld 4 rfl rfl) ?_;show cP CS kZ [.ptr lf 0] p _;obtain rfl:=K (by omega);obtain rfl:=D (by omega);obtain rfl:=s rfl;refine zci t.zz t.args (lz rfl rfl) a λN O z j m n t5 t6=>fin m n ⟨f,B,j,false,false,z,t.more λ_ v h=> .inl ⟨by omega,h.2⟩,λh=>(t5 h).trans (p1 rfl),λh=>?_,rfl,λv=> .inl rfl,λ_=>rfl,λh=>(nomatch h),(Gb.start f).more λ_ b h=>by omega,rfl,λ_=>⟨rfl,rfl⟩,λ_=>rfl,λh=>by omega,λh=>by omega⟩ (by simp);rw[<-p1 rfl];exact t6 h
 ·refine eh (a.ld 4 rfl rfl) ?_;show cP CS jS [.ptr lf 0] p _;obtain rfl:=D (by omega);obtain rfl:=s rfl;have hl:az.length=f.ej.length:=by
   cases c2 with
   |false=>exact lz rfl rfl
   | true=>
     let⟨v,r,_,e⟩:=p2 rfl
     rw[e,Lj,DV,t.len]
  refine Xr t.zz hl a λN O z j m n t5 t6 t7 t8=>fin m n ⟨f,B,c2,j,false,az,t.more λ_ v h=> .inl ⟨by omega,h.2⟩,p1,p2,t5,t6,t7,t8,(Gb.start f).more λ_ b h=>by omega,rfl,λ_=>⟨rfl,rfl⟩,λh=>by omega,λh=>by omega,λh=>by omega⟩ (by simp)
 ·refine eh (a.ld 4 rfl rfl) ?_;show cP CS kY [.ptr lf 0] p _;refine zbU t.zz a λN O P j m n t5=>fin m n ⟨f,B,c2,U,j,C,t.more λ_ v h=> .inl ⟨by omega,h.2⟩,p1,p2,J,V,s,W,t5.more λ_ b h=> .inl h.2,rfl,λh=>by omega,λh=>by omega,λh=>by omega,λh=>by omega⟩ (by simp)
end
