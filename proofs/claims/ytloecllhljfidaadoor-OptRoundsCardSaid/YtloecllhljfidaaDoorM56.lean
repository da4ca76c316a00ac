/- Parts. -/
import Derived.Test.YtloecllhljfidaaDoorM51
set_option maxHeartbeats 4000000
namespace Go.Proofs.YtloecllhljfidaaDoor.Hx
open Un Dm
section
variable{F F':Nat->Prop}{h h':Hp}{cs ds:List Pc}{Q:fq}{u:U}{vv vb vs iQ:V}{az:List Int}{lf:Nat}
theorem RU(g:Good u)(ha:oh u)(r:vs.one=true)(Y:ej F h (Fo lf u vv vb vs iQ az ds))
  (H:∀F' h' u' c,Sn F h F' h'->ej F' h' (Fo lf u' vv vb vs iQ az ds)->Ri oh u u' c (λv=>v<u.ef.length)->VP u u' (λv=>v<u.ef.length)->Q (.bool c) h') :
  cP CS iX [.ptr lf 0] h Q:=by
 refine CP rfl rfl ?_;unfold wz;have nv:=g.nv;have aa:fZ (uC u vv vb vs)=true:=by simp only[uC,eo,Y.one 1 rfl,Y.one 2 rfl,r];rfl
 refine ed pn (ed pf (ed (ld5 Y 0 rfl) ?_));refine Ig (IL g) Y.zcI aa (Y.zcN 2 rfl) λp vo seen post s2 H2 G=>?_;have H3:=Y.zac s2 H2;have s3:=s2.back;have ab:∀b,b<u.blocks.length->b∈post.reverse:=λb hb=>by
  obtain⟨l,hl⟩:=g.reach b hb;exact Xq.2 (HY G hl)
 have ac:∀b∈post.reverse,b<u.blocks.length:=λb hb=>G.pre b (Xq.1 hb);have aE:post.reverse.length<=u.blocks.length:=by
  have K:=G.nodup;rw[W7,HU]at K;rw[List.length_reverse];exact jr _ _ K G.pre
 have am:∀{i b c:Nat},post.reverse[i]? =some b->kV (next u) c b->c=b\/∃m,m<i/\post.reverse[m]? =some c:=λh hd=>zav G h hd;generalize post.reverse=d at*;have nb:=g.nb;clear s2 H2 G;refine ed (H3.len 0 rfl) ?_
 obtain ⟨I,hI⟩:∃I:Nat->LP,I=λk l h'=>∃(F':Nat->Prop) (u':U) (c:Bool) (i:Nat),l=[.ptr lf 0,.bool c,vo,.int .i64 d.length,.int .i64 i]/\i+k=d.length/\Sn F h F' h'/\Ri oh u u' c (λv=>∃m b j,m<i/\d[m]? =some b/\At u v b j)/\VP u u' (λv=>∃m b j,m<i/\d[m]? =some b/\At u v b j)/\
   ej F' h' (ev eN en d vo::Fo lf u' vv vb vs iQ az ds):=⟨_,rfl⟩
 refine Ap I (λk x0 x3 an ao ap t hi=>?_) (k:=d.length) ?_;rotate_left
 ·rw[hI];exact⟨F,u,false,0,rfl,by omega,s3,(Ri.start g ha).more λ_ v ⟨m,_,_,h,_⟩=>by omega,(VP.start u).more λv ⟨m,_,_,h,_⟩=>by omega,H3⟩
 clear H3 s3;rw[hI]at hi;obtain⟨F4,u4,c4,i,⟨⟩,hk,s4,t4,p4,Z⟩:=hi;unfold sq;by_cases hi:i<d.length;rotate_left
 ·refine jf ?_;have D:∀v,v<u.ef.length->∃m b j,m<i/\d[m]? =some b/\At u v b j:=λv hv=>?_;exact H F4 t u4 c4 s4 Z.tail (t4.more λ_ v hv=> .inl (D v hv)) (p4.more λv hv=> .inl (D v hv));obtain⟨b,j,E⟩:=g.xM v hv trivial;obtain⟨B,J,_⟩:=id E;obtain⟨m,hm⟩:=mr.1 (ab b (jk.1 J).1);have:=(jk.1 hm).1;exact⟨m,b,j,by omega,hm,E⟩
 refine gR ?_;have hb:=g0 hi;generalize d[i]=b at*;have aq:=ac b (yC hb);obtain⟨l1,o1,p1,p2⟩:=Z.Ia 0 rfl hb .i64;have J:=g0 aq;have ar:u4.blocks[b]? =some u.blocks[b]:=by rw[t4.blocks];exact J
 generalize u.blocks[b]=B at*;obtain⟨ae,eB⟩:=jk.1 ar;obtain⟨l2,o2,w2,q1,q2,⟨bv,bn,bp,ew,iv,_,_⟩,q4⟩:=Z.Z0 3 rfl ae .i64;rw[eB]at ew iv;subst ew;refine ed p1 (ed p2 (ed pn (ed pf (oF (Z.ld 1 rfl rfl) (ed q1 (oF (q4 0 _ rfl) (ed iv.len ?_)))))));have aF:B.ef.length<=u.ef.length:=jr _ B.ef (Ez g J) λv hv=>by
  obtain⟨k,hk⟩:=mr.1 hv;exact g.jz v b k ⟨B,J,hk⟩
 obtain ⟨I1,R⟩:∃I1:Nat->LP,I1=λk l h'=>∃(F':Nat->Prop) (u':U) (c:Bool) (j:Nat),l=[.ptr lf 0,.bool c,vo,.int .i64 d.length,.int .i64 i,bv,.int .i64 B.ef.length,.int .i64 (j:Nat)]/\j+k=B.ef.length/\Sn F4 t F' h'/\Ri oh u u' c (λv=>(∃m b j,m<i/\d[m]? =some b/\At u v b j)\/∃m,m<j/\At u v b m)/\VP u u' (λv=>(∃m b j,m<i/\d[m]? =some b/\At u v b j)\/∃m,m<j/\At u v b m)/\
   ej F' h' (ev eN en d vo::Fo lf u' vv vb vs iQ az ds):=⟨_,rfl⟩
 refine AK I1 (λk1 x0 x3 an ao ap aG aH aI h5 ag=>?_) (k:=B.ef.length) ?_;rotate_left
 ·rw[R];exact⟨F4,u4,c4,0,rfl,by omega,Sn.refl _ _,t4.more λ_ v hv=> .inl (hv.elim id λ⟨m,h,_⟩=>by omega),p4.more λv hv=> .inl (hv.elim id λ⟨m,h,_⟩=>by omega),Z⟩
 clear Z q1 q2 q4 p1 p2 t4 p4;rw[R]at ag;obtain⟨F5,C,c5,j,⟨⟩,aJ,s5,t5,p5,H5⟩:=ag;unfold sH;have au:=iv.since s5;by_cases hj:j<B.ef.length;rotate_left
 ·refine jf (fS ⟨k-1,by omega,?_⟩);rw[hI];have D:∀v,(∃m b j,m<i+1/\d[m]? =some b/\At u v b j)->(∃m b j,m<i/\d[m]? =some b/\At u v b j)\/∃m,m<j/\At u v b m:=λv ⟨m,b',j',K,p,s⟩=>?_;exact⟨F5,C,c5,i+1,rfl,by omega,s4.trans s5,t5.more λ_ v hv=> .inl (D v hv),p5.more λv hv=> .inl (D v hv),H5⟩;by_cases e:m=i
  ·subst e;rw[hb]at p;cases p;obtain⟨B',t,h5⟩:=id s;rw[J]at t;cases t;have:=(jk.1 h5).1;exact .inr ⟨j',by omega,s⟩
  ·exact .inl ⟨m,b',j',by omega,p,s⟩
 refine gR ?_;have hv:=g0 hj;generalize B.ef[j]=v at*;have E:At u v b j:=⟨B,J,hv⟩
 have S:v<C.ef.length:=by rw[t5.len];exact g.jz v b j E
 obtain⟨l3,o3,_,p1,p2⟩:=au.nat hv .i64;have hx:=g0 S;obtain⟨l4,o4,w4,z1,z2,⟨wa,ew,ia⟩,_⟩:=H5.Z0 2 rfl S .i64;generalize C.ef[v]=x at*;subst ew;refine ed p1 (ed p2 (ed pn (ed pf (oF (H5.ld 1 rfl rfl) (ed z1 (ed z2 ?_))))));refine gQ H5 rfl rfl (by simp only[lW,eo,ia.one];rfl) λh6 H6 s6=>?_;generalize h5.next=lx at*;refine ed (H6.oL 0 rfl rfl) (BI H6 (ia.since s6) (λ_=>BX (t5.args v x hx) (by decide)) λF7 h7 uv s7 H7 iu=>?_)
 have T:∀{F' h' u' c'},Sn F5 h5 F' h'->ej F' h' (ev eN en d vo::Fo lf u' vv vb vs iQ az ds)->Ri oh u u' c' (λv=>(∃m b j,m<i/\d[m]? =some b/\At u v b j)\/∃m,m<j+1/\At u v b m)->VP u u' (λv=>(∃m b j,m<i/\d[m]? =some b/\At u v b j)\/∃m,m<j+1/\At u v b m)->
   jt CS Q (A4 I k) (A4 I1 k1) [.ptr lf 0,.bool c',vo,.int .i64 d.length,.int .i64 i,bv,.int .i64 B.ef.length,.int .i64 j] h':=λ{F' h' u' c'} s' H' t' p'=>by
  refine z5 ?_;unfold qL;refine fS ⟨k1-1,by omega,?_⟩;rw[R];exact⟨F',u',c',j+1,rfl,by omega,s5.trans s',t',p',H'⟩
 have more:(c5=false->Unf u v)->Ri oh u C c5 (λv=>(∃m b j,m<i/\d[m]? =some b/\At u v b j)\/∃m,m<j+1/\At u v b m):=λhf=>t5.more λhc w r=>by
  rcases r with r|⟨m,K,p⟩
  ·exact .inl (.inl r)
  ·by_cases e:m=j
   ·subst e;obtain⟨B',s,t⟩:=p;rw[J]at s;cases s;rw[hv]at t;cases t;exact .inr (hf hc)
   ·exact .inl (.inr ⟨m,by omega,p⟩)
 have P:(∀a b:Int,3<=x.op->x.op<=14->Kw C x.a a->(¬(x.op=8\/x.op=9)->Kw C x.b b)->False)->VP u C (λv=>(∃m b j,m<i/\d[m]? =some b/\At u v b j)\/∃m,m<j+1/\At u v b m):=λhf=>p5.more λw r=>by
  by_cases e:w=v
  ·subst e;refine .inr (p5.skip hx (λaw ah s a ha=>?_) hf λs ah=>?_)
   ·obtain⟨c,k,K,p⟩:=g.xG w b j x E aw (by omega) a ha;rcases p with⟨rfl,p⟩|⟨p,s⟩
    ·exact .inr ⟨k,p,K⟩
    ·obtain⟨m,t,h5⟩:=(am hb s).resolve_left p;exact .inl ⟨m,c,k,t,h5,K⟩
   ·rcases MT s ah with⟨c,e⟩|⟨c,e⟩ <;> rw[e]
    ·exact⟨by simp,λq=>absurd c q⟩
    ·exact⟨by simp,λ_=>by simp⟩
  ·rcases r with r|⟨m,K,p⟩
   ·exact .inl (.inl r)
   ·by_cases L:m=j
    ·subst L;obtain⟨B',s,t⟩:=p;rw[J]at s;cases s;rw[hv]at t;cases t;exact absurd rfl e
    ·exact .inl (.inr ⟨m,by omega,p⟩)
 have ux:c5=false->u.ef[v]? =some x:=λhc=>by rw[<-(t5.same hc).1];exact hx
 have ai:eQ (.ptr lx (0+0)) h7=some (.int .i64 x.op):=H7.ld 0 rfl rfl;refine oF ai (ed (qO ..) (ed (a:= .bool (decide (x.op<3\/14<x.op))) ?_ ?_))
 ·simp only[pf,fy,ai,pS,pD];congr 2;rw[Th,Rc,D1,D1,D1];omega
 by_cases hop:x.op<3\/14<x.op
 ·rw[O7 hop];refine ed rfl (jF (gI rfl (T (s6.trans s7) H7.tail (more λhc y n V f=>?_) (P λ_ _ _ _ _ _=>by omega))));rw[ux hc]at V;cases V;have:=f.lo;have:=f.hi;omega
 rw[O9 hop];have hu:=MT (x:=x) (by omega) (by omega);have vC:gO x≠[]:=by rcases hu with⟨_,h⟩|⟨_,h⟩ <;> rw[h] <;> simp
 have aj:(gO x).length=if x.op=8\/x.op=9 then 1 else 2:=by rcases hu with⟨c,h⟩|⟨c,h⟩ <;> rw[h] <;> simp[c]
 refine ed (a:= .bool false) ?_ (jF (gv (by simp) ?_))
 ·simp only[qd,fy,iu.len,ie];congr 2;rw[SJ,aj];split <;> simp
 have ga:∀w∈gO x,∃y,C.ef[w]? =some y:=λw r=>by
  obtain⟨y,V,_⟩:=t5.BB.use v x hx w r;exact⟨y,V⟩
 have u0:(gO x)[0]? =some x.a:=by rcases hu with⟨_,h⟩|⟨_,h⟩ <;> rw[h] <;> rfl
 obtain⟨M,A⟩:=ga x.a (yC u0);obtain⟨la,oa,_,a1,a2⟩:=iu.nat u0 .i64;refine ed a1 (ed a2 ?_);have ax:ej F7 h7 (Fo lf C vv vb vs iQ az (ev eN en d vo::er lx gi (lW x wa)::ds)):=H7.perm [2,3,4,5,1,0] 6 (by decide) (by decide) (by simp);have ay:0<(gO x).length/\(gO x).length<=2:=by rw[aj];split <;> omega
 obtain⟨z,hz⟩:∃z,(gO x)[(gO x).length-1]? =some z:=⟨_,g0 (by omega)⟩
 have N:¬(x.op=8\/x.op=9)->z=x.b:=λc=>by
  rcases hu with⟨c',_⟩|⟨_,h⟩
  ·exact(c c').elim
  ·rw[h]at hz;simpa using hz.symm
 have ak:(x.op=8\/x.op=9)->z=x.a:=λc=>by
  rcases hu with⟨_,h⟩|⟨c',_⟩
  ·rw[h]at hz;simpa using hz.symm
  ·exact(c' c).elim
 obtain⟨O,o⟩:=ga z (yC hz);refine G4 ax A λh8 s8 H8=>ed rfl (ed rfl (ed (iu.since s8).len (qa (by omega) ay.1 ?_)));obtain⟨lb,ob,_,b1,b2⟩:=(iu.since s8).nat hz .i64;refine ed b1 (ed b2 (G4 H8 o λh9 s9 H9=>ed rfl (ed rfl (oF (H9.ld 5 rfl rfl) ?_))));refine Ux (SM _) (SM _) (by omega) (ed rfl (ed rfl (ed (jD _ _) (ed (jD _ _) (jF ?_)))));have H9:ej F7 h9 (ev eN en d vo::Fo lf C vv vb vs iQ az ds):=(H9.perm [5,4,0,1,2,3] 6 (by decide) (by decide) (by simp)).tail;have al:=((s6.trans s7).trans s8).trans s9;by_cases hk2:M.op=2/\O.op=2
 ·have r:tm (wQ (CC x.op (tm M.n) (tm O.n)))=CC x.op (tm M.n) (tm O.n):=by
   have:=XL x.op (tm M.n) (tm O.n);simp only[Fx]at this;unfold tm wQ at*;split <;> omega
  have f:Fv C x (wQ (CC x.op (tm M.n) (tm O.n))):=⟨by omega,by omega,tm M.n,tm O.n,⟨M,A,hk2.1,rfl⟩,λc=>⟨O,by rw[<-N c];exact o,hk2.2,rfl⟩,r⟩
  refine gI (by simp[hk2]) (ed pn (ed pf (oF (H9.ld 1 rfl rfl) (ed (by rw[yg,Sk (XL _ _ _)]) ?_))));have pv:=p5.set hx (by omega) (by omega) ⟨M,A,hk2.1,rfl⟩ (λc=>⟨O,by rw[<-N c];exact o,hk2.2,rfl⟩) (λv=>(∃m b j,m<i/\d[m]? =some b/\At u v b j)\/∃m,m<j+1/\At u v b m) λw r=>?_;rotate_left
  ·rcases r with r|⟨m,K,p⟩
   ·exact .inl (.inl r)
   ·by_cases L:m=j
    ·subst L;obtain⟨B',s,t⟩:=p;rw[J]at s;cases s;rw[hv]at t;cases t;exact .inr rfl
    ·exact .inl (.inr ⟨m,by omega,p⟩)
  generalize wQ (CC x.op (tm M.n) (tm O.n))=n at*;refine ed (show _=some (.agg (lW (Ns n) .ee)) from rfl) ?_;obtain⟨l6,o6,aA,r1,r2,_,W,aB⟩:=H9.stE 2 rfl S (y:=Ns n) (ws:=lW (Ns n) .ee) ⟨.ee,rfl,.inl ⟨rfl,rfl⟩⟩;refine ed r1 ?_;rw[show gh 6 (.ptr l6 o6) _ h9=_ from r2,ei];have W:ej F7 aA (ev eN en d vo::Fo lf (BR C v n) vv vb vs iQ az ds):=W;exact T (al.trans aB) W (t5.step hx f (UZ t5.args _) _) pv
 ·refine gv (by simp;omega) (T al H9 (more λhc y n V f=>?_) (P λa b _ _ ⟨aC,e1,L,_⟩ X=>?_));rotate_left
  ·rw[A]at e1;cases e1;refine hk2 ⟨L,?_⟩;by_cases c:x.op=8\/x.op=9
   ·rw[ak c,A]at o;cases o;exact L
   ·obtain⟨aD,e3,e4,_⟩:=X c;rw[N c,e3]at o;cases o;exact e4
  rw[ux hc]at V;cases V;obtain⟨a,b,⟨aC,e1,L,_⟩,X,_⟩:=f.kn;rw[<-(t5.same hc).1,A]at e1;cases e1;refine hk2 ⟨L,?_⟩;by_cases c:x.op=8\/x.op=9
  ·rw[ak c,A]at o;cases o;exact L
  ·obtain⟨aD,e3,e4,_⟩:=X c;rw[N c,(t5.same hc).1,e3]at o;cases o;exact e4
end
open Un Dm
def PhN(v:Nat)(l:List Nat)(one:Int)(c:Bool):Prop:=(c=true/\∃a b:Nat,a∈l/\a≠v/\a≠b/\b∈l/\b≠v)\/(c=false/\one = -1/\∀a∈l,a=v)\/(c=false/\∃r:Nat,one=(r:Int)/\r≠v/\r∈l/\∀a∈l,a=v\/a=r)
def Pl(u u2:U)(D:Nat->Prop):Prop:=∀(b:Nat)(B:Bk)(n:Int),D b->u.blocks[b]? =some B->B.fin=2->Kw u B.cond n->∃t,(if n=0 then B.next[1]? else B.next[0]?)=some t/\u2.blocks[b]? =some (Od B t)
section
variable{F F':Nat->Prop}{h h':Hp}{cs ds:List Pc}{Q:fq}{u:U}{vv vb vs iQ:V}{az:List Int}{lf:Nat}
theorem V6(g:Good u)(ha:oh u)(aa:az.length=u.ef.length)(K:ej F h (Fo lf u vv vb vs iQ az ds))
  (H:∀F' h' iR c,Sn F h F' h'->ej F' h' (Fo lf u vv vb vs iQ iR ds)->(c=false->iR=az/\∀v r,¬VK u v r)->(c=true->∃v r,VK u v r/\iR=az.set v (r:Int)/\∀w r,w<v->¬VK u w r)->Q (.bool c) h') :
  cP CS jC [.ptr lf 0] h Q:=by
 refine FW rfl rfl ?_;unfold yD;have nv:=g.nv;refine ed pn (ed pf (oF (K.ld 0 rfl rfl) (ed (K.len 1 rfl) ?_)));obtain⟨I,L⟩:∃I:Nat->LP,I=λk l h'=>∃(i:Nat),l=[.ptr lf 0,.bool false,vv,.int .i64 u.ef.length,.int .i64 i]/\i+k=u.ef.length/\Sn F h F h'/\(∀w r,w<i->¬VK u w r)/\ej F h' (Fo lf u vv vb vs iQ az ds):=⟨_,rfl⟩
 refine Cy I (λk x0 x3 M N O P hi=>?_) (k:=u.ef.length) (by rw[L];exact⟨0,rfl,by omega,Sn.refl _ _,λ_ _ h=>by omega,K⟩);rw[L]at hi;obtain⟨i,⟨⟩,hk,R,n,S⟩:=hi;unfold vm;by_cases hi:i<u.ef.length;rotate_left
 ·refine jf (uO ?_);unfold oO;exact H F P az false R S (λ_=>⟨rfl,λv r D=>n v r (by obtain⟨x,hx,_⟩:=D;have:=(jk.1 hx).1;omega) D⟩) λh=>nomatch h
 refine gR ?_;have hx:=g0 hi;obtain⟨l4,o4,w4,z1,z2,⟨T,ew,U⟩,_⟩:=S.Z0 1 rfl hi .i64;generalize u.ef[i]=x at*;subst ew;refine ed z1 (ed z2 (gQ S rfl rfl (by simp only[lW,eo,U.one];rfl) λh2 o s=>?_));generalize P.next=lx at*;have r8:∀{h'},(∀r,¬VK u i r)->Sn F P F h'->ej F h' (Fo lf u vv vb vs iQ az ds)->mj CS Q (A4 I k) [.ptr lf 0,.bool false,vv,.int .i64 u.ef.length,.int .i64 i] h':=λ{h'} D s' H'=>by
  refine Ct ?_;unfold vz;refine fS ⟨k-1,by omega,?_⟩;rw[L];exact⟨i+1,rfl,by omega,R.trans s',λw r hw hq=>by
   by_cases e:w=i
   ·subst e;exact D r hq
   ·exact n w r (by omega) hq,H'⟩
 refine oF (o.ld 0 rfl rfl) (zs ?_);by_cases t:x.op=21;rotate_left
 ·exact gv (by omega) (r8 (λr ⟨y,m,q,_⟩=>by rw[hx]at m;cases m;exact t q) s o.tail)
 refine gI (by omega) (oF (o.ld 0 rfl rfl) (ed U.len ?_));have Z:=ha i x hx;obtain⟨E,p⟩:∃E:Nat->LP,E=λk l h'=>∃(one:Int) (f:Bool) (j:Nat),l=[.ptr lf 0,.bool false,.int .i64 i,.int .i64 one,.bool f,vv,.int .i64 u.ef.length,.int .i64 i,T,.int .i64 x.args.length,.int .i64 j]/\j+k=x.args.length/\h' = h2/\PhN i (x.args.take j) one f:=⟨_,rfl⟩
 refine CA E (λk1 x0 x3 x4 x6 x7 M N O ab ac ae h3 z=>?_) (k:=x.args.length) (by rw[p];exact⟨-1,false,0,rfl,by omega,rfl,.inr (.inl ⟨rfl,rfl,by simp⟩)⟩);rw[p]at z;obtain⟨one,f,j,⟨⟩,ag,rfl,G⟩:=z;unfold uT;have i2:=U.since s;by_cases hj:j<x.args.length;rotate_left
 ·refine jf (ed (pq ..) ?_);obtain rfl:j=x.args.length:=by omega
  rw[Hj]at G;refine ed (a:= .bool (decide (0<=one)&&!f)) ?_ (jF ?_)
  ·simp only[fy,Ys,TK,jD]
  rcases G with⟨rfl,a,b,a1,a2,a3,b1,b2⟩|⟨rfl,rfl,q⟩|⟨rfl,r,rfl,A,B,J⟩
  ·exact gv (by simp) (r8 (λr ⟨y,m,_,_,_,hq⟩=>by
    rw[hx]at m;cases m;have:=hq a a1;have:=hq b b1;omega) s o.tail)
  ·exact gv (by simp) (r8 (λr ⟨y,m,_,hq,hr,_⟩=>by
    rw[hx]at m;cases m;exact hq (q r hr)) s o.tail)
  ·refine gI (by simp) (oN (o.ld 1 rfl rfl) ?_);obtain⟨l5,o5,h6,p1,V,_,W,s6⟩:=o.Ma 4 rfl (k:=i) (y:=(r:Int)) (u:= .int .i64 r) (by omega) rfl rfl rfl;refine ed p1 ?_;rw[V,ei];refine uO ?_;unfold oO;have W:ej F h6 (er lx gi (lW x T)::Fo lf u vv vb vs iQ (az.set i (r:Int)) ds):=W;exact H F h6 _ true ((R.trans s).trans s6) W.tail (λh=>nomatch h) λ_=>⟨i,r,⟨x,hx,t,A,B,J⟩,rfl,n⟩
 refine gR ?_;have hv:=g0 hj;have X:=Qs hj;generalize x.args[j]=a at*;obtain⟨l6,o6,_,p1,V⟩:=i2.nat hv .i64;have C:∀{VJ:Int} {d:Bool},PhN i (x.args.take j++[a]) VJ d->lQ CS Q (A4 I k) (A4 E k1) [.ptr lf 0,.bool false,.int .i64 i,.int .i64 VJ,.bool d,vv,.int .i64 u.ef.length,.int .i64 i,T,.int .i64 x.args.length,.int .i64 j] h3:=λ{VJ d} Y=>by
  refine Bt ?_;unfold uy;refine fS ⟨k1-1,by omega,?_⟩;rw[p];exact⟨VJ,d,j+1,rfl,by omega,rfl,by rw[X];exact Y⟩
 refine ed p1 (ed V (ed (uD ..) (ed (a:= .bool (decide (a≠i/\(a:Int)≠one))) ?_ (jF ?_))))
 ·simp only[fy,uD,jD];congr 2;rw[Th,uF,wB5,wB5,D1];omega
 by_cases c:a≠i/\(a:Int)≠one
 ·refine gI (O7 c) (ed (a:= .bool (f ||decide (0<=one))) ?_ (C ?_))
  ·simp only[fy,pq,pD]
  rcases G with⟨rfl,a',b',a1,a2,a3,b1,b2⟩|⟨rfl,rfl,q⟩|⟨rfl,r,rfl,A,B,J⟩
  ·exact .inl ⟨rfl,a',b',My _ a1,a2,a3,My _ b1,b2⟩
  ·refine .inr (.inr ⟨rfl,a,rfl,c.1,by simp,λb hb=>?_⟩);rcases Bm.1 hb with hb|hb
   ·exact .inl (q b hb)
   ·exact .inr (by simpa using hb)
  ·exact .inl ⟨by simp,a,r,by simp,c.1,by omega,My _ B,A⟩
 ·refine gv (by rw[D1];exact c) (C ?_);rcases G with⟨rfl,a',b',a1,a2,a3,b1,b2⟩|⟨rfl,rfl,q⟩|⟨rfl,r,rfl,A,B,J⟩
  ·exact .inl ⟨rfl,a',b',My _ a1,a2,a3,My _ b1,b2⟩
  ·refine .inr (.inl ⟨rfl,rfl,λb hb=>?_⟩);rcases Bm.1 hb with hb|hb
   ·exact q b hb
   ·have:b=a:=by simpa using hb
    omega
  ·refine .inr (.inr ⟨rfl,r,rfl,A,My _ B,λb hb=>?_⟩);rcases Bm.1 hb with hb|hb
   ·exact J b hb
   ·have:b=a:=by simpa using hb
    omega
theorem RP(g:Good u)(O:az.length=u.ef.length)(t:ej F h (Fo lf u vv vb vs iQ az ds))
  (H:∀F' h' iR c,Sn F h F' h'->ej F' h' (Fo lf u vv vb vs iQ iR ds)->iR.length=az.length->(∀v,iR[v]? =az[v]?\/(iR[v]? =some (-1)/\OB u v))->(c=false->iR=az)->(c=true->∃v,v<u.ef.length/\iR[v]? =some (-1)/\OB u v)->(∀v,OB u v->iR[v]? =some (-1))->Q (.bool c) h') :
  cP CS iU [.ptr lf 0] h Q:=by
 refine C8 rfl rfl ?_;unfold wH;have nv:=g.nv;refine ed pn (ed pf (oF (t.ld 0 rfl rfl) (ed (t.len 1 rfl) ?_)));obtain⟨I,w⟩:∃I:Nat->LP,I=λk l h'=>∃(i:Nat) (c:Bool) (iR:List Int),l=[.ptr lf 0,.bool c,vv,.int .i64 u.ef.length,.int .i64 i]/\i+k=u.ef.length/\Sn F h F h'/\ej F h' (Fo lf u vv vb vs iQ iR ds)/\iR.length=az.length/\(∀v,iR[v]? =az[v]?\/(iR[v]? =some (-1)/\OB u v))/\(c=false->iR=az)/\(c=true->∃v,v<u.ef.length/\iR[v]? =some (-1)/\OB u v)/\(∀v,v<i->OB u v->iR[v]? =some (-1)):=⟨_,rfl⟩
 refine Ay I (λk x0 x3 P R S A hi=>?_) (k:=u.ef.length) (by rw[w];exact⟨0,false,az,rfl,by omega,Sn.refl _ _,t,rfl,λ_=> .inl rfl,λ_=>rfl,(λh=>nomatch h),λ_ h=>by omega⟩);rw[w]at hi;obtain⟨i,c,iR,⟨⟩,hk,K,B,o,p,C,D,r⟩:=hi;unfold sQ;by_cases hi:i<u.ef.length;rotate_left
 ·exact jf (H F A iR c K B o p C D λv d=>r v (by obtain⟨x,_,hx,_⟩:=d;have:=(jk.1 hx).1;omega) d)
 refine gR ?_;have hx:=g0 hi;obtain⟨l4,o4,w4,T,U,⟨V,W,X⟩,_⟩:=B.Z0 1 rfl hi .i64;generalize u.ef[i]=x at*;subst W;refine ed T (ed U (gQ B rfl rfl (by simp only[lW,eo,X.one];rfl) λY s E=>?_));generalize A.next=lx at*;have r8:∀{h' c' b},Sn F A F h'->ej F h' (Fo lf u vv vb vs iQ b ds)->b.length=az.length->(∀v,b[v]? =az[v]?\/(b[v]? =some (-1)/\OB u v))->(c' = false->b=az)->(c' = true->∃v,v<u.ef.length/\b[v]? =some (-1)/\OB u v)->(∀v,v<i->OB u v->b[v]? =some (-1))->(OB u i->b[i]? =some (-1))->jJ CS Q (A4 I k) [.ptr lf 0,.bool c',vv,.int .i64 u.ef.length,.int .i64 i] h':=λ{h' c' b} s' Z t1 t2 t3 t4 t5 t6=>by
  refine AR ?_;unfold rS;refine fS ⟨k-1,by omega,?_⟩;rw[w];exact⟨i+1,c',b,rfl,by omega,K.trans s',Z,t1,t2,t3,t4,λv hv d=>by
   by_cases e:v=i
   ·subst e;exact t6 d
   ·exact t5 v (by omega) d⟩
 refine oF (s.ld 0 rfl rfl) (zs ?_);by_cases f:x.op=22;rotate_left
 ·exact gv (by omega) (r8 E s.tail o p C D r λ⟨y,_,j,q,_⟩=>by rw[hx]at j;cases j;exact absurd q f)
 obtain⟨y,j,_⟩:=g.use i x hx x.a (En.2 (by rw[f];rfl) (by omega));have G:ej F Y (Fo lf u vv vb vs iQ iR (er lx gi (lW x V)::ds)):=s.perm [1,2,3,4,0] 5 (by decide) (by decide) (by simp);refine gI (by omega) (oF (s.ld 0 rfl rfl) (G4 G j λh3 L m=>ed rfl (ed rfl ?_)));have m:ej F h3 (Fo lf u vv vb vs iQ iR ds):=(m.perm [4,0,1,2,3] 5 (by decide) (by decide) (by simp)).tail;refine ed (a:= .bool (decide (y.op=2/\tm y.n≠0))) ?_ (jF ?_)
 ·simp only[fy,uD,jD];congr 2;rw[Th,uF,wB5,D1,D1]
 by_cases hk2:y.op=2/\tm y.n≠0
 ·refine gI (O7 hk2) (oN (m.ld 0 rfl rfl) ?_);obtain⟨l5,o5,h6,p1,p2,_,J,s6⟩:=m.Ma 3 rfl (k:=i) (y:=(-1:Int)) (u:= .int .i64 (-1)) (by omega) rfl rfl rfl;refine ed p1 ?_;rw[p2,ei];have J:ej F h6 (Fo lf u vv vb vs iQ (iR.set i (-1)) ds):=J;have d:OB u i:=⟨x,tm y.n,hx,f,⟨y,j,hk2.1,rfl⟩,hk2.2⟩
  have hs:(iR.set i (-1))[i]? =some (-1):=Mt (by omega);refine r8 ((E.trans L).trans s6) J (by rw[Lm];exact o) (λv=>?_) (λh=>nomatch h) (λ_=>⟨i,hi,hs,d⟩) (λv hv hq=>by rw[IB (by omega)];exact r v hv hq) λ_=>hs;by_cases e:v=i
  ·subst e;exact .inr ⟨hs,d⟩
  ·rw[IB λq=>e q.symm];exact p v
 ·exact gv (by rw[D1];exact hk2) (r8 (E.trans L) m o p C D r λ⟨z,n,M,_,⟨y',N,e2,e3⟩,hn⟩=>by
   rw[hx]at M;cases M;rw[j]at N;cases N;exact absurd ⟨e2,by rw[e3];exact hn⟩ hk2)
theorem Xd(g:Good u)(W:ej F h (Fo lf u vv vb vs iQ az ds))
  (H:∀F' h' u2 c,Sn F h F' h'->ej F' h' (Fo lf u2 vv vb vs iQ az ds)->CJ u u2 c (λb=>b<u.blocks.length)->Pl u u2 (λb=>b<u.blocks.length)->Q (.bool c) h') :
  cP CS jA [.ptr lf 0] h Q:=by
 refine FT rfl rfl ?_;unfold yG;have nb:=g.nb;refine ed pn (ed pf (oF (W.ld 0 rfl rfl) (ed (W.len 2 rfl) ?_)));obtain⟨I,X⟩:∃I:Nat->LP,I=λk l h'=>∃(F':Nat->Prop) (u2:U) (c:Bool) (i:Nat),l=[.ptr lf 0,.bool c,vb,.int .i64 u.blocks.length,.int .i64 i]/\i+k=u.blocks.length/\Sn F h F' h'/\ej F' h' (Fo lf u2 vv vb vs iQ az ds)/\CJ u u2 c (λb=>b<i)/\(∀b,i<=b->u2.blocks[b]? =u.blocks[b]?)/\Pl u u2 (λb=>b<i):=⟨_,rfl⟩
 refine CG I (λk x0 x3 ah ai aj Y hi=>?_) (k:=u.blocks.length) (by rw[X];exact⟨F,u,false,0,rfl,by omega,Sn.refl _ _,W,(CJ.start u).more λ_ b hb=>by omega,λ_ _=>rfl,λ_ _ _ h=>by omega⟩);rw[X]at hi;obtain⟨f,u1,c,i,⟨⟩,hk,s1,Z,t,vC,M⟩:=hi;unfold uR;by_cases hi:i<u.blocks.length;rotate_left
 ·exact jf (H f Y u1 c s1 Z (t.more λ_ b hb=> .inl (by omega)) λb B n hb=>M b B n (by omega))
 refine gR ?_;have G:=g0 hi;generalize u.blocks[i]=B at*;have J:u1.blocks[i]? =some B:=by rw[vC i (jb _)];exact G
 obtain ⟨d,eB⟩:=jk.1 J;obtain⟨l4,o4,w4,z1,z2,⟨bv,bn,bp,ew,iv,iN,ip⟩,_⟩:=Z.Z0 2 rfl d .i64;rw[eB]at ew iv iN ip;subst ew;refine ed z1 (ed z2 (gQ Z rfl rfl (by simp only[kS,eo,iv.one,iN.one,ip.one];rfl) λr N P=>?_));generalize Y.next=lx at*;have r8:∀{F' h' c' u'},Sn f Y F' h'->ej F' h' (Fo lf u' vv vb vs iQ az ds)->CJ u u' c' (λb=>b<i+1)->(∀b,i+1<=b->u'.blocks[b]? =u.blocks[b]?)->Pl u u' (λb=>b<i)->(∀n,B.fin=2->Kw u B.cond n->∃t,(if n=0 then B.next[1]? else B.next[0]?)=some t/\u'.blocks[i]? =some (Od B t))->kh CS Q (A4 I k) [.ptr lf 0,.bool c',vb,.int .i64 u.blocks.length,.int .i64 i] h':=λ{F' h' c' u'} s' H' t' aa s R=>by
  refine Cv ?_;unfold uN;refine fS ⟨k-1,by omega,?_⟩;rw[X];exact⟨F',u',c',i+1,rfl,by omega,s1.trans s',H',t',aa,λb A n hb x r m=>by
   by_cases e:b=i
   ·subst e;rw[G]at x;cases x;exact R n r m
   ·exact s b A n (show b<i by have:b<i+1:=hb;omega) x r m⟩
 have more:(∀n,B.fin=2->¬Kw u B.cond n)->CJ u u1 c (λb=>b<i+1):=λhf=>t.more λ_ b hb=>by
  by_cases q:b=i
  ·subst q;exact .inr λA n x r=>by
    rw[G]at x;cases x;exact hf n r
  ·exact .inl (by omega)
 refine oF (N.ld 0 rfl rfl) (zs ?_);by_cases hf2:B.fin=2;rotate_left
 ·exact gv (by omega) (r8 P N.tail (more λ_ q=>absurd q hf2) (λb hb=>vC b (by omega)) M λ_ q=>absurd q hf2)
 obtain ⟨y,C,hlen⟩:∃y,u.ef[B.cond]? =some y/\B.next.length=2:=by
  rcases g.fin i B G with⟨q,_⟩|⟨_,q,y,C,_⟩|⟨q,_⟩
  ·omega
  ·exact⟨y,C,q⟩
  ·omega
 have ab:u1.ef[B.cond]? =some y:=by rw[t.e.ef];exact C
 have ac:ej f r (Fo lf u1 vv vb vs iQ az (er lx fo (kS B bv bn bp)::ds)):=N.perm [1,2,3,4,0] 5 (by decide) (by decide) (by simp);refine gI (by omega) (oF (N.ld 0 rfl rfl) (G4 ac ab λa s3 o=>ed rfl (ed rfl (TS (jF ?_)))));by_cases hk2:y.op=2;rotate_left
 ·refine gI (by simp[hk2]) (r8 (P.trans s3) (o.perm [4,0,1,2,3] 5 (by decide) (by decide) (by simp)).tail (more λn _ ⟨y',s,R,_⟩=>?_) (λb hb=>vC b (by omega)) M λn _ ⟨y',s,R,_⟩=>?_)
  all_goals
   rw[C]at s;cases s;exact absurd R hk2
 have K:=(iN.since P).since s3;have n0:=g0 (show 0<B.next.length by omega);have n1:=g0 (show 1<B.next.length by omega);obtain⟨la,oa,_,a1,a2⟩:=K.nat n0 .i64;obtain⟨lb,ob,_,b1,b2⟩:=K.nat n1 .i64;refine gv (by simp[hk2]) (oF (o.ld 4 rfl rfl) (ed a1 (ed a2 (gM ?_))));have ae:=P.trans s3;have L:∀to:Nat,(if tm y.n=0 then B.next[1]? else B.next[0]?)=some to->lP CS Q (A4 I k) [.ptr lf 0,.int .i64 i,.int .i64 (to:Nat),vb,.int .i64 u.blocks.length,.int .i64 i] a:=λto z=>by
  have o:ej f a (Fo lf u1 vv vb vs iQ az ds):=(o.perm [4,0,1,2,3] 5 (by decide) (by decide) (by simp)).tail;refine Bs ?_;unfold uw;refine ed pn (ed pf (oF (o.ld 0 rfl rfl) (ed pn (ed pf (oF (o.ld 0 rfl rfl) (ed pn (ed pf (oF (o.ld 0 rfl rfl) ?_))))))));rw[mN,gZ];obtain⟨D,s4,r4⟩:=o.Y3 (E:=eN) (xs:=[to]) (ws:=iT [to]) (n:=1) en rfl (wh _ _ _) false;have hg:(a.new (.cells 3 1 true false (iT [to]))).get a.next=some (.cells 3 1 true false (iT [to])):=fi _ _;have D:ej (λl=>f l\/l=a.next) (a.new (.cells 3 1 true false (iT [to]))) (Fo lf u1 vv vb vs iQ az ds):=D;have s4:Sn f a (λl=>f l\/l=a.next) (a.new (.cells 3 1 true false (iT [to]))):=s4;have r4:iG eN (λl=>f l\/l=a.next) (a.new (.cells 3 1 true false (iT [to]))) [to] (.slice a.next 0 1):=r4;generalize a.new (.cells 3 1 true false (iT [to]))=h4 at*;generalize ag:(λl=>f l\/l=a.next)=F4 at*;have f4:F4 a.next:=by rw[<-ag];exact .inr rfl
  obtain ⟨l5,o5,h5,c1,c2,n5,H5,S⟩:=D.stP 2 rfl (k:=i) (j:=1) (u:= .int .i64 1) (y:={B with fin:=1}) d (by decide) rfl λw ⟨v,n,p,e,q⟩=>by
   rw[eB]at e q;subst e;exact⟨v,n,p,rfl,q⟩
  refine ed c1 (ed pf ⟨⟨hg,O.lC _ _ _ _ _⟩,D.ld 0 rfl rfl,D.ld 0 rfl rfl,D.ld 0 rfl rfl,?_⟩);rw[show gh 1 (.ptr l5 (o5+1)) _ h4=_ from c2,ei];obtain⟨l6,o6,h6,d1,d2,n6,H6,s6⟩:=H5.stP 2 rfl (k:=i) (j:=2) (u:= .int .i64 0) (y:={B with fin:=1,cond:=0}) (by rw[Lm];exact d) (by decide) rfl λw ⟨v,n,p,e,q⟩=>by
   rw[List.getElem_set_self]at e q;subst e;exact⟨v,n,p,rfl,q⟩
  refine ⟨n5,ed d1 (ed pf ⟨⟨by rw[S.fe _ f4];exact hg,O.lC _ _ _ _ _⟩,?_⟩)⟩;rw[show gh 1 (.ptr l6 (o6+2)) _ h5=_ from d2,ei];have r6:=(r4.since S).since s6;obtain⟨l7,o7,h7,g1,g2,n7,T,s7⟩:=H6.stP 2 rfl (k:=i) (j:=3) (u:= .slice a.next 0 1) (y:=Od B to) (by rw[Lm,Lm];exact d) (by decide) rfl λw ⟨v,n,p,e,V,_,q3⟩=>by
   rw[List.getElem_set_self]at e V q3;subst e;exact⟨v,_,p,rfl,V,r6,q3⟩
  refine⟨n6,ed g1 (ed pf ⟨⟨by rw[s6.fe _ f4,S.fe _ f4];exact hg,O.lC _ _ _ _ _⟩,?_⟩)⟩;rw[show gh 1 (.ptr l7 (o7+3)) _ h6=_ from g2,ei];have T:ej F4 h7 (Fo lf {u1 with blocks:=((u1.blocks.set i {B with fin:=1}).set i {B with fin:=1,cond:=0}).set i (Od B to)} vv vb vs iQ az ds):=T;rw[List.set_set,List.set_set]at T;refine⟨n7,r8 ((((ae.trans s4).trans S).trans s6).trans s7) T (t.step G J hf2 ⟨y,C,hk2,rfl⟩ z _) (λb hb=>?_) (λb A n hb x r m=>?_) λn _ ⟨y',s,_,e3⟩=>?_⟩
  ·show(u1.blocks.set i _)[b]? =_;rw[IB (by omega)];exact vC b (by omega)
  ·obtain⟨t2,V,q2⟩:=M b A n hb x r m;refine⟨t2,V,?_⟩;show(u1.blocks.set i _)[b]? =_;rw[IB (by have:b<i:=hb;omega)];exact q2
  ·rw[C]at s;cases s;rw[e3]at z;exact⟨to,z,Mt d⟩
 by_cases hz:tm y.n=0
 ·refine gI hz (oF (o.ld 4 rfl rfl) (ed b1 (ed b2 (L _ ?_))));rw[if_pos hz];exact n1
 ·refine gv hz (L _ ?_);rw[if_neg hz];exact n0
end
open Un Dm
def PhF(u1:U)(z a:List Int):Prop:=(a=z/\∀v r,¬VK u1 v r)\/∃v r,VK u1 v r/\a=z.set v (r:Int)/\∀w r,w<v->¬VK u1 w r
def AgR(u:U)(i:Nat)(c:Bool)(u2:U)(az:List Int):Prop:=∃(u1:U)(d c2 e f:Bool)(a:List Int),AgX u i c u2 az u1 d c2 e f a/\(1<=i->VP u u1 λv=>v<u.ef.length)/\(2<=i->PhF u1 (vt u) a)/\(3<=i->∀v,OB u1 v->az[v]? =some (-1))/\(4<=i->Pl u1 u2 λb=>b<u1.blocks.length)
structure Jj (u u1 u2:U) (az:List Int):Prop where
 ef:VP u u1 λv=>v<u.ef.length
 az:∃a,PhF u1 (vt u) a/\az.length=a.length/\(∀v,az[v]? =a[v]?\/(az[v]? =some (-1)/\OB u1 v))/\∀v,OB u1 v->az[v]? =some (-1)
 ends:Hg u1 u2
 all:Pl u1 u2 λb=>b<u1.blocks.length
theorem AgR.pass{u u2:U}{c:Bool}{az:List Int}(A:AgR u 4 c u2 az):∃u1,Pass u c u1 u2 az/\Jj u u1 u2 az:=by
 obtain⟨u1,j,c2,k,l,a,A,b,d,f,g⟩:=A;have P:=AgX.pass A;obtain⟨t,p1,m,h,i,n,o,p,rfl,_,_,_,_⟩:=A;exact⟨u1,P,b (by decide),⟨a,d (by decide),h,i,f (by decide)⟩,P.e,g (by decide)⟩
theorem VK.uniq{u:U}{v r s:Nat}(h:VK u v r) (h':VK u v s):r=s:=by
 obtain⟨x,hx,_,b,c,e⟩:=h;obtain⟨y,a,_,f,g,d⟩:=h';rw[hx]at a;cases a;exact((d r c).resolve_left b)
theorem PhF.uniq{u:U}{z a b:List Int}(h:PhF u z a) (h':PhF u z b):a=b:=by
 rcases h with⟨rfl,e⟩|⟨v,r,e,rfl,f⟩
 ·rcases h' with⟨rfl,_⟩|⟨v,r,d,_⟩
  ·rfl
  ·exact absurd d (e v r)
 ·rcases h' with⟨rfl,d⟩|⟨w,s,d,rfl,g⟩
  ·exact absurd e (d v r)
  ·obtain rfl:v=w:=by
    by_cases c:v<w
    ·exact absurd e (g v r c)
    ·by_cases c2:w<v
     ·exact absurd d (f w s c2)
     ·omega
   rw[e.uniq d]
theorem Jj.uniq{u u1 u2 a1 a2:U}{az f:List Int}(p:Jj u u1 u2 az)(q:Jj u a1 a2 f):u1=a1/\u2=a2/\az=f:=by
 obtain rfl:=p.ef.uniq q.ef;have g:az=f:=by
  obtain⟨y,a,d,i,j⟩:=p.az;obtain⟨z,m,A,o,r⟩:=q.az;obtain rfl:=a.uniq m;refine So λv=>?_;by_cases c:OB u1 v
  ·rw[j v c,r v c]
  ·rw[(i v).resolve_right λh=>c h.2,(o v).resolve_right λh=>c h.2]
 refine ⟨rfl,?_,g⟩;have hb:u2.blocks=a2.blocks:=by
  refine So λb=>?_;by_cases hl:b<u1.blocks.length
  ·have e:=g0 hl;by_cases c:u1.blocks[b].fin=2/\∃n,Kw u1 u1.blocks[b].cond n
   ·obtain⟨c,n,k⟩:=c;obtain⟨t,s,w⟩:=p.all b _ n hl e c k;obtain⟨t',l,x⟩:=q.all b _ n hl e c k;rw[s]at l;cases l;rw[w,x]
   ·rw[(p.ends.vf b _ e).resolve_right λ⟨a,n,_,d,_⟩=>c ⟨a,n,d⟩,(q.ends.vf b _ e).resolve_right λ⟨a,n,_,d,_⟩=>c ⟨a,n,d⟩]
  ·rw[JA (by rw[p.ends.len];omega),JA (by rw[q.ends.len];omega)]
 have a:=p.ends.func.trans q.ends.func.symm;have d:=p.ends.pc.trans q.ends.pc.symm;have i:=p.ends.ef.trans q.ends.ef.symm;have j:=p.ends.eh.trans q.ends.eh.symm;cases u2;cases a2
 simp_all
section
variable{F F':Nat->Prop}{h h':Hp}{cs ds:List Pc}{Q:fq}{u:U}{vv vb vs iQ:V}{az:List Int}{lf:Nat}
theorem AgR.start(g:Good u)(a:oh u):AgR u 0 false u (vt u):=⟨u,false,false,false,false,vt u,⟨(Ri.start g a).more λ_ v h=>by omega,λ_=>rfl,λh=>(nomatch h),rfl,λ_=> .inl rfl,λ_=>rfl,λh=>(nomatch h),(CJ.start u).more λ_ b h=>by omega,rfl,λ_=>⟨rfl,rfl⟩,λ_=>rfl,λ_=>rfl,λ_=>⟨rfl,rfl⟩⟩,λh=>by omega,λh=>by omega,λh=>by omega,λh=>by omega⟩
theorem Vy(g:Good u)(ha:oh u)(X:vs.one=true)(aa:iQ.one=true)(p:ej F h (er lf Hr [.int .i64 u.func,.int .i64 u.pc,vv,vb,vs,iQ]::ev eV gi u.ef vv::ev eK fo u.blocks vb::ds))
  (H:∀F' h' u2 av az c,Sn F h F' h'->ej F' h' (Fo lf u2 vv vb vs av az ds)->AgR u 4 c u2 az->Q (.bool c) h') :
  cP CS na [.ptr lf 0] h Q:=by
 refine E3 rfl rfl ?_;unfold xx;have y:fZ (uC u vv vb vs)=true:=by simp only[uC,eo,p.one 1 rfl,p.one 2 rfl,X];rfl
 refine ed pn (ed pf (ed (ld5 p 0 rfl) (JQ y (p.len 1 rfl) g.nv p λh1 av Y L=>ed pn (ed pf ?_))));obtain⟨Z,e2,_,s,s2⟩:=L.st 1 (o:=5) (u:=av) rfl (by simp) (L.one 0 rfl);rw[show gh 1 (.ptr lf (0+5)) av h1=_ from e2,ei];have s:ej F Z (ev eZ en (vt u) av::er lf Hr [.int .i64 u.func,.int .i64 u.pc,vv,vb,vs,av]::ev eV gi u.ef vv::ev eK fo u.blocks vb::ds):=s;have s:ej F Z (Fo lf u vv vb vs av (vt u) ds):=s.perm [1,2,3,0] 4 (by decide) (by decide) (by simp);refine XT s λh3 lr s3 C=>ed rfl ?_;have C:ej F h3 (Fo lf u vv vb vs av (vt u) (er lr Kf Nu::ds)):=C.perm [1,2,3,4,0] 5 (by decide) (by decide) (by simp);have z:=(Y.trans s2).trans s3;obtain⟨I,M⟩:∃I:Nat->LP,I=λk l h'=>∃(F':Nat->Prop) (u2:U) (az:List Int) (c:Bool) (i:Nat),l=[.ptr lf 0,.bool c,.slice lr 0 4,.int .i64 (4:Nat),.int .i64 i]/\i+k=4/\Sn F h F' h'/\ej F' h' (Fo lf u2 vv vb vs av az (er lr Kf Nu::ds))/\AgR u i c u2 az:=⟨_,rfl⟩
 refine BE I (λk x0 x3 ab ac ae w hi=>?_) (k:=4) (by rw[M];exact⟨F,u,vt u,false,0,rfl,rfl,z,C,AgR.start g ha⟩);clear p L s C Y s2 s3 z;rw[M]at hi;obtain⟨F4,f,az,c,i,⟨⟩,hk,s4,a,u1,D,c2,c3,c4,E,⟨t,p1,G,N,g2,x,g4,e1,ec,i4,J,O,i1⟩,K,P,y3,y4⟩:=hi;unfold ud;by_cases hi:i<4;rotate_left
 ·refine jf ?_;obtain rfl:i=4:=by omega
  exact H F4 w f av az c s4 (a.perm [4,0,1,2,3] 5 (by decide) (by decide) (by simp)).tail ⟨u1,D,c2,c3,c4,E,⟨t,p1,G,N,g2,x,g4,e1,ec,i4,J,O,i1⟩,K,P,y3,y4⟩
 obtain⟨rfl,rfl⟩:=i4 hi
 have fin:∀{F' h' u' iR c' d},Sn F4 w F' h'->ej F' h' (Fo lf u' vv vb vs av iR (er lr Kf Nu::ds))->AgR u (i+1) d u' iR->(c' ||c)=d->
   oP (uP (.bool c') (some (.bool c))) (λR=>oP (eJ .add 3 (.int .i64 i) (.int .i64 1)) λS=>A4 I k [.ptr lf 0,R,.slice lr 0 4,.int .i64 (4:Nat),S] h'):=λ{F' h' u' iR c' d} s' H' A e=>by
  refine ed (pD _ _) (fS ⟨k-1,by omega,?_⟩);rw[M,e];exact⟨F',u',iR,d,i+1,rfl,by omega,s4.trans s',H',A⟩
 subst ec;refine gR (ed (vN _ _ _ _ _ _ hi) ?_);have lz:∀{az:List Int},az=E->c2=false->az.length=f.ef.length:=λe q=>by rw[e,p1 q,Au,t.len]
 obtain rfl|rfl|rfl|rfl:i=0\/i=1\/i=2\/i=3:=by omega
 ·refine ed (a.ld 4 (o:=0+0*1) rfl rfl) ?_;show cP CS iX [.ptr lf 0] w _;obtain⟨rfl,rfl⟩:=i1 (by omega);obtain rfl:=O (by omega);obtain rfl:=J (by omega);refine RU t.BB t.args X a λT V W j m n t5 v5=>fin m n ⟨W,j,false,false,false,E,⟨t5.more λ_ v h=> .inl h.2,p1,λh=>(nomatch h),N,λv=> .inl (by rw[x rfl]),x,λh=>(nomatch h),(CJ.start W).more λ_ b h=>by omega,rfl,λ_=>⟨rfl,rfl⟩,λ_=>rfl,λ_=>rfl,λh=>by omega⟩,λ_=>v5,λh=>by omega,λh=>by omega,λh=>by omega⟩ (by simp)
 ·refine ed (a.ld 4 (o:=0+1*1) rfl rfl) ?_;show cP CS jC [.ptr lf 0] w _;obtain rfl:=O (by omega);obtain rfl:=J (by omega);obtain rfl:=x rfl;refine V6 t.BB t.args (lz rfl rfl) a λT V B j m n t5 t6=>fin m n ⟨f,D,j,false,false,B,⟨t.more λ_ v h=> .inl ⟨by omega,h.2⟩,λh=>(t5 h).1.trans (p1 rfl),λh=>?_,rfl,λv=> .inl rfl,λ_=>rfl,λh=>(nomatch h),(CJ.start f).more λ_ b h=>by omega,rfl,λ_=>⟨rfl,rfl⟩,λ_=>rfl,λh=>by omega,λh=>by omega⟩,λ_=>K (by omega),λ_=>?_,λh=>by omega,λh=>by omega⟩ (by simp)
  ·rw[<-p1 rfl];obtain⟨v,r,q1,q2,_⟩:=t6 h;exact⟨v,r,q1,q2⟩
  ·rw[<-p1 rfl]
   cases j with
   |false=>exact .inl (t5 rfl)
   |true=>exact .inr (t6 rfl)
 ·refine ed (a.ld 4 (o:=0+2*1) rfl rfl) ?_;show cP CS iU [.ptr lf 0] w _;obtain rfl:=J (by omega);obtain rfl:=x rfl;have hl:az.length=f.ef.length:=by
   cases c2 with
   |false=>exact lz rfl rfl
   | true=>
     obtain⟨v,r,_,e⟩:=G rfl;rw[e,Lm,Au,t.len]
  refine RP t.BB hl a λT V B j m n t5 t6 t7 t8 t9=>fin m n ⟨f,D,c2,j,false,az,⟨t.more λ_ v h=> .inl ⟨by omega,h.2⟩,p1,G,t5,t6,t7,t8,(CJ.start f).more λ_ b h=>by omega,rfl,λ_=>⟨rfl,rfl⟩,λh=>by omega,λh=>by omega,λh=>by omega⟩,λ_=>K (by omega),λ_=>P (by omega),λ_=>t9,λh=>by omega⟩ (by simp)
 ·refine ed (a.ld 4 (o:=0+3*1) rfl rfl) ?_;show cP CS jA [.ptr lf 0] w _;refine Xd t.BB a λT V W j m n t5 t6=>fin m n ⟨f,D,c2,c3,j,E,⟨t.more λ_ v h=> .inl ⟨by omega,h.2⟩,p1,G,N,g2,x,g4,t5.more λ_ b h=> .inl h.2,rfl,λh=>by omega,λh=>by omega,λh=>by omega,λh=>by omega⟩,λ_=>K (by omega),λ_=>P (by omega),λ_=>y3 (by omega),λ_=>t6⟩ (by simp)
end
open Un Dm
inductive oQ:U->U->Prop
 |stop {u u1 u2:U} {az:List Int} (p:Pass u false u1 u2 az) (f:Jj u u1 u2 az):oQ u (gG u (iL (vt u)))
 |go {u u1 u2 w z:U} {az iR:List Int} {kp:Nat->Bool} (p:Pass u true u1 u2 az) (f:Jj u u1 u2 az) (hk:∀b,kp b=true↔∃l,Pt (next u2) b l) (a:Cut u2 kp w) (c:Ce u2 kp az iR) (r:oQ (gG w (iL iR)) z):oQ u z
theorem keeps{u2:U}{seen:List Bool}{post:List Nat}{kp:Nat->Bool}(G:CL u2.blocks.length (next u2) seen post [])(a:kp=λb=>post.reverse.contains b):∀b,kp b=true↔∃l,Pt (next u2) b l:=λb=>by
 rw[a,wBG,Xq];refine⟨λh=>?_,λ⟨l,c⟩=>HY G c⟩;obtain⟨l,r,e⟩:=wB7 h;exact OO G _ l r b (jb _) e
theorem XD{u a b:U}{kp:Nat->Bool}(p:Cut u kp a)(q:Cut u kp b):a=b:=by
 have hv:a.ef=b.ef:=by
  refine So λv=>?_;by_cases hl:v<u.ef.length
  ·have hx:=g0 hl;by_cases c:u.ef[v].op=21/\∃b k,At u v b k/\kp b=true
   ·obtain⟨c,d,k,e,f⟩:=c;obtain⟨B,g,_⟩:=id e;rw[p.Ae v d k _ B e hx c f g,q.Ae v d k _ B e hx c f g]
   ·rw[p.same v _ hx c,q.same v _ hx c]
  ·rw[JA (by rw[p.len];omega),JA (by rw[q.len];omega)]
 have h:=p.func.trans q.func.symm;have i:=p.pc.trans q.pc.symm;have j:=p.eh.trans q.eh.symm;have l:=p.blocks.trans q.blocks.symm;cases a;cases b
 simp_all
theorem SN{u:U}{kp:Nat->Bool}{az a b:List Int}(p:Ce u kp az a)(q:Ce u kp az b):a=b:=by
 refine So λv=>?_;by_cases c:∃b k,At u v b k/\kp b=false
 ·obtain⟨d,k,e,f⟩:=c;by_cases hl:v<az.length
  ·rw[p.gone v d k e f hl,q.gone v d k e f hl]
  ·rw[JA (by rw[p.len];omega),JA (by rw[q.len];omega)]
 ·rw[p.same v c,q.same v c]
theorem Pass.apart{u u1 u2 a1 a2:U}{az a:List Int}(p:Pass u true u1 u2 az)(f:Jj u u1 u2 az)(q:Pass u false a1 a2 a) (b:Jj u a1 a2 a):False:=by
 obtain⟨rfl,rfl,rfl⟩:=f.uniq b;obtain⟨c,d,e,_⟩:=q.same rfl;rcases p.less rfl with h|⟨v,x,hx,_,hs⟩
 ·rw[c]at h;omega
 ·rw[d]at hx;unfold stays at hs;rw[e,tw (Hv (jk.1 hx).1),beq_self_eq_true]at hs;cases hs
theorem oQ.uniq{u a b:U}(h:oQ u a) (h':oQ u b):a=b:=by
 induction h with
 | stop p f=>
   cases h' with
   |stop _ _=>rfl
   |go q d _ _ _ _=>exact(q.apart d p f).elim
 | @go u u1 u2 w z az iR kp p f hk e i r l=>
   cases h' with
   |stop q d=>exact(p.apart f q d).elim
   | @go _ _ _ n _ _ m j q d k c g r'=>
     obtain⟨rfl,rfl,rfl⟩:=f.uniq d;obtain rfl:kp=j:=funext λb=>Th.2 ((hk b).trans (k b).symm);obtain rfl:=XD e c;obtain rfl:=SN i g;exact l r'
section
variable{F F':Nat->Prop}{h h':Hp}{cs ds:List Pc}{Q:fq}{u:U}{vv vb vs iQ wv wb ws:V}{az:List Int}{lf:Nat}{xs:List (Vl×V)}{bs:List (Bk×V)}{ss:List (List (Fm×V×V))}{fa fn:Nat->Option (List Nat×V)}{fl:KF->Option (List Nat×V)}
theorem WS(g:Good u)(ha:oh u)(H0:ej F h cs)(hu:tL F h u vv vb vs)
  (H:∀F' h' u' wv wb ws,Sn F h F' h'->ej F' h' cs->tL F' h' u' wv wb ws->zcd u u'->oQ u u'->Q (.agg (uC u' wv wb ws)) h') :
  cP CS wk [.agg (uC u vv vb vs)] h Q:=by
 refine PW rfl rfl ?_;unfold Jn;refine jP H0 hu.one λh1 H1 s1=>rh H1 λD H2 s2=>?_;generalize h.next=l1 at*;generalize h1.next=l2 at*;have u2:=(hu.since s1).since s2;refine ed (H2.oL 1 rfl rfl) (LD g H2 u2 λF3 h3 s3 H3=>TS (jF (gv (by simp) (ed (H3.oL 1 rfl rfl) ?_))));refine J2 (vL g ha) H3 (u2.since s3) λF4 h4 wv wb ws xs bs ss fa fn fl s4 hc hb hs H4=>?_;obtain⟨G,H5,s5,r5⟩:=H4.zcz hc hb hs;refine ed (show _=some (V.agg [.int .i64 u.func,.int .i64 u.pc,wv,wb,ws,.ee]) from rfl) ?_;refine jP H5 (by simp only[eo,H5.one 0 rfl,H5.one 1 rfl,r5.one];rfl) λh6 H6 s6=>?_;generalize h4.next=lf at*;have ac:=((((s1.trans s2).trans s3).trans s4).trans s5).trans s6;obtain⟨z2,L⟩:∃z2:List V,z2=[.int .i64 0,.int .i64 0,.ee,.ee,.ee]:=⟨_,rfl⟩
 obtain ⟨I,hI⟩:∃I:Nat->LP,I=λk l h'=>∃(F':Nat->Prop) (u':U) (av xv xb xs:V),l=[.ptr l2 0,.ptr lf 0]/\mu u'<=k/\Sn F h F' h'/\Good u'/\oh u'/\tQ u u'/\u'.func=u.func/\u'.pc=u.pc/\(∀p:Nat->Prop,p 2->(∀x∈u.ef,p x.op)->∀y∈u'.ef,p y.op)/\u'.blocks.length<=u.blocks.length/\(∀z,oQ u' z->oQ u z)/\av.one=true/\iG (eL eF) F' h' u'.eh xs/\
   ej F' h' (er lf Hr [.int .i64 u'.func,.int .i64 u'.pc,xv,xb,xs,av]::ev eV gi u'.ef xv::ev eK fo u'.blocks xb::er l2 fT z2::er l1 fT (uC u vv vb vs)::cs):=⟨_,rfl⟩
 refine K0 I (λk x2 x3 h7 hi=>?_) (k:=mu u) (by
  rw[hI,L];exact⟨G,u,.ee,wv,wb,ws,rfl,jb _,ac,g,ha,.refl _,rfl,rfl,λ_ _ h=>h,jb _,λ_ h=>h,rfl,r5.since s6,H6⟩)
 rw[hI]at hi;obtain⟨F7,u7,av,xv,xb,xs,⟨⟩,hm,s7,M,a7,d7,N,O,P,R,S,ae,r7,H7⟩:=hi;unfold DA;refine Vy M a7 r7.one ae H7 λF8 h8 u8 ag ah c s8 t A=>?_;obtain⟨u1,p,T⟩:=A.pass;obtain⟨sz,gc⟩:=p.YS;have rs:iG (eL eF) F8 h8 u8.eh xs:=by rw[p.st];exact r7.since s8
 have W:ah.length=u8.ef.length:=by rw[p.len,p.e.ef]
 have X:fZ (uC u8 xv xb xs)=true:=by simp only[uC,eo,t.one 1 rfl,t.one 2 rfl,rs.one];rfl
 cases c with
 | true=>
   refine jF (gI rfl (ed pn (ed pf (ed (ld5 t 0 rfl) (oN (t.ld 0 rfl rfl) ?_)))));obtain⟨H9,E,q9⟩:=t.lH 1 rfl;obtain⟨o,j,B⟩:=H9.lH 2 rfl;have o:=o.perm [3,0,4,5] 6 (by decide) (by decide) (by simp);refine Pq sz gc W (λkp w iR seen post G d a f=>(p.cut G d a f).1) o ⟨q9.since j,B,(rs.since E).since j⟩ λai aj kp w iR seen post J K ys m i G d a f r11=>⟨m.next,ed pn (ed pf ?_)⟩
   obtain⟨_,nx⟩:=p.cut G d a f;have Y:∀z,oQ (gG w (iL iR)) z->oQ u7 z:=λz hz=> .go p T (keeps G d) a f hz;generalize gG w (iL iR)=r at*;obtain⟨ak,al,am,C,s⟩:=st5 (a':= .int .i64 r.func) (b':= .int .i64 r.pc) (c':=J) (d':=K) (e':=ys) i 2 rfl (by simp only[eo,i.one 0 rfl,i.one 1 rfl,r11.one];rfl);rw[show gh 5 (.ptr lf (0+0)) (.agg (uC r J K ys)) aj=_ from al,ei];refine⟨am,mu r,by have:=nx.less rfl;omega,?_⟩;rw[hI];have Z:=(((s8.trans E).trans j).trans m).trans s
   exact⟨ai,r,ag,J,K,ys,rfl,jb _,s7.trans Z,nx.BB,nx.args,d7.trans nx.JF,nx.func.trans N,nx.pc.trans O,λq D h=>nx.ops q D (P q D h),BX nx.nb R,λz hz=>S z (Y z hz),(t.one 3 rfl),r11.since s,C.perm [2,0,1,3,4] 5 (by decide) (by decide) (by simp)⟩
 | false=>
   have p0:=p;have an:=T;obtain⟨rfl,rfl,rfl,dn⟩:=p.same rfl;refine jF (gv (by simp) (ed pn (ed pf (ed (ld5 t 0 rfl) (ed pn (ed pf (ed (ld5 t 0 rfl) (JQ X (t.len 1 rfl) M.nv t λh9 aw E H9=>⟨E.next,ld5 H9 1 rfl,?_⟩))))))));have r9:=rs.since E;obtain⟨o,j,B⟩:=H9.lH 2 rfl;obtain⟨i,m,ao⟩:=o.lH 3 rfl;have i:=i.perm [0,5,6] 7 (by decide) (by decide) (by simp);refine QJ sz gc W (λkp w iR seen post G d a f=>(p.cut G d a f).1) i ⟨B.since m,ao,(r9.since j).since m⟩ λap ak kp w iR seen post J K ys s C G d a f r12=>⟨s.next,?_⟩
   obtain ⟨_,nx⟩:=p.cut G d a f;have v:∀b,b<u1.blocks.length->kp b=true:=λb hb=>by
     obtain⟨l,hl⟩:=M.reach b hb;rw[d,wBG,Xq];exact HY G hl
   obtain rfl:=a.eq M v;obtain rfl:=f.eq v;subst L;obtain⟨aq,ar,au,aa,ab⟩:=C.Uf 0 (ws:=uC (gG w (iL (vt w))) J K ys) (n:=5) rfl rfl rfl r12.one;rw[ar,ei];refine⟨au,ed (aa.oL 0 rfl rfl) ?_⟩;exact H ap aq _ J K ys ((((((s7.trans s8).trans E).trans j).trans m).trans s).trans ab) aa.tail.tail (r12.since ab) ⟨nx.BB,nx.args,d7.trans nx.JF,nx.func.trans N,nx.pc.trans O,λq D h=>nx.ops q D (P q D h),BX nx.nb R,w,M,dn,rfl⟩ (S _ (.stop p0 an))
end
