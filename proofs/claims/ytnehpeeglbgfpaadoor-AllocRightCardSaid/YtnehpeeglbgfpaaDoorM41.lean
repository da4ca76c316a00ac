/- Parts. -/
import Derived.Test.YtnehpeeglbgfpaaDoorM40
set_option maxHeartbeats 4000000
namespace Go.Proofs.YtnehpeeglbgfpaaDoor.Hx
open Un Dm
section
variable{u:U}{P:Nat->Prop}{w:Nat}
theorem OD:∀{l d:List Nat},bh u (l++d) P w->bh u d P w\/∃(n:Nat)(x:Nat),l[n]? =some x/\gi u x=false/\w∈sY u x
 |[],_,h=> .inl h
 | y ::l,d,h=>by
   have h':if gi u y=true then bh u (l++d) P w else(bh u (l++d) P w/\w≠y)\/w∈sY u y:=h
   have up:bh u (l++d) P w->bh u d P w\/∃(n:Nat) (x:Nat),(y::l)[n]? =some x/\gi u x=false/\w∈sY u x:=λh=>(OD h).imp id λ⟨n,x,a,b⟩=>⟨n+1,x,a,b⟩
   split at h'
   ·exact up h'
   ·rename_i e
    rcases h' with h'|h'
    ·exact up h'.1
    ·exact .inr ⟨0,y,rfl,by simpa using e,h'⟩
theorem NO:∀{l d:List Nat},bh u d P w->w ∉ l->bh u (l++d) P w
 |[],_,h,_=>h
 |y::l,d,h,hn=>KR (NO h λa=>hn (V4 _ a)) λe=>hn (e▸M9 ..)
end
section
variable{u:U}(g:Good u){In Out:Nat->Nat->Prop}(h:lR u (gw u) In Out)
include g
theorem Nf{x b m w:Nat}(c:At u x b m)(h:gi u x=false)(a:w∈sY u x):O2 u w b m:=by
 obtain⟨y,d,i⟩:=g.Eg c;unfold sY at a;rw[d]at a;rcases AI.1 a with a|a
 ·refine g.NR x b m y c d (λe=>?_) w a;rw[i,e]at h;cases h
 ·split at a
  ·rename_i j;unfold nG at a;split at a
   ·rename_i fs f;exact g.NT x b m y fs c d j f w a
   ·cases a
  ·cases a
include h
theorem PI{v b i w:Nat}(y:At u v b i)(D:w<u.ee.length)(a:bh u ((ik u b).drop (i+1)) (Out b) w)(z:w≠v) :
  ∃c j,At u w c j/\((c≠b/\wA (next u) c b)\/(c=b/\(j<i\/(i<j/\gi u w=true)))):=by
 have p:b<u.blocks.length:=by obtain⟨B,d,_⟩:=y;exact(jw.1 d).1
 obtain⟨c,j,hc⟩:=g.DB w D trivial;refine⟨c,j,hc,?_⟩;by_cases e:c=b
 ·subst e;refine .inr ⟨rfl,?_⟩;by_cases hj:j<i
  ·exact .inl hj
  have E:j≠i:=λe=>by
   subst e;exact z (Option.some.inj ((hX.2 hc).symm.trans (hX.2 y)))
  refine .inr ⟨by omega,?_⟩;by_cases k:gi u w=true
  ·exact k
  exfalso;have r:=(jw.1 (hX.2 hc)).1;have s:=(jw.1 (hX.2 hc)).2;have split:(ik u c).drop (i+1)=((ik u c).drop (i+1)).take (j-(i+1))++(w::(ik u c).drop (j+1)):=by
   conv=>lhs;rw[<-Vh (j-(i+1)) ((ik u c).drop (i+1))]
   rw[TX,show i+1+(j-(i+1))=j by omega,YL r,s]
  rw [split]at a;have o:∀m x,At u x c m->m<=j->gi u x=false->w∈sY u x->False:=λm x F A k G=>by
   obtain⟨c',H,d,f⟩:=Nf g F k G;obtain⟨rfl,rfl⟩:=g.JC _ _ _ _ _ hc d;rcases f with f|f
   ·omega
   ·exact f.1 rfl
  rcases OD a with a|⟨n,x,d,f,I⟩
  ·unfold bh at a;rw[if_neg k]at a;rcases a with a|a
   ·exact a.2 rfl
   ·exact o j w hc (jn _) (by simpa using k) a
  ·rw[List.getElem?_take]at d;split at d
   ·rename_i z;rw[V0]at d;exact o _ x (hX.1 d) (by omega) f I
   ·cases d
 ·refine .inl ⟨e,?_⟩;have t:In b w:=by
   have C:=NO (l:=(ik u b).take (i+1)) a λA=>e ?_
   ·rw[Vh]at C;exact(Yj g h p).2 C
   ·obtain⟨q,hq⟩:=mM.1 A;rw[List.getElem?_take]at hq;split at hq
    ·exact(g.JC _ _ _ _ _ hc (hX.1 hq)).1
    ·cases hq
  obtain⟨c',H,d,f,_⟩:=g.Xi h t;obtain⟨rfl,rfl⟩:=g.JC _ _ _ _ _ hc d;exact f
omit h g in
theorem HZ {post:List Nat}{seen:List Bool}{n:Nat}(G:Fz n (next u) seen post [])(hr:∀b,b∈post->∃l,Pt (next u) b l):∀(k:Nat){r l:List Nat}{c b:Nat},r.length<=k->post=l++b::r->wA (next u) c b->c≠b->c∈r
 | k,r,l,c,b,hk,hp,hd,hn=>by
   rcases G.early l b r hp with rfl|⟨p,h1,h2|h2⟩
   ·have:=hd _ .nil
    exact absurd (Ig.1 this) hn
   ·by_cases e:c=p
    ·subst e;exact h2
    obtain⟨r1,r2,rfl⟩:=List.append_of_mem h2;have hl:r2.length<(r1++p::r2).length:=by simp;omega
    match k,hk with
    |0,hk=>simp at hk
    | k+1,hk=>
      have:=HZ G hr k (r:=r2) (l:=l++b::r1) (c:=c) (b:=p) (by omega) (by rw[hp];simp) (NX hd hn h1) e;simp[this]
   ·cases h2
end
def Dn(u:U)(ord:List Nat)(n i w:Nat):Prop:=∃m c j,ord[m]? =some c/\At u w c j/\(m<n\/(m=n/\j<i))
structure Qb (u:U) (Out:Nat->Nat->Prop) (ord:List Nat) (n i:Nat) (of:List Int) (done:List Bool) (fw:Int):Prop where
 len:of.length=u.ee.length
 dl:done.length=u.ee.length
 dn:∀w,On done w↔Dn u ord n i w
 pl:∀k∈of,GD fw k
 s0:0<=fw
 s1:fw<=(done.count true:Nat)
 ap:∀m c j v,ord[m]? =some c->At u v c j->On done v->∀w,w<u.ee.length->bh u ((ik u c).drop (j+1)) (Out c) w->w≠v->Dn u ord m j w->of[w]?≠of[v]?
 hd:∀c j v,At u v c j->On done v->gi u v=true->∀a w,a<j->At u w c a->gi u w=true->of[w]?≠of[v]?
 ZY:∀c j v k,At u v c j->On done v->of[v]? =some k->16<=k->∀r:Nat,r<12->∃w,w≠v/\On done w/\of[w]? =some (r:Int)/\(bh u ((ik u c).drop (j+1)) (Out c) w\/(gi u v=true/\gi u w=true/\∃a,At u w c a))
 sl:0<fw->∃c j v k,At u v c j/\On done v/\of[v]? =some k/\16<=k
section
variable{u:U}(g:Good u){Out:Nat->Nat->Prop}{ord:List Nat}{n i:Nat}{of:List Int}{done:List Bool}{fw:Int}
theorem Qb.start(u:U)(Out:Nat->Nat->Prop)(ord:List Nat):Qb u Out ord 0 0 (List.replicate u.ee.length 0) (List.replicate u.ee.length false) 0:=by
 have no:∀{w},¬On (List.replicate u.ee.length false) w:=λ{w} h=>by
  unfold On at h;rw[List.getElem?_replicate]at h;split at h <;> cases h
 refine⟨by simp,by simp,λw=>⟨λh=>(no h).elim,λ⟨m,c,j,_,_,h⟩=>?_⟩,λk a=>?_,by omega,by omega,λ_ _ _ v _ _ h=>(no h).elim,λ_ _ v _ h=>(no h).elim,λ_ _ v _ _ h=>(no h).elim,λh=>?_⟩
 ·omega
 ·rw[(List.mem_replicate.1 a).2];exact .inl ⟨by omega,by omega⟩
 ·omega
theorem Qb.block(A:Qb u Out ord n i of done fw){b:Nat}(f:ord[n]? =some b)(hi:i=(ik u b).length):Qb u Out ord (n+1) 0 of done fw:=
 { A with
   dn := λw=>by
     rw[A.dn w];constructor
     ·rintro⟨m,c,j,a,d,g⟩
      exact⟨m,c,j,a,d,by omega⟩
     ·rintro⟨m,c,j,a,d,g⟩
      have h:m<n\/m=n:=by omega
      refine⟨m,c,j,a,d,h.imp id λe=>⟨e,?_⟩⟩;subst e;rw[f]at a;cases a;rw[hi];exact(jw.1 (hX.2 d)).1}
include g
theorem Qb.step(A:Qb u Out ord n i of done fw)(s:ord.Nodup){b v:Nat}(J:ord[n]? =some b)(p:At u v b i){S:Int->Prop}{k:Int}
  (O:∀x,S x↔(gi u v=true/\∃j w,j<i/\At u w b j/\gi u w=true/\of[w]? =some x)\/∃w,bh u ((ik u b).drop (i+1)) (Out b) w/\w≠v/\On done w/\of[w]? =some x)
  (W:¬S k) (P:(0<=k/\k<12)\/(16<=k/\k<=16+fw/\∀r:Nat,r<12->S (r:Nat))) :
  Qb u Out ord n (i+1) (of.set v k) (done.set v true) (max fw (k-16+1)):=by
 have L:v<u.ee.length:=g.vR v b i p;have Q:v<of.length:=by rw[A.len];exact L
 have D:v<done.length:=by rw[A.dl];exact L
 have E:¬On done v:=λh=>by
  obtain⟨m,c,j,a,f,o⟩:=(A.dn v).1 h;obtain⟨rfl,rfl⟩:=g.JC _ _ _ _ _ p f;have:m=n:=(X0 (jw.1 a).1 s).1 (a.trans J.symm);omega
 have on:∀w,On (done.set v true) w↔w=v\/On done w:=λw=>by
  rw[rL D];constructor
  ·rintro(⟨e,_⟩|⟨_,e⟩)
   ·exact .inl e
   ·exact .inr e
  ·rintro(e|e)
   ·exact .inl ⟨e,rfl⟩
   ·by_cases F:w=v
    ·exact .inl ⟨F,rfl⟩
    ·exact .inr ⟨F,e⟩
 have t:(of.set v k)[v]? =some k:=G2 Q;have d:∀w,w≠v->(of.set v k)[w]? =of[w]?:=λw e=>Iv λe'=>e e'.symm;have R:∀w,Dn u ord n (i+1) w↔w=v\/Dn u ord n i w:=λw=>by
  constructor
  ·rintro⟨m,c,j,a,f,o⟩;by_cases hj:m=n/\j=i
   ·obtain⟨rfl,rfl⟩:=hj;rw[J]at a;cases a;exact .inl (Option.some.inj ((hX.2 f).symm.trans (hX.2 p)))
   ·exact .inr ⟨m,c,j,a,f,by omega⟩
  ·rintro(rfl|⟨m,c,j,a,f,o⟩)
   ·exact⟨n,b,i,J,p,by omega⟩
   ·exact⟨m,c,j,a,f,by omega⟩
 have X:fw<=max fw (k-16+1)/\k-16+1<=max fw (k-16+1):=⟨by omega,by omega⟩
 have M:∀m c j,ord[m]? =some c->At u v c j->m=n/\c=b/\j=i:=λm c j a f=>by
  obtain⟨rfl,rfl⟩:=g.JC _ _ _ _ _ p f;exact⟨(X0 (jw.1 a).1 s).1 (a.trans J.symm),rfl,rfl⟩
 refine⟨by rw[TF];exact A.len,by rw[TF];exact A.dl,λw=>by rw[on,R,A.dn],λx l=>?_,by have:=A.s0;omega,?_,?_,?_,?_,?_⟩
 ·rcases VJ l with l|rfl
  ·rcases A.pl x l with h|h
   ·exact .inl h
   ·exact .inr ⟨h.1,by omega⟩
  ·rcases P with h|h
   ·exact .inl h
   ·exact .inr ⟨h.1,by omega⟩
 ·have hc:(done.set v true).count true=done.count true+1:=by
   have h0:done[v]=false:=by
    cases l:done[v]with
    |false=>rfl
    |true=>exact absurd (show On done v by unfold On;rw[iH D,l]) E
   rw[List.count_set D,h0];simp
  rw[hc];have:=A.s1;rcases P with h|h <;> omega
 ·intro m c j x a f o w F y B K;by_cases l:x=v
  ·subst l;obtain⟨rfl,rfl,rfl⟩:=M m c j a f;rw[d w B,t];intro e;exact W ((O k).2 (.inr ⟨w,y,B,(A.dn w).2 K,e⟩))
  ·have hd:=((on x).1 o).resolve_left l;have G:w≠v:=λe=>by
    subst e;obtain⟨Z,c',H,I,z,C⟩:=K;obtain⟨rfl,rfl,rfl⟩:=M Z c' H I z;obtain⟨T,c2,j2,r1,r2,r3⟩:=(A.dn x).1 hd;obtain⟨rfl,rfl⟩:=g.JC _ _ _ _ _ f r2;have:m=T:=(X0 (jw.1 a).1 s).1 (a.trans r1.symm);omega
   rw[d w G,d x l];exact A.ap m c j x a f hd w F y B K
 ·intro c j x a f o H w y B K;have U:w≠x:=λe=>by
   subst e;have:=(g.JC _ _ _ _ _ a B).2;omega
  by_cases l:x=v
  ·subst l;obtain⟨rfl,rfl⟩:=g.JC _ _ _ _ _ p a;rw[d w U,t];intro e;exact W ((O k).2 (.inl ⟨o,H,w,y,B,K,e⟩))
  ·have hd:=((on x).1 f).resolve_left l;have G:w≠v:=λe=>by
    subst e;obtain⟨rfl,rfl⟩:=g.JC _ _ _ _ _ p B;obtain⟨T,c2,j2,r1,r2,r3⟩:=(A.dn x).1 hd;obtain⟨rfl,rfl⟩:=g.JC _ _ _ _ _ a r2;have:T=n:=(X0 (jw.1 r1).1 s).1 (r1.trans J.symm);omega
   rw[d w G,d x l];exact A.hd c j x a hd o H w y B K
 ·intro c j x q a f o y r Y;by_cases l:x=v
  ·subst l;obtain⟨rfl,rfl⟩:=g.JC _ _ _ _ _ p a;rw[t]at o;cases o;have V:=P.resolve_left λh=>by omega
   rcases(O _).1 (V.2.2 r Y)with⟨I,H,w,z,C,N,q5⟩|⟨w,I,z,C,N⟩
   ·have F:w≠x:=λe=>by
     subst e;have:=(g.JC _ _ _ _ _ p C).2;omega
    exact⟨w,F,(on w).2 (.inr ((A.dn w).2 ⟨n,_,H,J,C,.inr ⟨rfl,z⟩⟩)),by rw[d w F];exact q5,.inr ⟨I,N,H,C⟩⟩
   ·exact⟨w,z,(on w).2 (.inr C),by rw[d w z];exact N,.inl I⟩
  ·have hd:=((on x).1 f).resolve_left l;rw[d x l]at o;obtain⟨w,I,z,C,N⟩:=A.ZY c j x q a hd o y r Y;exact⟨w,I,(on w).2 (.inr z),by rw[d w λe=>E (e▸z)];exact C,N⟩
 ·intro hs;by_cases hk16:16<=k
  ·exact⟨b,i,v,k,p,(on v).2 (.inl rfl),t,hk16⟩
  ·obtain⟨c,j,x,q,a,f,o,y⟩:=A.sl (by omega);have l:x≠v:=λe=>E (e▸f);exact⟨c,j,x,q,a,(on x).2 (.inr f),by rw[d x l];exact o,y⟩
def XN(u:U)(Out:Nat->Nat->Prop)(of:List Int)(fw:Int):Prop:=0<fw->∃c j v,At u v c j/\∀r:Nat,r<12->∃w,w≠v/\of[w]? =some (r:Int)/\(bh u ((ik u c).drop (j+1)) (Out c) w\/(gi u v=true/\gi u w=true/\∃a,At u w c a))
theorem Qb.right{In:Nat->Nat->Prop}(h:lR u (gw u) In Out){post:List Nat}{seen:List Bool}(G:Fz u.blocks.length (next u) seen post [])(A:Qb u Out post.reverse post.reverse.length 0 of done fw)(S:u.ee.length<=399) :
  kT u Out of fw/\XN u Out of fw:=by
 have E:=Kz G;have x:∀b,b<u.blocks.length->∃m,post.reverse[m]? =some b:=λb s=>mM.1 (Qw.2 (D0 g G b s));have n:∀v c j,At u v c j->On done v:=λv c j d=>by
  have hc:c<u.blocks.length:=by obtain⟨B,e,_⟩:=d;exact(jw.1 e).1
  obtain⟨m,o⟩:=x c hc;exact(A.dn v).2 ⟨m,c,j,o,d,.inl (jw.1 o).1⟩
 refine⟨⟨A.len,A.s0,?_,A.pl,λc i=>⟨λv d J j w K y F=>?_,λv d w y s pe=>?_⟩⟩,λL=>?_⟩
 ·have e:=A.s1;have f:=List.count_le_length (a:=true) (l:=done);rw[A.dl]at f;omega
 ·exact A.hd c i v d (n v c i d) J j w K y F
 ·have hc:c<u.blocks.length:=by obtain⟨B,e,_⟩:=d;exact(jw.1 e).1
  obtain⟨m,o⟩:=x c hc;obtain⟨c',j,e,f⟩:=PI g h d y s pe;rcases f with⟨f,t⟩|⟨rfl,f|⟨f,t⟩⟩
  ·refine A.ap m c i v o d (n v c i d) w y s pe ?_;obtain⟨l,r,z⟩:=List.append_of_mem (Qw.1 (xu o));have C:=HZ G (λb s=>g.reach b (G.pre b s)) r.length (r:=r) (l:=l) (jn _) z t f;have p:post.reverse=r.reverse++c::l.reverse:=by rw[z];simp
   have H:m=r.length:=by
    have M:post.reverse[r.length]? =some c:=by rw[p];simp
    exact(X0 (jw.1 o).1 E).1 (o.trans M.symm)
   obtain⟨q,hq⟩:=mM.1 (Qw.2 C);have D:=(jw.1 hq).1;refine⟨q,c',j,by rw[p,Qg D];exact hq,e,.inl (by rw[H];simpa using D)⟩
  ·exact A.ap m c' i v o d (n v c' i d) w y s pe ⟨m,c',j,o,e,.inr ⟨rfl,f⟩⟩
  ·have I:=g.DN e t d (by omega);exact(A.hd c' j w e (n w c' j e) t i v f d I).symm
 ·obtain⟨c,j,v,k,e,f,t,N⟩:=A.sl L;exact⟨c,j,v,e,λr O=>let⟨w,P,_,Q,R⟩:=A.ZY c j v k e f t N r O;⟨w,P,Q,R⟩⟩
end
open Un Dm
section
variable{F F':Nat->Prop}{h h':Hp}{cs:List Pc}{Q:fm}{u:U}{vv vb vs:V}
theorem Cb{Q:fm}{b c:LP}{x y z A B C D d e a f g i j k l m:V} {h h':Hp}(G:Ii .i64 m a h=some h')(H:lU CS Q b c [x,y,z,A,B,C,D,d,e,a,f,g,i,j,k,l] h') :
  vt CS Q b c [x,y,z,A,B,C,D,d,e,a,f,g,i,j,k,l,m] h:=by
 refine JV.fill (F:=⟨63,64,65,66,67,14,68,69,13,4,61,3,.i64⟩) (by kernel_rfl) (λρ h=>by kernel_rfl) (by decide) rfl (λρ E=>?_) H;simp only[List.map_cons,List.map_nil,List.cons.injEq,and_true]at E;obtain⟨I,J,K,L,M,N,O,o,p,n,q,r,s,t,u,v,w⟩:=E;refine⟨by simp only[List.map_cons,List.map_nil,I,J,K,L,M,N,O,o,p,n,q,r,s,t,u,v],?_⟩;show Ii .i64 (ρ 63) (ρ 13) h=_;rw[w,n];exact G
theorem L2(g:Good u)(hn:u.ee.length<=390)(H0:er F h cs)(hu:Af F h u vv vb vs)
  (H:∀F' h' of uO fw In Out,Sn F h F' h'->er F' h' (fo eZ fy of uO::cs)->lR u (gw u) In Out->kT u Out of fw->XN u Out of fw->Q (.tuple [.agg [uO,.I fw],.I 0]) h') :
  cP CS mn [.agg (uC u vv vb vs)] h Q:=by
 refine EW rfl rfl ?_;unfold yP;have nb:=g.nb;refine qx H0 hu.one λq H1 s1=>?_;generalize h.next=lu at*;obtain⟨H2,s2⟩:=H1.GG kj [.ed,.I 0];rw[fJ];have H2:er F (q.new (.cells 32 1 true false [.ed,.I 0])) (ey q.next kj [.ed,.I 0]::ey lu 29 (uC u vv vb vs)::cs):=H2;have s2:Sn F q F (q.new (.cells 32 1 true false [.ed,.I 0])):=s2;generalize q.new (.cells 32 1 true false [.ed,.I 0])=p at*;generalize q.next=lr at*;have aq:=s1.trans s2;have u2:=hu.since aq;refine ec (H2.CI 1 rfl rfl) ?_;refine Lr g H2 u2 λF3 J s3 H3=>?_;refine yz (gU rfl ?_);refine ec (H3.CI 1 rfl rfl) ?_;refine OS g H3 (u2.since s3) λF4 r lv iT fR ins outs s4 H4 bU a3 hA=>?_;obtain⟨H5,s5,ri⟩:=H4.mi 0 rfl;simp only[ot]at H5;obtain⟨H6,s6,ro⟩:=H5.mi 1 rfl;simp only[AT,ot]at H6;have H6:=H6.tail.tail;have ar:=((aq.trans s3).trans s4).trans (s5.trans s6);have ro:=ro;generalize (λl=>(F4 l\/Loc iT l)\/Loc fR l)=F6 at*;clear H1 H2 H3 H4 H5 s1 s2 s3 s4 s5 s6 aq u2 ri;have u6:=hu.since ar;refine oF (H6.ld 2 rfl rfl) (ec u6.v.len ?_);rw[kM rfl (by decide) (by omega),fJ];obtain⟨H7,s7⟩:=H6.make (E:=eZ) (ty:=fy) (y:=0) (u:=V.I 0) u.ee.length rfl rfl;have H7:er F6 (r.new (.cells 3 1 true false (List.replicate u.ee.length (V.I 0)))) (fo eZ fy (List.replicate u.ee.length 0) (.slice r.next 0 u.ee.length)::_):=H7;have s7:Sn F6 r F6 (r.new (.cells 3 1 true false (List.replicate u.ee.length (V.I 0)))):=s7;refine ec (show fG [V.ed,V.I 0] [(0,1),(1,1)] [(0,V.slice r.next 0 u.ee.length)]=some (.agg [V.slice r.next 0 u.ee.length,.I 0]) from rfl) ?_;generalize r.new (.cells 3 1 true false (List.replicate u.ee.length (V.I 0)))=h7 at*;generalize V.slice r.next 0 u.ee.length=uO at*;refine jy H7 rfl rfl (by simp only[fc,H7.one 0 rfl];rfl) λh8 H8 s8=>?_;generalize h7.next=lp at*;have au:=s7.trans s8;refine oF (H8.ld 4 rfl rfl) (ec (u6.since au).v.len ?_);rw[kM rfl (by decide) (by omega),fJ];obtain⟨H9,s9⟩:=H8.make (E:=eB) (ty:=fx) (y:=false) (u:=V.bool false) u.ee.length rfl rfl;have H9:er F6 (h8.new (.cells 4 1 true false (List.replicate u.ee.length (V.bool false)))) (fo eB fx (List.replicate u.ee.length false) (.slice h8.next 0 u.ee.length)::_):=H9;have s9:Sn F6 h8 F6 (h8.new (.cells 4 1 true false (List.replicate u.ee.length (V.bool false)))):=s9;generalize h8.new (.cells 4 1 true false (List.replicate u.ee.length (V.bool false)))=h9 at*;generalize V.slice h8.next 0 u.ee.length=wd at*;have aw:=au.trans s9;refine ec (H9.CI 5 rfl rfl) ?_;refine DP g H9 (u6.since aw) λaJ a4 vo seen post aK aL G an=>?_;refine ec an.len ?_;have ae:=aw.trans aK;have uA:=u6.since ae;have a5:=ro.since ae;have bV:post.reverse.length<=300:=by rw[List.length_reverse,DE g G];exact nb
 have a6:=Kz G;have a7:=ar.trans ae;clear H6 H7 H8 H9 s7 s8 s9 au aw aK ae ar;have base:∃base:List Bool->Int->List Int->List Pc,base=λdone fw of=>fo eB fx done wd::ey lp kj [uO,.I fw]::fo eZ fy of uO::ey lv kU [.I u.func,.I u.pc,vv,vb,vs,iT,fR]::ey lr kj [.ed,.I 0]::ey lu 29 (uC u vv vb vs)::cs:=⟨_,rfl⟩
 obtain⟨base,f⟩:=base
 obtain ⟨I0,ax⟩:∃I0:Nat->LP,I0=λk l h'=>∃(F':Nat->Prop) (n:Nat) (of:List Int) (done:List Bool) (fw:Int),l=[.ptr lu 0,.ptr lr 0,.ptr lv 0,.ptr lp 0,wd,vo,.I post.reverse.length,.I n]/\n+k=post.reverse.length/\Sn aJ a4 F' h'/\
  er F' h' (base done fw of)/\Qb u (iz outs) post.reverse n 0 of done fw:=⟨_,rfl⟩
 refine Ce I0 ?_ (k:=post.reverse.length) (by rw[ax];exact⟨aJ,0,_,_,0,rfl,by omega,.refl _ _,by rw[f];exact aL,.start u (iz outs) _⟩);clear aL;intro k _ _ _ _ _ _ _ _ aM aN;rw[ax]at aN;obtain⟨aO,n,of,done,fw,⟨⟩,hk,T,t,A⟩:=aN;unfold vg;by_cases hnl:n<post.reverse.length;rotate_left
 ·rw[f]at t;refine jG ?_;obtain rfl:n=post.reverse.length:=by omega
  obtain⟨hR,hW⟩:=A.right g hA G (by omega);refine oF (t.ld 1 rfl rfl) (ec (my _ _ _ _) (je (gB (by have:=hR.s1;simp;omega) ?_)));refine ec (t.CI 1 rfl rfl) ?_;obtain⟨ay,a8,_,W,X⟩:=t.WC 4 rfl (ws:=[uO,.I fw]) (n:=2) rfl rfl (by simp only[fc,t.one 2 rfl];rfl);rw[a8,ej];refine ec (W.CI 4 rfl rfl) ?_;exact H aO ay of uO fw (iz ins) (iz outs) ((a7.trans T).trans X) W.tail.tail.vL.vL.vL hA hR hW
 clear H;refine hV ?_;have a9:=uA.since T;obtain⟨b,hb⟩:∃b,post.reverse[n]? =some b:=⟨_,iH hnl⟩
 have bb:b<u.blocks.length:=G.pre b (Qw.1 (xu hb));obtain⟨B,hB⟩:∃B,u.blocks[b]? =some B:=⟨_,iH bb⟩
 have aP:ik u b=B.ee:=by unfold ik;rw[hB]
 have bW:=mP g hB;obtain⟨UR,bX,_,i1,i2⟩:=(an.since T).nat hb .i64;refine ec i1 (ec i2 ?_);rw[fJ];obtain⟨W,X⟩:=t.VO;generalize aM.new (.map [] 0)=ay at*;generalize aM.next=s at*;have aQ:Lk aO ay (oH s (λ_=>False)::base done fw of) lv u vv vb vs iT fR:=⟨W,⟨4,by rw[f];rfl⟩,a9.since X⟩
 refine JU g aQ (a5.since (T.trans X)) a3 hB λm bc wr rs bd aR aS bY be=>?_;refine ec aS.len ?_;have aT:=(T.trans X).trans bd
 obtain ⟨I1,az⟩:∃I1:Nat->LP,I1=λk l h'=>∃(S:Int->Prop) (of:List Int) (done:List Bool) (fw:Int) (i:Nat),l=[.ptr lu 0,.ptr lr 0,.ptr lv 0,.ptr lp 0,wd,.I b,.map s,vo,.I post.reverse.length,.I n,wr,.I rs.length,.I i]/\
  i+k=B.ee.length/\Sn m bc m h'/\er m h' (oH s S::base done fw of)/\(∀x,S x↔∃j w,j<i/\At u w b j/\gi u w=true/\of[w]? =some x)/\Qb u (iz outs) post.reverse n i of done fw:=⟨_,rfl⟩
 refine Cp I1 ?_ (k:=B.ee.length) (by rw[az];exact⟨λ_=>False,of,done,fw,0,rfl,by omega,.refl _ _,aR,λx=>⟨False.elim,λ⟨_,_,h,_⟩=>by omega⟩,A⟩);clear t W aR A aQ of done fw;intro k1 _ _ _ _ _ _ _ _ _ _ _ _ _ aU aV;rw[az]at aV;obtain⟨S,of,done,fw,i,⟨⟩,bZ,ag,aA,hS,A⟩:=aV;unfold vM;by_cases hi:i<B.ee.length;rotate_left
 ·refine jG ?_;refine gq ⟨k-1,by omega,?_⟩;rw[ax];exact⟨m,n+1,of,done,fw,rfl,by omega,aT.trans ag,aA.tail,A.block hb (by rw[aP];omega)⟩
 refine hV ?_;obtain⟨v,hv⟩:∃v,B.ee[i]? =some v:=⟨_,iH hi⟩
 have K:At u v b i:=⟨B,hB,hv⟩
 have Y:=g.vR v b i K;obtain⟨row,ao⟩:∃row,rs[i]? =some row:=⟨_,iH (by omega)⟩
 obtain⟨b3,aB⟩:=be i row ao;obtain⟨Wh,b4,Z,_,j1,j2,j3⟩:=(aS.since ag).list ao .i64;have aC:=(uA.since aT).since ag;obtain⟨lb,ob,bv,_,_,_,b1,b2,iv,_,_,ba⟩:=aC.wh hB;obtain⟨lw,ow,_,w1,w2⟩:=iv.nat hv .i64;have aa:∀{F h done fw of},er F h (base done fw of)->er F h (fo eB fx done wd::ey lp kj [uO,.I fw]::fo eZ fy of uO::ey lv kU [.I u.func,.I u.pc,vv,vb,vs,iT,fR]::ey lr kj [.ed,.I 0]::ey lu 29 (uC u vv vb vs)::cs):=λH=>by rw[f]at H;exact H
 refine ec j1 (ec j2 (oF ((aa aA.tail).ld 5 rfl rfl) (ec b1 (oF ba.ee (ec w1 (ec w2 ?_))))));rw[fJ];obtain⟨aD,ah⟩:=aA.VO;generalize aU.new (.map [] 0)=aE at*;generalize aU.next=lq at*;have bf:Lk m aE (oH lq (λ_=>False)::oH s S::base done fw of) lv u vv vb vs iT fR:=⟨aD,⟨5,by rw[f];rfl⟩,aC.since ah⟩
 refine Aa bf Y (je ?_)
 have aW:∀L U0,Sn m aE m L->er m L (IG lq U0::oH s S::base done fw of)->(∀x,U0 x↔gi u v=true/\S x)->lU CS Q (IL I0 k) (IL I1 k1)
   [.ptr lu 0,.ptr lr 0,.ptr lv 0,.ptr lp 0,wd,.I b,.map s,Z,.I v,.map lq,vo,.I post.reverse.length,.I n,wr,.I rs.length,.I i] L:=by
  intro L U0 aF bg bi;refine BE ?_;unfold om;have sE:=(ag.trans ah).trans aF;have aX:=j3.since (ah.trans aF);have bj:=aC.since (ah.trans aF);refine ec aX.len ?_
  obtain ⟨I3,aG⟩:∃I3:Nat->LP,I3=λk l h'=>∃(U:Int->Prop) (w:Nat),l=[.ptr lu 0,.ptr lr 0,.ptr lv 0,.ptr lp 0,wd,.I b,.map s,.I v,.map lq,vo,.I post.reverse.length,.I n,wr,.I rs.length,.I i,Z,.I row.length,.I w]/\
   w+k=row.length/\Sn m L m h'/\er m h' (IG lq U::oH s S::base done fw of)/\∀x,U x↔U0 x\/∃w',w' < w/\On row w'/\w'≠v/\On done w'/\of[w']? =some x:=⟨_,rfl⟩
  refine Cf I3 ?_ (k:=row.length) (by rw[aG];exact⟨U0,0,rfl,by omega,.refl _ _,bg,λx=>⟨.inl,λh=>h.elim id λ⟨_,h,_⟩=>by omega⟩⟩);intro k3 _ _ _ _ _ _ _ _ _ _ _ _ _ _ _ _ _ _ M aY;rw[aG]at aY;obtain⟨U,w,⟨⟩,b5,N,O,hU⟩:=aY;unfold vE;have bm:=bj.since N;have ai:=aa O.tail.tail;by_cases hw:w<row.length
  ·refine hV ?_;obtain⟨x,hx⟩:∃x,row[w]? =some x:=⟨_,iH hw⟩
   obtain⟨d,hd⟩:∃d,done[w]? =some d:=⟨_,iH (by rw[A.dl];omega)⟩
   obtain⟨y,hy⟩:∃y,of[w]? =some y:=⟨_,iH (by rw[A.len];omega)⟩
   obtain ⟨l1,o1,_,p1,p2⟩:=(aX.since N).bool hx .i64;obtain⟨l2,o2,q1,q2⟩:=ai.Gf 0 rfl hd .i64;have E1:jq (.bool x) (oB (some (V.I w)) λbn=>oB (some (V.I v)) λbo=>ef .neq 3 bn bo)=some (.bool (x&&((w:Nat):Int) != (v:Nat))):=by
    simp only[eQ,yI,ir]
   have E2:∀c,jq (.bool c) (oB (some wd) λbp=>oB (some (V.I w)) λbq=>oB (gy 1 bp bq) λbr=>en br M)=some (.bool (c&&d)):=λc=>by
    simp only[eQ,q1,q2,ir]
   refine ec p1 (ec p2 (ec E1 (ec (E2 _) (je ?_))))
   have next:∀C U',Sn m M m C->er m C (IG lq U'::oH s S::base done fw of)->(∀x,U' x↔U0 x\/∃w',w' < w+1/\On row w'/\w'≠v/\On done w'/\of[w']? =some x)->lJ CS Q (IL I0 k) (IL I1 k1) (IL I3 k3)
     [.ptr lu 0,.ptr lr 0,.ptr lv 0,.ptr lp 0,wd,.I b,.map s,.I v,.map lq,vo,.I post.reverse.length,.I n,wr,.I rs.length,.I i,Z,.I row.length,.I w] C:=λC U' P R bt=>by
    refine A6 ?_;unfold uz;refine gq ⟨k3-1,by omega,?_⟩;rw[aG];exact⟨U',w+1,rfl,by omega,N.trans P,R,bt⟩
   by_cases hc:x=true/\w≠v/\d=true
   ·obtain ⟨rfl,c2,rfl⟩:=hc;obtain⟨l3,o3,r1,r2⟩:=ai.wQ 2 rfl hy .i64;obtain⟨C,bu,_,R,P⟩:=O.ZK 0 rfl y;refine gU (by simp;omega) (oF (ai.ld 1 rfl rfl) (ec r1 (ec r2 ?_)));rw[show yQ 3 none (.map lq) (.I y) (.bool true) M=_ from bu,ej];refine next C _ P R λz=>?_
    show U z\/z=y↔_;rw[hU z];constructor
    ·rintro((q|⟨w',q,p⟩)|rfl)
     ·exact .inl q
     ·exact .inr ⟨w',by omega,p⟩
     ·exact .inr ⟨w,by omega,hx,c2,hd,hy⟩
    ·rintro(q|⟨w',q,p,J,r,h5⟩)
     ·exact .inl (.inl q)
     ·by_cases e:w' = w
      ·subst e;rw[hy]at h5;cases h5;exact .inr rfl
      ·exact .inl (.inr ⟨w',by omega,p,J,r,h5⟩)
   ·refine gB (λe=>hc ?_) (next M U (.refl _ _) O λz=>(hU z).trans ?_)
    ·simp only[qU,Su,ne_eq,Int.natCast_inj]at e;exact⟨e.1.1,e.1.2,e.2⟩
    ·constructor
     ·rintro(q|⟨w',q,p⟩)
      ·exact .inl q
      ·exact .inr ⟨w',by omega,p⟩
     ·rintro(q|⟨w',q,p,J,r,h5⟩)
      ·exact .inl q
      ·by_cases e:w' = w
       ·subst e;unfold On at p r;rw[hx]at p;rw[hd]at r;exact(hc ⟨Option.some.inj p,J,Option.some.inj r⟩).elim
       ·exact .inr ⟨w',by omega,p,J,r,h5⟩
  refine jG ?_;obtain rfl:w=row.length:=by omega
  have aZ:∀x,U x↔(gi u v=true/\∃j w,j<i/\At u w b j/\gi u w=true/\of[w]? =some x)\/∃w,bh u ((ik u b).drop (i+1)) (iz outs b) w/\w≠v/\On done w/\of[w]? =some x:=λx=>by
   rw[hU x,bi x,hS x,aP];refine or_congr Iff.rfl ⟨λ⟨w',_,p,J⟩=>⟨w',(aB w').1 p,J⟩,λ⟨w',p,J⟩=>⟨w',?_,(aB w').2 p,J⟩⟩;exact Ny ((aB w').2 p)
  have bw:((fw.toNat:Nat):Int)=fw:=Int.toNat_of_nonneg A.s0;have bS:fw<=390:=by
   have q:=A.s1;have p:=List.count_le_length (a:=true) (l:=done);rw[A.dl]at p;omega
  refine oF (ai.ld 1 rfl rfl) ?_;refine QW O (i:=0) rfl (s0:=fw.toNat) (by omega) (λbz=>?_) λC y P R bA a0=>?_
  ·have:∃w:Nat,of[w]? =some ((16+fw.toNat:Nat):Int):=by
    rcases(aZ _).1 bz with⟨_,_,w,_,_,_,h5⟩|⟨w,_,_,_,h5⟩ <;> exact⟨w,h5⟩
   obtain⟨w,hw⟩:=this;rcases A.pl _ (xu hw)with h|h <;> omega
  have A2:=A.step g a6 hb K (k:=y) aZ bA (by rw[<-bw];exact a0);have b6:0<=y/\y<=500:=by rcases a0 with h|h <;> omega
  have bC:=aa R.tail.tail;refine⟨P.next,?_⟩;obtain⟨l1,o1,bD,p1,p2,p3,aj,bE⟩:=R.tail.AD 3 (by rw[f];rfl) (k:=v) (by rw[A.len];exact Y) rfl (y:=y) (u:= .I y) rfl rfl;refine ec p1 ⟨bC.ld 1 rfl rfl,?_⟩;rw[p2,ej];have aj:er m bD (oH s S::base done fw (of.set v y)):=by rw[f]at aj⊢;exact aj
  obtain⟨l2,o2,ab,q1,q2,q3,D,bG⟩:=aj.AD 1 (by rw[f];rfl) (k:=v) (by rw[A.dl];exact Y) rfl (y:=true) (u:= .bool true) rfl rfl;refine⟨p3,ec q1 ?_⟩;rw[q2,ej];have D:er m ab (oH s S::base (done.set v true) fw (of.set v y)):=by rw[f]at D⊢;exact D
  have ac:=(P.trans bE).trans bG;have bH:Lk m ab (oH s S::base (done.set v true) fw (of.set v y)) lv u vv vb vs iT fR:=⟨D,⟨4,by rw[f];rfl⟩,bm.since ac⟩
  refine⟨q3,Aa bH Y (je ?_)⟩;have ak:(of.set v y)[v]? =some y:=G2 (by rw[A.len];exact Y)
  have fin:∀I S',Sn m ab m I->er m I (oH s S'::base (done.set v true) fw (of.set v y))->(∀x,S' x↔∃j w,j<i+1/\At u w b j/\gi u w=true/\(of.set v y)[w]? =some x)->lK CS Q (IL I0 k) (IL I1 k1)
    [.ptr lu 0,.ptr lr 0,.ptr lv 0,.ptr lp 0,wd,.I b,.map s,.I v,vo,.I post.reverse.length,.I n,wr,.I rs.length,.I i] I:=λI S' aH al bI=>by
   refine Bp ?_;unfold tW;have aI:=aa al.tail;obtain⟨l1,o1,p1,p2⟩:=aI.wQ 2 rfl ak .i64;obtain⟨bJ,bK,bL,am,bQ⟩:=al.st 2 (by rw[f];rfl) (o:=1) (by simp) (u:= .I (max fw (y-16+1))) rfl;refine oF (aI.ld 1 rfl rfl) (oF (aI.ld 1 rfl rfl) (ec p1 (ec p2 (ec (iy _ _ _ _) (ec (Ba _ _ _ _) ?_)))));rw[show jt .i64 (y-16)=y-16 from iO (by simp only[Fb];omega),show jt .i64 (y-16+1)=y-16+1 from iO (by simp only[Fb];omega)];refine ec (Ml _ _ _ _) (ec (fH _ _ _) ?_);rw[if_pos rfl,show gW 1 (.ptr lp (0+1)) (.I (max fw (y-16+1))) I=_ from bK,ej];refine⟨bL,gq ⟨k1-1,by omega,?_⟩⟩;rw[az];have am:er m bJ (oH s S'::base (done.set v true) (max fw (y-16+1)) (of.set v y)):=by rw[f]at am⊢;exact am
   exact⟨S',of.set v y,done.set v true,max fw (y-16+1),i+1,rfl,by omega,sE.trans (N.trans (ac.trans (aH.trans bQ))),am,bI,A2⟩
  have a1:∀x,(∃j w,j<i+1/\At u w b j/\gi u w=true/\(of.set v y)[w]? =some x)↔S x\/(gi u v=true/\x=y):=λx=>by
   rw[hS x];constructor
   ·rintro⟨j,w,q,p,J,r⟩;by_cases e:j=i
    ·subst e;obtain rfl:=Option.some.inj ((hX.2 p).symm.trans (hX.2 K));rw[ak]at r;exact .inr ⟨J,(Option.some.inj r).symm⟩
    ·refine .inl ⟨j,w,by omega,p,J,?_⟩
     rwa [Iv λe'=>e ?_]at r
     subst e';exact(g.JC _ _ _ _ _ p K).2
   ·rintro(⟨j,w,q,p,J,r⟩|⟨q,rfl⟩)
    ·refine⟨j,w,by omega,p,J,?_⟩;rw[Iv λe'=>?_]
     ·exact r
     ·subst e';have:=(g.JC _ _ _ _ _ p K).2;omega
    ·exact⟨i,v,by omega,K,q,ak⟩
  cases hh:gi u v with
  | true=>
    refine gU rfl ?_;have a2:=aa D.tail;obtain⟨l3,o3,r1,r2⟩:=a2.wQ 2 rfl ak .i64;obtain⟨I,bR,_,al,aH⟩:=D.gX 0 rfl y;refine oF (a2.ld 1 rfl rfl) (ec r1 (ec r2 ?_));rw[show yQ 3 none (.map s) (.I y) (.bool true) ab=_ from bR,ej]
    exact fin I _ aH al λx=>by rw[a1 x,hh];simp
  |false=>exact gB (by simp) (fin ab S (.refl _ _) D λx=>by rw[a1 x,hh];simp)
 cases hh:gi u v with
 | true=>
   refine gU rfl ?_;obtain⟨L,M,e1,e2,_,O,N⟩:=aD.fill 1 0 rfl rfl (by decide);rw[e1,ej]
   exact Cb e2 (aW M S N O λx=>by simp[hh])
 |false=>exact gB (by simp) (aW aE (λ_=>False) (.refl _ _) (aD.IP 0 rfl) λx=>by simp[hh])
end
