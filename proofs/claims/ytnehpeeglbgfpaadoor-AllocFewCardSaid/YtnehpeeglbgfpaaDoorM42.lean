/- Parts. -/
import Derived.Test.YtnehpeeglbgfpaaDoorM39
import Derived.Test.YtnehpeeglbgfpaaDoorM41
import Derived.Test.YtnehpeeglbgfpaaDoorM35
set_option maxHeartbeats 4000000
namespace Go.Proofs.YtnehpeeglbgfpaaDoor.Hx
open Un Dm
theorem Wl{F F':Nat->Prop} {h h':Hp}:∀{ds:List V}{xs:List Bool},lR eB F h ds xs->lR eB F' h' ds xs
 |_,[],_=>trivial
 |_,_::_,⟨w,r,a,b,c⟩=>⟨w,r,a,b,Wl c⟩
def Qy(n:Nat)(outs:List (List Bool×Nat))(fR:V):Pc where
 lG l:=Loc fR l\/∃(j:Nat) (x:List Bool×Nat),n<=j/\outs[j]? =some x/\l=x.2
 ok F h:=(∃t ds,fR = .slice t 0 outs.length/\t<h.next/\¬F t/\h.get t=some (.cells fy 1 true false ds)/\(∀(j:Nat) (x:List Bool×Nat),outs[j]? =some x->ds[j]? =some (.slice x.2 0 x.1.length))/\∀(j:Nat) (x:List Bool×Nat),n<=j->outs[j]? =some x->x.2≠t)/\
  (∀(j:Nat) (x:List Bool×Nat),n<=j->outs[j]? =some x->jn eB fo F h x.1 (.slice x.2 0 x.1.length))/\∀(i j:Nat) (x y:List Bool×Nat),n<=i->n<=j->i≠j->outs[i]? =some x->outs[j]? =some y->x.2≠y.2
 Hl:=by
  rintro F h ⟨⟨t,ds,rfl,c,g,_⟩,d,_⟩ l (e|⟨j,x,a,b,rfl⟩)
  ·cases e;exact⟨c,g⟩
  ·exact(d j x a b).sm rfl|>.2
 eC:=by
  rintro F h h' ⟨⟨t,ds,rfl,c,g,d,k,m⟩,o,p⟩ q f r;exact⟨⟨t,ds,rfl,yG c r,g,(f t (.inl rfl)).trans d,k,m⟩,λj x a b=>(o j x a b).eC q (λl e=>f l (.inr ⟨j,x,a,b,e.symm⟩)) r,p⟩
 mono:=by
  rintro F F' h ⟨⟨t,ds,rfl,c,g,d,k,m⟩,o,p⟩ q f;exact⟨⟨t,ds,rfl,c,f t (.inl rfl),d,k,m⟩,λj x a b=>(o j x a b).mono q (λl e=>f l (.inr ⟨j,x,a,b,e.symm⟩)),p⟩
section
variable{F F':Nat->Prop}{h h':Hp}{cs:List Pc}{Q:fu}{u:U}{vv vb vs fR:V}{outs:List (List Bool×Nat)}
theorem en.Tv{n:Nat}(H:en F h (Qy n outs fR::cs)){x:List Bool×Nat}(f:outs[n]? =some x) :
  en F h (ft eB fo x.1 (.slice x.2 0 x.1.length)::Qy (n+1) outs fR::cs)/\∃l o,gM 1 fR (.I n)=some (.ptr l o)/\er (.ptr l o) h=some (.slice x.2 0 x.1.length):=by
 obtain⟨⟨t,ds,e,u,v,k,m,q⟩,r,s⟩:=H.ok 0 _ rfl;have w:=(jv.1 f).1
 have z:en F h (Qy (n+1) outs fR::cs):=H.swap (i:=0) rfl (p:=Qy (n+1) outs fR)
  ⟨⟨t,ds,e,u,v,k,m,λj x a b=>q j x (by omega) b⟩,λj x a b=>r j x (by omega) b,λi j x y a b=>s i j x y (by omega) (by omega)⟩ λl g=>g.imp id λ⟨j,x,a,b⟩=>⟨j,x,by omega,b⟩
 refine⟨z.cons (p:=ft eB fo x.1 (.slice x.2 0 x.1.length)) (r n x (je _) f) λi c hc l g d=>?_,t,n,?_,?_⟩
 ·have g:x.2=l:=g;subst g
  cases i with
  | zero=>
    cases hc;rcases d with d|⟨j,y,a,b,e'⟩
    ·rw[e]at d
     exact q n x (je _) f (show t=x.2 from d).symm
    ·exact s n j x y (je _) (by omega) (by omega) f b e'
  |succ i=>exact H.AO 0 (i+1) _ c rfl hc (by omega) x.2 (.inr ⟨n,x,je _,f,rfl⟩) d
 ·rw[e,uV _ _ _ _ _ _ w,Dr,SG]
 ·exact jd k (m n x f)
theorem KT(g:Good u)(N:0<u.ee.length)(r:en F h cs)(O:zr F h u vv vb vs)
  (H:∀h' iX fR outs In,Sn F h F h'->en F h' (Qy 0 outs fR::cs)->Iw u (o1 outs)->rY u (gW u) In (ir (o1 outs))->Q (.tuple [iX,fR]) h') :
  cP CS jA [.agg (uC u vv vb vs)] h Q:=by
 have P:en F h [WM (λl=>l<h.next/\¬F l) h]:=(en.nil r.fl).cons (λl f=>⟨rfl,f.1,f.2⟩) λi c hc=>by cases hc
 refine Me g P O λF' h' iX fR ins outs s A v R m S=>?_;have k:=v.ok 1 _ rfl;have T:BA h h':=⟨s.next,λl f _=>by
  by_cases n:F l
  ·exact s.eC l n
  ·exact(k l ⟨f,n⟩).1⟩
 obtain ⟨U,V⟩:=r.grow T;have hlen:outs.length=u.blocks.length:=(Gx outs).symm.trans m.len;have pQ:∀x∈outs,x.1≠[]:=λx d e=>by
  have:=m.row x.1 (by unfold o1;exact OF.2 ⟨x,d,rfl⟩);rw[e]at this;simp at this;omega
 refine H h' iX fR outs (ir ins) V ?_ m S;rcases v.row 0 rfl with⟨_,rfl⟩|⟨t,ds,rfl,W,z,X,Y,h5⟩
 ·have:=g.Mn;simp at hlen;omega
 have o:∀l,¬F l->¬(l<h.next/\¬F l)->h.next<=l:=λl a b=>by
  rcases HB l h.next with c|c
  ·exact absurd ⟨c,a⟩ b
  ·exact c
 have ht:h.next<=t:=o t (λn=>z (s.mono t n)) λB=>v.AO 0 1 _ _ rfl rfl (by omega) t rfl B;have q:∀(j:Nat) (x:List Bool×Nat),outs[j]? =some x->ds[j]? =some (.slice x.2 0 x.1.length)/\h.next<=x.2/\F' x.2/\jn eB fo F h' x.1 (.slice x.2 0 x.1.length):=λj x d=>by
  obtain⟨E,rfl⟩:=jv.1 d;obtain⟨w,G,Z,g3⟩:=Y.get (iQ E);have C:=B9 E;have e1:J5.sz=1:=rfl;rw[e1,SG]at G Z;rcases g3 with⟨g4,_⟩|⟨es,rfl,I,J,g7,g8⟩
  ·exact absurd g4 (pQ _ C)
  ·have K:=A.new _ C (pQ _ C);refine⟨?_,o _ K λB=>(k _ B).2.2 I,I,.inr ⟨_,es,rfl,Hp.vN J,K,J,Wl g7,g8⟩⟩;have L:((ds.drop j).take 1)[0]? =some (.slice outs[j].2 0 outs[j].1.length):=by rw[G];rfl
   rw[TD (by omega),TC,QW]at L;exact L
 refine U.cons (p:=Qy 0 outs (.slice t 0 outs.length)) ⟨⟨t,ds,rfl,W,λn=>z (s.mono t n),X,λj x d=>(q j x d).1,λj x _ d e=>z (e▸(q j x d).2.2.1)⟩,λj x _ d=>(q j x d).2.2.2,
  λi j x y _ _ hn d M=>A.AO i j x y d M hn (pQ x (vS d)) (pQ y (vS M))⟩ λi c hc l f D=>?_
 have aa:=(c.Hl (r.ok i c hc) l D).1;rcases f with f|⟨j,x,_,d,rfl⟩
 ·have:t=l:=f;omega
 ·have:=(q j x d).2.1;omega
theorem Cr{l:List Bool}{v:V}(d:en F h (ft eB fo l v::cs))(p:l.length<1000000)(H:Q (.I (l.count true:Nat)) h):cP CS hY [v] h Q:=by
 refine yF rfl rfl ?_;unfold rE;refine vU (λk b h'=>∃i:Nat,b=[v,.I ((l.take i).count true:Nat),.I (i:Nat)]/\i+k=l.length/\h' = h) ?_ (k:=l.length) ⟨0,rfl,by omega,rfl⟩;rintro k _ _ _ h' ⟨i,⟨⟩,q,rfl⟩;unfold oA;refine ec (d.len 0 rfl) ?_;have hc:=List.count_le_length (a:=true) (l:=l.take i);rw[JN]at hc;by_cases hi:i<l.length
 ·refine ij ?_;obtain⟨x,e⟩:∃x,l[i]? =some x:=⟨_,iQ hi⟩
  obtain ⟨r,o1,g,j⟩:=d.E0 0 rfl e .i64;obtain⟨_,c⟩:=jv.1 e;have next:∀n:Nat,n=(l.take (i+1)).count true->jr CS Q (Hg (λk b m=>∃i:Nat,b=[v,.I ((l.take i).count true:Nat),.I (i:Nat)]/\i+k=l.length/\m=h') k) [v,.I (n:Nat),.I (i:Nat)] h':=λn o=>by
   subst o;refine wq ?_;unfold oy;exact gv ⟨k-1,by omega,i+1,rfl,by omega,rfl⟩
  have f:(l.take (i+1)).count true=(l.take i).count true+if x=true then 1 else 0:=by
   rw[Jo hi,List.count_append,c];cases x <;> rfl
  refine ec g (ec j (jL ?_))
  cases x with
  |true=>exact hV rfl (gv (next _ f.symm))
  |false=>exact gJ (by simp) (next _ f.symm)
 ·refine jZ ?_;rw[Hq (by omega)];exact H
end
open Un Dm
def Ip:List Bool->Nat->List Nat
 |[],_=>[]
 |true::r,i=>i::Ip r (i+1)
 |false::r,i=>Ip r (i+1)
theorem DL:∀(r:List Bool)(i:Nat),(Ip r i).length=r.count true
 |[],_=>rfl
 |true::r,i=>by simp[Ip,DL r]
 |false::r,i=>by simp[Ip,DL r]
theorem EE:∀{r:List Bool}{i w:Nat},On r w->i+w∈Ip r i
 |[],_,w,h=>by unfold On at h;simp at h
 |true::r,i,0,_=>Lh ..
 |false::r,i,0,h=>by unfold On at h;simp at h
 | true::r,i,w+1,h=>SP _ (by
   have:=EE (r:=r) (i:=i+1) (w:=w) h
   rwa [show i+1+w=i+(w+1) by omega]at this)
 | false::r,i,w+1,h=>by
   have:=EE (r:=r) (i:=i+1) (w:=w) h
   rwa [show i+1+w=i+(w+1) by omega]at this
theorem KC{r:List Bool}{L:List Nat}(a:L.Nodup)(h:∀w∈L,On r w):L.length<=r.count true:=by
 rw[<-DL r 0];refine sub_le L _ a λw b=>?_;have:=EE (i:=0) (h w b)
 rwa [Dr]at this
def Tp(u:U)(Out:Nat->Nat->Prop)(c j v w:Nat):Prop:=w=v\/bh u ((gZ u c).drop (j+1)) (Out c) w\/(gh u v=true/\gh u w=true/\∃a,At u w c a)
def Vb(u:U)(Out:Nat->Nat->Prop)(c j v m:Nat):Prop:=∀L:List Nat,L.Nodup->(∀w∈L,Tp u Out c j v w)->L.length<=m
def WG(u:U)(Out:Nat->Nat->Prop)(c m:Nat):Prop:=∀j v,At u v c j->Vb u Out c j v m
theorem Vb.mono{u:U}{Out:Nat->Nat->Prop}{c j v m d:Nat}(h:Vb u Out c j v m)(e:m<=d):Vb u Out c j v d:=λL a b=>DE (h L a b) e
section
variable{F F':Nat->Prop}{h h':Hp}{cs:List Pc}{Q:fu}{u:U}{vv vb vs:V}
theorem Cz{a b:Nat}{K:V->Prop}(H:K (.I ((max a b:Nat):Int))):oP (BI true (.I a) [.I b]) K:=by
 refine ec (Dd _ _ _ _) ?_;rw[if_pos rfl,show max ((a:Nat):Int) (b:Nat)=((max a b:Nat):Int) by omega];exact H
theorem J2(g:Good u)(aY:0<u.ee.length)(H0:en F h cs)(hu:zr F h u vv vb vs)
  (H:∀F' h' n In Out,Sn F h F' h'->en F' h' cs->rY u (gW u) In Out->(∀c,c<u.blocks.length->WG u Out c n)->Q (.I (n:Nat)) h'):cP CS ju [.agg (uC u vv vb vs)] h Q:=by
 refine wh rfl rfl ?_;unfold nT;have nv:=g.nv;have nb:=g.nb;have S:∀n:Nat,n<=3000->jw .i64 (((n:Nat):Int)-1)=(n:Int)-1:=λn hn=>by rw[iR (by simp only[Fe];omega)]
 refine su H0 hu.one λt H1 s1=>?_;generalize h.next=lu at*;refine ec (H1.HY 0 rfl rfl) ?_;refine KT g aY H1 (hu.since s1) λh2 iX fR outs In s2 H2 aC hA=>?_;refine ec rfl (ec rfl ?_);generalize aD:ir (o1 outs)=Out at*
 obtain ⟨I0,ag⟩:∃I0:Nat->LP,I0=λk l h'=>∃(F':Nat->Prop) (b m:Nat),l=[.ptr lu 0,fR,.I m,.I b]/\b+k=u.blocks.length/\m<=3000/\Sn F h F' h'/\
  en F' h' (Qy b outs fR::eE lu 29 (uC u vv vb vs)::cs)/\∀c,c<b->WG u Out c m:=⟨_,rfl⟩
 refine tZ I0 ?_ (k:=u.blocks.length) (by rw[ag];exact⟨F,0,0,rfl,by omega,by omega,s1.trans s2,H2,λc h=>by omega⟩);clear H1 H2 s1 s2;intro k _ _ _ _ h3 aE;rw[ag]at aE;obtain⟨F3,b,m,⟨⟩,hk,hm,s3,T,ah⟩:=aE;unfold mj;have u3:=hu.since s3;refine oF (T.ld 1 rfl rfl) (ec u3.b.len ?_);by_cases hb:b<u.blocks.length;rotate_left
 ·exact jZ (H F3 h3 m In Out s3 T.tail.tail hA λc hc=>ah c (by omega))
 refine ij ?_;obtain⟨B,N⟩:∃B,u.blocks[b]? =some B:=⟨_,iQ hb⟩
 have aF:gZ u b=B.ee:=by unfold gZ;rw[N]
 have aZ:=nR g N;obtain⟨⟨q,t0⟩,C⟩:∃x,outs[b]? =some x:=⟨_,iQ (by rw[<-Gx,aC.len];exact hb)⟩
 have aG:=aC.row q (vS (BS C));obtain⟨T,lx,ox,e1,e2⟩:=T.Tv C;simp only at T e2;obtain⟨l4,o4,bv,bn,bp,_,i1,i2,iv,iN,ip,_⟩:=u3.vT N;refine ec e1 (ec e2 (oF (T.ld 2 rfl rfl) (ec i1 (ec i2 ?_))));generalize V.slice t0 0 q.length=row at*;refine jH T rfl rfl (by simp only[kJ,eR,iv.one,iN.one,ip.one];rfl) λh4 H4 s4=>?_;generalize h3.next=bx at*;have H4:=H4.sw;refine Cr H4 (by omega) (Cz ?_);have ai:=iv.since s4;refine oF (H4.ld 1 rfl rfl) (ec ai.len (ec (hZ _ _ _ _) ?_));rw[S _ aZ];have aH:∀w,On q w↔bh u [] (Out b) w:=λw=>by
  show _↔Out b w;rw[<-aD,qA (BS C) w]
 have P:∀{l:List Bool} {m:Nat},l.length=u.ee.length->m<=3000->max m (l.count true)<=3000:=λ{l m} hl hm=>by
  have:=List.count_le_length (a:=true) (l:=l);omega
 obtain ⟨I1,aj⟩:∃I1:Nat->LP,I1=λk l h'=>∃(F':Nat->Prop) (m:Nat) (i d:List Nat) (cur:List Bool),l=[.ptr lu 0,fR,.I m,.I b,row,.ptr bx 0,.I ((i.length:Int)-1)]/\k=i.length/\B.ee=i++d/\m<=3000/\Sn F3 h4 F' h'/\cur.length=u.ee.length/\
  en F' h' (ft eB fo cur row::eE bx 44 (kJ B bv bn bp)::Qy (b+1) outs fR::eE lu 29 (uC u vv vb vs)::cs)/\(∀w,On cur w↔bh u d (Out b) w)/\(∀c,c<b->WG u Out c m)/\∀j v,i.length<=j->At u v b j->gh u v=false/\Vb u Out b j v m:=⟨_,rfl⟩
 refine tO I1 ?_ (k:=B.ee.length) (by rw[aj];exact⟨F3,max m (q.count true),B.ee,[],q,rfl,rfl,by simp,P aG hm,.refl _ _,aG,H4,aH,λc hc j v K=>(ah c hc j v K).mono (Ss ..),λj v M ⟨B',r,K⟩=>by
  rw[N]at r;cases r;have:=(jv.1 K).1;omega⟩)
 clear T H4 ah aH e1 e2 i1 i2;have sF:=s3.trans s4;have aI:=ai;clear s3 s4 iv ai iN ip u3;intro k1 _ _ _ _ _ _ _ U aJ;rw[aj]at aJ;obtain⟨F5,m1,i,d,cur,⟨⟩,a0,p,aK,s5,ak,H5,al,aL,am⟩:=aJ;unfold me;have u5:=(hu.since sF).since s5;have a3:i.length<=B.ee.length:=by rw[p,Hm];omega
 have Gn:∀(W:Nat->Prop) (h6:Hp),Sn F5 U W h6->en W h6 (ft eB fo cur row::eE bx 44 (kJ B bv bn bp)::Qy (b+1) outs fR::eE lu 29 (uC u vv vb vs)::cs)->(∀v∈i,gh u v=true)->
   iL CS Q (Hg I0 k) [.ptr lu 0,fR,.I m1,.I b,row,.ptr bx 0,.I ((i.length:Int)-1)] h6:=by
  intro W h6 s6 H6 hh;refine sU ?_;unfold lX;have u6:=u5.since s6
  obtain ⟨I2,an⟩:∃I2:Nat->LP,I2=λk l h'=>∃(j:Nat) (f:List Bool),l=[.ptr lu 0,fR,.I m1,.I b,row,.ptr bx 0,.I ((i.length:Int)-1),.I j]/\j+k=i.length/\Sn W h6 W h'/\f.length=u.ee.length/\
   en W h' (ft eB fo f row::eE bx 44 (kJ B bv bn bp)::Qy (b+1) outs fR::eE lu 29 (uC u vv vb vs)::cs)/\∀w,On cur w\/w∈i.take j->On f w:=⟨_,rfl⟩
  refine tW I2 ?_ (k:=i.length) (by rw[an];exact⟨0,cur,rfl,by omega,.refl _ _,ak,H6,λw h=>h.elim id λh=>by simp at h⟩);intro k2 _ _ _ _ _ _ _ _ h7 aM;rw[an]at aM;obtain⟨j,f,⟨⟩,bA,X,o,Y,D⟩:=aM;unfold mi;have u7:=u6.since X;by_cases M:j<i.length
  ·refine Tg (hV (by omega) ?_);have aN:B.ee[j]? =some i[j]:=by rw[p,NQ M];exact iQ M
   have E:=g.vX i[j] b j ⟨B,N,aN⟩;have a4:iB eN W h7 B.ee bv:=aI.since (s5.trans (s6.trans X));obtain⟨l8,o8,_,p1,p2⟩:=a4.nat aN .i64;obtain⟨l9,o9,h9,q1,q2,_,H9,s9⟩:=Y.zm 0 rfl (k:=i[j]) (by rw[o];exact E) rfl (y:=true) (u:= .bool true) rfl rfl;refine oF (Y.ld 1 rfl rfl) (ec p1 (ec p2 (ec q1 ?_)));rw[q2,eh];refine gv ⟨k2-1,by omega,?_⟩;rw[an];refine⟨j+1,f.set i[j] true,rfl,by omega,X.trans s9,by rw[OI];exact o,H9,λw Z=>?_⟩;rw[oI (by rw[o];exact E)];by_cases e:w=i[j]
   ·exact .inl ⟨e,rfl⟩
   ·refine .inr ⟨e,D w (Z.imp id λZ=>?_)⟩;rw[Jo M,zH,Hh]at Z;exact Z.resolve_right e
  ·refine Tg (gJ (by omega) ?_);obtain rfl:j=i.length:=by omega
   rw[List.take_length]at D;refine Cr Y (by omega) (Cz (gv ⟨k-1,by omega,?_⟩));rw[ag];refine⟨W,b+1,max m1 (f.count true),rfl,by omega,P o aK,sF.trans (s5.trans (s6.trans X)),Y.tail.tail,λc hc=>?_⟩;by_cases hcb':c<b
   ·exact λj v K=>(aL c hcb' j v K).mono (Ss ..)
   obtain rfl:c=b:=by omega
   intro j v K;by_cases M:i.length<=j
   ·exact(am j v M K).2.mono (Ss ..)
   intro L hL ao;refine DE (KC hL λw Z=>D w ?_) (UD ..);have aO:∀x j',At u x c j'->gh u x=true->x∈i:=λx j' A a5=>by
    obtain⟨B',r,G⟩:=id A;rw[N]at r;cases r;by_cases hj':j' < i.length
    ·rw[p,NQ hj']at G;exact vS G
    ·have:=(am j' x (by omega) A).1;rw[a5]at this;cases this
   have aP:v∈i:=by
    obtain⟨B',r,G⟩:=id K;rw[N]at r;cases r;rw[p,NQ (by omega)]at G;exact vS G
   rcases ao w Z with rfl|t|⟨_,t,j',h2⟩
   ·exact .inr aP
   ·rw[aF,p,List.drop_append_of_le_length (by omega)]at t;exact .inl ((al w).2 ((FN λx A=>hh x (List.mem_of_mem_drop A)).1 t))
   ·exact .inr (aO w j' h2 t)
 have aq:iB eN F5 U B.ee bv:=aI.since s5;rcases gO i with rfl|⟨s,v,rfl⟩
 ·exact BH (gJ (by simp) (Gn F5 U (.refl _ _) H5 (by simp)))
 have ar:((s++[v]).length:Int)-1=(s.length:Nat):=by simp
 rw[ar]at Gn⊢;refine BH (hV (by omega) ?_);have z:B.ee[s.length]? =some v:=by rw[p];simp
 have au:At u v b s.length:=⟨B,N,z⟩
 have E:=g.vX v b _ au;obtain⟨x,A⟩:∃x,u.ee[v]? =some x:=⟨_,iQ E⟩
 obtain ⟨l7,o7,a6,p1,p2⟩:=aq.nat z .i64;obtain⟨l8,o8,xw,a7,r1,r2,aQ,_⟩:=u5.val A;refine oF (H5.ld 3 rfl rfl) (oF (H5.ld 1 rfl rfl) (ec p1 (ec p2 (ec r1 (ec r2 ?_)))));rw[hN];obtain⟨Y,X⟩:=H5.GZ 46 [V.I 0,V.I 0,V.I 0,V.I 0,V.ed,V.I 0];have g7:(U.new (.cells 46 1 true false [V.I 0,V.I 0,V.I 0,V.I 0,V.ed,V.I 0])).get U.next=some (.cells 46 1 true false [V.I 0,V.I 0,V.I 0,V.I 0,V.ed,V.I 0]):=ey _ _;generalize U.new (.cells 46 1 true false [V.I 0,V.I 0,V.I 0,V.I 0,V.ed,V.I 0])=h7 at*;refine⟨⟨g7,O.ie _ _ _ _ _⟩,DI r2 (X.eC _ a7),mm p2 (X.eC _ a6),Y.ld 2 rfl rfl,Y.ld 4 rfl rfl,?_⟩;obtain⟨h8,e8,n8,H8,s8⟩:=Y.Vo 0 (ws:=qq x xw) (n:=6) rfl rfl rfl (by simp only[qq,eR,aQ.one];rfl);rw[e8,eh];simp only[pP]at H8;refine⟨n8,?_⟩;generalize U.next=xc at*;have aw:=X.trans s8;have H8:=H8.sw;have aR:er (.ptr xc (0+0)) h8=some (.I x.op):=H8.ld 1 rfl rfl;refine oF aR (ec (hD _ _ _ _) ?_);have eH:qe (.bool ((x.op:Int) == 21)) (oB (fP 0 (V.ptr xc 0)) λaS=>oB (er aS h8) λaT=>ej .eql 3 aT (V.I 1))=some (.bool (gh u v)):=by
  simp only[fg,fM,aR,hD,ko];unfold gh;rw[A];show _=some (V.bool (il x.op));unfold il;rw[show((x.op:Int) == 21)=(x.op == 21) from Fw _ 21,show((x.op:Int) == 1)=(x.op == 1) from Fw _ 1,Bool.or_comm]
 refine ec eH (jL ?_)
 cases hq:gh u v with
 | true=>
   refine hV rfl (Gn F5 h8 aw H8.uf λy hy=>?_);obtain⟨j,M⟩:=mq.1 hy;have aU:=(jv.1 M).1
   exact g.Df au hq ⟨B,N,by rw[p,NQ aU];exact M⟩ (by simp at aU;omega)
 | false =>
   refine gJ (by simp) ?_;obtain⟨l9,o9,_,p3,p4⟩:=(aq.since aw).nat z .i64;obtain⟨M5,bC,bD,a8,a9,_,R,ba⟩:=H8.zm 0 rfl (k:=v) (y:=true) (u:=V.bool true) (show v<cur.length by omega) rfl rfl rfl;refine oF (H8.ld 2 rfl rfl) (ec p3 (ec p4 (ec a8 ?_)));rw[a9,eh];simp only[Bt,pP]at R;have aa:(cur.set v true).length=u.ee.length:=by rw[OI];exact ak
   have ax:=aw.trans ba;refine Cr R (by omega) (Cz ?_);have bb:=P aa aK;obtain⟨FX,bE,_,p5,p6⟩:=(aq.since ax).nat z .i64;obtain⟨Sb,bG,bH,bc,bd,_,ay,aV⟩:=R.zm 0 rfl (k:=v) (y:=false) (u:=V.bool false) (by rw[aa];exact E) rfl rfl rfl;refine oF (R.ld 2 rfl rfl) (ec p5 (ec p6 (ec bc ?_)));rw[bd,eh];simp only[Bt,pP,List.set_set]at ay;have aW:=(aQ.since ax).since aV;refine ec (ay.HY 1 rfl rfl) ?_;refine FK ay aW λbe bI vu bf bg bi=>?_;have az:=Eu g A;have aX:∀y∈lT x,y<u.ee.length:=λy hy=>qM (g.use v x A y hy);have aA:(cur.set v false).length=u.ee.length:=by rw[OI];exact ak
   refine IX bg bi (by have:=zI az;omega) (λy hy=>by rw[aA];exact aX y hy) λaB bj bm I bz ab=>?_;have ac:er (.ptr xc (0+0)) aB=some (.I (x.op:Nat)):=I.ld 1 rfl rfl;refine oF ac (ec (hD _ _ _ _) ?_);have bo:qe (.bool ((x.op:Int) == 22)) (oB (fP 0 (.ptr xc 0)) λbq=>oB (er bq aB) λbr=>ej .eql 3 br (V.I 23))=some (.bool (leaves x.op)):=by
     simp only[fM,fg,ac,hD,ko];unfold leaves;rw[show((x.op:Int) == 22)=(x.op == 22) from Fw _ 22,show((x.op:Int) == 23)=(x.op == 23) from Fw _ 23]
   refine ec bo (jL ?_);have J:=((ax.trans aV).trans bf).trans bm;have bt:=u5.since J;have ae:∀y,On (cur.set v false) y↔On cur y/\y≠v:=λy=>by
     rw[oI (by omega)];constructor
     ·rintro(⟨_,h⟩|⟨t,h2⟩)
      ·cases h
      ·exact⟨h2,t⟩
     ·exact λh=> .inr ⟨h.2,h.1⟩
   have fin:∀(F':Nat->Prop) (h':Hp) (f:List Bool),Sn F5 U F' h'->en F' h' (ft eB fo f row::eE xc 46 (qq x xw)::eE bx 44 (kJ B bv bn bp)::Qy (b+1) outs fR::eE lu 29 (uC u vv vb vs)::cs)->f.length=u.ee.length->
       (∀y,On f y↔(On cur y/\y≠v)\/y∈rV u v)->iM CS Q (Hg I0 k) (Hg I1 k1) [.ptr lu 0,fR,.I ((max m1 ((cur.set v true).count true):Nat):Int),.I (b:Nat),row,.ptr bx 0,.I (s.length:Nat)] h':=by
     intro F' h' f s' H' o D;refine tE ?_;unfold lW;refine Cr H' (by omega) (Cz (ec (hZ _ _ _ _) ?_));rw[S s.length (by simp at a3;omega)];refine⟨s.length,by rw[a0];simp,?_⟩;rw[aj];refine⟨F',_,s,v::d,f,rfl,rfl,by rw[p];simp,P o bb,s5.trans s',o,H'.uf,λw=>?_,λc hc j v K=>(aL c hc j v K).mono (by omega),λj y M hy=>?_⟩
     ·rw[D w]
      unfold bh;rw[if_neg (by rw[hq];simp),al w]
     ·by_cases e:j=s.length
      ·subst e
       obtain rfl:=Option.some.inj ((iz.2 au).symm.trans (iz.2 hy));refine⟨hq,λL hL ao=>DE (KC hL λw Z=>?_) (show(cur.set v true).count true<=_ by omega)⟩;rw[oI (by omega)];by_cases e:w=v
       ·exact .inl ⟨e,rfl⟩
       ·refine .inr ⟨e,(al w).2 ?_⟩
        rcases ao w Z with t|t|⟨t,_⟩
        ·exact absurd t e
        ·rw[aF,p]at t
         simpa using t
        ·rw[hq]at t;cases t
      ·obtain⟨a1,a2⟩:=am j y (by simp;omega) hy
       exact⟨a1,a2.mono (by omega)⟩
   cases hlv:leaves x.op with
   | false=>
     refine gJ (by simp) (fin be aB bj J I (by omega) λy=>?_);rw[ab y,ae y];unfold rV;rw[A]
     simp[hlv]
   | true=>
     refine hV rfl ?_;have ar:=g.leave v x A hlv;refine oF (I.ld 4 rfl rfl) (oF (I.ld 1 rfl rfl) ?_);refine G0 g I bt (by omega) ar λF' h' l' s' H' bu bw=>fin F' h' l' (J.trans s') H' bu λy=>?_;rw[bw y,ab y,ae y];unfold rV;rw[A];simp[hlv,or_assoc]
end
open Un Dm
section
variable{F F':Nat->Prop}{h h':Hp}{cs:List Pc}{Q:fu}
theorem Oh(H:Q (.bool true) h):cP CS mb [] h Q:=by
 obtain⟨fn,c,a,b⟩:=Iz;exact cP.known a b (show CS.K mb [] h=some (.bool true) from rfl) rfl rfl H
theorem RM{u:U} {In Out m d:Nat->Nat->Prop}{of:List Int}{fY:Int}{n:Nat}(h:rY u (gW u) In Out) (h':rY u (gW u) m d)(E:0<=fY)(t:T6 u Out of fY)(x:∀c,c<u.blocks.length->WG u d c n) :
  12<n\/fY=0:=by
 by_cases h0:fY=0
 ·exact .inr h0
 refine .inl ?_;obtain⟨c,j,v,q,i⟩:=t (by omega);have hc:c<u.blocks.length:=by obtain⟨B,o,_⟩:=q;exact(jv.1 o).1
 have y:∀w,Out c w->d c w:=λw i=>(rY.uniq h' h (λ_ _ _ _=>Iff.rfl) hc).2.2 i;have k:∀r:Nat,∃w:Nat,r<12->w≠v/\of[w]? =some (r:Int)/\(bh u ((gZ u c).drop (j+1)) (Out c) w\/(gh u v=true/\gh u w=true/\∃p,At u w c p)):=λr=>by
  by_cases g:r<12
  ·obtain⟨w,o⟩:=i r g;exact⟨w,λ_=>o⟩
  ·exact⟨0,λh=>absurd h g⟩
 obtain ⟨f,l⟩:∃f:Nat->Nat,∀r,r<12->f r≠v/\of[f r]? =some (r:Int)/\(bh u ((gZ u c).drop (j+1)) (Out c) (f r)\/(gh u v=true/\gh u (f r)=true/\∃p,At u (f r) c p)):=
  ⟨λr=>Classical.choose (k r),λr g=>Classical.choose_spec (k r) g⟩
 have s:=x c hc j v q (v::(List.range 12).map f) ?_ ?_
 ·simp only[Li,List.length_map,VB]at s;exact s
 ·refine List.nodup_cons.2 ⟨λz=>?_,?_⟩
  ·obtain⟨r,g,e⟩:=OF.1 z;exact(l r (TA.1 g)).1 e
  ·rw[List.nodup_iff_pairwise_ne,List.pairwise_map];refine(List.pairwise_lt_range (n:=12)).imp_of_mem λ{a b} A C D e=>?_;have e1:=(l a (TA.1 A)).2.1;have e2:=(l b (TA.1 C)).2.1;rw[e,e2]at e1;have:=Option.some.inj e1;omega
 ·intro w i;rcases zq.1 i with rfl|i
  ·exact .inl rfl
  ·obtain⟨r,g,rfl⟩:=OF.1 i;exact .inr ((l r (TA.1 g)).2.2.imp (Je y _) id)
theorem Kt{ops a:List Int}{np:Int}{z b:V}(J:en F h cs)(c:iB (eI .i64) F h ops z)(j:iB (eI .i64) F h a b)(ho:ops.length<9223372036854775808)(H:∀h',Q (.bool true) h') :
  cP CS kO [.agg [z,b,.I np]] h Q:=by
 refine vW rfl rfl ?_;unfold nV;refine su J (by simp only[eR,c.one,j.one];rfl) λi k s1=>?_;generalize h.next=lx at*;have d:=c.since s1;have l:(if(false:Bool)=true then max ((ops.length:Nat):Int) 24 else min ((ops.length:Nat):Int) 24)=((min ops.length 24:Nat):Int):=by
  rw[if_neg (by simp)];omega
 obtain⟨e,K,c2⟩:=d.cut (lo:=none) (hi:=some (.I ((min ops.length 24:Nat):Int))) (m:=0) (n:=min ops.length 24) rfl rfl (EL _) (Nat.min_le_left ..);rw[OK]at c2;refine oF (k.ld 0 rfl rfl) (oF (k.ld 0 rfl rfl) (ec d.len (ec (Dd _ _ _ _) ?_)));rw[l];refine ec K (ec (fM _ _ _) ?_);obtain⟨L,e2,_,M,N⟩:=k.st 0 rfl (o:=0) (by simp) (u:=e) c2.one;rw[show gU 1 (.ptr lx (0+0)) e i=_ from e2,eh];obtain⟨O,P,_,p,R⟩:=M.st 0 rfl (o:=1) (by simp) (u:= .ed) rfl;refine ec (fM _ _ _) ?_;rw[show gU 1 (.ptr lx (0+1)) .ed L=_ from P,eh];simp only[pP,Bt]at p;refine ec (p.HY 0 rfl rfl) ?_;refine Q7 p ((c2.since N).since R) (.nil:iB (eI .i64) F O [] .ed) (by rw[JN];omega) λS T w s4 U W=>?_;have g:Good (zi (ops.take (min ops.length 24)) [] np):=Ix _ _ np;have sz:=RG (ops.take (min ops.length 24)) [] np;generalize zi (ops.take (min ops.length 24)) [] np=u at*;obtain⟨vv,vb,vs,rfl,w1,w2,X⟩:=W;have A:zr S T u vv vb vs:=⟨w1,w2,X⟩
 refine jH U rfl rfl A.one λh5 B Y=>?_;have C:=A.since Y;refine ec (B.HY 0 rfl rfl) ?_;refine KD g (by omega) B C λF6 D of Qf fY In Out Z E hA hR hW=>?_;refine ec rfl (ec rfl ?_);refine jH E rfl rfl (by simp only[eR,E.one 0 rfl];rfl) λh7 G s7=>?_;have u7:=(C.since Z).since s7;refine Oh ?_;refine ec (show kH (.bool true) (oB (some (V.I 0)) λq=>ej .eql 33 q (V.I 0))=some (.bool true) from rfl) ?_;refine iV (ec (G.HY 2 rfl rfl) (EG ?_));refine J2 g sz.1 G u7 λF8 r n aa I s8 H8 s hP=>?_;have f:=RM hA s hR.s0 hW hP;have e9:kH (.bool true) (oB (ej .gtr 3 (V.I n) (V.I 12)) λt=>oB (some t) λv=>qe v (oB (fP 1 (.ptr D.next 0)) λx=>oB (er x r) λy=>ej .eql 3 y (V.I 0)))=some (.bool true):=by
  have l1:er (.ptr D.next (0+1)) r=some (.I fY):=H8.ld 0 rfl rfl;simp only[fg,ml,fM,l1,hD,ko,jR];rcases f with i|i
  ·rw[OH (by omega)];rfl
  ·rw[i];simp
 exact ec e9 (H r)
end
