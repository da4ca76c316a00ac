/- Parts. -/
import Derived.Test.YtcoaokdoecgcbaaGreatDoorM40
set_option maxHeartbeats 4000000
namespace Go.Proofs.YtcoaokdoecgcbaaGreatDoor.Hx
open Un Dm
def TF:HT:=⟨zhF,zco,DZ,Cp,Cr,og,EN⟩
theorem htF:NU TF where
 agg:=by kernel_rfl
 mL:=by kernel_rfl
 mS:=by kernel_rfl
 mW:=by kernel_rfl
 mP:=by kernel_rfl
 mQ:=by kernel_rfl
 kL h:=Na h
 kS h:=LR h
 kW h:=ML h
 kP h:=MA rfl rfl h
 kQ h:=Nm h
abbrev vf0(w:V):List V:=[w]
theorem hv0:HV 0 vf0:=⟨λ_=>rfl,λ_ _=>rfl⟩
section
variable{F F':Nat->Prop}{h h':Hp}{cs:List Pc}{Q K:fj}
theorem zcO{lm:Nat}{S:Int->Prop}{i:Nat}(J:ej F h cs)(hi:cs[i]? =some (UB lm S)){s0:Nat}(L:s0<=3000)(EC:¬S ((16+s0:Nat):Int))
  (M:∀h' k,Sn F h F h'->ej F h' cs->¬S k->((0<=k/\k<12)\/(16<=k/\k<=16+s0/\∀r,r<12->S (r:Nat)))->K (.I k) h'):cP CS CO [.map lm] h K:=by
 refine RH ?_;rw[za,fK]
 let⟨u,s1⟩:=J.Ra (E:=eZ) (xs:=[]) (ws:=[]) fN rfl trivial rfl
 have u:ej F (h.new (.cells 3 1 true false [])) (ft eZ fN [] (.slice h.next 0 0)::cs):=u;have s1:Sn F h F (h.new (.cells 3 1 true false [])):=s1;generalize h.new (.cells 3 1 true false [])=N at*;generalize V.slice h.next 0 0=w0 at*
 let⟨t,v⟩:=u.xC zco [.ed]
 rw[fK];have t:=t;have v:=v;generalize N.next=m at*
 let⟨T,O,_,z,P⟩:=t.st 0 rfl (o:=0) (by simp) (t.one 1 rfl)
 rw[O,eh];have z:=z.sw;have A:=(s1.trans v).trans P;have a:∀{x:Nat},ef .add 3 (.I (x:Nat)) (.I 1)=ef .add 3 (.I (x:Nat)) (.I ((1:Nat):Int)):=rfl
 have fF:∀s xs w h' k,Sn F h F h'->Rr F h' m zco vf0 xs w cs->xs.length<=13->(∀x∈xs,¬S x/\((0<=x/\x<12)\/(16<=x/\x<=16+s0/\∀r,r<12->S (r:Nat))))->
   (xs=[]->s+k=s0+1/\s<=s0/\∀r,r<12->S (r:Nat))->s<=s0+1->yt K [.map lm,.ptr m 0,.I ((16+s:Nat):Int)] h':=by
  intro s xs w h' k f d n g j H
  refine NG (λk l h'=>∃s xs w,l=[.map lm,.ptr m 0,.I ((16+s:Nat):Int)]/\Sn F h F h'/\Rr F h' m zco vf0 xs w cs/\xs.length<=13/\
   (∀x∈xs,¬S x/\((0<=x/\x<12)\/(16<=x/\x<=16+s0/\∀r,r<12->S (r:Nat))))/\(xs=[]->s+k=s0+1/\s<=s0/\∀r,r<12->S (r:Nat))/\s<=s0+1) ?_ ⟨s,xs,w,rfl,f,d,n,g,j,H⟩
  rintro k _ _ _ h' ⟨s,xs,w,⟨⟩,f,d,n,g,j,H⟩;unfold ED;refine ec (d.ld 1 rfl rfl) (ec (d.len 0 rfl) (fM (fX ?_)))
  cases xs with
  | nil=>
    let⟨U,W,I⟩:=j rfl
    refine fO rfl ?_
    let⟨b,B,c2⟩:=d.zfj (i+2) hi ((16+s:Nat):Int)
    refine ec B (py ?_);by_cases hb:b=true
    ·refine fO hb (Cm ?_)
     unfold wP;rw[a];have hs:s≠s0:=λe=>EC (e▸c2.1 hb);exact j9 (by omega) (by omega) ⟨k-1,by omega,s+1,[],w,rfl,f,d,n,g,λ_=>⟨by omega,by omega,I⟩,by omega⟩
    ·refine fH hb (htF.push hv0 d (by simp) λC ys D s4 _ hq p=>Cm ?_)
     obtain rfl:=hq (by simp);unfold wP;rw[a];refine j9 (by omega) (by omega) ⟨0,by omega,s+1,[((16+s:Nat):Int)],D,rfl,f.trans s4,p,by simp,λx c=>?_,(λe=>by cases e),by omega⟩;obtain rfl:=Hh.1 c
     exact⟨λG=>hb (c2.2 G),.inr ⟨by omega,by omega,I⟩⟩
  | cons x xs=>
    refine fH (by simp;omega) (htF.pop hv0 d (by simp at n;omega) λC _ _ s4 _ p=>?_);refine ec (rfl) ?_;have c:=g x (Wh ..);exact M C x (f.trans s4) p.tail.tail c.1 c.2
 refine Ny (λk l h'=>∃r xs w,l=[.map lm,.ptr m 0,.I (r:Nat)]/\r+k=12/\Sn F h F h'/\Rr F h' m zco vf0 xs w cs/\xs.length<=r/\(∀x∈xs,0<=x/\x<r/\¬S x)/\∀q,q<r->S (q:Nat)\/((q:Nat):Int)∈xs) ?_ (k:=12)
  ⟨0,[],w0,rfl,rfl,A,z,jJ _,by simp,by simp⟩
 rintro k _ _ _ h' ⟨r,xs,w,⟨⟩,X,f,d,n,g,j⟩;unfold EY;by_cases hr:r<12
 ·refine gy ?_
  let⟨b,B,c2⟩:=d.zfj (i+2) hi (r:Nat)
  refine ec B (py ?_);by_cases hb:b=true
  ·refine fO hb (Cf ?_);unfold xD;rw[a];refine j9 (by omega) (by omega) ⟨k-1,by omega,r+1,xs,w,rfl,by omega,f,d,by omega,λx c=>?_,λq hq=>?_⟩
   ·have:=g x c;exact⟨this.1,by omega,this.2.2⟩
   ·by_cases hq2:q=r
    ·subst hq2;exact .inl (c2.1 hb)
    ·exact j q (by omega)
  ·refine fH hb (htF.push hv0 d (by omega) λC ys D s4 _ hq p=>Cf ?_);obtain rfl:=hq λy Q=>by have:=g y Q;omega
   unfold xD;rw[a];refine j9 (by omega) (by omega) ⟨k-1,by omega,r+1,xs++[((r:Nat):Int)],D,rfl,by omega,f.trans s4,p,by simp;omega,λx c=>?_,λq hq=>?_⟩
   ·rcases yX.1 c with c|c
    ·have:=g x c;exact⟨this.1,by omega,this.2.2⟩
    ·obtain rfl:=Hh.1 c;exact⟨by omega,by omega,λG=>hb (c2.2 G)⟩
   ·by_cases hq2:q=r
    ·subst hq2;exact .inr (wBL _ (Hh.2 rfl))
    ·exact(j q (by omega)).imp id λR=>Zu _ R
 ·refine iA ?_;obtain rfl:r=12:=by omega
  refine fF 0 xs w h' (s0+1) f d (by omega) (λx c=>?_) (λe=>⟨by omega,by omega,λq hq=>(j q hq).resolve_right (by rw[e];simp)⟩) (by omega);have:=g x c;exact⟨this.2.2,.inl ⟨this.1,this.2.1⟩⟩
variable{u:U}{P:Nat->Prop}{w:Nat}
theorem Zp:∀{l d:List Nat},bh u (l++d) P w->bh u d P w\/∃(n:Nat)(x:Nat),l[n]? =some x/\gJ u x=false/\w∈BP u x
 |[],_,h=> .inl h
 | y ::l,d,h=>by
   have h':if gJ u y=true then bh u (l++d) P w else(bh u (l++d) P w/\w≠y)\/w∈BP u y:=h
   have up:bh u (l++d) P w->bh u d P w\/∃n x,(y::l)[n]? =some x/\gJ u x=false/\w∈BP u x:=λh=>(Zp h).imp id λ⟨n,x,a,b⟩=>⟨n+1,x,a,b⟩
   split at h'
   ·simp_all
   ·rename_i e
    rcases h' with h'|h'
    ·simp_all
    ·exact .inr ⟨0,y,rfl,by simp_all,h'⟩
theorem YF:∀{l d:List Nat},bh u d P w->w ∉ l->bh u (l++d) P w
 |[],_,h,_=>h
 |y::l,d,h,hn=>Ua (YF h (by simp_all)) (by simp_all)
end
section
variable{u:U}(g:Good u){In Out:Nat->Nat->Prop}(h:mn u (iu u) In Out)
include g
theorem Yg{x b m w:Nat}(c:At u x b m)(f:gJ u x=false)(a:w∈BP u x):zaH u w b m:=by
 let⟨y,hy,hh⟩:=g.BK c
 unfold BP at a;rw[hy]at a;rcases yX.1 a with a|a
 ·refine g.ZC x b m y c hy (λe=>?_) w a;rw[hh,e]at f;cases f
 ·split at a
  ·rename_i hl;unfold nN at a;split at a
   ·rename_i fs d;exact g.Zq x b m y fs c hy hl d w a
   ·cases a
  ·cases a
include h
theorem zaV{v b i w:Nat}(hv:At u v b i)(t:w<u.ee.length)(a:bh u ((iD u b).drop (i+1)) (Out b) w)(y:w≠v) :
  ∃c j,At u w c j/\((c≠b/\zJ (next u) c b)\/(c=b/\(j<i\/(i<j/\gJ u w=true)))):=by
 have z:b<u.blocks.length:=by let⟨B,d,_⟩:=hv;exact by grind
 let⟨c,j,hc⟩:=g.NN w t trivial
 refine⟨c,j,hc,?_⟩;by_cases e:c=b
 ·subst e;refine .inr ⟨rfl,?_⟩;by_cases hj:j<i
  ·omega
  have A:j≠i:=λe=>by
   subst e;exact y (Option.some.inj ((j8.2 hc).symm.trans (j8.2 hv)))
  refine .inr ⟨by omega,?_⟩;by_cases f:gJ u w=true
  ·exact f
  exfalso;have k:=(ke.1 (j8.2 hc)).1;have o:=(ke.1 (j8.2 hc)).2;have split:(iD u c).drop (i+1)=((iD u c).drop (i+1)).take (j-(i+1))++(w::(iD u c).drop (j+1)):=by
   conv=>lhs;rw[<-wAu (j-(i+1)) ((iD u c).drop (i+1))]
   rw[wBi,show i+1+(j-(i+1))=j by omega,wAb k,o]
  rw [split]at a;have C:∀m x,At u x c m->m<=j->gJ u x=false->w∈BP u x->False:=λm x D s f E=>by
   let⟨c',j',d,p⟩:=Yg g D f E
   obtain⟨rfl,rfl⟩:=g.Rp _ _ _ _ _ hc d;omega
  rcases Zp a with a|⟨n,x,d,p,F⟩
  ·unfold bh at a
   grind
  grind[j8]
 ·refine .inl ⟨e,?_⟩;have r:In b w:=by
   have G:=YF (l:=(iD u b).take (i+1)) a λs=>e ?_
   ·grind[wAu,zgG]
   ·let⟨q,hq⟩:=mz.1 s
    rw[List.getElem?_take]at hq;split at hq
    ·exact(g.Rp _ _ _ _ _ hc (j8.1 hq)).1
    ·cases hq
  let⟨c',j',d,p,_⟩:=g.Yu h r
  obtain⟨rfl,rfl⟩:=g.Rp _ _ _ _ _ hc d;exact p
omit h g in
theorem Rc {post:List Nat}{seen:List Bool}{n:Nat}(G:No n (next u) seen post [])(hr:∀b,b∈post->∃l,Pt (next u) b l):∀(k:Nat){r l:List Nat}{c b:Nat},r.length<=k->post=l++b::r->zJ (next u) c b->c≠b->c∈r
 | k,r,l,c,b,hk,hp,hd,hn=>by
   rcases G.early l b r hp with rfl|⟨p,h1,h2|h2⟩
   ·have:=hd _ .nil
    simp_all
   ·by_cases e:c=p
    ·simp_all
    obtain⟨r1,r2,rfl⟩:=wBt h2;have hl:r2.length<(r1++p::r2).length:=by simp;omega
    match k,hk with
    |0,hk=>omega
    | k+1,hk=>
      have:=Rc G hr k (r:=r2) (l:=l++b::r1) (c:=c) (b:=p) (by omega) (by simp_all) (TH hd hn h1) e
      simp_all
   ·cases h2
end
def Dn(u:U)(ord:List Nat)(n i w:Nat):Prop:=∃m c j,ord[m]? =some c/\At u w c j/\(m<n\/(m=n/\j<i))
structure Alc (u:U) (Out:Nat->Nat->Prop) (ord:List Nat) (n i:Nat) (of:List Int) (done:List Bool) (fF:Int):Prop where
 len:of.length=u.ee.length
 dl:done.length=u.ee.length
 dn:∀w,On done w↔Dn u ord n i w
 pl:∀k∈of,OT fF k
 s0:0<=fF
 s1:fF<=(done.count true:Nat)
 ap:∀m c j v,ord[m]? =some c->At u v c j->On done v->∀w,w<u.ee.length->bh u ((iD u c).drop (j+1)) (Out c) w->w≠v->Dn u ord m j w->of[w]?≠of[v]?
 hd:∀c j v,At u v c j->On done v->gJ u v=true->∀a w,a<j->At u w c a->gJ u w=true->of[w]?≠of[v]?
 few:∀c j v k,At u v c j->On done v->of[v]? =some k->16<=k->∀r:Nat,r<12->∃w,w≠v/\On done w/\of[w]? =some (r:Int)/\(bh u ((iD u c).drop (j+1)) (Out c) w\/(gJ u v=true/\gJ u w=true/\∃a,At u w c a))
 sl:0<fF->∃c j v k,At u v c j/\On done v/\of[v]? =some k/\16<=k
section
variable{u:U}(g:Good u){Out:Nat->Nat->Prop}{ord:List Nat}{n i:Nat}{of:List Int}{done:List Bool}{fF:Int}
theorem Alc.start(u:U)(Out:Nat->Nat->Prop)(ord:List Nat):Alc u Out ord 0 0 (List.replicate u.ee.length 0) (List.replicate u.ee.length false) 0:=by
 have no:∀{w},¬On (List.replicate u.ee.length false) w:=by grind[On]
 refine⟨by simp,by simp,λw=>⟨by simp_all,λ⟨m,c,j,_,_,h⟩=>?_⟩,λk a=>?_,by omega,by omega,by simp_all,by simp_all,by simp_all,λh=>?_⟩
 ·omega
 ·rw[(List.mem_replicate.1 a).2];exact .inl ⟨by omega,by omega⟩
 ·omega
theorem Alc.block(A:Alc u Out ord n i of done fF){b:Nat}(a:ord[n]? =some b)(hi:i=(iD u b).length):Alc u Out ord (n+1) 0 of done fF:=
 { A with
   dn := λw=>by
     rw[A.dn w];constructor
     ·grind[Dn,Un.iD]
     ·rintro⟨m,c,j,d,e,f⟩
      grind[id,ke,j8,Dn,Un.iD,Un.At]}
include g
theorem Alc.step(A:Alc u Out ord n i of done fF)(P:ord.Nodup){b v:Nat}(K:ord[n]? =some b)(hv:At u v b i){S:Int->Prop}{k:Int}
  (N:∀x,S x↔(gJ u v=true/\∃j w,j<i/\At u w b j/\gJ u w=true/\of[w]? =some x)\/∃w,bh u ((iD u b).drop (i+1)) (Out b) w/\w≠v/\On done w/\of[w]? =some x)
  (Q:¬S k) (hp:(0<=k/\k<12)\/(16<=k/\k<=16+fF/\∀r,r<12->S (r:Nat))) :
  Alc u Out ord n (i+1) (of.set v k) (done.set v true) (max fF (k-16+1)):=by
 have D:=g.uP v b i hv;have R:v<of.length:=by rw[A.len];exact D
 have E:v<done.length:=by rw[A.dl];exact D
 have T:¬On done v:=λh=>by
  let⟨m,c,j,a,d,o⟩:=(A.dn v).1 h
  obtain⟨rfl,rfl⟩:=g.Rp _ _ _ _ _ hv d
  grind[wBz,ke]
 have on:∀w,On (done.set v true) w↔w=v\/On done w:=λw=>by
  rw[Ln E]
  grind
 have F:(of.set v k)[v]? =some k:=by simp_all
 have f:∀w,w≠v->(of.set v k)[w]? =of[w]?:=by grind
 have L:∀w,Dn u ord n (i+1) w↔w=v\/Dn u ord n i w:=λw=>by
  constructor
  ·rintro⟨m,c,j,a,d,o⟩;by_cases hj:m=n/\j=i
   ·obtain⟨rfl,rfl⟩:=hj;rw[K]at a;cases a;exact .inl (Option.some.inj ((j8.2 d).symm.trans (j8.2 hv)))
   ·exact .inr ⟨m,c,j,a,d,by omega⟩
  ·rintro(rfl|⟨m,c,j,a,d,o⟩)
   ·exact⟨n,b,i,K,hv,by omega⟩
   ·exact⟨m,c,j,a,d,by omega⟩
 have G:∀m c j,ord[m]? =some c->At u v c j->m=n/\c=b/\j=i:=λm c j a d=>by
  obtain⟨rfl,rfl⟩:=g.Rp _ _ _ _ _ hv d;exact⟨(by grind[wBz,ke]),rfl,rfl⟩
 refine⟨by rw[wBF];exact A.len,by rw[wBF];exact A.dl,λw=>by rw[on,L,A.dn],λx l=>?_,by have:=A.s0;omega,?_,?_,?_,?_,?_⟩
 ·rcases wBG l with l|rfl
  ·rcases A.pl x l with h|h
   ·exact .inl h
   ·exact .inr ⟨h.1,by omega⟩
  ·rcases hp with h|h
   ·exact .inl h
   ·exact .inr ⟨h.1,by omega⟩
 ·have hc:(done.set v true).count true=done.count true+1:=by
   have h0:done[v]=false:=by
    cases l:done[v]with
    |false=>rfl
    |true=>grind[absurd,On,hZ]
   rw[List.count_set E,h0];simp
  rw[hc];have:=A.s1;omega
 ·intro m c j x a d o w I p s H;by_cases l:x=v
  ·subst l;obtain⟨rfl,rfl,rfl⟩:=G m c j a d;rw[f w s,F];intro e;exact Q ((N k).2 (.inr ⟨w,p,s,(A.dn w).2 H,e⟩))
  ·have hd:=((on x).1 o).resolve_left l;have t:w≠v:=λe=>by
    subst e
    let⟨m',c',z,B,y,C⟩:=H
    obtain⟨rfl,rfl,rfl⟩:=G m' c' z B y
    let⟨U,c2,V,r1,r2,W⟩:=(A.dn x).1 hd
    obtain⟨rfl,rfl⟩:=g.Rp _ _ _ _ _ d r2
    grind[wBz,ke]
   rw[f w t,f x l];exact A.ap m c j x a d hd w I p s H
 ·intro c j x a d o z w p s H;have X:w≠x:=λe=>by
   subst e;have:=(g.Rp _ _ _ _ _ a s).2;omega
  by_cases l:x=v
  ·subst l;obtain⟨rfl,rfl⟩:=g.Rp _ _ _ _ _ hv a
   grind
  ·have hd:=((on x).1 d).resolve_left l;have t:w≠v:=λe=>by
    subst e;obtain⟨rfl,rfl⟩:=g.Rp _ _ _ _ _ hv s
    let⟨U,c2,V,r1,r2,W⟩:=(A.dn x).1 hd
    obtain⟨rfl,rfl⟩:=g.Rp _ _ _ _ _ a r2
    grind
   rw[f w t,f x l];exact A.hd c j x a hd o z w p s H
 ·intro c j x q a d o p r O;by_cases l:x=v
  ·subst l;obtain⟨rfl,rfl⟩:=g.Rp _ _ _ _ _ hv a;rw[F]at o;cases o;have M:=hp.resolve_left λh=>by omega
   rcases(N _).1 (M.2.2 r O)with⟨B,z,w,y,C,J,Y⟩|⟨w,B,y,C,J⟩
   ·have I:w≠x:=by grind
    exact⟨w,I,(on w).2 (.inr ((A.dn w).2 ⟨n,_,z,K,C,.inr ⟨rfl,y⟩⟩)),by rw[f w I];exact Y,.inr ⟨B,J,z,C⟩⟩
   ·exact⟨w,y,(on w).2 (.inr C),by rw[f w y];exact J,.inl B⟩
  ·have hd:=((on x).1 d).resolve_left l;rw[f x l]at o
   let⟨w,B,y,C,J⟩:=A.few c j x q a hd o p r O
   grind
 ·intro hs;by_cases hk16:16<=k
  ·grind
  ·let⟨c,j,x,q,a,d,o,p⟩:=A.sl (by omega)
   grind
def zgB(u:U)(Out:Nat->Nat->Prop)(of:List Int)(fF:Int):Prop:=0<fF->∃c j v,At u v c j/\∀r:Nat,r<12->∃w,w≠v/\of[w]? =some (r:Int)/\(bh u ((iD u c).drop (j+1)) (Out c) w\/(gJ u v=true/\gJ u w=true/\∃a,At u w c a))
theorem Alc.right{In:Nat->Nat->Prop}(h:mn u (iu u) In Out){post:List Nat}{seen:List Bool}(G:No u.blocks.length (next u) seen post [])(A:Alc u Out post.reverse post.reverse.length 0 of done fF)(O:u.ee.length<=399) :
  kK u Out of fF/\zgB u Out of fF:=by
 have z:=TS G;have s:=λb o=>mz.1 (wA7.2 (LV g G b o));have f:∀v c j,At u v c j->On done v:=λv c j hv=>by
  have hc:c<u.blocks.length:=by let⟨B,d,_⟩:=hv;exact(ke.1 d).1
  let⟨m,hm⟩:=s c hc
  exact(A.dn v).2 ⟨m,c,j,hm,hv,.inl (ke.1 hm).1⟩
 refine⟨⟨A.len,A.s0,?_,A.pl,λc i=>⟨λv hv F j w H t C=>?_,λv hv w t o nw=>?_⟩⟩,λhs=>?_⟩
 ·have d:=A.s1;have e:=List.count_le_length (a:=true) (l:=done);rw[A.dl]at e;omega
 ·exact A.hd c i v hv (f v c i hv) F j w H t C
 ·have hc:c<u.blocks.length:=by let⟨B,d,_⟩:=hv;exact(ke.1 d).1
  let⟨m,hm⟩:=s c hc
  let⟨c',j,d,e⟩:=zaV g h hv t o nw
  rcases e with⟨e,p⟩|⟨rfl,e|⟨e,p⟩⟩
  ·refine A.ap m c i v hm hv (f v c i hv) w t o nw ?_
   let⟨l,r,hlr⟩:=wBt (wA7.1 (yN hm))
   have x:=Rc G (λb o=>g.reach b (G.pre b o)) r.length (jJ _) hlr p e;have n:post.reverse=r.reverse++c::l.reverse:=by rw[hlr];simp
   have D:m=r.length:=by
    have I:post.reverse[r.length]? =some c:=by rw[n];simp
    exact(wBz (ke.1 hm).1 z).1 (hm.trans I.symm)
   let⟨q,hq⟩:=mz.1 (wA7.2 x)
   have y:=(ke.1 hq).1;refine⟨q,c',j,by rw[n,UF y];exact hq,d,.inl (by rw[D];simpa using y)⟩
  ·exact A.ap m c' i v hm hv (f v c' i hv) w t o nw ⟨m,c',j,hm,d,.inr ⟨rfl,e⟩⟩
  ·have E:=g.PC d p hv (by omega);exact(A.hd c' j w d (f w c' j d) p i v e hv E).symm
 ·let⟨c,j,v,k,d,e,p,J⟩:=A.sl hs
  exact⟨c,j,v,d,λr K=>let⟨w,L,_,M,N⟩:=A.few c j v k d e p J r K;⟨w,L,M,N⟩⟩
end
section
variable{F F':Nat->Prop}{h h':Hp}{cs:List Pc}{Q:fj}{u:U}{vv vb vs:V}
theorem Ks{Q:fj}{fu a:LP}{v w x4 x y z A b c gL d e f g i j k:V} {h h':Hp}(hv:QX .i64 k gL h=some h')(H:nM Q fu a [v,w,x4,x,y,z,A,b,c,gL,d,e,f,g,i,j] h') :
  Ab Q fu a [v,w,x4,x,y,z,A,b,c,gL,d,e,f,g,i,j,k] h:=by
 refine JV.fill (F:=⟨63,64,65,66,67,14,68,69,13,4,zhv,3,.i64⟩) (by kernel_rfl) (λρ h=>by kernel_rfl) (by decide) rfl (λρ B=>?_) H;simp[ List.map_nil]at B
 let⟨C,D,E,G,I,J,K,m,n,l,o,p,q,r,s,t,u⟩:=B
 refine⟨by simp[ List.map_nil,C,D,E,G,I,J,K,m,n,l,o,p,q,r,s,t],?_⟩;show QX .i64 (ρ 63) (ρ 13) h=_;rw[u,l];exact hv
theorem VR(g:Good u)(hn:u.ee.length<=390)(H0:ej F h cs)(hu:EZ F h u vv vb vs)
  (H:∀F' h' of xW fF In Out,Sn F h F' h'->ej F' h' (ft eZ fN of xW::cs)->mn u (iu u) In Out->kK u Out of fF->zgB u Out of fF->Q (.tuple [.agg [xW,.I fF],.I 0]) h') :
  cP CS yD [.agg (uC u vv vb vs)] h Q:=by
 refine Oc ?_;have nb:=g.nb;refine oC H0 hu.one λp H1 s1=>?_;generalize h.next=lu at*
 let⟨H2,s2⟩:=H1.xC y5 [.ed,.I 0]
 rw[fK];have H2:=H2;have s2:=s2;generalize p.next=lr at*;have aB:=s1.trans s2;have u2:=hu.since aB;refine ec (H2.tj 1 rfl rfl) ?_;refine QW g H2 u2 λF3 C s3 H3=>?_;refine py (fO rfl ?_);refine ec (H3.tj 1 rfl rfl) ?_;refine Za g H3 (u2.since s3) λF4 q lv tu jI ins outs s4 H4 bQ aV hA=>?_
 let⟨H5,s5,ri⟩:=H4.hY 0 rfl
 let⟨H6,s6,ro⟩:=H5.hY 1 rfl
 have H6:=H6.tail.tail;have aC:=((aB.trans s3).trans s4).trans (s5.trans s6);have ro:=ro;generalize (λl=>(F4 l\/Loc tu l)\/Loc jI l)=F6 at*;have u6:=hu.since aC;refine oF (H6.ld 2 rfl rfl) (ec u6.v.len ?_);rw[pG rfl (by decide) (by omega),fK]
 let⟨H7,s7⟩:=H6.make (E:=eZ) (ty:=fN) (u:=V.I 0) u.ee.length rfl rfl
 have H7:=H7;have s7:=s7;refine ec (rfl) ?_;generalize q.new (.cells 3 1 true false (List.replicate u.ee.length (V.I 0)))=h7 at*;generalize V.slice q.next 0 u.ee.length=xW at*;refine jX H7 rfl rfl (by simp[ H7.one 0 rfl];rfl) λh8 H8 s8=>?_;generalize h7.next=lp at*;have aD:=s7.trans s8;refine oF (H8.ld 4 rfl rfl) (ec (u6.since aD).v.len ?_);rw[pG rfl (by decide) (by omega),fK]
 let⟨H9,s9⟩:=H8.make (E:=eB) (ty:=hV) (u:=V.bool false) u.ee.length rfl rfl
 have H9:=H9;have s9:=s9;generalize V.slice h8.next 0 u.ee.length=wd at*;have aE:=aD.trans s9;refine ec (H9.tj 5 rfl rfl) ?_;refine M3 g H9 (u6.since aE) λaF aW vo seen post aX aY G aj=>?_;refine ec aj.len ?_;have al:=aE.trans aX;have uA:=u6.since al;have aZ:=ro.since al;have bR:post.reverse.length<=300:=by rw[List.length_reverse,Mw g G];exact nb
 have a0:=TS G;have a1:=aC.trans al;have base:∃base,base=λdone fF of=>ft eB hV done wd::eD lp y5 [xW,.I fF]::ft eZ fN of xW::eD lv mG [.I u.func,.I u.pc,vv,vb,vs,tu,jI]::eD lr y5 [.ed,.I 0]::eD lu 34 (uC u vv vb vs)::cs:=⟨_,rfl⟩
 let⟨base,hbase⟩:=base
 obtain ⟨I0,am⟩:∃I0,I0=λk l h'=>∃F' n of done fF,l=[.ptr lu 0,.ptr lr 0,.ptr lv 0,.ptr lp 0,wd,vo,.I post.reverse.length,.I (n:Nat)]/\n+k=post.reverse.length/\Sn aF aW F' h'/\
  ej F' h' (base done fF of)/\Alc u (nD outs) post.reverse n 0 of done fF:=⟨_,rfl⟩
 refine Ka I0 ?_ (k:=post.reverse.length) (by rw[am];exact⟨aF,0,_,_,0,rfl,by omega,.refl _ _,by rw[hbase];exact aY,.start u (nD outs) _⟩);intro k _ _ _ _ _ _ _ _ aG aH;rw[am]at aH;obtain⟨aI,n,of,done,fF,⟨⟩,hk,P,D,A⟩:=aH;unfold zZ;by_cases hnl:n<post.reverse.length;rotate_left
 ·rw[hbase]at D;refine iA ?_;obtain rfl:n=post.reverse.length:=by omega
  let⟨hR,hW⟩:=A.right g hA G (by omega)
  refine oF (D.ld 1 rfl rfl) (ec (jr _ _ _ _) (fX (fH (by have:=hR.s1;simp;omega) ?_)));refine ec (D.tj 1 rfl rfl) ?_
  let⟨an,a2,_,aa,R⟩:=D.Tw 4 rfl (ws:=[xW,.I fF]) (n:=2) rfl rfl (by simp[ D.one 2 rfl];rfl)
  rw[a2,eh];refine ec (aa.tj 4 rfl rfl) ?_;exact H aI an of xW fF (nD ins) (nD outs) ((a1.trans P).trans R) aa.tail.tail.Eu.Eu.Eu hA hR hW
 refine gy ?_;have a3:=uA.since P;obtain⟨b,hb⟩:∃b,post.reverse[n]? =some b:=⟨_,hZ hnl⟩
 have a4:=G.pre b (wA7.1 (yN hb));obtain⟨B,hB⟩:∃B,u.blocks[b]? =some B:=⟨_,hZ a4⟩
 have aJ:iD u b=B.ee:=by unfold iD;rw[hB]
 have bS:=tB g hB
 let⟨bU,bV,_,i1,i2⟩:=(aj.since P).nat hb .i64
 refine ec i1 (ec i2 ?_);rw[fK]
 let⟨aa,R⟩:=D.zfB
 generalize aG.new (.map [] 0)=an at*;generalize aG.next=lm at*;have a5:Lk aI an (wH lm (λ_=>False)::base done fF of) lv u vv vb vs tu jI:=⟨aa,⟨4,by rw[hbase];rfl⟩,a3.since R⟩
 refine RN g a5 (aZ.since (P.trans R)) aV hB λf a6 wr rs a7 a8 aK bW a9=>?_;refine ec aK.len ?_;have aL:=(P.trans R).trans a7
 obtain ⟨I1,ao⟩:∃I1,I1=λk l h'=>∃(S:Int->Prop) (of:List Int) (done:List Bool) (fF:Int) (i:Nat),l=[.ptr lu 0,.ptr lr 0,.ptr lv 0,.ptr lp 0,wd,.I b,.map lm,vo,.I post.reverse.length,.I n,wr,.I rs.length,.I i]/\
  i+k=B.ee.length/\Sn f a6 f h'/\ej f h' (wH lm S::base done fF of)/\(∀x,S x↔∃j w,j<i/\At u w b j/\gJ u w=true/\of[w]? =some x)/\Alc u (nD outs) post.reverse n i of done fF:=⟨_,rfl⟩
 refine Ke I1 ?_ (k:=B.ee.length) (by rw[ao];exact⟨λ_=>False,of,done,fF,0,rfl,by omega,.refl _ _,a8,λx=>⟨False.elim,λ⟨_,_,h,_⟩=>by omega⟩,A⟩);intro k1 _ _ _ _ _ _ _ _ _ _ _ _ _ aM aN;rw[ao]at aN;obtain⟨S,of,done,fF,i,⟨⟩,bX,ab,aq,hS,A⟩:=aN;unfold AD;by_cases hi:i<B.ee.length;rotate_left
 ·refine iA ?_;refine fG ⟨k-1,by omega,?_⟩;rw[am];exact⟨f,n+1,of,done,fF,rfl,by omega,aL.trans ab,aq.tail,A.block hb (by rw[aJ];omega)⟩
 refine gy ?_;obtain⟨v,hv⟩:∃v,B.ee[i]? =some v:=⟨_,hZ hi⟩
 have I:At u v b i:=⟨B,hB,hv⟩
 have T:=g.uP v b i I;obtain⟨row,ak⟩:∃row,rs[i]? =some row:=⟨_,hZ (by omega)⟩
 let⟨hrw,hrb⟩:=a9 i row ak
 let⟨bY,bZ,W,_,j1,j2,j3⟩:=(aK.since ab).list ak .i64
 have ar:=(uA.since aL).since ab
 let⟨lb,ob,bv,_,_,_,b1,b2,iv,_,_,ba⟩:=ar.B8 hB
 let⟨lw,ow,_,w1,w2⟩:=iv.nat hv .i64
 have X:∀{F h done fF of},ej F h (base done fF of)->ej F h (ft eB hV done wd::eD lp y5 [xW,.I fF]::ft eZ fN of xW::eD lv mG [.I u.func,.I u.pc,vv,vb,vs,tu,jI]::eD lr y5 [.ed,.I 0]::eD lu 34 (uC u vv vb vs)::cs):=λH=>by rw[hbase]at H;exact H
 refine ec j1 (ec j2 (oF ((X aq.tail).ld 5 rfl rfl) (ec b1 (oF ba.ee (ec w1 (ec w2 ?_))))));rw[fK]
 let⟨au,ac⟩:=aq.zfB
 generalize aM.new (.map [] 0)=aw at*;generalize aM.next=lq at*;have bb:Lk f aw (wH lq (λ_=>False)::wH lm S::base done fF of) lv u vv vb vs tu jI:=⟨au,⟨5,by rw[hbase];rfl⟩,ar.since ac⟩
 refine FO bb T (fX ?_)
 have aO:∀J U0,Sn f aw f J->ej f J (UB lq U0::wH lm S::base done fF of)->(∀x,U0 x↔gJ u v=true/\S x)->nM Q (Pp I0 k) (Pp I1 k1)
   [.ptr lu 0,.ptr lr 0,.ptr lv 0,.ptr lp 0,wd,.I b,.map lm,W,.I v,.map lq,vo,.I post.reverse.length,.I n,wr,.I rs.length,.I i] J:=by
  intro J U0 ax bc bd;refine IZ ?_;unfold zn;have sE:=(ab.trans ac).trans ax;have aP:=j3.since (ac.trans ax);have be:=ar.since (ac.trans ax);refine ec aP.len ?_
  obtain ⟨I3,ay⟩:∃I3,I3=λk l h'=>∃(U:Int->Prop) (w:Nat),l=[.ptr lu 0,.ptr lr 0,.ptr lv 0,.ptr lp 0,wd,.I b,.map lm,.I v,.map lq,vo,.I post.reverse.length,.I n,wr,.I rs.length,.I i,W,.I row.length,.I w]/\
   w+k=row.length/\Sn f J f h'/\ej f h' (UB lq U::wH lm S::base done fF of)/\∀x,U x↔U0 x\/∃w',w' < w/\On row w'/\w'≠v/\On done w'/\of[w']? =some x:=⟨_,rfl⟩
  refine J5 I3 ?_ (k:=row.length) (by rw[ay];exact⟨U0,0,rfl,by omega,.refl _ _,bc,λx=>⟨.inl,λh=>h.elim id λ⟨_,h,_⟩=>by omega⟩⟩);intro k3 _ _ _ _ _ _ _ _ _ _ _ _ _ _ _ _ _ _ K aQ;rw[ay]at aQ;obtain⟨U,w,⟨⟩,b3,L,M,hU⟩:=aQ;unfold Au;have bf:=be.since L;have ad:=X M.tail.tail;by_cases hw:w<row.length
  ·refine gy ?_;obtain⟨x,hx⟩:∃x,row[w]? =some x:=⟨_,hZ hw⟩
   obtain⟨d,hd⟩:∃d,done[w]? =some d:=⟨_,hZ (by rw[A.dl];omega)⟩
   obtain⟨y,hy⟩:∃y,of[w]? =some y:=⟨_,hZ (by rw[A.len];omega)⟩
   let⟨l1,o1,_,p1,p2⟩:=(aP.since L).bool hx .i64
   let⟨l2,o2,q1,q2⟩:=ad.Yw 0 rfl hd .i64
   have E1:iM (.bool x) (oB (some (V.I w)) λbg=>oB (some (V.I v)) λbi=>ef .neq 3 bg bi)=some (.bool (x&&((w:Nat):Int) != (v:Nat))):=by
    simp[ rZ]
   have E2:∀c,iM (.bool c) (oB (some wd) λbj=>oB (some (V.I w)) λbm=>oB (gM 1 bj bm) λbo=>ez bo K)=some (.bool (c&&d)):=λc=>by
    simp[ q1,q2]
   refine ec p1 (ec p2 (ec E1 (ec (E2 _) (fX ?_))))
   have next:∀r U',Sn f K f r->ej f r (UB lq U'::wH lm S::base done fF of)->(∀x,U' x↔U0 x\/∃w',w' < w+1/\On row w'/\w'≠v/\On done w'/\of[w']? =some x)->nR Q (Pp I0 k) (Pp I1 k1) (Pp I3 k3)
     [.ptr lu 0,.ptr lr 0,.ptr lv 0,.ptr lp 0,wd,.I b,.map lm,.I v,.map lq,vo,.I post.reverse.length,.I n,wr,.I rs.length,.I i,W,.I row.length,.I w] r:=λr U' N O br=>by
    refine Ig ?_;unfold yS;refine fG ⟨k3-1,by omega,?_⟩;rw[ay];exact⟨U',w+1,rfl,by omega,L.trans N,O,br⟩
   by_cases hc:x=true/\w≠v/\d=true
   ·obtain ⟨rfl,c2,rfl⟩:=hc
    let⟨l3,o3,r1,r2⟩:=ad.BY 2 rfl hy .i64
    let⟨r,bt,_,O,N⟩:=M.zhR 0 rfl y
    refine fO (by simp;omega) (oF (ad.ld 1 rfl rfl) (ec r1 (ec r2 ?_)));rw[show xN 3 none (.map lq) (.I y) (.bool true) K=_ from bt,eh];refine next r _ N O λz=>?_
    show U z\/z=y↔_;rw[hU z];constructor
    ·rintro((p|⟨w',p,m⟩)|rfl)
     ·exact .inl p
     ·exact .inr ⟨w',by omega,m⟩
     ·exact .inr ⟨w,by omega,hx,c2,hd,hy⟩
    ·rintro(p|⟨w',p,m,C,q,h5⟩)
     ·exact .inl (.inl p)
     ·by_cases e:w' = w
      ·subst e;rw[hy]at h5;cases h5;exact .inr rfl
      ·exact .inl (.inr ⟨w',by omega,m,C,q,h5⟩)
   ·refine fH (λe=>hc ?_) (next K U (.refl _ _) M λz=>(hU z).trans ?_)
    ·simp[ bne_iff_ne,Int.natCast_inj]at e;exact⟨e.1.1,e.1.2,e.2⟩
    ·constructor
     ·rintro(p|⟨w',p,m⟩)
      ·exact .inl p
      ·exact .inr ⟨w',by omega,m⟩
     ·rintro(p|⟨w',p,m,C,q,h5⟩)
      ·exact .inl p
      ·by_cases e:w' = w
       ·subst e;unfold On at m q;rw[hx]at m;rw[hd]at q;exact(hc ⟨Option.some.inj m,C,Option.some.inj q⟩).elim
       ·exact .inr ⟨w',by omega,m,C,q,h5⟩
  refine iA ?_;obtain rfl:w=row.length:=by omega
  have aR:∀x,U x↔(gJ u v=true/\∃j w,j<i/\At u w b j/\gJ u w=true/\of[w]? =some x)\/∃w,bh u ((iD u b).drop (i+1)) (nD outs b) w/\w≠v/\On done w/\of[w]? =some x:=λx=>by
   rw[hU x,bd x,hS x,aJ];refine or_congr Iff.rfl ⟨λ⟨w',_,m,C⟩=>⟨w',(hrb w').1 m,C⟩,λ⟨w',m,C⟩=>⟨w',?_,(hrb w').2 m,C⟩⟩;exact zc3 ((hrb w').2 m)
  have pO:=Int.toNat_of_nonneg A.s0;have bL:fF<=390:=by
   have p:=A.s1;have m:=List.count_le_length (a:=true) (l:=done);rw[A.dl]at m;omega
  refine oF (ad.ld 1 rfl rfl) ?_;refine zcO M (i:=0) rfl (s0:=fF.toNat) (by omega) (λbu=>?_) λr y N O bw aS=>?_
  ·have:∃w:Nat,of[w]? =some ((16+fF.toNat:Nat):Int):=by
    rcases(aR _).1 bu with⟨_,_,w,_,_,_,h5⟩|⟨w,_,_,_,h5⟩ <;> exact⟨w,h5⟩
   let⟨w,hw⟩:=this
   rcases A.pl _ (yN hw)with h|h <;> omega
  have A2:=A.step g a0 hb I (k:=y) aR bw (by rw[<-pO];exact aS);have b4:0<=y/\y<=500:=by rcases aS with h|h <;> omega
  have bx:=X O.tail.tail;refine⟨N.next,?_⟩;obtain⟨l1,o1,bz,p1,p2,p3,ae,bA⟩:=O.tail.M7 3 (by rw[hbase];rfl) (k:=v) (by rw[A.len];exact T) rfl (y:=y) (u:= .I y) rfl rfl;refine ec p1 ⟨bx.ld 1 rfl rfl,?_⟩;rw[p2,eh];have ae:ej f bz (wH lm S::base done fF (of.set v y)):=by rw[hbase]at ae⊢;exact ae
  obtain⟨l2,o2,Y,q1,q2,q3,s,bC⟩:=ae.M7 1 (by rw[hbase];rfl) (k:=v) (by rw[A.dl];exact T) rfl (y:=true) (u:= .bool true) rfl rfl;refine⟨p3,ec q1 ?_⟩;rw[q2,eh];have s:ej f Y (wH lm S::base (done.set v true) fF (of.set v y)):=by rw[hbase]at s⊢;exact s
  have Z:=(N.trans bA).trans bC;have bD:Lk f Y (wH lm S::base (done.set v true) fF (of.set v y)) lv u vv vb vs tu jI:=⟨s,⟨4,by rw[hbase];rfl⟩,bf.since Z⟩
  refine⟨q3,FO bD T (fX ?_)⟩;have ag:(of.set v y)[v]? =some y:=Tt (by rw[A.len];exact T)
  have fin:∀t S',Sn f Y f t->ej f t (wH lm S'::base (done.set v true) fF (of.set v y))->(∀x,S' x↔∃j w,j<i+1/\At u w b j/\gJ u w=true/\(of.set v y)[w]? =some x)->od Q (Pp I0 k) (Pp I1 k1)
    [.ptr lu 0,.ptr lr 0,.ptr lv 0,.ptr lp 0,wd,.I b,.map lm,.I v,vo,.I post.reverse.length,.I n,wr,.I rs.length,.I i] t:=λt S' az ah bE=>by
   refine IT ?_;unfold zo;have aA:=X ah.tail
   let⟨l1,o1,p1,p2⟩:=aA.BY 2 rfl ag .i64
   obtain⟨bG,bH,bI,ai,bJ⟩:=ah.st 2 (by rw[hbase];rfl) (o:=1) (by simp) (u:= .I (max fF (y-16+1))) rfl;refine oF (aA.ld 1 rfl rfl) (oF (aA.ld 1 rfl rfl) (ec p1 (ec p2 (ec (jx _ _ _ _) (ec (jf _ _ _ _) ?_)))));rw[show jo .i64 (y-16)=y-16 from gG (by simp[ml];omega),show jo .i64 (y-16+1)=y-16+1 from gG (by simp[ml];omega)];refine ec (Vr _ _ _ _) (ec (fo _ _ _) ?_);rw[if_pos rfl,show gj 1 (.ptr lp (0+1)) (.I (max fF (y-16+1))) t=_ from bH];refine⟨bI,fG ⟨k1-1,by omega,?_⟩⟩;rw[ao];have ai:ej f bG (wH lm S'::base (done.set v true) (max fF (y-16+1)) (of.set v y)):=by rw[hbase]at ai⊢;exact ai
   exact⟨S',of.set v y,done.set v true,max fF (y-16+1),i+1,rfl,by omega,sE.trans (L.trans (Z.trans (az.trans bJ))),ai,bE,A2⟩
  have aT:∀x,(∃j w,j<i+1/\At u w b j/\gJ u w=true/\(of.set v y)[w]? =some x)↔S x\/(gJ u v=true/\x=y):=λx=>by
   rw[hS x];constructor
   ·rintro⟨j,w,p,m,C,q⟩;by_cases e:j=i
    ·subst e;obtain rfl:=Option.some.inj ((j8.2 m).symm.trans (j8.2 I));rw[ag]at q;exact .inr ⟨C,(Option.some.inj q).symm⟩
    ·refine .inl ⟨j,w,by omega,m,C,?_⟩
     rwa [VL λe'=>e ?_]at q
     subst e';exact(g.Rp _ _ _ _ _ m I).2
   ·rintro(⟨j,w,p,m,C,q⟩|⟨p,rfl⟩)
    ·refine⟨j,w,by omega,m,C,?_⟩;rw[VL λe'=>?_]
     ·exact q
     ·subst e';have:=(g.Rp _ _ _ _ _ m I).2;omega
    ·exact⟨i,v,by omega,I,p,ag⟩
  cases hh:gJ u v with
  | true=>
    refine fO rfl ?_;have aU:=X s.tail
    let⟨l3,o3,r1,r2⟩:=aU.BY 2 rfl ag .i64
    let⟨t,bK,_,ah,az⟩:=s.il 0 rfl y
    refine oF (aU.ld 1 rfl rfl) (ec r1 (ec r2 ?_));rw[show xN 3 none (.map lm) (.I y) (.bool true) Y=_ from bK,eh]
    exact fin t _ az ah λx=>by rw[aT x,hh];simp
  |false=>exact fH (by simp) (fin Y S (.refl _ _) s λx=>by rw[aT x,hh];simp)
 cases hh:gJ u v with
 | true=>
   refine fO rfl ?_
   let⟨J,K,e1,e2,_,M,L⟩:=au.fill 1 0 rfl rfl (by decide)
   rw[e1,eh]
   exact Ks e2 (aO K S L M λx=>by simp[hh])
 |false=>exact fH (by simp) (aO aw (λ_=>False) (.refl _ _) (au.Rt 0 rfl) λx=>by simp[hh])
