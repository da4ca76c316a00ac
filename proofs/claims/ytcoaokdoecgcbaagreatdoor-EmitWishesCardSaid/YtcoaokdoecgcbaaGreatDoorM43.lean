/- Parts. -/
import Derived.Test.YtcoaokdoecgcbaaGreatDoorM40
set_option maxHeartbeats 4000000
namespace Go.Proofs.YtcoaokdoecgcbaaGreatDoor.Hx
open Un Dm
def TF:HT:=⟨zgK,zbb,DB,BM,B4,oh,DW⟩
theorem htF:MU TF where
 agg:=by kernel_rfl
 mL:=by kernel_rfl
 mS:=by kernel_rfl
 mW:=by kernel_rfl
 mP:=by kernel_rfl
 mQ:=by kernel_rfl
 kL h:=M4 h
 kS h:=KY h
 kW h:=L5 h
 kP h:=Lh rfl rfl h
 kQ h:=MN h
abbrev vf0(w:V):List V:=[w]
theorem ZY:HV 0 vf0:=⟨λ_=>rfl,λ_ _=>rfl⟩
section
variable{F F':Nat->Prop}{h h':Hp}{cs:List Pc}{Q K:fo}
theorem zbV{lm:Nat}{S:Int->Prop}{i:Nat}(J:ej F h cs)(hi:cs[i]? =some (RN lm S)){s0:Nat}(L:s0<=3000)(Es:¬S ((16+s0:Nat):Int))
  (M:∀h' k,Sn F h F h'->ej F h' cs->¬S k->((0<=k/\k<12)\/(16<=k/\k<=16+s0/\∀r,r<12->S (r:Nat)))->K (.I k) h'):cP CS CE [.map lm] h K:=by
 refine Qo ?_;rw[Ej,fH]
 let⟨u,s1⟩:=J.SM (E:=eZ) (xs:=[]) (ws:=[]) fJ rfl trivial rfl
 have u:ej F (h.new (.cells 3 1 true false [])) (fu eZ fJ [] (.slice h.next 0 0)::cs):=u;have s1:Sn F h F (h.new (.cells 3 1 true false [])):=s1;generalize h.new (.cells 3 1 true false [])=N at*;generalize V.slice h.next 0 0=w0 at*
 let⟨t,v⟩:=u.Dy zbb [.ed]
 rw[fH];have t:=t;have v:=v;generalize N.next=m at*
 let⟨T,O,_,z,P⟩:=t.st 0 rfl (o:=0) (by simp) (t.one 1 rfl)
 rw[O,ef];have z:=z.sw;have A:=(s1.trans v).trans P;have a:∀{x:Nat},eh .add 3 (.I (x:Nat)) (.I 1)=eh .add 3 (.I (x:Nat)) (.I ((1:Nat):Int)):=rfl
 have fG:∀s xs w h' k,Sn F h F h'->Qm F h' m zbb vf0 xs w cs->xs.length<=13->(∀x∈xs,¬S x/\((0<=x/\x<12)\/(16<=x/\x<=16+s0/\∀r,r<12->S (r:Nat))))->
   (xs=[]->s+k=s0+1/\s<=s0/\∀r,r<12->S (r:Nat))->s<=s0+1->xP K [.map lm,.ptr m 0,.I ((16+s:Nat):Int)] h':=by
  intro s xs w h' k f d n g j H
  refine MS (λk l h'=>∃s xs w,l=[.map lm,.ptr m 0,.I ((16+s:Nat):Int)]/\Sn F h F h'/\Qm F h' m zbb vf0 xs w cs/\xs.length<=13/\
   (∀x∈xs,¬S x/\((0<=x/\x<12)\/(16<=x/\x<=16+s0/\∀r,r<12->S (r:Nat))))/\(xs=[]->s+k=s0+1/\s<=s0/\∀r,r<12->S (r:Nat))/\s<=s0+1) ?_ ⟨s,xs,w,rfl,f,d,n,g,j,H⟩
  rintro k _ _ _ h' ⟨s,xs,w,⟨⟩,f,d,n,g,j,H⟩;unfold Dd;refine ec (d.ld 1 rfl rfl) (ec (d.len 0 rfl) (fK (gf ?_)))
  cases xs with
  | nil=>
    let⟨U,W,I⟩:=j rfl
    refine fX rfl ?_
    let⟨b,B,c2⟩:=d.zdW (i+2) hi ((16+s:Nat):Int)
    refine ec B (qS ?_);by_cases hb:b=true
    ·refine fX hb (B2 ?_)
     unfold wW;rw[a];have hs:s≠s0:=λe=>Es (e▸c2.1 hb);exact km (by omega) (by omega) ⟨k-1,by omega,s+1,[],w,rfl,f,d,n,g,λ_=>⟨by omega,by omega,I⟩,by omega⟩
    ·refine fN hb (htF.push ZY d (by simp) λC ys D s4 _ hq p=>B2 ?_)
     obtain rfl:=hq (by simp);unfold wW;rw[a];refine km (by omega) (by omega) ⟨0,by omega,s+1,[((16+s:Nat):Int)],D,rfl,f.trans s4,p,by simp,λx c=>?_,(λe=>by cases e),by omega⟩;obtain rfl:=Et.1 c
     exact⟨λG=>hb (c2.2 G),.inr ⟨by omega,by omega,I⟩⟩
  | cons x xs=>
    refine fN (by simp;omega) (htF.pop ZY d (by simp at n;omega) λC _ _ s4 _ p=>?_);refine ec (rfl) ?_;have c:=g x (Tx ..);exact M C x (f.trans s4) p.tail.tail c.1 c.2
 refine ME (λk l h'=>∃r xs w,l=[.map lm,.ptr m 0,.I (r:Nat)]/\r+k=12/\Sn F h F h'/\Qm F h' m zbb vf0 xs w cs/\xs.length<=r/\(∀x∈xs,0<=x/\x<r/\¬S x)/\∀q,q<r->S (q:Nat)\/((q:Nat):Int)∈xs) ?_ (k:=12)
  ⟨0,[],w0,rfl,rfl,A,z,jj _,by simp,by simp⟩
 rintro k _ _ _ h' ⟨r,xs,w,⟨⟩,X,f,d,n,g,j⟩;unfold Dg;by_cases hr:r<12
 ·refine gJ ?_
  let⟨b,B,c2⟩:=d.zdW (i+2) hi (r:Nat)
  refine ec B (qS ?_);by_cases hb:b=true
  ·refine fX hb (BK ?_);unfold wE;rw[a];refine km (by omega) (by omega) ⟨k-1,by omega,r+1,xs,w,rfl,by omega,f,d,by omega,λx c=>?_,λq hq=>?_⟩
   ·have:=g x c;exact⟨this.1,by omega,this.2.2⟩
   ·by_cases hq2:q=r
    ·subst hq2;exact .inl (c2.1 hb)
    ·exact j q (by omega)
  ·refine fN hb (htF.push ZY d (by omega) λC ys D s4 _ hq p=>BK ?_);obtain rfl:=hq λy Q=>by have:=g y Q;omega
   unfold wE;rw[a];refine km (by omega) (by omega) ⟨k-1,by omega,r+1,xs++[((r:Nat):Int)],D,rfl,by omega,f.trans s4,p,by simp;omega,λx c=>?_,λq hq=>?_⟩
   ·rcases vU.1 c with c|c
    ·have:=g x c;exact⟨this.1,by omega,this.2.2⟩
    ·obtain rfl:=Et.1 c;exact⟨by omega,by omega,λG=>hb (c2.2 G)⟩
   ·by_cases hq2:q=r
    ·subst hq2;exact .inr (wBO _ (Et.2 rfl))
    ·exact(j q (by omega)).imp id λR=>Xy _ R
 ·refine iY ?_;obtain rfl:r=12:=by omega
  refine fG 0 xs w h' (s0+1) f d (by omega) (λx c=>?_) (λe=>⟨by omega,by omega,λq hq=>(j q hq).resolve_right (by rw[e];simp)⟩) (by omega);have:=g x c;exact⟨this.2.2,.inl ⟨this.1,this.2.1⟩⟩
variable{u:U}{P:Nat->Prop}{w:Nat}
theorem Xm:∀{l d:List Nat},bh u (l++d) P w->bh u d P w\/∃(n:Nat)(x:Nat),l[n]? =some x/\gD u x=false/\w∈Bm u x
 |[],_,h=> .inl h
 | y ::l,d,h=>by
   have h':if gD u y=true then bh u (l++d) P w else(bh u (l++d) P w/\w≠y)\/w∈Bm u y:=h
   have up:bh u (l++d) P w->bh u d P w\/∃n x,(y::l)[n]? =some x/\gD u x=false/\w∈Bm u x:=λh=>(Xm h).imp id λ⟨n,x,a,b⟩=>⟨n+1,x,a,b⟩
   split at h'
   ·exact up h'
   ·rename_i e
    rcases h' with h'|h'
    ·exact up h'.1
    ·exact .inr ⟨0,y,rfl,by simpa using e,h'⟩
theorem Xr:∀{l d:List Nat},bh u d P w->w ∉ l->bh u (l++d) P w
 |[],_,h,_=>h
 |y::l,d,h,hn=>Ta (Xr h λa=>hn (wA7 _ a)) λe=>hn (e▸Tx ..)
end
section
variable{u:U}(g:Good u){In Out:Nat->Nat->Prop}(h:mK u (iy u) In Out)
include g
theorem VP{x b m w:Nat}(c:At u x b m)(f:gD u x=false)(a:w∈Bm u x):Zf u w b m:=by
 let⟨y,hy,hh⟩:=g.A5 c
 unfold Bm at a;rw[hy]at a;rcases vU.1 a with a|a
 ·refine g.X5 x b m y c hy (λe=>?_) w a;rw[hh,e]at f;cases f
 ·split at a
  ·rename_i hl;unfold nU at a;split at a
   ·rename_i fs d;exact g.XC x b m y fs c hy hl d w a
   ·cases a
  ·cases a
include h
theorem YG{v b i w:Nat}(hv:At u v b i)(C:w<u.ee.length)(a:bh u ((iM u b).drop (i+1)) (Out b) w)(y:w≠v) :
  ∃c j,At u w c j/\((c≠b/\zo (next u) c b)\/(c=b/\(j<i\/(i<j/\gD u w=true)))):=by
 have p:b<u.blocks.length:=by let⟨B,d,_⟩:=hv;exact(j6.1 d).1
 let⟨c,j,hc⟩:=g.MF w C trivial
 refine⟨c,j,hc,?_⟩;by_cases e:c=b
 ·subst e;refine .inr ⟨rfl,?_⟩;by_cases hj:j<i
  ·exact .inl hj
  have D:j≠i:=λe=>by
   subst e;exact y (Option.some.inj ((ke.2 hc).symm.trans (ke.2 hv)))
  refine .inr ⟨by omega,?_⟩;by_cases k:gD u w=true
  ·exact k
  exfalso;have r:=(j6.1 (ke.2 hc)).1;have s:=(j6.1 (ke.2 hc)).2;have split:(iM u c).drop (i+1)=((iM u c).drop (i+1)).take (j-(i+1))++(w::(iM u c).drop (j+1)):=by
   conv=>lhs;rw[<-wA0 (j-(i+1)) ((iM u c).drop (i+1))]
   rw[wBl,show i+1+(j-(i+1))=j by omega,ZH r,s]
  rw [split]at a;have o:∀m x,At u x c m->m<=j->gD u x=false->w∈Bm u x->False:=λm x E z k F=>by
   let⟨c',j',d,f⟩:=VP g E k F
   obtain⟨rfl,rfl⟩:=g.PD _ _ _ _ _ hc d;rcases f with f|f
   ·omega
   ·exact f.1 rfl
  rcases Xm a with a|⟨n,x,d,f,G⟩
  ·unfold bh at a;rw[if_neg k]at a;rcases a with a|a
   ·exact a.2 rfl
   ·exact o j w hc (jj _) (by simpa using k) a
  ·rw[List.getElem?_take]at d;split at d
   ·rename_i y;rw[wBX]at d;exact o _ x (ke.1 d) (by omega) f G
   ·cases d
 ·refine .inl ⟨e,?_⟩;have t:In b w:=by
   have A:=Xr (l:=(iM u b).take (i+1)) a λz=>e ?_
   ·rw[wA0]at A;exact(zgg g h p).2 A
   ·let⟨q,hq⟩:=mG.1 z
    rw[List.getElem?_take]at hq;split at hq
    ·exact(g.PD _ _ _ _ _ hc (ke.1 hq)).1
    ·cases hq
  let⟨c',j',d,f,_⟩:=g.Xx h t
  obtain⟨rfl,rfl⟩:=g.PD _ _ _ _ _ hc d;exact f
omit h g in
theorem O7 {post:List Nat}{seen:List Bool}{n:Nat}(G:M3 n (next u) seen post [])(hr:∀b,b∈post->∃l,Pt (next u) b l):∀(k:Nat){r l:List Nat}{c b:Nat},r.length<=k->post=l++b::r->zo (next u) c b->c≠b->c∈r
 | k,r,l,c,b,hk,hp,hd,hn=>by
   rcases G.early l b r hp with rfl|⟨p,h1,h2|h2⟩
   ·have:=hd _ .nil
    exact absurd (Et.1 this) hn
   ·by_cases e:c=p
    ·subst e;exact h2
    obtain⟨r1,r2,rfl⟩:=wBw h2;have hl:r2.length<(r1++p::r2).length:=by simp;omega
    match k,hk with
    |0,hk=>simp at hk
    | k+1,hk=>
      have:=O7 G hr k (r:=r2) (l:=l++b::r1) (c:=c) (b:=p) (by omega) (by rw[hp];simp) (SX hd hn h1) e;simp[this]
   ·cases h2
end
def Dn(u:U)(ord:List Nat)(n i w:Nat):Prop:=∃m c j,ord[m]? =some c/\At u w c j/\(m<n\/(m=n/\j<i))
structure ZU (u:U) (Out:Nat->Nat->Prop) (ord:List Nat) (n i:Nat) (of:List Int) (done:List Bool) (fG:Int):Prop where
 len:of.length=u.ee.length
 dl:done.length=u.ee.length
 dn:∀w,On done w↔Dn u ord n i w
 pl:∀k∈of,NQ fG k
 s0:0<=fG
 s1:fG<=(done.count true:Nat)
 ap:∀m c j v,ord[m]? =some c->At u v c j->On done v->∀w,w<u.ee.length->bh u ((iM u c).drop (j+1)) (Out c) w->w≠v->Dn u ord m j w->of[w]?≠of[v]?
 hd:∀c j v,At u v c j->On done v->gD u v=true->∀a w,a<j->At u w c a->gD u w=true->of[w]?≠of[v]?
 few:∀c j v k,At u v c j->On done v->of[v]? =some k->16<=k->∀r:Nat,r<12->∃w,w≠v/\On done w/\of[w]? =some (r:Int)/\(bh u ((iM u c).drop (j+1)) (Out c) w\/(gD u v=true/\gD u w=true/\∃a,At u w c a))
 sl:0<fG->∃c j v k,At u v c j/\On done v/\of[v]? =some k/\16<=k
section
variable{u:U}(g:Good u){Out:Nat->Nat->Prop}{ord:List Nat}{n i:Nat}{of:List Int}{done:List Bool}{fG:Int}
theorem ZU.start(u:U)(Out:Nat->Nat->Prop)(ord:List Nat):ZU u Out ord 0 0 (List.replicate u.ee.length 0) (List.replicate u.ee.length false) 0:=by
 have no:∀{w},¬On (List.replicate u.ee.length false) w:=λ{w} h=>by
  unfold On at h;rw[List.getElem?_replicate]at h;split at h <;> cases h
 refine⟨by simp,by simp,λw=>⟨λh=>(no h).elim,λ⟨m,c,j,_,_,h⟩=>?_⟩,λk a=>?_,by omega,by omega,λ_ _ _ v _ _ h=>(no h).elim,λ_ _ v _ h=>(no h).elim,λ_ _ v _ _ h=>(no h).elim,λh=>?_⟩
 ·omega
 ·rw[(List.mem_replicate.1 a).2];exact .inl ⟨by omega,by omega⟩
 ·omega
theorem ZU.block(A:ZU u Out ord n i of done fG){b:Nat}(f:ord[n]? =some b)(hi:i=(iM u b).length):ZU u Out ord (n+1) 0 of done fG:=
 { A with
   dn := λw=>by
     rw[A.dn w];constructor
     ·rintro⟨m,c,j,a,d,g⟩
      exact⟨m,c,j,a,d,by omega⟩
     ·rintro⟨m,c,j,a,d,g⟩
      have h:m<n\/m=n:=by omega
      refine⟨m,c,j,a,d,h.imp id λe=>⟨e,?_⟩⟩;subst e;rw[f]at a;cases a;rw[hi];exact(j6.1 (ke.2 d)).1}
include g
theorem ZU.step(A:ZU u Out ord n i of done fG)(p:ord.Nodup){b v:Nat}(I:ord[n]? =some b)(hv:At u v b i){S:Int->Prop}{k:Int}
  (N:∀x,S x↔(gD u v=true/\∃j w,j<i/\At u w b j/\gD u w=true/\of[w]? =some x)\/∃w,bh u ((iM u b).drop (i+1)) (Out b) w/\w≠v/\On done w/\of[w]? =some x)
  (T:¬S k) (hp:(0<=k/\k<12)\/(16<=k/\k<=16+fG/\∀r,r<12->S (r:Nat))) :
  ZU u Out ord n (i+1) (of.set v k) (done.set v true) (max fG (k-16+1)):=by
 have K:=g.uz v b i hv;have O:v<of.length:=by rw[A.len];exact K
 have C:v<done.length:=by rw[A.dl];exact K
 have D:¬On done v:=λh=>by
  let⟨m,c,j,a,f,o⟩:=(A.dn v).1 h
  obtain⟨rfl,rfl⟩:=g.PD _ _ _ _ _ hv f;have:=(wB4 (j6.1 a).1 p).1 (a.trans I.symm);omega
 have on:∀w,On (done.set v true) w↔w=v\/On done w:=λw=>by
  rw[Ku C];constructor
  ·rintro(⟨e,_⟩|⟨_,e⟩)
   ·exact .inl e
   ·exact .inr e
  ·rintro(e|e)
   ·exact .inl ⟨e,rfl⟩
   ·by_cases E:w=v
    ·exact .inl ⟨E,rfl⟩
    ·exact .inr ⟨E,e⟩
 have s:(of.set v k)[v]? =some k:=Qk O;have d:∀w,w≠v->(of.set v k)[w]? =of[w]?:=λw e=>Qp λe'=>e e'.symm;have P:∀w,Dn u ord n (i+1) w↔w=v\/Dn u ord n i w:=λw=>by
  constructor
  ·rintro⟨m,c,j,a,f,o⟩;by_cases hj:m=n/\j=i
   ·obtain⟨rfl,rfl⟩:=hj;rw[I]at a;cases a;exact .inl (Option.some.inj ((ke.2 f).symm.trans (ke.2 hv)))
   ·exact .inr ⟨m,c,j,a,f,by omega⟩
  ·rintro(rfl|⟨m,c,j,a,f,o⟩)
   ·exact⟨n,b,i,I,hv,by omega⟩
   ·exact⟨m,c,j,a,f,by omega⟩
 have L:∀m c j,ord[m]? =some c->At u v c j->m=n/\c=b/\j=i:=λm c j a f=>by
  obtain⟨rfl,rfl⟩:=g.PD _ _ _ _ _ hv f;exact⟨(wB4 (j6.1 a).1 p).1 (a.trans I.symm),rfl,rfl⟩
 refine⟨by rw[YI];exact A.len,by rw[YI];exact A.dl,λw=>by rw[on,P,A.dn],λx l=>?_,by have:=A.s0;omega,?_,?_,?_,?_,?_⟩
 ·rcases wBJ l with l|rfl
  ·rcases A.pl x l with h|h
   ·exact .inl h
   ·exact .inr ⟨h.1,by omega⟩
  ·rcases hp with h|h
   ·exact .inl h
   ·exact .inr ⟨h.1,by omega⟩
 ·have hc:(done.set v true).count true=done.count true+1:=by
   have h0:done[v]=false:=by
    cases l:done[v]with
    |false=>rfl
    |true=>exact absurd (by unfold On;rw[hN C,l]) D
   rw[List.count_set C,h0];simp
  rw[hc];have:=A.s1;rcases hp with h|h <;> omega
 ·intro m c j x a f o w E t z J;by_cases l:x=v
  ·subst l;obtain⟨rfl,rfl,rfl⟩:=L m c j a f;rw[d w z,s];intro e;exact T ((N k).2 (.inr ⟨w,t,z,(A.dn w).2 J,e⟩))
  ·have hd:=((on x).1 o).resolve_left l;have F:w≠v:=λe=>by
    subst e
    let⟨m',c',G,H,y,B⟩:=J
    obtain⟨rfl,rfl,rfl⟩:=L m' c' G H y
    let⟨V,c2,W,r1,r2,X⟩:=(A.dn x).1 hd
    obtain⟨rfl,rfl⟩:=g.PD _ _ _ _ _ f r2;have:=(wB4 (j6.1 a).1 p).1 (a.trans r1.symm);omega
   rw[d w F,d x l];exact A.ap m c j x a f hd w E t z J
 ·intro c j x a f o G w t z J;have Q:w≠x:=λe=>by
   subst e;have:=(g.PD _ _ _ _ _ a z).2;omega
  by_cases l:x=v
  ·subst l;obtain⟨rfl,rfl⟩:=g.PD _ _ _ _ _ hv a;rw[d w Q,s];intro e;exact T ((N k).2 (.inl ⟨o,G,w,t,z,J,e⟩))
  ·have hd:=((on x).1 f).resolve_left l;have F:w≠v:=λe=>by
    subst e;obtain⟨rfl,rfl⟩:=g.PD _ _ _ _ _ hv z
    let⟨V,c2,W,r1,r2,X⟩:=(A.dn x).1 hd
    obtain⟨rfl,rfl⟩:=g.PD _ _ _ _ _ a r2;have:=(wB4 (j6.1 r1).1 p).1 (r1.trans I.symm);omega
   rw[d w F,d x l];exact A.hd c j x a hd o G w t z J
 ·intro c j x q a f o t r U;by_cases l:x=v
  ·subst l;obtain⟨rfl,rfl⟩:=g.PD _ _ _ _ _ hv a;rw[s]at o;cases o;have R:=hp.resolve_left λh=>by omega
   rcases(N _).1 (R.2.2 r U)with⟨H,G,w,y,B,M,Y⟩|⟨w,H,y,B,M⟩
   ·have E:w≠x:=λe=>by
     subst e;have:=(g.PD _ _ _ _ _ hv B).2;omega
    exact⟨w,E,(on w).2 (.inr ((A.dn w).2 ⟨n,_,G,I,B,.inr ⟨rfl,y⟩⟩)),by rw[d w E];exact Y,.inr ⟨H,M,G,B⟩⟩
   ·exact⟨w,y,(on w).2 (.inr B),by rw[d w y];exact M,.inl H⟩
  ·have hd:=((on x).1 f).resolve_left l;rw[d x l]at o
   let⟨w,H,y,B,M⟩:=A.few c j x q a hd o t r U
   exact⟨w,H,(on w).2 (.inr y),by rw[d w λe=>D (e▸y)];exact B,M⟩
 ·intro hs;by_cases hk16:16<=k
  ·exact⟨b,i,v,k,hv,(on v).2 (.inl rfl),s,hk16⟩
  ·let⟨c,j,x,q,a,f,o,t⟩:=A.sl (by omega)
   have l:x≠v:=λe=>D (e▸f);exact⟨c,j,x,q,a,(on x).2 (.inr f),by rw[d x l];exact o,t⟩
def zfC(u:U)(Out:Nat->Nat->Prop)(of:List Int)(fG:Int):Prop:=0<fG->∃c j v,At u v c j/\∀r:Nat,r<12->∃w,w≠v/\of[w]? =some (r:Int)/\(bh u ((iM u c).drop (j+1)) (Out c) w\/(gD u v=true/\gD u w=true/\∃a,At u w c a))
theorem ZU.right{In:Nat->Nat->Prop}(h:mK u (iy u) In Out){post:List Nat}{seen:List Bool}(G:M3 u.blocks.length (next u) seen post [])(A:ZU u Out post.reverse post.reverse.length 0 of done fG)(O:u.ee.length<=399) :
  lI u Out of fG/\zfC u Out of fG:=by
 have z:=Sf G;have s:=λb o=>mG.1 (wA9.2 (Lb g G b o));have f:∀v c j,At u v c j->On done v:=λv c j hv=>by
  have hc:c<u.blocks.length:=by let⟨B,d,_⟩:=hv;exact(j6.1 d).1
  let⟨m,hm⟩:=s c hc
  exact(A.dn v).2 ⟨m,c,j,hm,hv,.inl (j6.1 hm).1⟩
 refine⟨⟨A.len,A.s0,?_,A.pl,λc i=>⟨λv hv F j w H t C=>?_,λv hv w t o mD=>?_⟩⟩,λhs=>?_⟩
 ·have d:=A.s1;have e:=List.count_le_length (a:=true) (l:=done);rw[A.dl]at e;omega
 ·exact A.hd c i v hv (f v c i hv) F j w H t C
 ·have hc:c<u.blocks.length:=by let⟨B,d,_⟩:=hv;exact(j6.1 d).1
  let⟨m,hm⟩:=s c hc
  let⟨c',j,d,e⟩:=YG g h hv t o mD
  rcases e with⟨e,p⟩|⟨rfl,e|⟨e,p⟩⟩
  ·refine A.ap m c i v hm hv (f v c i hv) w t o mD ?_
   let⟨l,r,hlr⟩:=wBw (wA9.1 (Ap hm))
   have x:=O7 G (λb o=>g.reach b (G.pre b o)) r.length (jj _) hlr p e;have n:post.reverse=r.reverse++c::l.reverse:=by rw[hlr];simp
   have D:m=r.length:=by
    have I:post.reverse[r.length]? =some c:=by rw[n];simp
    exact(wB4 (j6.1 hm).1 z).1 (hm.trans I.symm)
   let⟨q,hq⟩:=mG.1 (wA9.2 x)
   have y:=(j6.1 hq).1;refine⟨q,c',j,by rw[n,VQ y];exact hq,d,.inl (by rw[D];simpa using y)⟩
  ·exact A.ap m c' i v hm hv (f v c' i hv) w t o mD ⟨m,c',j,hm,d,.inr ⟨rfl,e⟩⟩
  ·have E:=g.Od d p hv (by omega);exact(A.hd c' j w d (f w c' j d) p i v e hv E).symm
 ·let⟨c,j,v,k,d,e,p,J⟩:=A.sl hs
  exact⟨c,j,v,d,λr K=>let⟨w,L,_,M,N⟩:=A.few c j v k d e p J r K;⟨w,L,M,N⟩⟩
end
section
variable{F F':Nat->Prop}{h h':Hp}{cs:List Pc}{Q:fo}{u:U}{vv vb vs:V}
theorem Jk{Q:fo}{fE gL:LP}{u v x4 w x y z a b gI c d e f g i j:V} {h h':Hp}(hv:PQ .i64 j gI h=some h')(H:ot Q fE gL [u,v,x4,w,x,y,z,a,b,gI,c,d,e,f,g,i] h') :
  zD Q fE gL [u,v,x4,w,x,y,z,a,b,gI,c,d,e,f,g,i,j] h:=by
 refine JV.fill (F:=⟨63,64,65,66,67,14,68,69,13,4,zgc,3,.i64⟩) (by kernel_rfl) (λρ h=>by kernel_rfl) (by decide) rfl (λρ A=>?_) H;simp[ List.map_nil]at A
 let⟨B,C,D,E,G,I,J,l,m,k,n,o,p,q,r,s,t⟩:=A
 refine⟨by simp[ List.map_nil,B,C,D,E,G,I,J,l,m,k,n,o,p,q,r,s],?_⟩;show PQ .i64 (ρ 63) (ρ 13) h=_;rw[t,k];exact hv
theorem TK(g:Good u)(hn:u.ee.length<=390)(H0:ej F h cs)(hu:Ff F h u vv vb vs)
  (H:∀F' h' of xx fG In Out,Sn F h F' h'->ej F' h' (fu eZ fJ of xx::cs)->mK u (iy u) In Out->lI u Out of fG->zfC u Out of fG->Q (.tuple [.agg [xx,.I fG],.I 0]) h') :
  cP CS yc [.agg (uC u vv vb vs)] h Q:=by
 refine Mn ?_;have nb:=g.nb;refine pz H0 hu.one λp H1 s1=>?_;generalize h.next=lu at*
 let⟨H2,s2⟩:=H1.Dy y0 [.ed,.I 0]
 rw[fH];have H2:=H2;have s2:=s2;generalize p.next=lr at*;have aB:=s1.trans s2;have u2:=hu.since aB;refine ec (H2.xk 1 rfl rfl) ?_;refine ON g H2 u2 λF3 C s3 H3=>?_;refine qS (fX rfl ?_);refine ec (H3.xk 1 rfl rfl) ?_;refine Xs g H3 (u2.since s3) λF4 q lv tj jK ins outs s4 H4 bQ aV hA=>?_
 let⟨H5,s5,ri⟩:=H4.jG 0 rfl
 let⟨H6,s6,ro⟩:=H5.jG 1 rfl
 have H6:=H6.tail.tail;have aC:=((aB.trans s3).trans s4).trans (s5.trans s6);have ro:=ro;generalize (λl=>(F4 l\/Loc tj l)\/Loc jK l)=F6 at*;have u6:=hu.since aC;refine oF (H6.ld 2 rfl rfl) (ec u6.v.len ?_);rw[pW rfl (by decide) (by omega),fH]
 let⟨H7,s7⟩:=H6.make (E:=eZ) (ty:=fJ) (u:=V.I 0) u.ee.length rfl rfl
 have H7:=H7;have s7:=s7;refine ec (rfl) ?_;generalize q.new (.cells 3 1 true false (List.replicate u.ee.length (V.I 0)))=h7 at*;generalize V.slice q.next 0 u.ee.length=xx at*;refine j5 H7 rfl rfl (by simp[ H7.one 0 rfl];rfl) λh8 H8 s8=>?_;generalize h7.next=lp at*;have aD:=s7.trans s8;refine oF (H8.ld 4 rfl rfl) (ec (u6.since aD).v.len ?_);rw[pW rfl (by decide) (by omega),fH]
 let⟨H9,s9⟩:=H8.make (E:=eB) (ty:=hY) (u:=V.bool false) u.ee.length rfl rfl
 have H9:=H9;have s9:=s9;generalize V.slice h8.next 0 u.ee.length=wd at*;have aE:=aD.trans s9;refine ec (H9.xk 5 rfl rfl) ?_;refine K4 g H9 (u6.since aE) λaF aW vo seen post aX aY G aj=>?_;refine ec aj.len ?_;have al:=aE.trans aX;have uA:=u6.since al;have aZ:=ro.since al;have bR:post.reverse.length<=300:=by rw[List.length_reverse,KO g G];exact nb
 have a0:=Sf G;have a1:=aC.trans al;have base:∃base,base=λdone fG of=>fu eB hY done wd::fi lp y0 [xx,.I fG]::fu eZ fJ of xx::fi lv mF [.I u.func,.I u.pc,vv,vb,vs,tj,jK]::fi lr y0 [.ed,.I 0]::fi lu 34 (uC u vv vb vs)::cs:=⟨_,rfl⟩
 let⟨base,hbase⟩:=base
 obtain ⟨I0,am⟩:∃I0,I0=λk l h'=>∃F' n of done fG,l=[.ptr lu 0,.ptr lr 0,.ptr lv 0,.ptr lp 0,wd,vo,.I post.reverse.length,.I (n:Nat)]/\n+k=post.reverse.length/\Sn aF aW F' h'/\
  ej F' h' (base done fG of)/\ZU u (nK outs) post.reverse n 0 of done fG:=⟨_,rfl⟩
 refine Jr I0 ?_ (k:=post.reverse.length) (by rw[am];exact⟨aF,0,_,_,0,rfl,by omega,.refl _ _,by rw[hbase];exact aY,.start u (nK outs) _⟩);intro k _ _ _ _ _ _ _ _ aG aH;rw[am]at aH;obtain⟨aI,n,of,done,fG,⟨⟩,hk,P,D,A⟩:=aH;unfold zZ;by_cases hnl:n<post.reverse.length;rotate_left
 ·rw[hbase]at D;refine iY ?_;obtain rfl:n=post.reverse.length:=by omega
  let⟨hR,hW⟩:=A.right g hA G (by omega)
  refine oF (D.ld 1 rfl rfl) (ec (iT _ _ _ _) (gf (fN (by have:=hR.s1;simp;omega) ?_)));refine ec (D.xk 1 rfl rfl) ?_
  let⟨an,a2,_,aa,R⟩:=D.Wh 4 rfl (ws:=[xx,.I fG]) (n:=2) rfl rfl (by simp[ D.one 2 rfl];rfl)
  rw[a2,ef];refine ec (aa.xk 4 rfl rfl) ?_;exact H aI an of xx fG (nK ins) (nK outs) ((a1.trans P).trans R) aa.tail.tail.Em.Em.Em hA hR hW
 refine gJ ?_;have a3:=uA.since P;obtain⟨b,hb⟩:∃b,post.reverse[n]? =some b:=⟨_,hN hnl⟩
 have a4:=G.pre b (wA9.1 (Ap hb));obtain⟨B,hB⟩:∃B,u.blocks[b]? =some B:=⟨_,hN a4⟩
 have aJ:iM u b=B.ee:=by unfold iM;rw[hB]
 have bS:=tw g hB
 let⟨bU,bV,_,i1,i2⟩:=(aj.since P).nat hb .i64
 refine ec i1 (ec i2 ?_);rw[fH]
 let⟨aa,R⟩:=D.ze8
 generalize aG.new (.map [] 0)=an at*;generalize aG.next=lm at*;have a5:Lk aI an (vT lm (λ_=>False)::base done fG of) lv u vv vb vs tj jK:=⟨aa,⟨4,by rw[hbase];rfl⟩,a3.since R⟩
 refine Re g a5 (aZ.since (P.trans R)) aV hB λf a6 wr rs a7 a8 aK bW a9=>?_;refine ec aK.len ?_;have aL:=(P.trans R).trans a7
 obtain ⟨I1,ao⟩:∃I1,I1=λk l h'=>∃(S:Int->Prop) (of:List Int) (done:List Bool) (fG:Int) (i:Nat),l=[.ptr lu 0,.ptr lr 0,.ptr lv 0,.ptr lp 0,wd,.I b,.map lm,vo,.I post.reverse.length,.I n,wr,.I rs.length,.I i]/\
  i+k=B.ee.length/\Sn f a6 f h'/\ej f h' (vT lm S::base done fG of)/\(∀x,S x↔∃j w,j<i/\At u w b j/\gD u w=true/\of[w]? =some x)/\ZU u (nK outs) post.reverse n i of done fG:=⟨_,rfl⟩
 refine Jg I1 ?_ (k:=B.ee.length) (by rw[ao];exact⟨λ_=>False,of,done,fG,0,rfl,by omega,.refl _ _,a8,λx=>⟨False.elim,λ⟨_,_,h,_⟩=>by omega⟩,A⟩);intro k1 _ _ _ _ _ _ _ _ _ _ _ _ _ aM aN;rw[ao]at aN;obtain⟨S,of,done,fG,i,⟨⟩,bX,ab,aq,hS,A⟩:=aN;unfold zB;by_cases hi:i<B.ee.length;rotate_left
 ·refine iY ?_;refine fT ⟨k-1,by omega,?_⟩;rw[am];exact⟨f,n+1,of,done,fG,rfl,by omega,aL.trans ab,aq.tail,A.block hb (by rw[aJ];omega)⟩
 refine gJ ?_;obtain⟨v,hv⟩:∃v,B.ee[i]? =some v:=⟨_,hN hi⟩
 have I:At u v b i:=⟨B,hB,hv⟩
 have T:=g.uz v b i I;obtain⟨row,ak⟩:∃row,rs[i]? =some row:=⟨_,hN (by omega)⟩
 let⟨hrw,hrb⟩:=a9 i row ak
 let⟨bY,bZ,W,_,j1,j2,j3⟩:=(aK.since ab).list ak .i64
 have ar:=(uA.since aL).since ab
 let⟨lb,ob,bv,_,_,_,b1,b2,iv,_,_,ba⟩:=ar.Bt hB
 let⟨lw,ow,_,w1,w2⟩:=iv.nat hv .i64
 have X:∀{F h done fG of},ej F h (base done fG of)->ej F h (fu eB hY done wd::fi lp y0 [xx,.I fG]::fu eZ fJ of xx::fi lv mF [.I u.func,.I u.pc,vv,vb,vs,tj,jK]::fi lr y0 [.ed,.I 0]::fi lu 34 (uC u vv vb vs)::cs):=λH=>by rw[hbase]at H;exact H
 refine ec j1 (ec j2 (oF ((X aq.tail).ld 5 rfl rfl) (ec b1 (oF ba.ee (ec w1 (ec w2 ?_))))));rw[fH]
 let⟨au,ac⟩:=aq.ze8
 generalize aM.new (.map [] 0)=aw at*;generalize aM.next=lq at*;have bb:Lk f aw (vT lq (λ_=>False)::vT lm S::base done fG of) lv u vv vb vs tj jK:=⟨au,⟨5,by rw[hbase];rfl⟩,ar.since ac⟩
 refine Fs bb T (gf ?_)
 have aO:∀J U0,Sn f aw f J->ej f J (RN lq U0::vT lm S::base done fG of)->(∀x,U0 x↔gD u v=true/\S x)->ot Q (NG I0 k) (NG I1 k1)
   [.ptr lu 0,.ptr lr 0,.ptr lv 0,.ptr lp 0,wd,.I b,.map lm,W,.I v,.map lq,vo,.I post.reverse.length,.I n,wr,.I rs.length,.I i] J:=by
  intro J U0 ax bc bd;refine HS ?_;unfold yL;have sE:=(ab.trans ac).trans ax;have aP:=j3.since (ac.trans ax);have be:=ar.since (ac.trans ax);refine ec aP.len ?_
  obtain ⟨I3,ay⟩:∃I3,I3=λk l h'=>∃(U:Int->Prop) (w:Nat),l=[.ptr lu 0,.ptr lr 0,.ptr lv 0,.ptr lp 0,wd,.I b,.map lm,.I v,.map lq,vo,.I post.reverse.length,.I n,wr,.I rs.length,.I i,W,.I row.length,.I w]/\
   w+k=row.length/\Sn f J f h'/\ej f h' (RN lq U::vT lm S::base done fG of)/\∀x,U x↔U0 x\/∃w',w' < w/\On row w'/\w'≠v/\On done w'/\of[w']? =some x:=⟨_,rfl⟩
  refine Jo I3 ?_ (k:=row.length) (by rw[ay];exact⟨U0,0,rfl,by omega,.refl _ _,bc,λx=>⟨.inl,λh=>h.elim id λ⟨_,h,_⟩=>by omega⟩⟩);intro k3 _ _ _ _ _ _ _ _ _ _ _ _ _ _ _ _ _ _ K aQ;rw[ay]at aQ;obtain⟨U,w,⟨⟩,b3,L,M,hU⟩:=aQ;unfold zH;have bf:=be.since L;have ad:=X M.tail.tail;by_cases hw:w<row.length
  ·refine gJ ?_;obtain⟨x,hx⟩:∃x,row[w]? =some x:=⟨_,hN hw⟩
   obtain⟨d,hd⟩:∃d,done[w]? =some d:=⟨_,hN (by rw[A.dl];omega)⟩
   obtain⟨y,hy⟩:∃y,of[w]? =some y:=⟨_,hN (by rw[A.len];omega)⟩
   let⟨l1,o1,_,p1,p2⟩:=(aP.since L).bool hx .i64
   let⟨l2,o2,q1,q2⟩:=ad.XL 0 rfl hd .i64
   have E1:jm (.bool x) (oB (some (V.I w)) λbg=>oB (some (V.I v)) λbi=>eh .neq 3 bg bi)=some (.bool (x&&((w:Nat):Int) != (v:Nat))):=by
    simp[ wj]
   have E2:∀c,jm (.bool c) (oB (some wd) λbj=>oB (some (V.I w)) λbm=>oB (gQ 1 bj bm) λbo=>eD bo K)=some (.bool (c&&d)):=λc=>by
    simp[ q1,q2]
   refine ec p1 (ec p2 (ec E1 (ec (E2 _) (gf ?_))))
   have next:∀r U',Sn f K f r->ej f r (RN lq U'::vT lm S::base done fG of)->(∀x,U' x↔U0 x\/∃w',w' < w+1/\On row w'/\w'≠v/\On done w'/\of[w']? =some x)->ou Q (NG I0 k) (NG I1 k1) (NG I3 k3)
     [.ptr lu 0,.ptr lr 0,.ptr lv 0,.ptr lp 0,wd,.I b,.map lm,.I v,.map lq,vo,.I post.reverse.length,.I n,wr,.I rs.length,.I i,W,.I row.length,.I w] r:=λr U' N O br=>by
    refine HU ?_;unfold yH;refine fT ⟨k3-1,by omega,?_⟩;rw[ay];exact⟨U',w+1,rfl,by omega,L.trans N,O,br⟩
   by_cases hc:x=true/\w≠v/\d=true
   ·obtain ⟨rfl,c2,rfl⟩:=hc
    let⟨l3,o3,r1,r2⟩:=ad.BG 2 rfl hy .i64
    let⟨r,bt,_,O,N⟩:=M.zgT 0 rfl y
    refine fX (by simp;omega) (oF (ad.ld 1 rfl rfl) (ec r1 (ec r2 ?_)));rw[show zk 3 none (.map lq) (.I y) (.bool true) K=_ from bt,ef];refine next r _ N O λz=>?_
    show U z\/z=y↔_;rw[hU z];constructor
    ·rintro((p|⟨w',p,m⟩)|rfl)
     ·exact .inl p
     ·exact .inr ⟨w',by omega,m⟩
     ·exact .inr ⟨w,by omega,hx,c2,hd,hy⟩
    ·rintro(p|⟨w',p,m,C,q,h5⟩)
     ·exact .inl (.inl p)
     ·by_cases e:w' = w
      ·subst e;rw[hy]at h5;cases h5;exact .inr rfl
      ·exact .inl (.inr ⟨w',by omega,m,C,q,h5⟩)
   ·refine fN (λe=>hc ?_) (next K U (.refl _ _) M λz=>(hU z).trans ?_)
    ·simp[ wB6,Int.natCast_inj]at e;exact⟨e.1.1,e.1.2,e.2⟩
    ·constructor
     ·rintro(p|⟨w',p,m⟩)
      ·exact .inl p
      ·exact .inr ⟨w',by omega,m⟩
     ·rintro(p|⟨w',p,m,C,q,h5⟩)
      ·exact .inl p
      ·by_cases e:w' = w
       ·subst e;unfold On at m q;rw[hx]at m;rw[hd]at q;exact(hc ⟨Option.some.inj m,C,Option.some.inj q⟩).elim
       ·exact .inr ⟨w',by omega,m,C,q,h5⟩
  refine iY ?_;obtain rfl:w=row.length:=by omega
  have aR:∀x,U x↔(gD u v=true/\∃j w,j<i/\At u w b j/\gD u w=true/\of[w]? =some x)\/∃w,bh u ((iM u b).drop (i+1)) (nK outs b) w/\w≠v/\On done w/\of[w]? =some x:=λx=>by
   rw[hU x,bd x,hS x,aJ];refine or_congr Iff.rfl ⟨λ⟨w',_,m,C⟩=>⟨w',(hrb w').1 m,C⟩,λ⟨w',m,C⟩=>⟨w',?_,(hrb w').2 m,C⟩⟩;exact zcb ((hrb w').2 m)
  have qU:=Int.toNat_of_nonneg A.s0;have bL:fG<=390:=by
   have p:=A.s1;have m:=List.count_le_length (a:=true) (l:=done);rw[A.dl]at m;omega
  refine oF (ad.ld 1 rfl rfl) ?_;refine zbV M (i:=0) rfl (s0:=fG.toNat) (by omega) (λbu=>?_) λr y N O bw aS=>?_
  ·have:∃w:Nat,of[w]? =some ((16+fG.toNat:Nat):Int):=by
    rcases(aR _).1 bu with⟨_,_,w,_,_,_,h5⟩|⟨w,_,_,_,h5⟩ <;> exact⟨w,h5⟩
   let⟨w,hw⟩:=this
   rcases A.pl _ (Ap hw)with h|h <;> omega
  have A2:=A.step g a0 hb I (k:=y) aR bw (by rw[<-qU];exact aS);have b4:0<=y/\y<=500:=by rcases aS with h|h <;> omega
  have bx:=X O.tail.tail;refine⟨N.next,?_⟩;obtain⟨l1,o1,bz,p1,p2,p3,ae,bA⟩:=O.tail.Mb 3 (by rw[hbase];rfl) (k:=v) (by rw[A.len];exact T) rfl (y:=y) (u:= .I y) rfl rfl;refine ec p1 ⟨bx.ld 1 rfl rfl,?_⟩;rw[p2,ef];have ae:ej f bz (vT lm S::base done fG (of.set v y)):=by rw[hbase]at ae⊢;exact ae
  obtain⟨l2,o2,Y,q1,q2,q3,s,bC⟩:=ae.Mb 1 (by rw[hbase];rfl) (k:=v) (by rw[A.dl];exact T) rfl (y:=true) (u:= .bool true) rfl rfl;refine⟨p3,ec q1 ?_⟩;rw[q2,ef];have s:ej f Y (vT lm S::base (done.set v true) fG (of.set v y)):=by rw[hbase]at s⊢;exact s
  have Z:=(N.trans bA).trans bC;have bD:Lk f Y (vT lm S::base (done.set v true) fG (of.set v y)) lv u vv vb vs tj jK:=⟨s,⟨4,by rw[hbase];rfl⟩,bf.since Z⟩
  refine⟨q3,Fs bD T (gf ?_)⟩;have ag:(of.set v y)[v]? =some y:=Qk (by rw[A.len];exact T)
  have fin:∀t S',Sn f Y f t->ej f t (vT lm S'::base (done.set v true) fG (of.set v y))->(∀x,S' x↔∃j w,j<i+1/\At u w b j/\gD u w=true/\(of.set v y)[w]? =some x)->nQ Q (NG I0 k) (NG I1 k1)
    [.ptr lu 0,.ptr lr 0,.ptr lv 0,.ptr lp 0,wd,.I b,.map lm,.I v,vo,.I post.reverse.length,.I n,wr,.I rs.length,.I i] t:=λt S' az ah bE=>by
   refine Hv ?_;unfold yD;have aA:=X ah.tail
   let⟨l1,o1,p1,p2⟩:=aA.BG 2 rfl ag .i64
   obtain⟨bG,bH,bI,ai,bJ⟩:=ah.st 2 (by rw[hbase];rfl) (o:=1) (by simp) (u:= .I (max fG (y-16+1))) rfl;refine oF (aA.ld 1 rfl rfl) (oF (aA.ld 1 rfl rfl) (ec p1 (ec p2 (ec (iI _ _ _ _) (ec (iU _ _ _ _) ?_)))));rw[show jo .i64 (y-16)=y-16 from gK (by simp[mR];omega),show jo .i64 (y-16+1)=y-16+1 from gK (by simp[mR];omega)];refine ec (TZ _ _ _ _) (ec (fx _ _ _) ?_);rw[if_pos rfl,show gw 1 (.ptr lp (0+1)) (.I (max fG (y-16+1))) t=_ from bH];refine⟨bI,fT ⟨k1-1,by omega,?_⟩⟩;rw[ao];have ai:ej f bG (vT lm S'::base (done.set v true) (max fG (y-16+1)) (of.set v y)):=by rw[hbase]at ai⊢;exact ai
   exact⟨S',of.set v y,done.set v true,max fG (y-16+1),i+1,rfl,by omega,sE.trans (L.trans (Z.trans (az.trans bJ))),ai,bE,A2⟩
  have aT:∀x,(∃j w,j<i+1/\At u w b j/\gD u w=true/\(of.set v y)[w]? =some x)↔S x\/(gD u v=true/\x=y):=λx=>by
   rw[hS x];constructor
   ·rintro⟨j,w,p,m,C,q⟩;by_cases e:j=i
    ·subst e;obtain rfl:=Option.some.inj ((ke.2 m).symm.trans (ke.2 I));rw[ag]at q;exact .inr ⟨C,(Option.some.inj q).symm⟩
    ·refine .inl ⟨j,w,by omega,m,C,?_⟩
     rwa [Qp λe'=>e ?_]at q
     subst e';exact(g.PD _ _ _ _ _ m I).2
   ·rintro(⟨j,w,p,m,C,q⟩|⟨p,rfl⟩)
    ·refine⟨j,w,by omega,m,C,?_⟩;rw[Qp λe'=>?_]
     ·exact q
     ·subst e';have:=(g.PD _ _ _ _ _ m I).2;omega
    ·exact⟨i,v,by omega,I,p,ag⟩
  cases hh:gD u v with
  | true=>
    refine fX rfl ?_;have aU:=X s.tail
    let⟨l3,o3,r1,r2⟩:=aU.BG 2 rfl ag .i64
    let⟨t,bK,_,ah,az⟩:=s.ig 0 rfl y
    refine oF (aU.ld 1 rfl rfl) (ec r1 (ec r2 ?_));rw[show zk 3 none (.map lm) (.I y) (.bool true) Y=_ from bK,ef]
    exact fin t _ az ah λx=>by rw[aT x,hh];simp
  |false=>exact fN (by simp) (fin Y S (.refl _ _) s λx=>by rw[aT x,hh];simp)
 cases hh:gD u v with
 | true=>
   refine fX rfl ?_
   let⟨J,K,e1,e2,_,M,L⟩:=au.fill 1 0 rfl rfl (by decide)
   rw[e1,ef]
   exact Jk e2 (aO K S L M λx=>by simp[hh])
 |false=>exact fN (by simp) (aO aw (λ_=>False) (.refl _ _) (au.Qj 0 rfl) λx=>by simp[hh])
