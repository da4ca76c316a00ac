/- Parts. -/
import Derived.Test.YtcoaokdoecgcbaaGreatDoorM40
set_option maxHeartbeats 4000000
namespace Go.Proofs.YtcoaokdoecgcbaaGreatDoor.Hx
open Un Dm
def TF:HT:=⟨zgS,OX,wz,ve,vm,nf,wD⟩
theorem htF:Lf TF where
 agg:=by kernel_rfl
 mL:=by kernel_rfl
 mS:=by kernel_rfl
 mW:=by kernel_rfl
 mP:=by kernel_rfl
 mQ:=by kernel_rfl
 kL h:=K0 rfl rfl h
 kS h:=JN rfl rfl h
 kW h:=Ki rfl rfl h
 kP h:=Jv rfl rfl h
 kQ h:=Ls rfl rfl h
abbrev vf0(w:V):List V:=[w]
theorem XK:HV 0 vf0:=⟨λ_=>rfl,λ_ _=>rfl⟩
section
variable{F F':Nat->Prop}{h h':Hp}{cs:List Pc}{Q K:fo}
theorem zat{v:Nat}{S:Int->Prop}{i:Nat}(R:ej F h cs)(hi:cs[i]? =some (Nh v S)){s0:Nat}(T:s0<=3000)(BY:¬S ((16+s0:Nat):Int))
  (U:∀h' k,Sn F h F h'->ej F h' cs->¬S k->((0<=k/\k<12)\/(16<=k/\k<=16+s0/\∀r:Nat,r<12->S (r:Nat)))->K (.I k) h'):cP CS wJ [.map v] h K:=by
 refine OW rfl rfl ?_;unfold Ix;rw[tY,fI];obtain⟨C,s1⟩:=R.NX (E:=eZ) (xs:=[]) (ws:=[]) (n:=0) fw rfl trivial rfl;have C:ej F (h.new (.cells 3 1 true false [])) (fE eZ fw [] (.slice h.next 0 0)::cs):=C;have s1:Sn F h F (h.new (.cells 3 1 true false [])):=s1;generalize h.new (.cells 3 1 true false [])=p at*;generalize V.slice h.next 0 0=w0 at*;obtain⟨z,D⟩:=C.HM OX [.ed];rw[fI];have z:ej F (p.new (.cells OX 1 true false [.ed])) (ft p.next OX [.ed]::fE eZ fw [] w0::cs):=z;have D:Sn F p F (p.new (.cells OX 1 true false [.ed])):=D;generalize p.new (.cells OX 1 true false [.ed])=Z at*;generalize p.next=m at*;obtain⟨W,O,_,G,P⟩:=z.st 0 rfl (o:=0) (by simp) (u:=w0) (z.one 1 rfl);simp only[AD]at G;rw[O,eh];have G:NP F W m OX vf0 [] w0 cs:=G.sw;have H:=(s1.trans D).trans P;clear C z s1 D P O;have a:∀{x:Nat},ef .add 3 (.I (x:Nat)) (.I 1)=ef .add 3 (.I (x:Nat)) (.I ((1:Nat):Int)):=rfl
 have fM:∀(s:Nat) (xs:List Int) (w:V) (h':Hp) (k:Nat),Sn F h F h'->NP F h' m OX vf0 xs w cs->xs.length<=13->(∀x∈xs,¬S x/\((0<=x/\x<12)\/(16<=x/\x<=16+s0/\∀r:Nat,r<12->S (r:Nat))))->
   (xs=[]->s+k=s0+1/\s<=s0/\∀r:Nat,r<12->S (r:Nat))->s<=s0+1->wC CS K [.map v,.ptr m 0,.I ((16+s:Nat):Int)] h':=by
  intro s xs w h' k f c t g j I
  refine KO (λk l h'=>∃(s:Nat) (xs:List Int) (w:V),l=[.map v,.ptr m 0,.I ((16+s:Nat):Int)]/\Sn F h F h'/\NP F h' m OX vf0 xs w cs/\xs.length<=13/\
   (∀x∈xs,¬S x/\((0<=x/\x<12)\/(16<=x/\x<=16+s0/\∀r:Nat,r<12->S (r:Nat))))/\(xs=[]->s+k=s0+1/\s<=s0/\∀r:Nat,r<12->S (r:Nat))/\s<=s0+1) ?_ (k:=k) ⟨s,xs,w,rfl,f,c,t,g,j,I⟩
  clear f c t g j I s xs w h' k;rintro k _ _ _ h' ⟨s,xs,w,⟨⟩,f,c,t,g,j,I⟩;unfold CG;refine ec (c.ld 1 rfl rfl) (ec (c.len 0 rfl) (fH (gh ?_)))
  cases xs with
  | nil=>
    obtain⟨b1,b2,Q⟩:=j rfl;refine gN rfl ?_;obtain⟨b,J,c2⟩:=c.zcT (i+2) hi ((16+s:Nat):Int);refine ec J (po ?_);by_cases hb:b=true
    ·refine gN hb (A3 ?_)
     unfold uS;rw[a];have hs:s≠s0:=λe=>BY (e▸c2.1 hb);exact ju (by omega) (by omega) ⟨k-1,by omega,s+1,[],w,rfl,f,c,t,g,λ_=>⟨by omega,by omega,Q⟩,by omega⟩
    ·refine gD hb (htF.push XK c (by simp) λL ys M A _ hq B=>A3 ?_)
     obtain rfl:=hq (by simp);unfold uS;rw[a];refine ju (by omega) (by omega) ⟨0,by omega,s+1,[((16+s:Nat):Int)],M,rfl,f.trans A,B,by simp,λx d=>?_,(λe=>by cases e),by omega⟩;obtain rfl:=EI.1 d
     exact⟨λN=>hb (c2.2 N),.inr ⟨by omega,by omega,Q⟩⟩
  | cons x xs=>
    refine gD (by simp;omega) (htF.pop XK c (by simp at t;omega) λL _ _ A _ B=>?_);refine ec (show Ek 3 (V.I 0) (.iface fw (.I x))=some (.I x) from rfl) ?_;have d:=g x (RN ..);exact U L x (f.trans A) B.tail.tail d.1 d.2
 refine LB (λk l h'=>∃(r:Nat) (xs:List Int) (w:V),l=[.map v,.ptr m 0,.I r]/\r+k=12/\Sn F h F h'/\NP F h' m OX vf0 xs w cs/\xs.length<=r/\(∀x∈xs,0<=x/\x<r/\¬S x)/\∀q:Nat,q<r->S (q:Nat)\/((q:Nat):Int)∈xs) ?_ (k:=12)
  ⟨0,[],w0,rfl,rfl,H,G,jv _,by simp,by simp⟩
 rintro k _ _ _ h' ⟨r,xs,w,⟨⟩,hk,f,c,t,g,j⟩;unfold BV;by_cases hr:r<12
 ·refine gU ?_;obtain⟨b,J,c2⟩:=c.zcT (i+2) hi (r:Nat);refine ec J (po ?_);by_cases hb:b=true
  ·refine gN hb (AT ?_);unfold uU;rw[a];refine ju (by omega) (by omega) ⟨k-1,by omega,r+1,xs,w,rfl,by omega,f,c,by omega,λx d=>?_,λq hq=>?_⟩
   ·have:=g x d;exact⟨this.1,by omega,this.2.2⟩
   ·by_cases hq2:q=r
    ·subst hq2;exact .inl (c2.1 hb)
    ·exact j q (by omega)
  ·refine gD hb (htF.push XK c (by omega) λL ys M A _ hq B=>AT ?_);obtain rfl:=hq λy X=>by have:=g y X;omega
   unfold uU;rw[a];refine ju (by omega) (by omega) ⟨k-1,by omega,r+1,xs++[((r:Nat):Int)],M,rfl,by omega,f.trans A,B,by simp;omega,λx d=>?_,λq hq=>?_⟩
   ·rcases xU.1 d with d|d
    ·have:=g x d;exact⟨this.1,by omega,this.2.2⟩
    ·obtain rfl:=EI.1 d;exact⟨by omega,by omega,λN=>hb (c2.2 N)⟩
   ·by_cases hq2:q=r
    ·subst hq2;exact .inr (wBY _ (EI.2 rfl))
    ·exact(j q (by omega)).imp id λY=>XR _ Y
 ·refine iY ?_;obtain rfl:r=12:=by omega
  refine fM 0 xs w h' (s0+1) f c (by omega) (λx d=>?_) (λe=>⟨by omega,by omega,λq hq=>(j q hq).resolve_right (by rw[e];simp)⟩) (by omega);have:=g x d;exact⟨this.2.2,.inl ⟨this.1,this.2.1⟩⟩
end
open Un Dm
section
variable{u:U}{P:Nat->Prop}{w:Nat}
theorem Vf:∀{l d:List Nat},bh u (l++d) P w->bh u d P w\/∃(n:Nat)(x:Nat),l[n]? =some x/\hD u x=false/\w∈Eg u x
 |[],_,h=> .inl h
 | y ::l,d,h=>by
   have h':if hD u y=true then bh u (l++d) P w else(bh u (l++d) P w/\w≠y)\/w∈Eg u y:=h
   have up:bh u (l++d) P w->bh u d P w\/∃(n:Nat) (x:Nat),(y::l)[n]? =some x/\hD u x=false/\w∈Eg u x:=λh=>(Vf h).imp id λ⟨n,x,a,b⟩=>⟨n+1,x,a,b⟩
   split at h'
   ·exact up h'
   ·rename_i e
    rcases h' with h'|h'
    ·exact up h'.1
    ·exact .inr ⟨0,y,rfl,by simpa using e,h'⟩
theorem Vk:∀{l d:List Nat},bh u d P w->w ∉ l->bh u (l++d) P w
 |[],_,h,_=>h
 |y::l,d,h,hn=>Rg (Vk h λa=>hn (Yd _ a)) λe=>hn (e▸RN ..)
end
section
variable{u:U}(g:Good u){In Out:Nat->Nat->Prop}(h:rk u (jN u) In Out)
include g
theorem UT{x b m w:Nat}(c:At u x b m)(h:hD u x=false)(a:w∈Eg u x):Xh u w b m:=by
 obtain⟨y,d,i⟩:=g.JA c;unfold Eg at a;rw[d]at a;rcases xU.1 a with a|a
 ·refine g.Vy x b m y c d (λe=>?_) w a;rw[i,e]at h;cases h
 ·split at a
  ·rename_i hl;unfold xI at a;split at a
   ·rename_i fs f;exact g.V9 x b m y fs c d hl f w a
   ·cases a
  ·cases a
include h
theorem WZ{v b i w:Nat}(hv:At u v b i)(C:w<u.ee.length)(a:bh u ((jr u b).drop (i+1)) (Out b) w)(y:w≠v) :
  ∃c j,At u w c j/\((c≠b/\Aw (next u) c b)\/(c=b/\(j<i\/(i<j/\hD u w=true)))):=by
 have p:b<u.blocks.length:=by obtain⟨B,d,_⟩:=hv;exact(kE.1 d).1
 obtain⟨c,j,hc⟩:=g.Jm w C trivial;refine⟨c,j,hc,?_⟩;by_cases e:c=b
 ·subst e;refine .inr ⟨rfl,?_⟩;by_cases hj:j<i
  ·exact .inl hj
  have D:j≠i:=λe=>by
   subst e;exact y (Option.some.inj ((jJ.2 hc).symm.trans (jJ.2 hv)))
  refine .inr ⟨by omega,?_⟩;by_cases k:hD u w=true
  ·exact k
  exfalso;have r:=(kE.1 (jJ.2 hc)).1;have s:=(kE.1 (jJ.2 hc)).2;have split:(jr u c).drop (i+1)=((jr u c).drop (i+1)).take (j-(i+1))++(w::(jr u c).drop (j+1)):=by
   conv=>lhs;rw[<-wA3 (j-(i+1)) ((jr u c).drop (i+1))]
   rw[wBe,show i+1+(j-(i+1))=j by omega,wAj r,s]
  rw [split]at a;have o:∀m x,At u x c m->m<=j->hD u x=false->w∈Eg u x->False:=λm x E z k F=>by
   obtain⟨c',G,d,f⟩:=UT g E k F;obtain⟨rfl,rfl⟩:=g.QH _ _ _ _ _ hc d;rcases f with f|f
   ·omega
   ·exact f.1 rfl
  rcases Vf a with a|⟨n,x,d,f,H⟩
  ·unfold bh at a;rw[if_neg k]at a;rcases a with a|a
   ·exact a.2 rfl
   ·exact o j w hc (jv _) (by simpa using k) a
  ·rw[List.getElem?_take]at d;split at d
   ·rename_i y;rw[wBZ]at d;exact o _ x (jJ.1 d) (by omega) f H
   ·cases d
 ·refine .inl ⟨e,?_⟩;have t:In b w:=by
   have A:=Vk (l:=(jr u b).take (i+1)) a λz=>e ?_
   ·rw[wA3]at A;exact(ze1 g h p).2 A
   ·obtain⟨q,hq⟩:=oR.1 z;rw[List.getElem?_take]at hq;split at hq
    ·exact(g.QH _ _ _ _ _ hc (jJ.1 hq)).1
    ·cases hq
  obtain⟨c',G,d,f,_⟩:=g.zeH h t;obtain⟨rfl,rfl⟩:=g.QH _ _ _ _ _ hc d;exact f
omit h g in
theorem NG {post:List Nat}{seen:List Bool}{n:Nat}(G:LK n (next u) seen post [])(hr:∀b,b∈post->∃l,Pt (next u) b l):∀(k:Nat){r l:List Nat}{c b:Nat},r.length<=k->post=l++b::r->Aw (next u) c b->c≠b->c∈r
 | k,r,l,c,b,hk,hp,hd,hn=>by
   rcases G.early l b r hp with rfl|⟨p,h1,h2|h2⟩
   ·have:=hd _ .nil
    exact absurd (EI.1 this) hn
   ·by_cases e:c=p
    ·subst e;exact h2
    obtain⟨r1,r2,rfl⟩:=wBv h2;have hl:r2.length<(r1++p::r2).length:=by simp;omega
    match k,hk with
    |0,hk=>simp at hk
    | k+1,hk=>
      have:=NG G hr k (r:=r2) (l:=l++b::r1) (c:=c) (b:=p) (by omega) (by rw[hp];simp) (V0 hd hn h1) e;simp[this]
   ·cases h2
end
def Dn(u:U)(ord:List Nat)(n i w:Nat):Prop:=∃m c j,ord[m]? =some c/\At u w c j/\(m<n\/(m=n/\j<i))
structure XL (u:U) (Out:Nat->Nat->Prop) (ord:List Nat) (n i:Nat) (of:List Int) (done:List Bool) (fM:Int):Prop where
 len:of.length=u.ee.length
 dl:done.length=u.ee.length
 dn:∀w,On done w↔Dn u ord n i w
 pl:∀k∈of,OT fM k
 s0:0<=fM
 s1:fM<=(done.count true:Nat)
 ap:∀m c j v,ord[m]? =some c->At u v c j->On done v->∀w,w<u.ee.length->bh u ((jr u c).drop (j+1)) (Out c) w->w≠v->Dn u ord m j w->of[w]?≠of[v]?
 hd:∀c j v,At u v c j->On done v->hD u v=true->∀a w,a<j->At u w c a->hD u w=true->of[w]?≠of[v]?
 few:∀c j v k,At u v c j->On done v->of[v]? =some k->16<=k->∀r:Nat,r<12->∃w,w≠v/\On done w/\of[w]? =some (r:Int)/\(bh u ((jr u c).drop (j+1)) (Out c) w\/(hD u v=true/\hD u w=true/\∃a,At u w c a))
 sl:0<fM->∃c j v k,At u v c j/\On done v/\of[v]? =some k/\16<=k
section
variable{u:U}(g:Good u){Out:Nat->Nat->Prop}{ord:List Nat}{n i:Nat}{of:List Int}{done:List Bool}{fM:Int}
theorem XL.start(u:U)(Out:Nat->Nat->Prop)(ord:List Nat):XL u Out ord 0 0 (List.replicate u.ee.length 0) (List.replicate u.ee.length false) 0:=by
 have no:∀{w},¬On (List.replicate u.ee.length false) w:=λ{w} h=>by
  unfold On at h;rw[List.getElem?_replicate]at h;split at h <;> cases h
 refine⟨by simp,by simp,λw=>⟨λh=>(no h).elim,λ⟨m,c,j,_,_,h⟩=>?_⟩,λk a=>?_,by omega,by omega,λ_ _ _ v _ _ h=>(no h).elim,λ_ _ v _ h=>(no h).elim,λ_ _ v _ _ h=>(no h).elim,λh=>?_⟩
 ·omega
 ·rw[(List.mem_replicate.1 a).2];exact .inl ⟨by omega,by omega⟩
 ·omega
theorem XL.block(A:XL u Out ord n i of done fM){b:Nat}(f:ord[n]? =some b)(hi:i=(jr u b).length):XL u Out ord (n+1) 0 of done fM:=
 { A with
   dn := λw=>by
     rw[A.dn w];constructor
     ·rintro⟨m,c,j,a,d,g⟩
      exact⟨m,c,j,a,d,by omega⟩
     ·rintro⟨m,c,j,a,d,g⟩
      have h:m<n\/m=n:=by omega
      refine⟨m,c,j,a,d,h.imp id λe=>⟨e,?_⟩⟩;subst e;rw[f]at a;cases a;rw[hi];exact(kE.1 (jJ.2 d)).1}
include g
theorem XL.step(A:XL u Out ord n i of done fM)(p:ord.Nodup){b v:Nat}(I:ord[n]? =some b)(hv:At u v b i){S:Int->Prop}{k:Int}
  (N:∀x,S x↔(hD u v=true/\∃j w,j<i/\At u w b j/\hD u w=true/\of[w]? =some x)\/∃w,bh u ((jr u b).drop (i+1)) (Out b) w/\w≠v/\On done w/\of[w]? =some x)
  (V:¬S k) (O:(0<=k/\k<12)\/(16<=k/\k<=16+fM/\∀r:Nat,r<12->S (r:Nat))) :
  XL u Out ord n (i+1) (of.set v k) (done.set v true) (max fM (k-16+1)):=by
 have K:v<u.ee.length:=g.DW v b i hv;have P:v<of.length:=by rw[A.len];exact K
 have C:v<done.length:=by rw[A.dl];exact K
 have D:¬On done v:=λh=>by
  obtain⟨m,c,j,a,f,o⟩:=(A.dn v).1 h;obtain⟨rfl,rfl⟩:=g.QH _ _ _ _ _ hv f;have:m=n:=(wB4 (kE.1 a).1 p).1 (a.trans I.symm);omega
 have on:∀w,On (done.set v true) w↔w=v\/On done w:=λw=>by
  rw[IK C];constructor
  ·rintro(⟨e,_⟩|⟨_,e⟩)
   ·exact .inl e
   ·exact .inr e
  ·rintro(e|e)
   ·exact .inl ⟨e,rfl⟩
   ·by_cases E:w=v
    ·exact .inl ⟨E,rfl⟩
    ·exact .inr ⟨E,e⟩
 have s:(of.set v k)[v]? =some k:=OY P;have d:∀w,w≠v->(of.set v k)[w]? =of[w]?:=λw e=>QI λe'=>e e'.symm;have Q:∀w,Dn u ord n (i+1) w↔w=v\/Dn u ord n i w:=λw=>by
  constructor
  ·rintro⟨m,c,j,a,f,o⟩;by_cases hj:m=n/\j=i
   ·obtain⟨rfl,rfl⟩:=hj;rw[I]at a;cases a;exact .inl (Option.some.inj ((jJ.2 f).symm.trans (jJ.2 hv)))
   ·exact .inr ⟨m,c,j,a,f,by omega⟩
  ·rintro(rfl|⟨m,c,j,a,f,o⟩)
   ·exact⟨n,b,i,I,hv,by omega⟩
   ·exact⟨m,c,j,a,f,by omega⟩
 have W:fM<=max fM (k-16+1)/\k-16+1<=max fM (k-16+1):=⟨by omega,by omega⟩
 have L:∀m c j,ord[m]? =some c->At u v c j->m=n/\c=b/\j=i:=λm c j a f=>by
  obtain⟨rfl,rfl⟩:=g.QH _ _ _ _ _ hv f;exact⟨(wB4 (kE.1 a).1 p).1 (a.trans I.symm),rfl,rfl⟩
 refine⟨by rw[X1];exact A.len,by rw[X1];exact A.dl,λw=>by rw[on,Q,A.dn],λx l=>?_,by have:=A.s0;omega,?_,?_,?_,?_,?_⟩
 ·rcases wBF l with l|rfl
  ·rcases A.pl x l with h|h
   ·exact .inl h
   ·exact .inr ⟨h.1,by omega⟩
  ·rcases O with h|h
   ·exact .inl h
   ·exact .inr ⟨h.1,by omega⟩
 ·have hc:(done.set v true).count true=done.count true+1:=by
   have h0:done[v]=false:=by
    cases l:done[v]with
    |false=>rfl
    |true=>exact absurd (show On done v by unfold On;rw[iz C,l]) D
   rw[List.count_set C,h0];simp
  rw[hc];have:=A.s1;rcases O with h|h <;> omega
 ·intro m c j x a f o w E t z J;by_cases l:x=v
  ·subst l;obtain⟨rfl,rfl,rfl⟩:=L m c j a f;rw[d w z,s];intro e;exact V ((N k).2 (.inr ⟨w,t,z,(A.dn w).2 J,e⟩))
  ·have hd:=((on x).1 o).resolve_left l;have F:w≠v:=λe=>by
    subst e;obtain⟨Y,c',G,H,y,B⟩:=J;obtain⟨rfl,rfl,rfl⟩:=L Y c' G H y;obtain⟨R,c2,Z,r1,r2,r3⟩:=(A.dn x).1 hd;obtain⟨rfl,rfl⟩:=g.QH _ _ _ _ _ f r2;have:m=R:=(wB4 (kE.1 a).1 p).1 (a.trans r1.symm);omega
   rw[d w F,d x l];exact A.ap m c j x a f hd w E t z J
 ·intro c j x a f o G w t z J;have T:w≠x:=λe=>by
   subst e;have:=(g.QH _ _ _ _ _ a z).2;omega
  by_cases l:x=v
  ·subst l;obtain⟨rfl,rfl⟩:=g.QH _ _ _ _ _ hv a;rw[d w T,s];intro e;exact V ((N k).2 (.inl ⟨o,G,w,t,z,J,e⟩))
  ·have hd:=((on x).1 f).resolve_left l;have F:w≠v:=λe=>by
    subst e;obtain⟨rfl,rfl⟩:=g.QH _ _ _ _ _ hv z;obtain⟨R,c2,Z,r1,r2,r3⟩:=(A.dn x).1 hd;obtain⟨rfl,rfl⟩:=g.QH _ _ _ _ _ a r2;have:R=n:=(wB4 (kE.1 r1).1 p).1 (r1.trans I.symm);omega
   rw[d w F,d x l];exact A.hd c j x a hd o G w t z J
 ·intro c j x q a f o t r X;by_cases l:x=v
  ·subst l;obtain⟨rfl,rfl⟩:=g.QH _ _ _ _ _ hv a;rw[s]at o;cases o;have U:=O.resolve_left λh=>by omega
   rcases(N _).1 (U.2.2 r X)with⟨H,G,w,y,B,M,q5⟩|⟨w,H,y,B,M⟩
   ·have E:w≠x:=λe=>by
     subst e;have:=(g.QH _ _ _ _ _ hv B).2;omega
    exact⟨w,E,(on w).2 (.inr ((A.dn w).2 ⟨n,_,G,I,B,.inr ⟨rfl,y⟩⟩)),by rw[d w E];exact q5,.inr ⟨H,M,G,B⟩⟩
   ·exact⟨w,y,(on w).2 (.inr B),by rw[d w y];exact M,.inl H⟩
  ·have hd:=((on x).1 f).resolve_left l;rw[d x l]at o;obtain⟨w,H,y,B,M⟩:=A.few c j x q a hd o t r X;exact⟨w,H,(on w).2 (.inr y),by rw[d w λe=>D (e▸y)];exact B,M⟩
 ·intro hs;by_cases hk16:16<=k
  ·exact⟨b,i,v,k,hv,(on v).2 (.inl rfl),s,hk16⟩
  ·obtain⟨c,j,x,q,a,f,o,t⟩:=A.sl (by omega);have l:x≠v:=λe=>D (e▸f);exact⟨c,j,x,q,a,(on x).2 (.inr f),by rw[d x l];exact o,t⟩
def zfr(u:U)(Out:Nat->Nat->Prop)(of:List Int)(fM:Int):Prop:=0<fM->∃c j v,At u v c j/\∀r:Nat,r<12->∃w,w≠v/\of[w]? =some (r:Int)/\(bh u ((jr u c).drop (j+1)) (Out c) w\/(hD u v=true/\hD u w=true/\∃a,At u w c a))
theorem XL.right{In:Nat->Nat->Prop}(h:rk u (jN u) In Out){post:List Nat}{seen:List Bool}(G:LK u.blocks.length (next u) seen post [])(A:XL u Out post.reverse post.reverse.length 0 of done fM)(Q:u.ee.length<=399) :
  pJ u Out of fM/\zfr u Out of fM:=by
 have D:=Rp G;have t:∀b,b<u.blocks.length->∃m,post.reverse[m]? =some b:=λb p=>oR.1 (YB.2 (J8 g G b p));have f:∀v c j,At u v c j->On done v:=λv c j hv=>by
  have hc:c<u.blocks.length:=by obtain⟨B,d,_⟩:=hv;exact(kE.1 d).1
  obtain⟨m,n⟩:=t c hc;exact(A.dn v).2 ⟨m,c,j,n,hv,.inl (kE.1 n).1⟩
 refine⟨⟨A.len,A.s0,?_,A.pl,λc i=>⟨λv hv I j w J x E=>?_,λv hv w x p oS=>?_⟩⟩,λhs=>?_⟩
 ·have d:=A.s1;have e:=List.count_le_length (a:=true) (l:=done);rw[A.dl]at e;omega
 ·exact A.hd c i v hv (f v c i hv) I j w J x E
 ·have hc:c<u.blocks.length:=by obtain⟨B,d,_⟩:=hv;exact(kE.1 d).1
  obtain⟨m,n⟩:=t c hc;obtain⟨c',j,d,e⟩:=WZ g h hv x p oS;rcases e with⟨e,s⟩|⟨rfl,e|⟨e,s⟩⟩
  ·refine A.ap m c i v n hv (f v c i hv) w x p oS ?_;obtain⟨l,r,y⟩:=wBv (YB.1 (zQ n));have z:=NG G (λb p=>g.reach b (G.pre b p)) r.length (r:=r) (l:=l) (jv _) y s e;have o:post.reverse=r.reverse++c::l.reverse:=by rw[y];simp
   have F:m=r.length:=by
    have K:post.reverse[r.length]? =some c:=by rw[o];simp
    exact(wB4 (kE.1 n).1 D).1 (n.trans K.symm)
   obtain⟨q,hq⟩:=oR.1 (YB.2 z);have C:=(kE.1 hq).1;refine⟨q,c',j,by rw[o,wAv C];exact hq,d,.inl (by rw[F];simpa using C)⟩
  ·exact A.ap m c' i v n hv (f v c' i hv) w x p oS ⟨m,c',j,n,d,.inr ⟨rfl,e⟩⟩
  ·have H:=g.QQ d s hv (by omega);exact(A.hd c' j w d (f w c' j d) s i v e hv H).symm
 ·obtain⟨c,j,v,k,d,e,s,L⟩:=A.sl hs;exact⟨c,j,v,d,λr M=>let⟨w,N,_,O,P⟩:=A.few c j v k d e s L r M;⟨w,N,O,P⟩⟩
end
open Un Dm
section
variable{F F':Nat->Prop}{h h':Hp}{cs:List Pc}{Q:fo}{u:U}{vv vb vs:V}
theorem Hz{Q:fo}{b c:LP}{x y z A B C D d e a f g i j k l m:V} {h h':Hp}(hv:NN .i64 m a h=some h')(H:mN CS Q b c [x,y,z,A,B,C,D,d,e,a,f,g,i,j,k,l] h') :
  zh CS Q b c [x,y,z,A,B,C,D,d,e,a,f,g,i,j,k,l,m] h:=by
 refine JV.fill (F:=⟨63,64,65,66,67,14,68,69,13,4,zfy,3,.i64⟩) (by kernel_rfl) (λρ h=>by kernel_rfl) (by decide) rfl (λρ E=>?_) H;simp only[XY,List.map_nil,List.cons.injEq,and_true]at E;obtain⟨G,I,J,K,L,M,N,o,p,n,q,r,s,t,u,v,w⟩:=E;refine⟨by simp only[XY,List.map_nil,G,I,J,K,L,M,N,o,p,n,q,r,s,t,u,v],?_⟩;show NN .i64 (ρ 63) (ρ 13) h=_;rw[w,n];exact hv
theorem SJ(g:Good u)(hn:u.ee.length<=390)(H0:ej F h cs)(hu:Is F h u vv vb vs)
  (H:∀F' h' of tR fM In Out,Sn F h F' h'->ej F' h' (fE eZ fw of tR::cs)->rk u (jN u) In Out->pJ u Out of fM->zfr u Out of fM->Q (.tuple [.agg [tR,.I fM],.I 0]) h') :
  cP CS qO [.agg (uC u vv vb vs)] h Q:=by
 refine KP rfl rfl ?_;unfold Cs;have nb:=g.nb;refine rL H0 hu.one λq H1 s1=>?_;generalize h.next=lu at*;obtain⟨H2,s2⟩:=H1.HM pB [.ed,.I 0];rw[fI];have H2:ej F (q.new (.cells pB 1 true false [.ed,.I 0])) (ft q.next pB [.ed,.I 0]::ft lu 34 (uC u vv vb vs)::cs):=H2;have s2:Sn F q F (q.new (.cells pB 1 true false [.ed,.I 0])):=s2;generalize q.new (.cells pB 1 true false [.ed,.I 0])=p at*;generalize q.next=lr at*;have aq:=s1.trans s2;have u2:=hu.since aq;refine ec (H2.zB 1 rfl rfl) ?_;refine NM g H2 u2 λF3 J s3 H3=>?_;refine po (gN rfl ?_);refine ec (H3.zB 1 rfl rfl) ?_;refine Wl g H3 (u2.since s3) λF4 r lv qV jm ins outs s4 H4 bU a3 hA=>?_;obtain⟨H5,s5,ri⟩:=H4.ji 0 rfl;simp only[AD]at H5;obtain⟨H6,s6,ro⟩:=H5.ji 1 rfl;simp only[OH,AD]at H6;have H6:=H6.tail.tail;have ar:=((aq.trans s3).trans s4).trans (s5.trans s6);have ro:=ro;generalize (λl=>(F4 l\/Loc qV l)\/Loc jm l)=F6 at*;clear H1 H2 H3 H4 H5 s1 s2 s3 s4 s5 s6 aq u2 ri;have u6:=hu.since ar;refine oF (H6.ld 2 rfl rfl) (ec u6.v.len ?_);rw[pC rfl (by decide) (by omega),fI];obtain⟨H7,s7⟩:=H6.make (E:=eZ) (ty:=fw) (y:=0) (u:=V.I 0) u.ee.length rfl rfl;have H7:ej F6 (r.new (.cells 3 1 true false (List.replicate u.ee.length (V.I 0)))) (fE eZ fw (List.replicate u.ee.length 0) (.slice r.next 0 u.ee.length)::_):=H7;have s7:Sn F6 r F6 (r.new (.cells 3 1 true false (List.replicate u.ee.length (V.I 0)))):=s7;refine ec (show fm [V.ed,V.I 0] [(0,1),(1,1)] [(0,V.slice r.next 0 u.ee.length)]=some (.agg [V.slice r.next 0 u.ee.length,.I 0]) from rfl) ?_;generalize r.new (.cells 3 1 true false (List.replicate u.ee.length (V.I 0)))=h7 at*;generalize V.slice r.next 0 u.ee.length=tR at*;refine lM H7 rfl rfl (by simp only[fe,H7.one 0 rfl];rfl) λh8 H8 s8=>?_;generalize h7.next=lp at*;have au:=s7.trans s8;refine oF (H8.ld 4 rfl rfl) (ec (u6.since au).v.len ?_);rw[pC rfl (by decide) (by omega),fI];obtain⟨H9,s9⟩:=H8.make (E:=eB) (ty:=hC) (y:=false) (u:=V.bool false) u.ee.length rfl rfl;have H9:ej F6 (h8.new (.cells 4 1 true false (List.replicate u.ee.length (V.bool false)))) (fE eB hC (List.replicate u.ee.length false) (.slice h8.next 0 u.ee.length)::_):=H9;have s9:Sn F6 h8 F6 (h8.new (.cells 4 1 true false (List.replicate u.ee.length (V.bool false)))):=s9;generalize h8.new (.cells 4 1 true false (List.replicate u.ee.length (V.bool false)))=h9 at*;generalize V.slice h8.next 0 u.ee.length=wd at*;have aw:=au.trans s9;refine ec (H9.zB 5 rfl rfl) ?_;refine JG g H9 (u6.since aw) λaJ a4 vo seen post aK aL G an=>?_;refine ec an.len ?_;have ae:=aw.trans aK;have uA:=u6.since ae;have a5:=ro.since ae;have bV:post.reverse.length<=300:=by rw[List.length_reverse,JO g G];exact nb
 have a6:=Rp G;have a7:=ar.trans ae;clear H6 H7 H8 H9 s7 s8 s9 au aw aK ae ar;have base:∃base:List Bool->Int->List Int->List Pc,base=λdone fM of=>fE eB hC done wd::ft lp pB [tR,.I fM]::fE eZ fw of tR::ft lv me [.I u.func,.I u.pc,vv,vb,vs,qV,jm]::ft lr pB [.ed,.I 0]::ft lu 34 (uC u vv vb vs)::cs:=⟨_,rfl⟩
 obtain⟨base,f⟩:=base
 obtain ⟨I0,ax⟩:∃I0:Nat->LP,I0=λk l h'=>∃(F':Nat->Prop) (n:Nat) (of:List Int) (done:List Bool) (fM:Int),l=[.ptr lu 0,.ptr lr 0,.ptr lv 0,.ptr lp 0,wd,vo,.I post.reverse.length,.I n]/\n+k=post.reverse.length/\Sn aJ a4 F' h'/\
  ej F' h' (base done fM of)/\XL u (mH outs) post.reverse n 0 of done fM:=⟨_,rfl⟩
 refine Hv I0 ?_ (k:=post.reverse.length) (by rw[ax];exact⟨aJ,0,_,_,0,rfl,by omega,.refl _ _,by rw[f];exact aL,.start u (mH outs) _⟩);clear aL;intro k _ _ _ _ _ _ _ _ aM aN;rw[ax]at aN;obtain⟨aO,n,of,done,fM,⟨⟩,hk,T,t,A⟩:=aN;unfold yz;by_cases hnl:n<post.reverse.length;rotate_left
 ·rw[f]at t;refine iY ?_;obtain rfl:n=post.reverse.length:=by omega
  obtain⟨hR,hW⟩:=A.right g hA G (by omega);refine oF (t.ld 1 rfl rfl) (ec (iG _ _ _ _) (gh (gD (by have:=hR.s1;simp;omega) ?_)));refine ec (t.zB 1 rfl rfl) ?_;obtain⟨ay,a8,_,W,X⟩:=t.XM 4 rfl (ws:=[tR,.I fM]) (n:=2) rfl rfl (by simp only[fe,t.one 2 rfl];rfl);rw[a8,eh];refine ec (W.zB 4 rfl rfl) ?_;exact H aO ay of tR fM (mH ins) (mH outs) ((a7.trans T).trans X) W.tail.tail.Fk.Fk.Fk hA hR hW
 clear H;refine gU ?_;have a9:=uA.since T;obtain⟨b,hb⟩:∃b,post.reverse[n]? =some b:=⟨_,iz hnl⟩
 have bb:b<u.blocks.length:=G.pre b (YB.1 (zQ hb));obtain⟨B,hB⟩:∃B,u.blocks[b]? =some B:=⟨_,iz bb⟩
 have aP:jr u b=B.ee:=by unfold jr;rw[hB]
 have bW:=qT g hB;obtain⟨bX,bY,_,i1,i2⟩:=(an.since T).nat hb .i64;refine ec i1 (ec i2 ?_);rw[fI];obtain⟨W,X⟩:=t.zdE;generalize aM.new (.map [] 0)=ay at*;generalize aM.next=s at*;have aQ:Lk aO ay (rW s (λ_=>False)::base done fM of) lv u vv vb vs qV jm:=⟨W,⟨4,by rw[f];rfl⟩,a9.since X⟩
 refine Pm g aQ (a5.since (T.trans X)) a3 hB λm bc wr rs bd aR aS bZ be=>?_;refine ec aS.len ?_;have aT:=(T.trans X).trans bd
 obtain ⟨I1,az⟩:∃I1:Nat->LP,I1=λk l h'=>∃(S:Int->Prop) (of:List Int) (done:List Bool) (fM:Int) (i:Nat),l=[.ptr lu 0,.ptr lr 0,.ptr lv 0,.ptr lp 0,wd,.I b,.map s,vo,.I post.reverse.length,.I n,wr,.I rs.length,.I i]/\
  i+k=B.ee.length/\Sn m bc m h'/\ej m h' (rW s S::base done fM of)/\(∀x,S x↔∃j w,j<i/\At u w b j/\hD u w=true/\of[w]? =some x)/\XL u (mH outs) post.reverse n i of done fM:=⟨_,rfl⟩
 refine HQ I1 ?_ (k:=B.ee.length) (by rw[az];exact⟨λ_=>False,of,done,fM,0,rfl,by omega,.refl _ _,aR,λx=>⟨False.elim,λ⟨_,_,h,_⟩=>by omega⟩,A⟩);clear t W aR A aQ of done fM;intro k1 _ _ _ _ _ _ _ _ _ _ _ _ _ aU aV;rw[az]at aV;obtain⟨S,of,done,fM,i,⟨⟩,b3,ag,aA,hS,A⟩:=aV;unfold yN;by_cases hi:i<B.ee.length;rotate_left
 ·refine iY ?_;refine gf ⟨k-1,by omega,?_⟩;rw[ax];exact⟨m,n+1,of,done,fM,rfl,by omega,aT.trans ag,aA.tail,A.block hb (by rw[aP];omega)⟩
 refine gU ?_;obtain⟨v,hv⟩:∃v,B.ee[i]? =some v:=⟨_,iz hi⟩
 have K:At u v b i:=⟨B,hB,hv⟩
 have Y:=g.DW v b i K;obtain⟨row,ao⟩:∃row,rs[i]? =some row:=⟨_,iz (by omega)⟩
 obtain⟨b4,aB⟩:=be i row ao;obtain⟨l14,b5,Z,_,j1,j2,j3⟩:=(aS.since ag).list ao .i64;have aC:=(uA.since aT).since ag;obtain⟨lb,ob,bv,_,_,_,b1,b2,iv,_,_,ba⟩:=aC.AA hB;obtain⟨lw,ow,_,w1,w2⟩:=iv.nat hv .i64;have aa:∀{F h done fM of},ej F h (base done fM of)->ej F h (fE eB hC done wd::ft lp pB [tR,.I fM]::fE eZ fw of tR::ft lv me [.I u.func,.I u.pc,vv,vb,vs,qV,jm]::ft lr pB [.ed,.I 0]::ft lu 34 (uC u vv vb vs)::cs):=λH=>by rw[f]at H;exact H
 refine ec j1 (ec j2 (oF ((aa aA.tail).ld 5 rfl rfl) (ec b1 (oF ba.ee (ec w1 (ec w2 ?_))))));rw[fI];obtain⟨aD,ah⟩:=aA.zdE;generalize aU.new (.map [] 0)=aE at*;generalize aU.next=lq at*;have bf:Lk m aE (rW lq (λ_=>False)::rW s S::base done fM of) lv u vv vb vs qV jm:=⟨aD,⟨5,by rw[f];rfl⟩,aC.since ah⟩
 refine DM bf Y (gh ?_)
 have aW:∀L U0,Sn m aE m L->ej m L (Nh lq U0::rW s S::base done fM of)->(∀x,U0 x↔hD u v=true/\S x)->mN CS Q (KJ I0 k) (KJ I1 k1)
   [.ptr lu 0,.ptr lr 0,.ptr lv 0,.ptr lp 0,wd,.I b,.map s,Z,.I v,.map lq,vo,.I post.reverse.length,.I n,wr,.I rs.length,.I i] L:=by
  intro L U0 aF bg bi;refine FK ?_;unfold qu;have sE:=(ag.trans ah).trans aF;have aX:=j3.since (ah.trans aF);have bj:=aC.since (ah.trans aF);refine ec aX.len ?_
  obtain ⟨I3,aG⟩:∃I3:Nat->LP,I3=λk l h'=>∃(U:Int->Prop) (w:Nat),l=[.ptr lu 0,.ptr lr 0,.ptr lv 0,.ptr lp 0,wd,.I b,.map s,.I v,.map lq,vo,.I post.reverse.length,.I n,wr,.I rs.length,.I i,Z,.I row.length,.I w]/\
   w+k=row.length/\Sn m L m h'/\ej m h' (Nh lq U::rW s S::base done fM of)/\∀x,U x↔U0 x\/∃w',w' < w/\On row w'/\w'≠v/\On done w'/\of[w']? =some x:=⟨_,rfl⟩
  refine HI I3 ?_ (k:=row.length) (by rw[aG];exact⟨U0,0,rfl,by omega,.refl _ _,bg,λx=>⟨.inl,λh=>h.elim id λ⟨_,h,_⟩=>by omega⟩⟩);intro k3 _ _ _ _ _ _ _ _ _ _ _ _ _ _ _ _ _ _ M aY;rw[aG]at aY;obtain⟨U,w,⟨⟩,b6,N,O,hU⟩:=aY;unfold yM;have bm:=bj.since N;have ai:=aa O.tail.tail;by_cases hw:w<row.length
  ·refine gU ?_;obtain⟨x,hx⟩:∃x,row[w]? =some x:=⟨_,iz hw⟩
   obtain⟨d,hd⟩:∃d,done[w]? =some d:=⟨_,iz (by rw[A.dl];omega)⟩
   obtain⟨y,hy⟩:∃y,of[w]? =some y:=⟨_,iz (by rw[A.len];omega)⟩
   obtain ⟨l1,o1,_,p1,p2⟩:=(aX.since N).bool hx .i64;obtain⟨l2,o2,q1,q2⟩:=ai.VH 0 rfl hd .i64;have E1:iM (.bool x) (oB (some (V.I w)) λbn=>oB (some (V.I v)) λbo=>ef .neq 3 bn bo)=some (.bool (x&&((w:Nat):Int) != (v:Nat))):=by
    simp only[eD,vB,gQ]
   have E2:∀c,iM (.bool c) (oB (some wd) λbp=>oB (some (V.I w)) λbr=>oB (gP 1 bp br) λbt=>eC bt M)=some (.bool (c&&d)):=λc=>by
    simp only[eD,q1,q2,gQ]
   refine ec p1 (ec p2 (ec E1 (ec (E2 _) (gh ?_))))
   have next:∀C U',Sn m M m C->ej m C (Nh lq U'::rW s S::base done fM of)->(∀x,U' x↔U0 x\/∃w',w' < w+1/\On row w'/\w'≠v/\On done w'/\of[w']? =some x)->mR CS Q (KJ I0 k) (KJ I1 k1) (KJ I3 k3)
     [.ptr lu 0,.ptr lr 0,.ptr lv 0,.ptr lp 0,wd,.I b,.map s,.I v,.map lq,vo,.I post.reverse.length,.I n,wr,.I rs.length,.I i,Z,.I row.length,.I w] C:=λC U' P R bu=>by
    refine Gv ?_;unfold xM;refine gf ⟨k3-1,by omega,?_⟩;rw[aG];exact⟨U',w+1,rfl,by omega,N.trans P,R,bu⟩
   by_cases hc:x=true/\w≠v/\d=true
   ·obtain ⟨rfl,c2,rfl⟩:=hc;obtain⟨l3,o3,r1,r2⟩:=ai.AI 2 rfl hy .i64;obtain⟨C,bw,_,R,P⟩:=O.zgW 0 rfl y;refine gN (by simp;omega) (oF (ai.ld 1 rfl rfl) (ec r1 (ec r2 ?_)));rw[show xh 3 none (.map lq) (.I y) (.bool true) M=_ from bw,eh];refine next C _ P R λz=>?_
    show U z\/z=y↔_;rw[hU z];constructor
    ·rintro((q|⟨w',q,p⟩)|rfl)
     ·exact .inl q
     ·exact .inr ⟨w',by omega,p⟩
     ·exact .inr ⟨w,by omega,hx,c2,hd,hy⟩
    ·rintro(q|⟨w',q,p,J,r,h5⟩)
     ·exact .inl (.inl q)
     ·by_cases e:w' = w
      ·subst e;rw[hy]at h5;cases h5;exact .inr rfl
      ·exact .inl (.inr ⟨w',by omega,p,J,r,h5⟩)
   ·refine gD (λe=>hc ?_) (next M U (.refl _ _) O λz=>(hU z).trans ?_)
    ·simp only[sJ,wB3,ne_eq,Int.natCast_inj]at e;exact⟨e.1.1,e.1.2,e.2⟩
    ·constructor
     ·rintro(q|⟨w',q,p⟩)
      ·exact .inl q
      ·exact .inr ⟨w',by omega,p⟩
     ·rintro(q|⟨w',q,p,J,r,h5⟩)
      ·exact .inl q
      ·by_cases e:w' = w
       ·subst e;unfold On at p r;rw[hx]at p;rw[hd]at r;exact(hc ⟨Option.some.inj p,J,Option.some.inj r⟩).elim
       ·exact .inr ⟨w',by omega,p,J,r,h5⟩
  refine iY ?_;obtain rfl:w=row.length:=by omega
  have aZ:∀x,U x↔(hD u v=true/\∃j w,j<i/\At u w b j/\hD u w=true/\of[w]? =some x)\/∃w,bh u ((jr u b).drop (i+1)) (mH outs b) w/\w≠v/\On done w/\of[w]? =some x:=λx=>by
   rw[hU x,bi x,hS x,aP];refine or_congr Iff.rfl ⟨λ⟨w',_,p,J⟩=>⟨w',(aB w').1 p,J⟩,λ⟨w',p,J⟩=>⟨w',?_,(aB w').2 p,J⟩⟩;exact Yo ((aB w').2 p)
  have bx:((fM.toNat:Nat):Int)=fM:=wBs A.s0;have bS:fM<=390:=by
   have q:=A.s1;have p:=List.count_le_length (a:=true) (l:=done);rw[A.dl]at p;omega
  refine oF (ai.ld 1 rfl rfl) ?_;refine zat O (i:=0) rfl (s0:=fM.toNat) (by omega) (λbz=>?_) λC y P R bA a0=>?_
  ·have:∃w:Nat,of[w]? =some ((16+fM.toNat:Nat):Int):=by
    rcases(aZ _).1 bz with⟨_,_,w,_,_,_,h5⟩|⟨w,_,_,_,h5⟩ <;> exact⟨w,h5⟩
   obtain⟨w,hw⟩:=this;rcases A.pl _ (zQ hw)with h|h <;> omega
  have A2:=A.step g a6 hb K (k:=y) aZ bA (by rw[<-bx];exact a0);have b7:0<=y/\y<=500:=by rcases a0 with h|h <;> omega
  have bC:=aa R.tail.tail;refine⟨P.next,?_⟩;obtain⟨l1,o1,bD,p1,p2,p3,aj,bE⟩:=R.tail.L9 3 (by rw[f];rfl) (k:=v) (by rw[A.len];exact Y) rfl (y:=y) (u:= .I y) rfl rfl;refine ec p1 ⟨bC.ld 1 rfl rfl,?_⟩;rw[p2,eh];have aj:ej m bD (rW s S::base done fM (of.set v y)):=by rw[f]at aj⊢;exact aj
  obtain⟨l2,o2,ab,q1,q2,q3,D,bG⟩:=aj.L9 1 (by rw[f];rfl) (k:=v) (by rw[A.dl];exact Y) rfl (y:=true) (u:= .bool true) rfl rfl;refine⟨p3,ec q1 ?_⟩;rw[q2,eh];have D:ej m ab (rW s S::base (done.set v true) fM (of.set v y)):=by rw[f]at D⊢;exact D
  have ac:=(P.trans bE).trans bG;have bH:Lk m ab (rW s S::base (done.set v true) fM (of.set v y)) lv u vv vb vs qV jm:=⟨D,⟨4,by rw[f];rfl⟩,bm.since ac⟩
  refine⟨q3,DM bH Y (gh ?_)⟩;have ak:(of.set v y)[v]? =some y:=OY (by rw[A.len];exact Y)
  have fin:∀I S',Sn m ab m I->ej m I (rW s S'::base (done.set v true) fM (of.set v y))->(∀x,S' x↔∃j w,j<i+1/\At u w b j/\hD u w=true/\(of.set v y)[w]? =some x)->nt CS Q (KJ I0 k) (KJ I1 k1)
    [.ptr lu 0,.ptr lr 0,.ptr lv 0,.ptr lp 0,wd,.I b,.map s,.I v,vo,.I post.reverse.length,.I n,wr,.I rs.length,.I i] I:=λI S' aH al bI=>by
   refine FV ?_;unfold wQ;have aI:=aa al.tail;obtain⟨l1,o1,p1,p2⟩:=aI.AI 2 rfl ak .i64;obtain⟨bJ,bK,bL,am,bQ⟩:=al.st 2 (by rw[f];rfl) (o:=1) (by simp) (u:= .I (max fM (y-16+1))) rfl;refine oF (aI.ld 1 rfl rfl) (oF (aI.ld 1 rfl rfl) (ec p1 (ec p2 (ec (iu _ _ _ _) (ec (Cv _ _ _ _) ?_)))));rw[show iy .i64 (y-16)=y-16 from gS (by simp only[Cf];omega),show iy .i64 (y-16+1)=y-16+1 from gS (by simp only[Cf];omega)];refine ec (SY _ _ _ _) (ec (fN _ _ _) ?_);rw[if_pos rfl,show gL 1 (.ptr lp (0+1)) (.I (max fM (y-16+1))) I=_ from bK,eh];refine⟨bL,gf ⟨k1-1,by omega,?_⟩⟩;rw[az];have am:ej m bJ (rW s S'::base (done.set v true) (max fM (y-16+1)) (of.set v y)):=by rw[f]at am⊢;exact am
   exact⟨S',of.set v y,done.set v true,max fM (y-16+1),i+1,rfl,by omega,sE.trans (N.trans (ac.trans (aH.trans bQ))),am,bI,A2⟩
  have a1:∀x,(∃j w,j<i+1/\At u w b j/\hD u w=true/\(of.set v y)[w]? =some x)↔S x\/(hD u v=true/\x=y):=λx=>by
   rw[hS x];constructor
   ·rintro⟨j,w,q,p,J,r⟩;by_cases e:j=i
    ·subst e;obtain rfl:=Option.some.inj ((jJ.2 p).symm.trans (jJ.2 K));rw[ak]at r;exact .inr ⟨J,(Option.some.inj r).symm⟩
    ·refine .inl ⟨j,w,by omega,p,J,?_⟩
     rwa [QI λe'=>e ?_]at r
     subst e';exact(g.QH _ _ _ _ _ p K).2
   ·rintro(⟨j,w,q,p,J,r⟩|⟨q,rfl⟩)
    ·refine⟨j,w,by omega,p,J,?_⟩;rw[QI λe'=>?_]
     ·exact r
     ·subst e';have:=(g.QH _ _ _ _ _ p K).2;omega
    ·exact⟨i,v,by omega,K,q,ak⟩
  cases hh:hD u v with
  | true=>
    refine gN rfl ?_;have a2:=aa D.tail;obtain⟨l3,o3,r1,r2⟩:=a2.AI 2 rfl ak .i64;obtain⟨I,bR,_,al,aH⟩:=D.hO 0 rfl y;refine oF (a2.ld 1 rfl rfl) (ec r1 (ec r2 ?_));rw[show xh 3 none (.map s) (.I y) (.bool true) ab=_ from bR,eh]
    exact fin I _ aH al λx=>by rw[a1 x,hh];simp
  |false=>exact gD (by simp) (fin ab S (.refl _ _) D λx=>by rw[a1 x,hh];simp)
 cases hh:hD u v with
 | true=>
   refine gN rfl ?_;obtain⟨L,M,e1,e2,_,O,N⟩:=aD.fill 1 0 rfl rfl (by decide);rw[e1,eh]
   exact Hz e2 (aW M S N O λx=>by simp[hh])
 |false=>exact gD (by simp) (aW aE (λ_=>False) (.refl _ _) (aD.OG 0 rfl) λx=>by simp[hh])
end
