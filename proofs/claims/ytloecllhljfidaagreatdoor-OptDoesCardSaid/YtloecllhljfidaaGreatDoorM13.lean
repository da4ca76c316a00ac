/- Parts. -/
import Derived.Test.YtloecllhljfidaaGreatDoorM12
set_option maxHeartbeats 4000000
namespace Go.Proofs.YtloecllhljfidaaGreatDoor.Un
open Dm
variable{nx:Nat->List Nat}{b hi v:Nat}{t:Dt}{n:Nat}{α:Type}{a k':Nat}
def qI(nx:Nat->List Nat)(n b:Nat):List Nat:=(List.range n).flatMap λi=>((nx i).filter (·= b)).map λ_=>i
theorem zi(nx:Nat->List Nat) (n b:Nat):qI nx (n+1) b=qI nx n b++((nx n).filter (·= b)).map λ_=>n:=by
 grind[qI,YN]
theorem z9{YK:Nat->List Nat} (n b:Nat) (h:∀i,i<n->YK i=nx i):qI YK n b=qI nx n b:=by
 induction n with
 |zero=>rfl
 |succ n a=>grind[zi]
theorem NR {q:Nat}:q∈qI nx n b↔q<n/\b∈nx q:=by
 unfold qI
 simp_all
theorem My  (h:∀i,i<n->b ∉ nx i):qI nx n b=[]:=by
 simp_all[List.eq_nil_iff_forall_not_mem,NR]
inductive Pn (nx:Nat->List Nat) (n:Nat):Nat->List Nat->Prop
 |nil:Pn nx n 0 [0]
 |step {p b:Nat} {l:List Nat} (h:Pn nx n p l) (hp:p<n) (e:b∈nx p):Pn nx n b (b::l)
theorem Pn.mono{YK:Nat->List Nat}  (c:n<=a) (d:∀i,i<n->YK i=nx i):∀{b l},Pn nx n b l->Pn YK a b l
 |_,_,.nil=> .nil
 |_,_,.step h hp e=> .step (h.mono c d) (by omega) (by simp_all)
structure Gh (D:Nat->Nat) (pr nx:Nat->List Nat) (hi:Nat):Prop where
 tree:∀p b,p<hi->b∈nx p->b<=hi/\b≠0/\qD D (D b) p
 down:∀b,b≠0->b<=hi->D b<b
 fh:∀b,b<=hi->pr b=qI nx hi b
 reach:∀b,b<=hi->∃l,Pn nx hi b l
 FY:∀p,p<hi->(nx p).length=2->∀t∈nx p,(pr t).length=1
theorem Em{D D':Nat->Nat}  (a:∀b,b≠0->b<=hi->D b<b) (c:∀b,b<=hi->D' b=D b) {x b:Nat} (h:qD D x b):b<=hi->qD D' x b:=by
 induction h with
 |refl=>exact λ_=> .refl _
 | up h0 _ d=>
   rename_i b _;intro hb;have:=a b h0 hb;exact .up h0 (by grind)
theorem zba  (h:Ow t v b):b<=t.blocks.length:=by
 rcases h with⟨B,a,_⟩|⟨a,_⟩
 ·grind
 ·omega
section
variable{D D':Nat->Nat}{pr nx pr' YK:Nat->List Nat}{E:Nat->Prop}{t:Dt}
theorem p8.WK(c:p8 D pr nx E t) (z:Gh D pr nx t.blocks.length) (p:∀b,b<=t.blocks.length->D' b=D b) (k:∀b,b<=t.blocks.length->pr' b=pr b) (G:∀b,b<t.blocks.length->YK b=nx b):p8 D' pr' YK E t:=by
 have kn:∀{a w},a<=t.blocks.length->Kn D t a w->Kn D' t a w:=λH ⟨b,x,l,A,m⟩=>⟨b,x,l,Em z.down p A H,m⟩
 refine⟨c.cat,λv x h=>?_,λv x h I=>?_,λb B h=>?_,λs fs h=>?_,by rw[k _ (iZ _)];exact c.pc,c.ne,λw d=>kn (iZ _) (c.kn w d)⟩
 ·have n:=c.MP v x h
  let⟨b,l,A,m,J⟩:=n.own
  refine⟨n.op,n.putAt,n.par,b,l,by grind[zba],λR=>?_,J⟩
  grind[zba]
 ·let⟨b,e,o,i⟩:=c.ph v x h I
  refine⟨b,e,o,λC=>?_⟩;rw[k b (zba e)];refine⟨(i C).1,λj w q K F=>kn ?_ ((i C).2 j w q K F)⟩;have:=zD F;rw[z.fh b (zba e)]at this
  grind[NR]
 ·have L:=(jo.1 h).1
  let⟨e,o,i⟩:=c.bk b B h
  refine⟨by simp_all,by grind,?_⟩;rcases i with g|⟨r,u,y⟩|⟨r,u,fs,y,M⟩
  ·exact .inl g
  ·exact .inr (.inl ⟨r,u,kn (by omega) y⟩)
  ·exact .inr (.inr ⟨r,u,fs,y,λw d=>kn (by omega) (M w d)⟩)
 ·let⟨e,o⟩:=c.st s fs h
  refine⟨e,λf N=>?_⟩
  let⟨i,O,P,Q⟩:=o f N
  have own:∀w,(∃a,Kn D t a w)->∃a,Kn D' t a w:=λw ⟨a,b,x,l,_,m⟩=>⟨b,b,x,l,.refl _,m⟩
  exact⟨i,O,λw d=>own w (P w d),λw d=>own w (Q w d)⟩
end
def ext(hi:Nat)(f:Nat->α)(g:Nat->α):Nat->α:=λb=>if b<=hi then f b else g (b-hi)
def uD(hi:Nat)(f:Nat->List Nat)(g:Nat->List Nat):Nat->List Nat:=λb=>if b<hi then f b else g (b-hi)
theorem mE{f g:Nat->α}(h:b<=hi):ext hi f g b=f b:=by simp_all[ext,if_pos]
theorem iy{k:Nat}{f g:Nat->α}(h:0<k):ext hi f g (hi+k)=g k:=by simp_all[ext,if_neg]
theorem Av{f g:Nat->List Nat}(h:b<hi):uD hi f g b=f b:=by simp_all[uD,if_pos]
theorem lU{k:Nat}{f g:Nat->List Nat}:uD hi f g (hi+k)=g k:=by simp_all[uD,if_neg]
section
variable{D:Nat->Nat}{pr nx:Nat->List Nat}{hi:Nat}
theorem Gh.none(a:Gh D pr nx hi) {b:Nat} (hb:hi<b):qI nx hi b=[]:=My λi h c=>by
 have:=(a.tree i b h c).1;omega
def dF(hi:Nat)(k:Nat):Nat:=hi
def pF(hi k:Nat):List Nat:=if k=3 then[hi+1,hi+2] else[hi]
def nF(hi k:Nat):List Nat:=if k=0 then[hi+1,hi+2] else[hi+3]
theorem Gh.fork(a:Gh D pr nx hi):Gh (ext hi D (dF hi)) (ext hi pr (pF hi)) (uD hi nx (nF hi)) (hi+3):=by
 have j:∀k,0<k->ext hi D (dF hi) (hi+k)=hi:=λk hk=>iy hk;have n0:uD hi nx (nF hi) hi=[hi+1,hi+2]:=lU (k:=0);have o:uD hi nx (nF hi) (hi+1)=[hi+3]:=lU;have q:uD hi nx (nF hi) (hi+2)=[hi+3]:=lU;have e:∀b,b<=hi->ext hi D (dF hi) b=D b:=λb h=>mE h;have Ae:∀i,i<hi->uD hi nx (nF hi) i=nx i:=λi h=>Av h;have f:∀b,qI (uD hi nx (nF hi)) (hi+3) b=qI nx hi b++([hi+1,hi+2].filter (·= b)).map (λ_=>hi)++([hi+3].filter (·= b)).map (λ_=>hi+1)++([hi+3].filter (·= b)).map (λ_=>hi+2):=by simp_all[zi,z9]
 have low:∀b,b<=hi+3->b<=hi\/b=hi+1\/b=hi+2\/b=hi+3:=by omega
 refine⟨λp b hp hb=>?_,λb h0 hb=>?_,λb hb=>?_,λb hb=>?_,λp hp d t ht=>?_⟩
 ·have c:p<hi\/p=hi\/p=hi+1\/p=hi+2:=by omega
  rcases c with h|rfl|rfl|rfl
  ·rw[Ae p h]at hb
   let⟨g,m,n⟩:=a.tree p b h hb
   exact⟨by omega,m,by rw[e b g];exact Em a.down e n (by omega)⟩
  ·rw[n0]at hb;simp at hb;rcases hb with rfl|rfl
   ·exact⟨by omega,by omega,by rw[j 1 (by omega)];exact .refl _⟩
   ·exact⟨by omega,by omega,by rw[j 2 (by omega)];exact .refl _⟩
  ·grind[K7]
  grind[K7]
 ·rcases low b hb with h|rfl|rfl|rfl
  ·rw[e b h];exact a.down b h0 h
  ·simp_all
  ·simp_all
  simp_all
 ·rw [f];rcases low b hb with h|rfl|rfl|rfl
  ·rw[mE h,a.fh b h];have r:¬hi+2=b:=by omega
   grind
  ·rw[iy (by omega),a.none (by omega)];simp[pF]
  ·rw[iy (by omega),a.none (by omega)];simp[pF]
  ·rw[iy (by omega),a.none (by omega)];simp[pF]
 ·let ⟨l,d⟩:=a.reach hi (iZ _)
  have h0:Pn (uD hi nx (nF hi)) (hi+3) hi l:=d.mono (by omega) Ae;have g:Pn (uD hi nx (nF hi)) (hi+3) (hi+1) ((hi+1)::l):= .step h0 (by omega) (by simp_all);rcases low b hb with h|rfl|rfl|rfl
  ·let⟨l',hl'⟩:=a.reach b h
   exact⟨l',hl'.mono (by omega) Ae⟩
  ·grind
  ·exact⟨_,.step h0 (by omega) (by simp_all)⟩
  ·exact⟨_,.step g (by omega) (by simp_all)⟩
 ·have c:p<hi\/p=hi\/p=hi+1\/p=hi+2:=by omega
  rcases c with h|rfl|rfl|rfl
  ·rw[Ae p h]at d ht;rw[mE (a.tree p t h ht).1];exact a.FY p h d t ht
  ·rw[n0]at ht;simp at ht;rcases ht with rfl|rfl
   ·rw[iy (by omega)];rfl
   ·rw[iy (by omega)];rfl
  ·simp_all
  simp_all
def nX(hi k:Nat):List Nat:=if k=0 then[hi+1,hi+2] else[]
def pX(hi _k:Nat):List Nat:=[hi]
theorem Gh.exit(a:Gh D pr nx hi):Gh (ext hi D (dF hi)) (ext hi pr (pX hi)) (uD hi nx (nX hi)) (hi+2):=by
 have g:∀k,0<k->ext hi D (dF hi) (hi+k)=hi:=λk hk=>iy hk;have n0:uD hi nx (nX hi) hi=[hi+1,hi+2]:=lU (k:=0);have o:uD hi nx (nX hi) (hi+1)=[]:=lU;have e:∀b,b<=hi->ext hi D (dF hi) b=D b:=λb h=>mE h;have Ae:∀i,i<hi->uD hi nx (nX hi) i=nx i:=λi h=>Av h;have f:∀b,qI (uD hi nx (nX hi)) (hi+2) b=qI nx hi b++([hi+1,hi+2].filter (·= b)).map (λ_=>hi):=by simp_all[zi,z9]
 have low:∀b,b<=hi+2->b<=hi\/b=hi+1\/b=hi+2:=by omega
 refine⟨λp b hp hb=>?_,λb h0 hb=>?_,λb hb=>?_,λb hb=>?_,λp hp d t ht=>?_⟩
 ·have c:p<hi\/p=hi\/p=hi+1:=by omega
  rcases c with h|rfl|rfl
  ·rw[Ae p h]at hb
   let⟨j,m,n⟩:=a.tree p b h hb
   exact⟨by omega,m,by rw[e b j];exact Em a.down e n (by omega)⟩
  ·rw[n0]at hb;simp at hb;rcases hb with rfl|rfl
   ·exact⟨by omega,by omega,by rw[g 1 (by omega)];exact .refl _⟩
   ·exact⟨by omega,by omega,by rw[g 2 (by omega)];exact .refl _⟩
  simp_all
 ·rcases low b hb with h|rfl|rfl
  ·rw[e b h];exact a.down b h0 h
  ·simp_all
  simp_all
 ·rw [f];rcases low b hb with h|rfl|rfl
  ·rw[mE h,a.fh b h]
   grind
  ·rw[iy (by omega),a.none (by omega)];simp[pX]
  ·rw[iy (by omega),a.none (by omega)];simp[pX]
 ·let ⟨l,d⟩:=a.reach hi (iZ _)
  have h0:Pn (uD hi nx (nX hi)) (hi+2) hi l:=d.mono (by omega) Ae;rcases low b hb with h|rfl|rfl
  ·let⟨l',hl'⟩:=a.reach b h
   exact⟨l',hl'.mono (by omega) Ae⟩
  ·exact⟨_,.step h0 (by omega) (by simp_all)⟩
  ·exact⟨_,.step h0 (by omega) (by simp_all)⟩
 ·have c:p<hi\/p=hi\/p=hi+1:=by omega
  rcases c with h|rfl|rfl
  ·rw[Ae p h]at d ht;rw[mE (a.tree p t h ht).1];exact a.FY p h d t ht
  ·rw[n0]at ht;simp at ht;rcases ht with rfl|rfl
   ·rw[iy (by omega)];rfl
   ·rw[iy (by omega)];rfl
  simp_all
def dL(hi k:Nat):Nat:=if k=1 then hi else hi+1
def pL(hi k:Nat):List Nat:=if k=1 then[hi,hi+2] else[hi+1]
def nL(hi k:Nat):List Nat:=if k=1 then[hi+2,hi+3] else[hi+1]
theorem Gh.loop(a:Gh D pr nx hi):Gh (ext hi D (dL hi)) (ext hi pr (pL hi)) (uD hi nx (nL hi)) (hi+3):=by
 have c:ext hi D (dL hi) (hi+1)=hi:=iy (by omega);have g:ext hi D (dL hi) (hi+2)=hi+1:=iy (by omega);have j:ext hi D (dL hi) (hi+3)=hi+1:=iy (by omega);have n0:uD hi nx (nL hi) hi=[hi+1]:=lU (k:=0);have o:uD hi nx (nL hi) (hi+1)=[hi+2,hi+3]:=lU;have q:uD hi nx (nL hi) (hi+2)=[hi+1]:=lU;have m:∀b,b<=hi->ext hi D (dL hi) b=D b:=λb h=>mE h;have Ae:∀i,i<hi->uD hi nx (nL hi) i=nx i:=λi h=>Av h;have n:∀b,qI (uD hi nx (nL hi)) (hi+3) b=qI nx hi b++([hi+1].filter (·= b)).map (λ_=>hi)++([hi+2,hi+3].filter (·= b)).map (λ_=>hi+1)++([hi+1].filter (·= b)).map (λ_=>hi+2):=by simp_all[zi,z9]
 have low:∀b,b<=hi+3->b<=hi\/b=hi+1\/b=hi+2\/b=hi+3:=by omega
 refine⟨λp b hp hb=>?_,λb h0 hb=>?_,λb hb=>?_,λb hb=>?_,λp hp e t ht=>?_⟩
 ·have d:p<hi\/p=hi\/p=hi+1\/p=hi+2:=by omega
  rcases d with h|rfl|rfl|rfl
  ·rw[Ae p h]at hb
   let⟨f,r,s⟩:=a.tree p b h hb
   exact⟨by omega,r,by rw[m b f];exact Em a.down m s (by omega)⟩
  ·rw[n0]at hb;simp at hb;subst hb;exact⟨by omega,by omega,by rw[c];exact .refl _⟩
  ·rw[o]at hb;simp at hb;rcases hb with rfl|rfl
   ·exact⟨by omega,by omega,by rw[g];exact .refl _⟩
   ·exact⟨by omega,by omega,by rw[j];exact .refl _⟩
  ·rw[q]at hb;simp at hb;subst hb;exact⟨by omega,by omega,by rw[c];exact(K7 (by omega) c).trans (by grind[K7])⟩
 ·rcases low b hb with h|rfl|rfl|rfl
  ·rw[m b h];exact a.down b h0 h
  ·omega
  ·omega
  omega
 ·rw [n];rcases low b hb with h|rfl|rfl|rfl
  ·rw[mE h,a.fh b h];have u:¬hi+1=b:=by omega
   have v:¬hi+2=b:=by omega
   have w:¬hi+3=b:=by omega
   simp_all
  ·rw[iy (by omega),a.none (by omega)];simp[pL]
  ·rw[iy (by omega),a.none (by omega)];simp[pL]
  ·rw[iy (by omega),a.none (by omega)];simp[pL]
 ·let ⟨l,e⟩:=a.reach hi (iZ _)
  have h0:Pn (uD hi nx (nL hi)) (hi+3) hi l:=e.mono (by omega) Ae;have f:Pn (uD hi nx (nL hi)) (hi+3) (hi+1) ((hi+1)::l):= .step h0 (by omega) (by simp_all);rcases low b hb with h|rfl|rfl|rfl
  ·let⟨l',hl'⟩:=a.reach b h
   exact⟨l',hl'.mono (by omega) Ae⟩
  ·grind
  ·exact⟨_,.step f (by omega) (by simp_all)⟩
  ·exact⟨_,.step f (by omega) (by simp_all)⟩
 ·have d:p<hi\/p=hi\/p=hi+1\/p=hi+2:=by omega
  rcases d with h|rfl|rfl|rfl
  ·rw[Ae p h]at e ht;rw[mE (a.tree p t h ht).1];exact a.FY p h e t ht
  ·simp_all
  ·rw[o]at ht;simp at ht;rcases ht with rfl|rfl
   ·rw[iy (by omega)];rfl
   ·rw[iy (by omega)];rfl
  simp_all
end
open Dm
def noE:Nat->Prop:=λ_=>False
def Ok(t:Dt):Prop:=∃D pr nx,Gh D pr nx t.blocks.length/\p8 D pr nx noE t
theorem Ok.fork (ops:List Int) (h:Ok t):Ok (fork ops t):=by
 let⟨D,pr,nx,hG,hM⟩:=h
 generalize a:t.blocks.length=hi at*;have b:=hM.WK (D':=ext hi D (dF hi)) (pr':=ext hi pr (pF hi)) (YK:=uD hi nx (nF hi)) (by simp_all) (by grind[mE]) (by grind[mE]) (by grind[Av])
 let ⟨c,d⟩:=zbe b ops (by rw[a];exact lU (k:=0)) (by rw[a];exact lU) (by rw[a];exact lU) (by rw[a];exact iy (by omega)) (by rw[a];exact iy (by omega)) (by rw[a];exact iy (by omega))
  (by rw[a];exact iy (by omega)) (by rw[a];exact iy (by omega)) (by rw[a];exact iy (by omega))
 exact⟨_,_,_,by rw[d,a];exact hG.fork,c⟩
theorem Ok.exit (ops:List Int) (h:Ok t):Ok (zj ops t):=by
 let⟨D,pr,nx,hG,hM⟩:=h
 generalize a:t.blocks.length=hi at*;have b:=hM.WK (D':=ext hi D (dF hi)) (pr':=ext hi pr (pX hi)) (YK:=uD hi nx (nX hi)) (by simp_all) (by grind[mE]) (by grind[mE]) (by grind[Av])
 let ⟨c,d⟩:=zca b ops (by rw[a];exact lU (k:=0)) (by rw[a];exact lU) (by rw[a];exact iy (by omega)) (by rw[a];exact iy (by omega))
  (by rw[a];exact iy (by omega)) (by rw[a];exact iy (by omega))
 exact⟨_,_,_,by rw[d,a];exact hG.exit,c⟩
theorem Ok.loop (ops:List Int) (h:Ok t):Ok (loop ops t):=by
 let⟨D,pr,nx,hG,hM⟩:=h
 generalize a:t.blocks.length=hi at*;have b:=hM.WK (D':=ext hi D (dL hi)) (pr':=ext hi pr (pL hi)) (YK:=uD hi nx (nL hi)) (by simp_all) (by grind[mE]) (by grind[mE]) (by grind[Av])
 let ⟨c,d⟩:=zaW b ops (by rw[a];exact lU (k:=0)) (by rw[a];exact lU) (by rw[a];exact lU) (by rw[a];exact iy (by omega)) (by rw[a];exact iy (by omega)) (by rw[a];exact iy (by omega))
  (by rw[a];exact iy (by omega)) (by rw[a];exact iy (by omega)) (by rw[a];exact iy (by omega))
 exact⟨_,_,_,by rw[d,a];exact hG.loop,c⟩
theorem Ok.lM(ops:List Int):∀l {t:Dt},Ok t->Ok (lM ops l t)
 |[],_,h=>h
 | k ::l,t,h=>by
   unfold Un.lM;split
   ·refine Ok.lM ops l ?_
    unfold vR;split
    ·exact h.fork ops
    split
    ·exact h.loop ops
    ·exact h.exit ops
   ·exact h
def t0(s:Ds):Dt:=⟨s,[],[]⟩
structure Ps (s:Ds) (i:Nat):Prop where
 ej:s.ej.length=i
 all:∀v x,s.ej[v]? =some x->x=vl 1 0 0 (v:Nat) [] 0
 cur:s.cur=List.range i
 known:s.known=List.range i
 eo:s.eo=[]
theorem PZ:∀n i s,Ps s i->Ps (params n i s) (i+n)
 |0,i,s,h=>h
 | n + 1,i,s,h=>by
   have:=PZ n (i+1) (iO s (vl 1 0 0 (i:Nat) [] 0)) ⟨by simp[iO,h.ej],λv x hv=>?_,by simp[iO];rw[h.cur,h.ej,YN],by simp[iO];rw[h.known,h.ej,YN],h.eo⟩
   ·rw[show i+(n+1)=i+1+n by omega]
    exact this
   ·have a:(s.ej++[vl 1 0 0 (i:Nat) [] 0])[v]? =some x:=hv
    by_cases Nr:v<s.ej.length
    ·rw[VU Nr]at a
     exact h.all v x a
    ·have c:=(jo.1 a).1
     simp at c;have b:v=s.ej.length:=by omega
     subst b;rw[wBR]at a;rw[h.ej]
     simp_all
theorem gh0:Gh (λ_=>0) (λ_=>[]) (λ_=>[]) 0:=
 ⟨by omega,by omega,λb hb=>rfl,λb hb=>by
  obtain rfl:b=0:=by omega
  exact⟨[0],.nil⟩,by omega⟩
theorem ZX{s:Ds}  (h:Ps s n) (m:n<=5):p8 (λ_=>0) (λ_=>[]) (λ_=>[]) noE (t0 (iO s (vl 2 0 0 5 [] 0))):=by
 have c:(t0 (iO s (vl 2 0 0 5 [] 0))).s.ej=s.ej++[vl 2 0 0 5 [] 0]:=rfl;have d:(t0 (iO s (vl 2 0 0 5 [] 0))).s.cur=List.range (n+1):=by
  show s.cur++[s.ej.length]=_;rw[h.cur,h.ej,YN]
 have hlen:(t0 (iO s (vl 2 0 0 5 [] 0))).s.ej.length=n+1:=by rw[c];simp[h.ej]
 have a:∀v x,(t0 (iO s (vl 2 0 0 5 [] 0))).s.ej[v]? =some x->(v<n/\x=vl 1 0 0 (v:Nat) [] 0)\/(v=n/\x=vl 2 0 0 5 [] 0):=λv x hv=>by
  rw[c]at hv;by_cases e:v<s.ej.length
  ·rw[VU e]at hv;exact .inl ⟨by simp_all,h.all v x hv⟩
  grind
 have i:∀v,v<n+1->Ow (t0 (iO s (vl 2 0 0 5 [] 0))) v 0:=λv hv=> .inr ⟨rfl,by simp_all⟩;have j:∀v,v<n+1->Kn (λ_=>0) (t0 (iO s (vl 2 0 0 5 [] 0))) 0 v:=λv hv=>by
  have hx:∃x,(t0 (iO s (vl 2 0 0 5 [] 0))).s.ej[v]? =some x:=by simp_all
  let⟨x,hx⟩:=hx
  refine⟨0,x,i v hv,.refl _,hx,?_⟩;rcases a v x hx with⟨_,rfl⟩|⟨_,rfl⟩ <;> rfl
 refine⟨?_,λv x hv=>?_,λv x hv o=>?_,λb B l=>(by cases l),λst fs hs=>?_,rfl,?_,λw k=>?_⟩
 ·rw[hlen,d];rfl
 ·rcases a v x hv with⟨e,rfl⟩|⟨rfl,rfl⟩
  ·refine⟨by simp[vl],by grind[vl],λ_=>⟨by grind,rfl,by omega⟩,0,by grind,by grind[gG,vl,two,ml],by grind[vl,leaves],λ_ w _ k=>?_⟩
   grind[t0,iO,vl,gN]
  ·exact⟨by simp[vl],by grind[vl],by grind[vl],0,by simp_all,by grind[gG,vl,two,ml],by grind[vl,leaves],by grind[vl,hZ]⟩
 ·rcases a v x hv with⟨_,rfl⟩|⟨_,rfl⟩
  ·grind[vl]
  grind[vl]
 ·have f:s.eo[st]? =some fs:=hs;rw[h.eo]at f;cases f
 ·show s.known++[s.ej.length]≠[];simp
 ·have g:w∈s.known++[s.ej.length]:=k;rw[h.known,h.ej,<-YN]at g;exact j w (Vu.1 g)
theorem Ya(ops a:List Int) (n:Int):Ok (lM ops (a.take 6) ⟨row ops (iO (params (mJ n 5) 0 ⟨[],[],[],[],0⟩) (vl 2 0 0 5 [] 0)),[],[]⟩):=by
 have h0:Ps ⟨[],[],[],[],0⟩ 0:=⟨rfl,by simp_all,rfl,rfl,rfl⟩
 have b:=PZ (mJ n 5) 0 _ h0;rw[C7]at b;have c:=ZX b (by simp_all[Nat.le_of_lt,GU])
 let⟨d,_⟩:=c.row ops
 exact Ok.lM ops _ ⟨_,_,_,gh0,d⟩
open Dm
theorem WG:∀(l:List Bk),(l.flatMap λB=>B.ej).Pairwise (·< ·)->∀(b b' k k':Nat) (B a:Bk) (v d:Nat),l[b]? =some B->l[b']? =some a->B.ej[k]? =some v->a.ej[k']? =some d->(b<b'->v<d)/\(b=b'->k<k'->v<d)
 |[],_,b,_,_,_,_,_,_,_,h,_,_,_=>by simp_all
 | C ::l,hp,b,b',k,k',B,a,v,d,e,c,i,j=>by
   rw[List.flatMap_cons,List.pairwise_append]at hp;obtain⟨p1,p2,p3⟩:=hp
   match b,b',e,c with
   | 0,0,e,c=>
     obtain rfl:C=B:=by simp_all
     obtain rfl:C=a:=by simp_all
     grind[jo,wA6]
   | 0,n+1,e,c=>
     obtain rfl:C=B:=by simp_all
     have f:l[n]? =some a:=by simpa using c
     refine⟨λ_=>p3 v (zD i) d (by grind),by omega⟩
   |n+1,0,e,c=>omega
   | n+1,m+1,e,c=>
     have g:l[n]? =some B:=by simpa using e
     have f:l[m]? =some a:=by simpa using c
     have:=WG l p2 n m k k' B a v d g f i j;omega
section
variable{u:U}(hc:u.blocks.flatMap (λB=>B.ej)=List.range u.ej.length)
include hc
theorem Db{b' k:Nat} (h:At u v b k) (h':At u a b' k'):(b<b'->v<a)/\(b=b'->k<k'->v<a):=by
 obtain⟨B,c,d⟩:=h;obtain⟨e,f,g⟩:=h'
 grind[WG,List.pairwise_lt_range]
theorem W3{b' k:Nat} (h:At u v b k) (h':At u v b' k'):b=b'/\k=k':=by
 have a:=(Db hc h h').1;have c:=(Db hc h' h).1;have hb:b=b':=by
  rcases wB1 b b' with h|h|h
  ·omega
  ·exact h
  ·omega
 have d:=(Db hc h h').2 hb;have e:=(Db hc h' h).2 hb.symm;omega
theorem ZO{k:Nat} (h:At u v b k) (h':At u a b k') (c:v<a):k<k':=by
 rcases wB1 k k' with g|g|g
 ·exact g
 ·subst g;obtain⟨B,d,e⟩:=h;obtain⟨f,i,j⟩:=h'
  simp_all
 ·have:=(Db hc h' h).2 rfl g;omega
theorem Y5 (hv:v<u.ej.length):∃b k,At u v b k:=by
 have:v∈u.blocks.flatMap (λB=>B.ej):=by rw[hc];exact Vu.2 hv
 obtain⟨B,a,c⟩:=UE.1 this;obtain⟨b,hb⟩:=mn.1 a;obtain⟨k,hk⟩:=mn.1 c;exact⟨b,k,B,hb,hk⟩
theorem zfc{k:Nat} (h:At u v b k):v<u.ej.length:=by
 obtain⟨B,a,c⟩:=h;have:v∈u.blocks.flatMap (λB=>B.ej):=by grind
 simp_all
end
theorem Hv(ops:List Int):∀i s l,∃p,(some_ ops i s l).2 = {s with pos:=p}
 |0,s,_=>⟨s.pos,rfl⟩
 |i+1,s,l=>Hv ops i (fQ ops s).2 (l++[(fQ ops s).1])
theorem Eo(ops:List Int) (s:Ds):(fN ops s).2.ej=s.ej/\(fN ops s).2.eo.length=s.eo.length+1/\(fN ops s).2.cur=s.cur:=by
 let⟨p,hp⟩:=Hv ops (num ops s 4).1 (num ops s 4).2 []
 unfold fN;simp only;rw[hp];exact⟨rfl,by simp,rfl⟩
structure Sz (s s':Ds):Prop where
 ej:s.ej.length<=s'.ej.length
 eo:s'.eo.length+s.ej.length<=s.eo.length+s'.ej.length
theorem Sz.refl(s:Ds):Sz s s:=⟨iZ _,iZ _⟩
theorem Sz.trans{s s' e:Ds} (f:Sz s s') (g:Sz s' e):Sz s e:=by
 have a:=f.ej;have b:=g.ej;have c:=f.eo;have d:=g.eo;exact⟨by omega,by omega⟩
theorem zbi(ops:List Int) (s:Ds) (k a b:Nat):(tp ops s k a b).ej.length=s.ej.length+1/\(tp ops s k a b).eo.length<=s.eo.length+1:=by
 grind[Eo,tp,iO,num,put,fQ]
theorem Wk(ops:List Int):∀i s,Sz s (rows ops i s)/\(rows ops i s).ej.length<=max s.ej.length 200
 |0,s=>⟨.refl s,by show s.ej.length<=_;omega⟩
 | i + 1,s=>by
   unfold rows;split
   ·rename_i b
    let⟨c,d⟩:=Wk ops i (vL ops s)
    have a:=zbi ops (num ops (fQ ops (fQ ops s).2).2 20).2 (num ops (fQ ops (fQ ops s).2).2 20).1 (fQ ops s).1 (fQ ops (fQ ops s).2).1;have e:(vL ops s).ej.length=s.ej.length+1:=a.1;have f:(vL ops s).eo.length<=s.eo.length+1:=a.2;exact⟨Sz.trans ⟨by omega,by omega⟩ c,by omega⟩
   ·exact⟨.refl s,by omega⟩
theorem GW(ops:List Int) (s:Ds):Sz s (row ops s)/\(row ops s).ej.length<=max s.ej.length 200:=by
 let⟨a,b⟩:=Wk ops (1+(num ops s 6).1) (num ops s 6).2
 exact⟨⟨a.ej,a.eo⟩,b⟩
structure Big (t:Dt) (m:Nat):Prop where
 ej:t.s.ej.length<=210
 eo:t.s.eo.length<=t.s.ej.length+t.blocks.length
 blocks:t.blocks.length<=m
theorem zaI(ops:List Int) {t:Dt} {m:Nat} (h:Big t m) (hv:t.s.ej.length<160):Big (fork ops t) (m+3):=by
 let⟨v,w,x⟩:=h
 unfold fork;simp only;have a1:=GW ops (end_ {t with s:=(fQ ops t.s).2} 2 (fQ ops t.s).1 [t.blocks.length+1,t.blocks.length+2] 0 [t.blocks.length]).s;generalize o:row ops (end_ {t with s:=(fQ ops t.s).2} 2 (fQ ops t.s).1 [t.blocks.length+1,t.blocks.length+2] 0 [t.blocks.length]).s=b at*;have p:b.eo.length+t.s.ej.length<=t.s.eo.length+b.ej.length:=a1.1.eo;have q:b.ej.length<=max t.s.ej.length 200:=a1.2;generalize d:end_ {s:=cut t.s.known.length b,blocks:=(end_ {t with s:=(fQ ops t.s).2} 2 (fQ ops t.s).1 [t.blocks.length+1,t.blocks.length+2] 0 [t.blocks.length]).blocks,fh:=(end_ {t with s:=(fQ ops t.s).2} 2 (fQ ops t.s).1 [t.blocks.length+1,t.blocks.length+2] 0 [t.blocks.length]).fh} 1 0 [t.blocks.length+3] 0 [t.blocks.length]=a at*;have b2:a.blocks.length=t.blocks.length+2:=by rw[<-d];simp[end_]
 have r:a.s.ej=b.ej:=by rw[<-d];rfl
 have u:a.s.eo=b.eo:=by rw[<-d];rfl
 have a2:=GW ops a.s;generalize row ops a.s=c at*;have g:=a2.1.ej;have e:=a2.1.eo;have i:=a2.2;rw[r]at g e i;rw[u]at e;have a3:=GW ops (iO (end_ {s:=cut t.s.known.length c,blocks:=a.blocks,fh:=a.fh} 1 0 [t.blocks.length+3] 0 [t.blocks.length+1,t.blocks.length+2]).s (vl 21 0 0 0 [b.known.getLastD 0,c.known.getLastD 0] 0));have j:(iO (end_ {s:=cut t.s.known.length c,blocks:=a.blocks,fh:=a.fh} 1 0 [t.blocks.length+3] 0 [t.blocks.length+1,t.blocks.length+2]).s (vl 21 0 0 0 [b.known.getLastD 0,c.known.getLastD 0] 0)).ej.length=c.ej.length+1:=by simp[iO,end_,cut]
 have k:(iO (end_ {s:=cut t.s.known.length c,blocks:=a.blocks,fh:=a.fh} 1 0 [t.blocks.length+3] 0 [t.blocks.length+1,t.blocks.length+2]).s (vl 21 0 0 0 [b.known.getLastD 0,c.known.getLastD 0] 0)).eo.length=c.eo.length:=by simp[iO,end_,cut]
 have l:=a3.1.ej;have f:=a3.1.eo;have n:=a3.2;rw[j]at l f n;rw[k]at f;refine⟨?_,?_,?_⟩
 ·grind
 ·show(row ops _).eo.length<=(row ops _).ej.length+(a.blocks++[_]).length
  grind
 ·show(a.blocks++[_]).length<=m+3
  simp_all
theorem YW(ops:List Int) {t:Dt} {m:Nat} (h:Big t m) (hv:t.s.ej.length<160):Big (zj ops t) (m+3):=by
 let⟨p,q,r⟩:=h
 unfold zj;simp only;have a1:=GW ops (end_ {t with s:=(fQ ops t.s).2} 2 (fQ ops t.s).1 [t.blocks.length+1,t.blocks.length+2] 0 [t.blocks.length]).s;generalize g:row ops (end_ {t with s:=(fQ ops t.s).2} 2 (fQ ops t.s).1 [t.blocks.length+1,t.blocks.length+2] 0 [t.blocks.length]).s=a at*;have i:a.eo.length+t.s.ej.length<=t.s.eo.length+a.ej.length:=a1.1.eo;have j:a.ej.length<=max t.s.ej.length 200:=a1.2
 let⟨k,l,_⟩:=Eo ops a
 generalize b:end_ {s:=cut t.s.known.length (fN ops a).2,blocks:=(end_ {t with s:=(fQ ops t.s).2} 2 (fQ ops t.s).1 [t.blocks.length+1,t.blocks.length+2] 0 [t.blocks.length]).blocks,fh:=(end_ {t with s:=(fQ ops t.s).2} 2 (fQ ops t.s).1 [t.blocks.length+1,t.blocks.length+2] 0 [t.blocks.length]).fh} 3 0 [] (fN ops a).1 [t.blocks.length]=d at*;have b2:d.blocks.length=t.blocks.length+2:=by rw[<-b];simp[end_]
 have n:d.s.ej=a.ej:=by rw[<-b];exact k
 have o:d.s.eo.length=a.eo.length+1:=by rw[<-b];exact l
 have a2:=GW ops d.s;have e:=a2.1.ej;have c:=a2.1.eo;have f:=a2.2;rw[n]at e c f;rw[o]at c;refine⟨?_,?_,?_⟩
 ·grind
 ·grind
 grind
theorem E6(s:Ds)(v:Nat)(args:List Nat):(setArgs s v args).ej.length=s.ej.length/\(setArgs s v args).eo=s.eo:=⟨by simp[setArgs,List.length_modify],rfl⟩
theorem Zv(ops:List Int) {t:Dt} {m:Nat} (h:Big t m) (hv:t.s.ej.length<160):Big (loop ops t) (m+3):=by
 let⟨G,H,I⟩:=h
 unfold loop;simp only;generalize e:end_ {t with s:=(fQ ops t.s).2} 1 0 [t.blocks.length+1] 0 [t.blocks.length,t.blocks.length+2]=b at*;have b1:b.blocks.length=t.blocks.length+1:=by rw[<-e];simp[end_]
 have x:b.s.ej=t.s.ej:=by rw[<-e];rfl
 have y:b.s.eo=t.s.eo:=by rw[<-e];rfl
 generalize i:({put (fQ ops (put b.s (vl 21 0 0 0 [(fQ ops t.s).1,0] 0))).2 (vl 21 0 0 0 [(fQ ops (put b.s (vl 21 0 0 0 [(fQ ops t.s).1,0] 0))).1,b.s.ej.length] 0)with known:=(put (fQ ops (put b.s (vl 21 0 0 0 [(fQ ops t.s).1,0] 0))).2 (vl 21 0 0 0 [(fQ ops (put b.s (vl 21 0 0 0 [(fQ ops t.s).1,0] 0))).1,b.s.ej.length] 0)).known++[b.s.ej.length,b.s.ej.length+1]}:Ds)=f at*;have z:f.ej.length=t.s.ej.length+2:=by rw[<-i,<-x];simp[put,fQ]
 have n:f.eo=t.s.eo:=by rw[<-i,<-y];rfl
 let⟨A,B,_⟩:=Eo ops f
 generalize j:iO (put (put (fN ops f).2 (vl 23 0 0 0 [] (fN ops f).1)) (vl 2 0 0 1 [] 0)) (vl 4 b.s.ej.length (put (fN ops f).2 (vl 23 0 0 0 [] (fN ops f).1)).ej.length 0 [] 0)=d at*;have J:d.ej.length=t.s.ej.length+5:=by rw[<-j];simp[iO,put,A,z]
 have C:d.eo.length=t.s.eo.length+1:=by rw[<-j,<-n,<-B];rfl
 generalize g:end_ {s:=d,blocks:=b.blocks,fh:=b.fh} 2 b.s.ej.length [t.blocks.length+2,t.blocks.length+3] 0 [t.blocks.length+1]=c at*;have b2:c.blocks.length=t.blocks.length+2:=by rw[<-g];simp[end_,b1]
 have D:c.s.ej=d.ej:=by rw[<-g];rfl
 have o:c.s.eo=d.eo:=by rw[<-g];rfl
 have a1:=GW ops c.s;generalize row ops c.s=w at*;have p:=a1.1.ej;have k:=a1.1.eo;have q:=a1.2;rw[D]at p k q;rw[o]at k;have r:∀a,a.ej.length=w.ej.length->a.eo=w.eo->Big {s:=row ops (end_ {s:=cut d.known.length a,blocks:=c.blocks,fh:=c.fh} 1 0 [t.blocks.length+1] 0 [t.blocks.length+1]).s,blocks:=(end_ {s:=cut d.known.length a,blocks:=c.blocks,fh:=c.fh} 1 0 [t.blocks.length+1] 0 [t.blocks.length+1]).blocks,fh:=(end_ {s:=cut d.known.length a,blocks:=c.blocks,fh:=c.fh} 1 0 [t.blocks.length+1] 0 [t.blocks.length+1]).fh} (m+3):=by
  intro a E F;have a2:=GW ops (end_ {s:=cut d.known.length a,blocks:=c.blocks,fh:=c.fh} 1 0 [t.blocks.length+1] 0 [t.blocks.length+1]).s;have u:a.ej.length<=_:=a2.1.ej;have l:_+a.ej.length<=a.eo.length+_:=a2.1.eo;have v:_<=max a.ej.length 200:=a2.2;rw[E]at u l v;rw[F]at l;refine⟨?_,?_,?_⟩
  ·grind
  ·show(row ops _).eo.length<=(row ops _).ej.length+(c.blocks++[_]).length
   grind
  ·show(c.blocks++[_]).length<=m+3
   simp_all
 refine r _ ?_ ?_
 ·rw[(E6 _ _ _).1];split
  ·rw[(E6 _ _ _).1];exact(E6 _ _ _).1
  ·exact(E6 _ _ _).1
 ·rw[(E6 _ _ _).2];split
  ·rfl
  ·rfl
theorem Oc(ops:List Int):∀l {t:Dt} {m:Nat},Big t m->Big (lM ops l t) (m+3*l.length)
 |[],t,m,h=>h
 | k ::l,t,m,h=>by
   unfold lM;split
   ·rename_i hv
    have a:Big (vR ops (mJ k 3) t) (m+3):=by
      unfold vR;split
      ·grind[zaI]
      split
      ·grind[Zv]
      ·grind[YW]
    have:=Oc ops l a
    grind
   ·exact⟨h.ej,h.eo,by have:=h.blocks;omega⟩
open Dm
theorem zbP (ops:List Int) (h:Ok t):∃D pr nx,Gh D pr nx t.blocks.length/\nx t.blocks.length=[]/\p8 D pr nx noE (end_ (on t (fN ops t.s).2) 3 0 [] (fN ops t.s).1 []):=by
 let⟨D,pr,nx,hG,hM⟩:=h
 generalize m:t.blocks.length=hi at*;have c:∀b,b<=hi->ext hi D (dF hi) b=D b:=λb h=>mE h;have Ae:∀i,i<hi->uD hi nx (λ_=>[]) i=nx i:=λi h=>Av h;have n:Gh (ext hi D (dF hi)) (ext hi pr λ_=>[]) (uD hi nx λ_=>[]) hi:=by
  refine⟨λp b hp hb=>?_,λb h0 hb=>?_,λb hb=>?_,λb hb=>?_,λp hp a u d=>?_⟩
  ·rw[Ae p hp]at hb
   let⟨g,o,q⟩:=hG.tree p b hp hb
   exact⟨g,o,by rw[c b g];exact Em hG.down c q (by omega)⟩
  ·rw[c b hb];exact hG.down b h0 hb
  ·rw[mE hb,hG.fh b hb,z9 hi b Ae]
  ·let⟨l,a⟩:=hG.reach b hb
   exact⟨l,a.mono (iZ _) Ae⟩
  ·rw[Ae p hp]at a d;rw[mE (hG.tree p u hp d).1];exact hG.FY p hp a u d
 have e:=hM.WK (D':=ext hi D (dF hi)) (pr':=ext hi pr λ_=>[]) (YK:=uD hi nx λ_=>[]) (by simp_all) (by simp_all) (by grind[mE]) (by simp_all);have n0:uD hi nx (λ_=>[]) hi=[]:=lU (k:=0)
 let⟨f,v,hk,_,_,fs,r,x⟩:=e.state ops
 have b1:(on t (fN ops t.s).2).blocks.length=hi:=m
 let ⟨y,_⟩:=f.end_ (cond:=0) (fh:=[]) (by simp_all) (by grind[iy,List])
  (.inr (.inr ⟨rfl,rfl,fs,r,λw j=>f.kn w (by show w∈(fN ops t.s).2.known;simp_all)⟩))
  (λw j=>(f.kn w j).up (by rw[b1];exact K7 (by omega) (iy (by omega))))
 grind
theorem zaQ{D:Nat->Nat} {pr:Nat->List Nat}   (H:Gh D pr nx hi) (hn:nx hi=[]) (d:p8 D pr nx noE t) (hb:t.blocks.length=hi+1) (N:t.s.cur=[]) (hv:t.s.ej.length<=3000) (hs:t.s.eo.length<=1000) (R:t.blocks.length<=300) (f p:Int) :
  Good ⟨f,p,t.s.ej,t.blocks,t.s.eo⟩:=by
 have hc:t.blocks.flatMap (λB=>B.ej)=List.range t.s.ej.length:=by
  have:=d.cat
  rw[N,Lg]at this;exact this
 have own:∀{v b},Ow t v b->∃k,At ⟨f,p,t.s.ej,t.blocks,t.s.eo⟩ v b k:=λh=>by
  rcases h with⟨B,n,m⟩|⟨_,m⟩
  ·let⟨k,hk⟩:=mn.1 m
   exact⟨k,B,n,hk⟩
  simp_all
 have ac:∀{v b},Ow t v b->b<t.blocks.length:=λh=>by
  rcases h with⟨B,n,_⟩|⟨_,m⟩
  ·grind
  simp_all
 have z:∀{v b k},At ⟨f,p,t.s.ej,t.blocks,t.s.eo⟩ v b k->Ow t v b:=λ⟨B,n,m⟩=> .inl ⟨B,n,zD m⟩;have ad:∀b,b<t.blocks.length->next ⟨f,p,t.s.ej,t.blocks,t.s.eo⟩ b=nx b:=λb h=>by
  have e:=gN h;unfold next
  simp[e];exact(d.bk b _ e).1
 have ae:∀b,¬b<t.blocks.length->next ⟨f,p,t.s.ej,t.blocks,t.s.eo⟩ b=[]:=by grind[next,Q9]
 have BK:∀q b,b∈next ⟨f,p,t.s.ej,t.blocks,t.s.eo⟩ q->q<hi/\b∈nx q:=λq b h=>by
  grind
 have I:∀{x b},qD D x b->mz (next ⟨f,p,t.s.ej,t.blocks,t.s.eo⟩) x b:=λh l O=>K0 (λq b hb _=>(H.tree q b (by grind) (by simp_all)).2.2) O h;have zdv:∀{a w},Kn D t a w->mq ⟨f,p,t.s.ej,t.blocks,t.s.eo⟩ w:=λ⟨_,x,_,_,E,K⟩=>⟨x,E,K⟩
 have G:∀{a w},Kn D t a w->sP ⟨f,p,t.s.ej,t.blocks,t.s.eo⟩ w a:=λ⟨b,x,n,m,_⟩=>let⟨k,hk⟩:=own n;⟨b,k,hk,I m⟩
 have Z:∀{v w b k},At ⟨f,p,t.s.ej,t.blocks,t.s.eo⟩ v b k->w<v->Kn D t b w->qw ⟨f,p,t.s.ej,t.blocks,t.s.eo⟩ w b k:=λ{v w b k} hv o ⟨c,x,n,m,_⟩=>by
  let⟨j,hj⟩:=own n
  by_cases e:c=b
  ·subst e;exact⟨c,j,hj,.inl ⟨rfl,ZO hc hj hv o⟩⟩
  ·exact⟨c,j,hj,.inr ⟨e,I m⟩⟩
 have A:∀{v b b'},Ow t v b->Ow t v b'->b=b':=λh h'=>by
  let⟨k,hk⟩:=own h
  let⟨k',hk'⟩:=own h'
  exact(W3 hc hk hk').1
 have L:∀b,ahead ⟨f,p,t.s.ej,t.blocks,t.s.eo⟩ b=qI nx hi b:=λb=>by
  have S:∀l i,(∀k B,l[k]? =some B->B.next=nx (i+k))->jK l i b=((List.range' i l.length).flatMap λq=>((nx q).filter (·= b)).map λ_=>q):=by
   intro l
   induction l with
   |nil=>intro i _;rfl
   | cons B l T=>
     intro i h;have h0:=h 0 B rfl;rw[Nat.add_zero]at h0;rw[VS,List.range'_succ,List.flatMap_cons];unfold jK;rw[h0,T (i+1) λk B U=>by rw[show i+1+k=i+(k+1) by omega];exact h (k+1) B U]
  unfold ahead;rw[S t.blocks 0 λk B U=>by rw[C7];exact(d.bk k B U).1];have e:List.range' 0 t.blocks.length=List.range t.blocks.length:=(List.range_eq_range').symm;rw[ hb];have:=zi nx hi b
  grind[qI]
 refine{nv:=hv,I5:=by simp_all,nb:=R,ns:=hs,st:=?_,B6:=by simp_all[Y5],Ao:=λv b k b' k' h h'=>W3 hc h h',iM:=λv b k h=>zfc hc h,yD:=?_,par:=?_,Cd:=?_,op:=λv x h=>(d.MP v x h).op,use:=?_,leave:=?_,putAt:=λv x h=>(d.MP v x h).putAt,param:=?_,fin:=?_,nx:=?_,fh:=?_,zG:=?_,FY:=?_,reach:=?_,yo:=?_,AU:=?_,Dv:=?_,Ay:=?_,Dp:=?_}
 ·intro s fs h
  let⟨r,F⟩:=d.st s fs h
  grind
 ·intro v w b k x y n m E K h5
  let⟨c,r,_,_,g4⟩:=(d.MP v x E).own
  obtain rfl:=A r (z n);have o:w<v:=(Db hc m n).2 rfl (Pf _)
  grind
 ·intro v b k x n m E;exact A (z n) ((d.MP v x m).par E).1
 ·intro v b k x B n m E K
  let⟨c,r,F,C⟩:=d.ph v x m E
  obtain rfl:=A r (z n);exact⟨F,by rw[(d.bk c B K).2.1];exact(C id).1⟩
 ·intro v x h w M;by_cases P:x.op=21
  ·let⟨c,r,F,C⟩:=d.ph v x h P
   have V:w∈x.args:=by unfold gG at M;rw[if_pos P]at M;exact M
   let⟨j,hj⟩:=mn.1 V
   have o:=(jo.1 hj).1;rw[(C id).1]at o;exact zdv ((C id).2 j w _ hj (gN o))
  ·let⟨c,r,F,_⟩:=(d.MP v x h).own
   grind
 ·intro v x h O
  let⟨c,r,_,C,_⟩:=(d.MP v x h).own
  grind
 ·intro v x h n
  let⟨r,F,C⟩:=(d.MP v x h).par n
  refine⟨by omega,by omega,λw y hy W he=>?_⟩
  let⟨_,k2,_⟩:=(d.MP w y hy).par W
  omega
 ·intro b B h;rcases(d.bk b B h).2.2 with g|⟨r,F,C⟩|⟨r,F,fs,C,_⟩
  ·omega
  ·grind
  grind
 ·intro b u X
  let⟨r,F⟩:=BK b u X
  have:=(H.tree b u r F).1
  grind
 ·intro b B h;have o:=(jo.1 h).1;rw[(d.bk b B h).2.1,L,H.fh b (by grind)]
 ·rw[L];exact My λi Y hm=>(H.tree i 0 Y hm).2.1 rfl
 ·intro b B h m u X;have o:b<t.blocks.length:=by grind
  have e:=(d.bk b B h).1;have Q:u∈nx b:=by rw[<-e];exact X
  have J:b<hi:=by
   by_cases e2:b=hi
   ·simp_all
   ·omega
  have O:(nx b).length=2:=by
   rw[<-e];rcases(d.bk b B h).2.2 with g|⟨_,F,_⟩|⟨r,_⟩
   ·omega
   ·exact F
   ·omega
  rw[L,<-H.fh u (H.tree b u J Q).1];exact H.FY b J O u Q
 ·intro b o;have aa:b<t.blocks.length:=o
  let⟨l,O⟩:=H.reach b (by omega)
  have ab:∀{b l},Pn nx hi b l->Pt (next ⟨f,p,t.s.ej,t.blocks,t.s.eo⟩) b l:=by
   intro b l h
   induction h with
   |nil=>exact .nil
   |step _ hp e T=>exact .step T (by grind)
  grind
 ·intro v b k x n m E w M
  let⟨c,r,F,_⟩:=(d.MP v x m).own
  grind
 ·intro v b k x B n m E K j w q h5 h6
  let⟨c,r,_,C⟩:=d.ph v x m E
  obtain rfl:=A r (z n);rw[(d.bk c B K).2.1]at h6;exact G ((C id).2 j w q h5 h6)
 ·intro v b k x fs n m E K w M
  let⟨c,r,_,C,_⟩:=(d.MP v x m).own
  grind
 ·intro b B h m;rcases(d.bk b B h).2.2 with g|⟨_,_,C⟩|⟨r,_⟩
  ·omega
  ·simp_all
  ·omega
 ·intro b B fs h m E w M;rcases(d.bk b B h).2.2 with g|⟨r,_,_⟩|⟨_,_,ag,C,g4⟩
  ·omega
  ·omega
  simp_all
theorem Qx:∀n i s,(params n i s).ej.length=s.ej.length+n/\(params n i s).eo=s.eo
 |0,_,_=>⟨rfl,rfl⟩
 | n+1,i,s=>by
   let⟨a,b⟩:=Qx n (i+1) (iO s (vl 1 0 0 (i:Nat) [] 0))
   grind[params,iO]
theorem XW(ops c:List Int) (n:Int):Good (IZ ops c n):=by
 have d:=Ya ops c n;have hp:=Qx (mJ n 5) 0 ⟨[],[],[],[],0⟩;have g:=GU n (m:=5) (by omega)
 let⟨f,h⟩:=GW ops (iO (params (mJ n 5) 0 ⟨[],[],[],[],0⟩) (vl 2 0 0 5 [] 0))
 have i:(iO (params (mJ n 5) 0 ⟨[],[],[],[],0⟩) (vl 2 0 0 5 [] 0)).ej.length=mJ n 5+1:=by
  simp only[iO,Lw,hp.1];simp
 have j:(iO (params (mJ n 5) 0 ⟨[],[],[],[],0⟩) (vl 2 0 0 5 [] 0)).eo=[]:=hp.2;have e:Big ⟨row ops (iO (params (mJ n 5) 0 ⟨[],[],[],[],0⟩) (vl 2 0 0 5 [] 0)),[],[]⟩ 0:=by
  have a:=f.ej;have b:=f.eo;rw[i]at a b h;rw[j]at b;refine⟨by grind,?_,iZ _⟩;show(row ops _).eo.length<=(row ops _).ej.length+0;simp at b;omega
 have hb:=Oc ops (c.take 6) e;have hlen:(c.take 6).length<=6:=by rw[Pw];omega
 unfold IZ;simp only;generalize lM ops (c.take 6) ⟨row ops (iO (params (mJ n 5) 0 ⟨[],[],[],[],0⟩) (vl 2 0 0 5 [] 0)),[],[]⟩=t at*
 let⟨D,pr,nx,hG,hn,hM⟩:=zbP ops d
 let⟨k,l,_⟩:=Eo ops t.s
 have v:=hb.ej;have s:=hb.eo;have bl:=hb.blocks;refine zaQ hG hn hM (by simp[end_,on]) rfl ?_ ?_ ?_ 1 2
 ·show(fN ops t.s).2.ej.length<=3000
  grind
 ·show(fN ops t.s).2.eo.length<=1000;omega
 ·show(t.blocks++[_]).length<=300
  grind
open Dm
def zcN(u:U) (v:Nat):Bool:=match u.ej[v]? with
 |some x=>hZ x.op
 |none=>false
def ZR(u:U) (b:Nat):List Nat:=match u.blocks[b]? with
 |some B=>B.ej
 |none=>[]
def zdw(u:U)(t w:Nat):Prop:=w∈ZR u t/\zcN u w=true
def Tz(u:U) (s:Nat):List Nat:=match u.eo[s]? with
 |some fs=>gL fs
 |none=>[]
def zfg(u:U) (v:Nat):List Nat:=match u.ej[v]? with
 |some x=>gG x++(if leaves x.op=true then Tz u x.state else[])
 |none=>[]
def ln(In H:Nat->Nat->Prop):List Nat->(Nat->Prop)->Nat->Prop
 |[],P=>P
 |t::ts,P=>ln In H ts λw=>(P w\/In t w)/\¬H t w
def zaV(u:U)(b w:Nat):Prop:=∃t∈next u b,∃(B:Bk) (v:Nat) (x:Vl) (j:Nat),u.blocks[t]? =some B/\v∈B.ej/\u.ej[v]? =some x/\x.op=21/\B.fh[j]? =some b/\x.args[j]? =some w
def zb5(u:U)(b w:Nat):Prop:=∃B,u.blocks[b]? =some B/\(B.fin=2/\w=B.cond\/B.fin=3/\w∈Tz u B.state)
def zfl(u:U)(H In:Nat->Nat->Prop)(b w:Nat):Prop:=ln In H (next u b) (λ_=>False) w\/zaV u b w\/zb5 u b w
def bk(u:U):List Nat->(Nat->Prop)->Nat->Prop
 |[],P=>P
 |v::r,P=>if zcN u v=true then P else bk u r λw=>(P w/\w≠v)\/w∈zfg u v
def zcS(u:U)(b:Nat)(O:Nat->Prop):Nat->Prop:=bk u (ZR u b).reverse O
def Tr(u:U)(H In:Nat->Nat->Prop)(b:Nat):Nat->Prop:=zcS u b (zfl u H In b)
structure zgS (u:U) (H In:Nat->Nat->Prop):Prop where
 up:∀b w,In b w->Tr u H In b w
 least:∀X,(∀b w,b<u.blocks.length->Tr u H X b w->X b w)->∀b w,In b w->X b w
structure zfN (u:U) (H In Out:Nat->Nat->Prop):Prop where
 out:∀b w,b<u.blocks.length->(Out b w↔zfl u H In b w)
 Nn:∀b w,b<u.blocks.length->(In b w↔zcS u b (Out b) w)
 least:∀X,(∀b w,b<u.blocks.length->Tr u H X b w->X b w)->∀b w,In b w->X b w
section
variable{u:U}(g:Good u)
include g
theorem Good.zar{p:Nat} (h:b∈next u p):p<u.blocks.length/\b<u.blocks.length/\b≠0:=by
 refine⟨?_,g.nx p b h,λe=>?_⟩
 ·grind[next,jo]
 ·subst e;have:=wG.2 h;rw[g.zG]at this;cases this
variable{In Out:Nat->Nat->Prop}(h:zfN u (zdw u) In Out)
include h
end
