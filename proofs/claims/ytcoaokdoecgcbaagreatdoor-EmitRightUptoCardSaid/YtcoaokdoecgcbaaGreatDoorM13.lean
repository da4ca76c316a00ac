/- Parts. -/
import Derived.Test.YtcoaokdoecgcbaaGreatDoorM12
set_option maxHeartbeats 4000000
namespace Go.Proofs.YtcoaokdoecgcbaaGreatDoor.Un
open Dm
def pM(nx:Nat->List Nat)(n b:Nat):List Nat:=(List.range n).flatMap λi=>((nx i).filter (·= b)).map λ_=>i
theorem xk(nx:Nat->List Nat) (n b:Nat):pM nx (n+1) b=pM nx n b++((nx n).filter (·= b)).map λ_=>n:=by
 grind[pM,wBf]
theorem zs{nx X0:Nat->List Nat} (n b:Nat) (h:∀i,i<n->X0 i=nx i):pM X0 n b=pM nx n b:=by
 induction n with
 |zero=>rfl
 |succ n a=>grind[xk]
theorem M5{nx:Nat->List Nat} {n b q:Nat}:q∈pM nx n b↔q<n/\b∈nx q:=by
 unfold pM
 simp_all
theorem LZ{nx:Nat->List Nat} {n b:Nat} (h:∀i,i<n->b ∉ nx i):pM nx n b=[]:=by
 simp_all[List.eq_nil_iff_forall_not_mem,M5]
inductive Pn (nx:Nat->List Nat) (n:Nat):Nat->List Nat->Prop
 |nil:Pn nx n 0 [0]
 |step {p b:Nat} {l:List Nat} (h:Pn nx n p l) (a:p<n) (e:b∈nx p):Pn nx n b (b::l)
theorem Pn.mono{nx X0:Nat->List Nat} {n a:Nat} (c:n<=a) (d:∀i,i<n->X0 i=nx i):∀{b l},Pn nx n b l->Pn X0 a b l
 |_,_,.nil=> .nil
 |_,_,.step h hp e=> .step (h.mono c d) (by omega) (by simp_all)
structure Gh (D:Nat->Nat) (pr nx:Nat->List Nat) (hi:Nat):Prop where
 tree:∀p b,p<hi->b∈nx p->b<=hi/\b≠0/\qd D (D b) p
 down:∀b,b≠0->b<=hi->D b<b
 fu:∀b,b<=hi->pr b=pM nx hi b
 reach:∀b,b<=hi->∃l,Pn nx hi b l
 Tk:∀p,p<hi->(nx p).length=2->∀t∈nx p,(pr t).length=1
theorem Cd{D D':Nat->Nat} {hi:Nat} (hd:∀b,b≠0->b<=hi->D b<b) (c:∀b,b<=hi->D' b=D b) {x b:Nat} (h:qd D x b):b<=hi->qd D' x b:=by
 induction h with
 |refl=>exact λ_=> .refl _
 | up h0 _ d=>
   rename_i b _;intro a;have:=hd b h0 a;exact .up h0 (by grind)
theorem zbx{t:Dt} {v b:Nat} (h:Ow t v b):b<=t.blocks.length:=by
 rcases h with⟨B,a,_⟩|⟨a,_⟩
 ·grind
 ·omega
section
variable{D D':Nat->Nat}{pr nx pr' X0:Nat->List Nat}{E:Nat->Prop}{t:Dt}
theorem pe.VW(c:pe D pr nx E t) (z:Gh D pr nx t.blocks.length) (p:∀b,b<=t.blocks.length->D' b=D b) (k:∀b,b<=t.blocks.length->pr' b=pr b) (F:∀b,b<t.blocks.length->X0 b=nx b):pe D' pr' X0 E t:=by
 have kn:∀{a w},a<=t.blocks.length->Kn D t a w->Kn D' t a w:=λG ⟨b,x,l,A,m⟩=>⟨b,x,l,Cd z.down p A G,m⟩
 refine⟨c.cat,λv x h=>?_,λv x h H=>?_,λb B h=>?_,λs fs h=>?_,by rw[k _ (jv _)];exact c.pc,c.ne,λw d=>kn (jv _) (c.kn w d)⟩
 ·have n:=c.Ml v x h
  let⟨b,l,A,m,I⟩:=n.own
  refine⟨n.op,n.putAt,n.par,b,l,by grind[zbx],λhl=>?_,I⟩
  grind[zbx]
 ·let⟨b,e,o,i⟩:=c.ph v x h H
  refine⟨b,e,o,λC=>?_⟩;rw[k b (zbx e)];refine⟨(i C).1,λj w q e1 e2=>kn ?_ ((i C).2 j w q e1 e2)⟩;have:=zQ e2;rw[z.fu b (zbx e)]at this
  grind[M5]
 ·have J:=(kE.1 h).1
  let⟨e,o,i⟩:=c.bk b B h
  refine⟨by simp_all,by grind,?_⟩;rcases i with g|⟨r,u,y⟩|⟨r,u,fs,y,K⟩
  ·exact .inl g
  ·exact .inr (.inl ⟨r,u,kn (by omega) y⟩)
  ·exact .inr (.inr ⟨r,u,fs,y,λw d=>kn (by omega) (K w d)⟩)
 ·let⟨e,o⟩:=c.st s fs h
  refine⟨e,λf L=>?_⟩
  let⟨i,M,N,O⟩:=o f L
  have own:∀w,(∃a,Kn D t a w)->∃a,Kn D' t a w:=λw ⟨a,b,x,l,_,m⟩=>⟨b,b,x,l,.refl _,m⟩
  exact⟨i,M,λw d=>own w (N w d),λw d=>own w (O w d)⟩
end
def ext{α:Type}(hi:Nat)(f:Nat->α)(g:Nat->α):Nat->α:=λb=>if b<=hi then f b else g (b-hi)
def rB(hi:Nat)(f:Nat->List Nat)(g:Nat->List Nat):Nat->List Nat:=λb=>if b<hi then f b else g (b-hi)
theorem mh{α:Type}{hi b:Nat}{f g:Nat->α}(h:b<=hi):ext hi f g b=f b:=by simp_all[ext,if_pos]
theorem hX{α:Type}{hi k:Nat}{f g:Nat->α}(h:0<k):ext hi f g (hi+k)=g k:=by simp_all[ext,if_neg]
theorem Ab{hi b:Nat}{f g:Nat->List Nat}(h:b<hi):rB hi f g b=f b:=by simp_all[rB,if_pos]
theorem lC{hi k:Nat}{f g:Nat->List Nat}:rB hi f g (hi+k)=g k:=by simp_all[rB,if_neg]
section
variable{D:Nat->Nat}{pr nx:Nat->List Nat}{hi:Nat}
theorem Gh.none(a:Gh D pr nx hi) {b:Nat} (d:hi<b):pM nx hi b=[]:=LZ λi h c=>by
 have:=(a.tree i b h c).1;omega
def dF(hi:Nat)(k:Nat):Nat:=hi
def pF(hi k:Nat):List Nat:=if k=3 then[hi+1,hi+2] else[hi]
def nF(hi k:Nat):List Nat:=if k=0 then[hi+1,hi+2] else[hi+3]
theorem Gh.fork(a:Gh D pr nx hi):Gh (ext hi D (dF hi)) (ext hi pr (pF hi)) (rB hi nx (nF hi)) (hi+3):=by
 have dn:∀k,0<k->ext hi D (dF hi) (hi+k)=hi:=λk n=>hX n;have m:rB hi nx (nF hi) hi=[hi+1,hi+2]:=lC (k:=0);have s:rB hi nx (nF hi) (hi+1)=[hi+3]:=lC;have u:rB hi nx (nF hi) (hi+2)=[hi+3]:=lC;have f:∀b,b<=hi->ext hi D (dF hi) b=D b:=λb h=>mh h;have vJ:∀i,i<hi->rB hi nx (nF hi) i=nx i:=λi h=>Ab h;have g:∀b,pM (rB hi nx (nF hi)) (hi+3) b=pM nx hi b++([hi+1,hi+2].filter (·= b)).map (λ_=>hi)++([hi+3].filter (·= b)).map (λ_=>hi+1)++([hi+3].filter (·= b)).map (λ_=>hi+2):=by simp_all[xk,zs]
 have low:∀b,b<=hi+3->b<=hi\/b=hi+1\/b=hi+2\/b=hi+3:=by omega
 refine⟨λp b o c=>?_,λb h0 c=>?_,λb c=>?_,λb c=>?_,λp o hl t e=>?_⟩
 ·have d:p<hi\/p=hi\/p=hi+1\/p=hi+2:=by omega
  rcases d with h|rfl|rfl|rfl
  ·rw[vJ p h]at c
   let⟨j,q,r⟩:=a.tree p b h c
   exact⟨by omega,q,by rw[f b j];exact Cd a.down f r (by omega)⟩
  ·rw[m]at c;simp at c;rcases c with rfl|rfl
   ·exact⟨by omega,by omega,by rw[dn 1 (by omega)];exact .refl _⟩
   ·exact⟨by omega,by omega,by rw[dn 2 (by omega)];exact .refl _⟩
  ·grind[Kd]
  grind[Kd]
 ·rcases low b c with h|rfl|rfl|rfl
  ·rw[f b h];exact a.down b h0 h
  ·simp_all
  ·simp_all
  simp_all
 ·rw [g];rcases low b c with h|rfl|rfl|rfl
  ·rw[mh h,a.fu b h];have e2:¬hi+2=b:=by omega
   grind
  ·rw[hX (by omega),a.none (by omega)];simp[pF]
  ·rw[hX (by omega),a.none (by omega)];simp[pF]
  ·rw[hX (by omega),a.none (by omega)];simp[pF]
 ·let ⟨l,hl⟩:=a.reach hi (jv _)
  have h0:Pn (rB hi nx (nF hi)) (hi+3) hi l:=hl.mono (by omega) vJ;have j:Pn (rB hi nx (nF hi)) (hi+3) (hi+1) ((hi+1)::l):= .step h0 (by omega) (by simp_all);rcases low b c with h|rfl|rfl|rfl
  ·let⟨l',hl'⟩:=a.reach b h
   exact⟨l',hl'.mono (by omega) vJ⟩
  ·grind
  ·exact⟨_,.step h0 (by omega) (by simp_all)⟩
  ·exact⟨_,.step j (by omega) (by simp_all)⟩
 ·have d:p<hi\/p=hi\/p=hi+1\/p=hi+2:=by omega
  rcases d with h|rfl|rfl|rfl
  ·rw[vJ p h]at hl e;rw[mh (a.tree p t h e).1];exact a.Tk p h hl t e
  ·rw[m]at e;simp at e;rcases e with rfl|rfl
   ·rw[hX (by omega)];rfl
   ·rw[hX (by omega)];rfl
  ·simp_all
  simp_all
def nX(hi k:Nat):List Nat:=if k=0 then[hi+1,hi+2] else[]
def pX(hi _k:Nat):List Nat:=[hi]
theorem Gh.exit(c:Gh D pr nx hi):Gh (ext hi D (dF hi)) (ext hi pr (pX hi)) (rB hi nx (nX hi)) (hi+2):=by
 have dn:∀k,0<k->ext hi D (dF hi) (hi+k)=hi:=λk m=>hX m;have j:rB hi nx (nX hi) hi=[hi+1,hi+2]:=lC (k:=0);have s:rB hi nx (nX hi) (hi+1)=[]:=lC;have f:∀b,b<=hi->ext hi D (dF hi) b=D b:=λb h=>mh h;have vJ:∀i,i<hi->rB hi nx (nX hi) i=nx i:=λi h=>Ab h;have g:∀b,pM (rB hi nx (nX hi)) (hi+2) b=pM nx hi b++([hi+1,hi+2].filter (·= b)).map (λ_=>hi):=by simp_all[xk,zs]
 have low:∀b,b<=hi+2->b<=hi\/b=hi+1\/b=hi+2:=by omega
 refine⟨λp b n a=>?_,λb h0 a=>?_,λb a=>?_,λb a=>?_,λp n hl t e=>?_⟩
 ·have d:p<hi\/p=hi\/p=hi+1:=by omega
  rcases d with h|rfl|rfl
  ·rw[vJ p h]at a
   let⟨o,q,r⟩:=c.tree p b h a
   exact⟨by omega,q,by rw[f b o];exact Cd c.down f r (by omega)⟩
  ·rw[j]at a;simp at a;rcases a with rfl|rfl
   ·exact⟨by omega,by omega,by rw[dn 1 (by omega)];exact .refl _⟩
   ·exact⟨by omega,by omega,by rw[dn 2 (by omega)];exact .refl _⟩
  simp_all
 ·rcases low b a with h|rfl|rfl
  ·rw[f b h];exact c.down b h0 h
  ·simp_all
  simp_all
 ·rw [g];rcases low b a with h|rfl|rfl
  ·rw[mh h,c.fu b h]
   grind
  ·rw[hX (by omega),c.none (by omega)];simp[pX]
  ·rw[hX (by omega),c.none (by omega)];simp[pX]
 ·let ⟨l,hl⟩:=c.reach hi (jv _)
  have h0:Pn (rB hi nx (nX hi)) (hi+2) hi l:=hl.mono (by omega) vJ;rcases low b a with h|rfl|rfl
  ·let⟨l',hl'⟩:=c.reach b h
   exact⟨l',hl'.mono (by omega) vJ⟩
  ·exact⟨_,.step h0 (by omega) (by simp_all)⟩
  ·exact⟨_,.step h0 (by omega) (by simp_all)⟩
 ·have d:p<hi\/p=hi\/p=hi+1:=by omega
  rcases d with h|rfl|rfl
  ·rw[vJ p h]at hl e;rw[mh (c.tree p t h e).1];exact c.Tk p h hl t e
  ·rw[j]at e;simp at e;rcases e with rfl|rfl
   ·rw[hX (by omega)];rfl
   ·rw[hX (by omega)];rfl
  simp_all
def dL(hi k:Nat):Nat:=if k=1 then hi else hi+1
def pL(hi k:Nat):List Nat:=if k=1 then[hi,hi+2] else[hi+1]
def nL(hi k:Nat):List Nat:=if k=1 then[hi+2,hi+3] else[hi+1]
theorem Gh.loop(c:Gh D pr nx hi):Gh (ext hi D (dL hi)) (ext hi pr (pL hi)) (rB hi nx (nL hi)) (hi+3):=by
 have d:ext hi D (dL hi) (hi+1)=hi:=hX (by omega);have j:ext hi D (dL hi) (hi+2)=hi+1:=hX (by omega);have m:ext hi D (dL hi) (hi+3)=hi+1:=hX (by omega);have r:rB hi nx (nL hi) hi=[hi+1]:=lC (k:=0);have q:rB hi nx (nL hi) (hi+1)=[hi+2,hi+3]:=lC;have s:rB hi nx (nL hi) (hi+2)=[hi+1]:=lC;have n:∀b,b<=hi->ext hi D (dL hi) b=D b:=λb h=>mh h;have vJ:∀i,i<hi->rB hi nx (nL hi) i=nx i:=λi h=>Ab h;have o:∀b,pM (rB hi nx (nL hi)) (hi+3) b=pM nx hi b++([hi+1].filter (·= b)).map (λ_=>hi)++([hi+2,hi+3].filter (·= b)).map (λ_=>hi+1)++([hi+1].filter (·= b)).map (λ_=>hi+2):=by simp_all[xk,zs]
 have low:∀b,b<=hi+3->b<=hi\/b=hi+1\/b=hi+2\/b=hi+3:=by omega
 refine⟨λp b u a=>?_,λb h0 a=>?_,λb a=>?_,λb a=>?_,λp u hl t f=>?_⟩
 ·have e:p<hi\/p=hi\/p=hi+1\/p=hi+2:=by omega
  rcases e with h|rfl|rfl|rfl
  ·rw[vJ p h]at a
   let⟨g,v,w⟩:=c.tree p b h a
   exact⟨by omega,v,by rw[n b g];exact Cd c.down n w (by omega)⟩
  ·rw[r]at a;simp at a;subst a;exact⟨by omega,by omega,by rw[d];exact .refl _⟩
  ·rw[q]at a;simp at a;rcases a with rfl|rfl
   ·exact⟨by omega,by omega,by rw[j];exact .refl _⟩
   ·exact⟨by omega,by omega,by rw[m];exact .refl _⟩
  ·rw[s]at a;simp at a;subst a;exact⟨by omega,by omega,by rw[d];exact(Kd (by omega) d).trans (by grind[Kd])⟩
 ·rcases low b a with h|rfl|rfl|rfl
  ·rw[n b h];exact c.down b h0 h
  ·omega
  ·omega
  omega
 ·rw [o];rcases low b a with h|rfl|rfl|rfl
  ·rw[mh h,c.fu b h];have e1:¬hi+1=b:=by omega
   have e2:¬hi+2=b:=by omega
   have x:¬hi+3=b:=by omega
   simp_all
  ·rw[hX (by omega),c.none (by omega)];simp[pL]
  ·rw[hX (by omega),c.none (by omega)];simp[pL]
  ·rw[hX (by omega),c.none (by omega)];simp[pL]
 ·let ⟨l,hl⟩:=c.reach hi (jv _)
  have h0:Pn (rB hi nx (nL hi)) (hi+3) hi l:=hl.mono (by omega) vJ;have g:Pn (rB hi nx (nL hi)) (hi+3) (hi+1) ((hi+1)::l):= .step h0 (by omega) (by simp_all);rcases low b a with h|rfl|rfl|rfl
  ·let⟨l',hl'⟩:=c.reach b h
   exact⟨l',hl'.mono (by omega) vJ⟩
  ·grind
  ·exact⟨_,.step g (by omega) (by simp_all)⟩
  ·exact⟨_,.step g (by omega) (by simp_all)⟩
 ·have e:p<hi\/p=hi\/p=hi+1\/p=hi+2:=by omega
  rcases e with h|rfl|rfl|rfl
  ·rw[vJ p h]at hl f;rw[mh (c.tree p t h f).1];exact c.Tk p h hl t f
  ·simp_all
  ·rw[q]at f;simp at f;rcases f with rfl|rfl
   ·rw[hX (by omega)];rfl
   ·rw[hX (by omega)];rfl
  simp_all
end
open Dm
def noE:Nat->Prop:=λ_=>False
def Ok(t:Dt):Prop:=∃D pr nx,Gh D pr nx t.blocks.length/\pe D pr nx noE t
theorem Ok.fork{t:Dt} (ops:List Int) (h:Ok t):Ok (fork ops t):=by
 let⟨D,pr,nx,hG,hM⟩:=h
 generalize a:t.blocks.length=hi at*;have b:=hM.VW (D':=ext hi D (dF hi)) (pr':=ext hi pr (pF hi)) (X0:=rB hi nx (nF hi)) (by simp_all) (by grind[mh]) (by grind[mh]) (by grind[Ab])
 let ⟨c,d⟩:=zaQ b ops (by rw[a];exact lC (k:=0)) (by rw[a];exact lC) (by rw[a];exact lC) (by rw[a];exact hX (by omega)) (by rw[a];exact hX (by omega)) (by rw[a];exact hX (by omega))
  (by rw[a];exact hX (by omega)) (by rw[a];exact hX (by omega)) (by rw[a];exact hX (by omega))
 exact⟨_,_,_,by rw[d,a];exact hG.fork,c⟩
theorem Ok.exit{t:Dt} (ops:List Int) (h:Ok t):Ok (zJ ops t):=by
 let⟨D,pr,nx,hG,hM⟩:=h
 generalize a:t.blocks.length=hi at*;have b:=hM.VW (D':=ext hi D (dF hi)) (pr':=ext hi pr (pX hi)) (X0:=rB hi nx (nX hi)) (by simp_all) (by grind[mh]) (by grind[mh]) (by grind[Ab])
 let ⟨c,d⟩:=zbt b ops (by rw[a];exact lC (k:=0)) (by rw[a];exact lC) (by rw[a];exact hX (by omega)) (by rw[a];exact hX (by omega))
  (by rw[a];exact hX (by omega)) (by rw[a];exact hX (by omega))
 exact⟨_,_,_,by rw[d,a];exact hG.exit,c⟩
theorem Ok.loop{t:Dt} (ops:List Int) (h:Ok t):Ok (loop ops t):=by
 let⟨D,pr,nx,hG,hM⟩:=h
 generalize a:t.blocks.length=hi at*;have b:=hM.VW (D':=ext hi D (dL hi)) (pr':=ext hi pr (pL hi)) (X0:=rB hi nx (nL hi)) (by simp_all) (by grind[mh]) (by grind[mh]) (by grind[Ab])
 let ⟨c,d⟩:=za8 b ops (by rw[a];exact lC (k:=0)) (by rw[a];exact lC) (by rw[a];exact lC) (by rw[a];exact hX (by omega)) (by rw[a];exact hX (by omega)) (by rw[a];exact hX (by omega))
  (by rw[a];exact hX (by omega)) (by rw[a];exact hX (by omega)) (by rw[a];exact hX (by omega))
 exact⟨_,_,_,by rw[d,a];exact hG.loop,c⟩
theorem Ok.lh(ops:List Int):∀l {t:Dt},Ok t->Ok (lh ops l t)
 |[],_,h=>h
 | k ::l,t,h=>by
   unfold Un.lh;split
   ·refine Ok.lh ops l ?_
    unfold uR;split
    ·exact h.fork ops
    split
    ·exact h.loop ops
    ·exact h.exit ops
   ·exact h
def t0(s:Ds):Dt:=⟨s,[],[]⟩
structure Ps (s:Ds) (i:Nat):Prop where
 ee:s.ee.length=i
 all:∀v x,s.ee[v]? =some x->x=vl 1 0 0 (v:Nat) [] 0
 cur:s.cur=List.range i
 known:s.known=List.range i
 ez:s.ez=[]
theorem Pp:∀n i s,Ps s i->Ps (params n i s) (i+n)
 |0,i,s,h=>h
 | n + 1,i,s,h=>by
   have:=Pp n (i+1) (hO s (vl 1 0 0 (i:Nat) [] 0)) ⟨by simp[hO,h.ee],λv x hv=>?_,by simp[hO];rw[h.cur,h.ee,wBf],by simp[hO];rw[h.known,h.ee,wBf],h.ez⟩
   ·rw[show i+(n+1)=i+1+n by omega]
    exact this
   ·have a:(s.ee++[vl 1 0 0 (i:Nat) [] 0])[v]? =some x:=hv
    by_cases EO:v<s.ee.length
    ·rw[wAv EO]at a
     exact h.all v x a
    ·have c:=(kE.1 a).1
     simp at c;have b:v=s.ee.length:=by omega
     subst b;rw[wA6]at a;rw[h.ee]
     simp_all
theorem gh0:Gh (λ_=>0) (λ_=>[]) (λ_=>[]) 0:=
 ⟨by omega,by omega,λb a=>rfl,λb a=>by
  obtain rfl:b=0:=by omega
  exact⟨[0],.nil⟩,by omega⟩
theorem zaz{s:Ds} {n:Nat} (h:Ps s n) (o:n<=5):pe (λ_=>0) (λ_=>[]) (λ_=>[]) noE (t0 (hO s (vl 2 0 0 5 [] 0))):=by
 have c:(t0 (hO s (vl 2 0 0 5 [] 0))).s.ee=s.ee++[vl 2 0 0 5 [] 0]:=rfl;have d:(t0 (hO s (vl 2 0 0 5 [] 0))).s.cur=List.range (n+1):=by
  show s.cur++[s.ee.length]=_;rw[h.cur,h.ee,wBf]
 have hlen:(t0 (hO s (vl 2 0 0 5 [] 0))).s.ee.length=n+1:=by rw[c];simp[h.ee]
 have a:∀v x,(t0 (hO s (vl 2 0 0 5 [] 0))).s.ee[v]? =some x->(v<n/\x=vl 1 0 0 (v:Nat) [] 0)\/(v=n/\x=vl 2 0 0 5 [] 0):=λv x hv=>by
  rw[c]at hv;by_cases e:v<s.ee.length
  ·rw[wAv e]at hv;exact .inl ⟨by simp_all,h.all v x hv⟩
  grind
 have j:∀v,v<n+1->Ow (t0 (hO s (vl 2 0 0 5 [] 0))) v 0:=λv hv=> .inr ⟨rfl,by simp_all⟩;have k:∀v,v<n+1->Kn (λ_=>0) (t0 (hO s (vl 2 0 0 5 [] 0))) 0 v:=λv hv=>by
  have i:∃x,(t0 (hO s (vl 2 0 0 5 [] 0))).s.ee[v]? =some x:=by simp_all
  let⟨x,i⟩:=i
  refine⟨0,x,j v hv,.refl _,i,?_⟩;rcases a v x i with⟨_,rfl⟩|⟨_,rfl⟩ <;> rfl
 refine⟨?_,λv x hv=>?_,λv x hv p=>?_,λb B m=>(by cases m),λst fs hs=>?_,rfl,?_,λw l=>?_⟩
 ·rw[hlen,d];rfl
 ·rcases a v x hv with⟨e,rfl⟩|⟨rfl,rfl⟩
  ·refine⟨by simp[vl],by grind[vl],λ_=>⟨by grind,rfl,by omega⟩,0,by grind,by grind[kj,vl,two,zA],by grind[vl,leaves],λ_ w _ l=>?_⟩
   grind[t0,hO,vl,iz]
  ·exact⟨by simp[vl],by grind[vl],by grind[vl],0,by simp_all,by grind[kj,vl,two,zA],by grind[vl,leaves],by grind[vl,kh]⟩
 ·rcases a v x hv with⟨_,rfl⟩|⟨_,rfl⟩
  ·grind[vl]
  grind[vl]
 ·have f:s.ez[st]? =some fs:=hs;rw[h.ez]at f;cases f
 ·show s.known++[s.ee.length]≠[];simp
 ·have g:w∈s.known++[s.ee.length]:=l;rw[h.known,h.ee,<-wBf]at g;exact k w (List.mem_range.1 g)
theorem XE(ops a:List Int) (n:Int):Ok (lh ops (a.take 6) ⟨row ops (hO (params (iF n 5) 0 ⟨[],[],[],[],0⟩) (vl 2 0 0 5 [] 0)),[],[]⟩):=by
 have h0:Ps ⟨[],[],[],[],0⟩ 0:=⟨rfl,by simp_all,rfl,rfl,rfl⟩
 have b:=Pp (iF n 5) 0 _ h0;rw[HP]at b;have c:=zaz b (by simp_all[Nat.le_of_lt,rO])
 let⟨d,_⟩:=c.row ops
 exact Ok.lh ops _ ⟨_,_,_,gh0,d⟩
open Dm
theorem VI:∀(l:List Bk),(l.flatMap λB=>B.ee).Pairwise (·< ·)->∀(b f k k':Nat) (B a:Bk) (v d:Nat),l[b]? =some B->l[f]? =some a->B.ee[k]? =some v->a.ee[k']? =some d->(b<f->v<d)/\(b=f->k<k'->v<d)
 |[],_,b,_,_,_,_,_,_,_,h,_,_,_=>by simp_all
 | C ::l,hp,b,f,k,k',B,a,v,d,e,c,j,o=>by
   rw[TB,List.pairwise_append]at hp;obtain⟨p1,p2,p3⟩:=hp
   match b,f,e,c with
   | 0,0,e,c=>
     obtain rfl:C=B:=by simp_all
     obtain rfl:C=a:=by simp_all
     grind[kE,wBW]
   | 0,n+1,e,c=>
     obtain rfl:C=B:=by simp_all
     have g:l[n]? =some a:=by simpa using c
     refine⟨λ_=>p3 v (zQ j) d (by grind),by omega⟩
   |n+1,0,e,c=>omega
   | n+1,m+1,e,c=>
     have i:l[n]? =some B:=by simpa using e
     have g:l[m]? =some a:=by simpa using c
     have:=VI l p2 n m k k' B a v d i g j o;omega
section
variable{u:U}(hc:u.blocks.flatMap (λB=>B.ee)=List.range u.ee.length)
include hc
theorem Pu{v a b c k k':Nat} (h:At u v b k) (h':At u a c k'):(b<c->v<a)/\(b=c->k<k'->v<a):=by
 obtain⟨B,d,e⟩:=h;obtain⟨f,g,i⟩:=h'
 grind[VI,List.pairwise_lt_range]
theorem V6{v b a k k':Nat} (h:At u v b k) (h':At u v a k'):b=a/\k=k':=by
 have e1:=(Pu hc h h').1;have e2:=(Pu hc h' h).1;have c:b=a:=by
  rcases Nat.lt_trichotomy b a with h|h|h
  ·omega
  ·exact h
  ·omega
 have d:=(Pu hc h h').2 c;have e:=(Pu hc h' h).2 c.symm;omega
theorem Z5{v a b k k':Nat} (h:At u v b k) (h':At u a b k') (c:v<a):k<k':=by
 rcases Nat.lt_trichotomy k k' with g|g|g
 ·exact g
 ·subst g;obtain⟨B,d,e⟩:=h;obtain⟨f,i,j⟩:=h'
  simp_all
 ·have:=(Pu hc h' h).2 rfl g;omega
theorem zaA{v:Nat} (hv:v<u.ee.length):∃b k,At u v b k:=by
 have:v∈u.blocks.flatMap (λB=>B.ee):=by rw[hc];exact List.mem_range.2 hv
 obtain⟨B,a,c⟩:=wBI.1 this;obtain⟨b,d⟩:=oR.1 a;obtain⟨k,e⟩:=oR.1 c;exact⟨b,k,B,d,e⟩
theorem zgf{v b k:Nat} (h:At u v b k):v<u.ee.length:=by
 obtain⟨B,a,c⟩:=h;have:v∈u.blocks.flatMap (λB=>B.ee):=by grind
 simp_all
end
theorem GA(ops:List Int):∀i s l,∃p,(some_ ops i s l).2 = {s with pos:=p}
 |0,s,_=>⟨s.pos,rfl⟩
 |i+1,s,l=>GA ops i (fJ ops s).2 (l++[(fJ ops s).1])
theorem zH(ops:List Int) (s:Ds):(fG ops s).2.ee=s.ee/\(fG ops s).2.ez.length=s.ez.length+1/\(fG ops s).2.cur=s.cur:=by
 let⟨p,hp⟩:=GA ops (num ops s 4).1 (num ops s 4).2 []
 unfold fG;simp only;rw[hp];exact⟨rfl,by simp,rfl⟩
structure Sz (s a:Ds):Prop where
 ee:s.ee.length<=a.ee.length
 ez:a.ez.length+s.ee.length<=s.ez.length+a.ee.length
theorem Sz.refl(s:Ds):Sz s s:=⟨jv _,jv _⟩
theorem Sz.trans{s f e:Ds} (g:Sz s f) (h:Sz f e):Sz s e:=by
 have a:=g.ee;have b:=h.ee;have c:=g.ez;have d:=h.ez;exact⟨by omega,by omega⟩
theorem zba(ops:List Int) (s:Ds) (k a b:Nat):(tE ops s k a b).ee.length=s.ee.length+1/\(tE ops s k a b).ez.length<=s.ez.length+1:=by
 grind[zH,tE,hO,num,put,fJ]
theorem Vx(ops:List Int):∀i s,Sz s (rows ops i s)/\(rows ops i s).ee.length<=max s.ee.length 200
 |0,s=>⟨.refl s,by show s.ee.length<=_;omega⟩
 | i + 1,s=>by
   unfold rows;split
   ·rename_i b
    let⟨c,d⟩:=Vx ops i (ux ops s)
    have a:=zba ops (num ops (fJ ops (fJ ops s).2).2 20).2 (num ops (fJ ops (fJ ops s).2).2 20).1 (fJ ops s).1 (fJ ops (fJ ops s).2).1;have e:(ux ops s).ee.length=s.ee.length+1:=a.1;have f:(ux ops s).ez.length<=s.ez.length+1:=a.2;exact⟨Sz.trans ⟨by omega,by omega⟩ c,by omega⟩
   ·exact⟨.refl s,by omega⟩
theorem BC(ops:List Int) (s:Ds):Sz s (row ops s)/\(row ops s).ee.length<=max s.ee.length 200:=by
 let⟨a,b⟩:=Vx ops (1+(num ops s 6).1) (num ops s 6).2
 exact⟨⟨a.ee,a.ez⟩,b⟩
structure Xt (t:Dt) (m:Nat):Prop where
 ee:t.s.ee.length<=210
 ez:t.s.ez.length<=t.s.ee.length+t.blocks.length
 blocks:t.blocks.length<=m
theorem zai(ops:List Int) {t:Dt} {m:Nat} (h:Xt t m) (hv:t.s.ee.length<160):Xt (fork ops t) (m+3):=by
 let⟨x,y,z⟩:=h
 unfold fork;simp only;have p:=BC ops (end_ {t with s:=(fJ ops t.s).2} 2 (fJ ops t.s).1 [t.blocks.length+1,t.blocks.length+2] 0 [t.blocks.length]).s;generalize q:row ops (end_ {t with s:=(fJ ops t.s).2} 2 (fJ ops t.s).1 [t.blocks.length+1,t.blocks.length+2] 0 [t.blocks.length]).s=s1 at*;have r:s1.ez.length+t.s.ee.length<=t.s.ez.length+s1.ee.length:=p.1.ez;have u:s1.ee.length<=max t.s.ee.length 200:=p.2;generalize c:end_ {s:=cut t.s.known.length s1,blocks:=(end_ {t with s:=(fJ ops t.s).2} 2 (fJ ops t.s).1 [t.blocks.length+1,t.blocks.length+2] 0 [t.blocks.length]).blocks,fu:=(end_ {t with s:=(fJ ops t.s).2} 2 (fJ ops t.s).1 [t.blocks.length+1,t.blocks.length+2] 0 [t.blocks.length]).fu} 1 0 [t.blocks.length+3] 0 [t.blocks.length]=a at*;have A:a.blocks.length=t.blocks.length+2:=by rw[<-c];simp[end_]
 have v:a.s.ee=s1.ee:=by rw[<-c];rfl
 have w:a.s.ez=s1.ez:=by rw[<-c];rfl
 have f:=BC ops a.s;generalize row ops a.s=b at*;have g:=f.1.ee;have d:=f.1.ez;have i:=f.2;rw[v]at g d i;rw[w]at d;have j:=BC ops (hO (end_ {s:=cut t.s.known.length b,blocks:=a.blocks,fu:=a.fu} 1 0 [t.blocks.length+3] 0 [t.blocks.length+1,t.blocks.length+2]).s (vl 21 0 0 0 [s1.known.getLastD 0,b.known.getLastD 0] 0));have k:(hO (end_ {s:=cut t.s.known.length b,blocks:=a.blocks,fu:=a.fu} 1 0 [t.blocks.length+3] 0 [t.blocks.length+1,t.blocks.length+2]).s (vl 21 0 0 0 [s1.known.getLastD 0,b.known.getLastD 0] 0)).ee.length=b.ee.length+1:=by simp[hO,end_,cut]
 have l:(hO (end_ {s:=cut t.s.known.length b,blocks:=a.blocks,fu:=a.fu} 1 0 [t.blocks.length+3] 0 [t.blocks.length+1,t.blocks.length+2]).s (vl 21 0 0 0 [s1.known.getLastD 0,b.known.getLastD 0] 0)).ez.length=b.ez.length:=by simp[hO,end_,cut]
 have n:=j.1.ee;have e:=j.1.ez;have o:=j.2;rw[k]at n e o;rw[l]at e;refine⟨?_,?_,?_⟩
 ·grind
 ·show(row ops _).ez.length<=(row ops _).ee.length+(a.blocks++[_]).length
  grind
 ·show(a.blocks++[_]).length<=m+3
  simp_all
theorem Z3(ops:List Int) {t:Dt} {m:Nat} (h:Xt t m) (hv:t.s.ee.length<160):Xt (zJ ops t) (m+3):=by
 let⟨q,r,u⟩:=h
 unfold zJ;simp only;have g:=BC ops (end_ {t with s:=(fJ ops t.s).2} 2 (fJ ops t.s).1 [t.blocks.length+1,t.blocks.length+2] 0 [t.blocks.length]).s;generalize i:row ops (end_ {t with s:=(fJ ops t.s).2} 2 (fJ ops t.s).1 [t.blocks.length+1,t.blocks.length+2] 0 [t.blocks.length]).s=s1 at*;have j:s1.ez.length+t.s.ee.length<=t.s.ez.length+s1.ee.length:=g.1.ez;have k:s1.ee.length<=max t.s.ee.length 200:=g.2
 let⟨l,n,_⟩:=zH ops s1
 generalize a:end_ {s:=cut t.s.known.length (fG ops s1).2,blocks:=(end_ {t with s:=(fJ ops t.s).2} 2 (fJ ops t.s).1 [t.blocks.length+1,t.blocks.length+2] 0 [t.blocks.length]).blocks,fu:=(end_ {t with s:=(fJ ops t.s).2} 2 (fJ ops t.s).1 [t.blocks.length+1,t.blocks.length+2] 0 [t.blocks.length]).fu} 3 0 [] (fG ops s1).1 [t.blocks.length]=c at*;have v:c.blocks.length=t.blocks.length+2:=by rw[<-a];simp[end_]
 have o:c.s.ee=s1.ee:=by rw[<-a];exact l
 have p:c.s.ez.length=s1.ez.length+1:=by rw[<-a];exact n
 have d:=BC ops c.s;have e:=d.1.ee;have b:=d.1.ez;have f:=d.2;rw[o]at e b f;rw[p]at b;refine⟨?_,?_,?_⟩
 ·grind
 ·grind
 grind
theorem DP(s:Ds)(v:Nat)(args:List Nat):(setArgs s v args).ee.length=s.ee.length/\(setArgs s v args).ez=s.ez:=⟨by simp[setArgs,List.length_modify],rfl⟩
theorem zaw(ops:List Int) {t:Dt} {m:Nat} (h:Xt t m) (hv:t.s.ee.length<160):Xt (loop ops t) (m+3):=by
 let⟨G,H,I⟩:=h
 unfold loop;simp only;generalize e:end_ {t with s:=(fJ ops t.s).2} 1 0 [t.blocks.length+1] 0 [t.blocks.length,t.blocks.length+2]=b at*;have z:b.blocks.length=t.blocks.length+1:=by rw[<-e];simp[end_]
 have A:b.s.ee=t.s.ee:=by rw[<-e];rfl
 have s1:b.s.ez=t.s.ez:=by rw[<-e];rfl
 generalize i:({put (fJ ops (put b.s (vl 21 0 0 0 [(fJ ops t.s).1,0] 0))).2 (vl 21 0 0 0 [(fJ ops (put b.s (vl 21 0 0 0 [(fJ ops t.s).1,0] 0))).1,b.s.ee.length] 0)with known:=(put (fJ ops (put b.s (vl 21 0 0 0 [(fJ ops t.s).1,0] 0))).2 (vl 21 0 0 0 [(fJ ops (put b.s (vl 21 0 0 0 [(fJ ops t.s).1,0] 0))).1,b.s.ee.length] 0)).known++[b.s.ee.length,b.s.ee.length+1]}:Ds)=f at*;have B:f.ee.length=t.s.ee.length+2:=by rw[<-i,<-A];simp[put,fJ]
 have n:f.ez=t.s.ez:=by rw[<-i,<-s1];rfl
 let⟨C,D,_⟩:=zH ops f
 generalize j:hO (put (put (fG ops f).2 (vl 23 0 0 0 [] (fG ops f).1)) (vl 2 0 0 1 [] 0)) (vl 4 b.s.ee.length (put (fG ops f).2 (vl 23 0 0 0 [] (fG ops f).1)).ee.length 0 [] 0)=d at*;have J:d.ee.length=t.s.ee.length+5:=by rw[<-j];simp[hO,put,C,B]
 have E:d.ez.length=t.s.ez.length+1:=by rw[<-j,<-n,<-D];rfl
 generalize g:end_ {s:=d,blocks:=b.blocks,fu:=b.fu} 2 b.s.ee.length [t.blocks.length+2,t.blocks.length+3] 0 [t.blocks.length+1]=c at*;have K:c.blocks.length=t.blocks.length+2:=by rw[<-g];simp[end_,z]
 have F:c.s.ee=d.ee:=by rw[<-g];rfl
 have o:c.s.ez=d.ez:=by rw[<-g];rfl
 have p:=BC ops c.s;generalize row ops c.s=y at*;have q:=p.1.ee;have k:=p.1.ez;have r:=p.2;rw[F]at q k r;rw[o]at k;have u:∀a,a.ee.length=y.ee.length->a.ez=y.ez->Xt {s:=row ops (end_ {s:=cut d.known.length a,blocks:=c.blocks,fu:=c.fu} 1 0 [t.blocks.length+1] 0 [t.blocks.length+1]).s,blocks:=(end_ {s:=cut d.known.length a,blocks:=c.blocks,fu:=c.fu} 1 0 [t.blocks.length+1] 0 [t.blocks.length+1]).blocks,fu:=(end_ {s:=cut d.known.length a,blocks:=c.blocks,fu:=c.fu} 1 0 [t.blocks.length+1] 0 [t.blocks.length+1]).fu} (m+3):=by
  intro a e1 e2;have v:=BC ops (end_ {s:=cut d.known.length a,blocks:=c.blocks,fu:=c.fu} 1 0 [t.blocks.length+1] 0 [t.blocks.length+1]).s;have w:a.ee.length<=_:=v.1.ee;have l:_+a.ee.length<=a.ez.length+_:=v.1.ez;have x:_<=max a.ee.length 200:=v.2;rw[e1]at w l x;rw[e2]at l;refine⟨?_,?_,?_⟩
  ·grind
  ·show(row ops _).ez.length<=(row ops _).ee.length+(c.blocks++[_]).length
   grind
  ·show(c.blocks++[_]).length<=m+3
   simp_all
 refine u _ ?_ ?_
 ·rw[(DP _ _ _).1];split
  ·rw[(DP _ _ _).1];exact(DP _ _ _).1
  ·exact(DP _ _ _).1
 ·rw[(DP _ _ _).2];split
  ·rfl
  ·rfl
theorem CU(ops:List Int):∀l {t:Dt} {m:Nat},Xt t m->Xt (lh ops l t) (m+3*l.length)
 |[],t,m,h=>h
 | k ::l,t,m,h=>by
   unfold lh;split
   ·rename_i hv
    have a:Xt (uR ops (iF k 3) t) (m+3):=by
      unfold uR;split
      ·grind[zai]
      split
      ·grind[zaw]
      ·grind[Z3]
    have:=CU ops l a
    grind
   ·exact⟨h.ee,h.ez,by have:=h.blocks;omega⟩
open Dm
theorem zbq{t:Dt} (ops:List Int) (h:Ok t):∃D pr nx,Gh D pr nx t.blocks.length/\nx t.blocks.length=[]/\pe D pr nx noE (end_ (on t (fG ops t.s).2) 3 0 [] (fG ops t.s).1 []):=by
 let⟨D,pr,nx,hG,hM⟩:=h
 generalize m:t.blocks.length=hi at*;have d:∀b,b<=hi->ext hi D (dF hi) b=D b:=λb h=>mh h;have vJ:∀i,i<hi->rB hi nx (λ_=>[]) i=nx i:=λi h=>Ab h;have n:Gh (ext hi D (dF hi)) (ext hi pr λ_=>[]) (rB hi nx λ_=>[]) hi:=by
  refine⟨λp b c a=>?_,λb h0 a=>?_,λb a=>?_,λb a=>?_,λp c hl u e=>?_⟩
  ·rw[vJ p c]at a
   let⟨g,o,q⟩:=hG.tree p b c a
   exact⟨g,o,by rw[d b g];exact Cd hG.down d q (by omega)⟩
  ·rw[d b a];exact hG.down b h0 a
  ·rw[mh a,hG.fu b a,zs hi b vJ]
  ·let⟨l,hl⟩:=hG.reach b a
   exact⟨l,hl.mono (jv _) vJ⟩
  ·rw[vJ p c]at hl e;rw[mh (hG.tree p u c e).1];exact hG.Tk p c hl u e
 have f:=hM.VW (D':=ext hi D (dF hi)) (pr':=ext hi pr λ_=>[]) (X0:=rB hi nx λ_=>[]) (by simp_all) (by simp_all) (by grind[mh]) (by simp_all);have x:rB hi nx (λ_=>[]) hi=[]:=lC (k:=0)
 let⟨m1,y,hk,_,_,fs,r,z⟩:=f.state ops
 have v:(on t (fG ops t.s).2).blocks.length=hi:=m
 let ⟨A,_⟩:=m1.end_ (cond:=0) (fu:=[]) (by simp_all) (by grind[hX,List])
  (.inr (.inr ⟨rfl,rfl,fs,r,λw j=>m1.kn w (by show w∈(fG ops t.s).2.known;simp_all)⟩))
  (λw j=>(m1.kn w j).up (by rw[v];exact Kd (by omega) (hX (by omega))))
 grind
theorem zbK{D:Nat->Nat} {pr nx:Nat->List Nat} {t:Dt} {hi:Nat} (G:Gh D pr nx hi) (hn:nx hi=[]) (d:pe D pr nx noE t) (Z:t.blocks.length=hi+1) (M:t.s.cur=[]) (hv:t.s.ee.length<=3000) (hs:t.s.ez.length<=1000) (Q:t.blocks.length<=300) (f p:Int) :
  Good ⟨f,p,t.s.ee,t.blocks,t.s.ez⟩:=by
 have hc:t.blocks.flatMap (λB=>B.ee)=List.range t.s.ee.length:=by
  have:=d.cat
  rw[M,Hf]at this;exact this
 have own:∀{v b},Ow t v b->∃k,At ⟨f,p,t.s.ee,t.blocks,t.s.ez⟩ v b k:=λh=>by
  rcases h with⟨B,n,m⟩|⟨_,m⟩
  ·let⟨k,hk⟩:=oR.1 m
   exact⟨k,B,n,hk⟩
  simp_all
 have ae:∀{v b},Ow t v b->b<t.blocks.length:=λh=>by
  rcases h with⟨B,n,_⟩|⟨_,m⟩
  ·grind
  simp_all
 have z:∀{v b k},At ⟨f,p,t.s.ee,t.blocks,t.s.ez⟩ v b k->Ow t v b:=λ⟨B,n,m⟩=> .inl ⟨B,n,zQ m⟩;have ag:∀b,b<t.blocks.length->next ⟨f,p,t.s.ee,t.blocks,t.s.ez⟩ b=nx b:=λb h=>by
  have e:=iz h;unfold next
  simp[e];exact(d.bk b _ e).1
 have ah:∀b,¬b<t.blocks.length->next ⟨f,p,t.s.ee,t.blocks,t.s.ez⟩ b=[]:=by grind[next,wBK]
 have AH:∀q b,b∈next ⟨f,p,t.s.ee,t.blocks,t.s.ez⟩ q->q<hi/\b∈nx q:=λq b h=>by
  grind
 have H:∀{x b},qd D x b->Aw (next ⟨f,p,t.s.ee,t.blocks,t.s.ez⟩) x b:=λh l hl=>Jy (λq b Z _=>(G.tree q b (by grind) (by simp_all)).2.2) hl h;have N:∀{a w},Kn D t a w->FD ⟨f,p,t.s.ee,t.blocks,t.s.ez⟩ w:=λ⟨_,x,_,_,C,J⟩=>⟨x,C,J⟩
 have F:∀{a w},Kn D t a w->JH ⟨f,p,t.s.ee,t.blocks,t.s.ez⟩ w a:=λ⟨b,x,n,m,_⟩=>let⟨k,hk⟩:=own n;⟨b,k,hk,H m⟩
 have aa:∀{v w b k},At ⟨f,p,t.s.ee,t.blocks,t.s.ez⟩ v b k->w<v->Kn D t b w->Xh ⟨f,p,t.s.ee,t.blocks,t.s.ez⟩ w b k:=λ{v w b k} hv o ⟨c,x,n,m,_⟩=>by
  let⟨j,hj⟩:=own n
  by_cases e:c=b
  ·subst e;exact⟨c,j,hj,.inl ⟨rfl,Z5 hc hj hv o⟩⟩
  ·exact⟨c,j,hj,.inr ⟨e,H m⟩⟩
 have uniq:∀{v b R},Ow t v b->Ow t v R->b=R:=λh h'=>by
  let⟨k,hk⟩:=own h
  let⟨k',hk'⟩:=own h'
  exact(V6 hc hk hk').1
 have K:∀b,ahead ⟨f,p,t.s.ee,t.blocks,t.s.ez⟩ b=pM nx hi b:=λb=>by
  have S:∀l i,(∀k B,l[k]? =some B->B.next=nx (i+k))->nw l i b=((List.range' i l.length).flatMap λq=>((nx q).filter (·= b)).map λ_=>q):=by
   intro l
   induction l with
   |nil=>intro i _;rfl
   | cons B l T=>
     intro i h;have h0:=h 0 B rfl;rw[wBx]at h0;rw[Jo,List.range'_succ,TB];unfold nw;rw[h0,T (i+1) λk B U=>by rw[show i+1+k=i+(k+1) by omega];exact h (k+1) B U]
  unfold ahead;rw[S t.blocks 0 λk B U=>by rw[HP];exact(d.bk k B U).1];have e:List.range' 0 t.blocks.length=List.range t.blocks.length:=(List.range_eq_range').symm;rw[ Z];have:=xk nx hi b
  grind[pM]
 refine{nv:=hv,XW:=by simp_all,nb:=Q,ns:=hs,st:=?_,Jm:=by simp_all[zaA],QH:=λv b k R k' h h'=>V6 hc h h',DW:=λv b k h=>zgf hc h,ZM:=?_,par:=?_,Yb:=?_,op:=λv x h=>(d.Ml v x h).op,use:=?_,leave:=?_,putAt:=λv x h=>(d.Ml v x h).putAt,param:=?_,fin:=?_,nx:=?_,fu:=?_,T4:=?_,Tk:=?_,reach:=?_,Vy:=?_,Z0:=?_,V9:=?_,Yw:=?_,Z8:=?_}
 ·intro s fs h
  let⟨r,E⟩:=d.st s fs h
  grind
 ·intro v w b k x y n m C J h5
  let⟨c,r,_,_,g4⟩:=(d.Ml v x C).own
  obtain rfl:=uniq r (z n);have o:w<v:=(Pu hc m n).2 rfl (RC _)
  grind
 ·intro v b k x n m C;exact uniq (z n) ((d.Ml v x m).par C).1
 ·intro v b k x B n m C J
  let⟨c,r,E,A⟩:=d.ph v x m C
  obtain rfl:=uniq r (z n);exact⟨E,by rw[(d.bk c B J).2.1];exact(A id).1⟩
 ·intro v x h w L;by_cases O:x.op=21
  ·let⟨c,r,E,A⟩:=d.ph v x h O
   have V:w∈x.args:=by unfold kj at L;rw[if_pos O]at L;exact L
   let⟨j,hj⟩:=oR.1 V
   have o:=(kE.1 hj).1;rw[(A id).1]at o;exact N ((A id).2 j w _ hj (iz o))
  ·let⟨c,r,E,_⟩:=(d.Ml v x h).own
   grind
 ·intro v x h hl
  let⟨c,r,_,A,_⟩:=(d.Ml v x h).own
  grind
 ·intro v x h n
  let⟨r,E,A⟩:=(d.Ml v x h).par n
  refine⟨by omega,by omega,λw y hy W he=>?_⟩
  let⟨_,k2,_⟩:=(d.Ml w y hy).par W
  omega
 ·intro b B h;rcases(d.bk b B h).2.2 with g|⟨r,E,A⟩|⟨r,E,fs,A,_⟩
  ·omega
  ·grind
  grind
 ·intro b u X
  let⟨r,E⟩:=AH b u X
  have:=(G.tree b u r E).1
  grind
 ·intro b B h;have o:=(kE.1 h).1;rw[(d.bk b B h).2.1,K,G.fu b (by grind)]
 ·rw[K];exact LZ λi Y hm=>(G.tree i 0 Y hm).2.1 rfl
 ·intro b B h m u X;have o:b<t.blocks.length:=by grind
  have e:=(d.bk b B h).1;have P:u∈nx b:=by rw[<-e];exact X
  have I:b<hi:=by
   by_cases e2:b=hi
   ·simp_all
   ·omega
  have hl:(nx b).length=2:=by
   rw[<-e];rcases(d.bk b B h).2.2 with g|⟨_,E,_⟩|⟨r,_⟩
   ·omega
   ·exact E
   ·omega
  rw[K,<-G.fu u (G.tree b u I P).1];exact G.Tk b I hl u P
 ·intro b o;have ab:b<t.blocks.length:=o
  let⟨l,hl⟩:=G.reach b (by omega)
  have ac:∀{b l},Pn nx hi b l->Pt (next ⟨f,p,t.s.ee,t.blocks,t.s.ez⟩) b l:=by
   intro b l h
   induction h with
   |nil=>exact .nil
   |step _ hp e T=>exact .step T (by grind)
  grind
 ·intro v b k x n m C w L
  let⟨c,r,E,_⟩:=(d.Ml v x m).own
  grind
 ·intro v b k x B n m C J j w q h5 h6
  let⟨c,r,_,A⟩:=d.ph v x m C
  obtain rfl:=uniq r (z n);rw[(d.bk c B J).2.1]at h6;exact F ((A id).2 j w q h5 h6)
 ·intro v b k x fs n m C J w L
  let⟨c,r,_,A,_⟩:=(d.Ml v x m).own
  grind
 ·intro b B h m;rcases(d.bk b B h).2.2 with g|⟨_,_,A⟩|⟨r,_⟩
  ·omega
  ·simp_all
  ·omega
 ·intro b B fs h m C w L;rcases(d.bk b B h).2.2 with g|⟨r,_,_⟩|⟨_,_,ai,A,g4⟩
  ·omega
  ·omega
  simp_all
theorem G8:∀n i s,(params n i s).ee.length=s.ee.length+n/\(params n i s).ez=s.ez
 |0,_,_=>⟨rfl,rfl⟩
 | n+1,i,s=>by
   let⟨a,b⟩:=G8 n (i+1) (hO s (vl 1 0 0 (i:Nat) [] 0))
   grind[params,hO]
theorem PN(ops c:List Int) (n:Int):Good (zn ops c n):=by
 have d:=XE ops c n;have g:=G8 (iF n 5) 0 ⟨[],[],[],[],0⟩;have h:=rO n (m:=5) (by omega)
 let⟨r1,r2⟩:=BC ops (hO (params (iF n 5) 0 ⟨[],[],[],[],0⟩) (vl 2 0 0 5 [] 0))
 have e1:(hO (params (iF n 5) 0 ⟨[],[],[],[],0⟩) (vl 2 0 0 5 [] 0)).ee.length=iF n 5+1:=by
  simp only[hO,oQ,g.1];simp
 have e2:(hO (params (iF n 5) 0 ⟨[],[],[],[],0⟩) (vl 2 0 0 5 [] 0)).ez=[]:=g.2;have e:Xt ⟨row ops (hO (params (iF n 5) 0 ⟨[],[],[],[],0⟩) (vl 2 0 0 5 [] 0)),[],[]⟩ 0:=by
  have a:=r1.ee;have b:=r1.ez;rw[e1]at a b r2;rw[e2]at b;refine⟨by grind,?_,jv _⟩;show(row ops _).ez.length<=(row ops _).ee.length+0;simp at b;omega
 have f:=CU ops (c.take 6) e;have hlen:(c.take 6).length<=6:=by rw[Rh];omega
 unfold zn;simp only;generalize lh ops (c.take 6) ⟨row ops (hO (params (iF n 5) 0 ⟨[],[],[],[],0⟩) (vl 2 0 0 5 [] 0)),[],[]⟩=t at*
 let⟨D,pr,nx,hG,hn,hM⟩:=zbq ops d
 let⟨i,j,_⟩:=zH ops t.s
 have v:=f.ee;have s:=f.ez;have bl:=f.blocks;refine zbK hG hn hM (by simp[end_,on]) rfl ?_ ?_ ?_ 1 2
 ·show(fG ops t.s).2.ee.length<=3000
  grind
 ·show(fG ops t.s).2.ez.length<=1000;omega
 ·show(t.blocks++[_]).length<=300
  grind
theorem zbR(ops c:List Int) (n:Int):1<=(zn ops c n).ee.length/\(zn ops c n).ee.length<=210:=by
 constructor
 ·have g:=PN ops c n;have hs:∃(s:Nat) (fs:List Fm) (f:Fm),(zn ops c n).ez[s]? =some fs/\f∈fs/\∃v,v∈f.stack:=by
   unfold zn end_ fG;refine⟨_,_,_,wA6,EI.2 rfl,_,EI.2 rfl⟩
  obtain⟨s,fs,f,h,i,v,j⟩:=hs;obtain⟨x,o,_⟩:=((g.st s fs h).2.2 f i).2.2.2 v j
  grind
 ·have e:=G8 (iF n 5) 0 ⟨[],[],[],[],0⟩;have k:=rO n (m:=5) (by omega);obtain⟨r1,r2⟩:=BC ops (hO (params (iF n 5) 0 ⟨[],[],[],[],0⟩) (vl 2 0 0 5 [] 0));have e1:(hO (params (iF n 5) 0 ⟨[],[],[],[],0⟩) (vl 2 0 0 5 [] 0)).ee.length=iF n 5+1:=by
   simp only[hO,oQ,Qv,e.1];simp
  have e2:(hO (params (iF n 5) 0 ⟨[],[],[],[],0⟩) (vl 2 0 0 5 [] 0)).ez=[]:=e.2;have d:Xt ⟨row ops (hO (params (iF n 5) 0 ⟨[],[],[],[],0⟩) (vl 2 0 0 5 [] 0)),[],[]⟩ 0:=by
   have a:=r1.ee;have b:=r1.ez;rw[e1]at a b r2;rw[e2]at b;refine⟨by grind,?_,jv _⟩;show(row ops _).ez.length<=(row ops _).ee.length+0;simp at b;omega
  have l:=CU ops (c.take 6) d;unfold zn;simp only;generalize lh ops (c.take 6) ⟨row ops (hO (params (iF n 5) 0 ⟨[],[],[],[],0⟩) (vl 2 0 0 5 [] 0)),[],[]⟩=t at*;obtain⟨p,_,_⟩:=zH ops t.s;have v:=l.ee;show(fG ops t.s).2.ee.length<=210
  simp_all
open Dm
def On(l:List Bool)(v:Nat):Prop:=l[v]? =some true
theorem IK{l:List Bool} {v w:Nat} (hv:v<l.length) (b:Bool):On (l.set v b) w↔(w=v/\b=true)\/(w≠v/\On l w):=by
 grind[On,OY]
def hD(u:U) (v:Nat):Bool:=match u.ee[v]? with
 |some x=>kh x.op
 |none=>false
def jr(u:U) (b:Nat):List Nat:=match u.blocks[b]? with
 |some B=>B.ee
 |none=>[]
def jN(u:U)(t w:Nat):Prop:=w∈jr u t/\hD u w=true
def xI(u:U) (s:Nat):List Nat:=match u.ez[s]? with
 |some fs=>il fs
 |none=>[]
def Eg(u:U) (v:Nat):List Nat:=match u.ee[v]? with
 |some x=>kj x++(if leaves x.op=true then xI u x.state else[])
 |none=>[]
def ln(In H:Nat->Nat->Prop):List Nat->(Nat->Prop)->Nat->Prop
 |[],P=>P
 |t::ts,P=>ln In H ts λw=>(P w\/In t w)/\¬H t w
def MH(u:U)(b w:Nat):Prop:=∃t∈next u b,∃(B:Bk) (v:Nat) (x:Vl) (j:Nat),u.blocks[t]? =some B/\v∈B.ee/\u.ee[v]? =some x/\x.op=21/\B.fu[j]? =some b/\x.args[j]? =some w
def MS(u:U)(b w:Nat):Prop:=∃B,u.blocks[b]? =some B/\(B.fin=2/\w=B.cond\/B.fin=3/\w∈xI u B.state)
def O1(u:U)(H In:Nat->Nat->Prop)(b w:Nat):Prop:=ln In H (next u b) (λ_=>False) w\/MH u b w\/MS u b w
def bk(u:U):List Nat->(Nat->Prop)->Nat->Prop
 |[],P=>P
 |v::r,P=>if hD u v=true then P else bk u r λw=>(P w/\w≠v)\/w∈Eg u v
def JS(u:U)(b:Nat)(O:Nat->Prop):Nat->Prop:=bk u (jr u b).reverse O
def Tr(u:U)(H In:Nat->Nat->Prop)(b:Nat):Nat->Prop:=JS u b (O1 u H In b)
theorem Wg{In a H:Nat->Nat->Prop} (h:∀b w,In b w->a b w):∀{ts:List Nat} {P c:Nat->Prop},(∀w,P w->c w)->∀w,ln In H ts P w->ln a H ts c w
 |[],_,_,hp,w,hw=>hp w hw
 |_::ts,_,_,hp,w,hw=>Wg (ts:=ts) h (by grind) w hw
theorem Fy{In H a:Nat->Nat->Prop}:∀{ts:List Nat} {P:Nat->Prop},(∀t∈ts,∀w,H t w↔a t w)->∀w,ln In H ts P w↔ln In a ts P w
 |[],_,_,_=>Iff.rfl
 | t ::ts,P,h,w=>by
   have e:(λw=>(P w\/In t w)/\¬H t w)=λw=>(P w\/In t w)/\¬a t w:=by
     funext x;rw[h t (by simp) x]
   show ln In H ts _ w↔ln In a ts _ w;rw[e];exact Fy (by simp_all) w
theorem zap{In H:Nat->Nat->Prop}:∀{ts:List Nat} {P:Nat->Prop} {w:Nat},ln In H ts P w->P w\/∃t∈ts,In t w/\¬H t w
 |[],_,_,h=> .inl h
 | t::ts,P,w,h=>by
   rcases zap (ts:=ts) h with a|⟨t',a,b⟩
   ·grind
   grind
theorem Lr{u:U} {H In a:Nat->Nat->Prop} (h:∀b w,In b w->a b w) {b w:Nat} (d:O1 u H In b w):O1 u H a b w:=
 d.elim (λc=> .inl (Wg h (λ_ e=>e) w c)) λc=> .inr c
theorem A4{u:U}:∀{r:List Nat} {P a:Nat->Prop},(∀w,P w->a w)->∀w,bk u r P w->bk u r a w
 |[],_,_,h,w,hw=>h w hw
 | v::r,P,a,h,w,hw=>by
   unfold bk at hw⊢;split at hw
   ·simp_all
   ·rename_i e;rw[if_neg e];exact A4 (by grind) w hw
theorem Qp{u:U} {H In a:Nat->Nat->Prop} (h:∀b w,In b w->a b w) {b w:Nat} (c:Tr u H In b w):Tr u H a b w:=
 A4 (by grind[Lr]) w c
structure Uu (u:U) (H In:Nat->Nat->Prop):Prop where
 up:∀b w,In b w->Tr u H In b w
 least:∀X,(∀b w,b<u.blocks.length->Tr u H X b w->X b w)->∀b w,In b w->X b w
theorem Uu.start(u:U)(H:Nat->Nat->Prop):Uu u H λ_ _=>False:=⟨by simp_all,by simp_all⟩
def rW(In:Nat->Nat->Prop)(b:Nat)(P:Nat->Prop):Nat->Nat->Prop:=λc w=>(c=b/\P w)\/(c≠b/\In c w)
theorem Uu.step{u:U} {H In:Nat->Nat->Prop} (h:Uu u H In) {b:Nat} (i:b<u.blocks.length):Uu u H (rW In b (Tr u H In b)):=by
 have f:∀c w,In c w->rW In b (Tr u H In b) c w:=λc w a=>by
  by_cases e:c=b
  ·subst e;exact .inl ⟨rfl,h.up _ _ a⟩
  ·exact .inr ⟨e,a⟩
 refine⟨λc w a=>?_,λX g c w a=>?_⟩
 ·rcases a with⟨rfl,d⟩|⟨_,d⟩
  ·grind[Qp]
  ·exact Qp f (h.up _ _ d)
 ·rcases a with⟨rfl,d⟩|⟨_,d⟩
  ·exact g _ _ i (Qp (h.least X g) d)
  ·exact h.least X g _ _ d
structure rk (u:U) (H In Out:Nat->Nat->Prop):Prop where
 out:∀b w,b<u.blocks.length->(Out b w↔O1 u H In b w)
 Iu:∀b w,b<u.blocks.length->(In b w↔JS u b (Out b) w)
 least:∀X,(∀b w,b<u.blocks.length->Tr u H X b w->X b w)->∀b w,In b w->X b w
theorem rk.tr{u:U} {H In Out:Nat->Nat->Prop} (h:rk u H In Out) {b w:Nat} (a:b<u.blocks.length):In b w↔Tr u H In b w:=by
 rw[h.Iu b w a];exact⟨A4 (λx c=>(h.out b x a).1 c) w,A4 (λx c=>(h.out b x a).2 c) w⟩
theorem SE{u:U} {H c In:Nat->Nat->Prop} {b:Nat} (d:∀t∈next u b,∀w,H t w↔c t w) (w:Nat):Tr u H In b w↔Tr u c In b w:=
 ⟨A4 (λx a=>a.imp (by grind[Fy]) id) w,A4 (λx a=>a.imp (by grind[Fy]) id) w⟩
theorem rk.uniq{u:U} {H g In Out c a:Nat->Nat->Prop} (h:rk u H In Out) (h':rk u g c a) (j:∀b,∀t∈next u b,∀w,H t w↔g t w) {b w:Nat} (d:b<u.blocks.length):(In b w↔c b w)/\(Out b w↔a b w):=by
 have e:=h.least c λb w d i=>(h'.tr d).2 (by grind[SE]);have e':=h'.least In λb w d i=>(h.tr d).2 (by grind[SE]);refine⟨by grind,?_⟩;rw[h.out b w d,h'.out b w d];exact⟨λf=>(Lr e f).imp (by grind[Fy]) id,λf=>(Lr e' f).imp (by grind[Fy]) id⟩
theorem Pv{u:U} {b v:Nat}:v∈jr u b↔∃k,At u v b k:=by
 unfold jr At
 grind[oR]
theorem jJ{u:U} {b v k:Nat}:(jr u b)[k]? =some v↔At u v b k:=by
 grind[jr,At]
section
variable{u:U}(g:Good u)
include g
theorem Good.Ya{p b:Nat} (h:b∈next u p):p<u.blocks.length/\b<u.blocks.length/\b≠0:=by
 refine⟨?_,g.nx p b h,λe=>?_⟩
 ·grind[next,kE]
 ·subst e;have:=wu.2 h;rw[g.T4]at this;cases this
omit g in
theorem V0 {c p b:Nat} (h:Aw (next u) c b) (hc:c≠b) (e:b∈next u p):Aw (next u) c p:=λl hl=>by
 have:=h _ (.step hl e)
 simp_all
theorem Good.JA{v b k:Nat} (h:At u v b k):∃x,u.ee[v]? =some x/\hD u v=kh x.op:=by
 have:=g.DW v b k h
 simp_all[hD]
theorem Good.QQ{v b k:Nat} (h:At u v b k) (hv:hD u v=true):∀{w j:Nat},At u w b j->j<=k->hD u w=true:=by
 have f:∀n v k,At u v b k->hD u v=true->∀w j,At u w b j->j+n=k->hD u w=true:=by
  intro n
  induction n with
  | zero=>
    intro v k h hv w j a l;obtain rfl:j=k:=by omega
    let⟨B,c,d⟩:=h
    let⟨B',e,p⟩:=a
    simp_all
  | succ n m=>
    intro v k h hv w j a l;obtain⟨k,rfl⟩:∃i,k=i+1:=⟨k-1,by omega⟩
    let⟨B,c,d⟩:=h
    have o:k<B.ee.length:=by have:=(kE.1 d).1;omega
    have e:At u (B.ee[k]) b k:=⟨B,c,iz o⟩
    let⟨x,hx,ex⟩:=g.JA ⟨B,c,d⟩
    let⟨y,hy,ey⟩:=g.JA e
    rw[ex]at hv;exact m _ k e (by rw[ey];exact g.ZM _ _ _ _ _ _ ⟨B,c,d⟩ e hx hy hv) w j a (by omega)
 exact λ{w j} a l=>f (k-j) v k h hv w j a (by omega)
theorem Good.pw(b:Nat):(jr u b).reverse.Pairwise λx y=>hD u x=true->hD u y=true:=by
 rw[List.pairwise_reverse,wBW];intro i j hi a c h;exact g.QQ (jJ.1 (iz a)) h (jJ.1 (iz hi)) (by omega)
def Tx(u:U)(b w:Nat):Prop:=∃c j,At u w c j/\Aw (next u) c b/\(c=b->hD u w=true)
theorem Good.zaD{X:Nat->Nat->Prop} (n:∀b w,X b w->Tx u b w) {b w:Nat} (h:O1 u (jN u) X b w):∃c j,At u w c j/\Aw (next u) c b:=by
 rcases h with h|⟨t,d,B,v,x,j,i,f,a,l,m,o⟩|⟨B,d,i⟩
 ·rcases zap h with d|⟨t,d,i,f⟩
  ·exact d.elim
  ·let⟨c,j,a,l,m⟩:=n t w i
   refine⟨c,j,a,V0 l (λe=>?_) d⟩;subst e;exact f ⟨Pv.2 ⟨j,a⟩,m rfl⟩
 ·let⟨k,hk⟩:=Pv.1 (show v∈jr u t by unfold jr;rw[i];exact f)
  exact g.Z0 v t k x B hk a l i j w b o m
 ·rcases i with⟨f,rfl⟩|⟨f,a⟩
  ·exact g.Yw b B d f
  ·unfold xI at a;split at a
   ·rename_i fs p;exact g.Z8 b B fs d f p w a
   ·cases a
theorem Good.WT{b:Nat} {O:Nat->Prop} (C:∀w,O w->∃c j,At u w c j/\Aw (next u) c b) {w:Nat} (h:JS u b O w):Tx u b w:=by
 have r:∀l d P,jr u b=l++d->(∀w,P w->∃c j,At u w c j/\Aw (next u) c b/\(c=b->j<l.length\/hD u w=true))->∀w,bk u l.reverse P w->Tx u b w:=by
  intro l
  induction hl:l.length generalizing l with
  | zero=>
    intro d P _ p w m;obtain rfl:l=[]:=wAz hl
    let⟨c,j,f,i,o⟩:=p w m
    refine⟨c,j,f,i,λe=>?_⟩
    simp_all
  | succ n D =>
    intro d P hv p w m;obtain⟨s,v,rfl⟩:∃s v,l=s++[v]:=by
      rcases iQ l with rfl|h
      ·simp_all
      ·exact h
    have hs:s.length=n:=by simpa using hl
    have k:At u v b s.length:=jJ.1 (by simp_all);rw[List.reverse_append]at m;simp[ List.reverse_nil]at m;unfold bk at m;split at m
    ·rename_i t
     let⟨c,j,f,i,o⟩:=p w m
     refine⟨c,j,f,i,λe=>?_⟩;rcases o e with q|q
     ·subst e
      exact g.QQ k t f (by omega)
     ·exact q
    ·rename_i t
     refine D s hs (v::d) _ (by simp_all) (λx a=>?_) w m;rcases a with⟨a,oS⟩|a
     ·let ⟨c,j,f,i,o⟩:=p x a
      refine⟨c,j,f,i,λe=>?_⟩;rcases o e with q|q
      ·left
       rcases Tu j s.length with E|E
       ·omega
       ·exfalso
        obtain rfl:j=s.length:=by omega
        subst e
        let⟨B,e1,e2⟩:=f
        let⟨B',G,H⟩:=k
        simp_all
      simp_all
     ·unfold Eg at a
      let⟨y,hy,ey⟩:=g.JA k
      rw[hy] at a;simp only[xU]at a;have z:y.op≠21:=λe=>t (by rw[ey,e];rfl);have:Xh u x b s.length:=by
        rcases a with a|a
        ·exact g.Vy v b s.length y k hy z x a
        ·split at a
         ·rename_i A
          unfold xI at a;split at a
          ·rename_i fs F
           exact g.V9 v b s.length y fs k hy A F x a
          ·cases a
         ·cases a
      let⟨c,j,f,i⟩:=this
      rcases i with⟨rfl,i⟩|⟨i,o⟩
      ·grind[Aw.self]
      grind
 refine r (jr u b) [] O (by simp) (λw m=>?_) w h
 let⟨c,j,f,i⟩:=C w m
 refine⟨c,j,f,i,λe=> .inl ?_⟩;subst e;have:=jJ.2 f
 grind
theorem Good.zeH{In Out:Nat->Nat->Prop} (h:rk u (jN u) In Out) {b w:Nat} (a:In b w):Tx u b w:=
 h.least (Tx u) (λ_ _ _ a=>g.WT (λ_ c=>g.zaD (by simp_all) c) a) b w a
variable{In Out:Nat->Nat->Prop}(h:rk u (jN u) In Out)
include h
end
