/- Parts. -/
import Derived.Test.YtcoaokdoecgcbaaGreatDoorM12
set_option maxHeartbeats 4000000
namespace Go.Proofs.YtcoaokdoecgcbaaGreatDoor.Un
open Dm
variable{In H:Nat->Nat->Prop}{b:Nat}{nx:Nat->List Nat}{a:Nat->Nat->Prop}{v:Nat}{Out:Nat->Nat->Prop}{hi:Nat}{u:U}{p:Nat}{t:Dt}{n w:Nat}{α:Type}{c k':Nat}
def qX(nx:Nat->List Nat)(n b:Nat):List Nat:=(List.range n).flatMap λi=>((nx i).filter (·= b)).map λ_=>i
theorem yE(nx:Nat->List Nat) (n b:Nat):qX nx (n+1) b=qX nx n b++((nx n).filter (·= b)).map λ_=>n:=by
 grind[qX,wBn]
theorem Ag{ZV:Nat->List Nat} (n b:Nat) (h:∀i,i<n->ZV i=nx i):qX ZV n b=qX nx n b:=by
 induction n with
 |zero=>rfl
 |succ n a=>grind[yE]
theorem Po {q:Nat}:q∈qX nx n b↔q<n/\b∈nx q:=by
 unfold qX
 simp_all
theorem NC  (h:∀i,i<n->b ∉ nx i):qX nx n b=[]:=by
 simp_all[List.eq_nil_iff_forall_not_mem,Po]
inductive Pn (nx:Nat->List Nat) (n:Nat):Nat->List Nat->Prop
 |nil:Pn nx n 0 [0]
 |step {p b:Nat} {l:List Nat} (h:Pn nx n p l) (hp:p<n) (e:b∈nx p):Pn nx n b (b::l)
theorem Pn.mono{ZV:Nat->List Nat} {a:Nat} (c:n<=a) (d:∀i,i<n->ZV i=nx i):∀{b l},Pn nx n b l->Pn ZV a b l
 |_,_,.nil=> .nil
 |_,_,.step h hp e=> .step (h.mono c d) (by omega) (by simp_all)
structure Gh (D:Nat->Nat) (pr nx:Nat->List Nat) (hi:Nat):Prop where
 tree:∀p b,p<hi->b∈nx p->b<=hi/\b≠0/\rL D (D b) p
 down:∀b,b≠0->b<=hi->D b<b
 fj:∀b,b<=hi->pr b=qX nx hi b
 reach:∀b,b<=hi->∃l,Pn nx hi b l
 Qy:∀p,p<hi->(nx p).length=2->∀t∈nx p,(pr t).length=1
theorem DV{D D':Nat->Nat}  (hd:∀b,b≠0->b<=hi->D b<b) (c:∀b,b<=hi->D' b=D b) {x b:Nat} (h:rL D x b):b<=hi->rL D' x b:=by
 induction h with
 |refl=>exact λ_=> .refl _
 | up h0 _ d=>
   rename_i b _;intro a;have:=hd b h0 a;exact .up h0 (by grind)
theorem zc5  (h:Ow t v b):b<=t.blocks.length:=by
 rcases h with⟨B,a,_⟩|⟨a,_⟩
 ·grind
 ·omega
section
variable{D D':Nat->Nat}{pr nx pr' ZV:Nat->List Nat}{E:Nat->Prop}{t:Dt}
theorem qv.Yg(c:qv D pr nx E t) (z:Gh D pr nx t.blocks.length) (p:∀b,b<=t.blocks.length->D' b=D b) (k:∀b,b<=t.blocks.length->pr' b=pr b) (F:∀b,b<t.blocks.length->ZV b=nx b):qv D' pr' ZV E t:=by
 have kn:∀{a w},a<=t.blocks.length->Kn D t a w->Kn D' t a w:=λG ⟨b,x,l,A,m⟩=>⟨b,x,l,DV z.down p A G,m⟩
 refine⟨c.cat,λv x h=>?_,λv x h H=>?_,λb B h=>?_,λs fs h=>?_,by rw[k _ (jj _)];exact c.pc,c.ne,λw d=>kn (jj _) (c.kn w d)⟩
 ·have n:=c.N4 v x h
  let⟨b,l,A,m,I⟩:=n.own
  refine⟨n.op,n.putAt,n.par,b,l,by grind[zc5],λhl=>?_,I⟩
  grind[zc5]
 ·let⟨b,e,o,i⟩:=c.ph v x h H
  refine⟨b,e,o,λC=>?_⟩;rw[k b (zc5 e)];refine⟨(i C).1,λj w q e1 e2=>kn ?_ ((i C).2 j w q e1 e2)⟩;have:=Ap e2;rw[z.fj b (zc5 e)]at this
  grind[Po]
 ·have J:=(j6.1 h).1
  let⟨e,o,i⟩:=c.bk b B h
  refine⟨by simp_all,by grind,?_⟩;rcases i with g|⟨r,u,y⟩|⟨r,u,fs,y,K⟩
  ·exact .inl g
  ·exact .inr (.inl ⟨r,u,kn (by omega) y⟩)
  ·exact .inr (.inr ⟨r,u,fs,y,λw d=>kn (by omega) (K w d)⟩)
 ·let⟨e,o⟩:=c.st s fs h
  refine⟨e,λf L=>?_⟩
  let⟨i,M,N,O⟩:=o f L
  have own:∀w,(∃a,Kn D t a w)->∃a,Kn D' t a w:=λw ⟨a,b,x,l,_,m⟩=>⟨b,b,x,l,.refl _,m⟩
  exact⟨i,M,λw d=>own w (N w d),λw d=>own w (O w d)⟩
def ext(hi:Nat)(f:Nat->α)(g:Nat->α):Nat->α:=λb=>if b<=hi then f b else g (b-hi)
def ug(hi:Nat)(f:Nat->List Nat)(g:Nat->List Nat):Nat->List Nat:=λb=>if b<hi then f b else g (b-hi)
theorem mH{f g:Nat->α}(h:b<=hi):ext hi f g b=f b:=by simp_all[ext,if_pos]
theorem ik{k:Nat}{f g:Nat->α}(h:0<k):ext hi f g (hi+k)=g k:=by simp_all[ext,if_neg]
theorem AL{f g:Nat->List Nat}(h:b<hi):ug hi f g b=f b:=by simp_all[ug,if_pos]
theorem lQ{k:Nat}{f g:Nat->List Nat}:ug hi f g (hi+k)=g k:=by simp_all[ug,if_neg]
variable{hi:Nat}
theorem Gh.none(a:Gh D pr nx hi) {b:Nat} (d:hi<b):qX nx hi b=[]:=NC λi h c=>by
 have:=(a.tree i b h c).1;omega
def dF(hi:Nat)(k:Nat):Nat:=hi
def pF(hi k:Nat):List Nat:=if k=3 then[hi+1,hi+2] else[hi]
def nF(hi k:Nat):List Nat:=if k=0 then[hi+1,hi+2] else[hi+3]
theorem Gh.fork(a:Gh D pr nx hi):Gh (ext hi D (dF hi)) (ext hi pr (pF hi)) (ug hi nx (nF hi)) (hi+3):=by
 have dn:∀k,0<k->ext hi D (dF hi) (hi+k)=hi:=λk n=>ik n;have m:ug hi nx (nF hi) hi=[hi+1,hi+2]:=lQ (k:=0);have r:ug hi nx (nF hi) (hi+1)=[hi+3]:=lQ;have s:ug hi nx (nF hi) (hi+2)=[hi+3]:=lQ;have f:∀b,b<=hi->ext hi D (dF hi) b=D b:=λb h=>mH h;have yj:∀i,i<hi->ug hi nx (nF hi) i=nx i:=λi h=>AL h;have g:∀b,qX (ug hi nx (nF hi)) (hi+3) b=qX nx hi b++([hi+1,hi+2].filter (·= b)).map (λ_=>hi)++([hi+3].filter (·= b)).map (λ_=>hi+1)++([hi+3].filter (·= b)).map (λ_=>hi+2):=by simp_all[yE,Ag]
 have low:∀b,b<=hi+3->b<=hi\/b=hi+1\/b=hi+2\/b=hi+3:=by omega
 refine⟨λp b hp c=>?_,λb h0 c=>?_,λb c=>?_,λb c=>?_,λp hp hl t e=>?_⟩
 ·have d:p<hi\/p=hi\/p=hi+1\/p=hi+2:=by omega
  rcases d with h|rfl|rfl|rfl
  ·rw[yj p h]at c
   let⟨j,o,q⟩:=a.tree p b h c
   exact⟨by omega,o,by rw[f b j];exact DV a.down f q (by omega)⟩
  ·rw[m]at c;simp at c;rcases c with rfl|rfl
   ·exact⟨by omega,by omega,by rw[dn 1 (by omega)];exact .refl _⟩
   ·exact⟨by omega,by omega,by rw[dn 2 (by omega)];exact .refl _⟩
  ·grind[KQ]
  grind[KQ]
 ·rcases low b c with h|rfl|rfl|rfl
  ·rw[f b h];exact a.down b h0 h
  ·simp_all
  ·simp_all
  simp_all
 ·rw [g];rcases low b c with h|rfl|rfl|rfl
  ·rw[mH h,a.fj b h];have e2:¬hi+2=b:=by omega
   grind
  ·rw[ik (by omega),a.none (by omega)];simp[pF]
  ·rw[ik (by omega),a.none (by omega)];simp[pF]
  ·rw[ik (by omega),a.none (by omega)];simp[pF]
 ·let ⟨l,hl⟩:=a.reach hi (jj _)
  have h0:Pn (ug hi nx (nF hi)) (hi+3) hi l:=hl.mono (by omega) yj;have j:Pn (ug hi nx (nF hi)) (hi+3) (hi+1) ((hi+1)::l):= .step h0 (by omega) (by simp_all);rcases low b c with h|rfl|rfl|rfl
  ·let⟨l',hl'⟩:=a.reach b h
   exact⟨l',hl'.mono (by omega) yj⟩
  ·grind
  ·exact⟨_,.step h0 (by omega) (by simp_all)⟩
  ·exact⟨_,.step j (by omega) (by simp_all)⟩
 ·have d:p<hi\/p=hi\/p=hi+1\/p=hi+2:=by omega
  rcases d with h|rfl|rfl|rfl
  ·rw[yj p h]at hl e;rw[mH (a.tree p t h e).1];exact a.Qy p h hl t e
  ·rw[m]at e;simp at e;rcases e with rfl|rfl
   ·rw[ik (by omega)];rfl
   ·rw[ik (by omega)];rfl
  ·simp_all
  simp_all
def nX(hi k:Nat):List Nat:=if k=0 then[hi+1,hi+2] else[]
def pX(hi _k:Nat):List Nat:=[hi]
theorem Gh.exit(c:Gh D pr nx hi):Gh (ext hi D (dF hi)) (ext hi pr (pX hi)) (ug hi nx (nX hi)) (hi+2):=by
 have dn:∀k,0<k->ext hi D (dF hi) (hi+k)=hi:=λk m=>ik m;have j:ug hi nx (nX hi) hi=[hi+1,hi+2]:=lQ (k:=0);have r:ug hi nx (nX hi) (hi+1)=[]:=lQ;have f:∀b,b<=hi->ext hi D (dF hi) b=D b:=λb h=>mH h;have yj:∀i,i<hi->ug hi nx (nX hi) i=nx i:=λi h=>AL h;have g:∀b,qX (ug hi nx (nX hi)) (hi+2) b=qX nx hi b++([hi+1,hi+2].filter (·= b)).map (λ_=>hi):=by simp_all[yE,Ag]
 have low:∀b,b<=hi+2->b<=hi\/b=hi+1\/b=hi+2:=by omega
 refine⟨λp b hp a=>?_,λb h0 a=>?_,λb a=>?_,λb a=>?_,λp hp hl t e=>?_⟩
 ·have d:p<hi\/p=hi\/p=hi+1:=by omega
  rcases d with h|rfl|rfl
  ·rw[yj p h]at a
   let⟨n,o,q⟩:=c.tree p b h a
   exact⟨by omega,o,by rw[f b n];exact DV c.down f q (by omega)⟩
  ·rw[j]at a;simp at a;rcases a with rfl|rfl
   ·exact⟨by omega,by omega,by rw[dn 1 (by omega)];exact .refl _⟩
   ·exact⟨by omega,by omega,by rw[dn 2 (by omega)];exact .refl _⟩
  simp_all
 ·rcases low b a with h|rfl|rfl
  ·rw[f b h];exact c.down b h0 h
  ·simp_all
  simp_all
 ·rw [g];rcases low b a with h|rfl|rfl
  ·rw[mH h,c.fj b h]
   grind
  ·rw[ik (by omega),c.none (by omega)];simp[pX]
  ·rw[ik (by omega),c.none (by omega)];simp[pX]
 ·let ⟨l,hl⟩:=c.reach hi (jj _)
  have h0:Pn (ug hi nx (nX hi)) (hi+2) hi l:=hl.mono (by omega) yj;rcases low b a with h|rfl|rfl
  ·let⟨l',hl'⟩:=c.reach b h
   exact⟨l',hl'.mono (by omega) yj⟩
  ·exact⟨_,.step h0 (by omega) (by simp_all)⟩
  ·exact⟨_,.step h0 (by omega) (by simp_all)⟩
 ·have d:p<hi\/p=hi\/p=hi+1:=by omega
  rcases d with h|rfl|rfl
  ·rw[yj p h]at hl e;rw[mH (c.tree p t h e).1];exact c.Qy p h hl t e
  ·rw[j]at e;simp at e;rcases e with rfl|rfl
   ·rw[ik (by omega)];rfl
   ·rw[ik (by omega)];rfl
  simp_all
def dL(hi k:Nat):Nat:=if k=1 then hi else hi+1
def pL(hi k:Nat):List Nat:=if k=1 then[hi,hi+2] else[hi+1]
def nL(hi k:Nat):List Nat:=if k=1 then[hi+2,hi+3] else[hi+1]
theorem Gh.loop(c:Gh D pr nx hi):Gh (ext hi D (dL hi)) (ext hi pr (pL hi)) (ug hi nx (nL hi)) (hi+3):=by
 have d:ext hi D (dL hi) (hi+1)=hi:=ik (by omega);have j:ext hi D (dL hi) (hi+2)=hi+1:=ik (by omega);have m:ext hi D (dL hi) (hi+3)=hi+1:=ik (by omega);have r:ug hi nx (nL hi) hi=[hi+1]:=lQ (k:=0);have q:ug hi nx (nL hi) (hi+1)=[hi+2,hi+3]:=lQ;have s:ug hi nx (nL hi) (hi+2)=[hi+1]:=lQ;have n:∀b,b<=hi->ext hi D (dL hi) b=D b:=λb h=>mH h;have yj:∀i,i<hi->ug hi nx (nL hi) i=nx i:=λi h=>AL h;have o:∀b,qX (ug hi nx (nL hi)) (hi+3) b=qX nx hi b++([hi+1].filter (·= b)).map (λ_=>hi)++([hi+2,hi+3].filter (·= b)).map (λ_=>hi+1)++([hi+1].filter (·= b)).map (λ_=>hi+2):=by simp_all[yE,Ag]
 have low:∀b,b<=hi+3->b<=hi\/b=hi+1\/b=hi+2\/b=hi+3:=by omega
 refine⟨λp b hp a=>?_,λb h0 a=>?_,λb a=>?_,λb a=>?_,λp hp hl t f=>?_⟩
 ·have e:p<hi\/p=hi\/p=hi+1\/p=hi+2:=by omega
  rcases e with h|rfl|rfl|rfl
  ·rw[yj p h]at a
   let⟨g,u,v⟩:=c.tree p b h a
   exact⟨by omega,u,by rw[n b g];exact DV c.down n v (by omega)⟩
  ·rw[r]at a;simp at a;subst a;exact⟨by omega,by omega,by rw[d];exact .refl _⟩
  ·rw[q]at a;simp at a;rcases a with rfl|rfl
   ·exact⟨by omega,by omega,by rw[j];exact .refl _⟩
   ·exact⟨by omega,by omega,by rw[m];exact .refl _⟩
  ·rw[s]at a;simp at a;subst a;exact⟨by omega,by omega,by rw[d];exact(KQ (by omega) d).trans (by grind[KQ])⟩
 ·rcases low b a with h|rfl|rfl|rfl
  ·rw[n b h];exact c.down b h0 h
  ·omega
  ·omega
  omega
 ·rw [o];rcases low b a with h|rfl|rfl|rfl
  ·rw[mH h,c.fj b h];have e1:¬hi+1=b:=by omega
   have e2:¬hi+2=b:=by omega
   have w:¬hi+3=b:=by omega
   simp_all
  ·rw[ik (by omega),c.none (by omega)];simp[pL]
  ·rw[ik (by omega),c.none (by omega)];simp[pL]
  ·rw[ik (by omega),c.none (by omega)];simp[pL]
 ·let ⟨l,hl⟩:=c.reach hi (jj _)
  have h0:Pn (ug hi nx (nL hi)) (hi+3) hi l:=hl.mono (by omega) yj;have g:Pn (ug hi nx (nL hi)) (hi+3) (hi+1) ((hi+1)::l):= .step h0 (by omega) (by simp_all);rcases low b a with h|rfl|rfl|rfl
  ·let⟨l',hl'⟩:=c.reach b h
   exact⟨l',hl'.mono (by omega) yj⟩
  ·grind
  ·exact⟨_,.step g (by omega) (by simp_all)⟩
  ·exact⟨_,.step g (by omega) (by simp_all)⟩
 ·have e:p<hi\/p=hi\/p=hi+1\/p=hi+2:=by omega
  rcases e with h|rfl|rfl|rfl
  ·rw[yj p h]at hl f;rw[mH (c.tree p t h f).1];exact c.Qy p h hl t f
  ·simp_all
  ·rw[q]at f;simp at f;rcases f with rfl|rfl
   ·rw[ik (by omega)];rfl
   ·rw[ik (by omega)];rfl
  simp_all
def noE:Nat->Prop:=λ_=>False
def Ok(t:Dt):Prop:=∃D pr nx,Gh D pr nx t.blocks.length/\qv D pr nx noE t
theorem Ok.fork (ops:List Int) (h:Ok t):Ok (fork ops t):=by
 let⟨D,pr,nx,hG,hM⟩:=h
 generalize a:t.blocks.length=hi at*;have b:=hM.Yg (D':=ext hi D (dF hi)) (pr':=ext hi pr (pF hi)) (ZV:=ug hi nx (nF hi)) (by simp_all) (by grind[mH]) (by grind[mH]) (by grind[AL])
 let ⟨c,d⟩:=zdd b ops (by rw[a];exact lQ (k:=0)) (by rw[a];exact lQ) (by rw[a];exact lQ) (by rw[a];exact ik (by omega)) (by rw[a];exact ik (by omega)) (by rw[a];exact ik (by omega))
  (by rw[a];exact ik (by omega)) (by rw[a];exact ik (by omega)) (by rw[a];exact ik (by omega))
 exact⟨_,_,_,by rw[d,a];exact hG.fork,c⟩
theorem Ok.exit (ops:List Int) (h:Ok t):Ok (zM ops t):=by
 let⟨D,pr,nx,hG,hM⟩:=h
 generalize a:t.blocks.length=hi at*;have b:=hM.Yg (D':=ext hi D (dF hi)) (pr':=ext hi pr (pX hi)) (ZV:=ug hi nx (nX hi)) (by simp_all) (by grind[mH]) (by grind[mH]) (by grind[AL])
 let ⟨c,d⟩:=zcr b ops (by rw[a];exact lQ (k:=0)) (by rw[a];exact lQ) (by rw[a];exact ik (by omega)) (by rw[a];exact ik (by omega))
  (by rw[a];exact ik (by omega)) (by rw[a];exact ik (by omega))
 exact⟨_,_,_,by rw[d,a];exact hG.exit,c⟩
theorem Ok.loop (ops:List Int) (h:Ok t):Ok (loop ops t):=by
 let⟨D,pr,nx,hG,hM⟩:=h
 generalize a:t.blocks.length=hi at*;have b:=hM.Yg (D':=ext hi D (dL hi)) (pr':=ext hi pr (pL hi)) (ZV:=ug hi nx (nL hi)) (by simp_all) (by grind[mH]) (by grind[mH]) (by grind[AL])
 let ⟨c,d⟩:=zcg b ops (by rw[a];exact lQ (k:=0)) (by rw[a];exact lQ) (by rw[a];exact lQ) (by rw[a];exact ik (by omega)) (by rw[a];exact ik (by omega)) (by rw[a];exact ik (by omega))
  (by rw[a];exact ik (by omega)) (by rw[a];exact ik (by omega)) (by rw[a];exact ik (by omega))
 exact⟨_,_,_,by rw[d,a];exact hG.loop,c⟩
theorem Ok.kY(ops:List Int):∀l {t:Dt},Ok t->Ok (kY ops l t)
 |[],_,h=>h
 | k ::l,t,h=>by
   unfold Un.kY;split
   ·refine Ok.kY ops l ?_
    unfold tW;split
    ·exact h.fork ops
    split
    ·exact h.loop ops
    ·exact h.exit ops
   ·exact h
def t0(s:Ds):Dt:=⟨s,[],[]⟩
structure Ps (s:Ds) (i:Nat):Prop where
 ee:s.ee.length=i
 all:∀v x,s.ee[v]? =some x->x=vl 1 0 0 (v:Nat) [] 0
 cur:s.cur=List.range i
 known:s.known=List.range i
 ez:s.ez=[]
theorem QK:∀n i s,Ps s i->Ps (params n i s) (i+n)
 |0,i,s,h=>h
 | n + 1,i,s,h=>by
   have:=QK n (i+1) (ig s (vl 1 0 0 (i:Nat) [] 0)) ⟨by simp[ig,h.ee],λv x hv=>?_,by simp[ig];rw[h.cur,h.ee,wBn],by simp[ig];rw[h.known,h.ee,wBn],h.ez⟩
   ·rw[show i+(n+1)=i+1+n by omega]
    exact this
   ·have a:(s.ee++[vl 1 0 0 (i:Nat) [] 0])[v]? =some x:=hv
    by_cases FX:v<s.ee.length
    ·rw[VQ FX]at a
     exact h.all v x a
    ·have c:=(j6.1 a).1
     simp at c;have b:v=s.ee.length:=by omega
     subst b;rw[wBC]at a;rw[h.ee]
     simp_all
theorem gh0:Gh (λ_=>0) (λ_=>[]) (λ_=>[]) 0:=
 ⟨by omega,by omega,λb a=>rfl,λb a=>by
  obtain rfl:b=0:=by omega
  exact⟨[0],.nil⟩,by omega⟩
theorem zbJ{s:Ds}  (h:Ps s n) (o:n<=5):qv (λ_=>0) (λ_=>[]) (λ_=>[]) noE (t0 (ig s (vl 2 0 0 5 [] 0))):=by
 have c:(t0 (ig s (vl 2 0 0 5 [] 0))).s.ee=s.ee++[vl 2 0 0 5 [] 0]:=rfl;have d:(t0 (ig s (vl 2 0 0 5 [] 0))).s.cur=List.range (n+1):=by
  show s.cur++[s.ee.length]=_;rw[h.cur,h.ee,wBn]
 have hlen:(t0 (ig s (vl 2 0 0 5 [] 0))).s.ee.length=n+1:=by rw[c];simp[h.ee]
 have a:∀v x,(t0 (ig s (vl 2 0 0 5 [] 0))).s.ee[v]? =some x->(v<n/\x=vl 1 0 0 (v:Nat) [] 0)\/(v=n/\x=vl 2 0 0 5 [] 0):=λv x hv=>by
  rw[c]at hv;by_cases e:v<s.ee.length
  ·rw[VQ e]at hv;exact .inl ⟨by simp_all,h.all v x hv⟩
  grind
 have j:∀v,v<n+1->Ow (t0 (ig s (vl 2 0 0 5 [] 0))) v 0:=λv hv=> .inr ⟨rfl,by simp_all⟩;have k:∀v,v<n+1->Kn (λ_=>0) (t0 (ig s (vl 2 0 0 5 [] 0))) 0 v:=λv hv=>by
  have i:∃x,(t0 (ig s (vl 2 0 0 5 [] 0))).s.ee[v]? =some x:=by simp_all
  let⟨x,i⟩:=i
  refine⟨0,x,j v hv,.refl _,i,?_⟩;rcases a v x i with⟨_,rfl⟩|⟨_,rfl⟩ <;> rfl
 refine⟨?_,λv x hv=>?_,λv x hv p=>?_,λb B m=>(by cases m),λst fs hs=>?_,rfl,?_,λw l=>?_⟩
 ·rw[hlen,d];rfl
 ·rcases a v x hv with⟨e,rfl⟩|⟨rfl,rfl⟩
  ·refine⟨by simp[vl],by grind[vl],λ_=>⟨by grind,rfl,by omega⟩,0,by grind,by grind[jq,vl,two,tZ],by grind[vl,leaves],λ_ w _ l=>?_⟩
   grind[t0,ig,vl,hN]
  ·exact⟨by simp[vl],by grind[vl],by grind[vl],0,by simp_all,by grind[jq,vl,two,tZ],by grind[vl,leaves],by grind[vl,iX]⟩
 ·rcases a v x hv with⟨_,rfl⟩|⟨_,rfl⟩
  ·grind[vl]
  grind[vl]
 ·have f:s.ez[st]? =some fs:=hs;rw[h.ez]at f;cases f
 ·show s.known++[s.ee.length]≠[];simp
 ·have g:w∈s.known++[s.ee.length]:=l;rw[h.known,h.ee,<-wBn]at g;exact k w (List.mem_range.1 g)
theorem YL(ops a:List Int) (n:Int):Ok (kY ops (a.take 6) ⟨row ops (ig (params (jD n 5) 0 ⟨[],[],[],[],0⟩) (vl 2 0 0 5 [] 0)),[],[]⟩):=by
 have h0:Ps ⟨[],[],[],[],0⟩ 0:=⟨rfl,by simp_all,rfl,rfl,rfl⟩
 have b:=QK (jD n 5) 0 _ h0;rw[Gg]at b;have c:=zbJ b (by simp_all[Nat.le_of_lt,yJ])
 let⟨d,_⟩:=c.row ops
 exact Ok.kY ops _ ⟨_,_,_,gh0,d⟩
theorem XV:∀(l:List Bk),(l.flatMap λB=>B.ee).Pairwise (·< ·)->∀(b d k k':Nat) B B' v v',l[b]? =some B->l[d]? =some B'->B.ee[k]? =some v->B'.ee[k']? =some v'->(b<d->v<v')/\(b=d->k<k'->v<v')
 |[],_,b,_,_,_,_,_,_,_,h,_,_,_=>by simp_all
 | C ::l,hp,b,d,k,k',B,B',v,v',c,a,g,i=>by
   rw[Ob,List.pairwise_append]at hp
   let⟨p1,p2,p3⟩:=hp
   match b,d,c,a with
   | 0,0,c,a=>
     obtain rfl:C=B:=by simp_all
     obtain rfl:C=B':=by simp_all
     grind[wBK]
   | 0,n+1,c,a=>
     obtain rfl:C=B:=by simp_all
     have e:l[n]? =some B':=by simpa using a
     refine⟨λ_=>p3 v (Ap g) v' (by grind),by omega⟩
   |n+1,0,c,a=>omega
   | n+1,m+1,c,a=>
     have f:l[n]? =some B:=by simpa using c
     have e:l[m]? =some B':=by simpa using a
     have:=XV l p2 n m k k' B B' v v' f e g i;omega
end
section
variable{u:U}(hc:u.blocks.flatMap (λB=>B.ee)=List.range u.ee.length)
include hc
theorem DJ{a k:Nat} (h:At u v b k) (h':At u a c k'):(b<c->v<a)/\(b=c->k<k'->v<a):=by
 let⟨B,d,e⟩:=h
 let⟨B',f,g⟩:=h'
 grind[XV,List.pairwise_lt_range]
theorem Yv{a k:Nat} (h:At u v b k) (h':At u v a k'):b=a/\k=k':=by
 have e1:=(DJ hc h h').1;have e2:=(DJ hc h' h).1;have c:b=a:=by
  rcases wB0 b a with h|h|h
  ·omega
  ·exact h
  ·omega
 have d:=(DJ hc h h').2 c;have e:=(DJ hc h' h).2 c.symm;omega
theorem zbw{a k:Nat} (h:At u v b k) (h':At u a b k') (c:v<a):k<k':=by
 rcases wB0 k k' with g|g|g
 ·exact g
 ·subst g
  let⟨B,d,e⟩:=h
  let⟨B',f,i⟩:=h'
  simp_all
 ·have:=(DJ hc h' h).2 rfl g;omega
theorem za4 (hv:v<u.ee.length):∃b k,At u v b k:=by
 have:v∈u.blocks.flatMap (λB=>B.ee):=by rw[hc];exact List.mem_range.2 hv
 let⟨B,a,c⟩:=Rb.1 this
 let⟨b,hb⟩:=mG.1 a
 let⟨k,hk⟩:=mG.1 c
 exact⟨b,k,B,hb,hk⟩
theorem zfG{k:Nat} (h:At u v b k):v<u.ee.length:=by
 let⟨B,a,c⟩:=h
 have:v∈u.blocks.flatMap (λB=>B.ee):=by grind
 simp_all
end
theorem GK(ops:List Int):∀i s l,∃p,(some_ ops i s l).2 = {s with pos:=p}
 |0,s,_=>⟨s.pos,rfl⟩
 |i+1,s,l=>GK ops i (fO ops s).2 (l++[(fO ops s).1])
theorem Bh(ops:List Int) (s:Ds):(fI ops s).2.ee=s.ee/\(fI ops s).2.ez.length=s.ez.length+1/\(fI ops s).2.cur=s.cur:=by
 let⟨p,hp⟩:=GK ops (num ops s 4).1 (num ops s 4).2 []
 unfold fI;simp only;rw[hp];exact⟨rfl,by simp,rfl⟩
structure Sz (s s':Ds):Prop where
 ee:s.ee.length<=s'.ee.length
 ez:s'.ez.length+s.ee.length<=s.ez.length+s'.ee.length
theorem Sz.refl(s:Ds):Sz s s:=⟨jj _,jj _⟩
theorem Sz.trans{s s' e:Ds} (f:Sz s s') (g:Sz s' e):Sz s e:=by
 have a:=f.ee;have b:=g.ee;have c:=f.ez;have d:=g.ez;exact⟨by omega,by omega⟩
theorem zcs(ops:List Int) (s:Ds) (k a b:Nat):(tF ops s k a b).ee.length=s.ee.length+1/\(tF ops s k a b).ez.length<=s.ez.length+1:=by
 grind[Bh,tF,ig,num,put,fO]
theorem Xe(ops:List Int):∀i s,Sz s (rows ops i s)/\(rows ops i s).ee.length<=max s.ee.length 200
 |0,s=>⟨.refl s,by show s.ee.length<=_;omega⟩
 | i + 1,s=>by
   unfold rows;split
   ·rename_i b
    let⟨c,d⟩:=Xe ops i (uJ ops s)
    have a:=zcs ops (num ops (fO ops (fO ops s).2).2 20).2 (num ops (fO ops (fO ops s).2).2 20).1 (fO ops s).1 (fO ops (fO ops s).2).1;have e:(uJ ops s).ee.length=s.ee.length+1:=a.1;have f:(uJ ops s).ez.length<=s.ez.length+1:=a.2;exact⟨Sz.trans ⟨by omega,by omega⟩ c,by omega⟩
   ·exact⟨.refl s,by omega⟩
theorem Cq(ops:List Int) (s:Ds):Sz s (row ops s)/\(row ops s).ee.length<=max s.ee.length 200:=by
 let⟨a,b⟩:=Xe ops (1+(num ops s 6).1) (num ops s 6).2
 exact⟨⟨a.ee,a.ez⟩,b⟩
structure ZJ (t:Dt) (m:Nat):Prop where
 ee:t.s.ee.length<=210
 ez:t.s.ez.length<=t.s.ee.length+t.blocks.length
 blocks:t.blocks.length<=m
theorem zbB(ops:List Int) {t:Dt} {m:Nat} (h:ZJ t m) (hv:t.s.ee.length<160):ZJ (fork ops t) (m+3):=by
 let⟨x,y,z⟩:=h
 unfold fork;simp only;have p:=Cq ops (end_ {t with s:=(fO ops t.s).2} 2 (fO ops t.s).1 [t.blocks.length+1,t.blocks.length+2] 0 [t.blocks.length]).s;generalize q:row ops (end_ {t with s:=(fO ops t.s).2} 2 (fO ops t.s).1 [t.blocks.length+1,t.blocks.length+2] 0 [t.blocks.length]).s=s1 at*;have r:s1.ez.length+t.s.ee.length<=t.s.ez.length+s1.ee.length:=p.1.ez;have u:s1.ee.length<=max t.s.ee.length 200:=p.2;generalize c:end_ {s:=cut t.s.known.length s1,blocks:=(end_ {t with s:=(fO ops t.s).2} 2 (fO ops t.s).1 [t.blocks.length+1,t.blocks.length+2] 0 [t.blocks.length]).blocks,fj:=(end_ {t with s:=(fO ops t.s).2} 2 (fO ops t.s).1 [t.blocks.length+1,t.blocks.length+2] 0 [t.blocks.length]).fj} 1 0 [t.blocks.length+3] 0 [t.blocks.length]=a at*;have A:a.blocks.length=t.blocks.length+2:=by rw[<-c];simp[end_]
 have v:a.s.ee=s1.ee:=by rw[<-c];rfl
 have w:a.s.ez=s1.ez:=by rw[<-c];rfl
 have f:=Cq ops a.s;generalize row ops a.s=b at*;have g:=f.1.ee;have d:=f.1.ez;have i:=f.2;rw[v]at g d i;rw[w]at d;have j:=Cq ops (ig (end_ {s:=cut t.s.known.length b,blocks:=a.blocks,fj:=a.fj} 1 0 [t.blocks.length+3] 0 [t.blocks.length+1,t.blocks.length+2]).s (vl 21 0 0 0 [s1.known.getLastD 0,b.known.getLastD 0] 0));have k:(ig (end_ {s:=cut t.s.known.length b,blocks:=a.blocks,fj:=a.fj} 1 0 [t.blocks.length+3] 0 [t.blocks.length+1,t.blocks.length+2]).s (vl 21 0 0 0 [s1.known.getLastD 0,b.known.getLastD 0] 0)).ee.length=b.ee.length+1:=by simp[ig,end_,cut]
 have l:(ig (end_ {s:=cut t.s.known.length b,blocks:=a.blocks,fj:=a.fj} 1 0 [t.blocks.length+3] 0 [t.blocks.length+1,t.blocks.length+2]).s (vl 21 0 0 0 [s1.known.getLastD 0,b.known.getLastD 0] 0)).ez.length=b.ez.length:=by simp[ig,end_,cut]
 have n:=j.1.ee;have e:=j.1.ez;have o:=j.2;rw[k]at n e o;rw[l]at e;refine⟨?_,?_,?_⟩
 ·grind
 ·show(row ops _).ez.length<=(row ops _).ee.length+(a.blocks++[_]).length
  grind
 ·show(a.blocks++[_]).length<=m+3
  simp_all
theorem zb9(ops:List Int) {t:Dt} {m:Nat} (h:ZJ t m) (hv:t.s.ee.length<160):ZJ (zM ops t) (m+3):=by
 let⟨q,r,u⟩:=h
 unfold zM;simp only;have g:=Cq ops (end_ {t with s:=(fO ops t.s).2} 2 (fO ops t.s).1 [t.blocks.length+1,t.blocks.length+2] 0 [t.blocks.length]).s;generalize i:row ops (end_ {t with s:=(fO ops t.s).2} 2 (fO ops t.s).1 [t.blocks.length+1,t.blocks.length+2] 0 [t.blocks.length]).s=s1 at*;have j:s1.ez.length+t.s.ee.length<=t.s.ez.length+s1.ee.length:=g.1.ez;have k:s1.ee.length<=max t.s.ee.length 200:=g.2
 let⟨l,n,_⟩:=Bh ops s1
 generalize a:end_ {s:=cut t.s.known.length (fI ops s1).2,blocks:=(end_ {t with s:=(fO ops t.s).2} 2 (fO ops t.s).1 [t.blocks.length+1,t.blocks.length+2] 0 [t.blocks.length]).blocks,fj:=(end_ {t with s:=(fO ops t.s).2} 2 (fO ops t.s).1 [t.blocks.length+1,t.blocks.length+2] 0 [t.blocks.length]).fj} 3 0 [] (fI ops s1).1 [t.blocks.length]=c at*;have v:c.blocks.length=t.blocks.length+2:=by rw[<-a];simp[end_]
 have o:c.s.ee=s1.ee:=by rw[<-a];exact l
 have p:c.s.ez.length=s1.ez.length+1:=by rw[<-a];exact n
 have d:=Cq ops c.s;have e:=d.1.ee;have b:=d.1.ez;have f:=d.2;rw[o]at e b f;rw[p]at b;refine⟨?_,?_,?_⟩
 ·grind
 ·grind
 grind
theorem Fp(s:Ds)(v:Nat)(args:List Nat):(setArgs s v args).ee.length=s.ee.length/\(setArgs s v args).ez=s.ez:=⟨by simp[setArgs,List.length_modify],rfl⟩
theorem zaf(ops:List Int) {t:Dt} {m:Nat} (h:ZJ t m) (hv:t.s.ee.length<160):ZJ (loop ops t) (m+3):=by
 let⟨G,H,I⟩:=h
 unfold loop;simp only;generalize e:end_ {t with s:=(fO ops t.s).2} 1 0 [t.blocks.length+1] 0 [t.blocks.length,t.blocks.length+2]=b at*;have z:b.blocks.length=t.blocks.length+1:=by rw[<-e];simp[end_]
 have A:b.s.ee=t.s.ee:=by rw[<-e];rfl
 have s1:b.s.ez=t.s.ez:=by rw[<-e];rfl
 generalize i:({put (fO ops (put b.s (vl 21 0 0 0 [(fO ops t.s).1,0] 0))).2 (vl 21 0 0 0 [(fO ops (put b.s (vl 21 0 0 0 [(fO ops t.s).1,0] 0))).1,b.s.ee.length] 0)with known:=(put (fO ops (put b.s (vl 21 0 0 0 [(fO ops t.s).1,0] 0))).2 (vl 21 0 0 0 [(fO ops (put b.s (vl 21 0 0 0 [(fO ops t.s).1,0] 0))).1,b.s.ee.length] 0)).known++[b.s.ee.length,b.s.ee.length+1]}:Ds)=f at*;have B:f.ee.length=t.s.ee.length+2:=by rw[<-i,<-A];simp[put,fO]
 have n:f.ez=t.s.ez:=by rw[<-i,<-s1];rfl
 let⟨C,D,_⟩:=Bh ops f
 generalize j:ig (put (put (fI ops f).2 (vl 23 0 0 0 [] (fI ops f).1)) (vl 2 0 0 1 [] 0)) (vl 4 b.s.ee.length (put (fI ops f).2 (vl 23 0 0 0 [] (fI ops f).1)).ee.length 0 [] 0)=d at*;have J:d.ee.length=t.s.ee.length+5:=by rw[<-j];simp[ig,put,C,B]
 have E:d.ez.length=t.s.ez.length+1:=by rw[<-j,<-n,<-D];rfl
 generalize g:end_ {s:=d,blocks:=b.blocks,fj:=b.fj} 2 b.s.ee.length [t.blocks.length+2,t.blocks.length+3] 0 [t.blocks.length+1]=c at*;have K:c.blocks.length=t.blocks.length+2:=by rw[<-g];simp[end_,z]
 have F:c.s.ee=d.ee:=by rw[<-g];rfl
 have o:c.s.ez=d.ez:=by rw[<-g];rfl
 have p:=Cq ops c.s;generalize row ops c.s=y at*;have q:=p.1.ee;have k:=p.1.ez;have r:=p.2;rw[F]at q k r;rw[o]at k;have u:∀a,a.ee.length=y.ee.length->a.ez=y.ez->ZJ {s:=row ops (end_ {s:=cut d.known.length a,blocks:=c.blocks,fj:=c.fj} 1 0 [t.blocks.length+1] 0 [t.blocks.length+1]).s,blocks:=(end_ {s:=cut d.known.length a,blocks:=c.blocks,fj:=c.fj} 1 0 [t.blocks.length+1] 0 [t.blocks.length+1]).blocks,fj:=(end_ {s:=cut d.known.length a,blocks:=c.blocks,fj:=c.fj} 1 0 [t.blocks.length+1] 0 [t.blocks.length+1]).fj} (m+3):=by
  intro a e1 e2;have v:=Cq ops (end_ {s:=cut d.known.length a,blocks:=c.blocks,fj:=c.fj} 1 0 [t.blocks.length+1] 0 [t.blocks.length+1]).s;have w:a.ee.length<=_:=v.1.ee;have l:_+a.ee.length<=a.ez.length+_:=v.1.ez;have x:_<=max a.ee.length 200:=v.2;rw[e1]at w l x;rw[e2]at l;refine⟨?_,?_,?_⟩
  ·grind
  ·show(row ops _).ez.length<=(row ops _).ee.length+(c.blocks++[_]).length
   grind
  ·show(c.blocks++[_]).length<=m+3
   simp_all
 refine u _ ?_ ?_
 ·rw[(Fp _ _ _).1];split
  ·rw[(Fp _ _ _).1];exact(Fp _ _ _).1
  ·exact(Fp _ _ _).1
 ·rw[(Fp _ _ _).2];split
  ·rfl
  ·rfl
theorem EL(ops:List Int):∀l {t:Dt} {m:Nat},ZJ t m->ZJ (kY ops l t) (m+3*l.length)
 |[],t,m,h=>h
 | k ::l,t,m,h=>by
   unfold kY;split
   ·rename_i hv
    have a:ZJ (tW ops (jD k 3) t) (m+3):=by
      unfold tW;split
      ·grind[zbB]
      split
      ·grind[zaf]
      ·grind[zb9]
    have:=EL ops l a
    grind
   ·exact⟨h.ee,h.ez,by have:=h.blocks;omega⟩
theorem zdo (ops:List Int) (h:Ok t):∃D pr nx,Gh D pr nx t.blocks.length/\nx t.blocks.length=[]/\qv D pr nx noE (end_ (on t (fI ops t.s).2) 3 0 [] (fI ops t.s).1 []):=by
 let⟨D,pr,nx,hG,hM⟩:=h
 generalize j:t.blocks.length=hi at*;have c:∀b,b<=hi->ext hi D (dF hi) b=D b:=λb h=>mH h;have yj:∀i,i<hi->ug hi nx (λ_=>[]) i=nx i:=λi h=>AL h;have m:Gh (ext hi D (dF hi)) (ext hi pr λ_=>[]) (ug hi nx λ_=>[]) hi:=by
  refine⟨λp b hp a=>?_,λb h0 a=>?_,λb a=>?_,λb a=>?_,λp hp hl u d=>?_⟩
  ·rw[yj p hp]at a
   let⟨f,n,o⟩:=hG.tree p b hp a
   exact⟨f,n,by rw[c b f];exact DV hG.down c o (by omega)⟩
  ·rw[c b a];exact hG.down b h0 a
  ·rw[mH a,hG.fj b a,Ag hi b yj]
  ·let⟨l,hl⟩:=hG.reach b a
   exact⟨l,hl.mono (jj _) yj⟩
  ·rw[yj p hp]at hl d;rw[mH (hG.tree p u hp d).1];exact hG.Qy p hp hl u d
 have e:=hM.Yg (D':=ext hi D (dF hi)) (pr':=ext hi pr λ_=>[]) (ZV:=ug hi nx λ_=>[]) (by simp_all) (by simp_all) (by grind[mH]) (by simp_all);have v:ug hi nx (λ_=>[]) hi=[]:=lQ (k:=0)
 let⟨m1,x,hk,_,_,fs,q,y⟩:=e.state ops
 have r:(on t (fI ops t.s).2).blocks.length=hi:=j
 let ⟨z,_⟩:=m1.end_ (cond:=0) (fj:=[]) (by simp_all) (by grind[ik,List])
  (.inr (.inr ⟨rfl,rfl,fs,q,λw g=>m1.kn w (by show w∈(fI ops t.s).2.known;simp_all)⟩))
  (λw g=>(m1.kn w g).up (by rw[r];exact KQ (by omega) (ik (by omega))))
 grind
theorem zcc{D:Nat->Nat} {pr:Nat->List Nat}   (G:Gh D pr nx hi) (hn:nx hi=[]) (d:qv D pr nx noE t) (Y:t.blocks.length=hi+1) (M:t.s.cur=[]) (hv:t.s.ee.length<=3000) (hs:t.s.ez.length<=1000) (P:t.blocks.length<=300) (f p:Int) :
  Good ⟨f,p,t.s.ee,t.blocks,t.s.ez⟩:=by
 have hc:t.blocks.flatMap (λB=>B.ee)=List.range t.s.ee.length:=by
  have:=d.cat
  rw[M,GA]at this;exact this
 have own:∀{v b},Ow t v b->∃k,At ⟨f,p,t.s.ee,t.blocks,t.s.ez⟩ v b k:=λh=>by
  rcases h with⟨B,n,m⟩|⟨_,m⟩
  ·let⟨k,hk⟩:=mG.1 m
   exact⟨k,B,n,hk⟩
  simp_all
 have ac:∀{v b},Ow t v b->b<t.blocks.length:=λh=>by
  rcases h with⟨B,n,_⟩|⟨_,m⟩
  ·grind
  simp_all
 have z:∀{v b k},At ⟨f,p,t.s.ee,t.blocks,t.s.ez⟩ v b k->Ow t v b:=λ⟨B,n,m⟩=> .inl ⟨B,n,Ap m⟩;have ad:∀b,b<t.blocks.length->next ⟨f,p,t.s.ee,t.blocks,t.s.ez⟩ b=nx b:=λb h=>by
  have e:=hN h;unfold next
  simp[e];exact(d.bk b _ e).1
 have ae:∀b,¬b<t.blocks.length->next ⟨f,p,t.s.ee,t.blocks,t.s.ez⟩ b=[]:=by grind[next,ZR]
 have Bs:∀q b,b∈next ⟨f,p,t.s.ee,t.blocks,t.s.ez⟩ q->q<hi/\b∈nx q:=λq b h=>by
  grind
 have H:∀{x b},rL D x b->zo (next ⟨f,p,t.s.ee,t.blocks,t.s.ez⟩) x b:=λh l hl=>KX (λq b Y _=>(G.tree q b (by grind) (by simp_all)).2.2) hl h;have zfB:∀{a w},Kn D t a w->nD ⟨f,p,t.s.ee,t.blocks,t.s.ez⟩ w:=λ⟨_,x,_,_,C,J⟩=>⟨x,C,J⟩
 have F:∀{a w},Kn D t a w->Lp ⟨f,p,t.s.ee,t.blocks,t.s.ez⟩ w a:=λ⟨b,x,n,m,_⟩=>let⟨k,hk⟩:=own n;⟨b,k,hk,H m⟩
 have Z:∀{v w b k},At ⟨f,p,t.s.ee,t.blocks,t.s.ez⟩ v b k->w<v->Kn D t b w->Zf ⟨f,p,t.s.ee,t.blocks,t.s.ez⟩ w b k:=λ{v w b k} hv o ⟨c,x,n,m,_⟩=>by
  let⟨j,hj⟩:=own n
  by_cases e:c=b
  ·subst e;exact⟨c,j,hj,.inl ⟨rfl,zbw hc hj hv o⟩⟩
  ·exact⟨c,j,hj,.inr ⟨e,H m⟩⟩
 have uniq:∀{v b Q},Ow t v b->Ow t v Q->b=Q:=λh h'=>by
  let⟨k,hk⟩:=own h
  let⟨k',hk'⟩:=own h'
  exact(Yv hc hk hk').1
 have K:∀b,ahead ⟨f,p,t.s.ee,t.blocks,t.s.ez⟩ b=qX nx hi b:=λb=>by
  have R:∀l i,(∀k B,l[k]? =some B->B.next=nx (i+k))->od l i b=((List.range' i l.length).flatMap λq=>((nx q).filter (·= b)).map λ_=>q):=by
   intro l
   induction l with
   |nil=>intro i _;rfl
   | cons B l S=>
     intro i h;have h0:=h 0 B rfl;rw[Nat.add_zero]at h0;rw[MZ,List.range'_succ,Ob];unfold od;rw[h0,S (i+1) λk B T=>by rw[show i+1+k=i+(k+1) by omega];exact h (k+1) B T]
  unfold ahead;rw[R t.blocks 0 λk B T=>by rw[Gg];exact(d.bk k B T).1];have e:List.range' 0 t.blocks.length=List.range t.blocks.length:=(List.range_eq_range').symm;rw[ Y];have:=yE nx hi b
  grind[qX]
 refine{nv:=hv,WI:=by simp_all,nb:=P,ns:=hs,st:=?_,MF:=by simp_all[za4],PD:=λv b k Q k' h h'=>Yv hc h h',uz:=λv b k h=>zfG hc h,zbQ:=?_,par:=?_,VG:=?_,op:=λv x h=>(d.N4 v x h).op,use:=?_,leave:=?_,putAt:=λv x h=>(d.N4 v x h).putAt,param:=?_,fin:=?_,nx:=?_,fj:=?_,S3:=?_,Qy:=?_,reach:=?_,X5:=?_,za5:=?_,XC:=?_,zaL:=?_,zal:=?_}
 ·intro s fs h
  let⟨r,E⟩:=d.st s fs h
  grind
 ·intro v w b k x y n m C J h5
  let⟨c,r,_,_,g4⟩:=(d.N4 v x C).own
  obtain rfl:=uniq r (z n);have o:w<v:=(DJ hc m n).2 rfl (Rz _)
  grind
 ·intro v b k x n m C;exact uniq (z n) ((d.N4 v x m).par C).1
 ·intro v b k x B n m C J
  let⟨c,r,E,A⟩:=d.ph v x m C
  obtain rfl:=uniq r (z n);exact⟨E,by rw[(d.bk c B J).2.1];exact(A id).1⟩
 ·intro v x h w L;by_cases N:x.op=21
  ·let⟨c,r,E,A⟩:=d.ph v x h N
   have U:w∈x.args:=by unfold jq at L;rw[if_pos N]at L;exact L
   let⟨j,hj⟩:=mG.1 U
   have o:=(j6.1 hj).1;rw[(A id).1]at o;exact zfB ((A id).2 j w _ hj (hN o))
  ·let⟨c,r,E,_⟩:=(d.N4 v x h).own
   grind
 ·intro v x h hl
  let⟨c,r,_,A,_⟩:=(d.N4 v x h).own
  grind
 ·intro v x h n
  let⟨r,E,A⟩:=(d.N4 v x h).par n
  refine⟨by omega,by omega,λw y hy V he=>?_⟩
  let⟨_,k2,_⟩:=(d.N4 w y hy).par V
  omega
 ·intro b B h;rcases(d.bk b B h).2.2 with g|⟨r,E,A⟩|⟨r,E,fs,A,_⟩
  ·omega
  ·grind
  grind
 ·intro b u W
  let⟨r,E⟩:=Bs b u W
  have:=(G.tree b u r E).1
  grind
 ·intro b B h;have o:=(j6.1 h).1;rw[(d.bk b B h).2.1,K,G.fj b (by grind)]
 ·rw[K];exact NC λi X hm=>(G.tree i 0 X hm).2.1 rfl
 ·intro b B h m u W;have o:b<t.blocks.length:=by grind
  have e:=(d.bk b B h).1;have O:u∈nx b:=by rw[<-e];exact W
  have I:b<hi:=by
   by_cases e2:b=hi
   ·simp_all
   ·omega
  have hl:(nx b).length=2:=by
   rw[<-e];rcases(d.bk b B h).2.2 with g|⟨_,E,_⟩|⟨r,_⟩
   ·omega
   ·exact E
   ·omega
  rw[K,<-G.fj u (G.tree b u I O).1];exact G.Qy b I hl u O
 ·intro b o;have aa:b<t.blocks.length:=o
  let⟨l,hl⟩:=G.reach b (by omega)
  have ab:∀{b l},Pn nx hi b l->Pt (next ⟨f,p,t.s.ee,t.blocks,t.s.ez⟩) b l:=by
   intro b l h
   induction h with
   |nil=>exact .nil
   |step _ hp e S=>exact .step S (by grind)
  grind
 ·intro v b k x n m C w L
  let⟨c,r,E,_⟩:=(d.N4 v x m).own
  grind
 ·intro v b k x B n m C J j w q h5 h6
  let⟨c,r,_,A⟩:=d.ph v x m C
  obtain rfl:=uniq r (z n);rw[(d.bk c B J).2.1]at h6;exact F ((A id).2 j w q h5 h6)
 ·intro v b k x fs n m C J w L
  let⟨c,r,_,A,_⟩:=(d.N4 v x m).own
  grind
 ·intro b B h m;rcases(d.bk b B h).2.2 with g|⟨_,_,A⟩|⟨r,_⟩
  ·omega
  ·simp_all
  ·omega
 ·intro b B fs h m C w L;rcases(d.bk b B h).2.2 with g|⟨r,_,_⟩|⟨_,_,ag,A,g4⟩
  ·omega
  ·omega
  simp_all
theorem IE:∀n i s,(params n i s).ee.length=s.ee.length+n/\(params n i s).ez=s.ez
 |0,_,_=>⟨rfl,rfl⟩
 | n+1,i,s=>by
   let⟨a,b⟩:=IE n (i+1) (ig s (vl 1 0 0 (i:Nat) [] 0))
   grind[params,ig]
theorem QJ(ops c:List Int) (n:Int):Good (zG ops c n):=by
 have d:=YL ops c n;have hp:=IE (jD n 5) 0 ⟨[],[],[],[],0⟩;have g:=yJ n (m:=5) (by omega)
 let⟨r1,r2⟩:=Cq ops (ig (params (jD n 5) 0 ⟨[],[],[],[],0⟩) (vl 2 0 0 5 [] 0))
 have e1:(ig (params (jD n 5) 0 ⟨[],[],[],[],0⟩) (vl 2 0 0 5 [] 0)).ee.length=jD n 5+1:=by
  simp only[ig,nB,hp.1];simp
 have e2:(ig (params (jD n 5) 0 ⟨[],[],[],[],0⟩) (vl 2 0 0 5 [] 0)).ez=[]:=hp.2;have e:ZJ ⟨row ops (ig (params (jD n 5) 0 ⟨[],[],[],[],0⟩) (vl 2 0 0 5 [] 0)),[],[]⟩ 0:=by
  have a:=r1.ee;have b:=r1.ez;rw[e1]at a b r2;rw[e2]at b;refine⟨by grind,?_,jj _⟩;show(row ops _).ez.length<=(row ops _).ee.length+0;simp at b;omega
 have f:=EL ops (c.take 6) e;have hlen:(c.take 6).length<=6:=by rw[Sr];omega
 unfold zG;simp only;generalize kY ops (c.take 6) ⟨row ops (ig (params (jD n 5) 0 ⟨[],[],[],[],0⟩) (vl 2 0 0 5 [] 0)),[],[]⟩=t at*
 let⟨D,pr,nx,hG,hn,hM⟩:=zdo ops d
 let⟨h,i,_⟩:=Bh ops t.s
 have v:=f.ee;have s:=f.ez;have bl:=f.blocks;refine zcc hG hn hM (by simp[end_,on]) rfl ?_ ?_ ?_ 1 2
 ·show(fI ops t.s).2.ee.length<=3000
  grind
 ·show(fI ops t.s).2.ez.length<=1000;omega
 ·show(t.blocks++[_]).length<=300
  grind
theorem zcl(ops c:List Int) (n:Int):1<=(zG ops c n).ee.length/\(zG ops c n).ee.length<=210:=by
 constructor
 ·have g:=QJ ops c n;have hs:∃(s:Nat) (fs:List Fm) (f:Fm),(zG ops c n).ez[s]? =some fs/\f∈fs/\∃v,v∈f.stack:=by
   refine⟨_,_,_,wBC,Et.2 rfl,_,Et.2 rfl⟩
  let⟨s,fs,f,e,h,v,i⟩:=hs
  let⟨x,l,_⟩:=((g.st s fs e).2.2 f h).2.2.2 v i
  grind
 ·have hp:=IE (jD n 5) 0 ⟨[],[],[],[],0⟩;have j:=yJ n (m:=5) (by omega)
  let⟨r1,r2⟩:=Cq ops (ig (params (jD n 5) 0 ⟨[],[],[],[],0⟩) (vl 2 0 0 5 [] 0))
  have e1:(ig (params (jD n 5) 0 ⟨[],[],[],[],0⟩) (vl 2 0 0 5 [] 0)).ee.length=jD n 5+1:=by
   simp only[ig,nB,hp.1];simp
  have e2:(ig (params (jD n 5) 0 ⟨[],[],[],[],0⟩) (vl 2 0 0 5 [] 0)).ez=[]:=hp.2;have d:ZJ ⟨row ops (ig (params (jD n 5) 0 ⟨[],[],[],[],0⟩) (vl 2 0 0 5 [] 0)),[],[]⟩ 0:=by
   have a:=r1.ee;have b:=r1.ez;rw[e1]at a b r2;rw[e2]at b;refine⟨by grind,?_,jj _⟩;show(row ops _).ez.length<=(row ops _).ee.length+0;simp at b;omega
  have k:=EL ops (c.take 6) d;unfold zG;simp only;generalize kY ops (c.take 6) ⟨row ops (ig (params (jD n 5) 0 ⟨[],[],[],[],0⟩) (vl 2 0 0 5 [] 0)),[],[]⟩=t at*
  let⟨o,_,_⟩:=Bh ops t.s
  have v:=k.ee;show(fI ops t.s).2.ee.length<=210
  simp_all
def On(l:List Bool)(v:Nat):Prop:=l[v]? =some true
theorem Ku{l:List Bool}  (hv:v<l.length) (b:Bool):On (l.set v b) w↔(w=v/\b=true)\/(w≠v/\On l w):=by
 grind[On,Qk]
def gD(u:U) (v:Nat):Bool:=match u.ee[v]? with
 |some x=>iX x.op
 |none=>false
def iM(u:U) (b:Nat):List Nat:=match u.blocks[b]? with
 |some B=>B.ee
 |none=>[]
def iy(u:U)(t w:Nat):Prop:=w∈iM u t/\gD u w=true
def nU(u:U) (s:Nat):List Nat:=match u.ez[s]? with
 |some fs=>iG fs
 |none=>[]
def Bm(u:U) (v:Nat):List Nat:=match u.ee[v]? with
 |some x=>jq x++(if leaves x.op=true then nU u x.state else[])
 |none=>[]
def ln(In H:Nat->Nat->Prop):List Nat->(Nat->Prop)->Nat->Prop
 |[],P=>P
 |t::ts,P=>ln In H ts λw=>(P w\/In t w)/\¬H t w
def Ox(u:U)(b w:Nat):Prop:=∃t∈next u b,∃(B:Bk) (v:Nat) (x:Vl) (j:Nat),u.blocks[t]? =some B/\v∈B.ee/\u.ee[v]? =some x/\x.op=21/\B.fj[j]? =some b/\x.args[j]? =some w
def Ol(u:U)(b w:Nat):Prop:=∃B,u.blocks[b]? =some B/\(B.fin=2/\w=B.cond\/B.fin=3/\w∈nU u B.state)
def Qd(u:U)(H In:Nat->Nat->Prop)(b w:Nat):Prop:=ln In H (next u b) (λ_=>False) w\/Ox u b w\/Ol u b w
def bk(u:U):List Nat->(Nat->Prop)->Nat->Prop
 |[],P=>P
 |v::r,P=>if gD u v=true then P else bk u r λw=>(P w/\w≠v)\/w∈Bm u v
def LM(u:U)(b:Nat)(O:Nat->Prop):Nat->Prop:=bk u (iM u b).reverse O
def Tr(u:U)(H In:Nat->Nat->Prop)(b:Nat):Nat->Prop:=LM u b (Qd u H In b)
theorem Yi (h:∀b w,In b w->a b w):∀{ts:List Nat} {P c:Nat->Prop},(∀w,P w->c w)->∀w,ln In H ts P w->ln a H ts c w
 |[],_,_,hp,w,hw=>hp w hw
 |_::ts,_,_,hp,w,hw=>Yi (ts:=ts) h (by grind) w hw
theorem GX:∀{ts:List Nat} {P:Nat->Prop},(∀t∈ts,∀w,H t w↔a t w)->∀w,ln In H ts P w↔ln In a ts P w
 |[],_,_,_=>Iff.rfl
 | t ::ts,P,h,w=>by
   have e:(λw=>(P w\/In t w)/\¬H t w)=λw=>(P w\/In t w)/\¬a t w:=by
     funext x;rw[h t (by simp) x]
   show ln In H ts _ w↔ln In a ts _ w;rw[e];exact GX (by simp_all) w
theorem zbI:∀{ts:List Nat} {P:Nat->Prop} {w:Nat},ln In H ts P w->P w\/∃t∈ts,In t w/\¬H t w
 |[],_,_,h=> .inl h
 | t::ts,P,w,h=>by
   rcases zbI (ts:=ts) h with a|⟨t',a,b⟩
   ·grind
   grind
theorem XN :∀{ts:List Nat} {P:Nat->Prop},P w->(∀t∈ts,¬H t w)->ln In H ts P w
 |[],_,h,_=>h
 |t::ts,_,h,hn=>XN (ts:=ts) (by simp_all) (by simp_all)
theorem zbv :∀{ts:List Nat} {P:Nat->Prop},b∈ts->In b w->(∀t∈ts,¬H t w)->ln In H ts P w
 |[],_,h,_,_=>by cases h
 | t::ts,_,h,hi,hn=>by
   rcases yt.1 h with rfl|h
   ·exact XN (ts:=ts) ⟨.inr hi,hn _ (by simp)⟩ λt a=>hn t (by simp[a])
   ·exact zbv (ts:=ts) h hi (by simp_all)
theorem Na  (h:∀b w,In b w->a b w) {b w:Nat} (d:Qd u H In b w):Qd u H a b w:=
 d.elim (λc=> .inl (Yi h (λ_ e=>e) w c)) λc=> .inr c
theorem B0:∀{r:List Nat} {P a:Nat->Prop},(∀w,P w->a w)->∀w,bk u r P w->bk u r a w
 |[],_,_,h,w,hw=>h w hw
 | v::r,P,a,h,w,hw=>by
   unfold bk at hw⊢;split at hw
   ·simp_all
   ·rename_i e;rw[if_neg e];exact B0 (by grind) w hw
theorem Lw  (h:∀b w,In b w->a b w) {b w:Nat} (c:Tr u H In b w):Tr u H a b w:=
 B0 (by grind[Na]) w c
structure W5 (u:U) (H In:Nat->Nat->Prop):Prop where
 up:∀b w,In b w->Tr u H In b w
 least:∀X,(∀b w,b<u.blocks.length->Tr u H X b w->X b w)->∀b w,In b w->X b w
theorem W5.start(u:U)(H:Nat->Nat->Prop):W5 u H λ_ _=>False:=⟨by simp_all,by simp_all⟩
def vT(In:Nat->Nat->Prop)(b:Nat)(P:Nat->Prop):Nat->Nat->Prop:=λc w=>(c=b/\P w)\/(c≠b/\In c w)
theorem W5.step  (h:W5 u H In) {b:Nat} (i:b<u.blocks.length):W5 u H (vT In b (Tr u H In b)):=by
 have f:∀c w,In c w->vT In b (Tr u H In b) c w:=λc w a=>by
  by_cases e:c=b
  ·subst e;exact .inl ⟨rfl,h.up _ _ a⟩
  ·exact .inr ⟨e,a⟩
 refine⟨λc w a=>?_,λX g c w a=>?_⟩
 ·rcases a with⟨rfl,d⟩|⟨_,d⟩
  ·grind[Lw]
  ·exact Lw f (h.up _ _ d)
 ·rcases a with⟨rfl,d⟩|⟨_,d⟩
  ·exact g _ _ i (Lw (h.least X g) d)
  ·exact h.least X g _ _ d
structure mK (u:U) (H In Out:Nat->Nat->Prop):Prop where
 out:∀b w,b<u.blocks.length->(Out b w↔Qd u H In b w)
 Iq:∀b w,b<u.blocks.length->(In b w↔LM u b (Out b) w)
 least:∀X,(∀b w,b<u.blocks.length->Tr u H X b w->X b w)->∀b w,In b w->X b w
theorem mK.tr  (h:mK u H In Out) {b w:Nat} (a:b<u.blocks.length):In b w↔Tr u H In b w:=by
 rw[h.Iq b w a];exact⟨B0 (λx c=>(h.out b x a).1 c) w,B0 (λx c=>(h.out b x a).2 c) w⟩
theorem U1 {c:Nat->Nat->Prop}  (d:∀t∈next u b,∀w,H t w↔c t w) (w:Nat):Tr u H In b w↔Tr u c In b w:=
 ⟨B0 (λx a=>a.imp (by grind[GX]) id) w,B0 (λx a=>a.imp (by grind[GX]) id) w⟩
theorem mK.uniq {g c:Nat->Nat->Prop} (h:mK u H In Out) (h':mK u g c a) (j:∀b,∀t∈next u b,∀w,H t w↔g t w) {b w:Nat} (d:b<u.blocks.length):(In b w↔c b w)/\(Out b w↔a b w):=by
 have e:=h.least c λb w d i=>(h'.tr d).2 (by grind[U1]);have e':=h'.least In λb w d i=>(h.tr d).2 (by grind[U1]);refine⟨by grind,?_⟩;rw[h.out b w d,h'.out b w d];exact⟨λf=>(Na e f).imp (by grind[GX]) id,λf=>(Na e' f).imp (by grind[GX]) id⟩
theorem Iz :v∈iM u b↔∃k,At u v b k:=by
 unfold iM At
 grind[mG]
theorem ke {k:Nat}:(iM u b)[k]? =some v↔At u v b k:=by
 grind[iM,At]
theorem Pt.cut {x:Nat}:∀{b l},Pt nx b l->x∈l->∃a,Pt nx x a/\a.length<=l.length
 | _,_,.nil,h=>by
   obtain rfl:x=0:=by simp_all
   exact⟨_,.nil,jj _⟩
 | _,_,.step h e,c=>by
   rcases yt.1 c with rfl|c
   ·exact⟨_,.step h e,jj _⟩
   ·let⟨a,d,f⟩:=Pt.cut h c
    exact⟨a,d,by simp;omega⟩
section
variable{u:U}(g:Good u)
include g
theorem Good.Kk (h:b∈next u p):p<u.blocks.length/\b<u.blocks.length/\b≠0:=by
 refine⟨?_,g.nx p b h,λe=>?_⟩
 ·grind[next,j6]
 ·subst e;have:=mU.2 h;rw[g.S3]at this;cases this
omit g in
theorem SX  (h:zo (next u) c b) (hc:c≠b) (e:b∈next u p):zo (next u) c p:=λl hl=>by
 have:=h _ (.step hl e)
 simp_all
theorem Good.alone{t:Nat} (c:t≠0) (d:∀q,t∈next u q->q=p) (hp:p<u.blocks.length) (h:zo (next u) t p):False:=by
 have a:∀n l,l.length<=n->¬Pt (next u) p l:=by
  intro n
  induction n with
  | zero=>
    intro l hl hP
    cases hP <;> simp at hl
  | succ n f=>
    intro l hl hP
    let⟨l',b,i⟩:=hP.cut (h l hP)
    cases b with
    |nil=>omega
    | step j e=>
      grind
 let⟨l,hl⟩:=g.reach p hp
 exact a l.length l (jj _) hl
theorem Good.A5{k:Nat} (h:At u v b k):∃x,u.ee[v]? =some x/\gD u v=iX x.op:=by
 have:=g.uz v b k h
 simp_all[gD]
theorem Good.Od{k:Nat} (h:At u v b k) (hv:gD u v=true):∀{w j:Nat},At u w b j->j<=k->gD u w=true:=by
 have f:∀n v k,At u v b k->gD u v=true->∀w j,At u w b j->j+n=k->gD u w=true:=by
  intro n
  induction n with
  | zero=>
    intro v k h hv w j a l;obtain rfl:j=k:=by omega
    let⟨B,c,d⟩:=h
    let⟨B',e,p⟩:=a
    simp_all
  | succ n m=>
    intro v k h hv w j a l;obtain⟨k,rfl⟩:∃i,k=i+1:=⟨k-1,by omega⟩
    let⟨B,c,d⟩:=h
    have o:k<B.ee.length:=by have:=(j6.1 d).1;omega
    have e:At u (B.ee[k]) b k:=⟨B,c,hN o⟩
    let⟨x,hx,ex⟩:=g.A5 ⟨B,c,d⟩
    let⟨y,hy,ey⟩:=g.A5 e
    rw[ex]at hv;exact m _ k e (by rw[ey];exact g.zbQ _ _ _ _ _ _ ⟨B,c,d⟩ e hx hy hv) w j a (by omega)
 exact λ{w j} a l=>f (k-j) v k h hv w j a (by omega)
theorem Good.pw(b:Nat):(iM u b).reverse.Pairwise λx y=>gD u x=true->gD u y=true:=by
 rw[List.pairwise_reverse,wBK];intro i j hi a c h;exact g.Od (ke.1 (hN a)) h (ke.1 (hN hi)) (by omega)
def Vi(u:U)(b w:Nat):Prop:=∃c j,At u w c j/\zo (next u) c b/\(c=b->gD u w=true)
theorem Good.zab{X:Nat->Nat->Prop} (n:∀b w,X b w->Vi u b w) {b w:Nat} (h:Qd u (iy u) X b w):∃c j,At u w c j/\zo (next u) c b:=by
 rcases h with h|⟨t,d,B,v,x,j,i,f,a,l,m,o⟩|⟨B,d,i⟩
 ·rcases zbI h with d|⟨t,d,i,f⟩
  ·exact d.elim
  ·let⟨c,j,a,l,m⟩:=n t w i
   refine⟨c,j,a,SX l (λe=>?_) d⟩;subst e;exact f ⟨Iz.2 ⟨j,a⟩,m rfl⟩
 ·let⟨k,hk⟩:=Iz.1 (show v∈iM u t by unfold iM;rw[i];exact f)
  exact g.za5 v t k x B hk a l i j w b o m
 ·rcases i with⟨f,rfl⟩|⟨f,a⟩
  ·exact g.zaL b B d f
  ·unfold nU at a;split at a
   ·rename_i fs p;exact g.zal b B fs d f p w a
   ·cases a
theorem Good.ZE {O:Nat->Prop} (A:∀w,O w->∃c j,At u w c j/\zo (next u) c b) {w:Nat} (h:LM u b O w):Vi u b w:=by
 have q:∀l d P,iM u b=l++d->(∀w,P w->∃c j,At u w c j/\zo (next u) c b/\(c=b->j<l.length\/gD u w=true))->∀w,bk u l.reverse P w->Vi u b w:=by
  intro l
  induction hl:l.length generalizing l with
  | zero=>
    intro d P _ hP w m;obtain rfl:l=[]:=wBS hl
    let⟨c,j,f,i,o⟩:=hP w m
    refine⟨c,j,f,i,λe=>?_⟩
    simp_all
  | succ n C =>
    intro d P hv hP w m;obtain⟨s,v,rfl⟩:∃s v,l=s++[v]:=by
      rcases jf l with rfl|h
      ·simp_all
      ·exact h
    have hs:s.length=n:=by simpa using hl
    have k:At u v b s.length:=ke.1 (by simp_all);rw[List.reverse_append]at m;simp[ List.reverse_nil]at m;unfold bk at m;split at m
    ·rename_i r
     let⟨c,j,f,i,o⟩:=hP w m
     refine⟨c,j,f,i,λe=>?_⟩;rcases o e with p|p
     ·subst e
      exact g.Od k r f (by omega)
     ·exact p
    ·rename_i r
     refine C s hs (v::d) _ (by simp_all) (λx a=>?_) w m;rcases a with⟨a,mD⟩|a
     ·let ⟨c,j,f,i,o⟩:=hP x a
      refine⟨c,j,f,i,λe=>?_⟩;rcases o e with p|p
      ·left
       rcases Ss j s.length with D|D
       ·omega
       ·exfalso
        obtain rfl:j=s.length:=by omega
        subst e
        let⟨B,e1,e2⟩:=f
        let⟨B',F,G⟩:=k
        simp_all
      simp_all
     ·unfold Bm at a
      let⟨y,hy,ey⟩:=g.A5 k
      rw[hy] at a;simp only[vU]at a;have t:y.op≠21:=λe=>r (by rw[ey,e];rfl);have:Zf u x b s.length:=by
        rcases a with a|a
        ·exact g.X5 v b s.length y k hy t x a
        ·split at a
         ·rename_i z
          unfold nU at a;split at a
          ·rename_i fs E
           exact g.XC v b s.length y fs k hy z E x a
          ·cases a
         ·cases a
      let⟨c,j,f,i⟩:=this
      rcases i with⟨rfl,i⟩|⟨i,o⟩
      ·grind[zo.self]
      grind
 refine q (iM u b) [] O (by simp) (λw m=>?_) w h
 let⟨c,j,f,i⟩:=A w m
 refine⟨c,j,f,i,λe=> .inl ?_⟩;subst e;have:=ke.2 f
 grind
theorem Good.Xx (h:mK u (iy u) In Out) {b w:Nat} (a:In b w):Vi u b w:=
 h.least (Vi u) (λ_ _ _ a=>g.ZE (λ_ c=>g.zab (by simp_all) c) a) b w a
variable{In Out:Nat->Nat->Prop}(h:mK u (iy u) In Out)
include h
theorem Good.zfU{k:Nat} (hp:b∈next u p) (hi:In b v) (a:At u v c k) (mD:c≠b\/¬zgW u v 21):Out p v:=by
 let⟨hpl,hbl,hb0⟩:=g.Kk hp
 refine(h.out p v hpl).2 (.inl (zbv hp hi λt f o=>?_))
 let⟨j,hj⟩:=Iz.1 o.1
 obtain⟨rfl,rfl⟩:=g.PD _ _ _ _ _ a hj
 let⟨x,hx,ex⟩:=g.A5 a
 let⟨_,hcl,hc0⟩:=g.Kk f
 have i:x.op=21:=by
  have:=o.2;rw[ex]at this;simp[iX,Jz]at this;rcases this with d|d
  ·exact absurd (g.par _ _ _ _ a hx d) hc0
  ·exact d
 have r:c≠b:=by
  rcases mD with d|d
  ·exact d
  ·exact absurd ⟨x,hx,i⟩ d
 let⟨c',j',d,w,_⟩:=g.Xx h hi
 obtain⟨rfl,rfl⟩:=g.PD _ _ _ _ _ a d;obtain⟨B,l⟩:∃B,u.blocks[p]? =some B:=by simp_all
 have m:next u p=B.next:=by unfold next;rw[l]
 have n:B.fin=2:=by
  rcases g.fin p B l with⟨_,e⟩|⟨e,_⟩|⟨_,e,_⟩
  ·exfalso;rw[m]at hp f;obtain⟨z,s⟩:∃z,B.next=[z]:=by
    match hq:B.next,e with
    |[z],_=>simp_all
   simp_all
  ·exact e
  ·simp_all
 have hlen:=g.Qy p B l n c (by simp_all);refine g.alone hc0 (λq hq=>?_) hpl (by grind[SX]);have m1:=mU.2 hq;have y:=mU.2 f;obtain⟨z,s⟩:∃z,ahead u c=[z]:=by
  match hq:ahead u c,hlen with
  |[z],_=>simp_all
 simp_all
theorem Good.zeL{k j:Nat} {x:Vl} {B:Bk} (c:At u v b k) (i:u.ee[v]? =some x) (d:x.op=21) (e:u.blocks[b]? =some B) (l:B.fj[j]? =some p) (m:x.args[j]? =some w):Out p w:=by
 have a:b∈next u p:=by
  rw[<-mU,<-g.fj b B e];exact by grind
 let⟨B',f,n⟩:=c
 rw[e]at f;cases f;exact(h.out p w (g.Kk a).1).2 (.inr (.inl ⟨b,a,B,v,x,j,e,mG.2 ⟨k,n⟩,i,d,l,m⟩))
omit g in
theorem mK.zdK  {B:Bk} (hB:u.blocks[b]? =some B) (hf:B.fin=2):Out b B.cond:=
 (h.out b _ (by grind)).2 (.inr (.inr ⟨B,hB,.inl ⟨hf,rfl⟩⟩))
end
