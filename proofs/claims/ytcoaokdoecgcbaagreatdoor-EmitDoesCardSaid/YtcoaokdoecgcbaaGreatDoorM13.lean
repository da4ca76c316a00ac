/- Parts. -/
import Derived.Test.YtcoaokdoecgcbaaGreatDoorM12
set_option maxHeartbeats 4000000
namespace Go.Proofs.YtcoaokdoecgcbaaGreatDoor.Un
open Dm
variable{In H:Nat->Nat->Prop}{b:Nat}{nx:Nat->List Nat}{a:Nat->Nat->Prop}{v:Nat}{Out:Nat->Nat->Prop}{hi:Nat}{u:U}{p:Nat}{t:Dt}{n w:Nat}{α:Type}{c k':Nat}
def qT(nx:Nat->List Nat)(n b:Nat):List Nat:=(List.range n).flatMap λi=>((nx i).filter (·= b)).map λ_=>i
theorem zl(nx:Nat->List Nat) (n b:Nat):qT nx (n+1) b=qT nx n b++((nx n).filter (·= b)).map λ_=>n:=by
 grind[qT,wBl]
theorem AU{nx':Nat->List Nat} (n b:Nat) (h:∀i,i<n->nx' i=nx i):qT nx' n b=qT nx n b:=by
 induction n with
 |zero=>rfl
 |succ n a=>grind[zl]
theorem Qz {q:Nat}:q∈qT nx n b↔q<n/\b∈nx q:=by
 unfold qT
 simp_all
theorem Ot  (h:∀i,i<n->b ∉ nx i):qT nx n b=[]:=by
 simp_all[List.eq_nil_iff_forall_not_mem,Qz]
inductive Pn (nx:Nat->List Nat) (n:Nat):Nat->List Nat->Prop
 |nil:Pn nx n 0 [0]
 |step {p b:Nat} {l:List Nat} (h:Pn nx n p l) (hp:p<n) (e:b∈nx p):Pn nx n b (b::l)
theorem Pn.mono{nx':Nat->List Nat} {a:Nat} (c:n<=a) (d:∀i,i<n->nx' i=nx i):∀{b l},Pn nx n b l->Pn nx' a b l
 |_,_,.nil=> .nil
 |_,_,.step h hp e=> .step (h.mono c d) (by omega) (by simp_all)
structure Gh (D:Nat->Nat) (pr nx:Nat->List Nat) (hi:Nat):Prop where
 tree:∀p b,p<hi->b∈nx p->b<=hi/\b≠0/\tf D (D b) p
 down:∀b,b≠0->b<=hi->D b<b
 fk:∀b,b<=hi->pr b=qT nx hi b
 reach:∀b,b<=hi->∃l,Pn nx hi b l
 RI:∀p,p<hi->(nx p).length=2->∀t∈nx p,(pr t).length=1
theorem Eb{D D':Nat->Nat}  (hd:∀b,b≠0->b<=hi->D b<b) (c:∀b,b<=hi->D' b=D b) {x b:Nat} (h:tf D x b):b<=hi->tf D' x b:=by
 induction h with
 |refl=>exact λ_=> .refl _
 | up h0 _ d=>
   rename_i b _;intro a;have:=hd b h0 a;exact .up h0 (by grind)
theorem zeE  (h:Ow t v b):b<=t.blocks.length:=by
 rcases h with⟨B,a,_⟩|⟨a,_⟩
 ·grind
 ·omega
section
variable{D D':Nat->Nat}{pr nx pr' nx':Nat->List Nat}{E:Nat->Prop}{t:Dt}
theorem qv.Zi(c:qv D pr nx E t) (z:Gh D pr nx t.blocks.length) (p:∀b,b<=t.blocks.length->D' b=D b) (k:∀b,b<=t.blocks.length->pr' b=pr b) (F:∀b,b<t.blocks.length->nx' b=nx b):qv D' pr' nx' E t:=by
 have kn:∀{a w},a<=t.blocks.length->Kn D t a w->Kn D' t a w:=λG ⟨b,x,l,A,m⟩=>⟨b,x,l,Eb z.down p A G,m⟩
 refine⟨c.cat,λv x h=>?_,λv x h H=>?_,λb B h=>?_,λs fs h=>?_,by rw[k _ (jJ _)];exact c.pc,c.ne,λw d=>kn (jJ _) (c.kn w d)⟩
 ·have n:=c.O9 v x h
  let⟨b,l,A,m,I⟩:=n.own
  refine⟨n.op,n.putAt,n.par,b,l,by grind[zeE],λhl=>?_,I⟩
  grind[zeE]
 ·let⟨b,e,o,i⟩:=c.ph v x h H
  refine⟨b,e,o,λC=>?_⟩;rw[k b (zeE e)];refine⟨(i C).1,λj w q e1 e2=>kn ?_ ((i C).2 j w q e1 e2)⟩;have:=yN e2;rw[z.fk b (zeE e)]at this
  grind[Qz]
 ·have J:=(ke.1 h).1
  let⟨e,o,i⟩:=c.bk b B h
  refine⟨by simp_all,by grind,?_⟩;rcases i with g|⟨r,u,y⟩|⟨r,u,fs,y,K⟩
  ·exact .inl g
  ·exact .inr (.inl ⟨r,u,kn (by omega) y⟩)
  ·exact .inr (.inr ⟨r,u,fs,y,λw d=>kn (by omega) (K w d)⟩)
 ·let⟨e,o⟩:=c.st s fs h
  refine⟨e,λf L=>?_⟩
  let⟨i,M,N,O⟩:=o f L
  have own:∀w,(∃a,Kn D t a w)->∃a,Kn D' t a w:=λw ⟨a,b,x,l,_,m⟩=>⟨b,b,x,l,.refl _,m⟩
  exact⟨i,M,λw d=>own w (N w d),λw d=>own w (O w d)⟩
def ext(hi:Nat)(f:Nat->α)(g:Nat->α):Nat->α:=λb=>if b<=hi then f b else g (b-hi)
def uw(hi:Nat)(f:Nat->List Nat)(g:Nat->List Nat):Nat->List Nat:=λb=>if b<hi then f b else g (b-hi)
theorem mF{f g:Nat->α}(h:b<=hi):ext hi f g b=f b:=by simp_all[ext,if_pos]
theorem ig{k:Nat}{f g:Nat->α}(h:0<k):ext hi f g (hi+k)=g k:=by simp_all[ext,if_neg]
theorem Be{f g:Nat->List Nat}(h:b<hi):uw hi f g b=f b:=by simp_all[uw,if_pos]
theorem lQ{k:Nat}{f g:Nat->List Nat}:uw hi f g (hi+k)=g k:=by simp_all[uw,if_neg]
variable{hi:Nat}
theorem Gh.none(a:Gh D pr nx hi) {b:Nat} (d:hi<b):qT nx hi b=[]:=Ot λi h c=>by
 have:=(a.tree i b h c).1;omega
def dF(hi:Nat)(k:Nat):Nat:=hi
def pF(hi k:Nat):List Nat:=if k=3 then[hi+1,hi+2] else[hi]
def nF(hi k:Nat):List Nat:=if k=0 then[hi+1,hi+2] else[hi+3]
theorem Gh.fork(a:Gh D pr nx hi):Gh (ext hi D (dF hi)) (ext hi pr (pF hi)) (uw hi nx (nF hi)) (hi+3):=by
 have dn:∀k,0<k->ext hi D (dF hi) (hi+k)=hi:=λk n=>ig n;have m:uw hi nx (nF hi) hi=[hi+1,hi+2]:=lQ (k:=0);have r:uw hi nx (nF hi) (hi+1)=[hi+3]:=lQ;have s:uw hi nx (nF hi) (hi+2)=[hi+3]:=lQ;have f:∀b,b<=hi->ext hi D (dF hi) b=D b:=λb h=>mF h;have yK:∀i,i<hi->uw hi nx (nF hi) i=nx i:=λi h=>Be h;have g:∀b,qT (uw hi nx (nF hi)) (hi+3) b=qT nx hi b++([hi+1,hi+2].filter (·= b)).map (λ_=>hi)++([hi+3].filter (·= b)).map (λ_=>hi+1)++([hi+3].filter (·= b)).map (λ_=>hi+2):=by simp_all[zl,AU]
 have low:∀b,b<=hi+3->b<=hi\/b=hi+1\/b=hi+2\/b=hi+3:=by omega
 refine⟨λp b hp c=>?_,λb h0 c=>?_,λb c=>?_,λb c=>?_,λp hp hl t e=>?_⟩
 ·have d:p<hi\/p=hi\/p=hi+1\/p=hi+2:=by omega
  rcases d with h|rfl|rfl|rfl
  ·rw[yK p h]at c
   let⟨j,o,q⟩:=a.tree p b h c
   exact⟨by omega,o,by rw[f b j];exact Eb a.down f q (by omega)⟩
  ·rw[m]at c;simp at c;rcases c with rfl|rfl
   ·exact⟨by omega,by omega,by rw[dn 1 (by omega)];exact .refl _⟩
   ·exact⟨by omega,by omega,by rw[dn 2 (by omega)];exact .refl _⟩
  ·grind[Me]
  grind[Me]
 ·rcases low b c with h|rfl|rfl|rfl
  ·rw[f b h];exact a.down b h0 h
  ·simp_all
  ·simp_all
  simp_all
 ·rw [g];rcases low b c with h|rfl|rfl|rfl
  ·rw[mF h,a.fk b h];have e2:¬hi+2=b:=by omega
   grind
  ·rw[ig (by omega),a.none (by omega)];simp[pF]
  ·rw[ig (by omega),a.none (by omega)];simp[pF]
  ·rw[ig (by omega),a.none (by omega)];simp[pF]
 ·let ⟨l,hl⟩:=a.reach hi (jJ _)
  have h0:Pn (uw hi nx (nF hi)) (hi+3) hi l:=hl.mono (by omega) yK;have j:Pn (uw hi nx (nF hi)) (hi+3) (hi+1) ((hi+1)::l):= .step h0 (by omega) (by simp_all);rcases low b c with h|rfl|rfl|rfl
  ·let⟨l',hl'⟩:=a.reach b h
   exact⟨l',hl'.mono (by omega) yK⟩
  ·grind
  ·exact⟨_,.step h0 (by omega) (by simp_all)⟩
  ·exact⟨_,.step j (by omega) (by simp_all)⟩
 ·have d:p<hi\/p=hi\/p=hi+1\/p=hi+2:=by omega
  rcases d with h|rfl|rfl|rfl
  ·rw[yK p h]at hl e;rw[mF (a.tree p t h e).1];exact a.RI p h hl t e
  ·rw[m]at e;simp at e;rcases e with rfl|rfl
   ·rw[ig (by omega)];rfl
   ·rw[ig (by omega)];rfl
  ·simp_all
  simp_all
def nX(hi k:Nat):List Nat:=if k=0 then[hi+1,hi+2] else[]
def pX(hi _k:Nat):List Nat:=[hi]
theorem Gh.exit(c:Gh D pr nx hi):Gh (ext hi D (dF hi)) (ext hi pr (pX hi)) (uw hi nx (nX hi)) (hi+2):=by
 have dn:∀k,0<k->ext hi D (dF hi) (hi+k)=hi:=λk m=>ig m;have j:uw hi nx (nX hi) hi=[hi+1,hi+2]:=lQ (k:=0);have r:uw hi nx (nX hi) (hi+1)=[]:=lQ;have f:∀b,b<=hi->ext hi D (dF hi) b=D b:=λb h=>mF h;have yK:∀i,i<hi->uw hi nx (nX hi) i=nx i:=λi h=>Be h;have g:∀b,qT (uw hi nx (nX hi)) (hi+2) b=qT nx hi b++([hi+1,hi+2].filter (·= b)).map (λ_=>hi):=by simp_all[zl,AU]
 have low:∀b,b<=hi+2->b<=hi\/b=hi+1\/b=hi+2:=by omega
 refine⟨λp b hp a=>?_,λb h0 a=>?_,λb a=>?_,λb a=>?_,λp hp hl t e=>?_⟩
 ·have d:p<hi\/p=hi\/p=hi+1:=by omega
  rcases d with h|rfl|rfl
  ·rw[yK p h]at a
   let⟨n,o,q⟩:=c.tree p b h a
   exact⟨by omega,o,by rw[f b n];exact Eb c.down f q (by omega)⟩
  ·rw[j]at a;simp at a;rcases a with rfl|rfl
   ·exact⟨by omega,by omega,by rw[dn 1 (by omega)];exact .refl _⟩
   ·exact⟨by omega,by omega,by rw[dn 2 (by omega)];exact .refl _⟩
  simp_all
 ·rcases low b a with h|rfl|rfl
  ·rw[f b h];exact c.down b h0 h
  ·simp_all
  simp_all
 ·rw [g];rcases low b a with h|rfl|rfl
  ·rw[mF h,c.fk b h]
   grind
  ·rw[ig (by omega),c.none (by omega)];simp[pX]
  ·rw[ig (by omega),c.none (by omega)];simp[pX]
 ·let ⟨l,hl⟩:=c.reach hi (jJ _)
  have h0:Pn (uw hi nx (nX hi)) (hi+2) hi l:=hl.mono (by omega) yK;rcases low b a with h|rfl|rfl
  ·let⟨l',hl'⟩:=c.reach b h
   exact⟨l',hl'.mono (by omega) yK⟩
  ·exact⟨_,.step h0 (by omega) (by simp_all)⟩
  ·exact⟨_,.step h0 (by omega) (by simp_all)⟩
 ·have d:p<hi\/p=hi\/p=hi+1:=by omega
  rcases d with h|rfl|rfl
  ·rw[yK p h]at hl e;rw[mF (c.tree p t h e).1];exact c.RI p h hl t e
  ·rw[j]at e;simp at e;rcases e with rfl|rfl
   ·rw[ig (by omega)];rfl
   ·rw[ig (by omega)];rfl
  simp_all
def dL(hi k:Nat):Nat:=if k=1 then hi else hi+1
def pL(hi k:Nat):List Nat:=if k=1 then[hi,hi+2] else[hi+1]
def nL(hi k:Nat):List Nat:=if k=1 then[hi+2,hi+3] else[hi+1]
theorem Gh.loop(c:Gh D pr nx hi):Gh (ext hi D (dL hi)) (ext hi pr (pL hi)) (uw hi nx (nL hi)) (hi+3):=by
 have d:ext hi D (dL hi) (hi+1)=hi:=ig (by omega);have j:ext hi D (dL hi) (hi+2)=hi+1:=ig (by omega);have m:ext hi D (dL hi) (hi+3)=hi+1:=ig (by omega);have r:uw hi nx (nL hi) hi=[hi+1]:=lQ (k:=0);have q:uw hi nx (nL hi) (hi+1)=[hi+2,hi+3]:=lQ;have s:uw hi nx (nL hi) (hi+2)=[hi+1]:=lQ;have n:∀b,b<=hi->ext hi D (dL hi) b=D b:=λb h=>mF h;have yK:∀i,i<hi->uw hi nx (nL hi) i=nx i:=λi h=>Be h;have o:∀b,qT (uw hi nx (nL hi)) (hi+3) b=qT nx hi b++([hi+1].filter (·= b)).map (λ_=>hi)++([hi+2,hi+3].filter (·= b)).map (λ_=>hi+1)++([hi+1].filter (·= b)).map (λ_=>hi+2):=by simp_all[zl,AU]
 have low:∀b,b<=hi+3->b<=hi\/b=hi+1\/b=hi+2\/b=hi+3:=by omega
 refine⟨λp b hp a=>?_,λb h0 a=>?_,λb a=>?_,λb a=>?_,λp hp hl t f=>?_⟩
 ·have e:p<hi\/p=hi\/p=hi+1\/p=hi+2:=by omega
  rcases e with h|rfl|rfl|rfl
  ·rw[yK p h]at a
   let⟨g,u,v⟩:=c.tree p b h a
   exact⟨by omega,u,by rw[n b g];exact Eb c.down n v (by omega)⟩
  ·rw[r]at a;simp at a;subst a;exact⟨by omega,by omega,by rw[d];exact .refl _⟩
  ·rw[q]at a;simp at a;rcases a with rfl|rfl
   ·exact⟨by omega,by omega,by rw[j];exact .refl _⟩
   ·exact⟨by omega,by omega,by rw[m];exact .refl _⟩
  ·rw[s]at a;simp at a;subst a;exact⟨by omega,by omega,by rw[d];exact(Me (by omega) d).trans (by grind[Me])⟩
 ·rcases low b a with h|rfl|rfl|rfl
  ·rw[n b h];exact c.down b h0 h
  ·omega
  ·omega
  omega
 ·rw [o];rcases low b a with h|rfl|rfl|rfl
  ·rw[mF h,c.fk b h];have e1:¬hi+1=b:=by omega
   have e2:¬hi+2=b:=by omega
   have w:¬hi+3=b:=by omega
   simp_all
  ·rw[ig (by omega),c.none (by omega)];simp[pL]
  ·rw[ig (by omega),c.none (by omega)];simp[pL]
  ·rw[ig (by omega),c.none (by omega)];simp[pL]
 ·let ⟨l,hl⟩:=c.reach hi (jJ _)
  have h0:Pn (uw hi nx (nL hi)) (hi+3) hi l:=hl.mono (by omega) yK;have g:Pn (uw hi nx (nL hi)) (hi+3) (hi+1) ((hi+1)::l):= .step h0 (by omega) (by simp_all);rcases low b a with h|rfl|rfl|rfl
  ·let⟨l',hl'⟩:=c.reach b h
   exact⟨l',hl'.mono (by omega) yK⟩
  ·grind
  ·exact⟨_,.step g (by omega) (by simp_all)⟩
  ·exact⟨_,.step g (by omega) (by simp_all)⟩
 ·have e:p<hi\/p=hi\/p=hi+1\/p=hi+2:=by omega
  rcases e with h|rfl|rfl|rfl
  ·rw[yK p h]at hl f;rw[mF (c.tree p t h f).1];exact c.RI p h hl t f
  ·simp_all
  ·rw[q]at f;simp at f;rcases f with rfl|rfl
   ·rw[ig (by omega)];rfl
   ·rw[ig (by omega)];rfl
  simp_all
def noE:Nat->Prop:=λ_=>False
def Ok(t:Dt):Prop:=∃D pr nx,Gh D pr nx t.blocks.length/\qv D pr nx noE t
theorem Ok.fork (ops:List Int) (h:Ok t):Ok (fork ops t):=by
 let⟨D,pr,nx,hG,hM⟩:=h
 generalize a:t.blocks.length=hi at*;have b:=hM.Zi (D':=ext hi D (dF hi)) (pr':=ext hi pr (pF hi)) (nx':=uw hi nx (nF hi)) (by simp_all) (by grind[mF]) (by grind[mF]) (by grind[Be])
 let ⟨c,d⟩:=zeS b ops (by rw[a];exact lQ (k:=0)) (by rw[a];exact lQ) (by rw[a];exact lQ) (by rw[a];exact ig (by omega)) (by rw[a];exact ig (by omega)) (by rw[a];exact ig (by omega))
  (by rw[a];exact ig (by omega)) (by rw[a];exact ig (by omega)) (by rw[a];exact ig (by omega))
 exact⟨_,_,_,by rw[d,a];exact hG.fork,c⟩
theorem Ok.exit (ops:List Int) (h:Ok t):Ok (Ai ops t):=by
 let⟨D,pr,nx,hG,hM⟩:=h
 generalize a:t.blocks.length=hi at*;have b:=hM.Zi (D':=ext hi D (dF hi)) (pr':=ext hi pr (pX hi)) (nx':=uw hi nx (nX hi)) (by simp_all) (by grind[mF]) (by grind[mF]) (by grind[Be])
 let ⟨c,d⟩:=zeC b ops (by rw[a];exact lQ (k:=0)) (by rw[a];exact lQ) (by rw[a];exact ig (by omega)) (by rw[a];exact ig (by omega))
  (by rw[a];exact ig (by omega)) (by rw[a];exact ig (by omega))
 exact⟨_,_,_,by rw[d,a];exact hG.exit,c⟩
theorem Ok.loop (ops:List Int) (h:Ok t):Ok (loop ops t):=by
 let⟨D,pr,nx,hG,hM⟩:=h
 generalize a:t.blocks.length=hi at*;have b:=hM.Zi (D':=ext hi D (dL hi)) (pr':=ext hi pr (pL hi)) (nx':=uw hi nx (nL hi)) (by simp_all) (by grind[mF]) (by grind[mF]) (by grind[Be])
 let ⟨c,d⟩:=zdr b ops (by rw[a];exact lQ (k:=0)) (by rw[a];exact lQ) (by rw[a];exact lQ) (by rw[a];exact ig (by omega)) (by rw[a];exact ig (by omega)) (by rw[a];exact ig (by omega))
  (by rw[a];exact ig (by omega)) (by rw[a];exact ig (by omega)) (by rw[a];exact ig (by omega))
 exact⟨_,_,_,by rw[d,a];exact hG.loop,c⟩
theorem Ok.kM(ops:List Int):∀l {t:Dt},Ok t->Ok (kM ops l t)
 |[],_,h=>h
 | k ::l,t,h=>by
   unfold Un.kM;split
   ·refine Ok.kM ops l ?_
    unfold um;split
    ·exact h.fork ops
    split
    ·exact h.loop ops
    ·exact h.exit ops
   ·exact h
def t0(s:Ds):Dt:=⟨s,[],[]⟩
structure Ps (s:Ds) (i:Nat):Prop where
 ee:s.ee.length=i
 all:∀v x,s.ee[v]? =some x->x=vl 1 0 0 (v:Nat) [] 0
 cur:s.cur=List.range i
 known:s.known=List.range i
 eE:s.eE=[]
theorem SZ:∀n i s,Ps s i->Ps (params n i s) (i+n)
 |0,i,s,h=>h
 | n + 1,i,s,h=>by
   have:=SZ n (i+1) (il s (vl 1 0 0 (i:Nat) [] 0)) ⟨by simp[il,h.ee],λv x hv=>?_,by simp[il];rw[h.cur,h.ee,wBl],by simp[il];rw[h.known,h.ee,wBl],h.eE⟩
   ·rw[show i+(n+1)=i+1+n by omega]
    exact this
   ·have a:(s.ee++[vl 1 0 0 (i:Nat) [] 0])[v]? =some x:=hv
    by_cases G6:v<s.ee.length
    ·rw[UF G6]at a
     exact h.all v x a
    ·have c:=(ke.1 a).1
     simp at c;have b:v=s.ee.length:=by omega
     subst b;rw[wBB]at a;rw[h.ee]
     simp_all
theorem gh0:Gh (λ_=>0) (λ_=>[]) (λ_=>[]) 0:=
 ⟨by omega,by omega,λb a=>rfl,λb a=>by
  obtain rfl:b=0:=by omega
  exact⟨[0],.nil⟩,by omega⟩
theorem zcr{s:Ds}  (h:Ps s n) (o:n<=5):qv (λ_=>0) (λ_=>[]) (λ_=>[]) noE (t0 (il s (vl 2 0 0 5 [] 0))):=by
 have c:(t0 (il s (vl 2 0 0 5 [] 0))).s.ee=s.ee++[vl 2 0 0 5 [] 0]:=rfl;have d:(t0 (il s (vl 2 0 0 5 [] 0))).s.cur=List.range (n+1):=by
  show s.cur++[s.ee.length]=_;rw[h.cur,h.ee,wBl]
 have hlen:(t0 (il s (vl 2 0 0 5 [] 0))).s.ee.length=n+1:=by rw[c];simp[h.ee]
 have a:∀v x,(t0 (il s (vl 2 0 0 5 [] 0))).s.ee[v]? =some x->(v<n/\x=vl 1 0 0 (v:Nat) [] 0)\/(v=n/\x=vl 2 0 0 5 [] 0):=λv x hv=>by
  rw[c]at hv;by_cases e:v<s.ee.length
  ·rw[UF e]at hv;exact .inl ⟨by simp_all,h.all v x hv⟩
  grind
 have j:∀v,v<n+1->Ow (t0 (il s (vl 2 0 0 5 [] 0))) v 0:=λv hv=> .inr ⟨rfl,by simp_all⟩;have k:∀v,v<n+1->Kn (λ_=>0) (t0 (il s (vl 2 0 0 5 [] 0))) 0 v:=λv hv=>by
  have i:∃x,(t0 (il s (vl 2 0 0 5 [] 0))).s.ee[v]? =some x:=by simp_all
  let⟨x,i⟩:=i
  refine⟨0,x,j v hv,.refl _,i,?_⟩;rcases a v x i with⟨_,rfl⟩|⟨_,rfl⟩ <;> rfl
 refine⟨?_,λv x hv=>?_,λv x hv p=>?_,λb B m=>(by cases m),λst fs hs=>?_,rfl,?_,λw l=>?_⟩
 ·rw[hlen,d];rfl
 ·rcases a v x hv with⟨e,rfl⟩|⟨rfl,rfl⟩
  ·refine⟨by simp[vl],by grind[vl],λ_=>⟨by grind,rfl,by omega⟩,0,by grind,by grind[jn,vl,two,uk],by grind[vl,leaves],λ_ w _ l=>?_⟩
   grind[t0,il,vl,hZ]
  ·exact⟨by simp[vl],by grind[vl],by grind[vl],0,by simp_all,by grind[jn,vl,two,uk],by grind[vl,leaves],by grind[vl,iV]⟩
 ·rcases a v x hv with⟨_,rfl⟩|⟨_,rfl⟩
  ·grind[vl]
  grind[vl]
 ·have f:s.eE[st]? =some fs:=hs;rw[h.eE]at f;cases f
 ·show s.known++[s.ee.length]≠[];simp
 ·have g:w∈s.known++[s.ee.length]:=l;rw[h.known,h.ee,<-wBl]at g;exact k w (List.mem_range.1 g)
theorem zag(ops a:List Int) (n:Int):Ok (kM ops (a.take 6) ⟨row ops (il (params (jC n 5) 0 ⟨[],[],[],[],0⟩) (vl 2 0 0 5 [] 0)),[],[]⟩):=by
 have h0:Ps ⟨[],[],[],[],0⟩ 0:=⟨rfl,by simp_all,rfl,rfl,rfl⟩
 have b:=SZ (jC n 5) 0 _ h0;rw[Jn]at b;have c:=zcr b (by simp_all[Nat.le_of_lt,zq])
 let⟨d,_⟩:=c.row ops
 exact Ok.kM ops _ ⟨_,_,_,gh0,d⟩
theorem Yl:∀(l:List Bk),(l.flatMap λB=>B.ee).Pairwise (·< ·)->∀(b d k k':Nat) B B' v v',l[b]? =some B->l[d]? =some B'->B.ee[k]? =some v->B'.ee[k']? =some v'->(b<d->v<v')/\(b=d->k<k'->v<v')
 |[],_,b,_,_,_,_,_,_,_,h,_,_,_=>by simp_all
 | C ::l,hp,b,d,k,k',B,B',v,v',c,a,g,i=>by
   rw[wA6,List.pairwise_append]at hp
   let⟨p1,p2,p3⟩:=hp
   match b,d,c,a with
   | 0,0,c,a=>
     obtain rfl:C=B:=by simp_all
     obtain rfl:C=B':=by simp_all
     grind[wBI]
   | 0,n+1,c,a=>
     obtain rfl:C=B:=by simp_all
     have e:l[n]? =some B':=by simpa using a
     refine⟨λ_=>p3 v (yN g) v' (by grind),by omega⟩
   |n+1,0,c,a=>omega
   | n+1,m+1,c,a=>
     have f:l[n]? =some B:=by simpa using c
     have e:l[m]? =some B':=by simpa using a
     have:=Yl l p2 n m k k' B B' v v' f e g i;omega
end
section
variable{u:U}(hc:u.blocks.flatMap (λB=>B.ee)=List.range u.ee.length)
include hc
theorem Aq{a k:Nat} (h:At u v b k) (h':At u a c k'):(b<c->v<a)/\(b=c->k<k'->v<a):=by
 let⟨B,d,e⟩:=h
 let⟨B',f,g⟩:=h'
 grind[Yl,List.pairwise_lt_range]
theorem ZD{a k:Nat} (h:At u v b k) (h':At u v a k'):b=a/\k=k':=by
 have e1:=(Aq hc h h').1;have e2:=(Aq hc h' h).1;have c:b=a:=by
  rcases wBx b a with h|h|h
  ·omega
  ·exact h
  ·omega
 have d:=(Aq hc h h').2 c;have e:=(Aq hc h' h).2 c.symm;omega
theorem zcX{a k:Nat} (h:At u v b k) (h':At u a b k') (c:v<a):k<k':=by
 rcases wBx k k' with g|g|g
 ·exact g
 ·subst g
  let⟨B,d,e⟩:=h
  let⟨B',f,i⟩:=h'
  simp_all
 ·have:=(Aq hc h' h).2 rfl g;omega
theorem zbd (hv:v<u.ee.length):∃b k,At u v b k:=by
 have:v∈u.blocks.flatMap (λB=>B.ee):=by rw[hc];exact List.mem_range.2 hv
 let⟨B,a,c⟩:=Sg.1 this
 let⟨b,hb⟩:=mz.1 a
 let⟨k,hk⟩:=mz.1 c
 exact⟨b,k,B,hb,hk⟩
theorem zgC{k:Nat} (h:At u v b k):v<u.ee.length:=by
 let⟨B,a,c⟩:=h
 have:v∈u.blocks.flatMap (λB=>B.ee):=by grind
 simp_all
end
theorem Ik(ops:List Int):∀i s l,∃p,(some_ ops i s l).2 = {s with pos:=p}
 |0,s,_=>⟨s.pos,rfl⟩
 |i+1,s,l=>Ik ops i (fT ops s).2 (l++[(fT ops s).1])
theorem A8(ops:List Int) (s:Ds):(fI ops s).2.ee=s.ee/\(fI ops s).2.eE.length=s.eE.length+1/\(fI ops s).2.cur=s.cur:=by
 let⟨p,hp⟩:=Ik ops (num ops s 4).1 (num ops s 4).2 []
 unfold fI;simp only;rw[hp];exact⟨rfl,by simp,rfl⟩
structure Sz (s s':Ds):Prop where
 ee:s.ee.length<=s'.ee.length
 eE:s'.eE.length+s.ee.length<=s.eE.length+s'.ee.length
theorem Sz.refl(s:Ds):Sz s s:=⟨jJ _,jJ _⟩
theorem Sz.trans{s s' e:Ds} (f:Sz s s') (g:Sz s' e):Sz s e:=by
 have a:=f.ee;have b:=g.ee;have c:=f.eE;have d:=g.eE;exact⟨by omega,by omega⟩
theorem zeI(ops:List Int) (s:Ds) (k a b:Nat):(tS ops s k a b).ee.length=s.ee.length+1/\(tS ops s k a b).eE.length<=s.eE.length+1:=by
 grind[A8,tS,il,num,put,fT]
theorem Zv(ops:List Int):∀i s,Sz s (rows ops i s)/\(rows ops i s).ee.length<=max s.ee.length 200
 |0,s=>⟨.refl s,by show s.ee.length<=_;omega⟩
 | i + 1,s=>by
   unfold rows;split
   ·rename_i b
    let⟨c,d⟩:=Zv ops i (vx ops s)
    have a:=zeI ops (num ops (fT ops (fT ops s).2).2 20).2 (num ops (fT ops (fT ops s).2).2 20).1 (fT ops s).1 (fT ops (fT ops s).2).1;have e:(vx ops s).ee.length=s.ee.length+1:=a.1;have f:(vx ops s).eE.length<=s.eE.length+1:=a.2;exact⟨Sz.trans ⟨by omega,by omega⟩ c,by omega⟩
   ·exact⟨.refl s,by omega⟩
theorem CZ(ops:List Int) (s:Ds):Sz s (row ops s)/\(row ops s).ee.length<=max s.ee.length 200:=by
 let⟨a,b⟩:=Zv ops (1+(num ops s 6).1) (num ops s 6).2
 exact⟨⟨a.ee,a.eE⟩,b⟩
structure Big (t:Dt) (m:Nat):Prop where
 ee:t.s.ee.length<=210
 eE:t.s.eE.length<=t.s.ee.length+t.blocks.length
 blocks:t.blocks.length<=m
theorem zc5(ops:List Int) {t:Dt} {m:Nat} (h:Big t m) (hv:t.s.ee.length<160):Big (fork ops t) (m+3):=by
 let⟨x,y,z⟩:=h
 unfold fork;simp only;have p:=CZ ops (end_ {t with s:=(fT ops t.s).2} 2 (fT ops t.s).1 [t.blocks.length+1,t.blocks.length+2] 0 [t.blocks.length]).s;generalize q:row ops (end_ {t with s:=(fT ops t.s).2} 2 (fT ops t.s).1 [t.blocks.length+1,t.blocks.length+2] 0 [t.blocks.length]).s=s1 at*;have r:s1.eE.length+t.s.ee.length<=t.s.eE.length+s1.ee.length:=p.1.eE;have u:s1.ee.length<=max t.s.ee.length 200:=p.2;generalize c:end_ {s:=cut t.s.known.length s1,blocks:=(end_ {t with s:=(fT ops t.s).2} 2 (fT ops t.s).1 [t.blocks.length+1,t.blocks.length+2] 0 [t.blocks.length]).blocks,fk:=(end_ {t with s:=(fT ops t.s).2} 2 (fT ops t.s).1 [t.blocks.length+1,t.blocks.length+2] 0 [t.blocks.length]).fk} 1 0 [t.blocks.length+3] 0 [t.blocks.length]=a at*;have A:a.blocks.length=t.blocks.length+2:=by rw[<-c];simp[end_]
 have v:a.s.ee=s1.ee:=by rw[<-c];rfl
 have w:a.s.eE=s1.eE:=by rw[<-c];rfl
 have f:=CZ ops a.s;generalize row ops a.s=b at*;have g:=f.1.ee;have d:=f.1.eE;have i:=f.2;rw[v]at g d i;rw[w]at d;have j:=CZ ops (il (end_ {s:=cut t.s.known.length b,blocks:=a.blocks,fk:=a.fk} 1 0 [t.blocks.length+3] 0 [t.blocks.length+1,t.blocks.length+2]).s (vl 21 0 0 0 [s1.known.getLastD 0,b.known.getLastD 0] 0));have k:(il (end_ {s:=cut t.s.known.length b,blocks:=a.blocks,fk:=a.fk} 1 0 [t.blocks.length+3] 0 [t.blocks.length+1,t.blocks.length+2]).s (vl 21 0 0 0 [s1.known.getLastD 0,b.known.getLastD 0] 0)).ee.length=b.ee.length+1:=by simp[il,end_,cut]
 have l:(il (end_ {s:=cut t.s.known.length b,blocks:=a.blocks,fk:=a.fk} 1 0 [t.blocks.length+3] 0 [t.blocks.length+1,t.blocks.length+2]).s (vl 21 0 0 0 [s1.known.getLastD 0,b.known.getLastD 0] 0)).eE.length=b.eE.length:=by simp[il,end_,cut]
 have n:=j.1.ee;have e:=j.1.eE;have o:=j.2;rw[k]at n e o;rw[l]at e;refine⟨?_,?_,?_⟩
 ·grind
 ·show(row ops _).eE.length<=(row ops _).ee.length+(a.blocks++[_]).length
  grind
 ·show(a.blocks++[_]).length<=m+3
  simp_all
theorem zbs(ops:List Int) {t:Dt} {m:Nat} (h:Big t m) (hv:t.s.ee.length<160):Big (Ai ops t) (m+3):=by
 let⟨q,r,u⟩:=h
 unfold Ai;simp only;have g:=CZ ops (end_ {t with s:=(fT ops t.s).2} 2 (fT ops t.s).1 [t.blocks.length+1,t.blocks.length+2] 0 [t.blocks.length]).s;generalize i:row ops (end_ {t with s:=(fT ops t.s).2} 2 (fT ops t.s).1 [t.blocks.length+1,t.blocks.length+2] 0 [t.blocks.length]).s=s1 at*;have j:s1.eE.length+t.s.ee.length<=t.s.eE.length+s1.ee.length:=g.1.eE;have k:s1.ee.length<=max t.s.ee.length 200:=g.2
 let⟨l,n,_⟩:=A8 ops s1
 generalize a:end_ {s:=cut t.s.known.length (fI ops s1).2,blocks:=(end_ {t with s:=(fT ops t.s).2} 2 (fT ops t.s).1 [t.blocks.length+1,t.blocks.length+2] 0 [t.blocks.length]).blocks,fk:=(end_ {t with s:=(fT ops t.s).2} 2 (fT ops t.s).1 [t.blocks.length+1,t.blocks.length+2] 0 [t.blocks.length]).fk} 3 0 [] (fI ops s1).1 [t.blocks.length]=c at*;have v:c.blocks.length=t.blocks.length+2:=by rw[<-a];simp[end_]
 have o:c.s.ee=s1.ee:=by rw[<-a];exact l
 have p:c.s.eE.length=s1.eE.length+1:=by rw[<-a];exact n
 have d:=CZ ops c.s;have e:=d.1.ee;have b:=d.1.eE;have f:=d.2;rw[o]at e b f;rw[p]at b;refine⟨?_,?_,?_⟩
 ·grind
 ·grind
 grind
theorem Fy(s:Ds)(v:Nat)(args:List Nat):(setArgs s v args).ee.length=s.ee.length/\(setArgs s v args).eE=s.eE:=⟨by simp[setArgs,List.length_modify],rfl⟩
theorem zbv(ops:List Int) {t:Dt} {m:Nat} (h:Big t m) (hv:t.s.ee.length<160):Big (loop ops t) (m+3):=by
 let⟨G,H,I⟩:=h
 unfold loop;simp only;generalize e:end_ {t with s:=(fT ops t.s).2} 1 0 [t.blocks.length+1] 0 [t.blocks.length,t.blocks.length+2]=b at*;have z:b.blocks.length=t.blocks.length+1:=by rw[<-e];simp[end_]
 have A:b.s.ee=t.s.ee:=by rw[<-e];rfl
 have s1:b.s.eE=t.s.eE:=by rw[<-e];rfl
 generalize i:({put (fT ops (put b.s (vl 21 0 0 0 [(fT ops t.s).1,0] 0))).2 (vl 21 0 0 0 [(fT ops (put b.s (vl 21 0 0 0 [(fT ops t.s).1,0] 0))).1,b.s.ee.length] 0)with known:=(put (fT ops (put b.s (vl 21 0 0 0 [(fT ops t.s).1,0] 0))).2 (vl 21 0 0 0 [(fT ops (put b.s (vl 21 0 0 0 [(fT ops t.s).1,0] 0))).1,b.s.ee.length] 0)).known++[b.s.ee.length,b.s.ee.length+1]}:Ds)=f at*;have B:f.ee.length=t.s.ee.length+2:=by rw[<-i,<-A];simp[put,fT]
 have n:f.eE=t.s.eE:=by rw[<-i,<-s1];rfl
 let⟨C,D,_⟩:=A8 ops f
 generalize j:il (put (put (fI ops f).2 (vl 23 0 0 0 [] (fI ops f).1)) (vl 2 0 0 1 [] 0)) (vl 4 b.s.ee.length (put (fI ops f).2 (vl 23 0 0 0 [] (fI ops f).1)).ee.length 0 [] 0)=d at*;have J:d.ee.length=t.s.ee.length+5:=by rw[<-j];simp[il,put,C,B]
 have E:d.eE.length=t.s.eE.length+1:=by rw[<-j,<-n,<-D];rfl
 generalize g:end_ {s:=d,blocks:=b.blocks,fk:=b.fk} 2 b.s.ee.length [t.blocks.length+2,t.blocks.length+3] 0 [t.blocks.length+1]=c at*;have K:c.blocks.length=t.blocks.length+2:=by rw[<-g];simp[end_,z]
 have F:c.s.ee=d.ee:=by rw[<-g];rfl
 have o:c.s.eE=d.eE:=by rw[<-g];rfl
 have p:=CZ ops c.s;generalize row ops c.s=y at*;have q:=p.1.ee;have k:=p.1.eE;have r:=p.2;rw[F]at q k r;rw[o]at k;have u:∀a,a.ee.length=y.ee.length->a.eE=y.eE->Big {s:=row ops (end_ {s:=cut d.known.length a,blocks:=c.blocks,fk:=c.fk} 1 0 [t.blocks.length+1] 0 [t.blocks.length+1]).s,blocks:=(end_ {s:=cut d.known.length a,blocks:=c.blocks,fk:=c.fk} 1 0 [t.blocks.length+1] 0 [t.blocks.length+1]).blocks,fk:=(end_ {s:=cut d.known.length a,blocks:=c.blocks,fk:=c.fk} 1 0 [t.blocks.length+1] 0 [t.blocks.length+1]).fk} (m+3):=by
  intro a e1 e2;have v:=CZ ops (end_ {s:=cut d.known.length a,blocks:=c.blocks,fk:=c.fk} 1 0 [t.blocks.length+1] 0 [t.blocks.length+1]).s;have w:a.ee.length<=_:=v.1.ee;have l:_+a.ee.length<=a.eE.length+_:=v.1.eE;have x:_<=max a.ee.length 200:=v.2;rw[e1]at w l x;rw[e2]at l;refine⟨?_,?_,?_⟩
  ·grind
  ·show(row ops _).eE.length<=(row ops _).ee.length+(c.blocks++[_]).length
   grind
  ·show(c.blocks++[_]).length<=m+3
   simp_all
 refine u _ ?_ ?_
 ·rw[(Fy _ _ _).1];split
  ·rw[(Fy _ _ _).1];exact(Fy _ _ _).1
  ·exact(Fy _ _ _).1
 ·rw[(Fy _ _ _).2];split
  ·rfl
  ·rfl
theorem FE(ops:List Int):∀l {t:Dt} {m:Nat},Big t m->Big (kM ops l t) (m+3*l.length)
 |[],t,m,h=>h
 | k ::l,t,m,h=>by
   unfold kM;split
   ·rename_i hv
    have a:Big (um ops (jC k 3) t) (m+3):=by
      unfold um;split
      ·grind[zc5]
      split
      ·grind[zbv]
      ·grind[zbs]
    have:=FE ops l a
    grind
   ·exact⟨h.ee,h.eE,by have:=h.blocks;omega⟩
theorem zdM (ops:List Int) (h:Ok t):∃D pr nx,Gh D pr nx t.blocks.length/\nx t.blocks.length=[]/\qv D pr nx noE (end_ (on t (fI ops t.s).2) 3 0 [] (fI ops t.s).1 []):=by
 let⟨D,pr,nx,hG,hM⟩:=h
 generalize j:t.blocks.length=hi at*;have c:∀b,b<=hi->ext hi D (dF hi) b=D b:=λb h=>mF h;have yK:∀i,i<hi->uw hi nx (λ_=>[]) i=nx i:=λi h=>Be h;have m:Gh (ext hi D (dF hi)) (ext hi pr λ_=>[]) (uw hi nx λ_=>[]) hi:=by
  refine⟨λp b hp a=>?_,λb h0 a=>?_,λb a=>?_,λb a=>?_,λp hp hl u d=>?_⟩
  ·rw[yK p hp]at a
   let⟨f,n,o⟩:=hG.tree p b hp a
   exact⟨f,n,by rw[c b f];exact Eb hG.down c o (by omega)⟩
  ·rw[c b a];exact hG.down b h0 a
  ·rw[mF a,hG.fk b a,AU hi b yK]
  ·let⟨l,hl⟩:=hG.reach b a
   exact⟨l,hl.mono (jJ _) yK⟩
  ·rw[yK p hp]at hl d;rw[mF (hG.tree p u hp d).1];exact hG.RI p hp hl u d
 have e:=hM.Zi (D':=ext hi D (dF hi)) (pr':=ext hi pr λ_=>[]) (nx':=uw hi nx λ_=>[]) (by simp_all) (by simp_all) (by grind[mF]) (by simp_all);have v:uw hi nx (λ_=>[]) hi=[]:=lQ (k:=0)
 let⟨m1,x,hk,_,_,fs,q,y⟩:=e.state ops
 have r:(on t (fI ops t.s).2).blocks.length=hi:=j
 let ⟨z,_⟩:=m1.end_ (cond:=0) (fk:=[]) (by simp_all) (by grind[ig,List])
  (.inr (.inr ⟨rfl,rfl,fs,q,λw g=>m1.kn w (by show w∈(fI ops t.s).2.known;simp_all)⟩))
  (λw g=>(m1.kn w g).up (by rw[r];exact Me (by omega) (ig (by omega))))
 grind
theorem zdP{D:Nat->Nat} {pr:Nat->List Nat}   (G:Gh D pr nx hi) (hn:nx hi=[]) (d:qv D pr nx noE t) (Y:t.blocks.length=hi+1) (M:t.s.cur=[]) (hv:t.s.ee.length<=3000) (hs:t.s.eE.length<=1000) (P:t.blocks.length<=300) (f p:Int) :
  Good ⟨f,p,t.s.ee,t.blocks,t.s.eE⟩:=by
 have hc:t.blocks.flatMap (λB=>B.ee)=List.range t.s.ee.length:=by
  have:=d.cat
  rw[M,Ku]at this;exact this
 have own:∀{v b},Ow t v b->∃k,At ⟨f,p,t.s.ee,t.blocks,t.s.eE⟩ v b k:=λh=>by
  rcases h with⟨B,n,m⟩|⟨_,m⟩
  ·let⟨k,hk⟩:=mz.1 m
   exact⟨k,B,n,hk⟩
  simp_all
 have ac:∀{v b},Ow t v b->b<t.blocks.length:=λh=>by
  rcases h with⟨B,n,_⟩|⟨_,m⟩
  ·grind
  simp_all
 have z:∀{v b k},At ⟨f,p,t.s.ee,t.blocks,t.s.eE⟩ v b k->Ow t v b:=λ⟨B,n,m⟩=> .inl ⟨B,n,yN m⟩;have ad:∀b,b<t.blocks.length->next ⟨f,p,t.s.ee,t.blocks,t.s.eE⟩ b=nx b:=λb h=>by
  have e:=hZ h;unfold next
  simp[e];exact(d.bk b _ e).1
 have ae:∀b,¬b<t.blocks.length->next ⟨f,p,t.s.ee,t.blocks,t.s.eE⟩ b=[]:=by grind[next,Z2]
 have B7:∀q b,b∈next ⟨f,p,t.s.ee,t.blocks,t.s.eE⟩ q->q<hi/\b∈nx q:=λq b h=>by
  grind
 have H:∀{x b},tf D x b->zJ (next ⟨f,p,t.s.ee,t.blocks,t.s.eE⟩) x b:=λh l hl=>Mk (λq b Y _=>(G.tree q b (by grind) (by simp_all)).2.2) hl h;have zgZ:∀{a w},Kn D t a w->nz ⟨f,p,t.s.ee,t.blocks,t.s.eE⟩ w:=λ⟨_,x,_,_,C,J⟩=>⟨x,C,J⟩
 have F:∀{a w},Kn D t a w->Mh ⟨f,p,t.s.ee,t.blocks,t.s.eE⟩ w a:=λ⟨b,x,n,m,_⟩=>let⟨k,hk⟩:=own n;⟨b,k,hk,H m⟩
 have Z:∀{v w b k},At ⟨f,p,t.s.ee,t.blocks,t.s.eE⟩ v b k->w<v->Kn D t b w->zaH ⟨f,p,t.s.ee,t.blocks,t.s.eE⟩ w b k:=λ{v w b k} hv o ⟨c,x,n,m,_⟩=>by
  let⟨j,hj⟩:=own n
  by_cases e:c=b
  ·subst e;exact⟨c,j,hj,.inl ⟨rfl,zcX hc hj hv o⟩⟩
  ·exact⟨c,j,hj,.inr ⟨e,H m⟩⟩
 have uniq:∀{v b Q},Ow t v b->Ow t v Q->b=Q:=λh h'=>by
  let⟨k,hk⟩:=own h
  let⟨k',hk'⟩:=own h'
  exact(ZD hc hk hk').1
 have K:∀b,ahead ⟨f,p,t.s.ee,t.blocks,t.s.eE⟩ b=qT nx hi b:=λb=>by
  have R:∀l i,(∀k B,l[k]? =some B->B.next=nx (i+k))->nT l i b=((List.range' i l.length).flatMap λq=>((nx q).filter (·= b)).map λ_=>q):=by
   intro l
   induction l with
   |nil=>intro i _;rfl
   | cons B l S=>
     intro i h;have h0:=h 0 B rfl;rw[Nat.add_zero]at h0;rw[Re,List.range'_succ,wA6];unfold nT;rw[h0,S (i+1) λk B T=>by rw[show i+1+k=i+(k+1) by omega];exact h (k+1) B T]
  unfold ahead;rw[R t.blocks 0 λk B T=>by rw[Jn];exact(d.bk k B T).1];have e:List.range' 0 t.blocks.length=List.range t.blocks.length:=(List.range_eq_range').symm;rw[ Y];have:=zl nx hi b
  grind[qT]
 refine{nv:=hv,Xi:=by simp_all,nb:=P,ns:=hs,st:=?_,NN:=by simp_all[zbd],Rp:=λv b k Q k' h h'=>ZD hc h h',uP:=λv b k h=>zgC hc h,za8:=?_,par:=?_,XS:=?_,op:=λv x h=>(d.O9 v x h).op,use:=?_,leave:=?_,putAt:=λv x h=>(d.O9 v x h).putAt,param:=?_,fin:=?_,nx:=?_,fk:=?_,Tk:=?_,RI:=?_,reach:=?_,ZC:=?_,zcM:=?_,Zq:=?_,zbo:=?_,zbA:=?_}
 ·intro s fs h
  let⟨r,E⟩:=d.st s fs h
  grind
 ·intro v w b k x y n m C J h5
  let⟨c,r,_,_,g4⟩:=(d.O9 v x C).own
  obtain rfl:=uniq r (z n);have o:w<v:=(Aq hc m n).2 rfl (TU _)
  grind
 ·intro v b k x n m C;exact uniq (z n) ((d.O9 v x m).par C).1
 ·intro v b k x B n m C J
  let⟨c,r,E,A⟩:=d.ph v x m C
  obtain rfl:=uniq r (z n);exact⟨E,by rw[(d.bk c B J).2.1];exact(A id).1⟩
 ·intro v x h w L;by_cases N:x.op=21
  ·let⟨c,r,E,A⟩:=d.ph v x h N
   have U:w∈x.args:=by unfold jn at L;rw[if_pos N]at L;exact L
   let⟨j,hj⟩:=mz.1 U
   have o:=(ke.1 hj).1;rw[(A id).1]at o;exact zgZ ((A id).2 j w _ hj (hZ o))
  ·let⟨c,r,E,_⟩:=(d.O9 v x h).own
   grind
 ·intro v x h hl
  let⟨c,r,_,A,_⟩:=(d.O9 v x h).own
  grind
 ·intro v x h n
  let⟨r,E,A⟩:=(d.O9 v x h).par n
  refine⟨by omega,by omega,λw y hy V he=>?_⟩
  let⟨_,k2,_⟩:=(d.O9 w y hy).par V
  omega
 ·intro b B h;rcases(d.bk b B h).2.2 with g|⟨r,E,A⟩|⟨r,E,fs,A,_⟩
  ·omega
  ·grind
  grind
 ·intro b u W
  let⟨r,E⟩:=B7 b u W
  have:=(G.tree b u r E).1
  grind
 ·intro b B h;have o:=(ke.1 h).1;rw[(d.bk b B h).2.1,K,G.fk b (by grind)]
 ·rw[K];exact Ot λi X hm=>(G.tree i 0 X hm).2.1 rfl
 ·intro b B h m u W;have o:b<t.blocks.length:=by grind
  have e:=(d.bk b B h).1;have O:u∈nx b:=by rw[<-e];exact W
  have I:b<hi:=by
   by_cases e2:b=hi
   ·simp_all
   ·omega
  have hl:(nx b).length=2:=by
   rw[<-e];rcases(d.bk b B h).2.2 with g|⟨_,E,_⟩|⟨r,_⟩
   ·omega
   ·exact E
   ·omega
  rw[K,<-G.fk u (G.tree b u I O).1];exact G.RI b I hl u O
 ·intro b o;have aa:b<t.blocks.length:=o
  let⟨l,hl⟩:=G.reach b (by omega)
  have ab:∀{b l},Pn nx hi b l->Pt (next ⟨f,p,t.s.ee,t.blocks,t.s.eE⟩) b l:=by
   intro b l h
   induction h with
   |nil=>exact .nil
   |step _ hp e S=>exact .step S (by grind)
  grind
 ·intro v b k x n m C w L
  let⟨c,r,E,_⟩:=(d.O9 v x m).own
  grind
 ·intro v b k x B n m C J j w q h5 h6
  let⟨c,r,_,A⟩:=d.ph v x m C
  obtain rfl:=uniq r (z n);rw[(d.bk c B J).2.1]at h6;exact F ((A id).2 j w q h5 h6)
 ·intro v b k x fs n m C J w L
  let⟨c,r,_,A,_⟩:=(d.O9 v x m).own
  grind
 ·intro b B h m;rcases(d.bk b B h).2.2 with g|⟨_,_,A⟩|⟨r,_⟩
  ·omega
  ·simp_all
  ·omega
 ·intro b B fs h m C w L;rcases(d.bk b B h).2.2 with g|⟨r,_,_⟩|⟨_,_,ag,A,g4⟩
  ·omega
  ·omega
  simp_all
theorem Jz:∀n i s,(params n i s).ee.length=s.ee.length+n/\(params n i s).eE=s.eE
 |0,_,_=>⟨rfl,rfl⟩
 | n+1,i,s=>by
   let⟨a,b⟩:=Jz n (i+1) (il s (vl 1 0 0 (i:Nat) [] 0))
   grind[params,il]
theorem Sp(ops c:List Int) (n:Int):Good (Ao ops c n):=by
 have d:=zag ops c n;have hp:=Jz (jC n 5) 0 ⟨[],[],[],[],0⟩;have g:=zq n (m:=5) (by omega)
 let⟨r1,r2⟩:=CZ ops (il (params (jC n 5) 0 ⟨[],[],[],[],0⟩) (vl 2 0 0 5 [] 0))
 have e1:(il (params (jC n 5) 0 ⟨[],[],[],[],0⟩) (vl 2 0 0 5 [] 0)).ee.length=jC n 5+1:=by
  simp only[il,qu,hp.1];simp
 have e2:(il (params (jC n 5) 0 ⟨[],[],[],[],0⟩) (vl 2 0 0 5 [] 0)).eE=[]:=hp.2;have e:Big ⟨row ops (il (params (jC n 5) 0 ⟨[],[],[],[],0⟩) (vl 2 0 0 5 [] 0)),[],[]⟩ 0:=by
  have a:=r1.ee;have b:=r1.eE;rw[e1]at a b r2;rw[e2]at b;refine⟨by grind,?_,jJ _⟩;show(row ops _).eE.length<=(row ops _).ee.length+0;simp at b;omega
 have f:=FE ops (c.take 6) e;have hlen:(c.take 6).length<=6:=by rw[TV];omega
 unfold Ao;simp only;generalize kM ops (c.take 6) ⟨row ops (il (params (jC n 5) 0 ⟨[],[],[],[],0⟩) (vl 2 0 0 5 [] 0)),[],[]⟩=t at*
 let⟨D,pr,nx,hG,hn,hM⟩:=zdM ops d
 let⟨h,i,_⟩:=A8 ops t.s
 have v:=f.ee;have s:=f.eE;have bl:=f.blocks;refine zdP hG hn hM (by simp[end_,on]) rfl ?_ ?_ ?_ 1 2
 ·show(fI ops t.s).2.ee.length<=3000
  grind
 ·show(fI ops t.s).2.eE.length<=1000;omega
 ·show(t.blocks++[_]).length<=300
  grind
theorem zdA(ops c:List Int) (n:Int):1<=(Ao ops c n).ee.length/\(Ao ops c n).ee.length<=210:=by
 constructor
 ·have g:=Sp ops c n;have hs:∃(s:Nat) (fs:List Fm) (f:Fm),(Ao ops c n).eE[s]? =some fs/\f∈fs/\∃v,v∈f.stack:=by
   refine⟨_,_,_,wBB,Hh.2 rfl,_,Hh.2 rfl⟩
  let⟨s,fs,f,e,h,v,i⟩:=hs
  let⟨x,l,_⟩:=((g.st s fs e).2.2 f h).2.2.2 v i
  grind
 ·have hp:=Jz (jC n 5) 0 ⟨[],[],[],[],0⟩;have j:=zq n (m:=5) (by omega)
  let⟨r1,r2⟩:=CZ ops (il (params (jC n 5) 0 ⟨[],[],[],[],0⟩) (vl 2 0 0 5 [] 0))
  have e1:(il (params (jC n 5) 0 ⟨[],[],[],[],0⟩) (vl 2 0 0 5 [] 0)).ee.length=jC n 5+1:=by
   simp only[il,qu,hp.1];simp
  have e2:(il (params (jC n 5) 0 ⟨[],[],[],[],0⟩) (vl 2 0 0 5 [] 0)).eE=[]:=hp.2;have d:Big ⟨row ops (il (params (jC n 5) 0 ⟨[],[],[],[],0⟩) (vl 2 0 0 5 [] 0)),[],[]⟩ 0:=by
   have a:=r1.ee;have b:=r1.eE;rw[e1]at a b r2;rw[e2]at b;refine⟨by grind,?_,jJ _⟩;show(row ops _).eE.length<=(row ops _).ee.length+0;simp at b;omega
  have k:=FE ops (c.take 6) d;unfold Ao;simp only;generalize kM ops (c.take 6) ⟨row ops (il (params (jC n 5) 0 ⟨[],[],[],[],0⟩) (vl 2 0 0 5 [] 0)),[],[]⟩=t at*
  let⟨o,_,_⟩:=A8 ops t.s
  have v:=k.ee;show(fI ops t.s).2.ee.length<=210
  simp_all
def On(l:List Bool)(v:Nat):Prop:=l[v]? =some true
theorem Ln{l:List Bool}  (hv:v<l.length) (b:Bool):On (l.set v b) w↔(w=v/\b=true)\/(w≠v/\On l w):=by
 grind[On,Tt]
def gJ(u:U) (v:Nat):Bool:=match u.ee[v]? with
 |some x=>iV x.op
 |none=>false
def iD(u:U) (b:Nat):List Nat:=match u.blocks[b]? with
 |some B=>B.ee
 |none=>[]
def iu(u:U)(t w:Nat):Prop:=w∈iD u t/\gJ u w=true
def nN(u:U) (s:Nat):List Nat:=match u.eE[s]? with
 |some fs=>gB fs
 |none=>[]
def BP(u:U) (v:Nat):List Nat:=match u.ee[v]? with
 |some x=>jn x++(if leaves x.op=true then nN u x.state else[])
 |none=>[]
def ln(In H:Nat->Nat->Prop):List Nat->(Nat->Prop)->Nat->Prop
 |[],P=>P
 |t::ts,P=>ln In H ts λw=>(P w\/In t w)/\¬H t w
def PJ(u:U)(b w:Nat):Prop:=∃t∈next u b,∃(B:Bk) (v:Nat) (x:Vl) (j:Nat),u.blocks[t]? =some B/\v∈B.ee/\u.ee[v]? =some x/\x.op=21/\B.fk[j]? =some b/\x.args[j]? =some w
def Po(u:U)(b w:Nat):Prop:=∃B,u.blocks[b]? =some B/\(B.fin=2/\w=B.cond\/B.fin=3/\w∈nN u B.state)
def PO(u:U)(H In:Nat->Nat->Prop)(b w:Nat):Prop:=ln In H (next u b) (λ_=>False) w\/PJ u b w\/Po u b w
def bk(u:U):List Nat->(Nat->Prop)->Nat->Prop
 |[],P=>P
 |v::r,P=>if gJ u v=true then P else bk u r λw=>(P w/\w≠v)\/w∈BP u v
def Ma(u:U)(b:Nat)(O:Nat->Prop):Nat->Prop:=bk u (iD u b).reverse O
def Tr(u:U)(H In:Nat->Nat->Prop)(b:Nat):Nat->Prop:=Ma u b (PO u H In b)
theorem Y9 (h:∀b w,In b w->a b w):∀{ts:List Nat} {P c:Nat->Prop},(∀w,P w->c w)->∀w,ln In H ts P w->ln a H ts c w
 |[],_,_,hp,w,hw=>hp w hw
 |_::ts,_,_,hp,w,hw=>Y9 (ts:=ts) h (by grind) w hw
theorem Ir:∀{ts:List Nat} {P:Nat->Prop},(∀t∈ts,∀w,H t w↔a t w)->∀w,ln In H ts P w↔ln In a ts P w
 |[],_,_,_=>Iff.rfl
 | t ::ts,P,h,w=>by
   have e:(λw=>(P w\/In t w)/\¬H t w)=λw=>(P w\/In t w)/\¬a t w:=by
     funext x;rw[h t (by simp) x]
   show ln In H ts _ w↔ln In a ts _ w;rw[e];exact Ir (by simp_all) w
theorem zcd:∀{ts:List Nat} {P:Nat->Prop} {w:Nat},ln In H ts P w->P w\/∃t∈ts,In t w/\¬H t w
 |[],_,_,h=> .inl h
 | t::ts,P,w,h=>by
   rcases zcd (ts:=ts) h with a|⟨t',a,b⟩
   ·grind
   grind
theorem Zn :∀{ts:List Nat} {P:Nat->Prop},P w->(∀t∈ts,¬H t w)->ln In H ts P w
 |[],_,h,_=>h
 |t::ts,_,h,hn=>Zn (ts:=ts) (by simp_all) (by simp_all)
theorem zbt :∀{ts:List Nat} {P:Nat->Prop},b∈ts->In b w->(∀t∈ts,¬H t w)->ln In H ts P w
 |[],_,h,_,_=>by cases h
 | t::ts,_,h,hi,hn=>by
   rcases Aw.1 h with rfl|h
   ·exact Zn (ts:=ts) ⟨.inr hi,hn _ (by simp)⟩ λt a=>hn t (by simp[a])
   ·exact zbt (ts:=ts) h hi (by simp_all)
theorem Np  (h:∀b w,In b w->a b w) {b w:Nat} (d:PO u H In b w):PO u H a b w:=
 d.elim (λc=> .inl (Y9 h (λ_ e=>e) w c)) λc=> .inr c
theorem Ct:∀{r:List Nat} {P a:Nat->Prop},(∀w,P w->a w)->∀w,bk u r P w->bk u r a w
 |[],_,_,h,w,hw=>h w hw
 | v::r,P,a,h,w,hw=>by
   unfold bk at hw⊢;split at hw
   ·simp_all
   ·rename_i e;rw[if_neg e];exact Ct (by grind) w hw
theorem LJ  (h:∀b w,In b w->a b w) {b w:Nat} (c:Tr u H In b w):Tr u H a b w:=
 Ct (by grind[Np]) w c
structure Xx (u:U) (H In:Nat->Nat->Prop):Prop where
 up:∀b w,In b w->Tr u H In b w
 least:∀X,(∀b w,b<u.blocks.length->Tr u H X b w->X b w)->∀b w,In b w->X b w
theorem Xx.start(u:U)(H:Nat->Nat->Prop):Xx u H λ_ _=>False:=⟨by simp_all,by simp_all⟩
def wH(In:Nat->Nat->Prop)(b:Nat)(P:Nat->Prop):Nat->Nat->Prop:=λc w=>(c=b/\P w)\/(c≠b/\In c w)
theorem Xx.step  (h:Xx u H In) {b:Nat} (i:b<u.blocks.length):Xx u H (wH In b (Tr u H In b)):=by
 have f:∀c w,In c w->wH In b (Tr u H In b) c w:=λc w a=>by
  by_cases e:c=b
  ·subst e;exact .inl ⟨rfl,h.up _ _ a⟩
  ·exact .inr ⟨e,a⟩
 refine⟨λc w a=>?_,λX g c w a=>?_⟩
 ·rcases a with⟨rfl,d⟩|⟨_,d⟩
  ·grind[LJ]
  ·exact LJ f (h.up _ _ d)
 ·rcases a with⟨rfl,d⟩|⟨_,d⟩
  ·exact g _ _ i (LJ (h.least X g) d)
  ·exact h.least X g _ _ d
structure mn (u:U) (H In Out:Nat->Nat->Prop):Prop where
 out:∀b w,b<u.blocks.length->(Out b w↔PO u H In b w)
 FK:∀b w,b<u.blocks.length->(In b w↔Ma u b (Out b) w)
 least:∀X,(∀b w,b<u.blocks.length->Tr u H X b w->X b w)->∀b w,In b w->X b w
theorem mn.tr  (h:mn u H In Out) {b w:Nat} (a:b<u.blocks.length):In b w↔Tr u H In b w:=by
 rw[h.FK b w a];exact⟨Ct (λx c=>(h.out b x a).1 c) w,Ct (λx c=>(h.out b x a).2 c) w⟩
theorem VN {c:Nat->Nat->Prop}  (d:∀t∈next u b,∀w,H t w↔c t w) (w:Nat):Tr u H In b w↔Tr u c In b w:=
 ⟨Ct (λx a=>a.imp (by grind[Ir]) id) w,Ct (λx a=>a.imp (by grind[Ir]) id) w⟩
theorem mn.uniq {g c:Nat->Nat->Prop} (h:mn u H In Out) (h':mn u g c a) (j:∀b,∀t∈next u b,∀w,H t w↔g t w) {b w:Nat} (d:b<u.blocks.length):(In b w↔c b w)/\(Out b w↔a b w):=by
 have e:=h.least c λb w d i=>(h'.tr d).2 (by grind[VN]);have e':=h'.least In λb w d i=>(h.tr d).2 (by grind[VN]);refine⟨by grind,?_⟩;rw[h.out b w d,h'.out b w d];exact⟨λf=>(Np e f).imp (by grind[Ir]) id,λf=>(Np e' f).imp (by grind[Ir]) id⟩
theorem JF :v∈iD u b↔∃k,At u v b k:=by
 unfold iD At
 grind[mz]
theorem j8 {k:Nat}:(iD u b)[k]? =some v↔At u v b k:=by
 grind[iD,At]
theorem Pt.cut {x:Nat}:∀{b l},Pt nx b l->x∈l->∃a,Pt nx x a/\a.length<=l.length
 | _,_,.nil,h=>by
   obtain rfl:x=0:=by simp_all
   exact⟨_,.nil,jJ _⟩
 | _,_,.step h e,c=>by
   rcases Aw.1 c with rfl|c
   ·exact⟨_,.step h e,jJ _⟩
   ·let⟨a,d,f⟩:=Pt.cut h c
    exact⟨a,d,by simp;omega⟩
section
variable{u:U}(g:Good u)
include g
theorem Good.KV (h:b∈next u p):p<u.blocks.length/\b<u.blocks.length/\b≠0:=by
 refine⟨?_,g.nx p b h,λe=>?_⟩
 ·grind[next,ke]
 ·subst e;have:=mK.2 h;rw[g.Tk]at this;cases this
omit g in
theorem TH  (h:zJ (next u) c b) (hc:c≠b) (e:b∈next u p):zJ (next u) c p:=λl hl=>by
 have:=h _ (.step hl e)
 simp_all
theorem Good.alone{t:Nat} (c:t≠0) (d:∀q,t∈next u q->q=p) (hp:p<u.blocks.length) (h:zJ (next u) t p):False:=by
 have a:∀n l,l.length<=n->¬Pt (next u) p l:=by
  intro n
  induction n with
  | zero=>
    intro l hl hP
    cases hP <;> simp at hl
  | succ n f=>
    intro l hl hP
    let⟨l',b,i⟩:=hP.cut (h l hP)
    cases b with
    |nil=>omega
    | step j e=>
      grind
 let⟨l,hl⟩:=g.reach p hp
 exact a l.length l (jJ _) hl
theorem Good.BK{k:Nat} (h:At u v b k):∃x,u.ee[v]? =some x/\gJ u v=iV x.op:=by
 have:=g.uP v b k h
 simp_all[gJ]
theorem Good.PC{k:Nat} (h:At u v b k) (hv:gJ u v=true):∀{w j:Nat},At u w b j->j<=k->gJ u w=true:=by
 have f:∀n v k,At u v b k->gJ u v=true->∀w j,At u w b j->j+n=k->gJ u w=true:=by
  intro n
  induction n with
  | zero=>
    intro v k h hv w j a l;obtain rfl:j=k:=by omega
    let⟨B,c,d⟩:=h
    let⟨B',e,p⟩:=a
    simp_all
  | succ n m=>
    intro v k h hv w j a l;obtain⟨k,rfl⟩:∃i,k=i+1:=⟨k-1,by omega⟩
    let⟨B,c,d⟩:=h
    have o:k<B.ee.length:=by have:=(ke.1 d).1;omega
    have e:At u (B.ee[k]) b k:=⟨B,c,hZ o⟩
    let⟨x,hx,ex⟩:=g.BK ⟨B,c,d⟩
    let⟨y,hy,ey⟩:=g.BK e
    rw[ex]at hv;exact m _ k e (by rw[ey];exact g.za8 _ _ _ _ _ _ ⟨B,c,d⟩ e hx hy hv) w j a (by omega)
 exact λ{w j} a l=>f (k-j) v k h hv w j a (by omega)
theorem Good.pw(b:Nat):(iD u b).reverse.Pairwise λx y=>gJ u x=true->gJ u y=true:=by
 rw[List.pairwise_reverse,wBI];intro i j hi a c h;exact g.PC (j8.1 (hZ a)) h (j8.1 (hZ hi)) (by omega)
def Vc(u:U)(b w:Nat):Prop:=∃c j,At u w c j/\zJ (next u) c b/\(c=b->gJ u w=true)
theorem Good.zc8{X:Nat->Nat->Prop} (n:∀b w,X b w->Vc u b w) {b w:Nat} (h:PO u (iu u) X b w):∃c j,At u w c j/\zJ (next u) c b:=by
 rcases h with h|⟨t,d,B,v,x,j,i,f,a,l,m,o⟩|⟨B,d,i⟩
 ·rcases zcd h with d|⟨t,d,i,f⟩
  ·exact d.elim
  ·let⟨c,j,a,l,m⟩:=n t w i
   refine⟨c,j,a,TH l (λe=>?_) d⟩;subst e;exact f ⟨JF.2 ⟨j,a⟩,m rfl⟩
 ·let⟨k,hk⟩:=JF.1 (show v∈iD u t by unfold iD;rw[i];exact f)
  exact g.zcM v t k x B hk a l i j w b o m
 ·rcases i with⟨f,rfl⟩|⟨f,a⟩
  ·exact g.zbo b B d f
  ·unfold nN at a;split at a
   ·rename_i fs p;exact g.zbA b B fs d f p w a
   ·cases a
theorem Good.ZW {O:Nat->Prop} (A:∀w,O w->∃c j,At u w c j/\zJ (next u) c b) {w:Nat} (h:Ma u b O w):Vc u b w:=by
 have q:∀l d P,iD u b=l++d->(∀w,P w->∃c j,At u w c j/\zJ (next u) c b/\(c=b->j<l.length\/gJ u w=true))->∀w,bk u l.reverse P w->Vc u b w:=by
  intro l
  induction hl:l.length generalizing l with
  | zero=>
    intro d P _ hP w m;obtain rfl:l=[]:=wBR hl
    let⟨c,j,f,i,o⟩:=hP w m
    refine⟨c,j,f,i,λe=>?_⟩
    simp_all
  | succ n C =>
    intro d P hv hP w m;obtain⟨s,v,rfl⟩:∃s v,l=s++[v]:=by
      rcases jh l with rfl|h
      ·simp_all
      ·exact h
    have hs:s.length=n:=by simpa using hl
    have k:At u v b s.length:=j8.1 (by simp_all);rw[List.reverse_append]at m;simp[ List.reverse_nil]at m;unfold bk at m;split at m
    ·rename_i r
     let⟨c,j,f,i,o⟩:=hP w m
     refine⟨c,j,f,i,λe=>?_⟩;rcases o e with p|p
     ·subst e
      exact g.PC k r f (by omega)
     ·exact p
    ·rename_i r
     refine C s hs (v::d) _ (by simp_all) (λx a=>?_) w m;rcases a with⟨a,nw⟩|a
     ·let ⟨c,j,f,i,o⟩:=hP x a
      refine⟨c,j,f,i,λe=>?_⟩;rcases o e with p|p
      ·left
       rcases Sf j s.length with D|D
       ·omega
       ·exfalso
        obtain rfl:j=s.length:=by omega
        subst e
        let⟨B,e1,e2⟩:=f
        let⟨B',F,G⟩:=k
        simp_all
      simp_all
     ·unfold BP at a
      let⟨y,hy,ey⟩:=g.BK k
      rw[hy] at a;simp only[yX]at a;have t:y.op≠21:=λe=>r (by rw[ey,e];rfl);have:zaH u x b s.length:=by
        rcases a with a|a
        ·exact g.ZC v b s.length y k hy t x a
        ·split at a
         ·rename_i z
          unfold nN at a;split at a
          ·rename_i fs E
           exact g.Zq v b s.length y fs k hy z E x a
          ·cases a
         ·cases a
      let⟨c,j,f,i⟩:=this
      rcases i with⟨rfl,i⟩|⟨i,o⟩
      ·grind[zJ.self]
      grind
 refine q (iD u b) [] O (by simp) (λw m=>?_) w h
 let⟨c,j,f,i⟩:=A w m
 refine⟨c,j,f,i,λe=> .inl ?_⟩;subst e;have:=j8.2 f
 grind
theorem Good.Yu (h:mn u (iu u) In Out) {b w:Nat} (a:In b w):Vc u b w:=
 h.least (Vc u) (λ_ _ _ a=>g.ZW (λ_ c=>g.zc8 (by simp_all) c) a) b w a
variable{In Out:Nat->Nat->Prop}(h:mn u (iu u) In Out)
include h
theorem Good.zgY{k:Nat} (hp:b∈next u p) (hi:In b v) (a:At u v c k) (nw:c≠b\/¬zh2 u v 21):Out p v:=by
 let⟨hpl,hbl,hb0⟩:=g.KV hp
 refine(h.out p v hpl).2 (.inl (zbt hp hi λt f o=>?_))
 let⟨j,hj⟩:=JF.1 o.1
 obtain⟨rfl,rfl⟩:=g.Rp _ _ _ _ _ a hj
 let⟨x,hx,ex⟩:=g.BK a
 let⟨_,hcl,hc0⟩:=g.KV f
 have i:x.op=21:=by
  have:=o.2;rw[ex]at this;simp[iV,JD]at this;rcases this with d|d
  ·exact absurd (g.par _ _ _ _ a hx d) hc0
  ·exact d
 have r:c≠b:=by
  rcases nw with d|d
  ·exact d
  ·exact absurd ⟨x,hx,i⟩ d
 let⟨c',j',d,w,_⟩:=g.Yu h hi
 obtain⟨rfl,rfl⟩:=g.Rp _ _ _ _ _ a d;obtain⟨B,l⟩:∃B,u.blocks[p]? =some B:=by simp_all
 have m:next u p=B.next:=by unfold next;rw[l]
 have n:B.fin=2:=by
  rcases g.fin p B l with⟨_,e⟩|⟨e,_⟩|⟨_,e,_⟩
  ·exfalso;rw[m]at hp f;obtain⟨z,s⟩:∃z,B.next=[z]:=by
    match hq:B.next,e with
    |[z],_=>simp_all
   simp_all
  ·exact e
  ·simp_all
 have hlen:=g.RI p B l n c (by simp_all);refine g.alone hc0 (λq hq=>?_) hpl (by grind[TH]);have m1:=mK.2 hq;have y:=mK.2 f;obtain⟨z,s⟩:∃z,ahead u c=[z]:=by
  match hq:ahead u c,hlen with
  |[z],_=>simp_all
 simp_all
theorem Good.zfH{k j:Nat} {x:Vl} {B:Bk} (c:At u v b k) (i:u.ee[v]? =some x) (d:x.op=21) (e:u.blocks[b]? =some B) (l:B.fk[j]? =some p) (m:x.args[j]? =some w):Out p w:=by
 have a:b∈next u p:=by
  rw[<-mK,<-g.fk b B e];exact by grind
 let⟨B',f,n⟩:=c
 rw[e]at f;cases f;exact(h.out p w (g.KV a).1).2 (.inr (.inl ⟨b,a,B,v,x,j,e,mz.2 ⟨k,n⟩,i,d,l,m⟩))
omit g in
theorem mn.zeF  {B:Bk} (hB:u.blocks[b]? =some B) (hf:B.fin=2):Out b B.cond:=
 (h.out b _ (by grind)).2 (.inr (.inr ⟨B,hB,.inl ⟨hf,rfl⟩⟩))
end
