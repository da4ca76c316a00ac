/- Parts. -/
import Derived.Test.YtloecllhljfidaaDoorM12
set_option maxHeartbeats 4000000
namespace Go.Proofs.YtloecllhljfidaaDoor.Un
open Dm
def oH(nx:Nat->List Nat)(n b:Nat):List Nat:=(List.range n).flatMap λi=>((nx i).filter (·= b)).map λ_=>i
theorem wC(nx:Nat->List Nat) (n b:Nat):oH nx (n+1) b=oH nx n b++((nx n).filter (·= b)).map λ_=>n:=by
 grind[oH,VR]
theorem xS{nx VX:Nat->List Nat} (n b:Nat) (h:∀i,i<n->VX i=nx i):oH VX n b=oH nx n b:=by
 induction n with
 |zero=>rfl
 |succ n a=>grind[wC]
theorem LU{nx:Nat->List Nat} {n b q:Nat}:q∈oH nx n b↔q<n/\b∈nx q:=by
 unfold oH
 simp_all
theorem Js{nx:Nat->List Nat} {n b:Nat} (h:∀i,i<n->b ∉ nx i):oH nx n b=[]:=by
 simp_all[List.eq_nil_iff_forall_not_mem,LU]
inductive Pn (nx:Nat->List Nat) (n:Nat):Nat->List Nat->Prop
 |nil:Pn nx n 0 [0]
 |step {p b:Nat} {l:List Nat} (h:Pn nx n p l) (a:p<n) (e:b∈nx p):Pn nx n b (b::l)
theorem Pn.mono{nx VX:Nat->List Nat} {n a:Nat} (c:n<=a) (d:∀i,i<n->VX i=nx i):∀{b l},Pn nx n b l->Pn VX a b l
 |_,_,.nil=> .nil
 |_,_,.step h hp e=> .step (h.mono c d) (by omega) (by simp_all)
structure Gh (D:Nat->Nat) (pr nx:Nat->List Nat) (hi:Nat):Prop where
 tree:∀p b,p<hi->b∈nx p->b<=hi/\b≠0/\oA D (D b) p
 down:∀b,b≠0->b<=hi->D b<b
 ez:∀b,b<=hi->pr b=oH nx hi b
 reach:∀b,b<=hi->∃l,Pn nx hi b l
 DN:∀p,p<hi->(nx p).length=2->∀t∈nx p,(pr t).length=1
theorem Aq{D D':Nat->Nat} {hi:Nat} (a:∀b,b≠0->b<=hi->D b<b) (c:∀b,b<=hi->D' b=D b) {x b:Nat} (h:oA D x b):b<=hi->oA D' x b:=by
 induction h with
 |refl=>exact λ_=> .refl _
 | up h0 _ d=>
   rename_i b _;intro hb;have:=a b h0 hb;exact .up h0 (by grind)
theorem Zn{t:Dt} {v b:Nat} (h:Ow t v b):b<=t.blocks.length:=by
 rcases h with⟨B,a,_⟩|⟨a,_⟩
 ·grind
 ·omega
section
variable{D D':Nat->Nat}{pr nx pr' VX:Nat->List Nat}{E:Nat->Prop}{t:Dt}
theorem nR.T7(c:nR D pr nx E t) (z:Gh D pr nx t.blocks.length) (p:∀b,b<=t.blocks.length->D' b=D b) (k:∀b,b<=t.blocks.length->pr' b=pr b) (G:∀b,b<t.blocks.length->VX b=nx b):nR D' pr' VX E t:=by
 have kn:∀{a w},a<=t.blocks.length->Kn D t a w->Kn D' t a w:=λH ⟨b,x,l,A,m⟩=>⟨b,x,l,Aq z.down p A H,m⟩
 refine⟨c.cat,λv x h=>?_,λv x h I=>?_,λb B h=>?_,λs fs h=>?_,by rw[k _ (jb _)];exact c.pc,c.ne,λw d=>kn (jb _) (c.kn w d)⟩
 ·have n:=c.JE v x h;obtain⟨b,l,A,m,J⟩:=n.own;refine⟨n.op,n.putAt,n.par,b,l,by grind[Zn],λR=>?_,J⟩
  grind[Zn]
 ·obtain⟨b,e,o,i⟩:=c.ph v x h I;refine⟨b,e,o,λC=>?_⟩;rw[k b (Zn e)];refine⟨(i C).1,λj w q K F=>kn ?_ ((i C).2 j w q K F)⟩;have:=yC F;rw[z.ez b (Zn e)]at this
  grind[Nat.le_of_lt,LU]
 ·have L:=(jk.1 h).1;obtain⟨e,o,i⟩:=c.bk b B h;refine⟨by simp_all,by grind,?_⟩;rcases i with g|⟨r,u,y⟩|⟨r,u,fs,y,M⟩
  ·exact .inl g
  ·exact .inr (.inl ⟨r,u,kn (by omega) y⟩)
  ·exact .inr (.inr ⟨r,u,fs,y,λw d=>kn (by omega) (M w d)⟩)
 ·obtain⟨e,o⟩:=c.st s fs h;refine⟨e,λf N=>?_⟩;obtain⟨i,O,P,Q⟩:=o f N;have own:∀w,(∃a,Kn D t a w)->∃a,Kn D' t a w:=λw ⟨a,b,x,l,_,m⟩=>⟨b,b,x,l,.refl _,m⟩
  exact⟨i,O,λw d=>own w (P w d),λw d=>own w (Q w d)⟩
end
def ext{α:Type}(hi:Nat)(f:Nat->α)(g:Nat->α):Nat->α:=λb=>if b<=hi then f b else g (b-hi)
def qH(hi:Nat)(f:Nat->List Nat)(g:Nat->List Nat):Nat->List Nat:=λb=>if b<hi then f b else g (b-hi)
theorem lT{α:Type}{hi b:Nat}{f g:Nat->α}(h:b<=hi):ext hi f g b=f b:=by simp_all[ext,if_pos]
theorem hK{α:Type}{hi k:Nat}{f g:Nat->α}(h:0<k):ext hi f g (hi+k)=g k:=by simp_all[ext,if_neg,wBd]
theorem yy{hi b:Nat}{f g:Nat->List Nat}(h:b<hi):qH hi f g b=f b:=by simp_all[qH,if_pos]
theorem kU{hi k:Nat}{f g:Nat->List Nat}:qH hi f g (hi+k)=g k:=by simp_all[qH,if_neg,wBd]
section
variable{D:Nat->Nat}{pr nx:Nat->List Nat}{hi:Nat}
theorem Gh.none(a:Gh D pr nx hi) {b:Nat} (hb:hi<b):oH nx hi b=[]:=Js λi h c=>by
 have:=(a.tree i b h c).1;omega
def dF(hi:Nat)(k:Nat):Nat:=hi
def pF(hi k:Nat):List Nat:=if k=3 then[hi+1,hi+2] else[hi]
def nF(hi k:Nat):List Nat:=if k=0 then[hi+1,hi+2] else[hi+3]
theorem Gh.fork(a:Gh D pr nx hi):Gh (ext hi D (dF hi)) (ext hi pr (pF hi)) (qH hi nx (nF hi)) (hi+3):=by
 have m:∀k,0<k->ext hi D (dF hi) (hi+k)=hi:=λk hk=>hK hk;have n:qH hi nx (nF hi) hi=[hi+1,hi+2]:=kU (k:=0);have u:qH hi nx (nF hi) (hi+1)=[hi+3]:=kU (k:=1);have v:qH hi nx (nF hi) (hi+2)=[hi+3]:=kU (k:=2);have e:∀b,b<=hi->ext hi D (dF hi) b=D b:=λb h=>lT h;have uH:∀i,i<hi->qH hi nx (nF hi) i=nx i:=λi h=>yy h;have f:∀b,oH (qH hi nx (nF hi)) (hi+3) b=oH nx hi b++([hi+1,hi+2].filter (·= b)).map (λ_=>hi)++([hi+3].filter (·= b)).map (λ_=>hi+1)++([hi+3].filter (·= b)).map (λ_=>hi+2):=by simp_all[wC,xS]
 have low:∀b,b<=hi+3->b<=hi\/b=hi+1\/b=hi+2\/b=hi+3:=by omega
 refine⟨λp b o hb=>?_,λb h0 hb=>?_,λb hb=>?_,λb hb=>?_,λp o d t ht=>?_⟩
 ·have c:p<hi\/p=hi\/p=hi+1\/p=hi+2:=by omega
  rcases c with h|rfl|rfl|rfl
  ·rw[uH p h]at hb;obtain⟨g,q,r⟩:=a.tree p b h hb;exact⟨by omega,q,by rw[e b g];exact Aq a.down e r (by omega)⟩
  ·rw[n]at hb;simp at hb;rcases hb with rfl|rfl
   ·exact⟨by omega,by omega,by rw[m 1 (by omega)];exact .refl _⟩
   ·exact⟨by omega,by omega,by rw[m 2 (by omega)];exact .refl _⟩
  ·grind[G6]
  grind[G6]
 ·rcases low b hb with h|rfl|rfl|rfl
  ·rw[e b h];exact a.down b h0 h
  ·simp_all
  ·simp_all
  simp_all
 ·rw [f];rcases low b hb with h|rfl|rfl|rfl
  ·rw[lT h,a.ez b h];have w:¬hi+1=b:=by omega
   have x:¬hi+2=b:=by omega
   grind
  ·rw[hK (by omega),a.none (by omega)];simp[pF]
  ·rw[hK (by omega),a.none (by omega)];simp[pF]
  ·rw[hK (by omega),a.none (by omega)];simp[pF]
 ·obtain⟨l,d⟩:=a.reach hi (jb _);have h0:Pn (qH hi nx (nF hi)) (hi+3) hi l:=d.mono (by omega) uH;have g:Pn (qH hi nx (nF hi)) (hi+3) (hi+1) ((hi+1)::l):= .step h0 (by omega) (by simp_all);rcases low b hb with h|rfl|rfl|rfl
  ·obtain⟨s,j⟩:=a.reach b h;exact⟨s,j.mono (by omega) uH⟩
  ·grind
  ·exact⟨_,.step h0 (by omega) (by simp_all)⟩
  ·exact⟨_,.step g (by omega) (by simp_all)⟩
 ·have c:p<hi\/p=hi\/p=hi+1\/p=hi+2:=by omega
  rcases c with h|rfl|rfl|rfl
  ·rw[uH p h]at d ht;rw[lT (a.tree p t h ht).1];exact a.DN p h d t ht
  ·rw[n]at ht;simp at ht;rcases ht with rfl|rfl
   ·rw[hK (by omega)];rfl
   ·rw[hK (by omega)];rfl
  ·simp_all
  simp_all
def nX(hi k:Nat):List Nat:=if k=0 then[hi+1,hi+2] else[]
def pX(hi _k:Nat):List Nat:=[hi]
theorem Gh.exit(a:Gh D pr nx hi):Gh (ext hi D (dF hi)) (ext hi pr (pX hi)) (qH hi nx (nX hi)) (hi+2):=by
 have j:∀k,0<k->ext hi D (dF hi) (hi+k)=hi:=λk hk=>hK hk;have m:qH hi nx (nX hi) hi=[hi+1,hi+2]:=kU (k:=0);have u:qH hi nx (nX hi) (hi+1)=[]:=kU (k:=1);have e:∀b,b<=hi->ext hi D (dF hi) b=D b:=λb h=>lT h;have uH:∀i,i<hi->qH hi nx (nX hi) i=nx i:=λi h=>yy h;have f:∀b,oH (qH hi nx (nX hi)) (hi+2) b=oH nx hi b++([hi+1,hi+2].filter (·= b)).map (λ_=>hi):=by simp_all[wC,xS]
 have low:∀b,b<=hi+2->b<=hi\/b=hi+1\/b=hi+2:=by omega
 refine⟨λp b n hb=>?_,λb h0 hb=>?_,λb hb=>?_,λb hb=>?_,λp n d t ht=>?_⟩
 ·have c:p<hi\/p=hi\/p=hi+1:=by omega
  rcases c with h|rfl|rfl
  ·rw[uH p h]at hb;obtain⟨o,q,r⟩:=a.tree p b h hb;exact⟨by omega,q,by rw[e b o];exact Aq a.down e r (by omega)⟩
  ·rw[m]at hb;simp at hb;rcases hb with rfl|rfl
   ·exact⟨by omega,by omega,by rw[j 1 (by omega)];exact .refl _⟩
   ·exact⟨by omega,by omega,by rw[j 2 (by omega)];exact .refl _⟩
  simp_all
 ·rcases low b hb with h|rfl|rfl
  ·rw[e b h];exact a.down b h0 h
  ·simp_all
  simp_all
 ·rw [f];rcases low b hb with h|rfl|rfl
  ·rw[lT h,a.ez b h]
   grind
  ·rw[hK (by omega),a.none (by omega)];simp[pX]
  ·rw[hK (by omega),a.none (by omega)];simp[pX]
 ·obtain⟨l,d⟩:=a.reach hi (jb _);have h0:Pn (qH hi nx (nX hi)) (hi+2) hi l:=d.mono (by omega) uH;rcases low b hb with h|rfl|rfl
  ·obtain⟨s,g⟩:=a.reach b h;exact⟨s,g.mono (by omega) uH⟩
  ·exact⟨_,.step h0 (by omega) (by simp_all)⟩
  ·exact⟨_,.step h0 (by omega) (by simp_all)⟩
 ·have c:p<hi\/p=hi\/p=hi+1:=by omega
  rcases c with h|rfl|rfl
  ·rw[uH p h]at d ht;rw[lT (a.tree p t h ht).1];exact a.DN p h d t ht
  ·rw[m]at ht;simp at ht;rcases ht with rfl|rfl
   ·rw[hK (by omega)];rfl
   ·rw[hK (by omega)];rfl
  simp_all
def dL(hi k:Nat):Nat:=if k=1 then hi else hi+1
def pL(hi k:Nat):List Nat:=if k=1 then[hi,hi+2] else[hi+1]
def nL(hi k:Nat):List Nat:=if k=1 then[hi+2,hi+3] else[hi+1]
theorem Gh.loop(a:Gh D pr nx hi):Gh (ext hi D (dL hi)) (ext hi pr (pL hi)) (qH hi nx (nL hi)) (hi+3):=by
 have c:ext hi D (dL hi) (hi+1)=hi:=hK (by omega);have g:ext hi D (dL hi) (hi+2)=hi+1:=hK (by omega);have j:ext hi D (dL hi) (hi+3)=hi+1:=hK (by omega);have r:qH hi nx (nL hi) hi=[hi+1]:=kU (k:=0);have q:qH hi nx (nL hi) (hi+1)=[hi+2,hi+3]:=kU (k:=1);have s:qH hi nx (nL hi) (hi+2)=[hi+1]:=kU (k:=2);have m:∀b,b<=hi->ext hi D (dL hi) b=D b:=λb h=>lT h;have uH:∀i,i<hi->qH hi nx (nL hi) i=nx i:=λi h=>yy h;have n:∀b,oH (qH hi nx (nL hi)) (hi+3) b=oH nx hi b++([hi+1].filter (·= b)).map (λ_=>hi)++([hi+2,hi+3].filter (·= b)).map (λ_=>hi+1)++([hi+1].filter (·= b)).map (λ_=>hi+2):=by simp_all[wC,xS]
 have low:∀b,b<=hi+3->b<=hi\/b=hi+1\/b=hi+2\/b=hi+3:=by omega
 refine⟨λp b u hb=>?_,λb h0 hb=>?_,λb hb=>?_,λb hb=>?_,λp u e t ht=>?_⟩
 ·have d:p<hi\/p=hi\/p=hi+1\/p=hi+2:=by omega
  rcases d with h|rfl|rfl|rfl
  ·rw[uH p h]at hb;obtain⟨f,v,w⟩:=a.tree p b h hb;exact⟨by omega,v,by rw[m b f];exact Aq a.down m w (by omega)⟩
  ·rw[r]at hb;simp at hb;subst hb;exact⟨by omega,by omega,by rw[c];exact .refl _⟩
  ·rw[q]at hb;simp at hb;rcases hb with rfl|rfl
   ·exact⟨by omega,by omega,by rw[g];exact .refl _⟩
   ·exact⟨by omega,by omega,by rw[j];exact .refl _⟩
  ·rw[s]at hb;simp at hb;subst hb;exact⟨by omega,by omega,by rw[c];exact(G6 (by omega) c).trans (by grind[G6])⟩
 ·rcases low b hb with h|rfl|rfl|rfl
  ·rw[m b h];exact a.down b h0 h
  ·omega
  ·omega
  omega
 ·rw [n];rcases low b hb with h|rfl|rfl|rfl
  ·rw[lT h,a.ez b h];have y:¬hi+1=b:=by omega
   have z:¬hi+2=b:=by omega
   have A:¬hi+3=b:=by omega
   simp_all
  ·rw[hK (by omega),a.none (by omega)];simp[pL]
  ·rw[hK (by omega),a.none (by omega)];simp[pL]
  ·rw[hK (by omega),a.none (by omega)];simp[pL]
 ·obtain⟨l,e⟩:=a.reach hi (jb _);have h0:Pn (qH hi nx (nL hi)) (hi+3) hi l:=e.mono (by omega) uH;have f:Pn (qH hi nx (nL hi)) (hi+3) (hi+1) ((hi+1)::l):= .step h0 (by omega) (by simp_all);rcases low b hb with h|rfl|rfl|rfl
  ·obtain⟨x,o⟩:=a.reach b h;exact⟨x,o.mono (by omega) uH⟩
  ·grind
  ·exact⟨_,.step f (by omega) (by simp_all)⟩
  ·exact⟨_,.step f (by omega) (by simp_all)⟩
 ·have d:p<hi\/p=hi\/p=hi+1\/p=hi+2:=by omega
  rcases d with h|rfl|rfl|rfl
  ·rw[uH p h]at e ht;rw[lT (a.tree p t h ht).1];exact a.DN p h e t ht
  ·simp_all
  ·rw[q]at ht;simp at ht;rcases ht with rfl|rfl
   ·rw[hK (by omega)];rfl
   ·rw[hK (by omega)];rfl
  simp_all
end
open Dm
def noE:Nat->Prop:=λ_=>False
def Ok(t:Dt):Prop:=∃D pr nx,Gh D pr nx t.blocks.length/\nR D pr nx noE t
theorem Ok.fork{t:Dt} (ops:List Int) (h:Ok t):Ok (fork ops t):=by
 obtain⟨D,pr,nx,c,d⟩:=h;generalize a:t.blocks.length=hi at*;have b:=d.T7 (D':=ext hi D (dF hi)) (pr':=ext hi pr (pF hi)) (VX:=qH hi nx (nF hi)) (by simp_all) (by grind[lT]) (by grind[lT]) (by grind[yy])
 obtain ⟨e,f⟩:=Y6 b ops (by rw[a];exact kU (k:=0)) (by rw[a];exact kU (k:=1)) (by rw[a];exact kU (k:=2)) (by rw[a];exact hK (by omega)) (by rw[a];exact hK (by omega)) (by rw[a];exact hK (by omega))
  (by rw[a];exact hK (by omega)) (by rw[a];exact hK (by omega)) (by rw[a];exact hK (by omega))
 exact⟨_,_,_,by rw[f,a];exact c.fork,e⟩
theorem Ok.exit{t:Dt} (ops:List Int) (h:Ok t):Ok (wo ops t):=by
 obtain⟨D,pr,nx,c,d⟩:=h;generalize a:t.blocks.length=hi at*;have b:=d.T7 (D':=ext hi D (dF hi)) (pr':=ext hi pr (pX hi)) (VX:=qH hi nx (nX hi)) (by simp_all) (by grind[lT]) (by grind[lT]) (by grind[yy])
 obtain ⟨e,f⟩:=YO b ops (by rw[a];exact kU (k:=0)) (by rw[a];exact kU (k:=1)) (by rw[a];exact hK (by omega)) (by rw[a];exact hK (by omega))
  (by rw[a];exact hK (by omega)) (by rw[a];exact hK (by omega))
 exact⟨_,_,_,by rw[f,a];exact c.exit,e⟩
theorem Ok.loop{t:Dt} (ops:List Int) (h:Ok t):Ok (loop ops t):=by
 obtain⟨D,pr,nx,c,d⟩:=h;generalize a:t.blocks.length=hi at*;have b:=d.T7 (D':=ext hi D (dL hi)) (pr':=ext hi pr (pL hi)) (VX:=qH hi nx (nL hi)) (by simp_all) (by grind[lT]) (by grind[lT]) (by grind[yy])
 obtain ⟨e,f⟩:=YJ b ops (by rw[a];exact kU (k:=0)) (by rw[a];exact kU (k:=1)) (by rw[a];exact kU (k:=2)) (by rw[a];exact hK (by omega)) (by rw[a];exact hK (by omega)) (by rw[a];exact hK (by omega))
  (by rw[a];exact hK (by omega)) (by rw[a];exact hK (by omega)) (by rw[a];exact hK (by omega))
 exact⟨_,_,_,by rw[f,a];exact c.loop,e⟩
theorem Ok.kT(ops:List Int):∀(l:List Int) {t:Dt},Ok t->Ok (kT ops l t)
 |[],_,h=>h
 | k ::l,t,h=>by
   unfold Un.kT;split
   ·refine Ok.kT ops l ?_
    unfold rN;split
    ·exact h.fork ops
    split
    ·exact h.loop ops
    ·exact h.exit ops
   ·exact h
def t0(s:Ds):Dt:=⟨s,[],[]⟩
structure Ps (s:Ds) (i:Nat):Prop where
 ef:s.ef.length=i
 all:∀(v:Nat) (x:Vl),s.ef[v]? =some x->x=vl 1 0 0 (v:Nat) [] 0
 cur:s.cur=List.range i
 known:s.known=List.range i
 eh:s.eh=[]
theorem Nl:∀(n i:Nat) (s:Ds),Ps s i->Ps (params n i s) (i+n)
 |0,i,s,h=>h
 | n + 1,i,s,h=>by
   have:=Nl n (i+1) (iE s (vl 1 0 0 (i:Nat) [] 0)) ⟨by simp[iE,h.ef],λv x hv=>?_,by simp only[iE];rw[h.cur,h.ef,VR],by simp only[iE];rw[h.known,h.ef,VR],h.eh⟩
   ·rw[show i+(n+1)=i+1+n by omega]
    exact this
   ·have a:(s.ef++[vl 1 0 0 (i:Nat) [] 0])[v]? =some x:=hv
    by_cases Mw:v<s.ef.length
    ·rw[Vb Mw]at a
     exact h.all v x a
    ·have c:=(jk.1 a).1
     simp at c;have b:v=s.ef.length:=by omega
     subst b;rw[wBT]at a;rw[h.ef]
     simp_all
theorem gh0:Gh (λ_=>0) (λ_=>[]) (λ_=>[]) 0:=
 ⟨by omega,by omega,λb hb=>rfl,λb hb=>by
  obtain rfl:b=0:=by omega
  exact⟨[0],.nil⟩,by omega⟩
theorem XY{s:Ds} {n:Nat} (h:Ps s n) (m:n<=5):nR (λ_=>0) (λ_=>[]) (λ_=>[]) noE (t0 (iE s (vl 2 0 0 5 [] 0))):=by
 have c:(t0 (iE s (vl 2 0 0 5 [] 0))).s.ef=s.ef++[vl 2 0 0 5 [] 0]:=rfl;have d:(t0 (iE s (vl 2 0 0 5 [] 0))).s.cur=List.range (n+1):=by
  show s.cur++[s.ef.length]=_;rw[h.cur,h.ef,VR]
 have hlen:(t0 (iE s (vl 2 0 0 5 [] 0))).s.ef.length=n+1:=by rw[c];simp[h.ef]
 have a:∀(v:Nat) (x:Vl),(t0 (iE s (vl 2 0 0 5 [] 0))).s.ef[v]? =some x->(v<n/\x=vl 1 0 0 (v:Nat) [] 0)\/(v=n/\x=vl 2 0 0 5 [] 0):=λv x hv=>by
  rw[c]at hv;by_cases e:v<s.ef.length
  ·rw[Vb e]at hv;exact .inl ⟨by simp_all,h.all v x hv⟩
  grind
 have i:∀v,v<n+1->Ow (t0 (iE s (vl 2 0 0 5 [] 0))) v 0:=λv hv=> .inr ⟨rfl,by simp_all⟩;have j:∀v,v<n+1->Kn (λ_=>0) (t0 (iE s (vl 2 0 0 5 [] 0))) 0 v:=λv hv=>by
  have hx:∃x,(t0 (iE s (vl 2 0 0 5 [] 0))).s.ef[v]? =some x:=by simp_all
  obtain⟨x,hx⟩:=hx;refine⟨0,x,i v hv,.refl _,hx,?_⟩;rcases a v x hx with⟨_,rfl⟩|⟨_,rfl⟩ <;> rfl
 refine⟨?_,λv x hv=>?_,λv x hv o=>?_,λb B l=>(by cases l),λst fs hs=>?_,rfl,?_,λw k=>?_⟩
 ·rw[hlen,d];rfl
 ·rcases a v x hv with⟨e,rfl⟩|⟨rfl,rfl⟩
  ·refine⟨by simp[vl],by grind[vl],λ_=>⟨by grind,rfl,by omega⟩,0,by grind,by grind[gO,vl,two,pe],by grind[vl,leaves],λ_ w _ k=>?_⟩
   grind[t0,iE,vl,g0]
  ·exact⟨by simp[vl],by grind[vl],by grind[vl],0,by simp_all,by grind[gO,vl,two,pe],by grind[vl,leaves],by grind[vl,iF]⟩
 ·rcases a v x hv with⟨_,rfl⟩|⟨_,rfl⟩
  ·grind[vl]
  grind[vl]
 ·have f:s.eh[st]? =some fs:=hs;rw[h.eh]at f;cases f
 ·show s.known++[s.ef.length]≠[];simp
 ·have g:w∈s.known++[s.ef.length]:=k;rw[h.known,h.ef,<-VR]at g;exact j w (Rf.1 g)
theorem U6(ops a:List Int) (n:Int):Ok (kT ops (a.take 6) ⟨row ops (iE (params (lj n 5) 0 ⟨[],[],[],[],0⟩) (vl 2 0 0 5 [] 0)),[],[]⟩):=by
 have h0:Ps ⟨[],[],[],[],0⟩ 0:=⟨rfl,by simp_all,rfl,rfl,rfl⟩
 have b:=Nl (lj n 5) 0 _ h0;rw[wO]at b;have c:=XY b (by simp_all[Nat.le_of_lt,Db]);obtain⟨d,_⟩:=c.row ops;exact Ok.kT ops _ ⟨_,_,_,gh0,d⟩
open Dm
theorem Ty:∀(l:List Bk),(l.flatMap λB=>B.ef).Pairwise (·< ·)->∀(b b' k k':Nat) (B a:Bk) (v d:Nat),l[b]? =some B->l[b']? =some a->B.ef[k]? =some v->a.ef[k']? =some d->(b<b'->v<d)/\(b=b'->k<k'->v<d)
 |[],_,b,_,_,_,_,_,_,_,h,_,_,_=>by simp_all
 | C ::l,hp,b,b',k,k',B,a,v,d,e,c,i,j=>by
   rw[List.flatMap_cons,List.pairwise_append]at hp;obtain⟨p1,o,p⟩:=hp
   match b,b',e,c with
   | 0,0,e,c=>
     obtain rfl:C=B:=by simp_all
     obtain rfl:C=a:=by simp_all
     grind[jk,ZZ]
   | 0,n+1,e,c=>
     obtain rfl:C=B:=by simp_all
     have f:l[n]? =some a:=by simpa using c
     refine⟨λ_=>p v (yC i) d (by grind),by omega⟩
   |n+1,0,e,c=>omega
   | n+1,m+1,e,c=>
     have g:l[n]? =some B:=by simpa using e
     have f:l[m]? =some a:=by simpa using c
     have:=Ty l o n m k k' B a v d g f i j;omega
section
variable{u:U}(hc:u.blocks.flatMap (λB=>B.ef)=List.range u.ef.length)
include hc
theorem Nh{v a b b' k k':Nat} (h:At u v b k) (h':At u a b' k'):(b<b'->v<a)/\(b=b'->k<k'->v<a):=by
 obtain⟨B,c,d⟩:=h;obtain⟨e,f,g⟩:=h'
 grind[Ty,List.pairwise_lt_range]
theorem Ul{v b b' k k':Nat} (h:At u v b k) (h':At u v b' k'):b=b'/\k=k':=by
 have a:=(Nh hc h h').1;have c:=(Nh hc h' h).1;have hb:b=b':=by
  rcases wBj b b' with h|h|h
  ·omega
  ·exact h
  ·omega
 have d:=(Nh hc h h').2 hb;have e:=(Nh hc h' h).2 hb.symm;omega
theorem Wz{v a b k k':Nat} (h:At u v b k) (h':At u a b k') (c:v<a):k<k':=by
 rcases wBj k k' with g|g|g
 ·exact g
 ·subst g;obtain⟨B,d,e⟩:=h;obtain⟨f,i,j⟩:=h'
  simp_all
 ·have:=(Nh hc h' h).2 rfl g;omega
theorem V8{v:Nat} (hv:v<u.ef.length):∃b k,At u v b k:=by
 have:v∈u.blocks.flatMap (λB=>B.ef):=by rw[hc];exact Rf.2 hv
 obtain⟨B,a,c⟩:=Tu.1 this;obtain⟨b,hb⟩:=mr.1 a;obtain⟨k,hk⟩:=mr.1 c;exact⟨b,k,B,hb,hk⟩
theorem zbO{v b k:Nat} (h:At u v b k):v<u.ef.length:=by
 obtain⟨B,a,c⟩:=h;have:v∈u.blocks.flatMap (λB=>B.ef):=by grind
 simp_all
end
theorem DU(ops:List Int):∀(i:Nat) (s:Ds) (l:List Nat),∃p,(some_ ops i s l).2 = {s with pos:=p}
 |0,s,_=>⟨s.pos,rfl⟩
 |i+1,s,l=>DU ops i (fw ops s).2 (l++[(fw ops s).1])
theorem AE(ops:List Int) (s:Ds):(ft ops s).2.ef=s.ef/\(ft ops s).2.eh.length=s.eh.length+1/\(ft ops s).2.cur=s.cur:=by
 obtain⟨p,a⟩:=DU ops (num ops s 4).1 (num ops s 4).2 [];unfold ft;simp only;rw[a];exact⟨rfl,by simp,rfl⟩
structure Sz (s s':Ds):Prop where
 ef:s.ef.length<=s'.ef.length
 eh:s'.eh.length+s.ef.length<=s.eh.length+s'.ef.length
theorem Sz.refl(s:Ds):Sz s s:=⟨jb _,jb _⟩
theorem Sz.trans{s s' e:Ds} (f:Sz s s') (g:Sz s' e):Sz s e:=by
 have a:=f.ef;have b:=g.ef;have c:=f.eh;have d:=g.eh;exact⟨by omega,by omega⟩
theorem ZU(ops:List Int) (s:Ds) (k a b:Nat):(qB ops s k a b).ef.length=s.ef.length+1/\(qB ops s k a b).eh.length<=s.eh.length+1:=by
 grind[AE,qB,iE,num,put,fw]
theorem TL(ops:List Int):∀(i:Nat) (s:Ds),Sz s (rows ops i s)/\(rows ops i s).ef.length<=max s.ef.length 200
 |0,s=>⟨.refl s,by show s.ef.length<=_;omega⟩
 | i + 1,s=>by
   unfold rows;split
   ·rename_i b
    obtain⟨c,d⟩:=TL ops i (rz ops s);have a:=ZU ops (num ops (fw ops (fw ops s).2).2 20).2 (num ops (fw ops (fw ops s).2).2 20).1 (fw ops s).1 (fw ops (fw ops s).2).1;have e:(rz ops s).ef.length=s.ef.length+1:=a.1;have f:(rz ops s).eh.length<=s.eh.length+1:=a.2;exact⟨Sz.trans ⟨by omega,by omega⟩ c,by omega⟩
   ·exact⟨.refl s,by omega⟩
theorem CR(ops:List Int) (s:Ds):Sz s (row ops s)/\(row ops s).ef.length<=max s.ef.length 200:=by
 obtain⟨a,b⟩:=TL ops (1+(num ops s 6).1) (num ops s 6).2;exact⟨⟨a.ef,a.eh⟩,b⟩
structure W1 (t:Dt) (m:Nat):Prop where
 ef:t.s.ef.length<=210
 eh:t.s.eh.length<=t.s.ef.length+t.blocks.length
 blocks:t.blocks.length<=m
theorem Wm(ops:List Int) {t:Dt} {m:Nat} (h:W1 t m) (hv:t.s.ef.length<160):W1 (fork ops t) (m+3):=by
 obtain⟨w,x,y⟩:=h;unfold fork;simp only;have a1:=CR ops (end_ {t with s:=(fw ops t.s).2} 2 (fw ops t.s).1 [t.blocks.length+1,t.blocks.length+2] 0 [t.blocks.length]).s;generalize o:row ops (end_ {t with s:=(fw ops t.s).2} 2 (fw ops t.s).1 [t.blocks.length+1,t.blocks.length+2] 0 [t.blocks.length]).s=b at*;have p:t.s.ef.length<=b.ef.length:=a1.1.ef;have q:b.eh.length+t.s.ef.length<=t.s.eh.length+b.ef.length:=a1.1.eh;have r:b.ef.length<=max t.s.ef.length 200:=a1.2;generalize d:end_ {s:=cut t.s.known.length b,blocks:=(end_ {t with s:=(fw ops t.s).2} 2 (fw ops t.s).1 [t.blocks.length+1,t.blocks.length+2] 0 [t.blocks.length]).blocks,ez:=(end_ {t with s:=(fw ops t.s).2} 2 (fw ops t.s).1 [t.blocks.length+1,t.blocks.length+2] 0 [t.blocks.length]).ez} 1 0 [t.blocks.length+3] 0 [t.blocks.length]=a at*;have b2:a.blocks.length=t.blocks.length+2:=by rw[<-d];simp[end_]
 have u:a.s.ef=b.ef:=by rw[<-d];rfl
 have v:a.s.eh=b.eh:=by rw[<-d];rfl
 have a2:=CR ops a.s;generalize row ops a.s=c at*;have g:=a2.1.ef;have e:=a2.1.eh;have i:=a2.2;rw[u]at g e i;rw[v]at e;have a3:=CR ops (iE (end_ {s:=cut t.s.known.length c,blocks:=a.blocks,ez:=a.ez} 1 0 [t.blocks.length+3] 0 [t.blocks.length+1,t.blocks.length+2]).s (vl 21 0 0 0 [b.known.getLastD 0,c.known.getLastD 0] 0));have j:(iE (end_ {s:=cut t.s.known.length c,blocks:=a.blocks,ez:=a.ez} 1 0 [t.blocks.length+3] 0 [t.blocks.length+1,t.blocks.length+2]).s (vl 21 0 0 0 [b.known.getLastD 0,c.known.getLastD 0] 0)).ef.length=c.ef.length+1:=by simp[iE,end_,cut]
 have k:(iE (end_ {s:=cut t.s.known.length c,blocks:=a.blocks,ez:=a.ez} 1 0 [t.blocks.length+3] 0 [t.blocks.length+1,t.blocks.length+2]).s (vl 21 0 0 0 [b.known.getLastD 0,c.known.getLastD 0] 0)).eh.length=c.eh.length:=by simp[iE,end_,cut]
 have l:=a3.1.ef;have f:=a3.1.eh;have n:=a3.2;rw[j]at l f n;rw[k]at f;refine⟨?_,?_,?_⟩
 ·grind
 ·show(row ops _).eh.length<=(row ops _).ef.length+(a.blocks++[_]).length
  grind
 ·show(a.blocks++[_]).length<=m+3
  simp_all
theorem WX(ops:List Int) {t:Dt} {m:Nat} (h:W1 t m) (hv:t.s.ef.length<160):W1 (wo ops t) (m+3):=by
 obtain⟨q,r,u⟩:=h;unfold wo;simp only;have a1:=CR ops (end_ {t with s:=(fw ops t.s).2} 2 (fw ops t.s).1 [t.blocks.length+1,t.blocks.length+2] 0 [t.blocks.length]).s;generalize g:row ops (end_ {t with s:=(fw ops t.s).2} 2 (fw ops t.s).1 [t.blocks.length+1,t.blocks.length+2] 0 [t.blocks.length]).s=a at*;have i:t.s.ef.length<=a.ef.length:=a1.1.ef;have j:a.eh.length+t.s.ef.length<=t.s.eh.length+a.ef.length:=a1.1.eh;have k:a.ef.length<=max t.s.ef.length 200:=a1.2;obtain⟨l,n,_⟩:=AE ops a;generalize b:end_ {s:=cut t.s.known.length (ft ops a).2,blocks:=(end_ {t with s:=(fw ops t.s).2} 2 (fw ops t.s).1 [t.blocks.length+1,t.blocks.length+2] 0 [t.blocks.length]).blocks,ez:=(end_ {t with s:=(fw ops t.s).2} 2 (fw ops t.s).1 [t.blocks.length+1,t.blocks.length+2] 0 [t.blocks.length]).ez} 3 0 [] (ft ops a).1 [t.blocks.length]=c at*;have b2:c.blocks.length=t.blocks.length+2:=by rw[<-b];simp[end_]
 have o:c.s.ef=a.ef:=by rw[<-b];exact l
 have p:c.s.eh.length=a.eh.length+1:=by rw[<-b];exact n
 have a2:=CR ops c.s;generalize row ops c.s=v at*;have e:=a2.1.ef;have d:=a2.1.eh;have f:=a2.2;rw[o]at e d f;rw[p]at d;refine⟨?_,?_,?_⟩
 ·grind
 ·grind
 grind
theorem Br(s:Ds)(v:Nat)(args:List Nat):(setArgs s v args).ef.length=s.ef.length/\(setArgs s v args).eh=s.eh:=⟨by simp[setArgs,List.length_modify],rfl⟩
theorem WZ(ops:List Int) {t:Dt} {m:Nat} (h:W1 t m) (hv:t.s.ef.length<160):W1 (loop ops t) (m+3):=by
 obtain⟨G,H,I⟩:=h;unfold loop;simp only;generalize e:end_ {t with s:=(fw ops t.s).2} 1 0 [t.blocks.length+1] 0 [t.blocks.length,t.blocks.length+2]=b at*;have b1:b.blocks.length=t.blocks.length+1:=by rw[<-e];simp[end_]
 have x:b.s.ef=t.s.ef:=by rw[<-e];rfl
 have y:b.s.eh=t.s.eh:=by rw[<-e];rfl
 generalize i:({put (fw ops (put b.s (vl 21 0 0 0 [(fw ops t.s).1,0] 0))).2 (vl 21 0 0 0 [(fw ops (put b.s (vl 21 0 0 0 [(fw ops t.s).1,0] 0))).1,b.s.ef.length] 0)with known:=(put (fw ops (put b.s (vl 21 0 0 0 [(fw ops t.s).1,0] 0))).2 (vl 21 0 0 0 [(fw ops (put b.s (vl 21 0 0 0 [(fw ops t.s).1,0] 0))).1,b.s.ef.length] 0)).known++[b.s.ef.length,b.s.ef.length+1]}:Ds)=f at*;have z:f.ef.length=t.s.ef.length+2:=by rw[<-i,<-x];simp[put,fw]
 have n:f.eh=t.s.eh:=by rw[<-i,<-y];rfl
 obtain⟨A,B,_⟩:=AE ops f;generalize j:iE (put (put (ft ops f).2 (vl 23 0 0 0 [] (ft ops f).1)) (vl 2 0 0 1 [] 0)) (vl 4 b.s.ef.length (put (ft ops f).2 (vl 23 0 0 0 [] (ft ops f).1)).ef.length 0 [] 0)=d at*;have J:d.ef.length=t.s.ef.length+5:=by rw[<-j];simp[iE,put,A,z]
 have C:d.eh.length=t.s.eh.length+1:=by rw[<-j,<-n,<-B];rfl
 generalize g:end_ {s:=d,blocks:=b.blocks,ez:=b.ez} 2 b.s.ef.length [t.blocks.length+2,t.blocks.length+3] 0 [t.blocks.length+1]=c at*;have b2:c.blocks.length=t.blocks.length+2:=by rw[<-g];simp[end_,b1]
 have D:c.s.ef=d.ef:=by rw[<-g];rfl
 have o:c.s.eh=d.eh:=by rw[<-g];rfl
 have a1:=CR ops c.s;generalize row ops c.s=w at*;have p:=a1.1.ef;have k:=a1.1.eh;have q:=a1.2;rw[D]at p k q;rw[o]at k;have r:∀a:Ds,a.ef.length=w.ef.length->a.eh=w.eh->W1 {s:=row ops (end_ {s:=cut d.known.length a,blocks:=c.blocks,ez:=c.ez} 1 0 [t.blocks.length+1] 0 [t.blocks.length+1]).s,blocks:=(end_ {s:=cut d.known.length a,blocks:=c.blocks,ez:=c.ez} 1 0 [t.blocks.length+1] 0 [t.blocks.length+1]).blocks,ez:=(end_ {s:=cut d.known.length a,blocks:=c.blocks,ez:=c.ez} 1 0 [t.blocks.length+1] 0 [t.blocks.length+1]).ez} (m+3):=by
  intro a E F;have a2:=CR ops (end_ {s:=cut d.known.length a,blocks:=c.blocks,ez:=c.ez} 1 0 [t.blocks.length+1] 0 [t.blocks.length+1]).s;have u:a.ef.length<=_:=a2.1.ef;have l:_+a.ef.length<=a.eh.length+_:=a2.1.eh;have v:_<=max a.ef.length 200:=a2.2;rw[E]at u l v;rw[F]at l;refine⟨?_,?_,?_⟩
  ·grind
  ·show(row ops _).eh.length<=(row ops _).ef.length+(c.blocks++[_]).length
   grind
  ·show(c.blocks++[_]).length<=m+3
   simp_all
 refine r _ ?_ ?_
 ·rw[(Br _ _ _).1];split
  ·rw[(Br _ _ _).1];exact(Br _ _ _).1
  ·exact(Br _ _ _).1
 ·rw[(Br _ _ _).2];split
  ·rfl
  ·rfl
theorem KB(ops:List Int):∀(l:List Int) {t:Dt} {m:Nat},W1 t m->W1 (kT ops l t) (m+3*l.length)
 |[],t,m,h=>h
 | k ::l,t,m,h=>by
   unfold kT;split
   ·rename_i hv
    have a:W1 (rN ops (lj k 3) t) (m+3):=by
      unfold rN;split
      ·grind[Wm]
      split
      ·grind[WZ]
      ·grind[WX]
    have:=KB ops l a
    grind
   ·exact⟨h.ef,h.eh,by have:=h.blocks;omega⟩
open Dm
theorem ZI{t:Dt} (ops:List Int) (h:Ok t):∃D pr nx,Gh D pr nx t.blocks.length/\nx t.blocks.length=[]/\nR D pr nx noE (end_ (on t (ft ops t.s).2) 3 0 [] (ft ops t.s).1 []):=by
 obtain ⟨D,pr,nx,a,r⟩:=h;generalize v:t.blocks.length=hi at*;have e:∀b,b<=hi->ext hi D (dF hi) b=D b:=λb h=>lT h;have uH:∀i,i<hi->qH hi nx (λ_=>[]) i=nx i:=λi h=>yy h;have x:Gh (ext hi D (dF hi)) (ext hi pr λ_=>[]) (qH hi nx λ_=>[]) hi:=by
  refine⟨λp b c hb=>?_,λb h0 hb=>?_,λb hb=>?_,λb hb=>?_,λp c d u f=>?_⟩
  ·rw[uH p c]at hb;obtain⟨o,y,z⟩:=a.tree p b c hb;exact⟨o,y,by rw[e b o];exact Aq a.down e z (by omega)⟩
  ·rw[e b hb];exact a.down b h0 hb
  ·rw[lT hb,a.ez b hb,xS hi b uH]
  ·obtain⟨l,d⟩:=a.reach b hb;exact⟨l,d.mono (jb _) uH⟩
  ·rw[uH p c]at d f;rw[lT (a.tree p u c f).1];exact a.DN p c d u f
 have j:=r.T7 (D':=ext hi D (dF hi)) (pr':=ext hi pr λ_=>[]) (VX:=qH hi nx λ_=>[]) (by simp_all) (by simp_all) (by grind[lT]) (by simp_all);have B:qH hi nx (λ_=>[]) hi=[]:=kU (k:=0) (g:=λ_=>[]);obtain⟨m,C,hk,_,_,fs,A,E⟩:=j.state ops;have b1:(on t (ft ops t.s).2).blocks.length=hi:=v
 obtain ⟨F,_⟩:=m.end_ (fin:=3) (cond:=0) (n:=[]) (state:=(ft ops t.s).1) (ez:=[]) (by simp_all) (by grind[hK,List,Nat])
  (.inr (.inr ⟨rfl,rfl,fs,A,λw q=>m.kn w (by show w∈(ft ops t.s).2.known;simp_all)⟩))
  (λw q=>(m.kn w q).up (by rw[b1];exact G6 (by omega) (hK (by omega))))
 grind
theorem Yz{D:Nat->Nat} {pr nx:Nat->List Nat} {t:Dt} {hi:Nat} (G:Gh D pr nx hi) (hn:nx hi=[]) (d:nR D pr nx noE t) (hb:t.blocks.length=hi+1) (N:t.s.cur=[]) (hv:t.s.ef.length<=3000) (hs:t.s.eh.length<=1000) (R:t.blocks.length<=300) (f p:Int) :
  Good ⟨f,p,t.s.ef,t.blocks,t.s.eh⟩:=by
 have hc:t.blocks.flatMap (λB=>B.ef)=List.range t.s.ef.length:=by
  have:=d.cat
  rw[N,HU]at this;exact this
 have own:∀{v b},Ow t v b->∃k,At ⟨f,p,t.s.ef,t.blocks,t.s.eh⟩ v b k:=λh=>by
  rcases h with⟨B,n,m⟩|⟨_,m⟩
  ·obtain⟨k,hk⟩:=mr.1 m;exact⟨k,B,n,hk⟩
  simp_all
 have ae:∀{v b},Ow t v b->b<t.blocks.length:=λh=>by
  rcases h with⟨B,n,_⟩|⟨_,m⟩
  ·grind
  simp_all
 have z:∀{v b k},At ⟨f,p,t.s.ef,t.blocks,t.s.eh⟩ v b k->Ow t v b:=λ⟨B,n,m⟩=> .inl ⟨B,n,yC m⟩;have ag:∀b,b<t.blocks.length->next ⟨f,p,t.s.ef,t.blocks,t.s.eh⟩ b=nx b:=λb h=>by
  have e:=g0 h;unfold next
  simp only[e];exact(d.bk b _ e).1
 have ah:∀b,¬b<t.blocks.length->next ⟨f,p,t.s.ef,t.blocks,t.s.eh⟩ b=[]:=by grind[next,JA,Nat.le_of_not_lt]
 have ze:∀q b,b∈next ⟨f,p,t.s.ef,t.blocks,t.s.eh⟩ q->q<hi/\b∈nx q:=λq b h=>by
  grind
 have H:∀{x b},oA D x b->kV (next ⟨f,p,t.s.ef,t.blocks,t.s.eh⟩) x b:=λh l O=>Hn (λq b hb _=>(G.tree q b (by grind) (by simp_all)).2.2) O h;have zbm:∀{a w},Kn D t a w->mq ⟨f,p,t.s.ef,t.blocks,t.s.eh⟩ w:=λ⟨_,x,_,_,C,J⟩=>⟨x,C,J⟩
 have F:∀{a w},Kn D t a w->rC ⟨f,p,t.s.ef,t.blocks,t.s.eh⟩ w a:=λ⟨b,x,n,m,_⟩=>let⟨k,hk⟩:=own n;⟨b,k,hk,H m⟩
 have aa:∀{v w b k},At ⟨f,p,t.s.ef,t.blocks,t.s.eh⟩ v b k->w<v->Kn D t b w->zh ⟨f,p,t.s.ef,t.blocks,t.s.eh⟩ w b k:=λ{v w b k} hv o ⟨c,x,n,m,_⟩=>by
  obtain⟨j,L⟩:=own n;by_cases e:c=b
  ·subst e;exact⟨c,j,L,.inl ⟨rfl,Wz hc L hv o⟩⟩
  ·exact⟨c,j,L,.inr ⟨e,H m⟩⟩
 have uniq:∀{v b b'},Ow t v b->Ow t v b'->b=b':=λh h'=>by
  obtain⟨k,hk⟩:=own h;obtain⟨k',S⟩:=own h';exact(Ul hc hk S).1
 have K:∀b,ahead ⟨f,p,t.s.ef,t.blocks,t.s.eh⟩ b=oH nx hi b:=λb=>by
  have T:∀(l:List Bk) (i:Nat),(∀k B,l[k]? =some B->B.next=nx (i+k))->jv l i b=((List.range' i l.length).flatMap λq=>((nx q).filter (·= b)).map λ_=>q):=by
   intro l
   induction l with
   |nil=>intro i _;rfl
   | cons B l U=>
     intro i h;have h0:=h 0 B rfl;rw[wB8]at h0;rw[Pb,List.range'_succ,List.flatMap_cons];unfold jv;rw[h0,U (i+1) λk B V=>by rw[show i+1+k=i+(k+1) by omega];exact h (k+1) B V]
  unfold ahead;rw[T t.blocks 0 λk B V=>by rw[wO];exact(d.bk k B V).1];have e:List.range' 0 t.blocks.length=List.range t.blocks.length:=(List.range_eq_range').symm;rw[e,hb];have:=wC nx hi b
  grind[oH]
 refine{nv:=hv,JN:=by simp_all,nb:=R,ns:=hs,st:=?_,xM:=by simp_all[V8],AH:=λv b k b' k' h h'=>Ul hc h h',jz:=λv b k h=>zbO hc h,uS:=?_,par:=?_,Ae:=?_,op:=λv x h=>(d.JE v x h).op,use:=?_,leave:=?_,putAt:=λv x h=>(d.JE v x h).putAt,param:=?_,fin:=?_,nx:=?_,ez:=?_,yA:=?_,DN:=?_,reach:=?_,xG:=?_,zE:=?_,Cn:=?_,zO:=?_,Cf:=?_}
 ·intro s fs h;obtain⟨r,E⟩:=d.st s fs h
  grind
 ·intro v w b k x y n m C J h5;obtain⟨c,r,_,_,g4⟩:=(d.JE v x C).own;obtain rfl:=uniq r (z n);have o:w<v:=(Nh hc m n).2 rfl (Pd _)
  grind
 ·intro v b k x n m C;exact uniq (z n) ((d.JE v x m).par C).1
 ·intro v b k x B n m C J;obtain⟨c,r,E,A⟩:=d.ph v x m C;obtain rfl:=uniq r (z n);exact⟨E,by rw[(d.bk c B J).2.1];exact(A id).1⟩
 ·intro v x h w M;by_cases P:x.op=21
  ·obtain⟨c,r,E,A⟩:=d.ph v x h P;have W:w∈x.args:=by unfold gO at M;rw[if_pos P]at M;exact M
   obtain⟨j,L⟩:=mr.1 W;have o:=(jk.1 L).1;rw[(A id).1]at o;exact zbm ((A id).2 j w _ L (g0 o))
  ·obtain⟨c,r,E,_⟩:=(d.JE v x h).own
   grind
 ·intro v x h O;obtain⟨c,r,_,A,_⟩:=(d.JE v x h).own
  grind
 ·intro v x h n;obtain⟨r,E,A⟩:=(d.JE v x h).par n;refine⟨by omega,by omega,λw y hy X he=>?_⟩;obtain⟨_,k2,_⟩:=(d.JE w y hy).par X;omega
 ·intro b B h;rcases(d.bk b B h).2.2 with g|⟨r,E,A⟩|⟨r,E,fs,A,_⟩
  ·omega
  ·grind
  grind
 ·intro b u Y;obtain⟨r,E⟩:=ze b u Y;have:=(G.tree b u r E).1
  grind
 ·intro b B h;have o:=(jk.1 h).1;rw[(d.bk b B h).2.1,K,G.ez b (by grind)]
 ·rw[K];exact Js λi Z hm=>(G.tree i 0 Z hm).2.1 rfl
 ·intro b B h m u Y;have o:b<t.blocks.length:=by grind
  have e:=(d.bk b B h).1;have Q:u∈nx b:=by rw[<-e];exact Y
  have I:b<hi:=by
   by_cases e2:b=hi
   ·simp_all
   ·omega
  have O:(nx b).length=2:=by
   rw[<-e];rcases(d.bk b B h).2.2 with g|⟨_,E,_⟩|⟨r,_⟩
   ·omega
   ·exact E
   ·omega
  rw[K,<-G.ez u (G.tree b u I Q).1];exact G.DN b I O u Q
 ·intro b o;have ab:b<t.blocks.length:=o;obtain⟨l,O⟩:=G.reach b (by omega);have ac:∀{b l},Pn nx hi b l->Pt (next ⟨f,p,t.s.ef,t.blocks,t.s.eh⟩) b l:=by
   intro b l h
   induction h with
   |nil=>exact .nil
   |step _ hp e U=>exact .step U (by grind)
  grind
 ·intro v b k x n m C w M;obtain⟨c,r,E,_⟩:=(d.JE v x m).own
  grind
 ·intro v b k x B n m C J j w q h5 h6;obtain⟨c,r,_,A⟩:=d.ph v x m C;obtain rfl:=uniq r (z n);rw[(d.bk c B J).2.1]at h6;exact F ((A id).2 j w q h5 h6)
 ·intro v b k x fs n m C J w M;obtain⟨c,r,_,A,_⟩:=(d.JE v x m).own
  grind
 ·intro b B h m;rcases(d.bk b B h).2.2 with g|⟨_,_,A⟩|⟨r,_⟩
  ·omega
  ·simp_all
  ·omega
 ·intro b B fs h m C w M;rcases(d.bk b B h).2.2 with g|⟨r,_,_⟩|⟨_,_,ai,A,g4⟩
  ·omega
  ·omega
  simp_all
theorem M1:∀(n i:Nat) (s:Ds),(params n i s).ef.length=s.ef.length+n/\(params n i s).eh=s.eh
 |0,_,_=>⟨rfl,rfl⟩
 | n+1,i,s=>by
   obtain⟨a,b⟩:=M1 n (i+1) (iE s (vl 1 0 0 (i:Nat) [] 0))
   grind[params,iE]
theorem VO(ops c:List Int) (n:Int):Good (Fb ops c n):=by
 have d:=U6 ops c n;have f:=M1 (lj n 5) 0 ⟨[],[],[],[],0⟩;have g:=Db n (m:=5) (by omega);obtain⟨r1,r2⟩:=CR ops (iE (params (lj n 5) 0 ⟨[],[],[],[],0⟩) (vl 2 0 0 5 [] 0));have h:(iE (params (lj n 5) 0 ⟨[],[],[],[],0⟩) (vl 2 0 0 5 [] 0)).ef.length=lj n 5+1:=by
  simp only[iE,KC,List.length_singleton,f.1];simp
 have i:(iE (params (lj n 5) 0 ⟨[],[],[],[],0⟩) (vl 2 0 0 5 [] 0)).eh=[]:=f.2;have e:W1 ⟨row ops (iE (params (lj n 5) 0 ⟨[],[],[],[],0⟩) (vl 2 0 0 5 [] 0)),[],[]⟩ 0:=by
  have a:=r1.ef;have b:=r1.eh;rw[h]at a b r2;rw[i]at b;refine⟨by grind,?_,jb _⟩;show(row ops _).eh.length<=(row ops _).ef.length+0;simp at b;omega
 have hb:=KB ops (c.take 6) e;have hlen:(c.take 6).length<=6:=by rw[JT];omega
 unfold Fb;simp only;generalize kT ops (c.take 6) ⟨row ops (iE (params (lj n 5) 0 ⟨[],[],[],[],0⟩) (vl 2 0 0 5 [] 0)),[],[]⟩=t at*;obtain⟨D,pr,nx,j,k,l⟩:=ZI ops d;obtain⟨o,p,_⟩:=AE ops t.s;have v:=hb.ef;have s:=hb.eh;have bl:=hb.blocks;refine Yz j k l (by simp[end_,on]) rfl ?_ ?_ ?_ 1 2
 ·show(ft ops t.s).2.ef.length<=3000
  grind
 ·show(ft ops t.s).2.eh.length<=1000;omega
 ·show(t.blocks++[_]).length<=300
  grind
open Dm
def zaf(u:U) (v:Nat):Bool:=match u.ef[v]? with
 |some x=>iF x.op
 |none=>false
def XK(u:U) (b:Nat):List Nat:=match u.blocks[b]? with
 |some B=>B.ef
 |none=>[]
def zbg(u:U)(t w:Nat):Prop:=w∈XK u t/\zaf u w=true
def QX(u:U) (s:Nat):List Nat:=match u.eh[s]? with
 |some fs=>ic fs
 |none=>[]
def zbL(u:U) (v:Nat):List Nat:=match u.ef[v]? with
 |some x=>gO x++(if leaves x.op=true then QX u x.state else[])
 |none=>[]
def ln(In H:Nat->Nat->Prop):List Nat->(Nat->Prop)->Nat->Prop
 |[],P=>P
 |t::ts,P=>ln In H ts λw=>(P w\/In t w)/\¬H t w
def YW(u:U)(b w:Nat):Prop:=∃t∈next u b,∃(B:Bk) (v:Nat) (x:Vl) (j:Nat),u.blocks[t]? =some B/\v∈B.ef/\u.ef[v]? =some x/\x.op=21/\B.ez[j]? =some b/\x.args[j]? =some w
def ZD(u:U)(b w:Nat):Prop:=∃B:Bk,u.blocks[b]? =some B/\(B.fin=2/\w=B.cond\/B.fin=3/\w∈QX u B.state)
def zcc(u:U)(H In:Nat->Nat->Prop)(b w:Nat):Prop:=ln In H (next u b) (λ_=>False) w\/YW u b w\/ZD u b w
def bk(u:U):List Nat->(Nat->Prop)->Nat->Prop
 |[],P=>P
 |v::r,P=>if zaf u v=true then P else bk u r λw=>(P w/\w≠v)\/w∈zbL u v
def zao(u:U)(b:Nat)(O:Nat->Prop):Nat->Prop:=bk u (XK u b).reverse O
def Tr(u:U)(H In:Nat->Nat->Prop)(b:Nat):Nat->Prop:=zao u b (zcc u H In b)
structure zdv (u:U) (H In:Nat->Nat->Prop):Prop where
 up:∀b w,In b w->Tr u H In b w
 least:∀X:Nat->Nat->Prop,(∀b w,b<u.blocks.length->Tr u H X b w->X b w)->∀b w,In b w->X b w
structure zcb (u:U) (H In Out:Nat->Nat->Prop):Prop where
 out:∀b w,b<u.blocks.length->(Out b w↔zcc u H In b w)
 LR:∀b w,b<u.blocks.length->(In b w↔zao u b (Out b) w)
 least:∀X:Nat->Nat->Prop,(∀b w,b<u.blocks.length->Tr u H X b w->X b w)->∀b w,In b w->X b w
section
variable{u:U}(g:Good u)
include g
theorem Good.W6{p b:Nat} (h:b∈next u p):p<u.blocks.length/\b<u.blocks.length/\b≠0:=by
 refine⟨?_,g.nx p b h,λe=>?_⟩
 ·grind[next,jk]
 ·subst e;have:=sY.2 h;rw[g.yA]at this;cases this
variable{In Out:Nat->Nat->Prop}(h:zcb u (zbg u) In Out)
include h
end
