/- Parts. -/
import Derived.Test.YtjgjgngfjopaaaaDoorM12
namespace Go.Proofs.YtjgjgngfjopaaaaDoor.Un
open Dm
def pt(nx:Nat->List Nat)(n b:Nat):List Nat:=(List.range n).flatMap λi=>((nx i).filter (·= b)).map λ_=>i
theorem lD(nx:Nat->List Nat) (n b:Nat):pt nx (n+1) b=pt nx n b++((nx n).filter (·= b)).map λ_=>n:=by
 unfold pt;rw[XY,Zz];simp
theorem zi{nx Vu:Nat->List Nat} (n b:Nat) (h:∀i,i<n->Vu i=nx i):pt Vu n b=pt nx n b:=by
 induction n with
 |zero=>rfl
 |succ n a=>rw[lD,lD,a λi hi=>h i (by omega),h n (by omega)]
theorem Lr{nx:Nat->List Nat} {n b q:Nat}:q∈pt nx n b↔q<n/\b∈nx q:=by
 unfold pt;rw[Ni];constructor
 ·rintro⟨i,a,c⟩;obtain⟨t,e,rfl⟩:=K4.1 c;have d:=MS.1 e;simp at d;rw[<-d.2];exact⟨Sq.1 a,d.1⟩
 ·rintro⟨a,c⟩;exact⟨q,Sq.2 a,K4.2 ⟨b,MS.2 ⟨c,by simp⟩,rfl⟩⟩
theorem Kz{nx:Nat->List Nat} {n b:Nat} (h:∀i,i<n->b ∉ nx i):pt nx n b=[]:=by
 apply List.eq_nil_iff_forall_not_mem.2;intro q hq;obtain⟨a,c⟩:=Lr.1 hq;exact h q a c
inductive Pn (nx:Nat->List Nat) (n:Nat):Nat->List Nat->Prop
 |nil:Pn nx n 0 [0]
 |step {p b:Nat} {l:List Nat} (h:Pn nx n p l) (hp:p<n) (e:b∈nx p):Pn nx n b (b::l)
theorem Pn.mono{nx Vu:Nat->List Nat} {n a:Nat} (d:n<=a) (c:∀i,i<n->Vu i=nx i):∀{b l},Pn nx n b l->Pn Vu a b l
 |_,_,.nil=> .nil
 |_,_,.step h hp e=> .step (h.mono d c) (by omega) (by rw[c _ hp];exact e)
structure Gh (D:Nat->Nat) (pr nx:Nat->List Nat) (hi:Nat):Prop where
 tree:∀p b,p<hi->b∈nx p->b<=hi/\b≠0/\pQ D (D b) p
 down:∀b,b≠0->b<=hi->D b<b
 fg:∀b,b<=hi->pr b=pt nx hi b
 reach:∀b,b<=hi->∃l,Pn nx hi b l
 Mr:∀p,p<hi->(nx p).length=2->∀t∈nx p,(pr t).length=1
theorem B8{D D':Nat->Nat} {hi:Nat} (c:∀b,b≠0->b<=hi->D b<b) (d:∀b,b<=hi->D' b=D b) {x b:Nat} (h:pQ D x b):b<=hi->pQ D' x b:=by
 induction h with
 |refl=>exact λ_=> .refl _
 | up h0 _ e=>
   rename_i b _;intro a;have:=c b h0 a;exact .up h0 (by rw[d b a];exact e (by omega))
theorem Zx{t:Dt} {v b:Nat} (h:Ow t v b):b<=t.blocks.length:=by
 rcases h with⟨B,a,_⟩|⟨a,_⟩
 ·exact wCO (iR.1 a).1
 ·omega
section
variable{D D':Nat->Nat}{pr nx pr' Vu:Nat->List Nat}{E:Nat->Prop}{t:Dt}
theorem oL.Ub(e:oL D pr nx E t) (A:Gh D pr nx t.blocks.length) (p:∀b,b<=t.blocks.length->D' b=D b) (k:∀b,b<=t.blocks.length->pr' b=pr b) (r:∀b,b<t.blocks.length->Vu b=nx b):oL D' pr' Vu E t:=by
 have kn:∀{a w},a<=t.blocks.length->Kn D t a w->Kn D' t a w:=λH ⟨b,x,l,n,m⟩=>⟨b,x,l,B8 A.down p n H,m⟩
 refine⟨e.cat,λv x h=>?_,λv x h I=>?_,λb B h=>?_,λs fs h=>?_,by rw[k _ (jj _)];exact e.pc,e.ne,λw c=>kn (jj _) (e.kn w c)⟩
 ·have o:=e.KD v x h;obtain⟨b,l,n,m,J⟩:=o.own;refine⟨o.op,o.putAt,o.par,b,l,λC w c=>⟨(n C w c).1,kn (Zx l) (n C w c).2⟩,λK=>?_,J⟩;obtain⟨fs,d,i⟩:=m K;exact⟨fs,d,λw c=>⟨(i w c).1,kn (Zx l) (i w c).2⟩⟩
 ·obtain⟨b,d,i,g3⟩:=e.ph v x h I;refine⟨b,d,i,λF=>?_⟩;rw[k b (Zx d)];refine⟨(g3 F).1,λj w q L G=>kn ?_ ((g3 F).2 j w q L G)⟩;have:=A7 G;rw[A.fg b (Zx d)]at this;exact wCO (Lr.1 this).1
 ·have u:=(iR.1 h).1;obtain⟨d,i,g3⟩:=e.bk b B h;refine⟨by rw[r b u];exact d,by rw[k b (by omega)];exact i,?_⟩;rcases g3 with g|⟨y,z,k3⟩|⟨y,z,fs,k3,M⟩
  ·exact .inl g
  ·exact .inr (.inl ⟨y,z,kn (by omega) k3⟩)
  ·exact .inr (.inr ⟨y,z,fs,k3,λw c=>kn (by omega) (M w c)⟩)
 ·obtain⟨d,i⟩:=e.st s fs h;refine⟨d,λf N=>?_⟩;obtain⟨g3,O,P,Q⟩:=i f N;have own:∀w,(∃a,Kn D t a w)->∃a,Kn D' t a w:=λw ⟨a,b,x,l,_,m⟩=>⟨b,b,x,l,.refl _,m⟩
  exact⟨g3,O,λw c=>own w (P w c),λw c=>own w (Q w c)⟩
end
def ext{α:Type}(hi:Nat)(f:Nat->α)(g:Nat->α):Nat->α:=λb=>if b<=hi then f b else g (b-hi)
def sP(hi:Nat)(f:Nat->List Nat)(g:Nat->List Nat):Nat->List Nat:=λb=>if b<hi then f b else g (b-hi)
theorem lK{α:Type}{hi b:Nat}{f g:Nat->α}(h:b<=hi):ext hi f g b=f b:=by unfold ext;rw[if_pos h]
theorem ir{α:Type}{hi k:Nat}{f g:Nat->α}(h:0<k):ext hi f g (hi+k)=g k:=by unfold ext;rw[if_neg (by omega),wBr]
theorem xR{hi b:Nat}{f g:Nat->List Nat}(h:b<hi):sP hi f g b=f b:=by unfold sP;rw[if_pos h]
theorem lF{hi k:Nat}{f g:Nat->List Nat}:sP hi f g (hi+k)=g k:=by unfold sP;rw[if_neg (by omega),wBr]
section
variable{D:Nat->Nat}{pr nx:Nat->List Nat}{hi:Nat}
theorem Gh.none(a:Gh D pr nx hi) {b:Nat} (d:hi<b):pt nx hi b=[]:=Kz λi h c=>by
 have:=(a.tree i b h c).1;omega
def dF(hi:Nat)(k:Nat):Nat:=hi
def pF(hi k:Nat):List Nat:=if k=3 then[hi+1,hi+2] else[hi]
def nF(hi k:Nat):List Nat:=if k=0 then[hi+1,hi+2] else[hi+3]
theorem Gh.fork(c:Gh D pr nx hi):Gh (ext hi D (dF hi)) (ext hi pr (pF hi)) (sP hi nx (nF hi)) (hi+3):=by
 have d:∀k,0<k->ext hi D (dF hi) (hi+k)=hi:=λk s=>ir s;have n0:sP hi nx (nF hi) hi=[hi+1,hi+2]:=lF (k:=0);have j:sP hi nx (nF hi) (hi+1)=[hi+3]:=lF (k:=1);have n:sP hi nx (nF hi) (hi+2)=[hi+3]:=lF (k:=2);have o:∀b,b<=hi->ext hi D (dF hi) b=D b:=λb h=>lK h;have xB:∀i,i<hi->sP hi nx (nF hi) i=nx i:=λi h=>xR h;have q:∀b,pt (sP hi nx (nF hi)) (hi+3) b=pt nx hi b++([hi+1,hi+2].filter (·= b)).map (λ_=>hi)++([hi+3].filter (·= b)).map (λ_=>hi+1)++([hi+3].filter (·= b)).map (λ_=>hi+2):=λb=>by
  rw[lD,lD,lD,zi hi b xB,n0,j,n]
 have low:∀b,b<=hi+3->b<=hi\/b=hi+1\/b=hi+2\/b=hi+3:=λb h=>by omega
 refine⟨λp b hp a=>?_,λb h0 a=>?_,λb a=>?_,λb a=>?_,λp hp e t g=>?_⟩
 ·have f:p<hi\/p=hi\/p=hi+1\/p=hi+2:=by omega
  rcases f with h|rfl|rfl|rfl
  ·rw[xB p h]at a;obtain⟨m,u,v⟩:=c.tree p b h a;exact⟨by omega,u,by rw[o b m];exact B8 c.down o v (by omega)⟩
  ·rw[n0]at a;simp at a;rcases a with rfl|rfl
   ·exact⟨by omega,by omega,by rw[d 1 (by omega)];exact .refl _⟩
   ·exact⟨by omega,by omega,by rw[d 2 (by omega)];exact .refl _⟩
  ·rw[j]at a;simp at a;subst a;exact⟨by omega,by omega,by rw[d 3 (by omega)];exact Iq (by omega) (d 1 (by omega))⟩
  ·rw[n]at a;simp at a;subst a;exact⟨by omega,by omega,by rw[d 3 (by omega)];exact Iq (by omega) (d 2 (by omega))⟩
 ·rcases low b a with h|rfl|rfl|rfl
  ·rw[o b h];exact c.down b h0 h
  ·rw[d 1 (by omega)];omega
  ·rw[d 2 (by omega)];omega
  ·rw[d 3 (by omega)];omega
 ·rw [q];rcases low b a with h|rfl|rfl|rfl
  ·rw[lK h,c.fg b h];have w:¬hi+1=b:=by omega
   have x:¬hi+2=b:=by omega
   have e3:¬hi+3=b:=by omega
   simp[w,x,e3]
  ·rw[ir (by omega),c.none (by omega)];simp[pF]
  ·rw[ir (by omega),c.none (by omega)];simp[pF]
  ·rw[ir (by omega),c.none (by omega)];simp[pF]
 ·obtain⟨l,e⟩:=c.reach hi (jj _);have h0:Pn (sP hi nx (nF hi)) (hi+3) hi l:=e.mono (by omega) xB;have m:Pn (sP hi nx (nF hi)) (hi+3) (hi+1) ((hi+1)::l):= .step h0 (by omega) (by rw[n0];simp);rcases low b a with h|rfl|rfl|rfl
  ·obtain⟨y,r⟩:=c.reach b h;exact⟨y,r.mono (by omega) xB⟩
  ·exact⟨_,m⟩
  ·exact⟨_,.step h0 (by omega) (by rw[n0];simp)⟩
  ·exact⟨_,.step m (by omega) (by rw[j];simp)⟩
 ·have f:p<hi\/p=hi\/p=hi+1\/p=hi+2:=by omega
  rcases f with h|rfl|rfl|rfl
  ·rw[xB p h]at e g;rw[lK (c.tree p t h g).1];exact c.Mr p h e t g
  ·rw[n0]at g;simp at g;rcases g with rfl|rfl
   ·rw[ir (by omega)];rfl
   ·rw[ir (by omega)];rfl
  ·rw[j]at e;simp at e
  ·rw[n]at e;simp at e
def nX(hi k:Nat):List Nat:=if k=0 then[hi+1,hi+2] else[]
def pX(hi _k:Nat):List Nat:=[hi]
theorem Gh.exit(c:Gh D pr nx hi):Gh (ext hi D (dF hi)) (ext hi pr (pX hi)) (sP hi nx (nX hi)) (hi+2):=by
 have g:∀k,0<k->ext hi D (dF hi) (hi+k)=hi:=λk q=>ir q;have n0:sP hi nx (nX hi) hi=[hi+1,hi+2]:=lF (k:=0);have j:sP hi nx (nX hi) (hi+1)=[]:=lF (k:=1);have m:∀b,b<=hi->ext hi D (dF hi) b=D b:=λb h=>lK h;have xB:∀i,i<hi->sP hi nx (nX hi) i=nx i:=λi h=>xR h;have n:∀b,pt (sP hi nx (nX hi)) (hi+2) b=pt nx hi b++([hi+1,hi+2].filter (·= b)).map (λ_=>hi):=λb=>by
  rw[lD,lD,zi hi b xB,n0,j];simp
 have low:∀b,b<=hi+2->b<=hi\/b=hi+1\/b=hi+2:=λb h=>by omega
 refine⟨λp b hp a=>?_,λb h0 a=>?_,λb a=>?_,λb a=>?_,λp hp e t f=>?_⟩
 ·have d:p<hi\/p=hi\/p=hi+1:=by omega
  rcases d with h|rfl|rfl
  ·rw[xB p h]at a;obtain⟨r,s,u⟩:=c.tree p b h a;exact⟨by omega,s,by rw[m b r];exact B8 c.down m u (by omega)⟩
  ·rw[n0]at a;simp at a;rcases a with rfl|rfl
   ·exact⟨by omega,by omega,by rw[g 1 (by omega)];exact .refl _⟩
   ·exact⟨by omega,by omega,by rw[g 2 (by omega)];exact .refl _⟩
  ·rw[j]at a;cases a
 ·rcases low b a with h|rfl|rfl
  ·rw[m b h];exact c.down b h0 h
  ·rw[g 1 (by omega)];omega
  ·rw[g 2 (by omega)];omega
 ·rw [n];rcases low b a with h|rfl|rfl
  ·rw[lK h,c.fg b h];have v:¬hi+1=b:=by omega
   have w:¬hi+2=b:=by omega
   simp[v,w]
  ·rw[ir (by omega),c.none (by omega)];simp[pX]
  ·rw[ir (by omega),c.none (by omega)];simp[pX]
 ·obtain⟨l,e⟩:=c.reach hi (jj _);have h0:Pn (sP hi nx (nX hi)) (hi+2) hi l:=e.mono (by omega) xB;rcases low b a with h|rfl|rfl
  ·obtain⟨x,o⟩:=c.reach b h;exact⟨x,o.mono (by omega) xB⟩
  ·exact⟨_,.step h0 (by omega) (by rw[n0];simp)⟩
  ·exact⟨_,.step h0 (by omega) (by rw[n0];simp)⟩
 ·have d:p<hi\/p=hi\/p=hi+1:=by omega
  rcases d with h|rfl|rfl
  ·rw[xB p h]at e f;rw[lK (c.tree p t h f).1];exact c.Mr p h e t f
  ·rw[n0]at f;simp at f;rcases f with rfl|rfl
   ·rw[ir (by omega)];rfl
   ·rw[ir (by omega)];rfl
  ·rw[j]at e;simp at e
def dL(hi k:Nat):Nat:=if k=1 then hi else hi+1
def pL(hi k:Nat):List Nat:=if k=1 then[hi,hi+2] else[hi+1]
def nL(hi k:Nat):List Nat:=if k=1 then[hi+2,hi+3] else[hi+1]
theorem Gh.loop(c:Gh D pr nx hi):Gh (ext hi D (dL hi)) (ext hi pr (pL hi)) (sP hi nx (nL hi)) (hi+3):=by
 have d:ext hi D (dL hi) (hi+1)=hi:=ir (by omega);have f:ext hi D (dL hi) (hi+2)=hi+1:=ir (by omega);have m:ext hi D (dL hi) (hi+3)=hi+1:=ir (by omega);have n0:sP hi nx (nL hi) hi=[hi+1]:=lF (k:=0);have n:sP hi nx (nL hi) (hi+1)=[hi+2,hi+3]:=lF (k:=1);have q:sP hi nx (nL hi) (hi+2)=[hi+1]:=lF (k:=2);have r:∀b,b<=hi->ext hi D (dL hi) b=D b:=λb h=>lK h;have xB:∀i,i<hi->sP hi nx (nL hi) i=nx i:=λi h=>xR h;have s:∀b,pt (sP hi nx (nL hi)) (hi+3) b=pt nx hi b++([hi+1].filter (·= b)).map (λ_=>hi)++([hi+2,hi+3].filter (·= b)).map (λ_=>hi+1)++([hi+1].filter (·= b)).map (λ_=>hi+2):=λb=>by
  rw[lD,lD,lD,zi hi b xB,n0,n,q]
 have low:∀b,b<=hi+3->b<=hi\/b=hi+1\/b=hi+2\/b=hi+3:=λb h=>by omega
 refine⟨λp b hp a=>?_,λb h0 a=>?_,λb a=>?_,λb a=>?_,λp hp e t j=>?_⟩
 ·have g:p<hi\/p=hi\/p=hi+1\/p=hi+2:=by omega
  rcases g with h|rfl|rfl|rfl
  ·rw[xB p h]at a;obtain⟨o,v,w⟩:=c.tree p b h a;exact⟨by omega,v,by rw[r b o];exact B8 c.down r w (by omega)⟩
  ·rw[n0]at a;simp at a;subst a;exact⟨by omega,by omega,by rw[d];exact .refl _⟩
  ·rw[n]at a;simp at a;rcases a with rfl|rfl
   ·exact⟨by omega,by omega,by rw[f];exact .refl _⟩
   ·exact⟨by omega,by omega,by rw[m];exact .refl _⟩
  ·rw[q]at a;simp at a;subst a;exact⟨by omega,by omega,by rw[d];exact(Iq (by omega) d).trans (Iq (by omega) f)⟩
 ·rcases low b a with h|rfl|rfl|rfl
  ·rw[r b h];exact c.down b h0 h
  ·rw[d];omega
  ·rw[f];omega
  ·rw[m];omega
 ·rw [s];rcases low b a with h|rfl|rfl|rfl
  ·rw[lK h,c.fg b h];have x:¬hi+1=b:=by omega
   have y:¬hi+2=b:=by omega
   have e3:¬hi+3=b:=by omega
   simp[x,y,e3]
  ·rw[ir (by omega),c.none (by omega)];simp[pL]
  ·rw[ir (by omega),c.none (by omega)];simp[pL]
  ·rw[ir (by omega),c.none (by omega)];simp[pL]
 ·obtain⟨l,e⟩:=c.reach hi (jj _);have h0:Pn (sP hi nx (nL hi)) (hi+3) hi l:=e.mono (by omega) xB;have o:Pn (sP hi nx (nL hi)) (hi+3) (hi+1) ((hi+1)::l):= .step h0 (by omega) (by rw[n0];simp);rcases low b a with h|rfl|rfl|rfl
  ·obtain⟨z,u⟩:=c.reach b h;exact⟨z,u.mono (by omega) xB⟩
  ·exact⟨_,o⟩
  ·exact⟨_,.step o (by omega) (by rw[n];simp)⟩
  ·exact⟨_,.step o (by omega) (by rw[n];simp)⟩
 ·have g:p<hi\/p=hi\/p=hi+1\/p=hi+2:=by omega
  rcases g with h|rfl|rfl|rfl
  ·rw[xB p h]at e j;rw[lK (c.tree p t h j).1];exact c.Mr p h e t j
  ·rw[n0]at e;simp at e
  ·rw[n]at j;simp at j;rcases j with rfl|rfl
   ·rw[ir (by omega)];rfl
   ·rw[ir (by omega)];rfl
  ·rw[q]at e;simp at e
end
open Dm
def noE:Nat->Prop:=λ_=>False
def Ok(t:Dt):Prop:=∃D pr nx,Gh D pr nx t.blocks.length/\oL D pr nx noE t
theorem Ok.fork{t:Dt} (ops:List Int) (h:Ok t):Ok (fork ops t):=by
 obtain⟨D,pr,nx,d,e⟩:=h;generalize a:t.blocks.length=hi at*;have c:=e.Ub (D':=ext hi D (dF hi)) (pr':=ext hi pr (pF hi)) (Vu:=sP hi nx (nF hi)) (by rw[a];exact d) (λb h=>lK (by omega)) (λb h=>lK (by omega)) (λb h=>xR (by omega))
 obtain ⟨f,g⟩:=Yy c ops (by rw[a];exact lF (k:=0)) (by rw[a];exact lF (k:=1)) (by rw[a];exact lF (k:=2)) (by rw[a];exact ir (by omega)) (by rw[a];exact ir (by omega)) (by rw[a];exact ir (by omega))
  (by rw[a];exact ir (by omega)) (by rw[a];exact ir (by omega)) (by rw[a];exact ir (by omega))
 exact⟨_,_,_,by rw[g,a];exact d.fork,f⟩
theorem Ok.exit{t:Dt} (ops:List Int) (h:Ok t):Ok (yo ops t):=by
 obtain⟨D,pr,nx,d,e⟩:=h;generalize a:t.blocks.length=hi at*;have c:=e.Ub (D':=ext hi D (dF hi)) (pr':=ext hi pr (pX hi)) (Vu:=sP hi nx (nX hi)) (by rw[a];exact d) (λb h=>lK (by omega)) (λb h=>lK (by omega)) (λb h=>xR (by omega))
 obtain ⟨f,g⟩:=Y1 c ops (by rw[a];exact lF (k:=0)) (by rw[a];exact lF (k:=1)) (by rw[a];exact ir (by omega)) (by rw[a];exact ir (by omega))
  (by rw[a];exact ir (by omega)) (by rw[a];exact ir (by omega))
 exact⟨_,_,_,by rw[g,a];exact d.exit,f⟩
theorem Ok.loop{t:Dt} (ops:List Int) (h:Ok t):Ok (loop ops t):=by
 obtain⟨D,pr,nx,d,e⟩:=h;generalize a:t.blocks.length=hi at*;have c:=e.Ub (D':=ext hi D (dL hi)) (pr':=ext hi pr (pL hi)) (Vu:=sP hi nx (nL hi)) (by rw[a];exact d) (λb h=>lK (by omega)) (λb h=>lK (by omega)) (λb h=>xR (by omega))
 obtain ⟨f,g⟩:=Yb c ops (by rw[a];exact lF (k:=0)) (by rw[a];exact lF (k:=1)) (by rw[a];exact lF (k:=2)) (by rw[a];exact ir (by omega)) (by rw[a];exact ir (by omega)) (by rw[a];exact ir (by omega))
  (by rw[a];exact ir (by omega)) (by rw[a];exact ir (by omega)) (by rw[a];exact ir (by omega))
 exact⟨_,_,_,by rw[g,a];exact d.loop,f⟩
theorem Ok.lE(ops:List Int):∀(l:List Int) {t:Dt},Ok t->Ok (lE ops l t)
 |[],_,h=>h
 | k ::l,t,h=>by
   unfold Un.lE;split
   ·refine Ok.lE ops l ?_
    unfold tW;split
    ·exact h.fork ops
    split
    ·exact h.loop ops
    ·exact h.exit ops
   ·exact h
def t0(s:Ds):Dt:=⟨s,[],[]⟩
structure Ps (s:Ds) (i:Nat):Prop where
 ef:s.ef.length=i
 all:∀(v:Nat) (x:Vl),s.ef[v]? =some x->x=vl 1 0 0 (v:Nat) [] 0
 cur:s.cur=List.range i
 known:s.known=List.range i
 eh:s.eh=[]
theorem No:∀(n i:Nat) (s:Ds),Ps s i->Ps (params n i s) (i+n)
 |0,i,s,h=>h
 | n + 1,i,s,h=>by
   have:=No n (i+1) (iJ s (vl 1 0 0 (i:Nat) [] 0)) ⟨by simp[iJ,h.ef],λv x hv=>?_,by simp only[iJ];rw[h.cur,h.ef,XY],by simp only[iJ];rw[h.known,h.ef,XY],h.eh⟩
   ·rw[show i+(n+1)=i+1+n by omega]
    exact this
   ·have a:(s.ef++[vl 1 0 0 (i:Nat) [] 0])[v]? =some x:=hv
    by_cases Kh:v<s.ef.length
    ·rw[Ot Kh]at a
     exact h.all v x a
    ·have c:=(iR.1 a).1
     simp at c;have b:v=s.ef.length:=by omega
     subst b;rw[wBY]at a;rw[h.ef];exact(Option.some.inj a).symm
theorem gh0:Gh (λ_=>0) (λ_=>[]) (λ_=>[]) 0:=
 ⟨λp b hp=>by omega,λb h0 a=>by omega,λb a=>rfl,λb a=>by
  obtain rfl:b=0:=by omega
  exact⟨[0],.nil⟩,λp hp=>by omega⟩
theorem WY{s:Ds} {n:Nat} (h:Ps s n) (u:n<=5):oL (λ_=>0) (λ_=>[]) (λ_=>[]) noE (t0 (iJ s (vl 2 0 0 5 [] 0))):=by
 have c:(t0 (iJ s (vl 2 0 0 5 [] 0))).s.ef=s.ef++[vl 2 0 0 5 [] 0]:=rfl;have f:(t0 (iJ s (vl 2 0 0 5 [] 0))).s.cur=List.range (n+1):=by
  show s.cur++[s.ef.length]=_;rw[h.cur,h.ef,XY]
 have hlen:(t0 (iJ s (vl 2 0 0 5 [] 0))).s.ef.length=n+1:=by rw[c];simp[h.ef]
 have a:∀(v:Nat) (x:Vl),(t0 (iJ s (vl 2 0 0 5 [] 0))).s.ef[v]? =some x->(v<n/\x=vl 1 0 0 (v:Nat) [] 0)\/(v=n/\x=vl 2 0 0 5 [] 0):=λv x hv=>by
  rw[c]at hv;by_cases g:v<s.ef.length
  ·rw[Ot g]at hv;exact .inl ⟨by rw[<-h.ef];exact g,h.all v x hv⟩
  ·have r:=(iR.1 hv).1;simp at r;have o:v=s.ef.length:=by omega
   subst o;rw[wBY]at hv;exact .inr ⟨h.ef,(Option.some.inj hv).symm⟩
 have d:∀v,v<n+1->Ow (t0 (iJ s (vl 2 0 0 5 [] 0))) v 0:=λv hv=> .inr ⟨rfl,by rw[f];exact Sq.2 hv⟩;have p:∀v,v<n+1->Kn (λ_=>0) (t0 (iJ s (vl 2 0 0 5 [] 0))) 0 v:=λv hv=>by
  have m:∃x,(t0 (iJ s (vl 2 0 0 5 [] 0))).s.ef[v]? =some x:=⟨_,gP (by rw[hlen];exact hv)⟩
  obtain⟨x,m⟩:=m;refine⟨0,x,d v hv,.refl _,m,?_⟩;rcases a v x m with⟨_,rfl⟩|⟨_,rfl⟩ <;> rfl
 refine⟨?_,λv x hv=>?_,λv x hv q=>?_,λb B t=>(by cases t),λst fs hs=>?_,rfl,?_,λw i=>?_⟩
 ·rw[hlen,f];rfl
 ·rcases a v x hv with⟨g,rfl⟩|⟨rfl,rfl⟩
  ·refine⟨by simp[vl],λe=>by simp[vl]at e,λ_=>⟨d v (by omega),rfl,by omega⟩,0,d v (by omega),λ_ w i=>by simp[je,vl,two,pg]at i,λe=>by simp[vl,leaves]at e,λ_ w _ i=>?_⟩;have j:w<(t0 (iJ s (vl 2 0 0 5 [] 0))).s.ef.length:=by rw[hlen];omega
   refine⟨_,gP j,?_⟩;rcases a w _ (gP j)with⟨_,e⟩|⟨e,_⟩
   ·rw[e];rfl
   ·omega
  ·exact⟨by simp[vl],λe=>by simp[vl]at e,λe=>by simp[vl]at e,0,d _ (by omega),λ_ w i=>by simp[je,vl,two,pg]at i,λe=>by simp[vl,leaves]at e,λe=>by simp[vl,iH]at e⟩
 ·rcases a v x hv with⟨_,rfl⟩|⟨_,rfl⟩
  ·simp[vl]at q
  ·simp[vl]at q
 ·have k:s.eh[st]? =some fs:=hs;rw[h.eh]at k;cases k
 ·show s.known++[s.ef.length]≠[];simp
 ·have l:w∈s.known++[s.ef.length]:=i;rw[h.known,h.ef,<-XY]at l;exact p w (Sq.1 l)
theorem Up(ops a:List Int) (n:Int):Ok (lE ops (a.take 6) ⟨row ops (iJ (params (l0 n 5) 0 ⟨[],[],[],[],0⟩) (vl 2 0 0 5 [] 0)),[],[]⟩):=by
 have h0:Ps ⟨[],[],[],[],0⟩ 0:=⟨rfl,λv x h=>(by cases h),rfl,rfl,rfl⟩
 have b:=No (l0 n 5) 0 _ h0;rw[yC]at b;have c:=WY b (wCO (EZ n (by omega)));obtain⟨d,_⟩:=c.row ops;exact Ok.lE ops _ ⟨_,_,_,gh0,d⟩
open Dm
theorem SS:∀(l:List Bk),(l.flatMap λB=>B.ef).Pairwise (·< ·)->∀(b g k k':Nat) (B a:Bk) (v f:Nat),l[b]? =some B->l[g]? =some a->B.ef[k]? =some v->a.ef[k']? =some f->(b<g->v<f)/\(b=g->k<k'->v<f)
 |[],_,b,_,_,_,_,_,_,_,h,_,_,_=>by simp at h
 | C ::l,hp,b,g,k,k',B,a,v,f,c,d,i,j=>by
   rw[wBu,List.pairwise_append]at hp;obtain⟨p1,p2,p3⟩:=hp
   match b,g,c,d with
   | 0,0,c,d=>
     obtain rfl:C=B:=by simpa using c
     obtain rfl:C=a:=by simpa using d
     refine⟨λh=>by omega,λ_ p=>?_⟩;obtain⟨q,r⟩:=iR.1 i;obtain⟨g3,s⟩:=iR.1 j;have:=Zp.1 p1 k k' q g3 p;rw[r,s]at this
     exact this
   | 0,n+1,c,d=>
     obtain rfl:C=B:=by simpa using c
     have e:l[n]? =some a:=by simpa using d
     refine⟨λ_=>p3 v (A7 i) f (Ni.2 ⟨a,A7 e,A7 j⟩),λh=>by omega⟩
   |n+1,0,c,d=>exact⟨λh=>by omega,λh=>by omega⟩
   | n+1,m+1,c,d=>
     have o:l[n]? =some B:=by simpa using c
     have e:l[m]? =some a:=by simpa using d
     have:=SS l p2 n m k k' B a v f o e i j;exact⟨λh=>this.1 (by omega),λh=>this.2 (by omega)⟩
section
variable{u:U}(hc:u.blocks.flatMap (λB=>B.ef)=List.range u.ef.length)
include hc
theorem BV{v a b c k k':Nat} (h:At u v b k) (h':At u a c k'):(b<c->v<a)/\(b=c->k<k'->v<a):=by
 obtain⟨B,d,e⟩:=h;obtain⟨f,g,i⟩:=h';exact SS u.blocks (by rw[hc];exact List.pairwise_lt_range) b c k k' B f v a d g e i
theorem TS{v b a k k':Nat} (h:At u v b k) (h':At u v a k'):b=a/\k=k':=by
 have d:=(BV hc h h').1;have e:=(BV hc h' h).1;have c:b=a:=by
  rcases wBp b a with h|h|h
  ·exact absurd (d h) (Tw _)
  ·exact h
  ·exact absurd (e h) (Tw _)
 have e3:=(BV hc h h').2 c;have f:=(BV hc h' h).2 c.symm;refine⟨c,?_⟩;rcases wBp k k' with h|h|h
 ·exact absurd (e3 h) (Tw _)
 ·exact h
 ·exact absurd (f h) (Tw _)
theorem V2{v a b k k':Nat} (h:At u v b k) (h':At u a b k') (e:v<a):k<k':=by
 rcases wBp k k' with g|g|g
 ·exact g
 ·subst g;obtain⟨B,f,i⟩:=h;obtain⟨j,c,d⟩:=h';rw[f]at c;obtain rfl:=Option.some.inj c;rw[i]at d;obtain rfl:=Option.some.inj d;omega
 ·have:=(BV hc h' h).2 rfl g;omega
theorem Xj{v:Nat} (hv:v<u.ef.length):∃b k,At u v b k:=by
 have:v∈u.blocks.flatMap (λB=>B.ef):=by rw[hc];exact Sq.2 hv
 obtain⟨B,a,c⟩:=Ni.1 this;obtain⟨b,d⟩:=mK.1 a;obtain⟨k,e⟩:=mK.1 c;exact⟨b,k,B,d,e⟩
theorem zc9{v b k:Nat} (h:At u v b k):v<u.ef.length:=by
 obtain⟨B,a,c⟩:=h;have:v∈u.blocks.flatMap (λB=>B.ef):=Ni.2 ⟨B,A7 a,A7 c⟩;rw[hc]at this;exact Sq.1 this
end
theorem Fp(ops:List Int):∀(i:Nat) (s:Ds) (l:List Nat),∃p,(some_ ops i s l).2 = {s with pos:=p}
 |0,s,_=>⟨s.pos,rfl⟩
 |i+1,s,l=>Fp ops i (fK ops s).2 (l++[(fK ops s).1])
theorem Ca(ops:List Int) (s:Ds):(fJ ops s).2.ef=s.ef/\(fJ ops s).2.eh.length=s.eh.length+1/\(fJ ops s).2.cur=s.cur:=by
 obtain⟨p,hp⟩:=Fp ops (num ops s 4).1 (num ops s 4).2 [];unfold fJ;simp only;rw[hp];exact⟨rfl,by simp,rfl⟩
structure Sz (s s':Ds):Prop where
 ef:s.ef.length<=s'.ef.length
 eh:s'.eh.length+s.ef.length<=s.eh.length+s'.ef.length
theorem Sz.refl(s:Ds):Sz s s:=⟨jj _,jj _⟩
theorem Sz.trans{s s' e:Ds} (f:Sz s s') (g:Sz s' e):Sz s e:=by
 have a:=f.ef;have b:=g.ef;have c:=f.eh;have d:=g.eh;exact⟨by omega,by omega⟩
theorem Y9(ops:List Int) (s:Ds) (k a b:Nat):(sq ops s k a b).ef.length=s.ef.length+1/\(sq ops s k a b).eh.length<=s.eh.length+1:=by
 obtain⟨c,d,_⟩:=Ca ops s;unfold sq;split
 ·simp[iJ]
 split
 ·simp[iJ,num]
 split
 ·simp[iJ,num]
 split
 ·simp[iJ]
 split
 ·simp[put,num]
 split
 ·simp[put,fK]
 split
 ·simp[put,c,d]
 split
 ·simp[put,c,d]
 ·simp[iJ,num]
theorem Tg(ops:List Int):∀(i:Nat) (s:Ds),Sz s (rows ops i s)/\(rows ops i s).ef.length<=max s.ef.length 200
 |0,s=>⟨.refl s,by show s.ef.length<=_;omega⟩
 | i + 1,s=>by
   unfold rows;split
   ·rename_i b
    obtain⟨c,d⟩:=Tg ops i (tM ops s);have a:=Y9 ops (num ops (fK ops (fK ops s).2).2 20).2 (num ops (fK ops (fK ops s).2).2 20).1 (fK ops s).1 (fK ops (fK ops s).2).1;have e:(tM ops s).ef.length=s.ef.length+1:=a.1;have f:(tM ops s).eh.length<=s.eh.length+1:=a.2;exact⟨Sz.trans ⟨by omega,by omega⟩ c,by omega⟩
   ·exact⟨.refl s,by omega⟩
theorem Ft(ops:List Int) (s:Ds):Sz s (row ops s)/\(row ops s).ef.length<=max s.ef.length 200:=by
 obtain⟨a,b⟩:=Tg ops (1+(num ops s 6).1) (num ops s 6).2;exact⟨⟨a.ef,a.eh⟩,b⟩
structure W8 (t:Dt) (m:Nat):Prop where
 ef:t.s.ef.length<=210
 eh:t.s.eh.length<=t.s.ef.length+t.blocks.length
 blocks:t.blocks.length<=m
theorem W1(ops:List Int) {t:Dt} {m:Nat} (h:W8 t m) (hv:t.s.ef.length<160):W8 (fork ops t) (m+3):=by
 obtain⟨w,x,y⟩:=h;unfold fork;simp only;have a1:=Ft ops (end_ {t with s:=(fK ops t.s).2} 2 (fK ops t.s).1 [t.blocks.length+1,t.blocks.length+2] 0 [t.blocks.length]).s;generalize o:row ops (end_ {t with s:=(fK ops t.s).2} 2 (fK ops t.s).1 [t.blocks.length+1,t.blocks.length+2] 0 [t.blocks.length]).s=b at*;have p:t.s.ef.length<=b.ef.length:=a1.1.ef;have q:b.eh.length+t.s.ef.length<=t.s.eh.length+b.ef.length:=a1.1.eh;have r:b.ef.length<=max t.s.ef.length 200:=a1.2;generalize d:end_ {s:=cut t.s.known.length b,blocks:=(end_ {t with s:=(fK ops t.s).2} 2 (fK ops t.s).1 [t.blocks.length+1,t.blocks.length+2] 0 [t.blocks.length]).blocks,fg:=(end_ {t with s:=(fK ops t.s).2} 2 (fK ops t.s).1 [t.blocks.length+1,t.blocks.length+2] 0 [t.blocks.length]).fg} 1 0 [t.blocks.length+3] 0 [t.blocks.length]=a at*;have b2:a.blocks.length=t.blocks.length+2:=by rw[<-d];simp[end_]
 have u:a.s.ef=b.ef:=by rw[<-d];rfl
 have v:a.s.eh=b.eh:=by rw[<-d];rfl
 have a2:=Ft ops a.s;generalize row ops a.s=c at*;have g:=a2.1.ef;have e:=a2.1.eh;have i:=a2.2;rw[u]at g e i;rw[v]at e;have a3:=Ft ops (iJ (end_ {s:=cut t.s.known.length c,blocks:=a.blocks,fg:=a.fg} 1 0 [t.blocks.length+3] 0 [t.blocks.length+1,t.blocks.length+2]).s (vl 21 0 0 0 [b.known.getLastD 0,c.known.getLastD 0] 0));have j:(iJ (end_ {s:=cut t.s.known.length c,blocks:=a.blocks,fg:=a.fg} 1 0 [t.blocks.length+3] 0 [t.blocks.length+1,t.blocks.length+2]).s (vl 21 0 0 0 [b.known.getLastD 0,c.known.getLastD 0] 0)).ef.length=c.ef.length+1:=by simp[iJ,end_,cut]
 have k:(iJ (end_ {s:=cut t.s.known.length c,blocks:=a.blocks,fg:=a.fg} 1 0 [t.blocks.length+3] 0 [t.blocks.length+1,t.blocks.length+2]).s (vl 21 0 0 0 [b.known.getLastD 0,c.known.getLastD 0] 0)).eh.length=c.eh.length:=by simp[iJ,end_,cut]
 have l:=a3.1.ef;have f:=a3.1.eh;have n:=a3.2;rw[j]at l f n;rw[k]at f;refine⟨?_,?_,?_⟩
 ·show(row ops _).ef.length<=210;omega
 ·show(row ops _).eh.length<=(row ops _).ef.length+(a.blocks++[_]).length;rw[y6,b2];omega
 ·show(a.blocks++[_]).length<=m+3;rw[y6,b2];simp;omega
theorem Xn(ops:List Int) {t:Dt} {m:Nat} (h:W8 t m) (hv:t.s.ef.length<160):W8 (yo ops t) (m+3):=by
 obtain⟨r,u,v⟩:=h;unfold yo;simp only;have a1:=Ft ops (end_ {t with s:=(fK ops t.s).2} 2 (fK ops t.s).1 [t.blocks.length+1,t.blocks.length+2] 0 [t.blocks.length]).s;generalize i:row ops (end_ {t with s:=(fK ops t.s).2} 2 (fK ops t.s).1 [t.blocks.length+1,t.blocks.length+2] 0 [t.blocks.length]).s=a at*;have j:t.s.ef.length<=a.ef.length:=a1.1.ef;have k:a.eh.length+t.s.ef.length<=t.s.eh.length+a.ef.length:=a1.1.eh;have l:a.ef.length<=max t.s.ef.length 200:=a1.2;obtain⟨n,o,_⟩:=Ca ops a;generalize b:end_ {s:=cut t.s.known.length (fJ ops a).2,blocks:=(end_ {t with s:=(fK ops t.s).2} 2 (fK ops t.s).1 [t.blocks.length+1,t.blocks.length+2] 0 [t.blocks.length]).blocks,fg:=(end_ {t with s:=(fK ops t.s).2} 2 (fK ops t.s).1 [t.blocks.length+1,t.blocks.length+2] 0 [t.blocks.length]).fg} 3 0 [] (fJ ops a).1 [t.blocks.length]=c at*;have b2:c.blocks.length=t.blocks.length+2:=by rw[<-b];simp[end_]
 have p:c.s.ef=a.ef:=by rw[<-b];exact n
 have q:c.s.eh.length=a.eh.length+1:=by rw[<-b];exact o
 have a2:=Ft ops c.s;generalize row ops c.s=e at*;have f:=a2.1.ef;have d:=a2.1.eh;have g:=a2.2;rw[p]at f d g;rw[q]at d;refine⟨?_,?_,?_⟩
 ·show e.ef.length<=210;omega
 ·show e.eh.length<=e.ef.length+c.blocks.length;rw[b2];omega
 ·show c.blocks.length<=m+3;rw[b2];omega
theorem DH(s:Ds)(v:Nat)(args:List Nat):(setArgs s v args).ef.length=s.ef.length/\(setArgs s v args).eh=s.eh:=⟨by simp[setArgs,List.length_modify],rfl⟩
theorem XA(ops:List Int) {t:Dt} {m:Nat} (h:W8 t m) (hv:t.s.ef.length<160):W8 (loop ops t) (m+3):=by
 obtain⟨G,H,I⟩:=h;unfold loop;simp only;generalize e:end_ {t with s:=(fK ops t.s).2} 1 0 [t.blocks.length+1] 0 [t.blocks.length,t.blocks.length+2]=b at*;have b1:b.blocks.length=t.blocks.length+1:=by rw[<-e];simp[end_]
 have x:b.s.ef=t.s.ef:=by rw[<-e];rfl
 have y:b.s.eh=t.s.eh:=by rw[<-e];rfl
 generalize i:({put (fK ops (put b.s (vl 21 0 0 0 [(fK ops t.s).1,0] 0))).2 (vl 21 0 0 0 [(fK ops (put b.s (vl 21 0 0 0 [(fK ops t.s).1,0] 0))).1,b.s.ef.length] 0)with known:=(put (fK ops (put b.s (vl 21 0 0 0 [(fK ops t.s).1,0] 0))).2 (vl 21 0 0 0 [(fK ops (put b.s (vl 21 0 0 0 [(fK ops t.s).1,0] 0))).1,b.s.ef.length] 0)).known++[b.s.ef.length,b.s.ef.length+1]}:Ds)=f at*;have z:f.ef.length=t.s.ef.length+2:=by rw[<-i,<-x];simp[put,fK]
 have n:f.eh=t.s.eh:=by rw[<-i,<-y];rfl
 obtain⟨A,B,_⟩:=Ca ops f;generalize j:iJ (put (put (fJ ops f).2 (vl 23 0 0 0 [] (fJ ops f).1)) (vl 2 0 0 1 [] 0)) (vl 4 b.s.ef.length (put (fJ ops f).2 (vl 23 0 0 0 [] (fJ ops f).1)).ef.length 0 [] 0)=d at*;have J:d.ef.length=t.s.ef.length+5:=by rw[<-j];simp[iJ,put,A,z]
 have C:d.eh.length=t.s.eh.length+1:=by rw[<-j,<-n,<-B];rfl
 generalize g:end_ {s:=d,blocks:=b.blocks,fg:=b.fg} 2 b.s.ef.length [t.blocks.length+2,t.blocks.length+3] 0 [t.blocks.length+1]=c at*;have b2:c.blocks.length=t.blocks.length+2:=by rw[<-g];simp[end_,b1]
 have D:c.s.ef=d.ef:=by rw[<-g];rfl
 have o:c.s.eh=d.eh:=by rw[<-g];rfl
 have a1:=Ft ops c.s;generalize row ops c.s=w at*;have p:=a1.1.ef;have k:=a1.1.eh;have q:=a1.2;rw[D]at p k q;rw[o]at k;have r:∀a:Ds,a.ef.length=w.ef.length->a.eh=w.eh->W8 {s:=row ops (end_ {s:=cut d.known.length a,blocks:=c.blocks,fg:=c.fg} 1 0 [t.blocks.length+1] 0 [t.blocks.length+1]).s,blocks:=(end_ {s:=cut d.known.length a,blocks:=c.blocks,fg:=c.fg} 1 0 [t.blocks.length+1] 0 [t.blocks.length+1]).blocks,fg:=(end_ {s:=cut d.known.length a,blocks:=c.blocks,fg:=c.fg} 1 0 [t.blocks.length+1] 0 [t.blocks.length+1]).fg} (m+3):=by
  intro a E F;have a2:=Ft ops (end_ {s:=cut d.known.length a,blocks:=c.blocks,fg:=c.fg} 1 0 [t.blocks.length+1] 0 [t.blocks.length+1]).s;have u:a.ef.length<=_:=a2.1.ef;have l:_+a.ef.length<=a.eh.length+_:=a2.1.eh;have v:_<=max a.ef.length 200:=a2.2;rw[E]at u l v;rw[F]at l;refine⟨?_,?_,?_⟩
  ·show(row ops _).ef.length<=210;omega
  ·show(row ops _).eh.length<=(row ops _).ef.length+(c.blocks++[_]).length;rw[y6,b2];omega
  ·show(c.blocks++[_]).length<=m+3;rw[y6,b2];simp;omega
 refine r _ ?_ ?_
 ·rw[(DH _ _ _).1];split
  ·rw[(DH _ _ _).1];exact(DH _ _ _).1
  ·exact(DH _ _ _).1
 ·rw[(DH _ _ _).2];split
  ·rfl
  ·rfl
theorem MK(ops:List Int):∀(l:List Int) {t:Dt} {m:Nat},W8 t m->W8 (lE ops l t) (m+3*l.length)
 |[],t,m,h=>h
 | k ::l,t,m,h=>by
   unfold lE;split
   ·rename_i hv
    have a:W8 (tW ops (l0 k 3) t) (m+3):=by
      unfold tW;split
      ·exact W1 ops h hv
      split
      ·exact XA ops h hv
      ·exact Xn ops h hv
    have:=MK ops l a;rw[show m+3*(k::l).length=m+3+3*l.length by rw[Dz];omega];exact this
   ·exact⟨h.ef,h.eh,by have:=h.blocks;rw[Dz];omega⟩
open Dm
theorem ZN{t:Dt} (ops:List Int) (h:Ok t):∃D pr nx,Gh D pr nx t.blocks.length/\nx t.blocks.length=[]/\oL D pr nx noE (end_ (on t (fJ ops t.s).2) 3 0 [] (fJ ops t.s).1 []):=by
 obtain ⟨D,pr,nx,c,x⟩:=h;generalize r:t.blocks.length=hi at*;have e:∀b,b<=hi->ext hi D (dF hi) b=D b:=λb h=>lK h;have xB:∀i,i<hi->sP hi nx (λ_=>[]) i=nx i:=λi h=>xR h;have f:Gh (ext hi D (dF hi)) (ext hi pr λ_=>[]) (sP hi nx λ_=>[]) hi:=by
  refine⟨λp b hp a=>?_,λb h0 a=>?_,λb a=>?_,λb a=>?_,λp hp d u j=>?_⟩
  ·rw[xB p hp]at a;obtain⟨v,y,z⟩:=c.tree p b hp a;exact⟨v,y,by rw[e b v];exact B8 c.down e z (by omega)⟩
  ·rw[e b a];exact c.down b h0 a
  ·rw[lK a,c.fg b a,zi hi b xB]
  ·obtain⟨l,d⟩:=c.reach b a;exact⟨l,d.mono (jj _) xB⟩
  ·rw[xB p hp]at d j;rw[lK (c.tree p u hp j).1];exact c.Mr p hp d u j
 have m:=x.Ub (D':=ext hi D (dF hi)) (pr':=ext hi pr λ_=>[]) (Vu:=sP hi nx λ_=>[]) (by rw[r];exact c) (λb h=>lK (by omega)) (λb h=>lK (by omega)) (λb h=>xR (by omega));have n0:sP hi nx (λ_=>[]) hi=[]:=lF (k:=0) (g:=λ_=>[]);obtain⟨o,F,A,_,_,fs,B,C⟩:=m.state ops;have b1:(on t (fJ ops t.s).2).blocks.length=hi:=r
 obtain ⟨E,_⟩:=o.end_ (fin:=3) (cond:=0) (n:=[]) (state:=(fJ ops t.s).1) (fg:=[]) (by rw[b1,n0]) (by rw[b1];exact(ir (g:=λ_=>([]:List Nat)) (by omega)).symm)
  (.inr (.inr ⟨rfl,rfl,fs,B,λw q=>o.kn w (by show w∈(fJ ops t.s).2.known;rw[A];exact C w q)⟩))
  (λw q=>(o.kn w q).up (by rw[b1];exact Iq (by omega) (ir (by omega))))
 exact⟨_,_,_,f,n0,E⟩
theorem YR{D:Nat->Nat} {pr nx:Nat->List Nat} {t:Dt} {hi:Nat} (M:Gh D pr nx hi) (hn:nx hi=[]) (n:oL D pr nx noE t) (Z:t.blocks.length=hi+1) (I:t.s.cur=[]) (hv:t.s.ef.length<=3000) (hs:t.s.eh.length<=1000) (aa:t.blocks.length<=300) (f p:Int) :
  Good ⟨f,p,t.s.ef,t.blocks,t.s.eh⟩:=by
 have hc:t.blocks.flatMap (λB=>B.ef)=List.range t.s.ef.length:=by
  have:=n.cat
  rw[I,Eo]at this;exact this
 have own:∀{v b},Ow t v b->∃k,At ⟨f,p,t.s.ef,t.blocks,t.s.eh⟩ v b k:=λh=>by
  rcases h with⟨B,m,d⟩|⟨_,d⟩
  ·obtain⟨k,W⟩:=mK.1 d;exact⟨k,B,m,W⟩
  ·rw[I]at d;cases d
 have am:∀{v b},Ow t v b->b<t.blocks.length:=λh=>by
  rcases h with⟨B,m,_⟩|⟨_,d⟩
  ·exact(iR.1 m).1
  ·rw[I]at d;cases d
 have o:∀{v b k},At ⟨f,p,t.s.ef,t.blocks,t.s.eh⟩ v b k->Ow t v b:=λ⟨B,m,d⟩=> .inl ⟨B,m,A7 d⟩;have X:∀b,b<t.blocks.length->next ⟨f,p,t.s.ef,t.blocks,t.s.eh⟩ b=nx b:=λb h=>by
  have e:=gP h;unfold next
  simp only[e];exact(n.bk b _ e).1
 have ab:∀b,¬b<t.blocks.length->next ⟨f,p,t.s.ef,t.blocks,t.s.eh⟩ b=[]:=λb h=>by
  unfold next
  simp only[KT (Nat.le_of_not_lt h)]
 have zj:∀q b,b∈next ⟨f,p,t.s.ef,t.blocks,t.s.eh⟩ q->q<hi/\b∈nx q:=λq b h=>by
  by_cases hq:q<t.blocks.length
  ·rw[X q hq]at h;refine⟨?_,h⟩;by_cases e:q=hi
   ·rw[e,hn]at h;cases h
   ·omega
  ·rw[ab q hq]at h;cases h
 have N:∀{x b},pQ D x b->ve (next ⟨f,p,t.s.ef,t.blocks,t.s.eh⟩) x b:=λh l Q=>IY (λq b Z _=>(M.tree q b (zj q b Z).1 (zj q b Z).2).2.2) Q h;have Su:∀{a w},Kn D t a w->w7 ⟨f,p,t.s.ef,t.blocks,t.s.eh⟩ w:=λ⟨_,x,_,_,G,J⟩=>⟨x,G,J⟩
 have r:∀{a w},Kn D t a w->xI ⟨f,p,t.s.ef,t.blocks,t.s.eh⟩ w a:=λ⟨b,x,m,d,_⟩=>let⟨k,W⟩:=own m;⟨b,k,W,N d⟩
 have O:∀{v w b k},At ⟨f,p,t.s.ef,t.blocks,t.s.eh⟩ v b k->w<v->Kn D t b w->JH ⟨f,p,t.s.ef,t.blocks,t.s.eh⟩ w b k:=λ{v w b k} hv A ⟨c,x,m,d,_⟩=>by
  obtain⟨j,V⟩:=own m;by_cases e:c=b
  ·subst e;exact⟨c,j,V,.inl ⟨rfl,V2 hc V hv A⟩⟩
  ·exact⟨c,j,V,.inr ⟨e,N d⟩⟩
 have E:∀{v b b'},Ow t v b->Ow t v b'->b=b':=λh h'=>by
  obtain⟨k,W⟩:=own h;obtain⟨k',ac⟩:=own h';exact(TS hc W ac).1
 have R:∀b,ahead ⟨f,p,t.s.ef,t.blocks,t.s.eh⟩ b=pt nx hi b:=λb=>by
  have ae:∀(l:List Bk) (i:Nat),(∀k B,l[k]? =some B->B.next=nx (i+k))->kW l i b=((List.range' i l.length).flatMap λq=>((nx q).filter (·= b)).map λ_=>q):=by
   intro l
   induction l with
   |nil=>intro i _;rfl
   | cons B l ih=>
     intro i h;have h0:=h 0 B rfl;rw[X8]at h0;rw[Dz,List.range'_succ,wBu];unfold kW;rw[h0,ih (i+1) λk B hB=>by rw[show i+1+k=i+(k+1) by omega];exact h (k+1) B hB]
  unfold ahead;rw[ae t.blocks 0 λk B hB=>by rw[yC];exact(n.bk k B hB).1];have e:List.range' 0 t.blocks.length=List.range t.blocks.length:=(List.range_eq_range').symm;rw[e,Z];have:=lD nx hi b;unfold pt at this⊢;rw[this,hn];simp
 refine{nv:=hv,OC:=by show 1<=t.blocks.length;omega,nb:=aa,ns:=hs,st:=?_,HW:=λv h=>Xj hc h,OM:=λv b k b' k' h h'=>TS hc h h',mb:=λv b k h=>zc9 hc h,NL:=?_,par:=?_,Ko:=?_,op:=λv x h=>(n.KD v x h).op,use:=?_,leave:=?_,putAt:=λv x h=>(n.KD v x h).putAt,param:=?_,fin:=?_,nx:=?_,fg:=?_,JZ:=?_,Mr:=?_,reach:=?_,NU:=?_,NX:=?_,Oa:=?_,NC:=?_,Nt:=?_}
 ·intro s fs h;obtain⟨C,F⟩:=n.st s fs h;refine⟨by omega,by omega,λf hf=>?_⟩;obtain⟨g3,K,S,g6⟩:=F f hf;exact⟨by omega,by omega,λv hv=>let⟨a,ha⟩:=S v hv;Su ha,λv hv=>let⟨a,ha⟩:=g6 v hv;Su ha⟩
 ·intro v w b k x y m d G J h5;obtain⟨c,C,_,_,K⟩:=(n.KD v x G).own;obtain rfl:=E C (o m);have A:w<v:=(BV hc d m).2 rfl (KX _);obtain⟨z,S,g6⟩:=K h5 w (o d) A;have T:t.s.ef[w]? =some y:=J;rw[T]at S;obtain rfl:=Option.some.inj S;exact g6
 ·intro v b k x m d G;exact E (o m) ((n.KD v x d).par G).1
 ·intro v b k x B m d G J;obtain⟨c,C,F,g3⟩:=n.ph v x d G;obtain rfl:=E C (o m);exact⟨F,by rw[(n.bk c B J).2.1];exact(g3 id).1⟩
 ·intro v x h w H;by_cases U:x.op=21
  ·obtain⟨c,C,F,g3⟩:=n.ph v x h U;have ag:w∈x.args:=by unfold je at H;rw[if_pos U]at H;exact H
   obtain⟨j,V⟩:=mK.1 ag;have A:=(iR.1 V).1;rw[(g3 id).1]at A;exact Su ((g3 id).2 j w _ V (gP A))
  ·obtain⟨c,C,F,_⟩:=(n.KD v x h).own;exact Su (F U w H).2
 ·intro v x h Q;obtain⟨c,C,_,g3,_⟩:=(n.KD v x h).own;obtain⟨fs,K,_⟩:=g3 Q;exact(iR.1 K).1
 ·intro v x h m;obtain⟨C,F,g3⟩:=(n.KD v x h).par m;refine⟨by omega,by omega,λw y hy ah he=>?_⟩;obtain⟨_,k2,_⟩:=(n.KD w y hy).par ah;omega
 ·intro b B h;rcases(n.bk b B h).2.2 with g|⟨C,F,g3⟩|⟨C,F,fs,g3,_⟩
  ·exact .inl g
  ·exact .inr (.inl ⟨C,F,Su g3⟩)
  ·exact .inr (.inr ⟨C,F,(iR.1 g3).1⟩)
 ·intro b u hu;obtain⟨C,F⟩:=zj b u hu;have:=(M.tree b u C F).1;show u<t.blocks.length;omega
 ·intro b B h;have A:=(iR.1 h).1;rw[(n.bk b B h).2.1,R,M.fg b (by have:b<t.blocks.length:=A;omega)]
 ·rw[R];exact Kz λi ai hm=>(M.tree i 0 ai hm).2.1 rfl
 ·intro b B h d u hu;have A:b<t.blocks.length:=(iR.1 h).1;have e:=(n.bk b B h).1;have L:u∈nx b:=by rw[<-e];exact hu
  have P:b<hi:=by
   by_cases e2:b=hi
   ·rw[e2,hn]at L;cases L
   ·omega
  have Q:(nx b).length=2:=by
   rw[<-e];rcases(n.bk b B h).2.2 with g|⟨_,F,_⟩|⟨C,_⟩
   ·omega
   ·exact F
   ·omega
  rw[R,<-M.fg u (M.tree b u P L).1];exact M.Mr b P Q u L
 ·intro b A;have al:b<t.blocks.length:=A;obtain⟨l,Q⟩:=M.reach b (by omega);have Y:∀{b l},Pn nx hi b l->Pt (next ⟨f,p,t.s.ef,t.blocks,t.s.eh⟩) b l:=by
   intro b l h
   induction h with
   |nil=>exact .nil
   |step _ hp e ih=>exact .step ih (by rw[X _ (by omega)];exact e)
  exact⟨l,Y Q⟩
 ·intro v b k x m d G w H;obtain⟨c,C,F,_⟩:=(n.KD v x d).own;obtain rfl:=E C (o m);exact O m (F G w H).1 (F G w H).2
 ·intro v b k x B m d G J j w q h5 h6;obtain⟨c,C,_,g3⟩:=n.ph v x d G;obtain rfl:=E C (o m);rw[(n.bk c B J).2.1]at h6;exact r ((g3 id).2 j w q h5 h6)
 ·intro v b k x fs m d G J w H;obtain⟨c,C,_,g3,_⟩:=(n.KD v x d).own;obtain rfl:=E C (o m);obtain⟨aj,K,S⟩:=g3 G;have T:t.s.eh[x.state]? =some fs:=J;rw[T]at K;obtain rfl:=Option.some.inj K;exact O m (S w H).1 (S w H).2
 ·intro b B h d;rcases(n.bk b B h).2.2 with g|⟨_,_,g3⟩|⟨C,_⟩
  ·omega
  ·exact r g3
  ·omega
 ·intro b B fs h d G w H;rcases(n.bk b B h).2.2 with g|⟨C,_,_⟩|⟨_,_,aj,g3,K⟩
  ·omega
  ·omega
  ·have ak:t.s.eh[B.state]? =some fs:=G;rw[ak]at g3;obtain rfl:=Option.some.inj g3;exact r (K w H)
theorem N4:∀(n i:Nat) (s:Ds),(params n i s).ef.length=s.ef.length+n/\(params n i s).eh=s.eh
 |0,_,_=>⟨rfl,rfl⟩
 | n+1,i,s=>by
   obtain⟨a,b⟩:=N4 n (i+1) (iJ s (vl 1 0 0 (i:Nat) [] 0));refine⟨?_,b⟩;unfold params;rw[a];simp[iJ];omega
theorem UH(ops c:List Int) (n:Int):Good (G8 ops c n):=by
 have d:=Up ops c n;have hp:=N4 (l0 n 5) 0 ⟨[],[],[],[],0⟩;have g:=EZ n (m:=5) (by omega);obtain⟨r1,h⟩:=Ft ops (iJ (params (l0 n 5) 0 ⟨[],[],[],[],0⟩) (vl 2 0 0 5 [] 0));have i:(iJ (params (l0 n 5) 0 ⟨[],[],[],[],0⟩) (vl 2 0 0 5 [] 0)).ef.length=l0 n 5+1:=by
  simp only[iJ,y6,X4,hp.1];simp
 have j:(iJ (params (l0 n 5) 0 ⟨[],[],[],[],0⟩) (vl 2 0 0 5 [] 0)).eh=[]:=hp.2;have e:W8 ⟨row ops (iJ (params (l0 n 5) 0 ⟨[],[],[],[],0⟩) (vl 2 0 0 5 [] 0)),[],[]⟩ 0:=by
  have a:=r1.ef;have b:=r1.eh;rw[i]at a b h;rw[j]at b;refine⟨by show(row ops _).ef.length<=210;omega,?_,jj _⟩;show(row ops _).eh.length<=(row ops _).ef.length+0;simp at b;omega
 have f:=MK ops (c.take 6) e;have hlen:(c.take 6).length<=6:=by rw[GX];omega
 unfold G8;simp only;generalize lE ops (c.take 6) ⟨row ops (iJ (params (l0 n 5) 0 ⟨[],[],[],[],0⟩) (vl 2 0 0 5 [] 0)),[],[]⟩=t at*;obtain⟨D,pr,nx,k,l,o⟩:=ZN ops d;obtain⟨p,q,_⟩:=Ca ops t.s;have v:=f.ef;have s:=f.eh;have bl:=f.blocks;refine YR k l o (by simp[end_,on]) rfl ?_ ?_ ?_ 1 2
 ·show(fJ ops t.s).2.ef.length<=3000;rw[p];omega
 ·show(fJ ops t.s).2.eh.length<=1000;rw[q];omega
 ·show(t.blocks++[_]).length<=300;rw[y6,X4];omega
open Dm
def ZV(u:U) (v:Nat):Bool:=match u.ef[v]? with
 |some x=>iH x.op
 |none=>false
def V7(u:U) (b:Nat):List Nat:=match u.blocks[b]? with
 |some B=>B.ef
 |none=>[]
def zbu(u:U)(t w:Nat):Prop:=w∈V7 u t/\ZV u w=true
def Q3(u:U) (s:Nat):List Nat:=match u.eh[s]? with
 |some fs=>gJ fs
 |none=>[]
def zb7(u:U) (v:Nat):List Nat:=match u.ef[v]? with
 |some x=>je x++(if leaves x.op=true then Q3 u x.state else[])
 |none=>[]
def ln(In H:Nat->Nat->Prop):List Nat->(Nat->Prop)->Nat->Prop
 |[],P=>P
 |t::ts,P=>ln In H ts λw=>(P w\/In t w)/\¬H t w
def Ym(u:U)(b w:Nat):Prop:=∃t∈next u b,∃(B:Bk) (v:Nat) (x:Vl) (j:Nat),u.blocks[t]? =some B/\v∈B.ef/\u.ef[v]? =some x/\x.op=21/\B.fg[j]? =some b/\x.args[j]? =some w
def Yl(u:U)(b w:Nat):Prop:=∃B:Bk,u.blocks[b]? =some B/\(B.fin=2/\w=B.cond\/B.fin=3/\w∈Q3 u B.state)
def zbL(u:U)(H In:Nat->Nat->Prop)(b w:Nat):Prop:=ln In H (next u b) (λ_=>False) w\/Ym u b w\/Yl u b w
def bk(u:U):List Nat->(Nat->Prop)->Nat->Prop
 |[],P=>P
 |v::r,P=>if ZV u v=true then P else bk u r λw=>(P w/\w≠v)\/w∈zb7 u v
def zai(u:U)(b:Nat)(O:Nat->Prop):Nat->Prop:=bk u (V7 u b).reverse O
def Tr(u:U)(H In:Nat->Nat->Prop)(b:Nat):Nat->Prop:=zai u b (zbL u H In b)
structure zeg (u:U) (H In:Nat->Nat->Prop):Prop where
 up:∀b w,In b w->Tr u H In b w
 least:∀X:Nat->Nat->Prop,(∀b w,b<u.blocks.length->Tr u H X b w->X b w)->∀b w,In b w->X b w
structure zbX (u:U) (H In Out:Nat->Nat->Prop):Prop where
 out:∀b w,b<u.blocks.length->(Out b w↔zbL u H In b w)
 JC:∀b w,b<u.blocks.length->(In b w↔zai u b (Out b) w)
 least:∀X:Nat->Nat->Prop,(∀b w,b<u.blocks.length->Tr u H X b w->X b w)->∀b w,In b w->X b w
section
variable{u:U}(g:Good u)
include g
theorem Good.VF{p b:Nat} (h:b∈next u p):p<u.blocks.length/\b<u.blocks.length/\b≠0:=by
 refine⟨?_,g.nx p b h,λe=>?_⟩
 ·unfold next at h
  split at h
  ·rename_i B a;exact(iR.1 a).1
  ·cases h
 ·subst e;have:=Gc.2 h;rw[g.JZ]at this;cases this
variable{In Out:Nat->Nat->Prop}(h:zbX u (zbu u) In Out)
include h
end
