/- Parts. -/
import Derived.Test.YtpnddokajmjpbaaDoorM12
namespace Go.Proofs.YtpnddokajmjpbaaDoor.Un
open Go.Proofs.YtpnddokajmjpbaaDoor.Dm
def oC (nx:Nat->List Nat)(n b:Nat):List Nat:=(List.range n).flatMap λi=>((nx i).filter (·= b)).map λ_=>i
theorem kL (nx:Nat->List Nat) (n b:Nat):oC nx (n+1) b=oC nx n b++((nx n).filter (·= b)).map λ_=>n:=by
 unfold oC;rw[UD,X1];simp
theorem xV {nx Tu:Nat->List Nat} (n b:Nat) (h:∀i,i<n->Tu i=nx i):oC Tu n b=oC nx n b:=by
 induction n with
 |zero=>rfl
 |succ n a=>rw[kL,kL,a λi hi=>h i (by omega),h n (by omega)]
theorem KW {nx:Nat->List Nat} {n b q:Nat}:q∈oC nx n b↔q<n/\b∈nx q:=by
 unfold oC;rw[Pp];constructor
 ·rintro⟨i,a,c⟩;obtain⟨t,e,rfl⟩:=K2.1 c;have d:=NA.1 e;simp at d;rw[<-d.2];exact⟨Px.1 a,d.1⟩
 ·rintro⟨a,c⟩;exact⟨q,Px.2 a,K2.2 ⟨b,NA.2 ⟨c,by simp⟩,rfl⟩⟩
theorem Iv {nx:Nat->List Nat} {n b:Nat} (h:∀i,i<n->b ∉ nx i):oC nx n b=[]:=by
 apply List.eq_nil_iff_forall_not_mem.2;intro q hq;obtain⟨a,c⟩:=KW.1 hq;exact h q a c
inductive Pn (nx:Nat->List Nat) (n:Nat):Nat->List Nat->Prop
 |nil:Pn nx n 0 [0]
 |step {p b:Nat} {l:List Nat} (h:Pn nx n p l) (a:p<n) (e:b∈nx p):Pn nx n b (b::l)
theorem Pn.mono {nx Tu:Nat->List Nat} {n a:Nat} (d:n<=a) (c:∀i,i<n->Tu i=nx i):∀{b l},Pn nx n b l->Pn Tu a b l
 |_,_,.nil=> .nil
 |_,_,.step h hp e=> .step (h.mono d c) (by omega) (by rw[c _ hp];exact e)
structure Gh (D:Nat->Nat) (pr nx:Nat->List Nat) (hi:Nat):Prop where
 tree:∀p b,p<hi->b∈nx p->b<=hi/\b≠0/\ot D (D b) p
 down:∀b,b≠0->b<=hi->D b<b
 fe:∀b,b<=hi->pr b=oC nx hi b
 reach:∀b,b<=hi->∃l,Pn nx hi b l
 Hg:∀p,p<hi->(nx p).length=2->∀t∈nx p,(pr t).length=1
theorem Be {D D':Nat->Nat} {hi:Nat} (a:∀b,b≠0->b<=hi->D b<b) (c:∀b,b<=hi->D' b=D b) {x b:Nat} (h:ot D x b):b<=hi->ot D' x b:=by
 induction h with
 |refl=>exact λ_=> .refl _
 | up h0 _ d=>
   rename_i b _;intro hb;have:=a b h0 hb;exact .up h0 (by rw[c b hb];exact d (by omega))
theorem Wg {t:Dt} {v b:Nat} (h:Ow t v b):b<=t.blocks.length:=by
 rcases h with⟨B,a,_⟩|⟨a,_⟩
 ·exact YB (iB.1 a).1
 ·omega
section
variable{D D':Nat->Nat}{pr nx ZT Tu:Nat->List Nat}{E:Nat->Prop}{t:Dt}
theorem nV.Rt (e:nV D pr nx E t) (F:Gh D pr nx t.blocks.length) (r:∀b,b<=t.blocks.length->D' b=D b) (k:∀b,b<=t.blocks.length->ZT b=pr b) (u:∀b,b<t.blocks.length->Tu b=nx b):nV D' ZT Tu E t:=by
 have kn:∀{a w},a<=t.blocks.length->Kn D t a w->Kn D' t a w:=λJ ⟨b,x,l,o,n⟩=>⟨b,x,l,Be F.down r o J,n⟩
 refine⟨e.cat,λv x h=>?_,λv x h K=>?_,λb B h=>?_,λs fs h=>?_,by rw[k _ (iW _)];exact e.pc,e.ne,λw c=>kn (iW _) (e.kn w c)⟩
 ·have p:=e.IX v x h;obtain⟨b,l,o,n,L⟩:=p.own;refine⟨p.op,p.putAt,p.par,b,l,λG w c=>⟨(o G w c).1,kn (Wg l) (o G w c).2⟩,λM=>?_,L⟩;obtain⟨fs,d,i⟩:=n M;exact⟨fs,d,λw c=>⟨(i w c).1,kn (Wg l) (i w c).2⟩⟩
 ·obtain⟨b,d,i,m⟩:=e.ph v x h K;refine⟨b,d,i,λH=>?_⟩;rw[k b (Wg d)];refine⟨(m H).1,λj w q N I=>kn ?_ ((m H).2 j w q N I)⟩;have:=xQ I;rw[F.fe b (Wg d)]at this;exact YB (KW.1 this).1
 ·have y:=(iB.1 h).1;obtain⟨d,i,m⟩:=e.bk b B h;refine⟨by rw[u b y];exact d,by rw[k b (by omega)];exact i,?_⟩;rcases m with g|⟨z,A,C⟩|⟨z,A,fs,C,O⟩
  ·exact .inl g
  ·exact .inr (.inl ⟨z,A,kn (by omega) C⟩)
  ·exact .inr (.inr ⟨z,A,fs,C,λw c=>kn (by omega) (O w c)⟩)
 ·obtain⟨d,i⟩:=e.st s fs h;refine⟨d,λf P=>?_⟩;obtain⟨m,Q,R,S⟩:=i f P;have own:∀w,(∃a,Kn D t a w)->∃a,Kn D' t a w:=λw ⟨a,b,x,l,_,n⟩=>⟨b,b,x,l,.refl _,n⟩
  exact⟨m,Q,λw c=>own w (R w c),λw c=>own w (S w c)⟩
end
def ext{α:Type}(hi:Nat)(f:Nat->α)(g:Nat->α):Nat->α:=λb=>if b<=hi then f b else g (b-hi)
def ry (hi:Nat)(f:Nat->List Nat)(g:Nat->List Nat):Nat->List Nat:=λb=>if b<hi then f b else g (b-hi)
theorem kR{α:Type}{hi b:Nat}{f g:Nat->α}(h:b<=hi):ext hi f g b=f b:=by unfold ext;rw[if_pos h]
theorem hK{α:Type}{hi k:Nat}{f g:Nat->α}(h:0<k):ext hi f g (hi+k)=g k:=by unfold ext;rw[if_neg (by omega),wCF]
theorem wi{hi b:Nat}{f g:Nat->List Nat}(h:b<hi):ry hi f g b=f b:=by unfold ry;rw[if_pos h]
theorem kK{hi k:Nat}{f g:Nat->List Nat}:ry hi f g (hi+k)=g k:=by unfold ry;rw[if_neg (by omega),wCF]
section
variable{D:Nat->Nat}{pr nx:Nat->List Nat}{hi:Nat}
theorem Gh.none (a:Gh D pr nx hi) {b:Nat} (hb:hi<b):oC nx hi b=[]:=Iv λi h c=>by
 have:=(a.tree i b h c).1;omega
def dF (hi:Nat)(k:Nat):Nat:=hi
def pF (hi k:Nat):List Nat:=if k=3 then[hi+1,hi+2] else[hi]
def nF (hi k:Nat):List Nat:=if k=0 then[hi+1,hi+2] else[hi+3]
theorem Gh.fork (a:Gh D pr nx hi):Gh (ext hi D (dF hi)) (ext hi pr (pF hi)) (ry hi nx (nF hi)) (hi+3):=by
 have c:∀k,0<k->ext hi D (dF hi) (hi+k)=hi:=λk q=>hK q;have n0:ry hi nx (nF hi) hi=[hi+1,hi+2]:=kK (k:=0);have f:ry hi nx (nF hi) (hi+1)=[hi+3]:=kK (k:=1);have j:ry hi nx (nF hi) (hi+2)=[hi+3]:=kK (k:=2);have m:∀b,b<=hi->ext hi D (dF hi) b=D b:=λb h=>kR h;have vR:∀i,i<hi->ry hi nx (nF hi) i=nx i:=λi h=>wi h;have n:∀b,oC (ry hi nx (nF hi)) (hi+3) b=oC nx hi b++([hi+1,hi+2].filter (·= b)).map (λ_=>hi)++([hi+3].filter (·= b)).map (λ_=>hi+1)++([hi+3].filter (·= b)).map (λ_=>hi+2):=λb=>by
  rw[kL,kL,kL,xV hi b vR,n0,f,j]
 have low:∀b,b<=hi+3->b<=hi\/b=hi+1\/b=hi+2\/b=hi+3:=λb h=>by omega
 refine⟨λp b r hb=>?_,λb h0 hb=>?_,λb hb=>?_,λb hb=>?_,λp r d t ht=>?_⟩
 ·have e:p<hi\/p=hi\/p=hi+1\/p=hi+2:=by omega
  rcases e with h|rfl|rfl|rfl
  ·rw[vR p h]at hb;obtain⟨g,s,u⟩:=a.tree p b h hb;exact⟨by omega,s,by rw[m b g];exact Be a.down m u (by omega)⟩
  ·rw[n0]at hb;simp at hb;rcases hb with rfl|rfl
   ·exact⟨by omega,by omega,by rw[c 1 (by omega)];exact .refl _⟩
   ·exact⟨by omega,by omega,by rw[c 2 (by omega)];exact .refl _⟩
  ·rw[f]at hb;simp at hb;subst hb;exact⟨by omega,by omega,by rw[c 3 (by omega)];exact Gy (by omega) (c 1 (by omega))⟩
  ·rw[j]at hb;simp at hb;subst hb;exact⟨by omega,by omega,by rw[c 3 (by omega)];exact Gy (by omega) (c 2 (by omega))⟩
 ·rcases low b hb with h|rfl|rfl|rfl
  ·rw[m b h];exact a.down b h0 h
  ·rw[c 1 (by omega)];omega
  ·rw[c 2 (by omega)];omega
  ·rw[c 3 (by omega)];omega
 ·rw [n];rcases low b hb with h|rfl|rfl|rfl
  ·rw[kR h,a.fe b h];have v:¬hi+1=b:=by omega
   have w:¬hi+2=b:=by omega
   have x:¬hi+3=b:=by omega
   simp[v,w,x]
  ·rw[hK (by omega),a.none (by omega)];simp[pF]
  ·rw[hK (by omega),a.none (by omega)];simp[pF]
  ·rw[hK (by omega),a.none (by omega)];simp[pF]
 ·obtain⟨l,d⟩:=a.reach hi (iW _);have h0:Pn (ry hi nx (nF hi)) (hi+3) hi l:=d.mono (by omega) vR;have g:Pn (ry hi nx (nF hi)) (hi+3) (hi+1) ((hi+1)::l):= .step h0 (by omega) (by rw[n0];simp);rcases low b hb with h|rfl|rfl|rfl
  ·obtain⟨y,o⟩:=a.reach b h;exact⟨y,o.mono (by omega) vR⟩
  ·exact⟨_,g⟩
  ·exact⟨_,.step h0 (by omega) (by rw[n0];simp)⟩
  ·exact⟨_,.step g (by omega) (by rw[f];simp)⟩
 ·have e:p<hi\/p=hi\/p=hi+1\/p=hi+2:=by omega
  rcases e with h|rfl|rfl|rfl
  ·rw[vR p h]at d ht;rw[kR (a.tree p t h ht).1];exact a.Hg p h d t ht
  ·rw[n0]at ht;simp at ht;rcases ht with rfl|rfl
   ·rw[hK (by omega)];rfl
   ·rw[hK (by omega)];rfl
  ·rw[f]at d;simp at d
  ·rw[j]at d;simp at d
def nX (hi k:Nat):List Nat:=if k=0 then[hi+1,hi+2] else[]
def pX (hi _k:Nat):List Nat:=[hi]
theorem Gh.exit (a:Gh D pr nx hi):Gh (ext hi D (dF hi)) (ext hi pr (pX hi)) (ry hi nx (nX hi)) (hi+2):=by
 have e:∀k,0<k->ext hi D (dF hi) (hi+k)=hi:=λk n=>hK n;have n0:ry hi nx (nX hi) hi=[hi+1,hi+2]:=kK (k:=0);have f:ry hi nx (nX hi) (hi+1)=[]:=kK (k:=1);have g:∀b,b<=hi->ext hi D (dF hi) b=D b:=λb h=>kR h;have vR:∀i,i<hi->ry hi nx (nX hi) i=nx i:=λi h=>wi h;have j:∀b,oC (ry hi nx (nX hi)) (hi+2) b=oC nx hi b++([hi+1,hi+2].filter (·= b)).map (λ_=>hi):=λb=>by
  rw[kL,kL,xV hi b vR,n0,f];simp
 have low:∀b,b<=hi+2->b<=hi\/b=hi+1\/b=hi+2:=λb h=>by omega
 refine⟨λp b o hb=>?_,λb h0 hb=>?_,λb hb=>?_,λb hb=>?_,λp o d t ht=>?_⟩
 ·have c:p<hi\/p=hi\/p=hi+1:=by omega
  rcases c with h|rfl|rfl
  ·rw[vR p h]at hb;obtain⟨q,r,s⟩:=a.tree p b h hb;exact⟨by omega,r,by rw[g b q];exact Be a.down g s (by omega)⟩
  ·rw[n0]at hb;simp at hb;rcases hb with rfl|rfl
   ·exact⟨by omega,by omega,by rw[e 1 (by omega)];exact .refl _⟩
   ·exact⟨by omega,by omega,by rw[e 2 (by omega)];exact .refl _⟩
  ·rw[f]at hb;cases hb
 ·rcases low b hb with h|rfl|rfl
  ·rw[g b h];exact a.down b h0 h
  ·rw[e 1 (by omega)];omega
  ·rw[e 2 (by omega)];omega
 ·rw [j];rcases low b hb with h|rfl|rfl
  ·rw[kR h,a.fe b h];have u:¬hi+1=b:=by omega
   have v:¬hi+2=b:=by omega
   simp[u,v]
  ·rw[hK (by omega),a.none (by omega)];simp[pX]
  ·rw[hK (by omega),a.none (by omega)];simp[pX]
 ·obtain⟨l,d⟩:=a.reach hi (iW _);have h0:Pn (ry hi nx (nX hi)) (hi+2) hi l:=d.mono (by omega) vR;rcases low b hb with h|rfl|rfl
  ·obtain⟨w,m⟩:=a.reach b h;exact⟨w,m.mono (by omega) vR⟩
  ·exact⟨_,.step h0 (by omega) (by rw[n0];simp)⟩
  ·exact⟨_,.step h0 (by omega) (by rw[n0];simp)⟩
 ·have c:p<hi\/p=hi\/p=hi+1:=by omega
  rcases c with h|rfl|rfl
  ·rw[vR p h]at d ht;rw[kR (a.tree p t h ht).1];exact a.Hg p h d t ht
  ·rw[n0]at ht;simp at ht;rcases ht with rfl|rfl
   ·rw[hK (by omega)];rfl
   ·rw[hK (by omega)];rfl
  ·rw[f]at d;simp at d
def dL (hi k:Nat):Nat:=if k=1 then hi else hi+1
def pL (hi k:Nat):List Nat:=if k=1 then[hi,hi+2] else[hi+1]
def nL (hi k:Nat):List Nat:=if k=1 then[hi+2,hi+3] else[hi+1]
theorem Gh.loop (a:Gh D pr nx hi):Gh (ext hi D (dL hi)) (ext hi pr (pL hi)) (ry hi nx (nL hi)) (hi+3):=by
 have c:ext hi D (dL hi) (hi+1)=hi:=hK (by omega);have e:ext hi D (dL hi) (hi+2)=hi+1:=hK (by omega);have g:ext hi D (dL hi) (hi+3)=hi+1:=hK (by omega);have n0:ry hi nx (nL hi) hi=[hi+1]:=kK (k:=0);have j:ry hi nx (nL hi) (hi+1)=[hi+2,hi+3]:=kK (k:=1);have n:ry hi nx (nL hi) (hi+2)=[hi+1]:=kK (k:=2);have o:∀b,b<=hi->ext hi D (dL hi) b=D b:=λb h=>kR h;have vR:∀i,i<hi->ry hi nx (nL hi) i=nx i:=λi h=>wi h;have q:∀b,oC (ry hi nx (nL hi)) (hi+3) b=oC nx hi b++([hi+1].filter (·= b)).map (λ_=>hi)++([hi+2,hi+3].filter (·= b)).map (λ_=>hi+1)++([hi+1].filter (·= b)).map (λ_=>hi+2):=λb=>by
  rw[kL,kL,kL,xV hi b vR,n0,j,n]
 have low:∀b,b<=hi+3->b<=hi\/b=hi+1\/b=hi+2\/b=hi+3:=λb h=>by omega
 refine⟨λp b s hb=>?_,λb h0 hb=>?_,λb hb=>?_,λb hb=>?_,λp s d t ht=>?_⟩
 ·have f:p<hi\/p=hi\/p=hi+1\/p=hi+2:=by omega
  rcases f with h|rfl|rfl|rfl
  ·rw[vR p h]at hb;obtain⟨m,u,v⟩:=a.tree p b h hb;exact⟨by omega,u,by rw[o b m];exact Be a.down o v (by omega)⟩
  ·rw[n0]at hb;simp at hb;subst hb;exact⟨by omega,by omega,by rw[c];exact .refl _⟩
  ·rw[j]at hb;simp at hb;rcases hb with rfl|rfl
   ·exact⟨by omega,by omega,by rw[e];exact .refl _⟩
   ·exact⟨by omega,by omega,by rw[g];exact .refl _⟩
  ·rw[n]at hb;simp at hb;subst hb;exact⟨by omega,by omega,by rw[c];exact(Gy (by omega) c).trans (Gy (by omega) e)⟩
 ·rcases low b hb with h|rfl|rfl|rfl
  ·rw[o b h];exact a.down b h0 h
  ·rw[c];omega
  ·rw[e];omega
  ·rw[g];omega
 ·rw [q];rcases low b hb with h|rfl|rfl|rfl
  ·rw[kR h,a.fe b h];have w:¬hi+1=b:=by omega
   have x:¬hi+2=b:=by omega
   have y:¬hi+3=b:=by omega
   simp[w,x,y]
  ·rw[hK (by omega),a.none (by omega)];simp[pL]
  ·rw[hK (by omega),a.none (by omega)];simp[pL]
  ·rw[hK (by omega),a.none (by omega)];simp[pL]
 ·obtain⟨l,d⟩:=a.reach hi (iW _);have h0:Pn (ry hi nx (nL hi)) (hi+3) hi l:=d.mono (by omega) vR;have m:Pn (ry hi nx (nL hi)) (hi+3) (hi+1) ((hi+1)::l):= .step h0 (by omega) (by rw[n0];simp);rcases low b hb with h|rfl|rfl|rfl
  ·obtain⟨z,r⟩:=a.reach b h;exact⟨z,r.mono (by omega) vR⟩
  ·exact⟨_,m⟩
  ·exact⟨_,.step m (by omega) (by rw[j];simp)⟩
  ·exact⟨_,.step m (by omega) (by rw[j];simp)⟩
 ·have f:p<hi\/p=hi\/p=hi+1\/p=hi+2:=by omega
  rcases f with h|rfl|rfl|rfl
  ·rw[vR p h]at d ht;rw[kR (a.tree p t h ht).1];exact a.Hg p h d t ht
  ·rw[n0]at d;simp at d
  ·rw[j]at ht;simp at ht;rcases ht with rfl|rfl
   ·rw[hK (by omega)];rfl
   ·rw[hK (by omega)];rfl
  ·rw[n]at d;simp at d
end
open Go.Proofs.YtpnddokajmjpbaaDoor.Dm
def noE:Nat->Prop:=λ_=>False
def Ok (t:Dt):Prop:=∃D pr nx,Gh D pr nx t.blocks.length/\nV D pr nx noE t
theorem Ok.fork {t:Dt} (ops:List Int) (h:Ok t):Ok (fork ops t):=by
 obtain⟨D,pr,nx,d,e⟩:=h;generalize a:t.blocks.length=hi at*;have c:=e.Rt (D':=ext hi D (dF hi)) (ZT:=ext hi pr (pF hi)) (Tu:=ry hi nx (nF hi)) (by rw[a];exact d) (λb h=>kR (by omega)) (λb h=>kR (by omega)) (λb h=>wi (by omega))
 obtain ⟨f,g⟩:=Xg c ops (by rw[a];exact kK (k:=0)) (by rw[a];exact kK (k:=1)) (by rw[a];exact kK (k:=2)) (by rw[a];exact hK (by omega)) (by rw[a];exact hK (by omega)) (by rw[a];exact hK (by omega))
  (by rw[a];exact hK (by omega)) (by rw[a];exact hK (by omega)) (by rw[a];exact hK (by omega))
 exact⟨_,_,_,by rw[g,a];exact d.fork,f⟩
theorem Ok.exit {t:Dt} (ops:List Int) (h:Ok t):Ok (we ops t):=by
 obtain⟨D,pr,nx,d,e⟩:=h;generalize a:t.blocks.length=hi at*;have c:=e.Rt (D':=ext hi D (dF hi)) (ZT:=ext hi pr (pX hi)) (Tu:=ry hi nx (nX hi)) (by rw[a];exact d) (λb h=>kR (by omega)) (λb h=>kR (by omega)) (λb h=>wi (by omega))
 obtain ⟨f,g⟩:=VZ c ops (by rw[a];exact kK (k:=0)) (by rw[a];exact kK (k:=1)) (by rw[a];exact hK (by omega)) (by rw[a];exact hK (by omega))
  (by rw[a];exact hK (by omega)) (by rw[a];exact hK (by omega))
 exact⟨_,_,_,by rw[g,a];exact d.exit,f⟩
theorem Ok.loop {t:Dt} (ops:List Int) (h:Ok t):Ok (loop ops t):=by
 obtain⟨D,pr,nx,d,e⟩:=h;generalize a:t.blocks.length=hi at*;have c:=e.Rt (D':=ext hi D (dL hi)) (ZT:=ext hi pr (pL hi)) (Tu:=ry hi nx (nL hi)) (by rw[a];exact d) (λb h=>kR (by omega)) (λb h=>kR (by omega)) (λb h=>wi (by omega))
 obtain ⟨f,g⟩:=Wt c ops (by rw[a];exact kK (k:=0)) (by rw[a];exact kK (k:=1)) (by rw[a];exact kK (k:=2)) (by rw[a];exact hK (by omega)) (by rw[a];exact hK (by omega)) (by rw[a];exact hK (by omega))
  (by rw[a];exact hK (by omega)) (by rw[a];exact hK (by omega)) (by rw[a];exact hK (by omega))
 exact⟨_,_,_,by rw[g,a];exact d.loop,f⟩
theorem Ok.kG (ops:List Int):∀(l:List Int) {t:Dt},Ok t->Ok (kG ops l t)
 |[],_,h=>h
 | k ::l,t,h=>by
   unfold Un.kG;split
   ·refine Ok.kG ops l ?_
    unfold sy;split
    ·exact h.fork ops
    split
    ·exact h.loop ops
    ·exact h.exit ops
   ·exact h
def t0 (s:Ds):Dt:=⟨s,[],[]⟩
structure Ps (s:Ds) (i:Nat):Prop where
 ee:s.ee.length=i
 all:∀(v:Nat) (x:Vl),s.ee[v]? =some x->x=vl 1 0 0 (v:Nat) [] 0
 cur:s.cur=List.range i
 known:s.known=List.range i
 eh:s.eh=[]
theorem Lt:∀(n i:Nat) (s:Ds),Ps s i->Ps (params n i s) (i+n)
 |0,i,s,h=>h
 | n + 1,i,s,h=>by
   have:=Lt n (i+1) (il s (vl 1 0 0 (i:Nat) [] 0)) ⟨by simp[il,h.ee],λv x hv=>?_,by simp only[il];rw[h.cur,h.ee,UD],by simp only[il];rw[h.known,h.ee,UD],h.eh⟩
   ·rw[show i+(n+1)=i+1+n by omega]
    exact this
   ·have a:(s.ee++[vl 1 0 0 (i:Nat) [] 0])[v]? =some x:=hv
    by_cases IH:v<s.ee.length
    ·rw[Ns IH]at a
     exact h.all v x a
    ·have c:=(iB.1 a).1
     simp at c;have b:v=s.ee.length:=by omega
     subst b;rw[ZC]at a;rw[h.ee];exact(Option.some.inj a).symm
theorem gh0:Gh (λ_=>0) (λ_=>[]) (λ_=>[]) 0:=
 ⟨λp b a=>by omega,λb h0 hb=>by omega,λb hb=>rfl,λb hb=>by
  obtain rfl:b=0:=by omega
  exact⟨[0],.nil⟩,λp a=>by omega⟩
theorem UI {s:Ds} {n:Nat} (h:Ps s n) (t:n<=5):nV (λ_=>0) (λ_=>[]) (λ_=>[]) noE (t0 (il s (vl 2 0 0 5 [] 0))):=by
 have c:(t0 (il s (vl 2 0 0 5 [] 0))).s.ee=s.ee++[vl 2 0 0 5 [] 0]:=rfl;have f:(t0 (il s (vl 2 0 0 5 [] 0))).s.cur=List.range (n+1):=by
  show s.cur++[s.ee.length]=_;rw[h.cur,h.ee,UD]
 have hlen:(t0 (il s (vl 2 0 0 5 [] 0))).s.ee.length=n+1:=by rw[c];simp[h.ee]
 have a:∀(v:Nat) (x:Vl),(t0 (il s (vl 2 0 0 5 [] 0))).s.ee[v]? =some x->(v<n/\x=vl 1 0 0 (v:Nat) [] 0)\/(v=n/\x=vl 2 0 0 5 [] 0):=λv x hv=>by
  rw[c]at hv;by_cases g:v<s.ee.length
  ·rw[Ns g]at hv;exact .inl ⟨by rw[<-h.ee];exact g,h.all v x hv⟩
  ·have q:=(iB.1 hv).1;simp at q;have m:v=s.ee.length:=by omega
   subst m;rw[ZC]at hv;exact .inr ⟨h.ee,(Option.some.inj hv).symm⟩
 have d:∀v,v<n+1->Ow (t0 (il s (vl 2 0 0 5 [] 0))) v 0:=λv hv=> .inr ⟨rfl,by rw[f];exact Px.2 hv⟩;have o:∀v,v<n+1->Kn (λ_=>0) (t0 (il s (vl 2 0 0 5 [] 0))) 0 v:=λv hv=>by
  have hx:∃x,(t0 (il s (vl 2 0 0 5 [] 0))).s.ee[v]? =some x:=⟨_,gQ (by rw[hlen];exact hv)⟩
  obtain⟨x,hx⟩:=hx;refine⟨0,x,d v hv,.refl _,hx,?_⟩;rcases a v x hx with⟨_,rfl⟩|⟨_,rfl⟩ <;> rfl
 refine⟨?_,λv x hv=>?_,λv x hv p=>?_,λb B r=>(by cases r),λst fs hs=>?_,rfl,?_,λw i=>?_⟩
 ·rw[hlen,f];rfl
 ·rcases a v x hv with⟨g,rfl⟩|⟨rfl,rfl⟩
  ·refine⟨by simp[vl],λe=>by simp[vl]at e,λ_=>⟨d v (by omega),rfl,by omega⟩,0,d v (by omega),λ_ w i=>by simp[gJ,vl,two,uD]at i,λe=>by simp[vl,leaves]at e,λ_ w _ i=>?_⟩;have j:w<(t0 (il s (vl 2 0 0 5 [] 0))).s.ee.length:=by rw[hlen];omega
   refine⟨_,gQ j,?_⟩;rcases a w _ (gQ j)with⟨_,e⟩|⟨e,_⟩
   ·rw[e];rfl
   ·omega
  ·exact⟨by simp[vl],λe=>by simp[vl]at e,λe=>by simp[vl]at e,0,d _ (by omega),λ_ w i=>by simp[gJ,vl,two,uD]at i,λe=>by simp[vl,leaves]at e,λe=>by simp[vl,iG]at e⟩
 ·rcases a v x hv with⟨_,rfl⟩|⟨_,rfl⟩
  ·simp[vl]at p
  ·simp[vl]at p
 ·have k:s.eh[st]? =some fs:=hs;rw[h.eh]at k;cases k
 ·show s.known++[s.ee.length]≠[];simp
 ·have l:w∈s.known++[s.ee.length]:=i;rw[h.known,h.ee,<-UD]at l;exact o w (Px.1 l)
theorem Sq (ops a:List Int) (n:Int):Ok (kG ops (a.take 6) ⟨row ops (il (params (lg n 5) 0 ⟨[],[],[],[],0⟩) (vl 2 0 0 5 [] 0)),[],[]⟩):=by
 have h0:Ps ⟨[],[],[],[],0⟩ 0:=⟨rfl,λv x h=>(by cases h),rfl,rfl,rfl⟩
 have b:=Lt (lg n 5) 0 _ h0;rw[vI]at b;have c:=UI b (YB (Gp n (by omega)));obtain⟨d,_⟩:=c.row ops;exact Ok.kG ops _ ⟨_,_,_,gh0,d⟩
open Go.Proofs.YtpnddokajmjpbaaDoor.Dm
theorem Ri:∀(l:List Bk),(l.flatMap λB=>B.ee).Pairwise (·< ·)->∀(b g k k':Nat) (B a:Bk) (v f:Nat),l[b]? =some B->l[g]? =some a->B.ee[k]? =some v->a.ee[k']? =some f->(b<g->v<f)/\(b=g->k<k'->v<f)
 |[],_,b,_,_,_,_,_,_,_,h,_,_,_=>by simp at h
 | C ::l,hp,b,g,k,k',B,a,v,f,c,d,i,j=>by
   rw[Za,List.pairwise_append]at hp;obtain⟨p,q,r⟩:=hp
   match b,g,c,d with
   | 0,0,c,d=>
     obtain rfl:C=B:=by simpa using c
     obtain rfl:C=a:=by simpa using d
     refine⟨λh=>by omega,λ_ s=>?_⟩;obtain⟨t,u⟩:=iB.1 i;obtain⟨w,x⟩:=iB.1 j;have:=VQ.1 p k k' t w s;rw[u,x]at this
     exact this
   | 0,n+1,c,d=>
     obtain rfl:C=B:=by simpa using c
     have e:l[n]? =some a:=by simpa using d
     refine⟨λ_=>r v (xQ i) f (Pp.2 ⟨a,xQ e,xQ j⟩),λh=>by omega⟩
   |n+1,0,c,d=>exact⟨λh=>by omega,λh=>by omega⟩
   | n+1,m+1,c,d=>
     have o:l[n]? =some B:=by simpa using c
     have e:l[m]? =some a:=by simpa using d
     have:=Ri l q n m k k' B a v f o e i j;exact⟨λh=>this.1 (by omega),λh=>this.2 (by omega)⟩
section
variable{u:U}(hc:u.blocks.flatMap (λB=>B.ee)=List.range u.ee.length)
include hc
theorem Mc {v a b c k k':Nat} (h:At u v b k) (h':At u a c k'):(b<c->v<a)/\(b=c->k<k'->v<a):=by
 obtain⟨B,d,e⟩:=h;obtain⟨f,g,i⟩:=h';exact Ri u.blocks (by rw[hc];exact List.pairwise_lt_range) b c k k' B f v a d g e i
theorem Q7 {v b a k k':Nat} (h:At u v b k) (h':At u v a k'):b=a/\k=k':=by
 have c:=(Mc hc h h').1;have d:=(Mc hc h' h).1;have hb:b=a:=by
  rcases V2 b a with h|h|h
  ·exact absurd (c h) (Pj _)
  ·exact h
  ·exact absurd (d h) (Pj _)
 have e:=(Mc hc h h').2 hb;have f:=(Mc hc h' h).2 hb.symm;refine⟨hb,?_⟩;rcases V2 k k' with h|h|h
 ·exact absurd (e h) (Pj _)
 ·exact h
 ·exact absurd (f h) (Pj _)
theorem UJ {v a b k k':Nat} (h:At u v b k) (h':At u a b k') (e:v<a):k<k':=by
 rcases V2 k k' with g|g|g
 ·exact g
 ·subst g;obtain⟨B,f,i⟩:=h;obtain⟨j,c,d⟩:=h';rw[f]at c;obtain rfl:=Option.some.inj c;rw[i]at d;obtain rfl:=Option.some.inj d;omega
 ·have:=(Mc hc h' h).2 rfl g;omega
theorem UC {v:Nat} (hv:v<u.ee.length):∃b k,At u v b k:=by
 have:v∈u.blocks.flatMap (λB=>B.ee):=by rw[hc];exact Px.2 hv
 obtain⟨B,a,c⟩:=Pp.1 this;obtain⟨b,hb⟩:=mA.1 a;obtain⟨k,d⟩:=mA.1 c;exact⟨b,k,B,hb,d⟩
theorem zaD {v b k:Nat} (h:At u v b k):v<u.ee.length:=by
 obtain⟨B,a,c⟩:=h;have:v∈u.blocks.flatMap (λB=>B.ee):=Pp.2 ⟨B,xQ a,xQ c⟩;rw[hc]at this;exact Px.1 this
end
theorem DO (ops:List Int):∀(i:Nat) (s:Ds) (l:List Nat),∃p,(some_ ops i s l).2 = {s with pos:=p}
 |0,s,_=>⟨s.pos,rfl⟩
 |i+1,s,l=>DO ops i (fy ops s).2 (l++[(fy ops s).1])
theorem Bi (ops:List Int) (s:Ds):(fw ops s).2.ee=s.ee/\(fw ops s).2.eh.length=s.eh.length+1/\(fw ops s).2.cur=s.cur:=by
 obtain⟨p,a⟩:=DO ops (num ops s 4).1 (num ops s 4).2 [];unfold fw;simp only;rw[a];exact⟨rfl,by simp,rfl⟩
structure Sz (s a:Ds):Prop where
 ee:s.ee.length<=a.ee.length
 eh:a.eh.length+s.ee.length<=s.eh.length+a.ee.length
theorem Sz.refl (s:Ds):Sz s s:=⟨iW _,iW _⟩
theorem Sz.trans {s f e:Ds} (g:Sz s f) (h:Sz f e):Sz s e:=by
 have a:=g.ee;have b:=h.ee;have c:=g.eh;have d:=h.eh;exact⟨by omega,by omega⟩
theorem W9 (ops:List Int) (s:Ds) (k a b:Nat):(qK ops s k a b).ee.length=s.ee.length+1/\(qK ops s k a b).eh.length<=s.eh.length+1:=by
 obtain⟨c,d,_⟩:=Bi ops s;unfold qK;split
 ·simp[il]
 split
 ·simp[il,num]
 split
 ·simp[il,num]
 split
 ·simp[il]
 split
 ·simp[put,num]
 split
 ·simp[put,fy]
 split
 ·simp[put,c,d]
 split
 ·simp[put,c,d]
 ·simp[il,num]
theorem Q6 (ops:List Int):∀(i:Nat) (s:Ds),Sz s (rows ops i s)/\(rows ops i s).ee.length<=max s.ee.length 200
 |0,s=>⟨.refl s,by show s.ee.length<=_;omega⟩
 | i + 1,s=>by
   unfold rows;split
   ·rename_i b
    obtain⟨c,d⟩:=Q6 ops i (su ops s);have a:=W9 ops (num ops (fy ops (fy ops s).2).2 20).2 (num ops (fy ops (fy ops s).2).2 20).1 (fy ops s).1 (fy ops (fy ops s).2).1;have e:(su ops s).ee.length=s.ee.length+1:=a.1;have f:(su ops s).eh.length<=s.eh.length+1:=a.2;exact⟨Sz.trans ⟨by omega,by omega⟩ c,by omega⟩
   ·exact⟨.refl s,by omega⟩
theorem CQ (ops:List Int) (s:Ds):Sz s (row ops s)/\(row ops s).ee.length<=max s.ee.length 200:=by
 obtain⟨a,b⟩:=Q6 ops (1+(num ops s 6).1) (num ops s 6).2;exact⟨⟨a.ee,a.eh⟩,b⟩
structure Us (t:Dt) (m:Nat):Prop where
 ee:t.s.ee.length<=210
 eh:t.s.eh.length<=t.s.ee.length+t.blocks.length
 blocks:t.blocks.length<=m
theorem Vg (ops:List Int) {t:Dt} {m:Nat} (h:Us t m) (hv:t.s.ee.length<160):Us (fork ops t) (m+3):=by
 obtain⟨w,x,y⟩:=h;unfold fork;simp only;have a1:=CQ ops (end_ {t with s:=(fy ops t.s).2} 2 (fy ops t.s).1 [t.blocks.length+1,t.blocks.length+2] 0 [t.blocks.length]).s;generalize o:row ops (end_ {t with s:=(fy ops t.s).2} 2 (fy ops t.s).1 [t.blocks.length+1,t.blocks.length+2] 0 [t.blocks.length]).s=b at*;have p:t.s.ee.length<=b.ee.length:=a1.1.ee;have q:b.eh.length+t.s.ee.length<=t.s.eh.length+b.ee.length:=a1.1.eh;have r:b.ee.length<=max t.s.ee.length 200:=a1.2;generalize d:end_ {s:=cut t.s.known.length b,blocks:=(end_ {t with s:=(fy ops t.s).2} 2 (fy ops t.s).1 [t.blocks.length+1,t.blocks.length+2] 0 [t.blocks.length]).blocks,fe:=(end_ {t with s:=(fy ops t.s).2} 2 (fy ops t.s).1 [t.blocks.length+1,t.blocks.length+2] 0 [t.blocks.length]).fe} 1 0 [t.blocks.length+3] 0 [t.blocks.length]=a at*;have b2:a.blocks.length=t.blocks.length+2:=by rw[<-d];simp[end_]
 have u:a.s.ee=b.ee:=by rw[<-d];rfl
 have v:a.s.eh=b.eh:=by rw[<-d];rfl
 have a2:=CQ ops a.s;generalize row ops a.s=c at*;have g:=a2.1.ee;have e:=a2.1.eh;have i:=a2.2;rw[u]at g e i;rw[v]at e;have a3:=CQ ops (il (end_ {s:=cut t.s.known.length c,blocks:=a.blocks,fe:=a.fe} 1 0 [t.blocks.length+3] 0 [t.blocks.length+1,t.blocks.length+2]).s (vl 21 0 0 0 [b.known.getLastD 0,c.known.getLastD 0] 0));have j:(il (end_ {s:=cut t.s.known.length c,blocks:=a.blocks,fe:=a.fe} 1 0 [t.blocks.length+3] 0 [t.blocks.length+1,t.blocks.length+2]).s (vl 21 0 0 0 [b.known.getLastD 0,c.known.getLastD 0] 0)).ee.length=c.ee.length+1:=by simp[il,end_,cut]
 have k:(il (end_ {s:=cut t.s.known.length c,blocks:=a.blocks,fe:=a.fe} 1 0 [t.blocks.length+3] 0 [t.blocks.length+1,t.blocks.length+2]).s (vl 21 0 0 0 [b.known.getLastD 0,c.known.getLastD 0] 0)).eh.length=c.eh.length:=by simp[il,end_,cut]
 have l:=a3.1.ee;have f:=a3.1.eh;have n:=a3.2;rw[j]at l f n;rw[k]at f;refine⟨?_,?_,?_⟩
 ·show(row ops _).ee.length<=210;omega
 ·show(row ops _).eh.length<=(row ops _).ee.length+(a.blocks++[_]).length;rw[zL,b2];omega
 ·show(a.blocks++[_]).length<=m+3;rw[zL,b2];simp;omega
theorem Uw (ops:List Int) {t:Dt} {m:Nat} (h:Us t m) (hv:t.s.ee.length<160):Us (we ops t) (m+3):=by
 obtain⟨r,u,v⟩:=h;unfold we;simp only;have a1:=CQ ops (end_ {t with s:=(fy ops t.s).2} 2 (fy ops t.s).1 [t.blocks.length+1,t.blocks.length+2] 0 [t.blocks.length]).s;generalize i:row ops (end_ {t with s:=(fy ops t.s).2} 2 (fy ops t.s).1 [t.blocks.length+1,t.blocks.length+2] 0 [t.blocks.length]).s=a at*;have j:t.s.ee.length<=a.ee.length:=a1.1.ee;have k:a.eh.length+t.s.ee.length<=t.s.eh.length+a.ee.length:=a1.1.eh;have l:a.ee.length<=max t.s.ee.length 200:=a1.2;obtain⟨n,o,_⟩:=Bi ops a;generalize b:end_ {s:=cut t.s.known.length (fw ops a).2,blocks:=(end_ {t with s:=(fy ops t.s).2} 2 (fy ops t.s).1 [t.blocks.length+1,t.blocks.length+2] 0 [t.blocks.length]).blocks,fe:=(end_ {t with s:=(fy ops t.s).2} 2 (fy ops t.s).1 [t.blocks.length+1,t.blocks.length+2] 0 [t.blocks.length]).fe} 3 0 [] (fw ops a).1 [t.blocks.length]=c at*;have b2:c.blocks.length=t.blocks.length+2:=by rw[<-b];simp[end_]
 have p:c.s.ee=a.ee:=by rw[<-b];exact n
 have q:c.s.eh.length=a.eh.length+1:=by rw[<-b];exact o
 have a2:=CQ ops c.s;generalize row ops c.s=e at*;have f:=a2.1.ee;have d:=a2.1.eh;have g:=a2.2;rw[p]at f d g;rw[q]at d;refine⟨?_,?_,?_⟩
 ·show e.ee.length<=210;omega
 ·show e.eh.length<=e.ee.length+c.blocks.length;rw[b2];omega
 ·show c.blocks.length<=m+3;rw[b2];omega
theorem Ce (s:Ds)(v:Nat)(args:List Nat):(setArgs s v args).ee.length=s.ee.length/\(setArgs s v args).eh=s.eh:=⟨by simp[setArgs,List.length_modify],rfl⟩
theorem T5 (ops:List Int) {t:Dt} {m:Nat} (h:Us t m) (hv:t.s.ee.length<160):Us (loop ops t) (m+3):=by
 obtain⟨G,H,I⟩:=h;unfold loop;simp only;generalize e:end_ {t with s:=(fy ops t.s).2} 1 0 [t.blocks.length+1] 0 [t.blocks.length,t.blocks.length+2]=b at*;have b1:b.blocks.length=t.blocks.length+1:=by rw[<-e];simp[end_]
 have x:b.s.ee=t.s.ee:=by rw[<-e];rfl
 have y:b.s.eh=t.s.eh:=by rw[<-e];rfl
 generalize i:({put (fy ops (put b.s (vl 21 0 0 0 [(fy ops t.s).1,0] 0))).2 (vl 21 0 0 0 [(fy ops (put b.s (vl 21 0 0 0 [(fy ops t.s).1,0] 0))).1,b.s.ee.length] 0)with known:=(put (fy ops (put b.s (vl 21 0 0 0 [(fy ops t.s).1,0] 0))).2 (vl 21 0 0 0 [(fy ops (put b.s (vl 21 0 0 0 [(fy ops t.s).1,0] 0))).1,b.s.ee.length] 0)).known++[b.s.ee.length,b.s.ee.length+1]}:Ds)=f at*;have z:f.ee.length=t.s.ee.length+2:=by rw[<-i,<-x];simp[put,fy]
 have n:f.eh=t.s.eh:=by rw[<-i,<-y];rfl
 obtain⟨A,B,_⟩:=Bi ops f;generalize j:il (put (put (fw ops f).2 (vl 23 0 0 0 [] (fw ops f).1)) (vl 2 0 0 1 [] 0)) (vl 4 b.s.ee.length (put (fw ops f).2 (vl 23 0 0 0 [] (fw ops f).1)).ee.length 0 [] 0)=d at*;have J:d.ee.length=t.s.ee.length+5:=by rw[<-j];simp[il,put,A,z]
 have C:d.eh.length=t.s.eh.length+1:=by rw[<-j,<-n,<-B];rfl
 generalize g:end_ {s:=d,blocks:=b.blocks,fe:=b.fe} 2 b.s.ee.length [t.blocks.length+2,t.blocks.length+3] 0 [t.blocks.length+1]=c at*;have b2:c.blocks.length=t.blocks.length+2:=by rw[<-g];simp[end_,b1]
 have D:c.s.ee=d.ee:=by rw[<-g];rfl
 have o:c.s.eh=d.eh:=by rw[<-g];rfl
 have a1:=CQ ops c.s;generalize row ops c.s=w at*;have p:=a1.1.ee;have k:=a1.1.eh;have q:=a1.2;rw[D]at p k q;rw[o]at k;have r:∀a:Ds,a.ee.length=w.ee.length->a.eh=w.eh->Us {s:=row ops (end_ {s:=cut d.known.length a,blocks:=c.blocks,fe:=c.fe} 1 0 [t.blocks.length+1] 0 [t.blocks.length+1]).s,blocks:=(end_ {s:=cut d.known.length a,blocks:=c.blocks,fe:=c.fe} 1 0 [t.blocks.length+1] 0 [t.blocks.length+1]).blocks,fe:=(end_ {s:=cut d.known.length a,blocks:=c.blocks,fe:=c.fe} 1 0 [t.blocks.length+1] 0 [t.blocks.length+1]).fe} (m+3):=by
  intro a E F;have a2:=CQ ops (end_ {s:=cut d.known.length a,blocks:=c.blocks,fe:=c.fe} 1 0 [t.blocks.length+1] 0 [t.blocks.length+1]).s;have u:a.ee.length<=_:=a2.1.ee;have l:_+a.ee.length<=a.eh.length+_:=a2.1.eh;have v:_<=max a.ee.length 200:=a2.2;rw[E]at u l v;rw[F]at l;refine⟨?_,?_,?_⟩
  ·show(row ops _).ee.length<=210;omega
  ·show(row ops _).eh.length<=(row ops _).ee.length+(c.blocks++[_]).length;rw[zL,b2];omega
  ·show(c.blocks++[_]).length<=m+3;rw[zL,b2];simp;omega
 refine r _ ?_ ?_
 ·rw[(Ce _ _ _).1];split
  ·rw[(Ce _ _ _).1];exact(Ce _ _ _).1
  ·exact(Ce _ _ _).1
 ·rw[(Ce _ _ _).2];split
  ·rfl
  ·rfl
theorem J5 (ops:List Int):∀(l:List Int) {t:Dt} {m:Nat},Us t m->Us (kG ops l t) (m+3*l.length)
 |[],t,m,h=>h
 | k ::l,t,m,h=>by
   unfold kG;split
   ·rename_i hv
    have a:Us (sy ops (lg k 3) t) (m+3):=by
      unfold sy;split
      ·exact Vg ops h hv
      split
      ·exact T5 ops h hv
      ·exact Uw ops h hv
    have:=J5 ops l a;rw[show m+3*(k::l).length=m+3+3*l.length by rw[CM];omega];exact this
   ·exact⟨h.ee,h.eh,by have:=h.blocks;rw[CM];omega⟩
open Go.Proofs.YtpnddokajmjpbaaDoor.Dm
theorem Xb {t:Dt} (ops:List Int) (h:Ok t):∃D pr nx,Gh D pr nx t.blocks.length/\nx t.blocks.length=[]/\nV D pr nx noE (end_ (on t (fw ops t.s).2) 3 0 [] (fw ops t.s).1 []):=by
 obtain ⟨D,pr,nx,a,x⟩:=h;generalize r:t.blocks.length=hi at*;have e:∀b,b<=hi->ext hi D (dF hi) b=D b:=λb h=>kR h;have vR:∀i,i<hi->ry hi nx (λ_=>[]) i=nx i:=λi h=>wi h;have f:Gh (ext hi D (dF hi)) (ext hi pr λ_=>[]) (ry hi nx λ_=>[]) hi:=by
  refine⟨λp b c hb=>?_,λb h0 hb=>?_,λb hb=>?_,λb hb=>?_,λp c d u j=>?_⟩
  ·rw[vR p c]at hb;obtain⟨v,y,z⟩:=a.tree p b c hb;exact⟨v,y,by rw[e b v];exact Be a.down e z (by omega)⟩
  ·rw[e b hb];exact a.down b h0 hb
  ·rw[kR hb,a.fe b hb,xV hi b vR]
  ·obtain⟨l,d⟩:=a.reach b hb;exact⟨l,d.mono (iW _) vR⟩
  ·rw[vR p c]at d j;rw[kR (a.tree p u c j).1];exact a.Hg p c d u j
 have m:=x.Rt (D':=ext hi D (dF hi)) (ZT:=ext hi pr λ_=>[]) (Tu:=ry hi nx λ_=>[]) (by rw[r];exact a) (λb h=>kR (by omega)) (λb h=>kR (by omega)) (λb h=>wi (by omega));have n0:ry hi nx (λ_=>[]) hi=[]:=kK (k:=0) (g:=λ_=>[]);obtain⟨o,F,A,_,_,fs,B,C⟩:=m.state ops;have b1:(on t (fw ops t.s).2).blocks.length=hi:=r
 obtain ⟨E,_⟩:=o.end_ (fin:=3) (cond:=0) (n:=[]) (state:=(fw ops t.s).1) (fe:=[]) (by rw[b1,n0]) (by rw[b1];exact(hK (g:=λ_=>([]:List Nat)) (by omega)).symm)
  (.inr (.inr ⟨rfl,rfl,fs,B,λw q=>o.kn w (by show w∈(fw ops t.s).2.known;rw[A];exact C w q)⟩))
  (λw q=>(o.kn w q).up (by rw[b1];exact Gy (by omega) (hK (by omega))))
 exact⟨_,_,_,f,n0,E⟩
theorem WI {D:Nat->Nat} {pr nx:Nat->List Nat} {t:Dt} {hi:Nat} (M:Gh D pr nx hi) (Z:nx hi=[]) (n:nV D pr nx noE t) (hb:t.blocks.length=hi+1) (I:t.s.cur=[]) (hv:t.s.ee.length<=3000) (hs:t.s.eh.length<=1000) (aa:t.blocks.length<=300) (f p:Int) :
  Good ⟨f,p,t.s.ee,t.blocks,t.s.eh⟩:=by
 have hc:t.blocks.flatMap (λB=>B.ee)=List.range t.s.ee.length:=by
  have:=n.cat
  rw[I,Co]at this;exact this
 have own:∀{v b},Ow t v b->∃k,At ⟨f,p,t.s.ee,t.blocks,t.s.eh⟩ v b k:=λh=>by
  rcases h with⟨B,m,d⟩|⟨_,d⟩
  ·obtain⟨k,W⟩:=mA.1 d;exact⟨k,B,m,W⟩
  ·rw[I]at d;cases d
 have am:∀{v b},Ow t v b->b<t.blocks.length:=λh=>by
  rcases h with⟨B,m,_⟩|⟨_,d⟩
  ·exact(iB.1 m).1
  ·rw[I]at d;cases d
 have o:∀{v b k},At ⟨f,p,t.s.ee,t.blocks,t.s.eh⟩ v b k->Ow t v b:=λ⟨B,m,d⟩=> .inl ⟨B,m,xQ d⟩;have X:∀b,b<t.blocks.length->next ⟨f,p,t.s.ee,t.blocks,t.s.eh⟩ b=nx b:=λb h=>by
  have e:=gQ h;unfold next
  simp only[e];exact(n.bk b _ e).1
 have ab:∀b,¬b<t.blocks.length->next ⟨f,p,t.s.ee,t.blocks,t.s.eh⟩ b=[]:=λb h=>by
  unfold next
  simp only[Jp (Nat.le_of_not_lt h)]
 have xZ:∀q b,b∈next ⟨f,p,t.s.ee,t.blocks,t.s.eh⟩ q->q<hi/\b∈nx q:=λq b h=>by
  by_cases hq:q<t.blocks.length
  ·rw[X q hq]at h;refine⟨?_,h⟩;by_cases e:q=hi
   ·rw[e,Z]at h;cases h
   ·omega
  ·rw[ab q hq]at h;cases h
 have N:∀{x b},ot D x b->mg (next ⟨f,p,t.s.ee,t.blocks,t.s.eh⟩) x b:=λh l Q=>Gq (λq b hb _=>(M.tree q b (xZ q b hb).1 (xZ q b hb).2).2.2) Q h;have PI:∀{a w},Kn D t a w->tI ⟨f,p,t.s.ee,t.blocks,t.s.eh⟩ w:=λ⟨_,x,_,_,G,J⟩=>⟨x,G,J⟩
 have r:∀{a w},Kn D t a w->ye ⟨f,p,t.s.ee,t.blocks,t.s.eh⟩ w a:=λ⟨b,x,m,d,_⟩=>let⟨k,W⟩:=own m;⟨b,k,W,N d⟩
 have O:∀{v w b k},At ⟨f,p,t.s.ee,t.blocks,t.s.eh⟩ v b k->w<v->Kn D t b w->Sb ⟨f,p,t.s.ee,t.blocks,t.s.eh⟩ w b k:=λ{v w b k} hv A ⟨c,x,m,d,_⟩=>by
  obtain⟨j,V⟩:=own m;by_cases e:c=b
  ·subst e;exact⟨c,j,V,.inl ⟨rfl,UJ hc V hv A⟩⟩
  ·exact⟨c,j,V,.inr ⟨e,N d⟩⟩
 have uniq:∀{v b b'},Ow t v b->Ow t v b'->b=b':=λh h'=>by
  obtain⟨k,W⟩:=own h;obtain⟨k',ac⟩:=own h';exact(Q7 hc W ac).1
 have R:∀b,ahead ⟨f,p,t.s.ee,t.blocks,t.s.eh⟩ b=oC nx hi b:=λb=>by
  have ae:∀(l:List Bk) (i:Nat),(∀k B,l[k]? =some B->B.next=nx (i+k))->kh l i b=((List.range' i l.length).flatMap λq=>((nx q).filter (·= b)).map λ_=>q):=by
   intro l
   induction l with
   |nil=>intro i _;rfl
   | cons B l ih=>
     intro i h;have h0:=h 0 B rfl;rw[VP]at h0;rw[CM,List.range'_succ,Za];unfold kh;rw[h0,ih (i+1) λk B hB=>by rw[show i+1+k=i+(k+1) by omega];exact h (k+1) B hB]
  unfold ahead;rw[ae t.blocks 0 λk B hB=>by rw[vI];exact(n.bk k B hB).1];have e:List.range' 0 t.blocks.length=List.range t.blocks.length:=(List.range_eq_range').symm;rw[e,hb];have:=kL nx hi b;unfold oC at this⊢;rw[this,Z];simp
 refine{nv:=hv,Ju:=by show 1<=t.blocks.length;omega,nb:=aa,ns:=hs,st:=?_,AB:=λv h=>UC hc h,EI:=λv b k b' k' h h'=>Q7 hc h h',l0:=λv b k h=>zaD hc h,G1:=?_,par:=?_,IE:=?_,op:=λv x h=>(n.IX v x h).op,use:=?_,leave:=?_,putAt:=λv x h=>(n.IX v x h).putAt,param:=?_,fin:=?_,nx:=?_,fe:=?_,Dj:=?_,Hg:=?_,reach:=?_,IB:=?_,JU:=?_,J4:=?_,JA:=?_,J2:=?_}
 ·intro s fs h;obtain⟨C,F⟩:=n.st s fs h;refine⟨by omega,by omega,λf hf=>?_⟩;obtain⟨E,K,S,g6⟩:=F f hf;exact⟨by omega,by omega,λv hv=>let⟨a,ha⟩:=S v hv;PI ha,λv hv=>let⟨a,ha⟩:=g6 v hv;PI ha⟩
 ·intro v w b k x y m d G J h5;obtain⟨c,C,_,_,K⟩:=(n.IX v x G).own;obtain rfl:=uniq C (o m);have A:w<v:=(Mc hc d m).2 rfl (IS _);obtain⟨z,S,g6⟩:=K h5 w (o d) A;have T:t.s.ee[w]? =some y:=J;rw[T]at S;obtain rfl:=Option.some.inj S;exact g6
 ·intro v b k x m d G;exact uniq (o m) ((n.IX v x d).par G).1
 ·intro v b k x B m d G J;obtain⟨c,C,F,E⟩:=n.ph v x d G;obtain rfl:=uniq C (o m);exact⟨F,by rw[(n.bk c B J).2.1];exact(E id).1⟩
 ·intro v x h w H;by_cases U:x.op=21
  ·obtain⟨c,C,F,E⟩:=n.ph v x h U;have ag:w∈x.args:=by unfold gJ at H;rw[if_pos U]at H;exact H
   obtain⟨j,V⟩:=mA.1 ag;have A:=(iB.1 V).1;rw[(E id).1]at A;exact PI ((E id).2 j w _ V (gQ A))
  ·obtain⟨c,C,F,_⟩:=(n.IX v x h).own;exact PI (F U w H).2
 ·intro v x h Q;obtain⟨c,C,_,E,_⟩:=(n.IX v x h).own;obtain⟨fs,K,_⟩:=E Q;exact(iB.1 K).1
 ·intro v x h m;obtain⟨C,F,E⟩:=(n.IX v x h).par m;refine⟨by omega,by omega,λw y hy ah he=>?_⟩;obtain⟨_,k2,_⟩:=(n.IX w y hy).par ah;omega
 ·intro b B h;rcases(n.bk b B h).2.2 with g|⟨C,F,E⟩|⟨C,F,fs,E,_⟩
  ·exact .inl g
  ·exact .inr (.inl ⟨C,F,PI E⟩)
  ·exact .inr (.inr ⟨C,F,(iB.1 E).1⟩)
 ·intro b u hu;obtain⟨C,F⟩:=xZ b u hu;have:=(M.tree b u C F).1;show u<t.blocks.length;omega
 ·intro b B h;have A:=(iB.1 h).1;rw[(n.bk b B h).2.1,R,M.fe b (by have:b<t.blocks.length:=A;omega)]
 ·rw[R];exact Iv λi ai hm=>(M.tree i 0 ai hm).2.1 rfl
 ·intro b B h d u hu;have A:b<t.blocks.length:=(iB.1 h).1;have e:=(n.bk b B h).1;have L:u∈nx b:=by rw[<-e];exact hu
  have P:b<hi:=by
   by_cases e2:b=hi
   ·rw[e2,Z]at L;cases L
   ·omega
  have Q:(nx b).length=2:=by
   rw[<-e];rcases(n.bk b B h).2.2 with g|⟨_,F,_⟩|⟨C,_⟩
   ·omega
   ·exact F
   ·omega
  rw[R,<-M.fe u (M.tree b u P L).1];exact M.Hg b P Q u L
 ·intro b A;have al:b<t.blocks.length:=A;obtain⟨l,Q⟩:=M.reach b (by omega);have Y:∀{b l},Pn nx hi b l->Pt (next ⟨f,p,t.s.ee,t.blocks,t.s.eh⟩) b l:=by
   intro b l h
   induction h with
   |nil=>exact .nil
   |step _ hp e ih=>exact .step ih (by rw[X _ (by omega)];exact e)
  exact⟨l,Y Q⟩
 ·intro v b k x m d G w H;obtain⟨c,C,F,_⟩:=(n.IX v x d).own;obtain rfl:=uniq C (o m);exact O m (F G w H).1 (F G w H).2
 ·intro v b k x B m d G J j w q h5 h6;obtain⟨c,C,_,E⟩:=n.ph v x d G;obtain rfl:=uniq C (o m);rw[(n.bk c B J).2.1]at h6;exact r ((E id).2 j w q h5 h6)
 ·intro v b k x fs m d G J w H;obtain⟨c,C,_,E,_⟩:=(n.IX v x d).own;obtain rfl:=uniq C (o m);obtain⟨aj,K,S⟩:=E G;have T:t.s.eh[x.state]? =some fs:=J;rw[T]at K;obtain rfl:=Option.some.inj K;exact O m (S w H).1 (S w H).2
 ·intro b B h d;rcases(n.bk b B h).2.2 with g|⟨_,_,E⟩|⟨C,_⟩
  ·omega
  ·exact r E
  ·omega
 ·intro b B fs h d G w H;rcases(n.bk b B h).2.2 with g|⟨C,_,_⟩|⟨_,_,aj,E,K⟩
  ·omega
  ·omega
  ·have ak:t.s.eh[B.state]? =some fs:=G;rw[ak]at E;obtain rfl:=Option.some.inj E;exact r (K w H)
theorem L9:∀(n i:Nat) (s:Ds),(params n i s).ee.length=s.ee.length+n/\(params n i s).eh=s.eh
 |0,_,_=>⟨rfl,rfl⟩
 | n+1,i,s=>by
   obtain⟨a,b⟩:=L9 n (i+1) (il s (vl 1 0 0 (i:Nat) [] 0));refine⟨?_,b⟩;unfold params;rw[a];simp[il];omega
theorem RZ (ops c:List Int) (n:Int):Good (GG ops c n):=by
 have d:=Sq ops c n;have f:=L9 (lg n 5) 0 ⟨[],[],[],[],0⟩;have g:=Gp n (m:=5) (by omega);obtain⟨r1,r2⟩:=CQ ops (il (params (lg n 5) 0 ⟨[],[],[],[],0⟩) (vl 2 0 0 5 [] 0));have h:(il (params (lg n 5) 0 ⟨[],[],[],[],0⟩) (vl 2 0 0 5 [] 0)).ee.length=lg n 5+1:=by
  simp only[il,zL,ZO,f.1];simp
 have i:(il (params (lg n 5) 0 ⟨[],[],[],[],0⟩) (vl 2 0 0 5 [] 0)).eh=[]:=f.2;have e:Us ⟨row ops (il (params (lg n 5) 0 ⟨[],[],[],[],0⟩) (vl 2 0 0 5 [] 0)),[],[]⟩ 0:=by
  have a:=r1.ee;have b:=r1.eh;rw[h]at a b r2;rw[i]at b;refine⟨by show(row ops _).ee.length<=210;omega,?_,iW _⟩;show(row ops _).eh.length<=(row ops _).ee.length+0;simp at b;omega
 have hb:=J5 ops (c.take 6) e;have hlen:(c.take 6).length<=6:=by rw[FY];omega
 unfold GG;simp only;generalize kG ops (c.take 6) ⟨row ops (il (params (lg n 5) 0 ⟨[],[],[],[],0⟩) (vl 2 0 0 5 [] 0)),[],[]⟩=t at*;obtain⟨D,pr,nx,j,k,l⟩:=Xb ops d;obtain⟨o,p,_⟩:=Bi ops t.s;have v:=hb.ee;have s:=hb.eh;have bl:=hb.blocks;refine WI j k l (by simp[end_,on]) rfl ?_ ?_ ?_ 1 2
 ·show(fw ops t.s).2.ee.length<=3000;rw[o];omega
 ·show(fw ops t.s).2.eh.length<=1000;rw[p];omega
 ·show(t.blocks++[_]).length<=300;rw[zL,ZO];omega
open Go.Proofs.YtpnddokajmjpbaaDoor.Dm
def Iu (u:U) (v:Nat):Bool:=match u.ee[v]? with
 |some x=>iG x.op
 |none=>false
def TW (u:U) (b:Nat):List Nat:=match u.blocks[b]? with
 |some B=>B.ee
 |none=>[]
def Y2 (u:U)(t w:Nat):Prop:=w∈TW u t/\Iu u w=true
def NJ (u:U) (s:Nat):List Nat:=match u.eh[s]? with
 |some fs=>ie fs
 |none=>[]
def zaa (u:U) (v:Nat):List Nat:=match u.ee[v]? with
 |some x=>gJ x++(if leaves x.op=true then NJ u x.state else[])
 |none=>[]
def ln (In H:Nat->Nat->Prop):List Nat->(Nat->Prop)->Nat->Prop
 |[],P=>P
 |t::ts,P=>ln In H ts λw=>(P w\/In t w)/\¬H t w
def Wr (u:U)(b w:Nat):Prop:=∃t∈next u b,∃(B:Bk) (v:Nat) (x:Vl) (j:Nat),u.blocks[t]? =some B/\v∈B.ee/\u.ee[v]? =some x/\x.op=21/\B.fe[j]? =some b/\x.args[j]? =some w
def Xz (u:U)(b w:Nat):Prop:=∃B:Bk,u.blocks[b]? =some B/\(B.fin=2/\w=B.cond\/B.fin=3/\w∈NJ u B.state)
def Xl (u:U)(H In:Nat->Nat->Prop)(b w:Nat):Prop:=ln In H (next u b) (λ_=>False) w\/Wr u b w\/Xz u b w
def bk (u:U):List Nat->(Nat->Prop)->Nat->Prop
 |[],P=>P
 |v::r,P=>if Iu u v=true then P else bk u r λw=>(P w/\w≠v)\/w∈zaa u v
def XJ (u:U)(b:Nat)(O:Nat->Prop):Nat->Prop:=bk u (TW u b).reverse O
def Tr (u:U)(H In:Nat->Nat->Prop)(b:Nat):Nat->Prop:=XJ u b (Xl u H In b)
theorem QV {In a H:Nat->Nat->Prop} (h:∀b w,In b w->a b w):∀{ts:List Nat} {P d:Nat->Prop},(∀w,P w->d w)->∀w,ln In H ts P w->ln a H ts d w
 |[],_,_,hp,w,hw=>hp w hw
 |_::ts,_,_,hp,w,hw=>QV (ts:=ts) h (λx hx=>⟨hx.1.elim (λc=> .inl (hp x c)) λc=> .inr (h _ x c),hx.2⟩) w hw
theorem DB {In H a:Nat->Nat->Prop}:∀{ts:List Nat} {P:Nat->Prop},(∀t∈ts,∀w,H t w↔a t w)->∀w,ln In H ts P w↔ln In a ts P w
 |[],_,_,_=>Iff.rfl
 | t ::ts,P,h,w=>by
   have e:(λw=>(P w\/In t w)/\¬H t w)=λw=>(P w\/In t w)/\¬a t w:=by
     funext x;rw[h t (by simp) x]
   show ln In H ts _ w↔ln In a ts _ w;rw[e];exact DB (λt ht=>h t (by simp[ht])) w
theorem HU {u:U} {H In a:Nat->Nat->Prop} (h:∀b w,In b w->a b w) {b w:Nat} (d:Xl u H In b w):Xl u H a b w:=
 d.elim (λc=> .inl (QV h (λ_ hx=>hx) w c)) λc=> .inr c
theorem Ep {u:U}:∀{r:List Nat} {P b:Nat->Prop},(∀w,P w->b w)->∀w,bk u r P w->bk u r b w
 |[],_,_,h,w,hw=>h w hw
 | v::r,P,b,h,w,hw=>by
   unfold bk at hw⊢;split at hw
   ·rename_i e;rw[if_pos e];exact h w hw
   ·rename_i e;rw[if_neg e];exact Ep (λx hx=>hx.elim (λa=> .inl ⟨h x a.1,a.2⟩) λa=> .inr a) w hw
theorem MH {u:U} {H In a:Nat->Nat->Prop} (h:∀b w,In b w->a b w) {b w:Nat} (c:Tr u H In b w):Tr u H a b w:=
 Ep (λ_ hx=>HU h hx) w c
structure Ui (u:U) (H In:Nat->Nat->Prop):Prop where
 up:∀b w,In b w->Tr u H In b w
 least:∀X:Nat->Nat->Prop,(∀b w,b<u.blocks.length->Tr u H X b w->X b w)->∀b w,In b w->X b w
theorem Ui.start (u:U)(H:Nat->Nat->Prop):Ui u H λ_ _=>False:=⟨λ_ _ h=>h.elim,λ_ _ _ _ h=>h.elim⟩
def zaj (In:Nat->Nat->Prop)(b:Nat)(P:Nat->Prop):Nat->Nat->Prop:=λc w=>(c=b/\P w)\/(c≠b/\In c w)
theorem Ui.step {u:U} {H In:Nat->Nat->Prop} (h:Ui u H In) {b:Nat} (hb:b<u.blocks.length):Ui u H (zaj In b (Tr u H In b)):=by
 have f:∀c w,In c w->zaj In b (Tr u H In b) c w:=λc w d=>by
  by_cases e:c=b
  ·subst e;exact .inl ⟨rfl,h.up _ _ d⟩
  ·exact .inr ⟨e,d⟩
 refine⟨λc w d=>?_,λX g c w d=>?_⟩
 ·rcases d with⟨rfl,a⟩|⟨_,a⟩
  ·exact MH f a
  ·exact MH f (h.up _ _ a)
 ·rcases d with⟨rfl,a⟩|⟨_,a⟩
  ·exact g _ _ hb (MH (h.least X g) a)
  ·exact h.least X g _ _ a
structure LM (u:U) (H In Out:Nat->Nat->Prop):Prop where
 out:∀b w,b<u.blocks.length->(Out b w↔Xl u H In b w)
 IP:∀b w,b<u.blocks.length->(In b w↔XJ u b (Out b) w)
 least:∀X:Nat->Nat->Prop,(∀b w,b<u.blocks.length->Tr u H X b w->X b w)->∀b w,In b w->X b w
theorem LM.tr {u:U} {H In Out:Nat->Nat->Prop} (h:LM u H In Out) {b w:Nat} (hb:b<u.blocks.length):In b w↔Tr u H In b w:=by
 rw[h.IP b w hb];exact⟨Ep (λx hx=>(h.out b x hb).1 hx) w,Ep (λx hx=>(h.out b x hb).2 hx) w⟩
theorem NH {u:U} {H c In:Nat->Nat->Prop} {b:Nat} (d:∀t∈next u b,∀w,H t w↔c t w) (w:Nat):Tr u H In b w↔Tr u c In b w:=
 ⟨Ep (λx hx=>hx.imp (λa=>(DB d x).1 a) id) w,Ep (λx hx=>hx.imp (λa=>(DB d x).2 a) id) w⟩
theorem LM.uniq {u:U} {H j In Out a c:Nat->Nat->Prop} (h:LM u H In Out) (h':LM u j a c) (d:∀b,∀t∈next u b,∀w,H t w↔j t w) {b w:Nat} (hb:b<u.blocks.length):(In b w↔a b w)/\(Out b w↔c b w):=by
 have e:∀b w,In b w->a b w:=h.least a λb w hb f=>(h'.tr hb).2 ((NH (d b) w).1 f);have k:∀b w,a b w->In b w:=h'.least In λb w hb f=>(h.tr hb).2 ((NH (d b) w).2 f);refine⟨⟨e b w,k b w⟩,?_⟩;rw[h.out b w hb,h'.out b w hb];exact⟨λg=>(HU e g).imp (λi=>(DB (d b) w).1 i) id,λg=>(HU k g).imp (λi=>(DB (d b) w).2 i) id⟩
theorem Pt.cut {nx:Nat->List Nat} {x:Nat}:∀{b l},Pt nx b l->x∈l->∃a,Pt nx x a/\a.length<=l.length
 | _,_,.nil,h=>by
   obtain rfl:x=0:=by simpa using h
   exact⟨_,.nil,iW _⟩
 | _,_,.step h e,hx=>by
   rcases CL.1 hx with rfl|hx
   ·exact⟨_,.step h e,iW _⟩
   ·obtain⟨a,c,d⟩:=Pt.cut h hx
    exact⟨a,c,by simp;omega⟩
section
variable{u:U}(g:Good u)
include g
theorem Good.TX {p b:Nat} (h:b∈next u p):p<u.blocks.length/\b<u.blocks.length/\b≠0:=by
 refine⟨?_,g.nx p b h,λe=>?_⟩
 ·unfold next at h
  split at h
  ·rename_i B a;exact(iB.1 a).1
  ·cases h
 ·subst e;have:=Eo.2 h;rw[g.Dj]at this;cases this
theorem Good.OD {v b k:Nat} (h:At u v b k):∃x,u.ee[v]? =some x/\Iu u v=iG x.op:=by
 have:=g.l0 v b k h;refine⟨_,gQ this,?_⟩;unfold Iu;rw[gQ this]
theorem Good.Mn {v b k:Nat} (h:At u v b k) (hv:Iu u v=true):∀{w j:Nat},At u w b j->j<=k->Iu u w=true:=by
 have f:∀(n:Nat) (v k:Nat),At u v b k->Iu u v=true->∀w j,At u w b j->j+n=k->Iu u w=true:=by
  intro n
  induction n with
  | zero=>
    intro v k h hv w j c l;obtain rfl:j=k:=by omega
    obtain⟨B,d,e⟩:=h;obtain⟨t,a,m⟩:=c;rw[d]at a;cases a;rw[e]at m;cases m
    exact hv
  | succ n o=>
    intro v k h hv w j c l;obtain⟨k,rfl⟩:∃i,k=i+1:=⟨k-1,by omega⟩
    obtain⟨B,d,e⟩:=h;have p:k<B.ee.length:=by have:=(iB.1 e).1;omega
    have a:At u (B.ee[k]) b k:=⟨B,d,gQ p⟩
    obtain⟨x,hx,q⟩:=g.OD ⟨B,d,e⟩;obtain⟨y,r,s⟩:=g.OD a;rw[q]at hv;exact o _ k a (by rw[s];exact g.G1 _ _ _ _ _ _ ⟨B,d,e⟩ a hx r hv) w j c (by omega)
 exact λ{w j} c l=>f (k-j) v k h hv w j c (by omega)
variable{In Out:Nat->Nat->Prop}(h:LM u (Y2 u) In Out)
include h
end
