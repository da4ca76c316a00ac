/- Parts. -/
import Derived.Test.YtpnddokajmjpbaaDoorM12
namespace Go.Proofs.YtpnddokajmjpbaaDoor.Un
open Go.Proofs.YtpnddokajmjpbaaDoor.Dm
def aheadF (nx:Nat->List Nat)(n b:Nat):List Nat:=(List.range n).flatMap λi=>((nx i).filter (·= b)).map λ_=>i
theorem hV (nx:Nat->List Nat) (n b:Nat):aheadF nx (n+1) b=aheadF nx n b++((nx n).filter (·= b)).map λ_=>n:=by
 unfold aheadF;rw[wBg,wBR];simp
theorem rO {nx nx':Nat->List Nat} (n b:Nat) (h:∀i,i<n->nx' i=nx i):aheadF nx' n b=aheadF nx n b:=by
 induction n with
 |zero=>rfl
 |succ n a=>rw[hV,hV,a λi hi=>h i (by omega),h n (by omega)]
theorem Bw {nx:Nat->List Nat} {n b q:Nat}:q∈aheadF nx n b↔q<n/\b∈nx q:=by
 unfold aheadF;rw[wAy];constructor
 ·rintro⟨i,a,c⟩;obtain⟨t,e,rfl⟩:=wBH.1 c;have d:=wA7.1 e;simp at d;rw[<-d.2];exact⟨wBJ.1 a,d.1⟩
 ·rintro⟨a,c⟩;exact⟨q,wBJ.2 a,wBH.2 ⟨b,wA7.2 ⟨c,by simp⟩,rfl⟩⟩
theorem Ag {nx:Nat->List Nat} {n b:Nat} (h:∀i,i<n->b ∉ nx i):aheadF nx n b=[]:=by
 apply List.eq_nil_iff_forall_not_mem.2;intro q hq;obtain⟨a,c⟩:=Bw.1 hq;exact h q a c
inductive Pn (nx:Nat->List Nat) (n:Nat):Nat->List Nat->Prop
 |nil:Pn nx n 0 [0]
 |step {p b:Nat} {l:List Nat} (h:Pn nx n p l) (a:p<n) (e:b∈nx p):Pn nx n b (b::l)
theorem Pn.mono {nx nx':Nat->List Nat} {n a:Nat} (d:n<=a) (c:∀i,i<n->nx' i=nx i):∀{b l},Pn nx n b l->Pn nx' a b l
 |_,_,.nil=> .nil
 |_,_,.step h hp e=> .step (h.mono d c) (by omega) (by rw[c _ hp];exact e)
structure Gh (D:Nat->Nat) (pr nx:Nat->List Nat) (hi:Nat):Prop where
 tree:∀p b,p<hi->b∈nx p->b<=hi/\b≠0/\Anc D (D b) p
 down:∀b,b≠0->b<=hi->D b<b
 preds:∀b,b<=hi->pr b=aheadF nx hi b
 reach:∀b,b<=hi->∃l,Pn nx hi b l
 crit:∀p,p<hi->(nx p).length=2->∀t∈nx p,(pr t).length=1
theorem ur {D D':Nat->Nat} {hi:Nat} (c:∀b,b≠0->b<=hi->D b<b) (d:∀b,b<=hi->D' b=D b) {x b:Nat} (h:Anc D x b):b<=hi->Anc D' x b:=by
 induction h with
 |refl=>exact λ_=> .refl _
 | up h0 _ e=>
   rename_i b _;intro a;have:=c b h0 a;exact .up h0 (by rw[d b a];exact e (by omega))
theorem owLe {t:Dt} {v b:Nat} (h:Ow t v b):b<=t.blocks.length:=by
 rcases h with⟨B,a,_⟩|⟨a,_⟩
 ·exact Nat.le_of_lt (wAB.1 a).1
 ·omega
section
variable{D D':Nat->Nat}{pr nx pr' nx':Nat->List Nat}{E:Nat->Prop}{t:Dt}
theorem Mid.agree (e:Mid D pr nx E t) (F:Gh D pr nx t.blocks.length) (r:∀b,b<=t.blocks.length->D' b=D b) (k:∀b,b<=t.blocks.length->pr' b=pr b) (u:∀b,b<t.blocks.length->nx' b=nx b):Mid D' pr' nx' E t:=by
 have kn:∀{a w},a<=t.blocks.length->Kn D t a w->Kn D' t a w:=λJ ⟨b,x,l,o,n⟩=>⟨b,x,l,ur F.down r o J,n⟩
 refine⟨e.cat,λv x h=>?_,λv x h K=>?_,λb B h=>?_,λs fs h=>?_,by rw[k _ (wAF _)];exact e.pc,e.ne,λw c=>kn (wAF _) (e.kn w c)⟩
 ·have p:=e.vok v x h;obtain⟨b,l,o,n,L⟩:=p.own;refine⟨p.op,p.putAt,p.par,b,l,λG w c=>⟨(o G w c).1,kn (owLe l) (o G w c).2⟩,λM=>?_,L⟩;obtain⟨fs,d,i⟩:=n M;exact⟨fs,d,λw c=>⟨(i w c).1,kn (owLe l) (i w c).2⟩⟩
 ·obtain⟨b,d,i,m⟩:=e.ph v x h K;refine⟨b,d,i,λH=>?_⟩;rw[k b (owLe d)];refine⟨(m H).1,λj w q N I=>kn ?_ ((m H).2 j w q N I)⟩;have:=wAI I;rw[F.preds b (owLe d)]at this;exact Nat.le_of_lt (Bw.1 this).1
 ·have y:=(wAB.1 h).1;obtain⟨d,i,m⟩:=e.bk b B h;refine⟨by rw[u b y];exact d,by rw[k b (by omega)];exact i,?_⟩;rcases m with g|⟨z,A,C⟩|⟨z,A,fs,C,O⟩
  ·exact .inl g
  ·exact .inr (.inl ⟨z,A,kn (by omega) C⟩)
  ·exact .inr (.inr ⟨z,A,fs,C,λw c=>kn (by omega) (O w c)⟩)
 ·obtain⟨d,i⟩:=e.st s fs h;refine⟨d,λf P=>?_⟩;obtain⟨m,Q,R,S⟩:=i f P;have own:∀w,(∃a,Kn D t a w)->∃a,Kn D' t a w:=λw ⟨a,b,x,l,_,n⟩=>⟨b,b,x,l,.refl _,n⟩
  exact⟨m,Q,λw c=>own w (R w c),λw c=>own w (S w c)⟩
end
def ext{α:Type}(hi:Nat)(f:Nat->α)(g:Nat->α):Nat->α:=λb=>if b<=hi then f b else g (b-hi)
def extN (hi:Nat)(f:Nat->List Nat)(g:Nat->List Nat):Nat->List Nat:=λb=>if b<hi then f b else g (b-hi)
theorem ik{α:Type}{hi b:Nat}{f g:Nat->α}(h:b<=hi):ext hi f g b=f b:=by unfold ext;rw[if_pos h]
theorem fG{α:Type}{hi k:Nat}{f g:Nat->α}(h:0<k):ext hi f g (hi+k)=g k:=by unfold ext;rw[if_neg (by omega),wCE]
theorem qz{hi b:Nat}{f g:Nat->List Nat}(h:b<hi):extN hi f g b=f b:=by unfold extN;rw[if_pos h]
theorem hO{hi k:Nat}{f g:Nat->List Nat}:extN hi f g (hi+k)=g k:=by unfold extN;rw[if_neg (by omega),wCE]
section
variable{D:Nat->Nat}{pr nx:Nat->List Nat}{hi:Nat}
theorem Gh.none (a:Gh D pr nx hi) {b:Nat} (d:hi<b):aheadF nx hi b=[]:=Ag λi h c=>by
 have:=(a.tree i b h c).1;omega
def dF (hi:Nat)(k:Nat):Nat:=hi
def pF (hi k:Nat):List Nat:=if k=3 then[hi+1,hi+2] else[hi]
def nF (hi k:Nat):List Nat:=if k=0 then[hi+1,hi+2] else[hi+3]
theorem Gh.fork (c:Gh D pr nx hi):Gh (ext hi D (dF hi)) (ext hi pr (pF hi)) (extN hi nx (nF hi)) (hi+3):=by
 have d:∀k,0<k->ext hi D (dF hi) (hi+k)=hi:=λk s=>fG s;have n0:extN hi nx (nF hi) hi=[hi+1,hi+2]:=hO (k:=0);have j:extN hi nx (nF hi) (hi+1)=[hi+3]:=hO (k:=1);have n:extN hi nx (nF hi) (hi+2)=[hi+3]:=hO (k:=2);have o:∀b,b<=hi->ext hi D (dF hi) b=D b:=λb h=>ik h;have old:∀i,i<hi->extN hi nx (nF hi) i=nx i:=λi h=>qz h;have q:∀b,aheadF (extN hi nx (nF hi)) (hi+3) b=aheadF nx hi b++([hi+1,hi+2].filter (·= b)).map (λ_=>hi)++([hi+3].filter (·= b)).map (λ_=>hi+1)++([hi+3].filter (·= b)).map (λ_=>hi+2):=λb=>by
  rw[hV,hV,hV,rO hi b old,n0,j,n]
 have low:∀b,b<=hi+3->b<=hi\/b=hi+1\/b=hi+2\/b=hi+3:=λb h=>by omega
 refine⟨λp b u a=>?_,λb h0 a=>?_,λb a=>?_,λb a=>?_,λp u e t g=>?_⟩
 ·have f:p<hi\/p=hi\/p=hi+1\/p=hi+2:=by omega
  rcases f with h|rfl|rfl|rfl
  ·rw[old p h]at a;obtain⟨m,v,w⟩:=c.tree p b h a;exact⟨by omega,v,by rw[o b m];exact ur c.down o w (by omega)⟩
  ·rw[n0]at a;simp at a;rcases a with rfl|rfl
   ·exact⟨by omega,by omega,by rw[d 1 (by omega)];exact .refl _⟩
   ·exact⟨by omega,by omega,by rw[d 2 (by omega)];exact .refl _⟩
  ·rw[j]at a;simp at a;subst a;exact⟨by omega,by omega,by rw[d 3 (by omega)];exact anc1 (by omega) (d 1 (by omega))⟩
  ·rw[n]at a;simp at a;subst a;exact⟨by omega,by omega,by rw[d 3 (by omega)];exact anc1 (by omega) (d 2 (by omega))⟩
 ·rcases low b a with h|rfl|rfl|rfl
  ·rw[o b h];exact c.down b h0 h
  ·rw[d 1 (by omega)];omega
  ·rw[d 2 (by omega)];omega
  ·rw[d 3 (by omega)];omega
 ·rw [q];rcases low b a with h|rfl|rfl|rfl
  ·rw[ik h,c.preds b h];have x:¬hi+1=b:=by omega
   have y:¬hi+2=b:=by omega
   have z:¬hi+3=b:=by omega
   simp[x,y,z]
  ·rw[fG (by omega),c.none (by omega)];simp[pF]
  ·rw[fG (by omega),c.none (by omega)];simp[pF]
  ·rw[fG (by omega),c.none (by omega)];simp[pF]
 ·obtain⟨l,e⟩:=c.reach hi (wAF _);have h0:Pn (extN hi nx (nF hi)) (hi+3) hi l:=e.mono (by omega) old;have m:Pn (extN hi nx (nF hi)) (hi+3) (hi+1) ((hi+1)::l):= .step h0 (by omega) (by rw[n0];simp);rcases low b a with h|rfl|rfl|rfl
  ·obtain⟨A,r⟩:=c.reach b h;exact⟨A,r.mono (by omega) old⟩
  ·exact⟨_,m⟩
  ·exact⟨_,.step h0 (by omega) (by rw[n0];simp)⟩
  ·exact⟨_,.step m (by omega) (by rw[j];simp)⟩
 ·have f:p<hi\/p=hi\/p=hi+1\/p=hi+2:=by omega
  rcases f with h|rfl|rfl|rfl
  ·rw[old p h]at e g;rw[ik (c.tree p t h g).1];exact c.crit p h e t g
  ·rw[n0]at g;simp at g;rcases g with rfl|rfl
   ·rw[fG (by omega)];rfl
   ·rw[fG (by omega)];rfl
  ·rw[j]at e;simp at e
  ·rw[n]at e;simp at e
def nX (hi k:Nat):List Nat:=if k=0 then[hi+1,hi+2] else[]
def pX (hi _k:Nat):List Nat:=[hi]
theorem Gh.exit (c:Gh D pr nx hi):Gh (ext hi D (dF hi)) (ext hi pr (pX hi)) (extN hi nx (nX hi)) (hi+2):=by
 have g:∀k,0<k->ext hi D (dF hi) (hi+k)=hi:=λk q=>fG q;have n0:extN hi nx (nX hi) hi=[hi+1,hi+2]:=hO (k:=0);have j:extN hi nx (nX hi) (hi+1)=[]:=hO (k:=1);have m:∀b,b<=hi->ext hi D (dF hi) b=D b:=λb h=>ik h;have old:∀i,i<hi->extN hi nx (nX hi) i=nx i:=λi h=>qz h;have n:∀b,aheadF (extN hi nx (nX hi)) (hi+2) b=aheadF nx hi b++([hi+1,hi+2].filter (·= b)).map (λ_=>hi):=λb=>by
  rw[hV,hV,rO hi b old,n0,j];simp
 have low:∀b,b<=hi+2->b<=hi\/b=hi+1\/b=hi+2:=λb h=>by omega
 refine⟨λp b r a=>?_,λb h0 a=>?_,λb a=>?_,λb a=>?_,λp r e t f=>?_⟩
 ·have d:p<hi\/p=hi\/p=hi+1:=by omega
  rcases d with h|rfl|rfl
  ·rw[old p h]at a;obtain⟨s,u,v⟩:=c.tree p b h a;exact⟨by omega,u,by rw[m b s];exact ur c.down m v (by omega)⟩
  ·rw[n0]at a;simp at a;rcases a with rfl|rfl
   ·exact⟨by omega,by omega,by rw[g 1 (by omega)];exact .refl _⟩
   ·exact⟨by omega,by omega,by rw[g 2 (by omega)];exact .refl _⟩
  ·rw[j]at a;cases a
 ·rcases low b a with h|rfl|rfl
  ·rw[m b h];exact c.down b h0 h
  ·rw[g 1 (by omega)];omega
  ·rw[g 2 (by omega)];omega
 ·rw [n];rcases low b a with h|rfl|rfl
  ·rw[ik h,c.preds b h];have w:¬hi+1=b:=by omega
   have x:¬hi+2=b:=by omega
   simp[w,x]
  ·rw[fG (by omega),c.none (by omega)];simp[pX]
  ·rw[fG (by omega),c.none (by omega)];simp[pX]
 ·obtain⟨l,e⟩:=c.reach hi (wAF _);have h0:Pn (extN hi nx (nX hi)) (hi+2) hi l:=e.mono (by omega) old;rcases low b a with h|rfl|rfl
  ·obtain⟨y,o⟩:=c.reach b h;exact⟨y,o.mono (by omega) old⟩
  ·exact⟨_,.step h0 (by omega) (by rw[n0];simp)⟩
  ·exact⟨_,.step h0 (by omega) (by rw[n0];simp)⟩
 ·have d:p<hi\/p=hi\/p=hi+1:=by omega
  rcases d with h|rfl|rfl
  ·rw[old p h]at e f;rw[ik (c.tree p t h f).1];exact c.crit p h e t f
  ·rw[n0]at f;simp at f;rcases f with rfl|rfl
   ·rw[fG (by omega)];rfl
   ·rw[fG (by omega)];rfl
  ·rw[j]at e;simp at e
def dL (hi k:Nat):Nat:=if k=1 then hi else hi+1
def pL (hi k:Nat):List Nat:=if k=1 then[hi,hi+2] else[hi+1]
def nL (hi k:Nat):List Nat:=if k=1 then[hi+2,hi+3] else[hi+1]
theorem Gh.loop (c:Gh D pr nx hi):Gh (ext hi D (dL hi)) (ext hi pr (pL hi)) (extN hi nx (nL hi)) (hi+3):=by
 have d:ext hi D (dL hi) (hi+1)=hi:=fG (by omega);have f:ext hi D (dL hi) (hi+2)=hi+1:=fG (by omega);have m:ext hi D (dL hi) (hi+3)=hi+1:=fG (by omega);have n0:extN hi nx (nL hi) hi=[hi+1]:=hO (k:=0);have n:extN hi nx (nL hi) (hi+1)=[hi+2,hi+3]:=hO (k:=1);have q:extN hi nx (nL hi) (hi+2)=[hi+1]:=hO (k:=2);have r:∀b,b<=hi->ext hi D (dL hi) b=D b:=λb h=>ik h;have old:∀i,i<hi->extN hi nx (nL hi) i=nx i:=λi h=>qz h;have s:∀b,aheadF (extN hi nx (nL hi)) (hi+3) b=aheadF nx hi b++([hi+1].filter (·= b)).map (λ_=>hi)++([hi+2,hi+3].filter (·= b)).map (λ_=>hi+1)++([hi+1].filter (·= b)).map (λ_=>hi+2):=λb=>by
  rw[hV,hV,hV,rO hi b old,n0,n,q]
 have low:∀b,b<=hi+3->b<=hi\/b=hi+1\/b=hi+2\/b=hi+3:=λb h=>by omega
 refine⟨λp b v a=>?_,λb h0 a=>?_,λb a=>?_,λb a=>?_,λp v e t j=>?_⟩
 ·have g:p<hi\/p=hi\/p=hi+1\/p=hi+2:=by omega
  rcases g with h|rfl|rfl|rfl
  ·rw[old p h]at a;obtain⟨o,w,x⟩:=c.tree p b h a;exact⟨by omega,w,by rw[r b o];exact ur c.down r x (by omega)⟩
  ·rw[n0]at a;simp at a;subst a;exact⟨by omega,by omega,by rw[d];exact .refl _⟩
  ·rw[n]at a;simp at a;rcases a with rfl|rfl
   ·exact⟨by omega,by omega,by rw[f];exact .refl _⟩
   ·exact⟨by omega,by omega,by rw[m];exact .refl _⟩
  ·rw[q]at a;simp at a;subst a;exact⟨by omega,by omega,by rw[d];exact(anc1 (by omega) d).trans (anc1 (by omega) f)⟩
 ·rcases low b a with h|rfl|rfl|rfl
  ·rw[r b h];exact c.down b h0 h
  ·rw[d];omega
  ·rw[f];omega
  ·rw[m];omega
 ·rw [s];rcases low b a with h|rfl|rfl|rfl
  ·rw[ik h,c.preds b h];have y:¬hi+1=b:=by omega
   have z:¬hi+2=b:=by omega
   have A:¬hi+3=b:=by omega
   simp[y,z,A]
  ·rw[fG (by omega),c.none (by omega)];simp[pL]
  ·rw[fG (by omega),c.none (by omega)];simp[pL]
  ·rw[fG (by omega),c.none (by omega)];simp[pL]
 ·obtain⟨l,e⟩:=c.reach hi (wAF _);have h0:Pn (extN hi nx (nL hi)) (hi+3) hi l:=e.mono (by omega) old;have o:Pn (extN hi nx (nL hi)) (hi+3) (hi+1) ((hi+1)::l):= .step h0 (by omega) (by rw[n0];simp);rcases low b a with h|rfl|rfl|rfl
  ·obtain⟨B,u⟩:=c.reach b h;exact⟨B,u.mono (by omega) old⟩
  ·exact⟨_,o⟩
  ·exact⟨_,.step o (by omega) (by rw[n];simp)⟩
  ·exact⟨_,.step o (by omega) (by rw[n];simp)⟩
 ·have g:p<hi\/p=hi\/p=hi+1\/p=hi+2:=by omega
  rcases g with h|rfl|rfl|rfl
  ·rw[old p h]at e j;rw[ik (c.tree p t h j).1];exact c.crit p h e t j
  ·rw[n0]at e;simp at e
  ·rw[n]at j;simp at j;rcases j with rfl|rfl
   ·rw[fG (by omega)];rfl
   ·rw[fG (by omega)];rfl
  ·rw[q]at e;simp at e
end
open Go.Proofs.YtpnddokajmjpbaaDoor.Dm
def noE:Nat->Prop:=λ_=>False
def Ok (t:Dt):Prop:=∃D pr nx,Gh D pr nx t.blocks.length/\Mid D pr nx noE t
theorem Ok.fork {t:Dt} (ops:List Int) (h:Ok t):Ok (fork ops t):=by
 obtain⟨D,pr,nx,d,e⟩:=h;generalize a:t.blocks.length=hi at*;have c:=e.agree (D':=ext hi D (dF hi)) (pr':=ext hi pr (pF hi)) (nx':=extN hi nx (nF hi)) (by rw[a];exact d) (λb h=>ik (by omega)) (λb h=>ik (by omega)) (λb h=>qz (by omega))
 obtain ⟨f,g⟩:=Jm c ops (by rw[a];exact hO (k:=0)) (by rw[a];exact hO (k:=1)) (by rw[a];exact hO (k:=2)) (by rw[a];exact fG (by omega)) (by rw[a];exact fG (by omega)) (by rw[a];exact fG (by omega))
  (by rw[a];exact fG (by omega)) (by rw[a];exact fG (by omega)) (by rw[a];exact fG (by omega))
 exact⟨_,_,_,by rw[g,a];exact d.fork,f⟩
theorem Ok.exit {t:Dt} (ops:List Int) (h:Ok t):Ok (qJ ops t):=by
 obtain⟨D,pr,nx,d,e⟩:=h;generalize a:t.blocks.length=hi at*;have c:=e.agree (D':=ext hi D (dF hi)) (pr':=ext hi pr (pX hi)) (nx':=extN hi nx (nX hi)) (by rw[a];exact d) (λb h=>ik (by omega)) (λb h=>ik (by omega)) (λb h=>qz (by omega))
 obtain ⟨f,g⟩:=IL c ops (by rw[a];exact hO (k:=0)) (by rw[a];exact hO (k:=1)) (by rw[a];exact fG (by omega)) (by rw[a];exact fG (by omega))
  (by rw[a];exact fG (by omega)) (by rw[a];exact fG (by omega))
 exact⟨_,_,_,by rw[g,a];exact d.exit,f⟩
theorem Ok.loop {t:Dt} (ops:List Int) (h:Ok t):Ok (loop ops t):=by
 obtain⟨D,pr,nx,d,e⟩:=h;generalize a:t.blocks.length=hi at*;have c:=e.agree (D':=ext hi D (dL hi)) (pr':=ext hi pr (pL hi)) (nx':=extN hi nx (nL hi)) (by rw[a];exact d) (λb h=>ik (by omega)) (λb h=>ik (by omega)) (λb h=>qz (by omega))
 obtain ⟨f,g⟩:=IS c ops (by rw[a];exact hO (k:=0)) (by rw[a];exact hO (k:=1)) (by rw[a];exact hO (k:=2)) (by rw[a];exact fG (by omega)) (by rw[a];exact fG (by omega)) (by rw[a];exact fG (by omega))
  (by rw[a];exact fG (by omega)) (by rw[a];exact fG (by omega)) (by rw[a];exact fG (by omega))
 exact⟨_,_,_,by rw[g,a];exact d.loop,f⟩
theorem Ok.shapes (ops:List Int):∀(l:List Int) {t:Dt},Ok t->Ok (shapes ops l t)
 |[],_,h=>h
 | k ::l,t,h=>by
   unfold Un.shapes;split
   ·refine Ok.shapes ops l ?_
    unfold shapeM;split
    ·exact h.fork ops
    split
    ·exact h.loop ops
    ·exact h.exit ops
   ·exact h
def t0 (s:Ds):Dt:=⟨s,[],[]⟩
structure Ps (s:Ds) (i:Nat):Prop where
 vals:s.vals.length=i
 all:∀(v:Nat) (x:Vl),s.vals[v]? =some x->x=vl 1 0 0 (v:Nat) [] 0
 cur:s.cur=List.range i
 known:s.known=List.range i
 states:s.states=[]
theorem Cn:∀(n i:Nat) (s:Ds),Ps s i->Ps (params n i s) (i+n)
 |0,i,s,h=>h
 | n + 1,i,s,h=>by
   have:=Cn n (i+1) (putK s (vl 1 0 0 (i:Nat) [] 0)) ⟨by simp[putK,h.vals],λv x c=>?_,by simp only[putK];rw[h.cur,h.vals,wBg],by simp only[putK];rw[h.known,h.vals,wBg],h.states⟩
   ·rw[show i+(n+1)=i+1+n by omega]
    exact this
   ·have a:(s.vals++[vl 1 0 0 (i:Nat) [] 0])[v]? =some x:=c
    by_cases hlt:v<s.vals.length
    ·rw[wAd hlt]at a
     exact h.all v x a
    ·have d:=(wAB.1 a).1
     simp at d;have b:v=s.vals.length:=by omega
     subst b;rw[wBQ]at a;rw[h.vals];exact(Option.some.inj a).symm
theorem gh0:Gh (λ_=>0) (λ_=>[]) (λ_=>[]) 0:=
 ⟨λp b c=>by omega,λb h0 a=>by omega,λb a=>rfl,λb a=>by
  obtain rfl:b=0:=by omega
  exact⟨[0],.nil⟩,λp c=>by omega⟩
theorem HY {s:Ds} {n:Nat} (h:Ps s n) (y:n<=5):Mid (λ_=>0) (λ_=>[]) (λ_=>[]) noE (t0 (putK s (vl 2 0 0 5 [] 0))):=by
 have d:(t0 (putK s (vl 2 0 0 5 [] 0))).s.vals=s.vals++[vl 2 0 0 5 [] 0]:=rfl;have g:(t0 (putK s (vl 2 0 0 5 [] 0))).s.cur=List.range (n+1):=by
  show s.cur++[s.vals.length]=_;rw[h.cur,h.vals,wBg]
 have hlen:(t0 (putK s (vl 2 0 0 5 [] 0))).s.vals.length=n+1:=by rw[d];simp[h.vals]
 have a:∀(v:Nat) (x:Vl),(t0 (putK s (vl 2 0 0 5 [] 0))).s.vals[v]? =some x->(v<n/\x=vl 1 0 0 (v:Nat) [] 0)\/(v=n/\x=vl 2 0 0 5 [] 0):=λv x c=>by
  rw[d]at c;by_cases i:v<s.vals.length
  ·rw[wAd i]at c;exact .inl ⟨by rw[<-h.vals];exact i,h.all v x c⟩
  ·have t:=(wAB.1 c).1;simp at t;have p:v=s.vals.length:=by omega
   subst p;rw[wBQ]at c;exact .inr ⟨h.vals,(Option.some.inj c).symm⟩
 have f:∀v,v<n+1->Ow (t0 (putK s (vl 2 0 0 5 [] 0))) v 0:=λv c=> .inr ⟨rfl,by rw[g];exact wBJ.2 c⟩;have q:∀v,v<n+1->Kn (λ_=>0) (t0 (putK s (vl 2 0 0 5 [] 0))) 0 v:=λv c=>by
  have o:∃x,(t0 (putK s (vl 2 0 0 5 [] 0))).s.vals[v]? =some x:=⟨_,wAA (by rw[hlen];exact c)⟩
  obtain⟨x,o⟩:=o;refine⟨0,x,f v c,.refl _,o,?_⟩;rcases a v x o with⟨_,rfl⟩|⟨_,rfl⟩ <;> rfl
 refine⟨?_,λv x c=>?_,λv x c r=>?_,λb B u=>(by cases u),λst fs hs=>?_,rfl,?_,λw j=>?_⟩
 ·rw[hlen,g];rfl
 ·rcases a v x c with⟨i,rfl⟩|⟨rfl,rfl⟩
  ·refine⟨by simp[vl],λe=>by simp[vl]at e,λ_=>⟨f v (by omega),rfl,by omega⟩,0,f v (by omega),λ_ w j=>by simp[uses,vl,two,oneP]at j,λe=>by simp[vl,leaves]at e,λ_ w _ j=>?_⟩;have k:w<(t0 (putK s (vl 2 0 0 5 [] 0))).s.vals.length:=by rw[hlen];omega
   refine⟨_,wAA k,?_⟩;rcases a w _ (wAA k)with⟨_,e⟩|⟨e,_⟩
   ·rw[e];rfl
   ·omega
  ·exact⟨by simp[vl],λe=>by simp[vl]at e,λe=>by simp[vl]at e,0,f _ (by omega),λ_ w j=>by simp[uses,vl,two,oneP]at j,λe=>by simp[vl,leaves]at e,λe=>by simp[vl,isHead]at e⟩
 ·rcases a v x c with⟨_,rfl⟩|⟨_,rfl⟩
  ·simp[vl]at r
  ·simp[vl]at r
 ·have l:s.states[st]? =some fs:=hs;rw[h.states]at l;cases l
 ·show s.known++[s.vals.length]≠[];simp
 ·have m:w∈s.known++[s.vals.length]:=j;rw[h.known,h.vals,<-wBg]at m;exact q w (wBJ.1 m)
theorem Gv (ops a:List Int) (n:Int):Ok (shapes ops (a.take 6) ⟨row ops (putK (params (pickN n 5) 0 ⟨[],[],[],[],0⟩) (vl 2 0 0 5 [] 0)),[],[]⟩):=by
 have h0:Ps ⟨[],[],[],[],0⟩ 0:=⟨rfl,λv x h=>(by cases h),rfl,rfl,rfl⟩
 have b:=Cn (pickN n 5) 0 _ h0;rw[wAY]at b;have c:=HY b (Nat.le_of_lt (zz n (by omega)));obtain⟨d,_⟩:=c.row ops;exact Ok.shapes ops _ ⟨_,_,_,gh0,d⟩
open Go.Proofs.YtpnddokajmjpbaaDoor.Dm
theorem Fs:∀(l:List Bk),(l.flatMap λB=>B.vals).Pairwise (·< ·)->∀(b g k k':Nat) (B a:Bk) (v f:Nat),l[b]? =some B->l[g]? =some a->B.vals[k]? =some v->a.vals[k']? =some f->(b<g->v<f)/\(b=g->k<k'->v<f)
 |[],_,b,_,_,_,_,_,_,_,h,_,_,_=>by simp at h
 | C ::l,hp,b,g,k,k',B,a,v,f,c,d,i,j=>by
   rw[wBr,List.pairwise_append]at hp;obtain⟨p,q,r⟩:=hp
   match b,g,c,d with
   | 0,0,c,d=>
     obtain rfl:C=B:=by simpa using c
     obtain rfl:C=a:=by simpa using d
     refine⟨λh=>by omega,λ_ s=>?_⟩;obtain⟨t,u⟩:=wAB.1 i;obtain⟨w,x⟩:=wAB.1 j;have:=wA3.1 p k k' t w s;rw[u,x]at this
     exact this
   | 0,n+1,c,d=>
     obtain rfl:C=B:=by simpa using c
     have e:l[n]? =some a:=by simpa using d
     refine⟨λ_=>r v (wAI i) f (wAy.2 ⟨a,wAI e,wAI j⟩),λh=>by omega⟩
   |n+1,0,c,d=>exact⟨λh=>by omega,λh=>by omega⟩
   | n+1,m+1,c,d=>
     have o:l[n]? =some B:=by simpa using c
     have e:l[m]? =some a:=by simpa using d
     have:=Fs l q n m k k' B a v f o e i j;exact⟨λh=>this.1 (by omega),λh=>this.2 (by omega)⟩
section
variable{u:U}(hc:u.blocks.flatMap (λB=>B.vals)=List.range u.vals.length)
include hc
theorem Cf {v a b c k k':Nat} (h:At u v b k) (h':At u a c k'):(b<c->v<a)/\(b=c->k<k'->v<a):=by
 obtain⟨B,d,e⟩:=h;obtain⟨f,g,i⟩:=h';exact Fs u.blocks (by rw[hc];exact List.pairwise_lt_range) b c k k' B f v a d g e i
theorem Fi {v b a k k':Nat} (h:At u v b k) (h':At u v a k'):b=a/\k=k':=by
 have d:=(Cf hc h h').1;have e:=(Cf hc h' h).1;have c:b=a:=by
  rcases wBq b a with h|h|h
  ·exact absurd (d h) (wBW _)
  ·exact h
  ·exact absurd (e h) (wBW _)
 have f:=(Cf hc h h').2 c;have g:=(Cf hc h' h).2 c.symm;refine⟨c,?_⟩;rcases wBq k k' with h|h|h
 ·exact absurd (f h) (wBW _)
 ·exact h
 ·exact absurd (g h) (wBW _)
theorem Ho {v a b k k':Nat} (h:At u v b k) (h':At u a b k') (e:v<a):k<k':=by
 rcases wBq k k' with g|g|g
 ·exact g
 ·subst g;obtain⟨B,f,i⟩:=h;obtain⟨j,c,d⟩:=h';rw[f]at c;obtain rfl:=Option.some.inj c;rw[i]at d;obtain rfl:=Option.some.inj d;omega
 ·have:=(Cf hc h' h).2 rfl g;omega
theorem Hy {v:Nat} (a:v<u.vals.length):∃b k,At u v b k:=by
 have:v∈u.blocks.flatMap (λB=>B.vals):=by rw[hc];exact wBJ.2 a
 obtain⟨B,c,d⟩:=wAy.1 this;obtain⟨b,e⟩:=wAD.1 c;obtain⟨k,f⟩:=wAD.1 d;exact⟨b,k,B,e,f⟩
theorem Kt {v b k:Nat} (h:At u v b k):v<u.vals.length:=by
 obtain⟨B,a,c⟩:=h;have:v∈u.blocks.flatMap (λB=>B.vals):=wAy.2 ⟨B,wAI a,wAI c⟩;rw[hc]at this;exact wBJ.1 this
end
theorem wQ (ops:List Int):∀(i:Nat) (s:Ds) (l:List Nat),∃p,(m0 ops i s l).2 = {s with pos:=p}
 |0,s,_=>⟨s.pos,rfl⟩
 |i+1,s,l=>wQ ops i (one_ ops s).2 (l++[(one_ ops s).1])
theorem uQ (ops:List Int) (s:Ds):(stateM ops s).2.vals=s.vals/\(stateM ops s).2.states.length=s.states.length+1/\(stateM ops s).2.cur=s.cur:=by
 obtain⟨p,a⟩:=wQ ops (num ops s 4).1 (num ops s 4).2 [];unfold stateM;simp only;rw[a];exact⟨rfl,by simp,rfl⟩
structure Sz (s a:Ds):Prop where
 vals:s.vals.length<=a.vals.length
 states:a.states.length+s.vals.length<=s.states.length+a.vals.length
theorem Sz.refl (s:Ds):Sz s s:=⟨wAF _,wAF _⟩
theorem Sz.trans {s f e:Ds} (g:Sz s f) (h:Sz f e):Sz s e:=by
 have a:=g.vals;have b:=h.vals;have c:=g.states;have d:=h.states;exact⟨by omega,by omega⟩
theorem IB (ops:List Int) (s:Ds) (k a b:Nat):(kindM ops s k a b).vals.length=s.vals.length+1/\(kindM ops s k a b).states.length<=s.states.length+1:=by
 obtain⟨c,d,_⟩:=uQ ops s;unfold kindM;split
 ·simp[putK]
 split
 ·simp[putK,num]
 split
 ·simp[putK,num]
 split
 ·simp[putK]
 split
 ·simp[put,num]
 split
 ·simp[put,one_]
 split
 ·simp[put,c,d]
 split
 ·simp[put,c,d]
 ·simp[putK,num]
theorem FH (ops:List Int):∀(i:Nat) (s:Ds),Sz s (rows ops i s)/\(rows ops i s).vals.length<=max s.vals.length 200
 |0,s=>⟨.refl s,by show s.vals.length<=_;omega⟩
 | i + 1,s=>by
   unfold rows;split
   ·rename_i b
    obtain⟨c,d⟩:=FH ops i (rowStep ops s);have a:=IB ops (num ops (one_ ops (one_ ops s).2).2 20).2 (num ops (one_ ops (one_ ops s).2).2 20).1 (one_ ops s).1 (one_ ops (one_ ops s).2).1;have e:(rowStep ops s).vals.length=s.vals.length+1:=a.1;have f:(rowStep ops s).states.length<=s.states.length+1:=a.2;exact⟨Sz.trans ⟨by omega,by omega⟩ c,by omega⟩
   ·exact⟨.refl s,by omega⟩
theorem xj (ops:List Int) (s:Ds):Sz s (row ops s)/\(row ops s).vals.length<=max s.vals.length 200:=by
 obtain⟨a,b⟩:=FH ops (1+(num ops s 6).1) (num ops s 6).2;exact⟨⟨a.vals,a.states⟩,b⟩
structure Big (t:Dt) (m:Nat):Prop where
 vals:t.s.vals.length<=210
 states:t.s.states.length<=t.s.vals.length+t.blocks.length
 blocks:t.blocks.length<=m
theorem HV (ops:List Int) {t:Dt} {m:Nat} (h:Big t m) (w:t.s.vals.length<160):Big (fork ops t) (m+3):=by
 obtain⟨x,y,z⟩:=h;unfold fork;simp only;have a1:=xj ops (end_ {t with s:=(one_ ops t.s).2} 2 (one_ ops t.s).1 [t.blocks.length+1,t.blocks.length+2] 0 [t.blocks.length]).s;generalize o:row ops (end_ {t with s:=(one_ ops t.s).2} 2 (one_ ops t.s).1 [t.blocks.length+1,t.blocks.length+2] 0 [t.blocks.length]).s=b at*;have p:t.s.vals.length<=b.vals.length:=a1.1.vals;have q:b.states.length+t.s.vals.length<=t.s.states.length+b.vals.length:=a1.1.states;have r:b.vals.length<=max t.s.vals.length 200:=a1.2;generalize d:end_ {s:=cut t.s.known.length b,blocks:=(end_ {t with s:=(one_ ops t.s).2} 2 (one_ ops t.s).1 [t.blocks.length+1,t.blocks.length+2] 0 [t.blocks.length]).blocks,preds:=(end_ {t with s:=(one_ ops t.s).2} 2 (one_ ops t.s).1 [t.blocks.length+1,t.blocks.length+2] 0 [t.blocks.length]).preds} 1 0 [t.blocks.length+3] 0 [t.blocks.length]=a at*;have b2:a.blocks.length=t.blocks.length+2:=by rw[<-d];simp[end_]
 have u:a.s.vals=b.vals:=by rw[<-d];rfl
 have v:a.s.states=b.states:=by rw[<-d];rfl
 have a2:=xj ops a.s;generalize row ops a.s=c at*;have g:=a2.1.vals;have e:=a2.1.states;have i:=a2.2;rw[u]at g e i;rw[v]at e;have a3:=xj ops (putK (end_ {s:=cut t.s.known.length c,blocks:=a.blocks,preds:=a.preds} 1 0 [t.blocks.length+3] 0 [t.blocks.length+1,t.blocks.length+2]).s (vl 21 0 0 0 [b.known.getLastD 0,c.known.getLastD 0] 0));have j:(putK (end_ {s:=cut t.s.known.length c,blocks:=a.blocks,preds:=a.preds} 1 0 [t.blocks.length+3] 0 [t.blocks.length+1,t.blocks.length+2]).s (vl 21 0 0 0 [b.known.getLastD 0,c.known.getLastD 0] 0)).vals.length=c.vals.length+1:=by simp[putK,end_,cut]
 have k:(putK (end_ {s:=cut t.s.known.length c,blocks:=a.blocks,preds:=a.preds} 1 0 [t.blocks.length+3] 0 [t.blocks.length+1,t.blocks.length+2]).s (vl 21 0 0 0 [b.known.getLastD 0,c.known.getLastD 0] 0)).states.length=c.states.length:=by simp[putK,end_,cut]
 have l:=a3.1.vals;have f:=a3.1.states;have n:=a3.2;rw[j]at l f n;rw[k]at f;refine⟨?_,?_,?_⟩
 ·show(row ops _).vals.length<=210;omega
 ·show(row ops _).states.length<=(row ops _).vals.length+(a.blocks++[_]).length;rw[wAM,b2];omega
 ·show(a.blocks++[_]).length<=m+3;rw[wAM,b2];simp;omega
theorem HP (ops:List Int) {t:Dt} {m:Nat} (h:Big t m) (r:t.s.vals.length<160):Big (qJ ops t) (m+3):=by
 obtain⟨u,v,w⟩:=h;unfold qJ;simp only;have a1:=xj ops (end_ {t with s:=(one_ ops t.s).2} 2 (one_ ops t.s).1 [t.blocks.length+1,t.blocks.length+2] 0 [t.blocks.length]).s;generalize i:row ops (end_ {t with s:=(one_ ops t.s).2} 2 (one_ ops t.s).1 [t.blocks.length+1,t.blocks.length+2] 0 [t.blocks.length]).s=a at*;have j:t.s.vals.length<=a.vals.length:=a1.1.vals;have k:a.states.length+t.s.vals.length<=t.s.states.length+a.vals.length:=a1.1.states;have l:a.vals.length<=max t.s.vals.length 200:=a1.2;obtain⟨n,o,_⟩:=uQ ops a;generalize b:end_ {s:=cut t.s.known.length (stateM ops a).2,blocks:=(end_ {t with s:=(one_ ops t.s).2} 2 (one_ ops t.s).1 [t.blocks.length+1,t.blocks.length+2] 0 [t.blocks.length]).blocks,preds:=(end_ {t with s:=(one_ ops t.s).2} 2 (one_ ops t.s).1 [t.blocks.length+1,t.blocks.length+2] 0 [t.blocks.length]).preds} 3 0 [] (stateM ops a).1 [t.blocks.length]=c at*;have b2:c.blocks.length=t.blocks.length+2:=by rw[<-b];simp[end_]
 have p:c.s.vals=a.vals:=by rw[<-b];exact n
 have q:c.s.states.length=a.states.length+1:=by rw[<-b];exact o
 have a2:=xj ops c.s;generalize row ops c.s=e at*;have f:=a2.1.vals;have d:=a2.1.states;have g:=a2.2;rw[p]at f d g;rw[q]at d;refine⟨?_,?_,?_⟩
 ·show e.vals.length<=210;omega
 ·show e.states.length<=e.vals.length+c.blocks.length;rw[b2];omega
 ·show c.blocks.length<=m+3;rw[b2];omega
theorem vQ (s:Ds)(v:Nat)(args:List Nat):(setArgs s v args).vals.length=s.vals.length/\(setArgs s v args).states=s.states:=⟨by simp[setArgs,List.length_modify],rfl⟩
theorem Hq (ops:List Int) {t:Dt} {m:Nat} (h:Big t m) (G:t.s.vals.length<160):Big (loop ops t) (m+3):=by
 obtain⟨H,I,J⟩:=h;unfold loop;simp only;generalize e:end_ {t with s:=(one_ ops t.s).2} 1 0 [t.blocks.length+1] 0 [t.blocks.length,t.blocks.length+2]=b at*;have b1:b.blocks.length=t.blocks.length+1:=by rw[<-e];simp[end_]
 have x:b.s.vals=t.s.vals:=by rw[<-e];rfl
 have y:b.s.states=t.s.states:=by rw[<-e];rfl
 generalize i:({put (one_ ops (put b.s (vl 21 0 0 0 [(one_ ops t.s).1,0] 0))).2 (vl 21 0 0 0 [(one_ ops (put b.s (vl 21 0 0 0 [(one_ ops t.s).1,0] 0))).1,b.s.vals.length] 0)with known:=(put (one_ ops (put b.s (vl 21 0 0 0 [(one_ ops t.s).1,0] 0))).2 (vl 21 0 0 0 [(one_ ops (put b.s (vl 21 0 0 0 [(one_ ops t.s).1,0] 0))).1,b.s.vals.length] 0)).known++[b.s.vals.length,b.s.vals.length+1]}:Ds)=f at*;have z:f.vals.length=t.s.vals.length+2:=by rw[<-i,<-x];simp[put,one_]
 have n:f.states=t.s.states:=by rw[<-i,<-y];rfl
 obtain⟨A,B,_⟩:=uQ ops f;generalize j:putK (put (put (stateM ops f).2 (vl 23 0 0 0 [] (stateM ops f).1)) (vl 2 0 0 1 [] 0)) (vl 4 b.s.vals.length (put (stateM ops f).2 (vl 23 0 0 0 [] (stateM ops f).1)).vals.length 0 [] 0)=d at*;have K:d.vals.length=t.s.vals.length+5:=by rw[<-j];simp[putK,put,A,z]
 have C:d.states.length=t.s.states.length+1:=by rw[<-j,<-n,<-B];rfl
 generalize g:end_ {s:=d,blocks:=b.blocks,preds:=b.preds} 2 b.s.vals.length [t.blocks.length+2,t.blocks.length+3] 0 [t.blocks.length+1]=c at*;have b2:c.blocks.length=t.blocks.length+2:=by rw[<-g];simp[end_,b1]
 have D:c.s.vals=d.vals:=by rw[<-g];rfl
 have o:c.s.states=d.states:=by rw[<-g];rfl
 have a1:=xj ops c.s;generalize row ops c.s=w at*;have p:=a1.1.vals;have k:=a1.1.states;have q:=a1.2;rw[D]at p k q;rw[o]at k;have r:∀a:Ds,a.vals.length=w.vals.length->a.states=w.states->Big {s:=row ops (end_ {s:=cut d.known.length a,blocks:=c.blocks,preds:=c.preds} 1 0 [t.blocks.length+1] 0 [t.blocks.length+1]).s,blocks:=(end_ {s:=cut d.known.length a,blocks:=c.blocks,preds:=c.preds} 1 0 [t.blocks.length+1] 0 [t.blocks.length+1]).blocks,preds:=(end_ {s:=cut d.known.length a,blocks:=c.blocks,preds:=c.preds} 1 0 [t.blocks.length+1] 0 [t.blocks.length+1]).preds} (m+3):=by
  intro a E F;have a2:=xj ops (end_ {s:=cut d.known.length a,blocks:=c.blocks,preds:=c.preds} 1 0 [t.blocks.length+1] 0 [t.blocks.length+1]).s;have u:a.vals.length<=_:=a2.1.vals;have l:_+a.vals.length<=a.states.length+_:=a2.1.states;have v:_<=max a.vals.length 200:=a2.2;rw[E]at u l v;rw[F]at l;refine⟨?_,?_,?_⟩
  ·show(row ops _).vals.length<=210;omega
  ·show(row ops _).states.length<=(row ops _).vals.length+(c.blocks++[_]).length;rw[wAM,b2];omega
  ·show(c.blocks++[_]).length<=m+3;rw[wAM,b2];simp;omega
 refine r _ ?_ ?_
 ·rw[(vQ _ _ _).1];split
  ·rw[(vQ _ _ _).1];exact(vQ _ _ _).1
  ·exact(vQ _ _ _).1
 ·rw[(vQ _ _ _).2];split
  ·rfl
  ·rfl
theorem Bj (ops:List Int):∀(l:List Int) {t:Dt} {m:Nat},Big t m->Big (shapes ops l t) (m+3*l.length)
 |[],t,m,h=>h
 | k ::l,t,m,h=>by
   unfold shapes;split
   ·rename_i a
    have b:Big (shapeM ops (pickN k 3) t) (m+3):=by
      unfold shapeM;split
      ·exact HV ops h a
      split
      ·exact Hq ops h a
      ·exact HP ops h a
    have:=Bj ops l b;rw[show m+3*(k::l).length=m+3+3*l.length by rw[wAX];omega];exact this
   ·exact⟨h.vals,h.states,by have:=h.blocks;rw[wAX];omega⟩
open Go.Proofs.YtpnddokajmjpbaaDoor.Dm
theorem Jh {t:Dt} (ops:List Int) (h:Ok t):∃D pr nx,Gh D pr nx t.blocks.length/\nx t.blocks.length=[]/\Mid D pr nx noE (end_ (on t (stateM ops t.s).2) 3 0 [] (stateM ops t.s).1 []):=by
 obtain ⟨D,pr,nx,c,y⟩:=h;generalize v:t.blocks.length=hi at*;have f:∀b,b<=hi->ext hi D (dF hi) b=D b:=λb h=>ik h;have old:∀i,i<hi->extN hi nx (λ_=>[]) i=nx i:=λi h=>qz h;have j:Gh (ext hi D (dF hi)) (ext hi pr λ_=>[]) (extN hi nx λ_=>[]) hi:=by
  refine⟨λp b d a=>?_,λb h0 a=>?_,λb a=>?_,λb a=>?_,λp d e u m=>?_⟩
  ·rw[old p d]at a;obtain⟨x,z,A⟩:=c.tree p b d a;exact⟨x,z,by rw[f b x];exact ur c.down f A (by omega)⟩
  ·rw[f b a];exact c.down b h0 a
  ·rw[ik a,c.preds b a,rO hi b old]
  ·obtain⟨l,e⟩:=c.reach b a;exact⟨l,e.mono (wAF _) old⟩
  ·rw[old p d]at e m;rw[ik (c.tree p u d m).1];exact c.crit p d e u m
 have o:=y.agree (D':=ext hi D (dF hi)) (pr':=ext hi pr λ_=>[]) (nx':=extN hi nx λ_=>[]) (by rw[v];exact c) (λb h=>ik (by omega)) (λb h=>ik (by omega)) (λb h=>qz (by omega));have n0:extN hi nx (λ_=>[]) hi=[]:=hO (k:=0) (g:=λ_=>[]);obtain⟨q,G,B,_,_,fs,C,E⟩:=o.state ops;have b1:(on t (stateM ops t.s).2).blocks.length=hi:=v
 obtain ⟨F,_⟩:=q.end_ (fin:=3) (cond:=0) (n:=[]) (state:=(stateM ops t.s).1) (preds:=[]) (by rw[b1,n0]) (by rw[b1];exact(fG (g:=λ_=>([]:List Nat)) (by omega)).symm)
  (.inr (.inr ⟨rfl,rfl,fs,C,λw r=>q.kn w (by show w∈(stateM ops t.s).2.known;rw[B];exact E w r)⟩))
  (λw r=>(q.kn w r).up (by rw[b1];exact anc1 (by omega) (fG (by omega))))
 exact⟨_,_,_,j,n0,F⟩
theorem Jk {D:Nat->Nat} {pr nx:Nat->List Nat} {t:Dt} {hi:Nat} (M:Gh D pr nx hi) (hn:nx hi=[]) (n:Mid D pr nx noE t) (hb:t.blocks.length=hi+1) (I:t.s.cur=[]) (Q:t.s.vals.length<=3000) (hs:t.s.states.length<=1000) (aa:t.blocks.length<=300) (f p:Int) :
  Good ⟨f,p,t.s.vals,t.blocks,t.s.states⟩:=by
 have hc:t.blocks.flatMap (λB=>B.vals)=List.range t.s.vals.length:=by
  have:=n.cat
  rw[I,wAa]at this;exact this
 have own:∀{v b},Ow t v b->∃k,At ⟨f,p,t.s.vals,t.blocks,t.s.states⟩ v b k:=λh=>by
  rcases h with⟨B,m,d⟩|⟨_,d⟩
  ·obtain⟨k,X⟩:=wAD.1 d;exact⟨k,B,m,X⟩
  ·rw[I]at d;cases d
 have an:∀{v b},Ow t v b->b<t.blocks.length:=λh=>by
  rcases h with⟨B,m,_⟩|⟨_,d⟩
  ·exact(wAB.1 m).1
  ·rw[I]at d;cases d
 have o:∀{v b k},At ⟨f,p,t.s.vals,t.blocks,t.s.states⟩ v b k->Ow t v b:=λ⟨B,m,d⟩=> .inl ⟨B,m,wAI d⟩;have Y:∀b,b<t.blocks.length->next ⟨f,p,t.s.vals,t.blocks,t.s.states⟩ b=nx b:=λb h=>by
  have e:=wAA h;unfold next
  simp only[e];exact(n.bk b _ e).1
 have ab:∀b,¬b<t.blocks.length->next ⟨f,p,t.s.vals,t.blocks,t.s.states⟩ b=[]:=λb h=>by
  unfold next
  simp only[wAh (Nat.le_of_not_lt h)]
 have edge:∀q b,b∈next ⟨f,p,t.s.vals,t.blocks,t.s.states⟩ q->q<hi/\b∈nx q:=λq b h=>by
  by_cases hq:q<t.blocks.length
  ·rw[Y q hq]at h;refine⟨?_,h⟩;by_cases e:q=hi
   ·rw[e,hn]at h;cases h
   ·omega
  ·rw[ab q hq]at h;cases h
 have N:∀{x b},Anc D x b->Domi (next ⟨f,p,t.s.vals,t.blocks,t.s.states⟩) x b:=λh l R=>zo (λq b hb _=>(M.tree q b (edge q b hb).1 (edge q b hb).2).2.2) R h;have give:∀{a w},Kn D t a w->Gives ⟨f,p,t.s.vals,t.blocks,t.s.states⟩ w:=λ⟨_,x,_,_,G,J⟩=>⟨x,G,J⟩
 have r:∀{a w},Kn D t a w->SeesEnd ⟨f,p,t.s.vals,t.blocks,t.s.states⟩ w a:=λ⟨b,x,m,d,_⟩=>let⟨k,X⟩:=own m;⟨b,k,X,N d⟩
 have O:∀{v w b k},At ⟨f,p,t.s.vals,t.blocks,t.s.states⟩ v b k->w<v->Kn D t b w->Sees ⟨f,p,t.s.vals,t.blocks,t.s.states⟩ w b k:=λ{v w b k} Q A ⟨c,x,m,d,_⟩=>by
  obtain⟨j,W⟩:=own m;by_cases e:c=b
  ·subst e;exact⟨c,j,W,.inl ⟨rfl,Ho hc W Q A⟩⟩
  ·exact⟨c,j,W,.inr ⟨e,N d⟩⟩
 have uniq:∀{v b b'},Ow t v b->Ow t v b'->b=b':=λh h'=>by
  obtain⟨k,X⟩:=own h;obtain⟨k',ac⟩:=own h';exact(Fi hc X ac).1
 have S:∀b,ahead ⟨f,p,t.s.vals,t.blocks,t.s.states⟩ b=aheadF nx hi b:=λb=>by
  have ae:∀(l:List Bk) (i:Nat),(∀k B,l[k]? =some B->B.next=nx (i+k))->aheadTo l i b=((List.range' i l.length).flatMap λq=>((nx q).filter (·= b)).map λ_=>q):=by
   intro l
   induction l with
   |nil=>intro i _;rfl
   | cons B l ih=>
     intro i h;have h0:=h 0 B rfl;rw[wB0]at h0;rw[wAX,List.range'_succ,wBr];unfold aheadTo;rw[h0,ih (i+1) λk B hB=>by rw[show i+1+k=i+(k+1) by omega];exact h (k+1) B hB]
  unfold ahead;rw[ae t.blocks 0 λk B hB=>by rw[wAY];exact(n.bk k B hB).1];have e:List.range' 0 t.blocks.length=List.range t.blocks.length:=(List.range_eq_range').symm;rw[e,hb];have:=hV nx hi b;unfold aheadF at this⊢;rw[this,hn];simp
 refine{nv:=Q,nb0:=by show 1<=t.blocks.length;omega,nb:=aa,ns:=hs,st:=?_,at1:=λv h=>Hy hc h,at2:=λv b k b' k' h h'=>Fi hc h h',atlt:=λv b k h=>Kt hc h,heads:=?_,par:=?_,phi:=?_,op:=λv x h=>(n.vok v x h).op,use:=?_,leave:=?_,putAt:=λv x h=>(n.vok v x h).putAt,param:=?_,fin:=?_,nx:=?_,preds:=?_,preds0:=?_,crit:=?_,reach:=?_,seesV:=?_,seesP:=?_,seesS:=?_,seesC:=?_,seesO:=?_}
 ·intro s fs h;obtain⟨C,F⟩:=n.st s fs h;refine⟨by omega,by omega,λf hf=>?_⟩;obtain⟨E,K,T,g6⟩:=F f hf;exact⟨by omega,by omega,λv Q=>let⟨a,ha⟩:=T v Q;give ha,λv Q=>let⟨a,ha⟩:=g6 v Q;give ha⟩
 ·intro v w b k x y m d G J h5;obtain⟨c,C,_,_,K⟩:=(n.vok v x G).own;obtain rfl:=uniq C (o m);have A:w<v:=(Cf hc d m).2 rfl (wAk _);obtain⟨z,T,g6⟩:=K h5 w (o d) A;have U:t.s.vals[w]? =some y:=J;rw[U]at T;obtain rfl:=Option.some.inj T;exact g6
 ·intro v b k x m d G;exact uniq (o m) ((n.vok v x d).par G).1
 ·intro v b k x B m d G J;obtain⟨c,C,F,E⟩:=n.ph v x d G;obtain rfl:=uniq C (o m);exact⟨F,by rw[(n.bk c B J).2.1];exact(E id).1⟩
 ·intro v x h w H;by_cases V:x.op=21
  ·obtain⟨c,C,F,E⟩:=n.ph v x h V;have ag:w∈x.args:=by unfold uses at H;rw[if_pos V]at H;exact H
   obtain⟨j,W⟩:=wAD.1 ag;have A:=(wAB.1 W).1;rw[(E id).1]at A;exact give ((E id).2 j w _ W (wAA A))
  ·obtain⟨c,C,F,_⟩:=(n.vok v x h).own;exact give (F V w H).2
 ·intro v x h R;obtain⟨c,C,_,E,_⟩:=(n.vok v x h).own;obtain⟨fs,K,_⟩:=E R;exact(wAB.1 K).1
 ·intro v x h m;obtain⟨C,F,E⟩:=(n.vok v x h).par m;refine⟨by omega,by omega,λw y hy ah he=>?_⟩;obtain⟨_,k2,_⟩:=(n.vok w y hy).par ah;omega
 ·intro b B h;rcases(n.bk b B h).2.2 with g|⟨C,F,E⟩|⟨C,F,fs,E,_⟩
  ·exact .inl g
  ·exact .inr (.inl ⟨C,F,give E⟩)
  ·exact .inr (.inr ⟨C,F,(wAB.1 E).1⟩)
 ·intro b u hu;obtain⟨C,F⟩:=edge b u hu;have:=(M.tree b u C F).1;show u<t.blocks.length;omega
 ·intro b B h;have A:=(wAB.1 h).1;rw[(n.bk b B h).2.1,S,M.preds b (by have:b<t.blocks.length:=A;omega)]
 ·rw[S];exact Ag λi ai hm=>(M.tree i 0 ai hm).2.1 rfl
 ·intro b B h d u hu;have A:b<t.blocks.length:=(wAB.1 h).1;have e:=(n.bk b B h).1;have L:u∈nx b:=by rw[<-e];exact hu
  have P:b<hi:=by
   by_cases e2:b=hi
   ·rw[e2,hn]at L;cases L
   ·omega
  have R:(nx b).length=2:=by
   rw[<-e];rcases(n.bk b B h).2.2 with g|⟨_,F,_⟩|⟨C,_⟩
   ·omega
   ·exact F
   ·omega
  rw[S,<-M.preds u (M.tree b u P L).1];exact M.crit b P R u L
 ·intro b A;have am:b<t.blocks.length:=A;obtain⟨l,R⟩:=M.reach b (by omega);have Z:∀{b l},Pn nx hi b l->Pt (next ⟨f,p,t.s.vals,t.blocks,t.s.states⟩) b l:=by
   intro b l h
   induction h with
   |nil=>exact .nil
   |step _ hp e ih=>exact .step ih (by rw[Y _ (by omega)];exact e)
  exact⟨l,Z R⟩
 ·intro v b k x m d G w H;obtain⟨c,C,F,_⟩:=(n.vok v x d).own;obtain rfl:=uniq C (o m);exact O m (F G w H).1 (F G w H).2
 ·intro v b k x B m d G J j w q h5 h6;obtain⟨c,C,_,E⟩:=n.ph v x d G;obtain rfl:=uniq C (o m);rw[(n.bk c B J).2.1]at h6;exact r ((E id).2 j w q h5 h6)
 ·intro v b k x fs m d G J w H;obtain⟨c,C,_,E,_⟩:=(n.vok v x d).own;obtain rfl:=uniq C (o m);obtain⟨aj,K,T⟩:=E G;have U:t.s.states[x.state]? =some fs:=J;rw[U]at K;obtain rfl:=Option.some.inj K;exact O m (T w H).1 (T w H).2
 ·intro b B h d;rcases(n.bk b B h).2.2 with g|⟨_,_,E⟩|⟨C,_⟩
  ·omega
  ·exact r E
  ·omega
 ·intro b B fs h d G w H;rcases(n.bk b B h).2.2 with g|⟨C,_,_⟩|⟨_,_,aj,E,K⟩
  ·omega
  ·omega
  ·have al:t.s.states[B.state]? =some fs:=G;rw[al]at E;obtain rfl:=Option.some.inj E;exact r (K w H)
theorem Ci:∀(n i:Nat) (s:Ds),(params n i s).vals.length=s.vals.length+n/\(params n i s).states=s.states
 |0,_,_=>⟨rfl,rfl⟩
 | n+1,i,s=>by
   obtain⟨a,b⟩:=Ci n (i+1) (putK s (vl 1 0 0 (i:Nat) [] 0));refine⟨?_,b⟩;unfold params;rw[a];simp[putK];omega
theorem Gz (ops c:List Int) (n:Int):Good (unitM ops c n):=by
 have d:=Gv ops c n;have g:=Ci (pickN n 5) 0 ⟨[],[],[],[],0⟩;have h:=zz n (m:=5) (by omega);obtain⟨r1,r2⟩:=xj ops (putK (params (pickN n 5) 0 ⟨[],[],[],[],0⟩) (vl 2 0 0 5 [] 0));have i:(putK (params (pickN n 5) 0 ⟨[],[],[],[],0⟩) (vl 2 0 0 5 [] 0)).vals.length=pickN n 5+1:=by
  simp only[putK,wAM,wBP,g.1];simp
 have j:(putK (params (pickN n 5) 0 ⟨[],[],[],[],0⟩) (vl 2 0 0 5 [] 0)).states=[]:=g.2;have e:Big ⟨row ops (putK (params (pickN n 5) 0 ⟨[],[],[],[],0⟩) (vl 2 0 0 5 [] 0)),[],[]⟩ 0:=by
  have a:=r1.vals;have b:=r1.states;rw[i]at a b r2;rw[j]at b;refine⟨by show(row ops _).vals.length<=210;omega,?_,wAF _⟩;show(row ops _).states.length<=(row ops _).vals.length+0;simp at b;omega
 have f:=Bj ops (c.take 6) e;have hlen:(c.take 6).length<=6:=by rw[wAc];omega
 unfold unitM;simp only;generalize shapes ops (c.take 6) ⟨row ops (putK (params (pickN n 5) 0 ⟨[],[],[],[],0⟩) (vl 2 0 0 5 [] 0)),[],[]⟩=t at*;obtain⟨D,pr,nx,k,l,o⟩:=Jh ops d;obtain⟨p,q,_⟩:=uQ ops t.s;have v:=f.vals;have s:=f.states;have bl:=f.blocks;refine Jk k l o (by simp[end_,on]) rfl ?_ ?_ ?_ 1 2
 ·show(stateM ops t.s).2.vals.length<=3000;rw[p];omega
 ·show(stateM ops t.s).2.states.length<=1000;rw[q];omega
 ·show(t.blocks++[_]).length<=300;rw[wAM,wBP];omega
open Go.Proofs.YtpnddokajmjpbaaDoor.Dm
def headB (u:U) (v:Nat):Bool:=match u.vals[v]? with
 |some x=>isHead x.op
 |none=>false
def valsOf (u:U) (b:Nat):List Nat:=match u.blocks[b]? with
 |some B=>B.vals
 |none=>[]
def headIn (u:U)(t w:Nat):Prop:=w∈valsOf u t/\headB u w=true
def stFrames (u:U) (s:Nat):List Nat:=match u.states[s]? with
 |some fs=>frames fs
 |none=>[]
def takes (u:U) (v:Nat):List Nat:=match u.vals[v]? with
 |some x=>uses x++(if leaves x.op=true then stFrames u x.state else[])
 |none=>[]
def ln (In H:Nat->Nat->Prop):List Nat->(Nat->Prop)->Nat->Prop
 |[],P=>P
 |t::ts,P=>ln In H ts λw=>(P w\/In t w)/\¬H t w
def phiTake (u:U)(b w:Nat):Prop:=∃t∈next u b,∃(B:Bk) (v:Nat) (x:Vl) (j:Nat),u.blocks[t]? =some B/\v∈B.vals/\u.vals[v]? =some x/\x.op=21/\B.preds[j]? =some b/\x.args[j]? =some w
def endTake (u:U)(b w:Nat):Prop:=∃B:Bk,u.blocks[b]? =some B/\(B.fin=2/\w=B.cond\/B.fin=3/\w∈stFrames u B.state)
def EndP (u:U)(H In:Nat->Nat->Prop)(b w:Nat):Prop:=ln In H (next u b) (λ_=>False) w\/phiTake u b w\/endTake u b w
def bk (u:U):List Nat->(Nat->Prop)->Nat->Prop
 |[],P=>P
 |v::r,P=>if headB u v=true then P else bk u r λw=>(P w/\w≠v)\/w∈takes u v
def BackP (u:U)(b:Nat)(O:Nat->Prop):Nat->Prop:=bk u (valsOf u b).reverse O
def Tr (u:U)(H In:Nat->Nat->Prop)(b:Nat):Nat->Prop:=BackP u b (EndP u H In b)
theorem Fq {In a H:Nat->Nat->Prop} (h:∀b w,In b w->a b w):∀{ts:List Nat} {P d:Nat->Prop},(∀w,P w->d w)->∀w,ln In H ts P w->ln a H ts d w
 |[],_,_,hp,w,hw=>hp w hw
 |_::ts,_,_,hp,w,hw=>Fq (ts:=ts) h (λx e=>⟨e.1.elim (λc=> .inl (hp x c)) λc=> .inr (h _ x c),e.2⟩) w hw
theorem wG {In H a:Nat->Nat->Prop}:∀{ts:List Nat} {P:Nat->Prop},(∀t∈ts,∀w,H t w↔a t w)->∀w,ln In H ts P w↔ln In a ts P w
 |[],_,_,_=>Iff.rfl
 | t ::ts,P,h,w=>by
   have e:(λw=>(P w\/In t w)/\¬H t w)=λw=>(P w\/In t w)/\¬a t w:=by
     funext x;rw[h t (by simp) x]
   show ln In H ts _ w↔ln In a ts _ w;rw[e];exact wG (λt b=>h t (by simp[b])) w
theorem zM {u:U} {H In a:Nat->Nat->Prop} (h:∀b w,In b w->a b w) {b w:Nat} (d:EndP u H In b w):EndP u H a b w:=
 d.elim (λc=> .inl (Fq h (λ_ e=>e) w c)) λc=> .inr c
theorem xK {u:U}:∀{r:List Nat} {P b:Nat->Prop},(∀w,P w->b w)->∀w,bk u r P w->bk u r b w
 |[],_,_,h,w,hw=>h w hw
 | v::r,P,b,h,w,hw=>by
   unfold bk at hw⊢;split at hw
   ·rename_i e;rw[if_pos e];exact h w hw
   ·rename_i e;rw[if_neg e];exact xK (λx c=>c.elim (λa=> .inl ⟨h x a.1,a.2⟩) λa=> .inr a) w hw
theorem Dd {u:U} {H In a:Nat->Nat->Prop} (h:∀b w,In b w->a b w) {b w:Nat} (c:Tr u H In b w):Tr u H a b w:=
 xK (λ_ d=>zM h d) w c
structure Seek (u:U) (H In:Nat->Nat->Prop):Prop where
 up:∀b w,In b w->Tr u H In b w
 least:∀X:Nat->Nat->Prop,(∀b w,b<u.blocks.length->Tr u H X b w->X b w)->∀b w,In b w->X b w
theorem Seek.start (u:U)(H:Nat->Nat->Prop):Seek u H λ_ _=>False:=⟨λ_ _ h=>h.elim,λ_ _ _ _ h=>h.elim⟩
def setP (In:Nat->Nat->Prop)(b:Nat)(P:Nat->Prop):Nat->Nat->Prop:=λc w=>(c=b/\P w)\/(c≠b/\In c w)
theorem Seek.step {u:U} {H In:Nat->Nat->Prop} (h:Seek u H In) {b:Nat} (i:b<u.blocks.length):Seek u H (setP In b (Tr u H In b)):=by
 have f:∀c w,In c w->setP In b (Tr u H In b) c w:=λc w d=>by
  by_cases e:c=b
  ·subst e;exact .inl ⟨rfl,h.up _ _ d⟩
  ·exact .inr ⟨e,d⟩
 refine⟨λc w d=>?_,λX g c w d=>?_⟩
 ·rcases d with⟨rfl,a⟩|⟨_,a⟩
  ·exact Dd f a
  ·exact Dd f (h.up _ _ a)
 ·rcases d with⟨rfl,a⟩|⟨_,a⟩
  ·exact g _ _ i (Dd (h.least X g) a)
  ·exact h.least X g _ _ a
structure Alive (u:U) (H In Out:Nat->Nat->Prop):Prop where
 out:∀b w,b<u.blocks.length->(Out b w↔EndP u H In b w)
 inn:∀b w,b<u.blocks.length->(In b w↔BackP u b (Out b) w)
 least:∀X:Nat->Nat->Prop,(∀b w,b<u.blocks.length->Tr u H X b w->X b w)->∀b w,In b w->X b w
theorem Alive.tr {u:U} {H In Out:Nat->Nat->Prop} (h:Alive u H In Out) {b w:Nat} (a:b<u.blocks.length):In b w↔Tr u H In b w:=by
 rw[h.inn b w a];exact⟨xK (λx c=>(h.out b x a).1 c) w,xK (λx c=>(h.out b x a).2 c) w⟩
theorem DJ {u:U} {H d In:Nat->Nat->Prop} {b:Nat} (e:∀t∈next u b,∀w,H t w↔d t w) (w:Nat):Tr u H In b w↔Tr u d In b w:=
 ⟨xK (λx a=>a.imp (λc=>(wG e x).1 c) id) w,xK (λx a=>a.imp (λc=>(wG e x).2 c) id) w⟩
theorem Alive.uniq {u:U} {H k In Out a c:Nat->Nat->Prop} (h:Alive u H In Out) (h':Alive u k a c) (f:∀b,∀t∈next u b,∀w,H t w↔k t w) {b w:Nat} (d:b<u.blocks.length):(In b w↔a b w)/\(Out b w↔c b w):=by
 have e:∀b w,In b w->a b w:=h.least a λb w d g=>(h'.tr d).2 ((DJ (f b) w).1 g);have l:∀b w,a b w->In b w:=h'.least In λb w d g=>(h.tr d).2 ((DJ (f b) w).2 g);refine⟨⟨e b w,l b w⟩,?_⟩;rw[h.out b w d,h'.out b w d];exact⟨λi=>(zM e i).imp (λj=>(wG (f b) w).1 j) id,λi=>(zM l i).imp (λj=>(wG (f b) w).2 j) id⟩
theorem Pt.cut {nx:Nat->List Nat} {x:Nat}:∀{b l},Pt nx b l->x∈l->∃a,Pt nx x a/\a.length<=l.length
 | _,_,.nil,h=>by
   obtain rfl:x=0:=by simpa using h
   exact⟨_,.nil,wAF _⟩
 | _,_,.step h e,c=>by
   rcases wAr.1 c with rfl|c
   ·exact⟨_,.step h e,wAF _⟩
   ·obtain⟨a,d,f⟩:=Pt.cut h c
    exact⟨a,d,by simp;omega⟩
section
variable{u:U}(g:Good u)
include g
theorem Good.nextLt {p b:Nat} (h:b∈next u p):p<u.blocks.length/\b<u.blocks.length/\b≠0:=by
 refine⟨?_,g.nx p b h,λe=>?_⟩
 ·unfold next at h
  split at h
  ·rename_i B a;exact(wAB.1 a).1
  ·cases h
 ·subst e;have:=xr.2 h;rw[g.preds0]at this;cases this
theorem Good.headB_at {v b k:Nat} (h:At u v b k):∃x,u.vals[v]? =some x/\headB u v=isHead x.op:=by
 have:=g.atlt v b k h;refine⟨_,wAA this,?_⟩;unfold headB;rw[wAA this]
theorem Good.headsUp {v b k:Nat} (h:At u v b k) (a:headB u v=true):∀{w j:Nat},At u w b j->j<=k->headB u w=true:=by
 have l:∀(n:Nat) (v k:Nat),At u v b k->headB u v=true->∀w j,At u w b j->j+n=k->headB u w=true:=by
  intro n
  induction n with
  | zero=>
    intro v k h a w j d m;obtain rfl:j=k:=by omega
    obtain⟨B,e,f⟩:=h;obtain⟨A,c,o⟩:=d;rw[e]at c;cases c;rw[f]at o;cases o
    exact a
  | succ n p=>
    intro v k h a w j d m;obtain⟨k,rfl⟩:∃i,k=i+1:=⟨k-1,by omega⟩
    obtain⟨B,e,f⟩:=h;have q:k<B.vals.length:=by have:=(wAB.1 f).1;omega
    have c:At u (B.vals[k]) b k:=⟨B,e,wAA q⟩
    obtain⟨x,r,s⟩:=g.headB_at ⟨B,e,f⟩
    obtain⟨y,t,z⟩:=g.headB_at c;rw[s]at a;exact p _ k c (by rw[z];exact g.heads _ _ _ _ _ _ ⟨B,e,f⟩ c r t a) w j d (by omega)
 exact λ{w j} d m=>l (k-j) v k h a w j d (by omega)
variable{In Out:Nat->Nat->Prop}(h:Alive u (headIn u) In Out)
include h
end
