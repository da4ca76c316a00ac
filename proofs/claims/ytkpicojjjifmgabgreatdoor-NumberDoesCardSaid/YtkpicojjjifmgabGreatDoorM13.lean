/- Parts. -/
import Derived.Test.YtkpicojjjifmgabGreatDoorM12
set_option maxHeartbeats 4000000
namespace Go.Proofs.YtkpicojjjifmgabGreatDoor.Un
open Dm
def qx(nx:Nat->List Nat)(n b:Nat):List Nat:=(List.range n).flatMap λi=>((nx i).filter (·= b)).map λ_=>i
theorem my(nx:Nat->List Nat) (n b:Nat):qx nx (n+1) b=qx nx n b++((nx n).filter (·= b)).map λ_=>n:=by
 unfold qx;rw[Yl,List.flatMap_append];simp
theorem Ar{nx Xn:Nat->List Nat} (n b:Nat) (h:∀i,i<n->Xn i=nx i):qx Xn n b=qx nx n b:=by
 induction n with
 |zero=>rfl
 |succ n a=>rw[my,my,a λi hi=>h i (by omega),h n (by omega)]
theorem Oe{nx:Nat->List Nat} {n b q:Nat}:q∈qx nx n b↔q<n/\b∈nx q:=by
 unfold qx;rw[Xr];constructor
 ·rintro⟨i,a,c⟩;obtain⟨t,e,rfl⟩:=MI.1 c;have d:=Rl.1 e;simp at d;rw[<-d.2];exact⟨ZG.1 a,d.1⟩
 ·rintro⟨a,c⟩;exact⟨q,ZG.2 a,MI.2 ⟨b,Rl.2 ⟨c,by simp⟩,rfl⟩⟩
theorem LR{nx:Nat->List Nat} {n b:Nat} (h:∀i,i<n->b ∉ nx i):qx nx n b=[]:=by
 apply List.eq_nil_iff_forall_not_mem.2;intro q hq;obtain⟨a,c⟩:=Oe.1 hq;exact h q a c
inductive Pn (nx:Nat->List Nat) (n:Nat):Nat->List Nat->Prop
 |nil:Pn nx n 0 [0]
 |step {p b:Nat} {l:List Nat} (h:Pn nx n p l) (hp:p<n) (e:b∈nx p):Pn nx n b (b::l)
theorem Pn.mono{nx Xn:Nat->List Nat} {n a:Nat} (d:n<=a) (c:∀i,i<n->Xn i=nx i):∀{b l},Pn nx n b l->Pn Xn a b l
 |_,_,.nil=> .nil
 |_,_,.step h hp e=> .step (h.mono d c) (by omega) (by rw[c _ hp];exact e)
structure Gh (D:Nat->Nat) (pr nx:Nat->List Nat) (hi:Nat):Prop where
 tree:∀p b,p<hi->b∈nx p->b<=hi/\b≠0/\qo D (D b) p
 down:∀b,b≠0->b<=hi->D b<b
 fi:∀b,b<=hi->pr b=qx nx hi b
 reach:∀b,b<=hi->∃l,Pn nx hi b l
 Lz:∀p,p<hi->(nx p).length=2->∀t∈nx p,(pr t).length=1
theorem DW{D D':Nat->Nat} {hi:Nat} (a:∀b,b≠0->b<=hi->D b<b) (c:∀b,b<=hi->D' b=D b) {x b:Nat} (h:qo D x b):b<=hi->qo D' x b:=by
 induction h with
 |refl=>exact λ_=> .refl _
 | up h0 _ d=>
   rename_i b _;intro hb;have:=a b h0 hb;exact .up h0 (by rw[c b hb];exact d (by omega))
theorem zaD{t:Dt} {v b:Nat} (h:Ow t v b):b<=t.blocks.length:=by
 rcases h with⟨B,a,_⟩|⟨a,_⟩
 ·exact Nat.le_of_lt (ki.1 a).1
 ·omega
section
variable{D D':Nat->Nat}{pr nx pr' Xn:Nat->List Nat}{E:Nat->Prop}{t:Dt}
theorem qa.VH(e:qa D pr nx E t) (F:Gh D pr nx t.blocks.length) (r:∀b,b<=t.blocks.length->D' b=D b) (k:∀b,b<=t.blocks.length->pr' b=pr b) (u:∀b,b<t.blocks.length->Xn b=nx b):qa D' pr' Xn E t:=by
 have kn:∀{a w},a<=t.blocks.length->Kn D t a w->Kn D' t a w:=λJ ⟨b,x,l,o,n⟩=>⟨b,x,l,DW F.down r o J,n⟩
 refine⟨e.cat,λv x h=>?_,λv x h K=>?_,λb B h=>?_,λs fs h=>?_,by rw[k _ (jO _)];exact e.pc,e.ne,λw c=>kn (jO _) (e.kn w c)⟩
 ·have p:=e.Mn v x h;obtain⟨b,l,o,n,L⟩:=p.own;refine⟨p.op,p.putAt,p.par,b,l,λG w c=>⟨(o G w c).1,kn (zaD l) (o G w c).2⟩,λM=>?_,L⟩;obtain⟨fs,d,i⟩:=n M;exact⟨fs,d,λw c=>⟨(i w c).1,kn (zaD l) (i w c).2⟩⟩
 ·obtain⟨b,d,i,m⟩:=e.ph v x h K;refine⟨b,d,i,λH=>?_⟩;rw[k b (zaD d)];refine⟨(m H).1,λj w q N I=>kn ?_ ((m H).2 j w q N I)⟩;have:=DG I;rw[F.fi b (zaD d)]at this;exact Nat.le_of_lt (Oe.1 this).1
 ·have y:=(ki.1 h).1;obtain⟨d,i,m⟩:=e.bk b B h;refine⟨by rw[u b y];exact d,by rw[k b (by omega)];exact i,?_⟩;rcases m with g|⟨z,A,C⟩|⟨z,A,fs,C,O⟩
  ·exact .inl g
  ·exact .inr (.inl ⟨z,A,kn (by omega) C⟩)
  ·exact .inr (.inr ⟨z,A,fs,C,λw c=>kn (by omega) (O w c)⟩)
 ·obtain⟨d,i⟩:=e.st s fs h;refine⟨d,λf P=>?_⟩;obtain⟨m,Q,R,S⟩:=i f P;have own:∀w,(∃a,Kn D t a w)->∃a,Kn D' t a w:=λw ⟨a,b,x,l,_,n⟩=>⟨b,b,x,l,.refl _,n⟩
  exact⟨m,Q,λw c=>own w (R w c),λw c=>own w (S w c)⟩
end
def ext{α:Type}(hi:Nat)(f:Nat->α)(g:Nat->α):Nat->α:=λb=>if b<=hi then f b else g (b-hi)
def ua(hi:Nat)(f:Nat->List Nat)(g:Nat->List Nat):Nat->List Nat:=λb=>if b<hi then f b else g (b-hi)
theorem mZ{α:Type}{hi b:Nat}{f g:Nat->α}(h:b<=hi):ext hi f g b=f b:=by unfold ext;rw[if_pos h]
theorem iJ{α:Type}{hi k:Nat}{f g:Nat->α}(h:0<k):ext hi f g (hi+k)=g k:=by unfold ext;rw[if_neg (by omega),wBd]
theorem A9{hi b:Nat}{f g:Nat->List Nat}(h:b<hi):ua hi f g b=f b:=by unfold ua;rw[if_pos h]
theorem mr{hi k:Nat}{f g:Nat->List Nat}:ua hi f g (hi+k)=g k:=by unfold ua;rw[if_neg (by omega),wBd]
section
variable{D:Nat->Nat}{pr nx:Nat->List Nat}{hi:Nat}
theorem Gh.none(a:Gh D pr nx hi) {b:Nat} (hb:hi<b):qx nx hi b=[]:=LR λi h c=>by
 have:=(a.tree i b h c).1;omega
def dF(hi:Nat)(k:Nat):Nat:=hi
def pF(hi k:Nat):List Nat:=if k=3 then[hi+1,hi+2] else[hi]
def nF(hi k:Nat):List Nat:=if k=0 then[hi+1,hi+2] else[hi+3]
theorem Gh.fork(a:Gh D pr nx hi):Gh (ext hi D (dF hi)) (ext hi pr (pF hi)) (ua hi nx (nF hi)) (hi+3):=by
 have c:∀k,0<k->ext hi D (dF hi) (hi+k)=hi:=λk q=>iJ q;have n0:ua hi nx (nF hi) hi=[hi+1,hi+2]:=mr (k:=0);have f:ua hi nx (nF hi) (hi+1)=[hi+3]:=mr (k:=1);have j:ua hi nx (nF hi) (hi+2)=[hi+3]:=mr (k:=2);have m:∀b,b<=hi->ext hi D (dF hi) b=D b:=λb h=>mZ h;have y6:∀i,i<hi->ua hi nx (nF hi) i=nx i:=λi h=>A9 h;have n:∀b,qx (ua hi nx (nF hi)) (hi+3) b=qx nx hi b++([hi+1,hi+2].filter (·= b)).map (λ_=>hi)++([hi+3].filter (·= b)).map (λ_=>hi+1)++([hi+3].filter (·= b)).map (λ_=>hi+2):=λb=>by
  rw[my,my,my,Ar hi b y6,n0,f,j]
 have low:∀b,b<=hi+3->b<=hi\/b=hi+1\/b=hi+2\/b=hi+3:=λb h=>by omega
 refine⟨λp b hp hb=>?_,λb h0 hb=>?_,λb hb=>?_,λb hb=>?_,λp hp d t ht=>?_⟩
 ·have e:p<hi\/p=hi\/p=hi+1\/p=hi+2:=by omega
  rcases e with h|rfl|rfl|rfl
  ·rw[y6 p h]at hb;obtain⟨g,r,s⟩:=a.tree p b h hb;exact⟨by omega,r,by rw[m b g];exact DW a.down m s (by omega)⟩
  ·rw[n0]at hb;simp at hb;rcases hb with rfl|rfl
   ·exact⟨by omega,by omega,by rw[c 1 (by omega)];exact .refl _⟩
   ·exact⟨by omega,by omega,by rw[c 2 (by omega)];exact .refl _⟩
  ·rw[f]at hb;simp at hb;subst hb;exact⟨by omega,by omega,by rw[c 3 (by omega)];exact Kb (by omega) (c 1 (by omega))⟩
  ·rw[j]at hb;simp at hb;subst hb;exact⟨by omega,by omega,by rw[c 3 (by omega)];exact Kb (by omega) (c 2 (by omega))⟩
 ·rcases low b hb with h|rfl|rfl|rfl
  ·rw[m b h];exact a.down b h0 h
  ·rw[c 1 (by omega)];omega
  ·rw[c 2 (by omega)];omega
  ·rw[c 3 (by omega)];omega
 ·rw [n];rcases low b hb with h|rfl|rfl|rfl
  ·rw[mZ h,a.fi b h];have u:¬hi+1=b:=by omega
   have v:¬hi+2=b:=by omega
   have w:¬hi+3=b:=by omega
   simp[u,v,w]
  ·rw[iJ (by omega),a.none (by omega)];simp[pF]
  ·rw[iJ (by omega),a.none (by omega)];simp[pF]
  ·rw[iJ (by omega),a.none (by omega)];simp[pF]
 ·obtain⟨l,d⟩:=a.reach hi (jO _);have h0:Pn (ua hi nx (nF hi)) (hi+3) hi l:=d.mono (by omega) y6;have g:Pn (ua hi nx (nF hi)) (hi+3) (hi+1) ((hi+1)::l):= .step h0 (by omega) (by rw[n0];simp);rcases low b hb with h|rfl|rfl|rfl
  ·obtain⟨x,o⟩:=a.reach b h;exact⟨x,o.mono (by omega) y6⟩
  ·exact⟨_,g⟩
  ·exact⟨_,.step h0 (by omega) (by rw[n0];simp)⟩
  ·exact⟨_,.step g (by omega) (by rw[f];simp)⟩
 ·have e:p<hi\/p=hi\/p=hi+1\/p=hi+2:=by omega
  rcases e with h|rfl|rfl|rfl
  ·rw[y6 p h]at d ht;rw[mZ (a.tree p t h ht).1];exact a.Lz p h d t ht
  ·rw[n0]at ht;simp at ht;rcases ht with rfl|rfl
   ·rw[iJ (by omega)];rfl
   ·rw[iJ (by omega)];rfl
  ·rw[f]at d;simp at d
  ·rw[j]at d;simp at d
def nX(hi k:Nat):List Nat:=if k=0 then[hi+1,hi+2] else[]
def pX(hi _k:Nat):List Nat:=[hi]
theorem Gh.exit(a:Gh D pr nx hi):Gh (ext hi D (dF hi)) (ext hi pr (pX hi)) (ua hi nx (nX hi)) (hi+2):=by
 have e:∀k,0<k->ext hi D (dF hi) (hi+k)=hi:=λk n=>iJ n;have n0:ua hi nx (nX hi) hi=[hi+1,hi+2]:=mr (k:=0);have f:ua hi nx (nX hi) (hi+1)=[]:=mr (k:=1);have g:∀b,b<=hi->ext hi D (dF hi) b=D b:=λb h=>mZ h;have y6:∀i,i<hi->ua hi nx (nX hi) i=nx i:=λi h=>A9 h;have j:∀b,qx (ua hi nx (nX hi)) (hi+2) b=qx nx hi b++([hi+1,hi+2].filter (·= b)).map (λ_=>hi):=λb=>by
  rw[my,my,Ar hi b y6,n0,f];simp
 have low:∀b,b<=hi+2->b<=hi\/b=hi+1\/b=hi+2:=λb h=>by omega
 refine⟨λp b hp hb=>?_,λb h0 hb=>?_,λb hb=>?_,λb hb=>?_,λp hp d t ht=>?_⟩
 ·have c:p<hi\/p=hi\/p=hi+1:=by omega
  rcases c with h|rfl|rfl
  ·rw[y6 p h]at hb;obtain⟨o,q,r⟩:=a.tree p b h hb;exact⟨by omega,q,by rw[g b o];exact DW a.down g r (by omega)⟩
  ·rw[n0]at hb;simp at hb;rcases hb with rfl|rfl
   ·exact⟨by omega,by omega,by rw[e 1 (by omega)];exact .refl _⟩
   ·exact⟨by omega,by omega,by rw[e 2 (by omega)];exact .refl _⟩
  ·rw[f]at hb;cases hb
 ·rcases low b hb with h|rfl|rfl
  ·rw[g b h];exact a.down b h0 h
  ·rw[e 1 (by omega)];omega
  ·rw[e 2 (by omega)];omega
 ·rw [j];rcases low b hb with h|rfl|rfl
  ·rw[mZ h,a.fi b h];have s:¬hi+1=b:=by omega
   have u:¬hi+2=b:=by omega
   simp[s,u]
  ·rw[iJ (by omega),a.none (by omega)];simp[pX]
  ·rw[iJ (by omega),a.none (by omega)];simp[pX]
 ·obtain⟨l,d⟩:=a.reach hi (jO _);have h0:Pn (ua hi nx (nX hi)) (hi+2) hi l:=d.mono (by omega) y6;rcases low b hb with h|rfl|rfl
  ·obtain⟨v,m⟩:=a.reach b h;exact⟨v,m.mono (by omega) y6⟩
  ·exact⟨_,.step h0 (by omega) (by rw[n0];simp)⟩
  ·exact⟨_,.step h0 (by omega) (by rw[n0];simp)⟩
 ·have c:p<hi\/p=hi\/p=hi+1:=by omega
  rcases c with h|rfl|rfl
  ·rw[y6 p h]at d ht;rw[mZ (a.tree p t h ht).1];exact a.Lz p h d t ht
  ·rw[n0]at ht;simp at ht;rcases ht with rfl|rfl
   ·rw[iJ (by omega)];rfl
   ·rw[iJ (by omega)];rfl
  ·rw[f]at d;simp at d
def dL(hi k:Nat):Nat:=if k=1 then hi else hi+1
def pL(hi k:Nat):List Nat:=if k=1 then[hi,hi+2] else[hi+1]
def nL(hi k:Nat):List Nat:=if k=1 then[hi+2,hi+3] else[hi+1]
theorem Gh.loop(a:Gh D pr nx hi):Gh (ext hi D (dL hi)) (ext hi pr (pL hi)) (ua hi nx (nL hi)) (hi+3):=by
 have c:ext hi D (dL hi) (hi+1)=hi:=iJ (by omega);have e:ext hi D (dL hi) (hi+2)=hi+1:=iJ (by omega);have g:ext hi D (dL hi) (hi+3)=hi+1:=iJ (by omega);have n0:ua hi nx (nL hi) hi=[hi+1]:=mr (k:=0);have j:ua hi nx (nL hi) (hi+1)=[hi+2,hi+3]:=mr (k:=1);have n:ua hi nx (nL hi) (hi+2)=[hi+1]:=mr (k:=2);have o:∀b,b<=hi->ext hi D (dL hi) b=D b:=λb h=>mZ h;have y6:∀i,i<hi->ua hi nx (nL hi) i=nx i:=λi h=>A9 h;have q:∀b,qx (ua hi nx (nL hi)) (hi+3) b=qx nx hi b++([hi+1].filter (·= b)).map (λ_=>hi)++([hi+2,hi+3].filter (·= b)).map (λ_=>hi+1)++([hi+1].filter (·= b)).map (λ_=>hi+2):=λb=>by
  rw[my,my,my,Ar hi b y6,n0,j,n]
 have low:∀b,b<=hi+3->b<=hi\/b=hi+1\/b=hi+2\/b=hi+3:=λb h=>by omega
 refine⟨λp b hp hb=>?_,λb h0 hb=>?_,λb hb=>?_,λb hb=>?_,λp hp d t ht=>?_⟩
 ·have f:p<hi\/p=hi\/p=hi+1\/p=hi+2:=by omega
  rcases f with h|rfl|rfl|rfl
  ·rw[y6 p h]at hb;obtain⟨m,s,u⟩:=a.tree p b h hb;exact⟨by omega,s,by rw[o b m];exact DW a.down o u (by omega)⟩
  ·rw[n0]at hb;simp at hb;subst hb;exact⟨by omega,by omega,by rw[c];exact .refl _⟩
  ·rw[j]at hb;simp at hb;rcases hb with rfl|rfl
   ·exact⟨by omega,by omega,by rw[e];exact .refl _⟩
   ·exact⟨by omega,by omega,by rw[g];exact .refl _⟩
  ·rw[n]at hb;simp at hb;subst hb;exact⟨by omega,by omega,by rw[c];exact(Kb (by omega) c).trans (Kb (by omega) e)⟩
 ·rcases low b hb with h|rfl|rfl|rfl
  ·rw[o b h];exact a.down b h0 h
  ·rw[c];omega
  ·rw[e];omega
  ·rw[g];omega
 ·rw [q];rcases low b hb with h|rfl|rfl|rfl
  ·rw[mZ h,a.fi b h];have v:¬hi+1=b:=by omega
   have w:¬hi+2=b:=by omega
   have x:¬hi+3=b:=by omega
   simp[v,w,x]
  ·rw[iJ (by omega),a.none (by omega)];simp[pL]
  ·rw[iJ (by omega),a.none (by omega)];simp[pL]
  ·rw[iJ (by omega),a.none (by omega)];simp[pL]
 ·obtain⟨l,d⟩:=a.reach hi (jO _);have h0:Pn (ua hi nx (nL hi)) (hi+3) hi l:=d.mono (by omega) y6;have m:Pn (ua hi nx (nL hi)) (hi+3) (hi+1) ((hi+1)::l):= .step h0 (by omega) (by rw[n0];simp);rcases low b hb with h|rfl|rfl|rfl
  ·obtain⟨y,r⟩:=a.reach b h;exact⟨y,r.mono (by omega) y6⟩
  ·exact⟨_,m⟩
  ·exact⟨_,.step m (by omega) (by rw[j];simp)⟩
  ·exact⟨_,.step m (by omega) (by rw[j];simp)⟩
 ·have f:p<hi\/p=hi\/p=hi+1\/p=hi+2:=by omega
  rcases f with h|rfl|rfl|rfl
  ·rw[y6 p h]at d ht;rw[mZ (a.tree p t h ht).1];exact a.Lz p h d t ht
  ·rw[n0]at d;simp at d
  ·rw[j]at ht;simp at ht;rcases ht with rfl|rfl
   ·rw[iJ (by omega)];rfl
   ·rw[iJ (by omega)];rfl
  ·rw[n]at d;simp at d
end
open Dm
def noE:Nat->Prop:=λ_=>False
def Ok(t:Dt):Prop:=∃D pr nx,Gh D pr nx t.blocks.length/\qa D pr nx noE t
theorem Ok.fork{t:Dt} (ops:List Int) (h:Ok t):Ok (fork ops t):=by
 obtain⟨D,pr,nx,c,d⟩:=h;generalize a:t.blocks.length=hi at*;have b:=d.VH (D':=ext hi D (dF hi)) (pr':=ext hi pr (pF hi)) (Xn:=ua hi nx (nF hi)) (by simp_all) (by grind[mZ]) (by grind[mZ]) (by grind[A9])
 obtain ⟨e,f⟩:=zav b ops (by rw[a];exact mr (k:=0)) (by rw[a];exact mr (k:=1)) (by rw[a];exact mr (k:=2)) (by rw[a];exact iJ (by omega)) (by rw[a];exact iJ (by omega)) (by rw[a];exact iJ (by omega))
  (by rw[a];exact iJ (by omega)) (by rw[a];exact iJ (by omega)) (by rw[a];exact iJ (by omega))
 exact⟨_,_,_,by rw[f,a];exact c.fork,e⟩
theorem Ok.exit{t:Dt} (ops:List Int) (h:Ok t):Ok (zl ops t):=by
 obtain⟨D,pr,nx,c,d⟩:=h;generalize a:t.blocks.length=hi at*;have b:=d.VH (D':=ext hi D (dF hi)) (pr':=ext hi pr (pX hi)) (Xn:=ua hi nx (nX hi)) (by simp_all) (by grind[mZ]) (by grind[mZ]) (by grind[A9])
 obtain ⟨e,f⟩:=zbm b ops (by rw[a];exact mr (k:=0)) (by rw[a];exact mr (k:=1)) (by rw[a];exact iJ (by omega)) (by rw[a];exact iJ (by omega))
  (by rw[a];exact iJ (by omega)) (by rw[a];exact iJ (by omega))
 exact⟨_,_,_,by rw[f,a];exact c.exit,e⟩
theorem Ok.loop{t:Dt} (ops:List Int) (h:Ok t):Ok (loop ops t):=by
 obtain⟨D,pr,nx,c,d⟩:=h;generalize a:t.blocks.length=hi at*;have b:=d.VH (D':=ext hi D (dL hi)) (pr':=ext hi pr (pL hi)) (Xn:=ua hi nx (nL hi)) (by simp_all) (by grind[mZ]) (by grind[mZ]) (by grind[A9])
 obtain ⟨e,f⟩:=zaf b ops (by rw[a];exact mr (k:=0)) (by rw[a];exact mr (k:=1)) (by rw[a];exact mr (k:=2)) (by rw[a];exact iJ (by omega)) (by rw[a];exact iJ (by omega)) (by rw[a];exact iJ (by omega))
  (by rw[a];exact iJ (by omega)) (by rw[a];exact iJ (by omega)) (by rw[a];exact iJ (by omega))
 exact⟨_,_,_,by rw[f,a];exact c.loop,e⟩
theorem Ok.mz(ops:List Int):∀(l:List Int) {t:Dt},Ok t->Ok (mz ops l t)
 |[],_,h=>h
 | k ::l,t,h=>by
   unfold Un.mz;split
   ·refine Ok.mz ops l ?_
    unfold vw;split
    ·exact h.fork ops
    split
    ·exact h.loop ops
    ·exact h.exit ops
   ·exact h
def t0(s:Ds):Dt:=⟨s,[],[]⟩
structure Ps (s:Ds) (i:Nat):Prop where
 ej:s.ej.length=i
 all:∀(v:Nat) (x:Vl),s.ej[v]? =some x->x=vl 1 0 0 (v:Nat) [] 0
 cur:s.cur=List.range i
 known:s.known=List.range i
 ev:s.ev=[]
theorem PQ:∀(n i:Nat) (s:Ds),Ps s i->Ps (params n i s) (i+n)
 |0,i,s,h=>h
 | n + 1,i,s,h=>by
   have:=PQ n (i+1) (jd s (vl 1 0 0 (i:Nat) [] 0)) ⟨by simp[jd,h.ej],λv x hv=>?_,by simp only[jd];rw[h.cur,h.ej,Yl],by simp only[jd];rw[h.known,h.ej,Yl],h.ev⟩
   ·rw[show i+(n+1)=i+1+n by omega]
    exact this
   ·have a:(s.ej++[vl 1 0 0 (i:Nat) [] 0])[v]? =some x:=hv
    by_cases OY:v<s.ej.length
    ·rw[Rk OY]at a
     exact h.all v x a
    ·have c:=(ki.1 a).1
     simp at c;have b:v=s.ej.length:=by omega
     subst b;rw[wBW]at a;rw[h.ej]
     simp_all
theorem gh0:Gh (λ_=>0) (λ_=>[]) (λ_=>[]) 0:=
 ⟨by omega,by omega,λb hb=>rfl,λb hb=>by
  obtain rfl:b=0:=by omega
  exact⟨[0],.nil⟩,by omega⟩
theorem Yc{s:Ds} {n:Nat} (h:Ps s n) (m:n<=5):qa (λ_=>0) (λ_=>[]) (λ_=>[]) noE (t0 (jd s (vl 2 0 0 5 [] 0))):=by
 have c:(t0 (jd s (vl 2 0 0 5 [] 0))).s.ej=s.ej++[vl 2 0 0 5 [] 0]:=rfl;have d:(t0 (jd s (vl 2 0 0 5 [] 0))).s.cur=List.range (n+1):=by
  show s.cur++[s.ej.length]=_;rw[h.cur,h.ej,Yl]
 have hlen:(t0 (jd s (vl 2 0 0 5 [] 0))).s.ej.length=n+1:=by rw[c];simp[h.ej]
 have a:∀(v:Nat) (x:Vl),(t0 (jd s (vl 2 0 0 5 [] 0))).s.ej[v]? =some x->(v<n/\x=vl 1 0 0 (v:Nat) [] 0)\/(v=n/\x=vl 2 0 0 5 [] 0):=λv x hv=>by
  rw[c]at hv;by_cases e:v<s.ej.length
  ·rw[Rk e]at hv;exact .inl ⟨by simp_all,h.all v x hv⟩
  grind
 have i:∀v,v<n+1->Ow (t0 (jd s (vl 2 0 0 5 [] 0))) v 0:=λv hv=> .inr ⟨rfl,by simp_all⟩;have j:∀v,v<n+1->Kn (λ_=>0) (t0 (jd s (vl 2 0 0 5 [] 0))) 0 v:=λv hv=>by
  have hx:∃x,(t0 (jd s (vl 2 0 0 5 [] 0))).s.ej[v]? =some x:=by simp_all
  obtain⟨x,hx⟩:=hx;refine⟨0,x,i v hv,.refl _,hx,?_⟩;rcases a v x hx with⟨_,rfl⟩|⟨_,rfl⟩ <;> rfl
 refine⟨?_,λv x hv=>?_,λv x hv o=>?_,λb B l=>(by cases l),λst fs hs=>?_,rfl,?_,λw k=>?_⟩
 ·rw[hlen,d];rfl
 ·rcases a v x hv with⟨e,rfl⟩|⟨rfl,rfl⟩
  ·refine⟨by simp[vl],by grind[vl],λ_=>⟨by grind,rfl,by omega⟩,0,by grind,by grind[hK,vl,two,nq],by grind[vl,leaves],λ_ w _ k=>?_⟩
   grind[t0,jd,vl,iy]
  ·exact⟨by simp[vl],by grind[vl],by grind[vl],0,by simp_all,by grind[hK,vl,two,nq],by grind[vl,leaves],by grind[vl,iO]⟩
 ·rcases a v x hv with⟨_,rfl⟩|⟨_,rfl⟩
  ·grind[vl]
  grind[vl]
 ·have f:s.ev[st]? =some fs:=hs;rw[h.ev]at f;cases f
 ·show s.known++[s.ej.length]≠[];simp
 ·have g:w∈s.known++[s.ej.length]:=k;rw[h.known,h.ej,<-Yl]at g;exact j w (ZG.1 g)
theorem Xm(ops a:List Int) (n:Int):Ok (mz ops (a.take 6) ⟨row ops (jd (params (mS n 5) 0 ⟨[],[],[],[],0⟩) (vl 2 0 0 5 [] 0)),[],[]⟩):=by
 have h0:Ps ⟨[],[],[],[],0⟩ 0:=⟨rfl,by simp_all,rfl,rfl,rfl⟩
 have b:=PQ (mS n 5) 0 _ h0;rw[zO]at b;have c:=Yc b (by simp_all[Nat.le_of_lt,Ha]);obtain⟨d,_⟩:=c.row ops;exact Ok.mz ops _ ⟨_,_,_,gh0,d⟩
open Dm
theorem U7:∀(l:List Bk),(l.flatMap λB=>B.ej).Pairwise (·< ·)->∀(b f k k':Nat) (B a:Bk) (v d:Nat),l[b]? =some B->l[f]? =some a->B.ej[k]? =some v->a.ej[k']? =some d->(b<f->v<d)/\(b=f->k<k'->v<d)
 |[],_,b,_,_,_,_,_,_,_,h,_,_,_=>by simp_all
 | C ::l,hp,b,f,k,k',B,a,v,d,e,c,j,o=>by
   rw[List.flatMap_cons,List.pairwise_append]at hp;obtain⟨p1,p2,p3⟩:=hp
   match b,f,e,c with
   | 0,0,e,c=>
     obtain rfl:C=B:=by simp_all
     obtain rfl:C=a:=by simp_all
     grind[ki,wA5]
   | 0,n+1,e,c=>
     obtain rfl:C=B:=by simp_all
     have g:l[n]? =some a:=by simpa using c
     refine⟨λ_=>p3 v (DG j) d (by grind),by omega⟩
   |n+1,0,e,c=>omega
   | n+1,m+1,e,c=>
     have i:l[n]? =some B:=by simpa using e
     have g:l[m]? =some a:=by simpa using c
     have:=U7 l p2 n m k k' B a v d i g j o;omega
section
variable{u:U}(hc:u.blocks.flatMap (λB=>B.ej)=List.range u.ej.length)
include hc
theorem DQ{v a b c k k':Nat} (h:At u v b k) (h':At u a c k'):(b<c->v<a)/\(b=c->k<k'->v<a):=by
 obtain⟨B,d,e⟩:=h;obtain⟨f,g,i⟩:=h'
 grind[U7,List.pairwise_lt_range]
theorem VN{v b a k k':Nat} (h:At u v b k) (h':At u v a k'):b=a/\k=k':=by
 have c:=(DQ hc h h').1;have d:=(DQ hc h' h).1;have hb:b=a:=by
  rcases wBi b a with h|h|h
  ·omega
  ·exact h
  ·omega
 have e:=(DQ hc h h').2 hb;have f:=(DQ hc h' h).2 hb.symm;omega
theorem YB{v a b k k':Nat} (h:At u v b k) (h':At u a b k') (c:v<a):k<k':=by
 rcases wBi k k' with g|g|g
 ·exact g
 ·subst g;obtain⟨B,d,e⟩:=h;obtain⟨f,i,j⟩:=h'
  simp_all
 ·have:=(DQ hc h' h).2 rfl g;omega
theorem Y4{v:Nat} (hv:v<u.ej.length):∃b k,At u v b k:=by
 have:v∈u.blocks.flatMap (λB=>B.ej):=by rw[hc];exact ZG.2 hv
 obtain⟨B,a,c⟩:=Xr.1 this;obtain⟨b,hb⟩:=oY.1 a;obtain⟨k,d⟩:=oY.1 c;exact⟨b,k,B,hb,d⟩
theorem zdS{v b k:Nat} (h:At u v b k):v<u.ej.length:=by
 obtain⟨B,a,c⟩:=h;have:v∈u.blocks.flatMap (λB=>B.ej):=by grind
 simp_all
end
theorem Gp(ops:List Int):∀(i:Nat) (s:Ds) (l:List Nat),∃p,(some_ ops i s l).2 = {s with pos:=p}
 |0,s,_=>⟨s.pos,rfl⟩
 |i+1,s,l=>Gp ops i (fO ops s).2 (l++[(fO ops s).1])
theorem Ed(ops:List Int) (s:Ds):(fK ops s).2.ej=s.ej/\(fK ops s).2.ev.length=s.ev.length+1/\(fK ops s).2.cur=s.cur:=by
 obtain⟨p,hp⟩:=Gp ops (num ops s 4).1 (num ops s 4).2 [];unfold fK;simp only;rw[hp];exact⟨rfl,by simp,rfl⟩
structure Sz (s s':Ds):Prop where
 ej:s.ej.length<=s'.ej.length
 ev:s'.ev.length+s.ej.length<=s.ev.length+s'.ej.length
theorem Sz.refl(s:Ds):Sz s s:=⟨jO _,jO _⟩
theorem Sz.trans{s s' e:Ds} (f:Sz s s') (g:Sz s' e):Sz s e:=by
 have a:=f.ej;have b:=g.ej;have c:=f.ev;have d:=g.ev;exact⟨by omega,by omega⟩
theorem zaK(ops:List Int) (s:Ds) (k a b:Nat):(tS ops s k a b).ej.length=s.ej.length+1/\(tS ops s k a b).ev.length<=s.ev.length+1:=by
 grind[Ed,tS,jd,num,put,fO]
theorem Vm(ops:List Int):∀(i:Nat) (s:Ds),Sz s (rows ops i s)/\(rows ops i s).ej.length<=max s.ej.length 200
 |0,s=>⟨.refl s,by show s.ej.length<=_;omega⟩
 | i + 1,s=>by
   unfold rows;split
   ·rename_i b
    obtain⟨c,d⟩:=Vm ops i (vf ops s);have a:=zaK ops (num ops (fO ops (fO ops s).2).2 20).2 (num ops (fO ops (fO ops s).2).2 20).1 (fO ops s).1 (fO ops (fO ops s).2).1;have e:(vf ops s).ej.length=s.ej.length+1:=a.1;have f:(vf ops s).ev.length<=s.ev.length+1:=a.2;exact⟨Sz.trans ⟨by omega,by omega⟩ c,by omega⟩
   ·exact⟨.refl s,by omega⟩
theorem Gq(ops:List Int) (s:Ds):Sz s (row ops s)/\(row ops s).ej.length<=max s.ej.length 200:=by
 obtain⟨a,b⟩:=Vm ops (1+(num ops s 6).1) (num ops s 6).2;exact⟨⟨a.ej,a.ev⟩,b⟩
structure XG (t:Dt) (m:Nat):Prop where
 ej:t.s.ej.length<=210
 ev:t.s.ev.length<=t.s.ej.length+t.blocks.length
 blocks:t.blocks.length<=m
theorem Yz(ops:List Int) {t:Dt} {m:Nat} (h:XG t m) (hv:t.s.ej.length<160):XG (fork ops t) (m+3):=by
 obtain⟨w,x,y⟩:=h;unfold fork;simp only;have a1:=Gq ops (end_ {t with s:=(fO ops t.s).2} 2 (fO ops t.s).1 [t.blocks.length+1,t.blocks.length+2] 0 [t.blocks.length]).s;generalize o:row ops (end_ {t with s:=(fO ops t.s).2} 2 (fO ops t.s).1 [t.blocks.length+1,t.blocks.length+2] 0 [t.blocks.length]).s=b at*;have p:t.s.ej.length<=b.ej.length:=a1.1.ej;have q:b.ev.length+t.s.ej.length<=t.s.ev.length+b.ej.length:=a1.1.ev;have r:b.ej.length<=max t.s.ej.length 200:=a1.2;generalize d:end_ {s:=cut t.s.known.length b,blocks:=(end_ {t with s:=(fO ops t.s).2} 2 (fO ops t.s).1 [t.blocks.length+1,t.blocks.length+2] 0 [t.blocks.length]).blocks,fi:=(end_ {t with s:=(fO ops t.s).2} 2 (fO ops t.s).1 [t.blocks.length+1,t.blocks.length+2] 0 [t.blocks.length]).fi} 1 0 [t.blocks.length+3] 0 [t.blocks.length]=a at*;have b2:a.blocks.length=t.blocks.length+2:=by rw[<-d];simp[end_]
 have u:a.s.ej=b.ej:=by rw[<-d];rfl
 have v:a.s.ev=b.ev:=by rw[<-d];rfl
 have a2:=Gq ops a.s;generalize row ops a.s=c at*;have g:=a2.1.ej;have e:=a2.1.ev;have i:=a2.2;rw[u]at g e i;rw[v]at e;have a3:=Gq ops (jd (end_ {s:=cut t.s.known.length c,blocks:=a.blocks,fi:=a.fi} 1 0 [t.blocks.length+3] 0 [t.blocks.length+1,t.blocks.length+2]).s (vl 21 0 0 0 [b.known.getLastD 0,c.known.getLastD 0] 0));have j:(jd (end_ {s:=cut t.s.known.length c,blocks:=a.blocks,fi:=a.fi} 1 0 [t.blocks.length+3] 0 [t.blocks.length+1,t.blocks.length+2]).s (vl 21 0 0 0 [b.known.getLastD 0,c.known.getLastD 0] 0)).ej.length=c.ej.length+1:=by simp[jd,end_,cut]
 have k:(jd (end_ {s:=cut t.s.known.length c,blocks:=a.blocks,fi:=a.fi} 1 0 [t.blocks.length+3] 0 [t.blocks.length+1,t.blocks.length+2]).s (vl 21 0 0 0 [b.known.getLastD 0,c.known.getLastD 0] 0)).ev.length=c.ev.length:=by simp[jd,end_,cut]
 have l:=a3.1.ej;have f:=a3.1.ev;have n:=a3.2;rw[j]at l f n;rw[k]at f;refine⟨?_,?_,?_⟩
 ·grind
 ·show(row ops _).ev.length<=(row ops _).ej.length+(a.blocks++[_]).length
  grind
 ·show(a.blocks++[_]).length<=m+3
  simp_all
theorem YR(ops:List Int) {t:Dt} {m:Nat} (h:XG t m) (hv:t.s.ej.length<160):XG (zl ops t) (m+3):=by
 obtain⟨q,r,u⟩:=h;unfold zl;simp only;have a1:=Gq ops (end_ {t with s:=(fO ops t.s).2} 2 (fO ops t.s).1 [t.blocks.length+1,t.blocks.length+2] 0 [t.blocks.length]).s;generalize g:row ops (end_ {t with s:=(fO ops t.s).2} 2 (fO ops t.s).1 [t.blocks.length+1,t.blocks.length+2] 0 [t.blocks.length]).s=a at*;have i:t.s.ej.length<=a.ej.length:=a1.1.ej;have j:a.ev.length+t.s.ej.length<=t.s.ev.length+a.ej.length:=a1.1.ev;have k:a.ej.length<=max t.s.ej.length 200:=a1.2;obtain⟨l,n,_⟩:=Ed ops a;generalize b:end_ {s:=cut t.s.known.length (fK ops a).2,blocks:=(end_ {t with s:=(fO ops t.s).2} 2 (fO ops t.s).1 [t.blocks.length+1,t.blocks.length+2] 0 [t.blocks.length]).blocks,fi:=(end_ {t with s:=(fO ops t.s).2} 2 (fO ops t.s).1 [t.blocks.length+1,t.blocks.length+2] 0 [t.blocks.length]).fi} 3 0 [] (fK ops a).1 [t.blocks.length]=c at*;have b2:c.blocks.length=t.blocks.length+2:=by rw[<-b];simp[end_]
 have o:c.s.ej=a.ej:=by rw[<-b];exact l
 have p:c.s.ev.length=a.ev.length+1:=by rw[<-b];exact n
 have a2:=Gq ops c.s;generalize row ops c.s=v at*;have e:=a2.1.ej;have d:=a2.1.ev;have f:=a2.2;rw[o]at e d f;rw[p]at d;refine⟨?_,?_,?_⟩
 ·grind
 ·grind
 grind
theorem Fs(s:Ds)(v:Nat)(args:List Nat):(setArgs s v args).ej.length=s.ej.length/\(setArgs s v args).ev=s.ev:=⟨by simp[setArgs,List.length_modify],rfl⟩
theorem Yq(ops:List Int) {t:Dt} {m:Nat} (h:XG t m) (hv:t.s.ej.length<160):XG (loop ops t) (m+3):=by
 obtain⟨G,H,I⟩:=h;unfold loop;simp only;generalize e:end_ {t with s:=(fO ops t.s).2} 1 0 [t.blocks.length+1] 0 [t.blocks.length,t.blocks.length+2]=b at*;have b1:b.blocks.length=t.blocks.length+1:=by rw[<-e];simp[end_]
 have x:b.s.ej=t.s.ej:=by rw[<-e];rfl
 have y:b.s.ev=t.s.ev:=by rw[<-e];rfl
 generalize i:({put (fO ops (put b.s (vl 21 0 0 0 [(fO ops t.s).1,0] 0))).2 (vl 21 0 0 0 [(fO ops (put b.s (vl 21 0 0 0 [(fO ops t.s).1,0] 0))).1,b.s.ej.length] 0)with known:=(put (fO ops (put b.s (vl 21 0 0 0 [(fO ops t.s).1,0] 0))).2 (vl 21 0 0 0 [(fO ops (put b.s (vl 21 0 0 0 [(fO ops t.s).1,0] 0))).1,b.s.ej.length] 0)).known++[b.s.ej.length,b.s.ej.length+1]}:Ds)=f at*;have z:f.ej.length=t.s.ej.length+2:=by rw[<-i,<-x];simp[put,fO]
 have n:f.ev=t.s.ev:=by rw[<-i,<-y];rfl
 obtain⟨A,B,_⟩:=Ed ops f;generalize j:jd (put (put (fK ops f).2 (vl 23 0 0 0 [] (fK ops f).1)) (vl 2 0 0 1 [] 0)) (vl 4 b.s.ej.length (put (fK ops f).2 (vl 23 0 0 0 [] (fK ops f).1)).ej.length 0 [] 0)=d at*;have J:d.ej.length=t.s.ej.length+5:=by rw[<-j];simp[jd,put,A,z]
 have C:d.ev.length=t.s.ev.length+1:=by rw[<-j,<-n,<-B];rfl
 generalize g:end_ {s:=d,blocks:=b.blocks,fi:=b.fi} 2 b.s.ej.length [t.blocks.length+2,t.blocks.length+3] 0 [t.blocks.length+1]=c at*;have b2:c.blocks.length=t.blocks.length+2:=by rw[<-g];simp[end_,b1]
 have D:c.s.ej=d.ej:=by rw[<-g];rfl
 have o:c.s.ev=d.ev:=by rw[<-g];rfl
 have a1:=Gq ops c.s;generalize row ops c.s=w at*;have p:=a1.1.ej;have k:=a1.1.ev;have q:=a1.2;rw[D]at p k q;rw[o]at k;have r:∀a:Ds,a.ej.length=w.ej.length->a.ev=w.ev->XG {s:=row ops (end_ {s:=cut d.known.length a,blocks:=c.blocks,fi:=c.fi} 1 0 [t.blocks.length+1] 0 [t.blocks.length+1]).s,blocks:=(end_ {s:=cut d.known.length a,blocks:=c.blocks,fi:=c.fi} 1 0 [t.blocks.length+1] 0 [t.blocks.length+1]).blocks,fi:=(end_ {s:=cut d.known.length a,blocks:=c.blocks,fi:=c.fi} 1 0 [t.blocks.length+1] 0 [t.blocks.length+1]).fi} (m+3):=by
  intro a E F;have a2:=Gq ops (end_ {s:=cut d.known.length a,blocks:=c.blocks,fi:=c.fi} 1 0 [t.blocks.length+1] 0 [t.blocks.length+1]).s;have u:a.ej.length<=_:=a2.1.ej;have l:_+a.ej.length<=a.ev.length+_:=a2.1.ev;have v:_<=max a.ej.length 200:=a2.2;rw[E]at u l v;rw[F]at l;refine⟨?_,?_,?_⟩
  ·grind
  ·show(row ops _).ev.length<=(row ops _).ej.length+(c.blocks++[_]).length
   grind
  ·show(c.blocks++[_]).length<=m+3
   simp_all
 refine r _ ?_ ?_
 ·rw[(Fs _ _ _).1];split
  ·rw[(Fs _ _ _).1];exact(Fs _ _ _).1
  ·exact(Fs _ _ _).1
 ·rw[(Fs _ _ _).2];split
  ·rfl
  ·rfl
theorem N2(ops:List Int):∀(l:List Int) {t:Dt} {m:Nat},XG t m->XG (mz ops l t) (m+3*l.length)
 |[],t,m,h=>h
 | k ::l,t,m,h=>by
   unfold mz;split
   ·rename_i hv
    have a:XG (vw ops (mS k 3) t) (m+3):=by
      unfold vw;split
      ·grind[Yz]
      split
      ·grind[Yq]
      ·grind[YR]
    have:=N2 ops l a
    grind
   ·exact⟨h.ej,h.ev,by have:=h.blocks;omega⟩
open Dm
theorem zaa{t:Dt} (ops:List Int) (h:Ok t):∃D pr nx,Gh D pr nx t.blocks.length/\nx t.blocks.length=[]/\qa D pr nx noE (end_ (on t (fK ops t.s).2) 3 0 [] (fK ops t.s).1 []):=by
 obtain ⟨D,pr,nx,a,q⟩:=h;generalize r:t.blocks.length=hi at*;have d:∀b,b<=hi->ext hi D (dF hi) b=D b:=λb h=>mZ h;have y6:∀i,i<hi->ua hi nx (λ_=>[]) i=nx i:=λi h=>A9 h;have v:Gh (ext hi D (dF hi)) (ext hi pr λ_=>[]) (ua hi nx λ_=>[]) hi:=by
  refine⟨λp b hp hb=>?_,λb h0 hb=>?_,λb hb=>?_,λb hb=>?_,λp hp c u e=>?_⟩
  ·rw[y6 p hp]at hb;obtain⟨m,x,y⟩:=a.tree p b hp hb;exact⟨m,x,by rw[d b m];exact DW a.down d y (by omega)⟩
  ·rw[d b hb];exact a.down b h0 hb
  ·rw[mZ hb,a.fi b hb,Ar hi b y6]
  ·obtain⟨l,c⟩:=a.reach b hb;exact⟨l,c.mono (jO _) y6⟩
  ·rw[y6 p hp]at c e;rw[mZ (a.tree p u hp e).1];exact a.Lz p hp c u e
 have f:=q.VH (D':=ext hi D (dF hi)) (pr':=ext hi pr λ_=>[]) (Xn:=ua hi nx λ_=>[]) (by simp_all) (by simp_all) (by grind[mZ]) (by simp_all);have n0:ua hi nx (λ_=>[]) hi=[]:=mr (k:=0) (g:=λ_=>[]);obtain⟨j,A,B,_,_,fs,z,C⟩:=f.state ops;have b1:(on t (fK ops t.s).2).blocks.length=hi:=r
 obtain ⟨E,_⟩:=j.end_ (fin:=3) (cond:=0) (n:=[]) (state:=(fK ops t.s).1) (fi:=[]) (by simp_all) (by grind[iJ,List,Nat])
  (.inr (.inr ⟨rfl,rfl,fs,z,λw o=>j.kn w (by show w∈(fK ops t.s).2.known;simp_all)⟩))
  (λw o=>(j.kn w o).up (by rw[b1];exact Kb (by omega) (iJ (by omega))))
 grind
theorem Z9{D:Nat->Nat} {pr nx:Nat->List Nat} {t:Dt} {hi:Nat} (H:Gh D pr nx hi) (hn:nx hi=[]) (d:qa D pr nx noE t) (hb:t.blocks.length=hi+1) (O:t.s.cur=[]) (hv:t.s.ej.length<=3000) (hs:t.s.ev.length<=1000) (T:t.blocks.length<=300) (f p:Int) :
  Good ⟨f,p,t.s.ej,t.blocks,t.s.ev⟩:=by
 have hc:t.blocks.flatMap (λB=>B.ej)=List.range t.s.ej.length:=by
  have:=d.cat
  rw[O,JL]at this;exact this
 have own:∀{v b},Ow t v b->∃k,At ⟨f,p,t.s.ej,t.blocks,t.s.ev⟩ v b k:=λh=>by
  rcases h with⟨B,n,m⟩|⟨_,m⟩
  ·obtain⟨k,P⟩:=oY.1 m;exact⟨k,B,n,P⟩
  simp_all
 have ah:∀{v b},Ow t v b->b<t.blocks.length:=λh=>by
  rcases h with⟨B,n,_⟩|⟨_,m⟩
  ·grind
  simp_all
 have z:∀{v b k},At ⟨f,p,t.s.ej,t.blocks,t.s.ev⟩ v b k->Ow t v b:=λ⟨B,n,m⟩=> .inl ⟨B,n,DG m⟩;have ai:∀b,b<t.blocks.length->next ⟨f,p,t.s.ej,t.blocks,t.s.ev⟩ b=nx b:=λb h=>by
  have e:=iy h;unfold next
  simp only[e];exact(d.bk b _ e).1
 have aj:∀b,¬b<t.blocks.length->next ⟨f,p,t.s.ej,t.blocks,t.s.ev⟩ b=[]:=by grind[next,OE,Nat.le_of_not_lt]
 have BY:∀q b,b∈next ⟨f,p,t.s.ej,t.blocks,t.s.ev⟩ q->q<hi/\b∈nx q:=λq b h=>by
  grind
 have I:∀{x b},qo D x b->o0 (next ⟨f,p,t.s.ej,t.blocks,t.s.ev⟩) x b:=λh l Q=>KL (λq b hb _=>(H.tree q b (by grind) (by simp_all)).2.2) Q h;have zcG:∀{a w},Kn D t a w->vD ⟨f,p,t.s.ej,t.blocks,t.s.ev⟩ w:=λ⟨_,x,_,_,E,K⟩=>⟨x,E,K⟩
 have G:∀{a w},Kn D t a w->zb ⟨f,p,t.s.ej,t.blocks,t.s.ev⟩ w a:=λ⟨b,x,n,m,_⟩=>let⟨k,P⟩:=own n;⟨b,k,P,I m⟩
 have ac:∀{v w b k},At ⟨f,p,t.s.ej,t.blocks,t.s.ev⟩ v b k->w<v->Kn D t b w->zE ⟨f,p,t.s.ej,t.blocks,t.s.ev⟩ w b k:=λ{v w b k} hv o ⟨c,x,n,m,_⟩=>by
  obtain⟨j,M⟩:=own n;by_cases e:c=b
  ·subst e;exact⟨c,j,M,.inl ⟨rfl,YB hc M hv o⟩⟩
  ·exact⟨c,j,M,.inr ⟨e,I m⟩⟩
 have A:∀{v b U},Ow t v b->Ow t v U->b=U:=λh h'=>by
  obtain⟨k,P⟩:=own h;obtain⟨k',V⟩:=own h';exact(VN hc P V).1
 have L:∀b,ahead ⟨f,p,t.s.ej,t.blocks,t.s.ev⟩ b=qx nx hi b:=λb=>by
  have W:∀(l:List Bk) (i:Nat),(∀k B,l[k]? =some B->B.next=nx (i+k))->mN l i b=((List.range' i l.length).flatMap λq=>((nx q).filter (·= b)).map λ_=>q):=by
   intro l
   induction l with
   |nil=>intro i _;rfl
   | cons B l X=>
     intro i h;have h0:=h 0 B rfl;rw[wBu]at h0;rw[Rt,List.range'_succ,List.flatMap_cons];unfold mN;rw[h0,X (i+1) λk B Y=>by rw[show i+1+k=i+(k+1) by omega];exact h (k+1) B Y]
  unfold ahead;rw[W t.blocks 0 λk B Y=>by rw[zO];exact(d.bk k B Y).1];have e:List.range' 0 t.blocks.length=List.range t.blocks.length:=(List.range_eq_range').symm;rw[e,hb];have:=my nx hi b
  grind[qx]
 refine{nv:=hv,MH:=by simp_all,nb:=T,ns:=hs,st:=?_,Ef:=by simp_all[Y4],FQ:=λv b k U k' h h'=>VN hc h h',ko:=λv b k h=>zdS hc h,II:=?_,par:=?_,KN:=?_,op:=λv x h=>(d.Mn v x h).op,use:=?_,leave:=?_,putAt:=λv x h=>(d.Mn v x h).putAt,param:=?_,fin:=?_,nx:=?_,fi:=?_,Hf:=?_,Lz:=?_,reach:=?_,GM:=?_,L1:=?_,Md:=?_,L8:=?_,L4:=?_}
 ·intro s fs h;obtain⟨r,F⟩:=d.st s fs h
  grind
 ·intro v w b k x y n m E K h5;obtain⟨c,r,_,_,g4⟩:=(d.Mn v x E).own;obtain rfl:=A r (z n);have o:w<v:=(DQ hc m n).2 rfl (OF _)
  grind
 ·intro v b k x n m E;exact A (z n) ((d.Mn v x m).par E).1
 ·intro v b k x B n m E K;obtain⟨c,r,F,C⟩:=d.ph v x m E;obtain rfl:=A r (z n);exact⟨F,by rw[(d.bk c B K).2.1];exact(C id).1⟩
 ·intro v x h w N;by_cases R:x.op=21
  ·obtain⟨c,r,F,C⟩:=d.ph v x h R;have Z:w∈x.args:=by unfold hK at N;rw[if_pos R]at N;exact N
   obtain⟨j,M⟩:=oY.1 Z;have o:=(ki.1 M).1;rw[(C id).1]at o;exact zcG ((C id).2 j w _ M (iy o))
  ·obtain⟨c,r,F,_⟩:=(d.Mn v x h).own
   grind
 ·intro v x h Q;obtain⟨c,r,_,C,_⟩:=(d.Mn v x h).own
  grind
 ·intro v x h n;obtain⟨r,F,C⟩:=(d.Mn v x h).par n;refine⟨by omega,by omega,λw y hy aa he=>?_⟩;obtain⟨_,k2,_⟩:=(d.Mn w y hy).par aa;omega
 ·intro b B h;rcases(d.bk b B h).2.2 with g|⟨r,F,C⟩|⟨r,F,fs,C,_⟩
  ·omega
  ·grind
  grind
 ·intro b u hu;obtain⟨r,F⟩:=BY b u hu;have:=(H.tree b u r F).1
  grind
 ·intro b B h;have o:=(ki.1 h).1;rw[(d.bk b B h).2.1,L,H.fi b (by grind)]
 ·rw[L];exact LR λi ab hm=>(H.tree i 0 ab hm).2.1 rfl
 ·intro b B h m u hu;have o:b<t.blocks.length:=by grind
  have e:=(d.bk b B h).1;have S:u∈nx b:=by rw[<-e];exact hu
  have J:b<hi:=by
   by_cases e2:b=hi
   ·simp_all
   ·omega
  have Q:(nx b).length=2:=by
   rw[<-e];rcases(d.bk b B h).2.2 with g|⟨_,F,_⟩|⟨r,_⟩
   ·omega
   ·exact F
   ·omega
  rw[L,<-H.fi u (H.tree b u J S).1];exact H.Lz b J Q u S
 ·intro b o;have ae:b<t.blocks.length:=o;obtain⟨l,Q⟩:=H.reach b (by omega);have ag:∀{b l},Pn nx hi b l->Pt (next ⟨f,p,t.s.ej,t.blocks,t.s.ev⟩) b l:=by
   intro b l h
   induction h with
   |nil=>exact .nil
   |step _ hp e X=>exact .step X (by grind)
  grind
 ·intro v b k x n m E w N;obtain⟨c,r,F,_⟩:=(d.Mn v x m).own
  grind
 ·intro v b k x B n m E K j w q h5 h6;obtain⟨c,r,_,C⟩:=d.ph v x m E;obtain rfl:=A r (z n);rw[(d.bk c B K).2.1]at h6;exact G ((C id).2 j w q h5 h6)
 ·intro v b k x fs n m E K w N;obtain⟨c,r,_,C,_⟩:=(d.Mn v x m).own
  grind
 ·intro b B h m;rcases(d.bk b B h).2.2 with g|⟨_,_,C⟩|⟨r,_⟩
  ·omega
  ·simp_all
  ·omega
 ·intro b B fs h m E w N;rcases(d.bk b B h).2.2 with g|⟨r,_,_⟩|⟨_,_,ak,C,g4⟩
  ·omega
  ·omega
  simp_all
theorem Pu:∀(n i:Nat) (s:Ds),(params n i s).ej.length=s.ej.length+n/\(params n i s).ev=s.ev
 |0,_,_=>⟨rfl,rfl⟩
 | n+1,i,s=>by
   obtain⟨a,b⟩:=Pu n (i+1) (jd s (vl 1 0 0 (i:Nat) [] 0))
   grind[params,jd]
theorem Wg(ops c:List Int) (n:Int):Good (IB ops c n):=by
 have d:=Xm ops c n;have hp:=Pu (mS n 5) 0 ⟨[],[],[],[],0⟩;have f:=Ha n (m:=5) (by omega);obtain⟨r1,r2⟩:=Gq ops (jd (params (mS n 5) 0 ⟨[],[],[],[],0⟩) (vl 2 0 0 5 [] 0));have g:(jd (params (mS n 5) 0 ⟨[],[],[],[],0⟩) (vl 2 0 0 5 [] 0)).ej.length=mS n 5+1:=by
  simp only[jd,KC,List.length_singleton,hp.1];simp
 have h:(jd (params (mS n 5) 0 ⟨[],[],[],[],0⟩) (vl 2 0 0 5 [] 0)).ev=[]:=hp.2;have e:XG ⟨row ops (jd (params (mS n 5) 0 ⟨[],[],[],[],0⟩) (vl 2 0 0 5 [] 0)),[],[]⟩ 0:=by
  have a:=r1.ej;have b:=r1.ev;rw[g]at a b r2;rw[h]at b;refine⟨by grind,?_,jO _⟩;show(row ops _).ev.length<=(row ops _).ej.length+0;simp at b;omega
 have hb:=N2 ops (c.take 6) e;have hlen:(c.take 6).length<=6:=by rw[Mq];omega
 unfold IB;simp only;generalize mz ops (c.take 6) ⟨row ops (jd (params (mS n 5) 0 ⟨[],[],[],[],0⟩) (vl 2 0 0 5 [] 0)),[],[]⟩=t at*;obtain⟨D,pr,nx,i,j,k⟩:=zaa ops d;obtain⟨l,o,_⟩:=Ed ops t.s;have v:=hb.ej;have s:=hb.ev;have bl:=hb.blocks;refine Z9 i j k (by simp[end_,on]) rfl ?_ ?_ ?_ 1 2
 ·show(fK ops t.s).2.ej.length<=3000
  grind
 ·show(fK ops t.s).2.ev.length<=1000;omega
 ·show(t.blocks++[_]).length<=300
  grind
open Dm
def zb8(u:U) (v:Nat):Bool:=match u.ej[v]? with
 |some x=>iO x.op
 |none=>false
def ZE(u:U) (b:Nat):List Nat:=match u.blocks[b]? with
 |some B=>B.ej
 |none=>[]
def zci(u:U)(t w:Nat):Prop:=w∈ZE u t/\zb8 u w=true
def Ti(u:U) (s:Nat):List Nat:=match u.ev[s]? with
 |some fs=>ik fs
 |none=>[]
def zdB(u:U) (v:Nat):List Nat:=match u.ej[v]? with
 |some x=>hK x++(if leaves x.op=true then Ti u x.state else[])
 |none=>[]
def ln(In H:Nat->Nat->Prop):List Nat->(Nat->Prop)->Nat->Prop
 |[],P=>P
 |t::ts,P=>ln In H ts λw=>(P w\/In t w)/\¬H t w
def zbh(u:U)(b w:Nat):Prop:=∃t∈next u b,∃(B:Bk) (v:Nat) (x:Vl) (j:Nat),u.blocks[t]? =some B/\v∈B.ej/\u.ej[v]? =some x/\x.op=21/\B.fi[j]? =some b/\x.args[j]? =some w
def ZZ(u:U)(b w:Nat):Prop:=∃B:Bk,u.blocks[b]? =some B/\(B.fin=2/\w=B.cond\/B.fin=3/\w∈Ti u B.state)
def zdX(u:U)(H In:Nat->Nat->Prop)(b w:Nat):Prop:=ln In H (next u b) (λ_=>False) w\/zbh u b w\/ZZ u b w
def bk(u:U):List Nat->(Nat->Prop)->Nat->Prop
 |[],P=>P
 |v::r,P=>if zb8 u v=true then P else bk u r λw=>(P w/\w≠v)\/w∈zdB u v
def zch(u:U)(b:Nat)(O:Nat->Prop):Nat->Prop:=bk u (ZE u b).reverse O
def Tr(u:U)(H In:Nat->Nat->Prop)(b:Nat):Nat->Prop:=zch u b (zdX u H In b)
structure zfO (u:U) (H In:Nat->Nat->Prop):Prop where
 up:∀b w,In b w->Tr u H In b w
 least:∀X:Nat->Nat->Prop,(∀b w,b<u.blocks.length->Tr u H X b w->X b w)->∀b w,In b w->X b w
structure zet (u:U) (H In Out:Nat->Nat->Prop):Prop where
 out:∀b w,b<u.blocks.length->(Out b w↔zdX u H In b w)
 MB:∀b w,b<u.blocks.length->(In b w↔zch u b (Out b) w)
 least:∀X:Nat->Nat->Prop,(∀b w,b<u.blocks.length->Tr u H X b w->X b w)->∀b w,In b w->X b w
section
variable{u:U}(g:Good u)
include g
theorem Good.YM{p b:Nat} (h:b∈next u p):p<u.blocks.length/\b<u.blocks.length/\b≠0:=by
 refine⟨?_,g.nx p b h,λe=>?_⟩
 ·grind[next,ki]
 ·subst e;have:=Hq.2 h;rw[g.Hf]at this;cases this
variable{In Out:Nat->Nat->Prop}(h:zet u (zci u) In Out)
include h
end
