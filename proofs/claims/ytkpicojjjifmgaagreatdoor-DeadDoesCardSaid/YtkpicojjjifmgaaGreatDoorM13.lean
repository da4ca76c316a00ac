/- Parts. -/
import Derived.Test.YtkpicojjjifmgaaGreatDoorM12
namespace Go.Proofs.YtkpicojjjifmgaaGreatDoor.Un
open Dm
def pW(nx:Nat->List Nat)(n b:Nat):List Nat:=(List.range n).flatMap λi=>((nx i).filter (·= b)).map λ_=>i
theorem lZ(nx:Nat->List Nat) (n b:Nat):pW nx (n+1) b=pW nx n b++((nx n).filter (·= b)).map λ_=>n:=by
 unfold pW;rw[Yl,wBa];simp
theorem zH{nx VZ:Nat->List Nat} (n b:Nat) (h:∀i,i<n->VZ i=nx i):pW VZ n b=pW nx n b:=by
 induction n with
 |zero=>rfl
 |succ n a=>rw[lZ,lZ,a λi hi=>h i (by omega),h n (by omega)]
theorem Mw{nx:Nat->List Nat} {n b q:Nat}:q∈pW nx n b↔q<n/\b∈nx q:=by
 unfold pW;rw[RT];constructor
 ·rintro⟨i,a,c⟩;obtain⟨t,e,rfl⟩:=LN.1 c;have d:=PU.1 e;simp at d;rw[<-d.2];exact⟨YQ.1 a,d.1⟩
 ·rintro⟨a,c⟩;exact⟨q,YQ.2 a,LN.2 ⟨b,PU.2 ⟨c,by simp⟩,rfl⟩⟩
theorem KA{nx:Nat->List Nat} {n b:Nat} (h:∀i,i<n->b ∉ nx i):pW nx n b=[]:=by
 apply List.eq_nil_iff_forall_not_mem.2;intro q hq;obtain⟨a,c⟩:=Mw.1 hq;exact h q a c
inductive Pn (nx:Nat->List Nat) (n:Nat):Nat->List Nat->Prop
 |nil:Pn nx n 0 [0]
 |step {p b:Nat} {l:List Nat} (h:Pn nx n p l) (hp:p<n) (e:b∈nx p):Pn nx n b (b::l)
theorem Pn.mono{nx VZ:Nat->List Nat} {n a:Nat} (d:n<=a) (c:∀i,i<n->VZ i=nx i):∀{b l},Pn nx n b l->Pn VZ a b l
 |_,_,.nil=> .nil
 |_,_,.step h hp e=> .step (h.mono d c) (by omega) (by rw[c _ hp];exact e)
structure Gh (D:Nat->Nat) (pr nx:Nat->List Nat) (hi:Nat):Prop where
 tree:∀p b,p<hi->b∈nx p->b<=hi/\b≠0/\qp D (D b) p
 down:∀b,b≠0->b<=hi->D b<b
 fh:∀b,b<=hi->pr b=pW nx hi b
 reach:∀b,b<=hi->∃l,Pn nx hi b l
 MS:∀p,p<hi->(nx p).length=2->∀t∈nx p,(pr t).length=1
theorem Cy{D D':Nat->Nat} {hi:Nat} (c:∀b,b≠0->b<=hi->D b<b) (d:∀b,b<=hi->D' b=D b) {x b:Nat} (h:qp D x b):b<=hi->qp D' x b:=by
 induction h with
 |refl=>exact λ_=> .refl _
 | up h0 _ e=>
   rename_i b _;intro a;have:=c b h0 a;exact .up h0 (by rw[d b a];exact e (by omega))
theorem ZX{t:Dt} {v b:Nat} (h:Ow t v b):b<=t.blocks.length:=by
 rcases h with⟨B,a,_⟩|⟨a,_⟩
 ·exact Nat.le_of_lt (jR.1 a).1
 ·omega
section
variable{D D':Nat->Nat}{pr nx pr' VZ:Nat->List Nat}{E:Nat->Prop}{t:Dt}
theorem py.UO(e:py D pr nx E t) (F:Gh D pr nx t.blocks.length) (r:∀b,b<=t.blocks.length->D' b=D b) (k:∀b,b<=t.blocks.length->pr' b=pr b) (u:∀b,b<t.blocks.length->VZ b=nx b):py D' pr' VZ E t:=by
 have kn:∀{a w},a<=t.blocks.length->Kn D t a w->Kn D' t a w:=λJ ⟨b,x,l,o,n⟩=>⟨b,x,l,Cy F.down r o J,n⟩
 refine⟨e.cat,λv x h=>?_,λv x h K=>?_,λb B h=>?_,λs fs h=>?_,by rw[k _ (jK _)];exact e.pc,e.ne,λw c=>kn (jK _) (e.kn w c)⟩
 ·have p:=e.KY v x h;obtain⟨b,l,o,n,L⟩:=p.own;refine⟨p.op,p.putAt,p.par,b,l,λG w c=>⟨(o G w c).1,kn (ZX l) (o G w c).2⟩,λM=>?_,L⟩;obtain⟨fs,d,i⟩:=n M;exact⟨fs,d,λw c=>⟨(i w c).1,kn (ZX l) (i w c).2⟩⟩
 ·obtain⟨b,d,i,m⟩:=e.ph v x h K;refine⟨b,d,i,λH=>?_⟩;rw[k b (ZX d)];refine⟨(m H).1,λj w q N I=>kn ?_ ((m H).2 j w q N I)⟩;have:=Ik I;rw[F.fh b (ZX d)]at this;exact Nat.le_of_lt (Mw.1 this).1
 ·have y:=(jR.1 h).1;obtain⟨d,i,m⟩:=e.bk b B h;refine⟨by rw[u b y];exact d,by rw[k b (by omega)];exact i,?_⟩;rcases m with g|⟨z,A,C⟩|⟨z,A,fs,C,O⟩
  ·exact .inl g
  ·exact .inr (.inl ⟨z,A,kn (by omega) C⟩)
  ·exact .inr (.inr ⟨z,A,fs,C,λw c=>kn (by omega) (O w c)⟩)
 ·obtain⟨d,i⟩:=e.st s fs h;refine⟨d,λf P=>?_⟩;obtain⟨m,Q,R,S⟩:=i f P;have own:∀w,(∃a,Kn D t a w)->∃a,Kn D' t a w:=λw ⟨a,b,x,l,_,n⟩=>⟨b,b,x,l,.refl _,n⟩
  exact⟨m,Q,λw c=>own w (R w c),λw c=>own w (S w c)⟩
end
def ext{α:Type}(hi:Nat)(f:Nat->α)(g:Nat->α):Nat->α:=λb=>if b<=hi then f b else g (b-hi)
def tp(hi:Nat)(f:Nat->List Nat)(g:Nat->List Nat):Nat->List Nat:=λb=>if b<hi then f b else g (b-hi)
theorem mN{α:Type}{hi b:Nat}{f g:Nat->α}(h:b<=hi):ext hi f g b=f b:=by unfold ext;rw[if_pos h]
theorem iC{α:Type}{hi k:Nat}{f g:Nat->α}(h:0<k):ext hi f g (hi+k)=g k:=by unfold ext;rw[if_neg (by omega),wBe]
theorem Ai{hi b:Nat}{f g:Nat->List Nat}(h:b<hi):tp hi f g b=f b:=by unfold tp;rw[if_pos h]
theorem lV{hi k:Nat}{f g:Nat->List Nat}:tp hi f g (hi+k)=g k:=by unfold tp;rw[if_neg (by omega),wBe]
section
variable{D:Nat->Nat}{pr nx:Nat->List Nat}{hi:Nat}
theorem Gh.none(a:Gh D pr nx hi) {b:Nat} (d:hi<b):pW nx hi b=[]:=KA λi h c=>by
 have:=(a.tree i b h c).1;omega
def dF(hi:Nat)(k:Nat):Nat:=hi
def pF(hi k:Nat):List Nat:=if k=3 then[hi+1,hi+2] else[hi]
def nF(hi k:Nat):List Nat:=if k=0 then[hi+1,hi+2] else[hi+3]
theorem Gh.fork(c:Gh D pr nx hi):Gh (ext hi D (dF hi)) (ext hi pr (pF hi)) (tp hi nx (nF hi)) (hi+3):=by
 have d:∀k,0<k->ext hi D (dF hi) (hi+k)=hi:=λk s=>iC s;have n0:tp hi nx (nF hi) hi=[hi+1,hi+2]:=lV (k:=0);have j:tp hi nx (nF hi) (hi+1)=[hi+3]:=lV (k:=1);have n:tp hi nx (nF hi) (hi+2)=[hi+3]:=lV (k:=2);have o:∀b,b<=hi->ext hi D (dF hi) b=D b:=λb h=>mN h;have yO:∀i,i<hi->tp hi nx (nF hi) i=nx i:=λi h=>Ai h;have q:∀b,pW (tp hi nx (nF hi)) (hi+3) b=pW nx hi b++([hi+1,hi+2].filter (·= b)).map (λ_=>hi)++([hi+3].filter (·= b)).map (λ_=>hi+1)++([hi+3].filter (·= b)).map (λ_=>hi+2):=λb=>by
  rw[lZ,lZ,lZ,zH hi b yO,n0,j,n]
 have low:∀b,b<=hi+3->b<=hi\/b=hi+1\/b=hi+2\/b=hi+3:=λb h=>by omega
 refine⟨λp b hp a=>?_,λb h0 a=>?_,λb a=>?_,λb a=>?_,λp hp e t g=>?_⟩
 ·have f:p<hi\/p=hi\/p=hi+1\/p=hi+2:=by omega
  rcases f with h|rfl|rfl|rfl
  ·rw[yO p h]at a;obtain⟨m,u,v⟩:=c.tree p b h a;exact⟨by omega,u,by rw[o b m];exact Cy c.down o v (by omega)⟩
  ·rw[n0]at a;simp at a;rcases a with rfl|rfl
   ·exact⟨by omega,by omega,by rw[d 1 (by omega)];exact .refl _⟩
   ·exact⟨by omega,by omega,by rw[d 2 (by omega)];exact .refl _⟩
  ·rw[j]at a;simp at a;subst a;exact⟨by omega,by omega,by rw[d 3 (by omega)];exact Jo (by omega) (d 1 (by omega))⟩
  ·rw[n]at a;simp at a;subst a;exact⟨by omega,by omega,by rw[d 3 (by omega)];exact Jo (by omega) (d 2 (by omega))⟩
 ·rcases low b a with h|rfl|rfl|rfl
  ·rw[o b h];exact c.down b h0 h
  ·rw[d 1 (by omega)];omega
  ·rw[d 2 (by omega)];omega
  ·rw[d 3 (by omega)];omega
 ·rw [q];rcases low b a with h|rfl|rfl|rfl
  ·rw[mN h,c.fh b h];have w:¬hi+1=b:=by omega
   have x:¬hi+2=b:=by omega
   have y:¬hi+3=b:=by omega
   simp[w,x,y]
  ·rw[iC (by omega),c.none (by omega)];simp[pF]
  ·rw[iC (by omega),c.none (by omega)];simp[pF]
  ·rw[iC (by omega),c.none (by omega)];simp[pF]
 ·obtain⟨l,e⟩:=c.reach hi (jK _);have h0:Pn (tp hi nx (nF hi)) (hi+3) hi l:=e.mono (by omega) yO;have m:Pn (tp hi nx (nF hi)) (hi+3) (hi+1) ((hi+1)::l):= .step h0 (by omega) (by rw[n0];simp);rcases low b a with h|rfl|rfl|rfl
  ·obtain⟨z,r⟩:=c.reach b h;exact⟨z,r.mono (by omega) yO⟩
  ·exact⟨_,m⟩
  ·exact⟨_,.step h0 (by omega) (by rw[n0];simp)⟩
  ·exact⟨_,.step m (by omega) (by rw[j];simp)⟩
 ·have f:p<hi\/p=hi\/p=hi+1\/p=hi+2:=by omega
  rcases f with h|rfl|rfl|rfl
  ·rw[yO p h]at e g;rw[mN (c.tree p t h g).1];exact c.MS p h e t g
  ·rw[n0]at g;simp at g;rcases g with rfl|rfl
   ·rw[iC (by omega)];rfl
   ·rw[iC (by omega)];rfl
  ·rw[j]at e;simp at e
  ·rw[n]at e;simp at e
def nX(hi k:Nat):List Nat:=if k=0 then[hi+1,hi+2] else[]
def pX(hi _k:Nat):List Nat:=[hi]
theorem Gh.exit(c:Gh D pr nx hi):Gh (ext hi D (dF hi)) (ext hi pr (pX hi)) (tp hi nx (nX hi)) (hi+2):=by
 have g:∀k,0<k->ext hi D (dF hi) (hi+k)=hi:=λk q=>iC q;have n0:tp hi nx (nX hi) hi=[hi+1,hi+2]:=lV (k:=0);have j:tp hi nx (nX hi) (hi+1)=[]:=lV (k:=1);have m:∀b,b<=hi->ext hi D (dF hi) b=D b:=λb h=>mN h;have yO:∀i,i<hi->tp hi nx (nX hi) i=nx i:=λi h=>Ai h;have n:∀b,pW (tp hi nx (nX hi)) (hi+2) b=pW nx hi b++([hi+1,hi+2].filter (·= b)).map (λ_=>hi):=λb=>by
  rw[lZ,lZ,zH hi b yO,n0,j];simp
 have low:∀b,b<=hi+2->b<=hi\/b=hi+1\/b=hi+2:=λb h=>by omega
 refine⟨λp b hp a=>?_,λb h0 a=>?_,λb a=>?_,λb a=>?_,λp hp e t f=>?_⟩
 ·have d:p<hi\/p=hi\/p=hi+1:=by omega
  rcases d with h|rfl|rfl
  ·rw[yO p h]at a;obtain⟨r,s,u⟩:=c.tree p b h a;exact⟨by omega,s,by rw[m b r];exact Cy c.down m u (by omega)⟩
  ·rw[n0]at a;simp at a;rcases a with rfl|rfl
   ·exact⟨by omega,by omega,by rw[g 1 (by omega)];exact .refl _⟩
   ·exact⟨by omega,by omega,by rw[g 2 (by omega)];exact .refl _⟩
  ·rw[j]at a;cases a
 ·rcases low b a with h|rfl|rfl
  ·rw[m b h];exact c.down b h0 h
  ·rw[g 1 (by omega)];omega
  ·rw[g 2 (by omega)];omega
 ·rw [n];rcases low b a with h|rfl|rfl
  ·rw[mN h,c.fh b h];have v:¬hi+1=b:=by omega
   have w:¬hi+2=b:=by omega
   simp[v,w]
  ·rw[iC (by omega),c.none (by omega)];simp[pX]
  ·rw[iC (by omega),c.none (by omega)];simp[pX]
 ·obtain⟨l,e⟩:=c.reach hi (jK _);have h0:Pn (tp hi nx (nX hi)) (hi+2) hi l:=e.mono (by omega) yO;rcases low b a with h|rfl|rfl
  ·obtain⟨x,o⟩:=c.reach b h;exact⟨x,o.mono (by omega) yO⟩
  ·exact⟨_,.step h0 (by omega) (by rw[n0];simp)⟩
  ·exact⟨_,.step h0 (by omega) (by rw[n0];simp)⟩
 ·have d:p<hi\/p=hi\/p=hi+1:=by omega
  rcases d with h|rfl|rfl
  ·rw[yO p h]at e f;rw[mN (c.tree p t h f).1];exact c.MS p h e t f
  ·rw[n0]at f;simp at f;rcases f with rfl|rfl
   ·rw[iC (by omega)];rfl
   ·rw[iC (by omega)];rfl
  ·rw[j]at e;simp at e
def dL(hi k:Nat):Nat:=if k=1 then hi else hi+1
def pL(hi k:Nat):List Nat:=if k=1 then[hi,hi+2] else[hi+1]
def nL(hi k:Nat):List Nat:=if k=1 then[hi+2,hi+3] else[hi+1]
theorem Gh.loop(c:Gh D pr nx hi):Gh (ext hi D (dL hi)) (ext hi pr (pL hi)) (tp hi nx (nL hi)) (hi+3):=by
 have d:ext hi D (dL hi) (hi+1)=hi:=iC (by omega);have f:ext hi D (dL hi) (hi+2)=hi+1:=iC (by omega);have m:ext hi D (dL hi) (hi+3)=hi+1:=iC (by omega);have n0:tp hi nx (nL hi) hi=[hi+1]:=lV (k:=0);have n:tp hi nx (nL hi) (hi+1)=[hi+2,hi+3]:=lV (k:=1);have q:tp hi nx (nL hi) (hi+2)=[hi+1]:=lV (k:=2);have r:∀b,b<=hi->ext hi D (dL hi) b=D b:=λb h=>mN h;have yO:∀i,i<hi->tp hi nx (nL hi) i=nx i:=λi h=>Ai h;have s:∀b,pW (tp hi nx (nL hi)) (hi+3) b=pW nx hi b++([hi+1].filter (·= b)).map (λ_=>hi)++([hi+2,hi+3].filter (·= b)).map (λ_=>hi+1)++([hi+1].filter (·= b)).map (λ_=>hi+2):=λb=>by
  rw[lZ,lZ,lZ,zH hi b yO,n0,n,q]
 have low:∀b,b<=hi+3->b<=hi\/b=hi+1\/b=hi+2\/b=hi+3:=λb h=>by omega
 refine⟨λp b hp a=>?_,λb h0 a=>?_,λb a=>?_,λb a=>?_,λp hp e t j=>?_⟩
 ·have g:p<hi\/p=hi\/p=hi+1\/p=hi+2:=by omega
  rcases g with h|rfl|rfl|rfl
  ·rw[yO p h]at a;obtain⟨o,v,w⟩:=c.tree p b h a;exact⟨by omega,v,by rw[r b o];exact Cy c.down r w (by omega)⟩
  ·rw[n0]at a;simp at a;subst a;exact⟨by omega,by omega,by rw[d];exact .refl _⟩
  ·rw[n]at a;simp at a;rcases a with rfl|rfl
   ·exact⟨by omega,by omega,by rw[f];exact .refl _⟩
   ·exact⟨by omega,by omega,by rw[m];exact .refl _⟩
  ·rw[q]at a;simp at a;subst a;exact⟨by omega,by omega,by rw[d];exact(Jo (by omega) d).trans (Jo (by omega) f)⟩
 ·rcases low b a with h|rfl|rfl|rfl
  ·rw[r b h];exact c.down b h0 h
  ·rw[d];omega
  ·rw[f];omega
  ·rw[m];omega
 ·rw [s];rcases low b a with h|rfl|rfl|rfl
  ·rw[mN h,c.fh b h];have x:¬hi+1=b:=by omega
   have y:¬hi+2=b:=by omega
   have z:¬hi+3=b:=by omega
   simp[x,y,z]
  ·rw[iC (by omega),c.none (by omega)];simp[pL]
  ·rw[iC (by omega),c.none (by omega)];simp[pL]
  ·rw[iC (by omega),c.none (by omega)];simp[pL]
 ·obtain⟨l,e⟩:=c.reach hi (jK _);have h0:Pn (tp hi nx (nL hi)) (hi+3) hi l:=e.mono (by omega) yO;have o:Pn (tp hi nx (nL hi)) (hi+3) (hi+1) ((hi+1)::l):= .step h0 (by omega) (by rw[n0];simp);rcases low b a with h|rfl|rfl|rfl
  ·obtain⟨A,u⟩:=c.reach b h;exact⟨A,u.mono (by omega) yO⟩
  ·exact⟨_,o⟩
  ·exact⟨_,.step o (by omega) (by rw[n];simp)⟩
  ·exact⟨_,.step o (by omega) (by rw[n];simp)⟩
 ·have g:p<hi\/p=hi\/p=hi+1\/p=hi+2:=by omega
  rcases g with h|rfl|rfl|rfl
  ·rw[yO p h]at e j;rw[mN (c.tree p t h j).1];exact c.MS p h e t j
  ·rw[n0]at e;simp at e
  ·rw[n]at j;simp at j;rcases j with rfl|rfl
   ·rw[iC (by omega)];rfl
   ·rw[iC (by omega)];rfl
  ·rw[q]at e;simp at e
end
open Dm
def noE:Nat->Prop:=λ_=>False
def Ok(t:Dt):Prop:=∃D pr nx,Gh D pr nx t.blocks.length/\py D pr nx noE t
theorem Ok.fork{t:Dt} (ops:List Int) (h:Ok t):Ok (fork ops t):=by
 obtain⟨D,pr,nx,c,d⟩:=h;generalize a:t.blocks.length=hi at*;have b:=d.UO (D':=ext hi D (dF hi)) (pr':=ext hi pr (pF hi)) (VZ:=tp hi nx (nF hi)) (by simp_all) (by grind[mN]) (by grind[mN]) (by grind[Ai])
 obtain ⟨e,f⟩:=Zu b ops (by rw[a];exact lV (k:=0)) (by rw[a];exact lV (k:=1)) (by rw[a];exact lV (k:=2)) (by rw[a];exact iC (by omega)) (by rw[a];exact iC (by omega)) (by rw[a];exact iC (by omega))
  (by rw[a];exact iC (by omega)) (by rw[a];exact iC (by omega)) (by rw[a];exact iC (by omega))
 exact⟨_,_,_,by rw[f,a];exact c.fork,e⟩
theorem Ok.exit{t:Dt} (ops:List Int) (h:Ok t):Ok (yp ops t):=by
 obtain⟨D,pr,nx,c,d⟩:=h;generalize a:t.blocks.length=hi at*;have b:=d.UO (D':=ext hi D (dF hi)) (pr':=ext hi pr (pX hi)) (VZ:=tp hi nx (nX hi)) (by simp_all) (by grind[mN]) (by grind[mN]) (by grind[Ai])
 obtain ⟨e,f⟩:=Y8 b ops (by rw[a];exact lV (k:=0)) (by rw[a];exact lV (k:=1)) (by rw[a];exact iC (by omega)) (by rw[a];exact iC (by omega))
  (by rw[a];exact iC (by omega)) (by rw[a];exact iC (by omega))
 exact⟨_,_,_,by rw[f,a];exact c.exit,e⟩
theorem Ok.loop{t:Dt} (ops:List Int) (h:Ok t):Ok (loop ops t):=by
 obtain⟨D,pr,nx,c,d⟩:=h;generalize a:t.blocks.length=hi at*;have b:=d.UO (D':=ext hi D (dL hi)) (pr':=ext hi pr (pL hi)) (VZ:=tp hi nx (nL hi)) (by simp_all) (by grind[mN]) (by grind[mN]) (by grind[Ai])
 obtain ⟨e,f⟩:=Z3 b ops (by rw[a];exact lV (k:=0)) (by rw[a];exact lV (k:=1)) (by rw[a];exact lV (k:=2)) (by rw[a];exact iC (by omega)) (by rw[a];exact iC (by omega)) (by rw[a];exact iC (by omega))
  (by rw[a];exact iC (by omega)) (by rw[a];exact iC (by omega)) (by rw[a];exact iC (by omega))
 exact⟨_,_,_,by rw[f,a];exact c.loop,e⟩
theorem Ok.lW(ops:List Int):∀(l:List Int) {t:Dt},Ok t->Ok (lW ops l t)
 |[],_,h=>h
 | k ::l,t,h=>by
   unfold Un.lW;split
   ·refine Ok.lW ops l ?_
    unfold uE;split
    ·exact h.fork ops
    split
    ·exact h.loop ops
    ·exact h.exit ops
   ·exact h
def t0(s:Ds):Dt:=⟨s,[],[]⟩
structure Ps (s:Ds) (i:Nat):Prop where
 eh:s.eh.length=i
 all:∀(v:Nat) (x:Vl),s.eh[v]? =some x->x=vl 1 0 0 (v:Nat) [] 0
 cur:s.cur=List.range i
 known:s.known=List.range i
 en:s.en=[]
theorem NW:∀(n i:Nat) (s:Ds),Ps s i->Ps (params n i s) (i+n)
 |0,i,s,h=>h
 | n + 1,i,s,h=>by
   have:=NW n (i+1) (jc s (vl 1 0 0 (i:Nat) [] 0)) ⟨by simp[jc,h.eh],λv x hv=>?_,by simp only[jc];rw[h.cur,h.eh,Yl],by simp only[jc];rw[h.known,h.eh,Yl],h.en⟩
   ·rw[show i+(n+1)=i+1+n by omega]
    exact this
   ·have a:(s.eh++[vl 1 0 0 (i:Nat) [] 0])[v]? =some x:=hv
    by_cases Nr:v<s.eh.length
    ·rw[PX Nr]at a
     exact h.all v x a
    ·have c:=(jR.1 a).1
     simp at c;have b:v=s.eh.length:=by omega
     subst b;rw[wBX]at a;rw[h.eh]
     simp_all
theorem gh0:Gh (λ_=>0) (λ_=>[]) (λ_=>[]) 0:=
 ⟨by omega,by omega,λb a=>rfl,λb a=>by
  obtain rfl:b=0:=by omega
  exact⟨[0],.nil⟩,by omega⟩
theorem Wc{s:Ds} {n:Nat} (h:Ps s n) (o:n<=5):py (λ_=>0) (λ_=>[]) (λ_=>[]) noE (t0 (jc s (vl 2 0 0 5 [] 0))):=by
 have c:(t0 (jc s (vl 2 0 0 5 [] 0))).s.eh=s.eh++[vl 2 0 0 5 [] 0]:=rfl;have d:(t0 (jc s (vl 2 0 0 5 [] 0))).s.cur=List.range (n+1):=by
  show s.cur++[s.eh.length]=_;rw[h.cur,h.eh,Yl]
 have hlen:(t0 (jc s (vl 2 0 0 5 [] 0))).s.eh.length=n+1:=by rw[c];simp[h.eh]
 have a:∀(v:Nat) (x:Vl),(t0 (jc s (vl 2 0 0 5 [] 0))).s.eh[v]? =some x->(v<n/\x=vl 1 0 0 (v:Nat) [] 0)\/(v=n/\x=vl 2 0 0 5 [] 0):=λv x hv=>by
  rw[c]at hv;by_cases e:v<s.eh.length
  ·rw[PX e]at hv;exact .inl ⟨by simp_all,h.all v x hv⟩
  grind
 have j:∀v,v<n+1->Ow (t0 (jc s (vl 2 0 0 5 [] 0))) v 0:=λv hv=> .inr ⟨rfl,by simp_all⟩;have k:∀v,v<n+1->Kn (λ_=>0) (t0 (jc s (vl 2 0 0 5 [] 0))) 0 v:=λv hv=>by
  have i:∃x,(t0 (jc s (vl 2 0 0 5 [] 0))).s.eh[v]? =some x:=by simp_all
  obtain⟨x,i⟩:=i;refine⟨0,x,j v hv,.refl _,i,?_⟩;rcases a v x i with⟨_,rfl⟩|⟨_,rfl⟩ <;> rfl
 refine⟨?_,λv x hv=>?_,λv x hv p=>?_,λb B m=>(by cases m),λst fs hs=>?_,rfl,?_,λw l=>?_⟩
 ·rw[hlen,d];rfl
 ·rcases a v x hv with⟨e,rfl⟩|⟨rfl,rfl⟩
  ·refine⟨by simp[vl],by grind[vl],λ_=>⟨by grind,rfl,by omega⟩,0,by grind,by grind[jk,vl,two,pY],by grind[vl,leaves],λ_ w _ l=>?_⟩
   grind[t0,jc,vl,hO]
  ·exact⟨by simp[vl],by grind[vl],by grind[vl],0,by simp_all,by grind[jk,vl,two,pY],by grind[vl,leaves],by grind[vl,iU]⟩
 ·rcases a v x hv with⟨_,rfl⟩|⟨_,rfl⟩
  ·grind[vl]
  grind[vl]
 ·have f:s.en[st]? =some fs:=hs;rw[h.en]at f;cases f
 ·show s.known++[s.eh.length]≠[];simp
 ·have g:w∈s.known++[s.eh.length]:=l;rw[h.known,h.eh,<-Yl]at g;exact k w (YQ.1 g)
theorem VM(ops a:List Int) (n:Int):Ok (lW ops (a.take 6) ⟨row ops (jc (params (mK n 5) 0 ⟨[],[],[],[],0⟩) (vl 2 0 0 5 [] 0)),[],[]⟩):=by
 have h0:Ps ⟨[],[],[],[],0⟩ 0:=⟨rfl,by simp_all,rfl,rfl,rfl⟩
 have b:=NW (mK n 5) 0 _ h0;rw[zA]at b;have c:=Wc b (by simp_all[Nat.le_of_lt,FB]);obtain⟨d,_⟩:=c.row ops;exact Ok.lW ops _ ⟨_,_,_,gh0,d⟩
open Dm
theorem T3:∀(l:List Bk),(l.flatMap λB=>B.eh).Pairwise (·< ·)->∀(b f k k':Nat) (B a:Bk) (v d:Nat),l[b]? =some B->l[f]? =some a->B.eh[k]? =some v->a.eh[k']? =some d->(b<f->v<d)/\(b=f->k<k'->v<d)
 |[],_,b,_,_,_,_,_,_,_,h,_,_,_=>by simp_all
 | C ::l,hp,b,f,k,k',B,a,v,d,e,c,j,o=>by
   rw[wB1,List.pairwise_append]at hp;obtain⟨p1,p2,p3⟩:=hp
   match b,f,e,c with
   | 0,0,e,c=>
     obtain rfl:C=B:=by simp_all
     obtain rfl:C=a:=by simp_all
     grind[jR,Zm]
   | 0,n+1,e,c=>
     obtain rfl:C=B:=by simp_all
     have g:l[n]? =some a:=by simpa using c
     refine⟨λ_=>p3 v (Ik j) d (by grind),by omega⟩
   |n+1,0,e,c=>omega
   | n+1,m+1,e,c=>
     have i:l[n]? =some B:=by simpa using e
     have g:l[m]? =some a:=by simpa using c
     have:=T3 l p2 n m k k' B a v d i g j o;omega
section
variable{u:U}(hc:u.blocks.flatMap (λB=>B.eh)=List.range u.eh.length)
include hc
theorem Co{v a b c k k':Nat} (h:At u v b k) (h':At u a c k'):(b<c->v<a)/\(b=c->k<k'->v<a):=by
 obtain⟨B,d,e⟩:=h;obtain⟨f,g,i⟩:=h'
 grind[T3,List.pairwise_lt_range]
theorem Uj{v b a k k':Nat} (h:At u v b k) (h':At u v a k'):b=a/\k=k':=by
 have d:=(Co hc h h').1;have e:=(Co hc h' h).1;have c:b=a:=by
  rcases wBi b a with h|h|h
  ·omega
  ·exact h
  ·omega
 have f:=(Co hc h h').2 c;have g:=(Co hc h' h).2 c.symm;omega
theorem Yk{v a b k k':Nat} (h:At u v b k) (h':At u a b k') (c:v<a):k<k':=by
 rcases wBi k k' with g|g|g
 ·exact g
 ·subst g;obtain⟨B,d,e⟩:=h;obtain⟨f,i,j⟩:=h'
  simp_all
 ·have:=(Co hc h' h).2 rfl g;omega
theorem XX{v:Nat} (hv:v<u.eh.length):∃b k,At u v b k:=by
 have:v∈u.blocks.flatMap (λB=>B.eh):=by rw[hc];exact YQ.2 hv
 obtain⟨B,a,c⟩:=RT.1 this;obtain⟨b,d⟩:=oD.1 a;obtain⟨k,e⟩:=oD.1 c;exact⟨b,k,B,d,e⟩
theorem zdv{v b k:Nat} (h:At u v b k):v<u.eh.length:=by
 obtain⟨B,a,c⟩:=h;have:v∈u.blocks.flatMap (λB=>B.eh):=by grind
 simp_all
end
theorem FD(ops:List Int):∀(i:Nat) (s:Ds) (l:List Nat),∃p,(some_ ops i s l).2 = {s with pos:=p}
 |0,s,_=>⟨s.pos,rfl⟩
 |i+1,s,l=>FD ops i (fK ops s).2 (l++[(fK ops s).1])
theorem CB(ops:List Int) (s:Ds):(fJ ops s).2.eh=s.eh/\(fJ ops s).2.en.length=s.en.length+1/\(fJ ops s).2.cur=s.cur:=by
 obtain⟨p,hp⟩:=FD ops (num ops s 4).1 (num ops s 4).2 [];unfold fJ;simp only;rw[hp];exact⟨rfl,by simp,rfl⟩
structure Sz (s s':Ds):Prop where
 eh:s.eh.length<=s'.eh.length
 en:s'.en.length+s.eh.length<=s.en.length+s'.eh.length
theorem Sz.refl(s:Ds):Sz s s:=⟨jK _,jK _⟩
theorem Sz.trans{s s' e:Ds} (f:Sz s s') (g:Sz s' e):Sz s e:=by
 have a:=f.eh;have b:=g.eh;have c:=f.en;have d:=g.en;exact⟨by omega,by omega⟩
theorem ZQ(ops:List Int) (s:Ds) (k a b:Nat):(th ops s k a b).eh.length=s.eh.length+1/\(th ops s k a b).en.length<=s.en.length+1:=by
 grind[CB,th,jc,num,put,fK]
theorem Uv(ops:List Int):∀(i:Nat) (s:Ds),Sz s (rows ops i s)/\(rows ops i s).eh.length<=max s.eh.length 200
 |0,s=>⟨.refl s,by show s.eh.length<=_;omega⟩
 | i + 1,s=>by
   unfold rows;split
   ·rename_i b
    obtain⟨c,d⟩:=Uv ops i (um ops s);have a:=ZQ ops (num ops (fK ops (fK ops s).2).2 20).2 (num ops (fK ops (fK ops s).2).2 20).1 (fK ops s).1 (fK ops (fK ops s).2).1;have e:(um ops s).eh.length=s.eh.length+1:=a.1;have f:(um ops s).en.length<=s.en.length+1:=a.2;exact⟨Sz.trans ⟨by omega,by omega⟩ c,by omega⟩
   ·exact⟨.refl s,by omega⟩
theorem E3(ops:List Int) (s:Ds):Sz s (row ops s)/\(row ops s).eh.length<=max s.eh.length 200:=by
 obtain⟨a,b⟩:=Uv ops (1+(num ops s 6).1) (num ops s 6).2;exact⟨⟨a.eh,a.en⟩,b⟩
structure Xe (t:Dt) (m:Nat):Prop where
 eh:t.s.eh.length<=210
 en:t.s.en.length<=t.s.eh.length+t.blocks.length
 blocks:t.blocks.length<=m
theorem V9(ops:List Int) {t:Dt} {m:Nat} (h:Xe t m) (hv:t.s.eh.length<160):Xe (fork ops t) (m+3):=by
 obtain⟨w,x,y⟩:=h;unfold fork;simp only;have a1:=E3 ops (end_ {t with s:=(fK ops t.s).2} 2 (fK ops t.s).1 [t.blocks.length+1,t.blocks.length+2] 0 [t.blocks.length]).s;generalize o:row ops (end_ {t with s:=(fK ops t.s).2} 2 (fK ops t.s).1 [t.blocks.length+1,t.blocks.length+2] 0 [t.blocks.length]).s=b at*;have p:t.s.eh.length<=b.eh.length:=a1.1.eh;have q:b.en.length+t.s.eh.length<=t.s.en.length+b.eh.length:=a1.1.en;have r:b.eh.length<=max t.s.eh.length 200:=a1.2;generalize d:end_ {s:=cut t.s.known.length b,blocks:=(end_ {t with s:=(fK ops t.s).2} 2 (fK ops t.s).1 [t.blocks.length+1,t.blocks.length+2] 0 [t.blocks.length]).blocks,fh:=(end_ {t with s:=(fK ops t.s).2} 2 (fK ops t.s).1 [t.blocks.length+1,t.blocks.length+2] 0 [t.blocks.length]).fh} 1 0 [t.blocks.length+3] 0 [t.blocks.length]=a at*;have b2:a.blocks.length=t.blocks.length+2:=by rw[<-d];simp[end_]
 have u:a.s.eh=b.eh:=by rw[<-d];rfl
 have v:a.s.en=b.en:=by rw[<-d];rfl
 have a2:=E3 ops a.s;generalize row ops a.s=c at*;have g:=a2.1.eh;have e:=a2.1.en;have i:=a2.2;rw[u]at g e i;rw[v]at e;have a3:=E3 ops (jc (end_ {s:=cut t.s.known.length c,blocks:=a.blocks,fh:=a.fh} 1 0 [t.blocks.length+3] 0 [t.blocks.length+1,t.blocks.length+2]).s (vl 21 0 0 0 [b.known.getLastD 0,c.known.getLastD 0] 0));have j:(jc (end_ {s:=cut t.s.known.length c,blocks:=a.blocks,fh:=a.fh} 1 0 [t.blocks.length+3] 0 [t.blocks.length+1,t.blocks.length+2]).s (vl 21 0 0 0 [b.known.getLastD 0,c.known.getLastD 0] 0)).eh.length=c.eh.length+1:=by simp[jc,end_,cut]
 have k:(jc (end_ {s:=cut t.s.known.length c,blocks:=a.blocks,fh:=a.fh} 1 0 [t.blocks.length+3] 0 [t.blocks.length+1,t.blocks.length+2]).s (vl 21 0 0 0 [b.known.getLastD 0,c.known.getLastD 0] 0)).en.length=c.en.length:=by simp[jc,end_,cut]
 have l:=a3.1.eh;have f:=a3.1.en;have n:=a3.2;rw[j]at l f n;rw[k]at f;refine⟨?_,?_,?_⟩
 ·grind
 ·show(row ops _).en.length<=(row ops _).eh.length+(a.blocks++[_]).length
  grind
 ·show(a.blocks++[_]).length<=m+3
  simp_all
theorem XN(ops:List Int) {t:Dt} {m:Nat} (h:Xe t m) (hv:t.s.eh.length<160):Xe (yp ops t) (m+3):=by
 obtain⟨q,r,u⟩:=h;unfold yp;simp only;have a1:=E3 ops (end_ {t with s:=(fK ops t.s).2} 2 (fK ops t.s).1 [t.blocks.length+1,t.blocks.length+2] 0 [t.blocks.length]).s;generalize g:row ops (end_ {t with s:=(fK ops t.s).2} 2 (fK ops t.s).1 [t.blocks.length+1,t.blocks.length+2] 0 [t.blocks.length]).s=a at*;have i:t.s.eh.length<=a.eh.length:=a1.1.eh;have j:a.en.length+t.s.eh.length<=t.s.en.length+a.eh.length:=a1.1.en;have k:a.eh.length<=max t.s.eh.length 200:=a1.2;obtain⟨l,n,_⟩:=CB ops a;generalize b:end_ {s:=cut t.s.known.length (fJ ops a).2,blocks:=(end_ {t with s:=(fK ops t.s).2} 2 (fK ops t.s).1 [t.blocks.length+1,t.blocks.length+2] 0 [t.blocks.length]).blocks,fh:=(end_ {t with s:=(fK ops t.s).2} 2 (fK ops t.s).1 [t.blocks.length+1,t.blocks.length+2] 0 [t.blocks.length]).fh} 3 0 [] (fJ ops a).1 [t.blocks.length]=c at*;have b2:c.blocks.length=t.blocks.length+2:=by rw[<-b];simp[end_]
 have o:c.s.eh=a.eh:=by rw[<-b];exact l
 have p:c.s.en.length=a.en.length+1:=by rw[<-b];exact n
 have a2:=E3 ops c.s;generalize row ops c.s=v at*;have e:=a2.1.eh;have d:=a2.1.en;have f:=a2.2;rw[o]at e d f;rw[p]at d;refine⟨?_,?_,?_⟩
 ·grind
 ·grind
 grind
theorem DX(s:Ds)(v:Nat)(args:List Nat):(setArgs s v args).eh.length=s.eh.length/\(setArgs s v args).en=s.en:=⟨by simp[setArgs,List.length_modify],rfl⟩
theorem XI(ops:List Int) {t:Dt} {m:Nat} (h:Xe t m) (hv:t.s.eh.length<160):Xe (loop ops t) (m+3):=by
 obtain⟨G,H,I⟩:=h;unfold loop;simp only;generalize e:end_ {t with s:=(fK ops t.s).2} 1 0 [t.blocks.length+1] 0 [t.blocks.length,t.blocks.length+2]=b at*;have b1:b.blocks.length=t.blocks.length+1:=by rw[<-e];simp[end_]
 have x:b.s.eh=t.s.eh:=by rw[<-e];rfl
 have y:b.s.en=t.s.en:=by rw[<-e];rfl
 generalize i:({put (fK ops (put b.s (vl 21 0 0 0 [(fK ops t.s).1,0] 0))).2 (vl 21 0 0 0 [(fK ops (put b.s (vl 21 0 0 0 [(fK ops t.s).1,0] 0))).1,b.s.eh.length] 0)with known:=(put (fK ops (put b.s (vl 21 0 0 0 [(fK ops t.s).1,0] 0))).2 (vl 21 0 0 0 [(fK ops (put b.s (vl 21 0 0 0 [(fK ops t.s).1,0] 0))).1,b.s.eh.length] 0)).known++[b.s.eh.length,b.s.eh.length+1]}:Ds)=f at*;have z:f.eh.length=t.s.eh.length+2:=by rw[<-i,<-x];simp[put,fK]
 have n:f.en=t.s.en:=by rw[<-i,<-y];rfl
 obtain⟨A,B,_⟩:=CB ops f;generalize j:jc (put (put (fJ ops f).2 (vl 23 0 0 0 [] (fJ ops f).1)) (vl 2 0 0 1 [] 0)) (vl 4 b.s.eh.length (put (fJ ops f).2 (vl 23 0 0 0 [] (fJ ops f).1)).eh.length 0 [] 0)=d at*;have J:d.eh.length=t.s.eh.length+5:=by rw[<-j];simp[jc,put,A,z]
 have C:d.en.length=t.s.en.length+1:=by rw[<-j,<-n,<-B];rfl
 generalize g:end_ {s:=d,blocks:=b.blocks,fh:=b.fh} 2 b.s.eh.length [t.blocks.length+2,t.blocks.length+3] 0 [t.blocks.length+1]=c at*;have b2:c.blocks.length=t.blocks.length+2:=by rw[<-g];simp[end_,b1]
 have D:c.s.eh=d.eh:=by rw[<-g];rfl
 have o:c.s.en=d.en:=by rw[<-g];rfl
 have a1:=E3 ops c.s;generalize row ops c.s=w at*;have p:=a1.1.eh;have k:=a1.1.en;have q:=a1.2;rw[D]at p k q;rw[o]at k;have r:∀a:Ds,a.eh.length=w.eh.length->a.en=w.en->Xe {s:=row ops (end_ {s:=cut d.known.length a,blocks:=c.blocks,fh:=c.fh} 1 0 [t.blocks.length+1] 0 [t.blocks.length+1]).s,blocks:=(end_ {s:=cut d.known.length a,blocks:=c.blocks,fh:=c.fh} 1 0 [t.blocks.length+1] 0 [t.blocks.length+1]).blocks,fh:=(end_ {s:=cut d.known.length a,blocks:=c.blocks,fh:=c.fh} 1 0 [t.blocks.length+1] 0 [t.blocks.length+1]).fh} (m+3):=by
  intro a E F;have a2:=E3 ops (end_ {s:=cut d.known.length a,blocks:=c.blocks,fh:=c.fh} 1 0 [t.blocks.length+1] 0 [t.blocks.length+1]).s;have u:a.eh.length<=_:=a2.1.eh;have l:_+a.eh.length<=a.en.length+_:=a2.1.en;have v:_<=max a.eh.length 200:=a2.2;rw[E]at u l v;rw[F]at l;refine⟨?_,?_,?_⟩
  ·grind
  ·show(row ops _).en.length<=(row ops _).eh.length+(c.blocks++[_]).length
   grind
  ·show(c.blocks++[_]).length<=m+3
   simp_all
 refine r _ ?_ ?_
 ·rw[(DX _ _ _).1];split
  ·rw[(DX _ _ _).1];exact(DX _ _ _).1
  ·exact(DX _ _ _).1
 ·rw[(DX _ _ _).2];split
  ·rfl
  ·rfl
theorem LO(ops:List Int):∀(l:List Int) {t:Dt} {m:Nat},Xe t m->Xe (lW ops l t) (m+3*l.length)
 |[],t,m,h=>h
 | k ::l,t,m,h=>by
   unfold lW;split
   ·rename_i hv
    have a:Xe (uE ops (mK k 3) t) (m+3):=by
      unfold uE;split
      ·grind[V9]
      split
      ·grind[XI]
      ·grind[XN]
    have:=LO ops l a
    grind
   ·exact⟨h.eh,h.en,by have:=h.blocks;omega⟩
open Dm
theorem Z6{t:Dt} (ops:List Int) (h:Ok t):∃D pr nx,Gh D pr nx t.blocks.length/\nx t.blocks.length=[]/\py D pr nx noE (end_ (on t (fJ ops t.s).2) 3 0 [] (fJ ops t.s).1 []):=by
 obtain ⟨D,pr,nx,c,r⟩:=h;generalize v:t.blocks.length=hi at*;have e:∀b,b<=hi->ext hi D (dF hi) b=D b:=λb h=>mN h;have yO:∀i,i<hi->tp hi nx (λ_=>[]) i=nx i:=λi h=>Ai h;have x:Gh (ext hi D (dF hi)) (ext hi pr λ_=>[]) (tp hi nx λ_=>[]) hi:=by
  refine⟨λp b hp a=>?_,λb h0 a=>?_,λb a=>?_,λb a=>?_,λp hp d u f=>?_⟩
  ·rw[yO p hp]at a;obtain⟨o,y,z⟩:=c.tree p b hp a;exact⟨o,y,by rw[e b o];exact Cy c.down e z (by omega)⟩
  ·rw[e b a];exact c.down b h0 a
  ·rw[mN a,c.fh b a,zH hi b yO]
  ·obtain⟨l,d⟩:=c.reach b a;exact⟨l,d.mono (jK _) yO⟩
  ·rw[yO p hp]at d f;rw[mN (c.tree p u hp f).1];exact c.MS p hp d u f
 have j:=r.UO (D':=ext hi D (dF hi)) (pr':=ext hi pr λ_=>[]) (VZ:=tp hi nx λ_=>[]) (by simp_all) (by simp_all) (by grind[mN]) (by simp_all);have n0:tp hi nx (λ_=>[]) hi=[]:=lV (k:=0) (g:=λ_=>[]);obtain⟨m,B,C,_,_,fs,A,E⟩:=j.state ops;have b1:(on t (fJ ops t.s).2).blocks.length=hi:=v
 obtain ⟨F,_⟩:=m.end_ (fin:=3) (cond:=0) (n:=[]) (state:=(fJ ops t.s).1) (fh:=[]) (by simp_all) (by grind[iC,List,Nat])
  (.inr (.inr ⟨rfl,rfl,fs,A,λw q=>m.kn w (by show w∈(fJ ops t.s).2.known;simp_all)⟩))
  (λw q=>(m.kn w q).up (by rw[b1];exact Jo (by omega) (iC (by omega))))
 grind
theorem YL{D:Nat->Nat} {pr nx:Nat->List Nat} {t:Dt} {hi:Nat} (H:Gh D pr nx hi) (hn:nx hi=[]) (d:py D pr nx noE t) (hb:t.blocks.length=hi+1) (O:t.s.cur=[]) (hv:t.s.eh.length<=3000) (hs:t.s.en.length<=1000) (T:t.blocks.length<=300) (f p:Int) :
  Good ⟨f,p,t.s.eh,t.blocks,t.s.en⟩:=by
 have hc:t.blocks.flatMap (λB=>B.eh)=List.range t.s.eh.length:=by
  have:=d.cat
  rw[O,GP]at this;exact this
 have own:∀{v b},Ow t v b->∃k,At ⟨f,p,t.s.eh,t.blocks,t.s.en⟩ v b k:=λh=>by
  rcases h with⟨B,n,m⟩|⟨_,m⟩
  ·obtain⟨k,P⟩:=oD.1 m;exact⟨k,B,n,P⟩
  simp_all
 have ah:∀{v b},Ow t v b->b<t.blocks.length:=λh=>by
  rcases h with⟨B,n,_⟩|⟨_,m⟩
  ·grind
  simp_all
 have z:∀{v b k},At ⟨f,p,t.s.eh,t.blocks,t.s.en⟩ v b k->Ow t v b:=λ⟨B,n,m⟩=> .inl ⟨B,n,Ik m⟩;have ai:∀b,b<t.blocks.length->next ⟨f,p,t.s.eh,t.blocks,t.s.en⟩ b=nx b:=λb h=>by
  have e:=hO h;unfold next
  simp only[e];exact(d.bk b _ e).1
 have aj:∀b,¬b<t.blocks.length->next ⟨f,p,t.s.eh,t.blocks,t.s.en⟩ b=[]:=by grind[next,NT,Nat.le_of_not_lt]
 have AJ:∀q b,b∈next ⟨f,p,t.s.eh,t.blocks,t.s.en⟩ q->q<hi/\b∈nx q:=λq b h=>by
  grind
 have I:∀{x b},qp D x b->vO (next ⟨f,p,t.s.eh,t.blocks,t.s.en⟩) x b:=λh l Q=>JC (λq b hb _=>(H.tree q b (by grind) (by simp_all)).2.2) Q h;have zbU:∀{a w},Kn D t a w->xP ⟨f,p,t.s.eh,t.blocks,t.s.en⟩ w:=λ⟨_,x,_,_,E,K⟩=>⟨x,E,K⟩
 have G:∀{a w},Kn D t a w->yj ⟨f,p,t.s.eh,t.blocks,t.s.en⟩ w a:=λ⟨b,x,n,m,_⟩=>let⟨k,P⟩:=own n;⟨b,k,P,I m⟩
 have ac:∀{v w b k},At ⟨f,p,t.s.eh,t.blocks,t.s.en⟩ v b k->w<v->Kn D t b w->Kh ⟨f,p,t.s.eh,t.blocks,t.s.en⟩ w b k:=λ{v w b k} hv o ⟨c,x,n,m,_⟩=>by
  obtain⟨j,M⟩:=own n;by_cases e:c=b
  ·subst e;exact⟨c,j,M,.inl ⟨rfl,Yk hc M hv o⟩⟩
  ·exact⟨c,j,M,.inr ⟨e,I m⟩⟩
 have A:∀{v b U},Ow t v b->Ow t v U->b=U:=λh h'=>by
  obtain⟨k,P⟩:=own h;obtain⟨k',V⟩:=own h';exact(Uj hc P V).1
 have L:∀b,ahead ⟨f,p,t.s.eh,t.blocks,t.s.en⟩ b=pW nx hi b:=λb=>by
  have W:∀(l:List Bk) (i:Nat),(∀k B,l[k]? =some B->B.next=nx (i+k))->mi l i b=((List.range' i l.length).flatMap λq=>((nx q).filter (·= b)).map λ_=>q):=by
   intro l
   induction l with
   |nil=>intro i _;rfl
   | cons B l X=>
     intro i h;have h0:=h 0 B rfl;rw[YZ]at h0;rw[KB,List.range'_succ,wB1];unfold mi;rw[h0,X (i+1) λk B Y=>by rw[show i+1+k=i+(k+1) by omega];exact h (k+1) B Y]
  unfold ahead;rw[W t.blocks 0 λk B Y=>by rw[zA];exact(d.bk k B Y).1];have e:List.range' 0 t.blocks.length=List.range t.blocks.length:=(List.range_eq_range').symm;rw[e,hb];have:=lZ nx hi b
  grind[pW]
 refine{nv:=hv,OV:=by simp_all,nb:=T,ns:=hs,st:=?_,Iw:=by simp_all[XX],Px:=λv b k U k' h h'=>Uj hc h h',mH:=λv b k h=>zdv hc h,NO:=?_,par:=?_,KO:=?_,op:=λv x h=>(d.KY v x h).op,use:=?_,leave:=?_,putAt:=λv x h=>(d.KY v x h).putAt,param:=?_,fin:=?_,nx:=?_,fh:=?_,Kb:=?_,MS:=?_,reach:=?_,NN:=?_,Oa:=?_,N5:=?_,OB:=?_,N9:=?_}
 ·intro s fs h;obtain⟨r,F⟩:=d.st s fs h
  grind
 ·intro v w b k x y n m E K h5;obtain⟨c,r,_,_,g4⟩:=(d.KY v x E).own;obtain rfl:=A r (z n);have o:w<v:=(Co hc m n).2 rfl (Mm _)
  grind
 ·intro v b k x n m E;exact A (z n) ((d.KY v x m).par E).1
 ·intro v b k x B n m E K;obtain⟨c,r,F,C⟩:=d.ph v x m E;obtain rfl:=A r (z n);exact⟨F,by rw[(d.bk c B K).2.1];exact(C id).1⟩
 ·intro v x h w N;by_cases R:x.op=21
  ·obtain⟨c,r,F,C⟩:=d.ph v x h R;have Z:w∈x.args:=by unfold jk at N;rw[if_pos R]at N;exact N
   obtain⟨j,M⟩:=oD.1 Z;have o:=(jR.1 M).1;rw[(C id).1]at o;exact zbU ((C id).2 j w _ M (hO o))
  ·obtain⟨c,r,F,_⟩:=(d.KY v x h).own
   grind
 ·intro v x h Q;obtain⟨c,r,_,C,_⟩:=(d.KY v x h).own
  grind
 ·intro v x h n;obtain⟨r,F,C⟩:=(d.KY v x h).par n;refine⟨by omega,by omega,λw y hy aa he=>?_⟩;obtain⟨_,k2,_⟩:=(d.KY w y hy).par aa;omega
 ·intro b B h;rcases(d.bk b B h).2.2 with g|⟨r,F,C⟩|⟨r,F,fs,C,_⟩
  ·omega
  ·grind
  grind
 ·intro b u hu;obtain⟨r,F⟩:=AJ b u hu;have:=(H.tree b u r F).1
  grind
 ·intro b B h;have o:=(jR.1 h).1;rw[(d.bk b B h).2.1,L,H.fh b (by grind)]
 ·rw[L];exact KA λi ab hm=>(H.tree i 0 ab hm).2.1 rfl
 ·intro b B h m u hu;have o:b<t.blocks.length:=by grind
  have e:=(d.bk b B h).1;have S:u∈nx b:=by rw[<-e];exact hu
  have J:b<hi:=by
   by_cases e2:b=hi
   ·simp_all
   ·omega
  have Q:(nx b).length=2:=by
   rw[<-e];rcases(d.bk b B h).2.2 with g|⟨_,F,_⟩|⟨r,_⟩
   ·omega
   ·exact F
   ·omega
  rw[L,<-H.fh u (H.tree b u J S).1];exact H.MS b J Q u S
 ·intro b o;have ae:b<t.blocks.length:=o;obtain⟨l,Q⟩:=H.reach b (by omega);have ag:∀{b l},Pn nx hi b l->Pt (next ⟨f,p,t.s.eh,t.blocks,t.s.en⟩) b l:=by
   intro b l h
   induction h with
   |nil=>exact .nil
   |step _ hp e X=>exact .step X (by grind)
  grind
 ·intro v b k x n m E w N;obtain⟨c,r,F,_⟩:=(d.KY v x m).own
  grind
 ·intro v b k x B n m E K j w q h5 h6;obtain⟨c,r,_,C⟩:=d.ph v x m E;obtain rfl:=A r (z n);rw[(d.bk c B K).2.1]at h6;exact G ((C id).2 j w q h5 h6)
 ·intro v b k x fs n m E K w N;obtain⟨c,r,_,C,_⟩:=(d.KY v x m).own
  grind
 ·intro b B h m;rcases(d.bk b B h).2.2 with g|⟨_,_,C⟩|⟨r,_⟩
  ·omega
  ·simp_all
  ·omega
 ·intro b B fs h m E w N;rcases(d.bk b B h).2.2 with g|⟨r,_,_⟩|⟨_,_,ak,C,g4⟩
  ·omega
  ·omega
  simp_all
theorem Oe:∀(n i:Nat) (s:Ds),(params n i s).eh.length=s.eh.length+n/\(params n i s).en=s.en
 |0,_,_=>⟨rfl,rfl⟩
 | n+1,i,s=>by
   obtain⟨a,b⟩:=Oe n (i+1) (jc s (vl 1 0 0 (i:Nat) [] 0))
   grind[params,jc]
theorem Vn(ops c:List Int) (n:Int):Good (Hg ops c n):=by
 have d:=VM ops c n;have hp:=Oe (mK n 5) 0 ⟨[],[],[],[],0⟩;have g:=FB n (m:=5) (by omega);obtain⟨r1,h⟩:=E3 ops (jc (params (mK n 5) 0 ⟨[],[],[],[],0⟩) (vl 2 0 0 5 [] 0));have i:(jc (params (mK n 5) 0 ⟨[],[],[],[],0⟩) (vl 2 0 0 5 [] 0)).eh.length=mK n 5+1:=by
  simp only[jc,Ec,wBS,hp.1];simp
 have j:(jc (params (mK n 5) 0 ⟨[],[],[],[],0⟩) (vl 2 0 0 5 [] 0)).en=[]:=hp.2;have e:Xe ⟨row ops (jc (params (mK n 5) 0 ⟨[],[],[],[],0⟩) (vl 2 0 0 5 [] 0)),[],[]⟩ 0:=by
  have a:=r1.eh;have b:=r1.en;rw[i]at a b h;rw[j]at b;refine⟨by grind,?_,jK _⟩;show(row ops _).en.length<=(row ops _).eh.length+0;simp at b;omega
 have f:=LO ops (c.take 6) e;have hlen:(c.take 6).length<=6:=by rw[Ip];omega
 unfold Hg;simp only;generalize lW ops (c.take 6) ⟨row ops (jc (params (mK n 5) 0 ⟨[],[],[],[],0⟩) (vl 2 0 0 5 [] 0)),[],[]⟩=t at*;obtain⟨D,pr,nx,k,l,o⟩:=Z6 ops d;obtain⟨p,q,_⟩:=CB ops t.s;have v:=f.eh;have s:=f.en;have bl:=f.blocks;refine YL k l o (by simp[end_,on]) rfl ?_ ?_ ?_ 1 2
 ·show(fJ ops t.s).2.eh.length<=3000
  grind
 ·show(fJ ops t.s).2.en.length<=1000;omega
 ·show(t.blocks++[_]).length<=300
  grind
open Dm
def zaF(u:U) (v:Nat):Bool:=match u.eh[v]? with
 |some x=>iU x.op
 |none=>false
def Yg(u:U) (b:Nat):List Nat:=match u.blocks[b]? with
 |some B=>B.eh
 |none=>[]
def zbc(u:U)(t w:Nat):Prop:=w∈Yg u t/\zaF u w=true
def RA(u:U) (s:Nat):List Nat:=match u.en[s]? with
 |some fs=>gN fs
 |none=>[]
def zdk(u:U) (v:Nat):List Nat:=match u.eh[v]? with
 |some x=>jk x++(if leaves x.op=true then RA u x.state else[])
 |none=>[]
def ln(In H:Nat->Nat->Prop):List Nat->(Nat->Prop)->Nat->Prop
 |[],P=>P
 |t::ts,P=>ln In H ts λw=>(P w\/In t w)/\¬H t w
def Zr(u:U)(b w:Nat):Prop:=∃t∈next u b,∃(B:Bk) (v:Nat) (x:Vl) (j:Nat),u.blocks[t]? =some B/\v∈B.eh/\u.eh[v]? =some x/\x.op=21/\B.fh[j]? =some b/\x.args[j]? =some w
def Y4(u:U)(b w:Nat):Prop:=∃B:Bk,u.blocks[b]? =some B/\(B.fin=2/\w=B.cond\/B.fin=3/\w∈RA u B.state)
def zc4(u:U)(H In:Nat->Nat->Prop)(b w:Nat):Prop:=ln In H (next u b) (λ_=>False) w\/Zr u b w\/Y4 u b w
def bk(u:U):List Nat->(Nat->Prop)->Nat->Prop
 |[],P=>P
 |v::r,P=>if zaF u v=true then P else bk u r λw=>(P w/\w≠v)\/w∈zdk u v
def zaO(u:U)(b:Nat)(O:Nat->Prop):Nat->Prop:=bk u (Yg u b).reverse O
def Tr(u:U)(H In:Nat->Nat->Prop)(b:Nat):Nat->Prop:=zaO u b (zc4 u H In b)
structure zeA (u:U) (H In:Nat->Nat->Prop):Prop where
 up:∀b w,In b w->Tr u H In b w
 least:∀X:Nat->Nat->Prop,(∀b w,b<u.blocks.length->Tr u H X b w->X b w)->∀b w,In b w->X b w
structure zdF (u:U) (H In Out:Nat->Nat->Prop):Prop where
 out:∀b w,b<u.blocks.length->(Out b w↔zc4 u H In b w)
 Nz:∀b w,b<u.blocks.length->(In b w↔zaO u b (Out b) w)
 least:∀X:Nat->Nat->Prop,(∀b w,b<u.blocks.length->Tr u H X b w->X b w)->∀b w,In b w->X b w
section
variable{u:U}(g:Good u)
include g
theorem Good.W8{p b:Nat} (h:b∈next u p):p<u.blocks.length/\b<u.blocks.length/\b≠0:=by
 refine⟨?_,g.nx p b h,λe=>?_⟩
 ·grind[next,jR]
 ·subst e;have:=Gj.2 h;rw[g.Kb]at this;cases this
variable{In Out:Nat->Nat->Prop}(h:zdF u (zbc u) In Out)
include h
end
