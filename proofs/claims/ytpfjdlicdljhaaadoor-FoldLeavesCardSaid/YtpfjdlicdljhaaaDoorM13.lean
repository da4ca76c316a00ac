/- Parts. -/
import Derived.Test.YtpfjdlicdljhaaaDoorM12
set_option maxHeartbeats 4000000
namespace Go.Proofs.YtpfjdlicdljhaaaDoor.Un
open Dm
def oA(nx:Nat->List Nat)(n b:Nat):List Nat:=(List.range n).flatMap λi=>((nx i).filter (·= b)).map λ_=>i
theorem wL(nx:Nat->List Nat) (n b:Nat):oA nx (n+1) b=oA nx n b++((nx n).filter (·= b)).map λ_=>n:=by
 grind[oA,VX]
theorem xZ{nx UM:Nat->List Nat} (n b:Nat) (h:∀i,i<n->UM i=nx i):oA UM n b=oA nx n b:=by
 induction n with
 |zero=>rfl
 |succ n a=>grind[wL]
theorem Ln{nx:Nat->List Nat} {n b q:Nat}:q∈oA nx n b↔q<n/\b∈nx q:=by
 unfold oA
 simp_all
theorem Ji{nx:Nat->List Nat} {n b:Nat} (h:∀i,i<n->b ∉ nx i):oA nx n b=[]:=by
 simp_all[List.eq_nil_iff_forall_not_mem,Ln]
inductive Pn (nx:Nat->List Nat) (n:Nat):Nat->List Nat->Prop
 |nil:Pn nx n 0 [0]
 |step {p b:Nat} {l:List Nat} (h:Pn nx n p l) (a:p<n) (e:b∈nx p):Pn nx n b (b::l)
theorem Pn.mono{nx UM:Nat->List Nat} {n a:Nat} (c:n<=a) (d:∀i,i<n->UM i=nx i):∀{b l},Pn nx n b l->Pn UM a b l
 |_,_,.nil=> .nil
 |_,_,.step h hp e=> .step (h.mono c d) (by omega) (by simp_all)
structure Gh (D:Nat->Nat) (pr nx:Nat->List Nat) (hi:Nat):Prop where
 tree:∀p b,p<hi->b∈nx p->b<=hi/\b≠0/\oW D (D b) p
 down:∀b,b≠0->b<=hi->D b<b
 ez:∀b,b<=hi->pr b=oA nx hi b
 reach:∀b,b<=hi->∃l,Pn nx hi b l
 ET:∀p,p<hi->(nx p).length=2->∀t∈nx p,(pr t).length=1
theorem AT{D D':Nat->Nat} {hi:Nat} (a:∀b,b≠0->b<=hi->D b<b) (d:∀b,b<=hi->D' b=D b) {x b:Nat} (h:oW D x b):b<=hi->oW D' x b:=by
 induction h with
 |refl=>exact λ_=> .refl _
 | up h0 _ e=>
   rename_i b _;intro c;have:=a b h0 c;exact .up h0 (by grind)
theorem Yc{t:Dt} {v b:Nat} (h:Ow t v b):b<=t.blocks.length:=by
 rcases h with⟨B,a,_⟩|⟨a,_⟩
 ·grind
 ·omega
section
variable{D D':Nat->Nat}{pr nx pr' UM:Nat->List Nat}{E:Nat->Prop}{t:Dt}
theorem nB.Td(c:nB D pr nx E t) (z:Gh D pr nx t.blocks.length) (p:∀b,b<=t.blocks.length->D' b=D b) (k:∀b,b<=t.blocks.length->pr' b=pr b) (G:∀b,b<t.blocks.length->UM b=nx b):nB D' pr' UM E t:=by
 have kn:∀{a w},a<=t.blocks.length->Kn D t a w->Kn D' t a w:=λH ⟨b,x,l,A,m⟩=>⟨b,x,l,AT z.down p A H,m⟩
 refine⟨c.cat,λv x h=>?_,λv x h I=>?_,λb B h=>?_,λs fs h=>?_,by rw[k _ (iZ _)];exact c.pc,c.ne,λw d=>kn (iZ _) (c.kn w d)⟩
 ·have n:=c.JD v x h;obtain⟨b,l,A,m,J⟩:=n.own;refine⟨n.op,n.putAt,n.par,b,l,by grind[Yc],λR=>?_,J⟩
  grind[Yc]
 ·obtain⟨b,e,o,i⟩:=c.ph v x h I;refine⟨b,e,o,λC=>?_⟩;rw[k b (Yc e)];refine⟨(i C).1,λj w q K F=>kn ?_ ((i C).2 j w q K F)⟩;have:=AI F;rw[z.ez b (Yc e)]at this
  grind[Nat.le_of_lt,Ln]
 ·have L:=(jq.1 h).1;obtain⟨e,o,i⟩:=c.bk b B h;refine⟨by simp_all,by grind,?_⟩;rcases i with g|⟨r,u,y⟩|⟨r,u,fs,y,M⟩
  ·exact .inl g
  ·exact .inr (.inl ⟨r,u,kn (by omega) y⟩)
  ·exact .inr (.inr ⟨r,u,fs,y,λw d=>kn (by omega) (M w d)⟩)
 ·obtain⟨e,o⟩:=c.st s fs h;refine⟨e,λf N=>?_⟩;obtain⟨i,O,P,Q⟩:=o f N;have own:∀w,(∃a,Kn D t a w)->∃a,Kn D' t a w:=λw ⟨a,b,x,l,_,m⟩=>⟨b,b,x,l,.refl _,m⟩
  exact⟨i,O,λw d=>own w (P w d),λw d=>own w (Q w d)⟩
end
def ext{α:Type}(hi:Nat)(f:Nat->α)(g:Nat->α):Nat->α:=λb=>if b<=hi then f b else g (b-hi)
def rl(hi:Nat)(f:Nat->List Nat)(g:Nat->List Nat):Nat->List Nat:=λb=>if b<hi then f b else g (b-hi)
theorem lD{α:Type}{hi b:Nat}{f g:Nat->α}(h:b<=hi):ext hi f g b=f b:=by simp_all[ext,if_pos]
theorem hK{α:Type}{hi k:Nat}{f g:Nat->α}(h:0<k):ext hi f g (hi+k)=g k:=by simp_all[ext,if_neg,wBb]
theorem yw{hi b:Nat}{f g:Nat->List Nat}(h:b<hi):rl hi f g b=f b:=by simp_all[rl,if_pos]
theorem kK{hi k:Nat}{f g:Nat->List Nat}:rl hi f g (hi+k)=g k:=by simp_all[rl,if_neg,wBb]
section
variable{D:Nat->Nat}{pr nx:Nat->List Nat}{hi:Nat}
theorem Gh.none(a:Gh D pr nx hi) {b:Nat} (d:hi<b):oA nx hi b=[]:=Ji λi h c=>by
 have:=(a.tree i b h c).1;omega
def dF(hi:Nat)(k:Nat):Nat:=hi
def pF(hi k:Nat):List Nat:=if k=3 then[hi+1,hi+2] else[hi]
def nF(hi k:Nat):List Nat:=if k=0 then[hi+1,hi+2] else[hi+3]
theorem Gh.fork(a:Gh D pr nx hi):Gh (ext hi D (dF hi)) (ext hi pr (pF hi)) (rl hi nx (nF hi)) (hi+3):=by
 have o:∀k,0<k->ext hi D (dF hi) (hi+k)=hi:=λk hk=>hK hk;have n0:rl hi nx (nF hi) hi=[hi+1,hi+2]:=kK (k:=0);have v:rl hi nx (nF hi) (hi+1)=[hi+3]:=kK (k:=1);have w:rl hi nx (nF hi) (hi+2)=[hi+3]:=kK (k:=2);have g:∀b,b<=hi->ext hi D (dF hi) b=D b:=λb h=>lD h;have xX:∀i,i<hi->rl hi nx (nF hi) i=nx i:=λi h=>yw h;have j:∀b,oA (rl hi nx (nF hi)) (hi+3) b=oA nx hi b++([hi+1,hi+2].filter (·= b)).map (λ_=>hi)++([hi+3].filter (·= b)).map (λ_=>hi+1)++([hi+3].filter (·= b)).map (λ_=>hi+2):=by simp_all[wL,xZ]
 have low:∀b,b<=hi+3->b<=hi\/b=hi+1\/b=hi+2\/b=hi+3:=by omega
 refine⟨λp b q c=>?_,λb h0 c=>?_,λb c=>?_,λb c=>?_,λp q f t e=>?_⟩
 ·have d:p<hi\/p=hi\/p=hi+1\/p=hi+2:=by omega
  rcases d with h|rfl|rfl|rfl
  ·rw[xX p h]at c;obtain⟨m,r,s⟩:=a.tree p b h c;exact⟨by omega,r,by rw[g b m];exact AT a.down g s (by omega)⟩
  ·rw[n0]at c;simp at c;rcases c with rfl|rfl
   ·exact⟨by omega,by omega,by rw[o 1 (by omega)];exact .refl _⟩
   ·exact⟨by omega,by omega,by rw[o 2 (by omega)];exact .refl _⟩
  ·grind[GH]
  grind[GH]
 ·rcases low b c with h|rfl|rfl|rfl
  ·rw[g b h];exact a.down b h0 h
  ·simp_all
  ·simp_all
  simp_all
 ·rw [j];rcases low b c with h|rfl|rfl|rfl
  ·rw[lD h,a.ez b h];have x:¬hi+1=b:=by omega
   have y:¬hi+2=b:=by omega
   grind
  ·rw[hK (by omega),a.none (by omega)];simp[pF]
  ·rw[hK (by omega),a.none (by omega)];simp[pF]
  ·rw[hK (by omega),a.none (by omega)];simp[pF]
 ·obtain⟨l,f⟩:=a.reach hi (iZ _);have h0:Pn (rl hi nx (nF hi)) (hi+3) hi l:=f.mono (by omega) xX;have m:Pn (rl hi nx (nF hi)) (hi+3) (hi+1) ((hi+1)::l):= .step h0 (by omega) (by simp_all);rcases low b c with h|rfl|rfl|rfl
  ·obtain⟨u,n⟩:=a.reach b h;exact⟨u,n.mono (by omega) xX⟩
  ·grind
  ·exact⟨_,.step h0 (by omega) (by simp_all)⟩
  ·exact⟨_,.step m (by omega) (by simp_all)⟩
 ·have d:p<hi\/p=hi\/p=hi+1\/p=hi+2:=by omega
  rcases d with h|rfl|rfl|rfl
  ·rw[xX p h]at f e;rw[lD (a.tree p t h e).1];exact a.ET p h f t e
  ·rw[n0]at e;simp at e;rcases e with rfl|rfl
   ·rw[hK (by omega)];rfl
   ·rw[hK (by omega)];rfl
  ·simp_all
  simp_all
def nX(hi k:Nat):List Nat:=if k=0 then[hi+1,hi+2] else[]
def pX(hi _k:Nat):List Nat:=[hi]
theorem Gh.exit(c:Gh D pr nx hi):Gh (ext hi D (dF hi)) (ext hi pr (pX hi)) (rl hi nx (nX hi)) (hi+2):=by
 have n:∀k,0<k->ext hi D (dF hi) (hi+k)=hi:=λk hk=>hK hk;have n0:rl hi nx (nX hi) hi=[hi+1,hi+2]:=kK (k:=0);have v:rl hi nx (nX hi) (hi+1)=[]:=kK (k:=1);have g:∀b,b<=hi->ext hi D (dF hi) b=D b:=λb h=>lD h;have xX:∀i,i<hi->rl hi nx (nX hi) i=nx i:=λi h=>yw h;have j:∀b,oA (rl hi nx (nX hi)) (hi+2) b=oA nx hi b++([hi+1,hi+2].filter (·= b)).map (λ_=>hi):=by simp_all[wL,xZ]
 have low:∀b,b<=hi+2->b<=hi\/b=hi+1\/b=hi+2:=by omega
 refine⟨λp b o a=>?_,λb h0 a=>?_,λb a=>?_,λb a=>?_,λp o f t e=>?_⟩
 ·have d:p<hi\/p=hi\/p=hi+1:=by omega
  rcases d with h|rfl|rfl
  ·rw[xX p h]at a;obtain⟨q,r,s⟩:=c.tree p b h a;exact⟨by omega,r,by rw[g b q];exact AT c.down g s (by omega)⟩
  ·rw[n0]at a;simp at a;rcases a with rfl|rfl
   ·exact⟨by omega,by omega,by rw[n 1 (by omega)];exact .refl _⟩
   ·exact⟨by omega,by omega,by rw[n 2 (by omega)];exact .refl _⟩
  simp_all
 ·rcases low b a with h|rfl|rfl
  ·rw[g b h];exact c.down b h0 h
  ·simp_all
  simp_all
 ·rw [j];rcases low b a with h|rfl|rfl
  ·rw[lD h,c.ez b h]
   grind
  ·rw[hK (by omega),c.none (by omega)];simp[pX]
  ·rw[hK (by omega),c.none (by omega)];simp[pX]
 ·obtain⟨l,f⟩:=c.reach hi (iZ _);have h0:Pn (rl hi nx (nX hi)) (hi+2) hi l:=f.mono (by omega) xX;rcases low b a with h|rfl|rfl
  ·obtain⟨u,m⟩:=c.reach b h;exact⟨u,m.mono (by omega) xX⟩
  ·exact⟨_,.step h0 (by omega) (by simp_all)⟩
  ·exact⟨_,.step h0 (by omega) (by simp_all)⟩
 ·have d:p<hi\/p=hi\/p=hi+1:=by omega
  rcases d with h|rfl|rfl
  ·rw[xX p h]at f e;rw[lD (c.tree p t h e).1];exact c.ET p h f t e
  ·rw[n0]at e;simp at e;rcases e with rfl|rfl
   ·rw[hK (by omega)];rfl
   ·rw[hK (by omega)];rfl
  simp_all
def dL(hi k:Nat):Nat:=if k=1 then hi else hi+1
def pL(hi k:Nat):List Nat:=if k=1 then[hi,hi+2] else[hi+1]
def nL(hi k:Nat):List Nat:=if k=1 then[hi+2,hi+3] else[hi+1]
theorem Gh.loop(c:Gh D pr nx hi):Gh (ext hi D (dL hi)) (ext hi pr (pL hi)) (rl hi nx (nL hi)) (hi+3):=by
 have d:ext hi D (dL hi) (hi+1)=hi:=hK (by omega);have m:ext hi D (dL hi) (hi+2)=hi+1:=hK (by omega);have n:ext hi D (dL hi) (hi+3)=hi+1:=hK (by omega);have n0:rl hi nx (nL hi) hi=[hi+1]:=kK (k:=0);have s:rl hi nx (nL hi) (hi+1)=[hi+2,hi+3]:=kK (k:=1);have u:rl hi nx (nL hi) (hi+2)=[hi+1]:=kK (k:=2);have o:∀b,b<=hi->ext hi D (dL hi) b=D b:=λb h=>lD h;have xX:∀i,i<hi->rl hi nx (nL hi) i=nx i:=λi h=>yw h;have q:∀b,oA (rl hi nx (nL hi)) (hi+3) b=oA nx hi b++([hi+1].filter (·= b)).map (λ_=>hi)++([hi+2,hi+3].filter (·= b)).map (λ_=>hi+1)++([hi+1].filter (·= b)).map (λ_=>hi+2):=by simp_all[wL,xZ]
 have low:∀b,b<=hi+3->b<=hi\/b=hi+1\/b=hi+2\/b=hi+3:=by omega
 refine⟨λp b v a=>?_,λb h0 a=>?_,λb a=>?_,λb a=>?_,λp v g t f=>?_⟩
 ·have e:p<hi\/p=hi\/p=hi+1\/p=hi+2:=by omega
  rcases e with h|rfl|rfl|rfl
  ·rw[xX p h]at a;obtain⟨j,w,x⟩:=c.tree p b h a;exact⟨by omega,w,by rw[o b j];exact AT c.down o x (by omega)⟩
  ·rw[n0]at a;simp at a;subst a;exact⟨by omega,by omega,by rw[d];exact .refl _⟩
  ·rw[s]at a;simp at a;rcases a with rfl|rfl
   ·exact⟨by omega,by omega,by rw[m];exact .refl _⟩
   ·exact⟨by omega,by omega,by rw[n];exact .refl _⟩
  ·rw[u]at a;simp at a;subst a;exact⟨by omega,by omega,by rw[d];exact(GH (by omega) d).trans (by grind[GH])⟩
 ·rcases low b a with h|rfl|rfl|rfl
  ·rw[o b h];exact c.down b h0 h
  ·omega
  ·omega
  omega
 ·rw [q];rcases low b a with h|rfl|rfl|rfl
  ·rw[lD h,c.ez b h];have z:¬hi+1=b:=by omega
   have A:¬hi+2=b:=by omega
   have B:¬hi+3=b:=by omega
   simp_all
  ·rw[hK (by omega),c.none (by omega)];simp[pL]
  ·rw[hK (by omega),c.none (by omega)];simp[pL]
  ·rw[hK (by omega),c.none (by omega)];simp[pL]
 ·obtain⟨l,g⟩:=c.reach hi (iZ _);have h0:Pn (rl hi nx (nL hi)) (hi+3) hi l:=g.mono (by omega) xX;have j:Pn (rl hi nx (nL hi)) (hi+3) (hi+1) ((hi+1)::l):= .step h0 (by omega) (by simp_all);rcases low b a with h|rfl|rfl|rfl
  ·obtain⟨y,r⟩:=c.reach b h;exact⟨y,r.mono (by omega) xX⟩
  ·grind
  ·exact⟨_,.step j (by omega) (by simp_all)⟩
  ·exact⟨_,.step j (by omega) (by simp_all)⟩
 ·have e:p<hi\/p=hi\/p=hi+1\/p=hi+2:=by omega
  rcases e with h|rfl|rfl|rfl
  ·rw[xX p h]at g f;rw[lD (c.tree p t h f).1];exact c.ET p h g t f
  ·simp_all
  ·rw[s]at f;simp at f;rcases f with rfl|rfl
   ·rw[hK (by omega)];rfl
   ·rw[hK (by omega)];rfl
  simp_all
end
open Dm
def noE:Nat->Prop:=λ_=>False
def Ok(t:Dt):Prop:=∃D pr nx,Gh D pr nx t.blocks.length/\nB D pr nx noE t
theorem Ok.fork{t:Dt} (ops:List Int) (h:Ok t):Ok (fork ops t):=by
 obtain⟨D,pr,nx,c,d⟩:=h;generalize a:t.blocks.length=hi at*;have b:=d.Td (D':=ext hi D (dF hi)) (pr':=ext hi pr (pF hi)) (UM:=rl hi nx (nF hi)) (by simp_all) (by grind[lD]) (by grind[lD]) (by grind[yw])
 obtain ⟨e,f⟩:=X8 b ops (by rw[a];exact kK (k:=0)) (by rw[a];exact kK (k:=1)) (by rw[a];exact kK (k:=2)) (by rw[a];exact hK (by omega)) (by rw[a];exact hK (by omega)) (by rw[a];exact hK (by omega))
  (by rw[a];exact hK (by omega)) (by rw[a];exact hK (by omega)) (by rw[a];exact hK (by omega))
 exact⟨_,_,_,by rw[f,a];exact c.fork,e⟩
theorem Ok.exit{t:Dt} (ops:List Int) (h:Ok t):Ok (wC ops t):=by
 obtain⟨D,pr,nx,c,d⟩:=h;generalize a:t.blocks.length=hi at*;have b:=d.Td (D':=ext hi D (dF hi)) (pr':=ext hi pr (pX hi)) (UM:=rl hi nx (nX hi)) (by simp_all) (by grind[lD]) (by grind[lD]) (by grind[yw])
 obtain ⟨e,f⟩:=Yt b ops (by rw[a];exact kK (k:=0)) (by rw[a];exact kK (k:=1)) (by rw[a];exact hK (by omega)) (by rw[a];exact hK (by omega))
  (by rw[a];exact hK (by omega)) (by rw[a];exact hK (by omega))
 exact⟨_,_,_,by rw[f,a];exact c.exit,e⟩
theorem Ok.loop{t:Dt} (ops:List Int) (h:Ok t):Ok (loop ops t):=by
 obtain⟨D,pr,nx,c,d⟩:=h;generalize a:t.blocks.length=hi at*;have b:=d.Td (D':=ext hi D (dL hi)) (pr':=ext hi pr (pL hi)) (UM:=rl hi nx (nL hi)) (by simp_all) (by grind[lD]) (by grind[lD]) (by grind[yw])
 obtain ⟨e,f⟩:=XX b ops (by rw[a];exact kK (k:=0)) (by rw[a];exact kK (k:=1)) (by rw[a];exact kK (k:=2)) (by rw[a];exact hK (by omega)) (by rw[a];exact hK (by omega)) (by rw[a];exact hK (by omega))
  (by rw[a];exact hK (by omega)) (by rw[a];exact hK (by omega)) (by rw[a];exact hK (by omega))
 exact⟨_,_,_,by rw[f,a];exact c.loop,e⟩
theorem Ok.kH(ops:List Int):∀(l:List Int) {t:Dt},Ok t->Ok (kH ops l t)
 |[],_,h=>h
 | k ::l,t,h=>by
   unfold Un.kH;split
   ·refine Ok.kH ops l ?_
    unfold sN;split
    ·exact h.fork ops
    split
    ·exact h.loop ops
    ·exact h.exit ops
   ·exact h
def t0(s:Ds):Dt:=⟨s,[],[]⟩
structure Ps (s:Ds) (i:Nat):Prop where
 ef:s.ef.length=i
 all:∀(v:Nat) (x:Vl),s.ef[v]? =some x->x=vl 1 0 0 (v:Nat) [] 0
 cur:s.cur=List.range i
 known:s.known=List.range i
 eh:s.eh=[]
theorem MS:∀(n i:Nat) (s:Ds),Ps s i->Ps (params n i s) (i+n)
 |0,i,s,h=>h
 | n + 1,i,s,h=>by
   have:=MS n (i+1) (iz s (vl 1 0 0 (i:Nat) [] 0)) ⟨by simp[iz,h.ef],λv x c=>?_,by simp only[iz];rw[h.cur,h.ef,VX],by simp only[iz];rw[h.known,h.ef,VX],h.eh⟩
   ·rw[show i+(n+1)=i+1+n by omega]
    exact this
   ·have a:(s.ef++[vl 1 0 0 (i:Nat) [] 0])[v]? =some x:=c
    by_cases Me:v<s.ef.length
    ·rw[TA Me]at a
     exact h.all v x a
    ·have d:=(jq.1 a).1
     simp at d;have b:v=s.ef.length:=by omega
     subst b;rw[wBT]at a;rw[h.ef]
     simp_all
theorem gh0:Gh (λ_=>0) (λ_=>[]) (λ_=>[]) 0:=
 ⟨by omega,by omega,λb a=>rfl,λb a=>by
  obtain rfl:b=0:=by omega
  exact⟨[0],.nil⟩,by omega⟩
theorem VI{s:Ds} {n:Nat} (h:Ps s n) (p:n<=5):nB (λ_=>0) (λ_=>[]) (λ_=>[]) noE (t0 (iz s (vl 2 0 0 5 [] 0))):=by
 have c:(t0 (iz s (vl 2 0 0 5 [] 0))).s.ef=s.ef++[vl 2 0 0 5 [] 0]:=rfl;have e:(t0 (iz s (vl 2 0 0 5 [] 0))).s.cur=List.range (n+1):=by
  show s.cur++[s.ef.length]=_;rw[h.cur,h.ef,VX]
 have hlen:(t0 (iz s (vl 2 0 0 5 [] 0))).s.ef.length=n+1:=by rw[c];simp[h.ef]
 have a:∀(v:Nat) (x:Vl),(t0 (iz s (vl 2 0 0 5 [] 0))).s.ef[v]? =some x->(v<n/\x=vl 1 0 0 (v:Nat) [] 0)\/(v=n/\x=vl 2 0 0 5 [] 0):=λv x d=>by
  rw[c]at d;by_cases f:v<s.ef.length
  ·rw[TA f]at d;exact .inl ⟨by simp_all,h.all v x d⟩
  grind
 have k:∀v,v<n+1->Ow (t0 (iz s (vl 2 0 0 5 [] 0))) v 0:=λv d=> .inr ⟨rfl,by simp_all⟩;have l:∀v,v<n+1->Kn (λ_=>0) (t0 (iz s (vl 2 0 0 5 [] 0))) 0 v:=λv d=>by
  have j:∃x,(t0 (iz s (vl 2 0 0 5 [] 0))).s.ef[v]? =some x:=by simp_all
  obtain⟨x,j⟩:=j;refine⟨0,x,k v d,.refl _,j,?_⟩;rcases a v x j with⟨_,rfl⟩|⟨_,rfl⟩ <;> rfl
 refine⟨?_,λv x d=>?_,λv x d q=>?_,λb B o=>(by cases o),λst fs hs=>?_,rfl,?_,λw m=>?_⟩
 ·rw[hlen,e];rfl
 ·rcases a v x d with⟨f,rfl⟩|⟨rfl,rfl⟩
  ·refine⟨by simp[vl],by grind[vl],λ_=>⟨by grind,rfl,by omega⟩,0,by grind,by grind[g0,vl,two,nP],by grind[vl,leaves],λ_ w _ m=>?_⟩
   grind[t0,iz,vl,ig]
  ·exact⟨by simp[vl],by grind[vl],by grind[vl],0,by simp_all,by grind[g0,vl,two,nP],by grind[vl,leaves],by grind[vl,hY]⟩
 ·rcases a v x d with⟨_,rfl⟩|⟨_,rfl⟩
  ·grind[vl]
  grind[vl]
 ·have g:s.eh[st]? =some fs:=hs;rw[h.eh]at g;cases g
 ·show s.known++[s.ef.length]≠[];simp
 ·have i:w∈s.known++[s.ef.length]:=m;rw[h.known,h.ef,<-VX]at i;exact l w (Re.1 i)
theorem Uf(ops a:List Int) (n:Int):Ok (kH ops (a.take 6) ⟨row ops (iz (params (lj n 5) 0 ⟨[],[],[],[],0⟩) (vl 2 0 0 5 [] 0)),[],[]⟩):=by
 have h0:Ps ⟨[],[],[],[],0⟩ 0:=⟨rfl,by simp_all,rfl,rfl,rfl⟩
 have b:=MS (lj n 5) 0 _ h0;rw[wX]at b;have c:=VI b (by simp_all[Nat.le_of_lt,Ho]);obtain⟨d,_⟩:=c.row ops;exact Ok.kH ops _ ⟨_,_,_,gh0,d⟩
open Dm
theorem SB:∀(l:List Bk),(l.flatMap λB=>B.ef).Pairwise (·< ·)->∀(b b' k k':Nat) (B a:Bk) (v d:Nat),l[b]? =some B->l[b']? =some a->B.ef[k]? =some v->a.ef[k']? =some d->(b<b'->v<d)/\(b=b'->k<k'->v<d)
 |[],_,b,_,_,_,_,_,_,_,h,_,_,_=>by simp_all
 | C ::l,hp,b,b',k,k',B,a,v,d,e,c,i,j=>by
   rw[List.flatMap_cons,List.pairwise_append]at hp;obtain⟨q,o,p⟩:=hp
   match b,b',e,c with
   | 0,0,e,c=>
     obtain rfl:C=B:=by simp_all
     obtain rfl:C=a:=by simp_all
     grind[jq,wA9]
   | 0,n+1,e,c=>
     obtain rfl:C=B:=by simp_all
     have f:l[n]? =some a:=by simpa using c
     refine⟨λ_=>p v (AI i) d (by grind),by omega⟩
   |n+1,0,e,c=>omega
   | n+1,m+1,e,c=>
     have g:l[n]? =some B:=by simpa using e
     have f:l[m]? =some a:=by simpa using c
     have:=SB l o n m k k' B a v d g f i j;omega
section
variable{u:U}(hc:u.blocks.flatMap (λB=>B.ef)=List.range u.ef.length)
include hc
theorem Mi{v a b b' k k':Nat} (h:At u v b k) (h':At u a b' k'):(b<b'->v<a)/\(b=b'->k<k'->v<a):=by
 obtain⟨B,c,d⟩:=h;obtain⟨e,f,g⟩:=h'
 grind[SB,List.pairwise_lt_range]
theorem Ti{v b b' k k':Nat} (h:At u v b k) (h':At u v b' k'):b=b'/\k=k':=by
 have c:=(Mi hc h h').1;have d:=(Mi hc h' h).1;have a:b=b':=by
  rcases wB4 b b' with h|h|h
  ·omega
  ·exact h
  ·omega
 have e:=(Mi hc h h').2 a;have f:=(Mi hc h' h).2 a.symm;omega
theorem Wf{v a b k k':Nat} (h:At u v b k) (h':At u a b k') (c:v<a):k<k':=by
 rcases wB4 k k' with g|g|g
 ·exact g
 ·subst g;obtain⟨B,d,e⟩:=h;obtain⟨f,i,j⟩:=h'
  simp_all
 ·have:=(Mi hc h' h).2 rfl g;omega
theorem Ww{v:Nat} (a:v<u.ef.length):∃b k,At u v b k:=by
 have:v∈u.blocks.flatMap (λB=>B.ef):=by rw[hc];exact Re.2 a
 obtain⟨B,c,d⟩:=W9.1 this;obtain⟨b,e⟩:=mm.1 c;obtain⟨k,hk⟩:=mm.1 d;exact⟨b,k,B,e,hk⟩
theorem zbm{v b k:Nat} (h:At u v b k):v<u.ef.length:=by
 obtain⟨B,a,c⟩:=h;have:v∈u.blocks.flatMap (λB=>B.ef):=by grind
 simp_all
end
theorem DS(ops:List Int):∀(i:Nat) (s:Ds) (l:List Nat),∃p,(some_ ops i s l).2 = {s with pos:=p}
 |0,s,_=>⟨s.pos,rfl⟩
 |i+1,s,l=>DS ops i (fx ops s).2 (l++[(fx ops s).1])
theorem Bq(ops:List Int) (s:Ds):(ft ops s).2.ef=s.ef/\(ft ops s).2.eh.length=s.eh.length+1/\(ft ops s).2.cur=s.cur:=by
 obtain⟨p,a⟩:=DS ops (num ops s 4).1 (num ops s 4).2 [];unfold ft;simp only;rw[a];exact⟨rfl,by simp,rfl⟩
structure Sz (s s':Ds):Prop where
 ef:s.ef.length<=s'.ef.length
 eh:s'.eh.length+s.ef.length<=s.eh.length+s'.ef.length
theorem Sz.refl(s:Ds):Sz s s:=⟨iZ _,iZ _⟩
theorem Sz.trans{s s' e:Ds} (f:Sz s s') (g:Sz s' e):Sz s e:=by
 have a:=f.ef;have b:=g.ef;have c:=f.eh;have d:=g.eh;exact⟨by omega,by omega⟩
theorem Ye(ops:List Int) (s:Ds) (k a b:Nat):(qa ops s k a b).ef.length=s.ef.length+1/\(qa ops s k a b).eh.length<=s.eh.length+1:=by
 grind[Bq,qa,iz,num,put,fx]
theorem SV(ops:List Int):∀(i:Nat) (s:Ds),Sz s (rows ops i s)/\(rows ops i s).ef.length<=max s.ef.length 200
 |0,s=>⟨.refl s,by show s.ef.length<=_;omega⟩
 | i + 1,s=>by
   unfold rows;split
   ·rename_i b
    obtain⟨c,d⟩:=SV ops i (si ops s);have a:=Ye ops (num ops (fx ops (fx ops s).2).2 20).2 (num ops (fx ops (fx ops s).2).2 20).1 (fx ops s).1 (fx ops (fx ops s).2).1;have e:(si ops s).ef.length=s.ef.length+1:=a.1;have f:(si ops s).eh.length<=s.eh.length+1:=a.2;exact⟨Sz.trans ⟨by omega,by omega⟩ c,by omega⟩
   ·exact⟨.refl s,by omega⟩
theorem Ea(ops:List Int) (s:Ds):Sz s (row ops s)/\(row ops s).ef.length<=max s.ef.length 200:=by
 obtain⟨a,b⟩:=SV ops (1+(num ops s 6).1) (num ops s 6).2;exact⟨⟨a.ef,a.eh⟩,b⟩
structure Vq (t:Dt) (m:Nat):Prop where
 ef:t.s.ef.length<=210
 eh:t.s.eh.length<=t.s.ef.length+t.blocks.length
 blocks:t.blocks.length<=m
theorem Vn(ops:List Int) {t:Dt} {m:Nat} (h:Vq t m) (w:t.s.ef.length<160):Vq (fork ops t) (m+3):=by
 obtain⟨x,y,z⟩:=h;unfold fork;simp only;have a1:=Ea ops (end_ {t with s:=(fx ops t.s).2} 2 (fx ops t.s).1 [t.blocks.length+1,t.blocks.length+2] 0 [t.blocks.length]).s;generalize o:row ops (end_ {t with s:=(fx ops t.s).2} 2 (fx ops t.s).1 [t.blocks.length+1,t.blocks.length+2] 0 [t.blocks.length]).s=b at*;have p:t.s.ef.length<=b.ef.length:=a1.1.ef;have q:b.eh.length+t.s.ef.length<=t.s.eh.length+b.ef.length:=a1.1.eh;have r:b.ef.length<=max t.s.ef.length 200:=a1.2;generalize d:end_ {s:=cut t.s.known.length b,blocks:=(end_ {t with s:=(fx ops t.s).2} 2 (fx ops t.s).1 [t.blocks.length+1,t.blocks.length+2] 0 [t.blocks.length]).blocks,ez:=(end_ {t with s:=(fx ops t.s).2} 2 (fx ops t.s).1 [t.blocks.length+1,t.blocks.length+2] 0 [t.blocks.length]).ez} 1 0 [t.blocks.length+3] 0 [t.blocks.length]=a at*;have b2:a.blocks.length=t.blocks.length+2:=by rw[<-d];simp[end_]
 have u:a.s.ef=b.ef:=by rw[<-d];rfl
 have v:a.s.eh=b.eh:=by rw[<-d];rfl
 have a2:=Ea ops a.s;generalize row ops a.s=c at*;have g:=a2.1.ef;have e:=a2.1.eh;have i:=a2.2;rw[u]at g e i;rw[v]at e;have a3:=Ea ops (iz (end_ {s:=cut t.s.known.length c,blocks:=a.blocks,ez:=a.ez} 1 0 [t.blocks.length+3] 0 [t.blocks.length+1,t.blocks.length+2]).s (vl 21 0 0 0 [b.known.getLastD 0,c.known.getLastD 0] 0));have j:(iz (end_ {s:=cut t.s.known.length c,blocks:=a.blocks,ez:=a.ez} 1 0 [t.blocks.length+3] 0 [t.blocks.length+1,t.blocks.length+2]).s (vl 21 0 0 0 [b.known.getLastD 0,c.known.getLastD 0] 0)).ef.length=c.ef.length+1:=by simp[iz,end_,cut]
 have k:(iz (end_ {s:=cut t.s.known.length c,blocks:=a.blocks,ez:=a.ez} 1 0 [t.blocks.length+3] 0 [t.blocks.length+1,t.blocks.length+2]).s (vl 21 0 0 0 [b.known.getLastD 0,c.known.getLastD 0] 0)).eh.length=c.eh.length:=by simp[iz,end_,cut]
 have l:=a3.1.ef;have f:=a3.1.eh;have n:=a3.2;rw[j]at l f n;rw[k]at f;refine⟨?_,?_,?_⟩
 ·grind
 ·show(row ops _).eh.length<=(row ops _).ef.length+(a.blocks++[_]).length
  grind
 ·show(a.blocks++[_]).length<=m+3
  simp_all
theorem Vu(ops:List Int) {t:Dt} {m:Nat} (h:Vq t m) (q:t.s.ef.length<160):Vq (wC ops t) (m+3):=by
 obtain⟨r,u,v⟩:=h;unfold wC;simp only;have a1:=Ea ops (end_ {t with s:=(fx ops t.s).2} 2 (fx ops t.s).1 [t.blocks.length+1,t.blocks.length+2] 0 [t.blocks.length]).s;generalize g:row ops (end_ {t with s:=(fx ops t.s).2} 2 (fx ops t.s).1 [t.blocks.length+1,t.blocks.length+2] 0 [t.blocks.length]).s=a at*;have i:t.s.ef.length<=a.ef.length:=a1.1.ef;have j:a.eh.length+t.s.ef.length<=t.s.eh.length+a.ef.length:=a1.1.eh;have k:a.ef.length<=max t.s.ef.length 200:=a1.2;obtain⟨l,n,_⟩:=Bq ops a;generalize b:end_ {s:=cut t.s.known.length (ft ops a).2,blocks:=(end_ {t with s:=(fx ops t.s).2} 2 (fx ops t.s).1 [t.blocks.length+1,t.blocks.length+2] 0 [t.blocks.length]).blocks,ez:=(end_ {t with s:=(fx ops t.s).2} 2 (fx ops t.s).1 [t.blocks.length+1,t.blocks.length+2] 0 [t.blocks.length]).ez} 3 0 [] (ft ops a).1 [t.blocks.length]=c at*;have b2:c.blocks.length=t.blocks.length+2:=by rw[<-b];simp[end_]
 have o:c.s.ef=a.ef:=by rw[<-b];exact l
 have p:c.s.eh.length=a.eh.length+1:=by rw[<-b];exact n
 have a2:=Ea ops c.s;generalize row ops c.s=w at*;have e:=a2.1.ef;have d:=a2.1.eh;have f:=a2.2;rw[o]at e d f;rw[p]at d;refine⟨?_,?_,?_⟩
 ·grind
 ·grind
 grind
theorem B1(s:Ds)(v:Nat)(args:List Nat):(setArgs s v args).ef.length=s.ef.length/\(setArgs s v args).eh=s.eh:=⟨by simp[setArgs,List.length_modify],rfl⟩
theorem U0(ops:List Int) {t:Dt} {m:Nat} (h:Vq t m) (G:t.s.ef.length<160):Vq (loop ops t) (m+3):=by
 obtain⟨H,I,J⟩:=h;unfold loop;simp only;generalize e:end_ {t with s:=(fx ops t.s).2} 1 0 [t.blocks.length+1] 0 [t.blocks.length,t.blocks.length+2]=b at*;have b1:b.blocks.length=t.blocks.length+1:=by rw[<-e];simp[end_]
 have x:b.s.ef=t.s.ef:=by rw[<-e];rfl
 have y:b.s.eh=t.s.eh:=by rw[<-e];rfl
 generalize i:({put (fx ops (put b.s (vl 21 0 0 0 [(fx ops t.s).1,0] 0))).2 (vl 21 0 0 0 [(fx ops (put b.s (vl 21 0 0 0 [(fx ops t.s).1,0] 0))).1,b.s.ef.length] 0)with known:=(put (fx ops (put b.s (vl 21 0 0 0 [(fx ops t.s).1,0] 0))).2 (vl 21 0 0 0 [(fx ops (put b.s (vl 21 0 0 0 [(fx ops t.s).1,0] 0))).1,b.s.ef.length] 0)).known++[b.s.ef.length,b.s.ef.length+1]}:Ds)=f at*;have z:f.ef.length=t.s.ef.length+2:=by rw[<-i,<-x];simp[put,fx]
 have n:f.eh=t.s.eh:=by rw[<-i,<-y];rfl
 obtain⟨A,B,_⟩:=Bq ops f;generalize j:iz (put (put (ft ops f).2 (vl 23 0 0 0 [] (ft ops f).1)) (vl 2 0 0 1 [] 0)) (vl 4 b.s.ef.length (put (ft ops f).2 (vl 23 0 0 0 [] (ft ops f).1)).ef.length 0 [] 0)=d at*;have K:d.ef.length=t.s.ef.length+5:=by rw[<-j];simp[iz,put,A,z]
 have C:d.eh.length=t.s.eh.length+1:=by rw[<-j,<-n,<-B];rfl
 generalize g:end_ {s:=d,blocks:=b.blocks,ez:=b.ez} 2 b.s.ef.length [t.blocks.length+2,t.blocks.length+3] 0 [t.blocks.length+1]=c at*;have b2:c.blocks.length=t.blocks.length+2:=by rw[<-g];simp[end_,b1]
 have D:c.s.ef=d.ef:=by rw[<-g];rfl
 have o:c.s.eh=d.eh:=by rw[<-g];rfl
 have a1:=Ea ops c.s;generalize row ops c.s=w at*;have p:=a1.1.ef;have k:=a1.1.eh;have q:=a1.2;rw[D]at p k q;rw[o]at k;have r:∀a:Ds,a.ef.length=w.ef.length->a.eh=w.eh->Vq {s:=row ops (end_ {s:=cut d.known.length a,blocks:=c.blocks,ez:=c.ez} 1 0 [t.blocks.length+1] 0 [t.blocks.length+1]).s,blocks:=(end_ {s:=cut d.known.length a,blocks:=c.blocks,ez:=c.ez} 1 0 [t.blocks.length+1] 0 [t.blocks.length+1]).blocks,ez:=(end_ {s:=cut d.known.length a,blocks:=c.blocks,ez:=c.ez} 1 0 [t.blocks.length+1] 0 [t.blocks.length+1]).ez} (m+3):=by
  intro a E F;have a2:=Ea ops (end_ {s:=cut d.known.length a,blocks:=c.blocks,ez:=c.ez} 1 0 [t.blocks.length+1] 0 [t.blocks.length+1]).s;have u:a.ef.length<=_:=a2.1.ef;have l:_+a.ef.length<=a.eh.length+_:=a2.1.eh;have v:_<=max a.ef.length 200:=a2.2;rw[E]at u l v;rw[F]at l;refine⟨?_,?_,?_⟩
  ·grind
  ·show(row ops _).eh.length<=(row ops _).ef.length+(c.blocks++[_]).length
   grind
  ·show(c.blocks++[_]).length<=m+3
   simp_all
 refine r _ ?_ ?_
 ·rw[(B1 _ _ _).1];split
  ·rw[(B1 _ _ _).1];exact(B1 _ _ _).1
  ·exact(B1 _ _ _).1
 ·rw[(B1 _ _ _).2];split
  ·rfl
  ·rfl
theorem Kb(ops:List Int):∀(l:List Int) {t:Dt} {m:Nat},Vq t m->Vq (kH ops l t) (m+3*l.length)
 |[],t,m,h=>h
 | k ::l,t,m,h=>by
   unfold kH;split
   ·rename_i b
    have a:Vq (sN ops (lj k 3) t) (m+3):=by
      unfold sN;split
      ·grind[Vn]
      split
      ·grind[U0]
      ·grind[Vu]
    have:=Kb ops l a
    grind
   ·exact⟨h.ef,h.eh,by have:=h.blocks;omega⟩
open Dm
theorem Yv{t:Dt} (ops:List Int) (h:Ok t):∃D pr nx,Gh D pr nx t.blocks.length/\nx t.blocks.length=[]/\nB D pr nx noE (end_ (on t (ft ops t.s).2) 3 0 [] (ft ops t.s).1 []):=by
 obtain ⟨D,pr,nx,c,v⟩:=h;generalize x:t.blocks.length=hi at*;have f:∀b,b<=hi->ext hi D (dF hi) b=D b:=λb h=>lD h;have xX:∀i,i<hi->rl hi nx (λ_=>[]) i=nx i:=λi h=>yw h;have y:Gh (ext hi D (dF hi)) (ext hi pr λ_=>[]) (rl hi nx λ_=>[]) hi:=by
  refine⟨λp b d a=>?_,λb h0 a=>?_,λb a=>?_,λb a=>?_,λp d e u j=>?_⟩
  ·rw[xX p d]at a;obtain⟨q,z,A⟩:=c.tree p b d a;exact⟨q,z,by rw[f b q];exact AT c.down f A (by omega)⟩
  ·rw[f b a];exact c.down b h0 a
  ·rw[lD a,c.ez b a,xZ hi b xX]
  ·obtain⟨l,e⟩:=c.reach b a;exact⟨l,e.mono (iZ _) xX⟩
  ·rw[xX p d]at e j;rw[lD (c.tree p u d j).1];exact c.ET p d e u j
 have m:=v.Td (D':=ext hi D (dF hi)) (pr':=ext hi pr λ_=>[]) (UM:=rl hi nx λ_=>[]) (by simp_all) (by simp_all) (by grind[lD]) (by simp_all);have n0:rl hi nx (λ_=>[]) hi=[]:=kK (k:=0) (g:=λ_=>[]);obtain⟨o,C,hk,_,_,fs,B,E⟩:=m.state ops;have b1:(on t (ft ops t.s).2).blocks.length=hi:=x
 obtain ⟨F,_⟩:=o.end_ (fin:=3) (cond:=0) (n:=[]) (state:=(ft ops t.s).1) (ez:=[]) (by simp_all) (by grind[hK,List,Nat])
  (.inr (.inr ⟨rfl,rfl,fs,B,λw r=>o.kn w (by show w∈(ft ops t.s).2.known;simp_all)⟩))
  (λw r=>(o.kn w r).up (by rw[b1];exact GH (by omega) (hK (by omega))))
 grind
theorem YS{D:Nat->Nat} {pr nx:Nat->List Nat} {t:Dt} {hi:Nat} (H:Gh D pr nx hi) (hn:nx hi=[]) (d:nB D pr nx noE t) (hb:t.blocks.length=hi+1) (O:t.s.cur=[]) (S:t.s.ef.length<=3000) (hs:t.s.eh.length<=1000) (T:t.blocks.length<=300) (f p:Int) :
  Good ⟨f,p,t.s.ef,t.blocks,t.s.eh⟩:=by
 have hc:t.blocks.flatMap (λB=>B.ef)=List.range t.s.ef.length:=by
  have:=d.cat
  rw[O,GD]at this;exact this
 have own:∀{v b},Ow t v b->∃k,At ⟨f,p,t.s.ef,t.blocks,t.s.eh⟩ v b k:=λh=>by
  rcases h with⟨B,n,m⟩|⟨_,m⟩
  ·obtain⟨k,hk⟩:=mm.1 m;exact⟨k,B,n,hk⟩
  simp_all
 have ag:∀{v b},Ow t v b->b<t.blocks.length:=λh=>by
  rcases h with⟨B,n,_⟩|⟨_,m⟩
  ·grind
  simp_all
 have z:∀{v b k},At ⟨f,p,t.s.ef,t.blocks,t.s.eh⟩ v b k->Ow t v b:=λ⟨B,n,m⟩=> .inl ⟨B,n,AI m⟩;have ah:∀b,b<t.blocks.length->next ⟨f,p,t.s.ef,t.blocks,t.s.eh⟩ b=nx b:=λb h=>by
  have e:=ig h;unfold next
  simp only[e];exact(d.bk b _ e).1
 have ai:∀b,¬b<t.blocks.length->next ⟨f,p,t.s.ef,t.blocks,t.s.eh⟩ b=[]:=by grind[next,Xa,Nat.le_of_not_lt]
 have zH:∀q b,b∈next ⟨f,p,t.s.ef,t.blocks,t.s.eh⟩ q->q<hi/\b∈nx q:=λq b h=>by
  grind
 have I:∀{x b},oW D x b->oV (next ⟨f,p,t.s.ef,t.blocks,t.s.eh⟩) x b:=λh l P=>HL (λq b hb _=>(H.tree q b (by grind) (by simp_all)).2.2) P h;have ZY:∀{a w},Kn D t a w->mz ⟨f,p,t.s.ef,t.blocks,t.s.eh⟩ w:=λ⟨_,x,_,_,E,K⟩=>⟨x,E,K⟩
 have G:∀{a w},Kn D t a w->pT ⟨f,p,t.s.ef,t.blocks,t.s.eh⟩ w a:=λ⟨b,x,n,m,_⟩=>let⟨k,hk⟩:=own n;⟨b,k,hk,I m⟩
 have ab:∀{v w b k},At ⟨f,p,t.s.ef,t.blocks,t.s.eh⟩ v b k->w<v->Kn D t b w->zk ⟨f,p,t.s.ef,t.blocks,t.s.eh⟩ w b k:=λ{v w b k} S o ⟨c,x,n,m,_⟩=>by
  obtain⟨j,M⟩:=own n;by_cases e:c=b
  ·subst e;exact⟨c,j,M,.inl ⟨rfl,Wf hc M S o⟩⟩
  ·exact⟨c,j,M,.inr ⟨e,I m⟩⟩
 have A:∀{v b b'},Ow t v b->Ow t v b'->b=b':=λh h'=>by
  obtain⟨k,hk⟩:=own h;obtain⟨k',U⟩:=own h';exact(Ti hc hk U).1
 have L:∀b,ahead ⟨f,p,t.s.ef,t.blocks,t.s.eh⟩ b=oA nx hi b:=λb=>by
  have V:∀(l:List Bk) (i:Nat),(∀k B,l[k]? =some B->B.next=nx (i+k))->jk l i b=((List.range' i l.length).flatMap λq=>((nx q).filter (·= b)).map λ_=>q):=by
   intro l
   induction l with
   |nil=>intro i _;rfl
   | cons B l W=>
     intro i h;have h0:=h 0 B rfl;rw[XC]at h0;rw[M0,List.range'_succ,List.flatMap_cons];unfold jk;rw[h0,W (i+1) λk B X=>by rw[show i+1+k=i+(k+1) by omega];exact h (k+1) B X]
  unfold ahead;rw[V t.blocks 0 λk B X=>by rw[wX];exact(d.bk k B X).1];have e:List.range' 0 t.blocks.length=List.range t.blocks.length:=(List.range_eq_range').symm;rw[e,hb];have:=wL nx hi b
  grind[oA]
 refine{nv:=S,Jz:=by simp_all,nb:=T,ns:=hs,st:=?_,CE:=by simp_all[Ww],Hy:=λv b k b' k' h h'=>Ti hc h h',jA:=λv b k h=>zbm hc h,zW:=?_,par:=?_,By:=?_,op:=λv x h=>(d.JD v x h).op,use:=?_,leave:=?_,putAt:=λv x h=>(d.JD v x h).putAt,param:=?_,fin:=?_,nx:=?_,ez:=?_,Aw:=?_,ET:=?_,reach:=?_,A6:=?_,AX:=?_,Dx:=?_,A2:=?_,De:=?_}
 ·intro s fs h;obtain⟨r,F⟩:=d.st s fs h
  grind
 ·intro v w b k x y n m E K h5;obtain⟨c,r,_,_,g4⟩:=(d.JD v x E).own;obtain rfl:=A r (z n);have o:w<v:=(Mi hc m n).2 rfl (MC _)
  grind
 ·intro v b k x n m E;exact A (z n) ((d.JD v x m).par E).1
 ·intro v b k x B n m E K;obtain⟨c,r,F,C⟩:=d.ph v x m E;obtain rfl:=A r (z n);exact⟨F,by rw[(d.bk c B K).2.1];exact(C id).1⟩
 ·intro v x h w N;by_cases Q:x.op=21
  ·obtain⟨c,r,F,C⟩:=d.ph v x h Q;have Y:w∈x.args:=by unfold g0 at N;rw[if_pos Q]at N;exact N
   obtain⟨j,M⟩:=mm.1 Y;have o:=(jq.1 M).1;rw[(C id).1]at o;exact ZY ((C id).2 j w _ M (ig o))
  ·obtain⟨c,r,F,_⟩:=(d.JD v x h).own
   grind
 ·intro v x h P;obtain⟨c,r,_,C,_⟩:=(d.JD v x h).own
  grind
 ·intro v x h n;obtain⟨r,F,C⟩:=(d.JD v x h).par n;refine⟨by omega,by omega,λw y hy Z he=>?_⟩;obtain⟨_,k2,_⟩:=(d.JD w y hy).par Z;omega
 ·intro b B h;rcases(d.bk b B h).2.2 with g|⟨r,F,C⟩|⟨r,F,fs,C,_⟩
  ·omega
  ·grind
  grind
 ·intro b u hu;obtain⟨r,F⟩:=zH b u hu;have:=(H.tree b u r F).1
  grind
 ·intro b B h;have o:=(jq.1 h).1;rw[(d.bk b B h).2.1,L,H.ez b (by grind)]
 ·rw[L];exact Ji λi aa hm=>(H.tree i 0 aa hm).2.1 rfl
 ·intro b B h m u hu;have o:b<t.blocks.length:=by grind
  have e:=(d.bk b B h).1;have R:u∈nx b:=by rw[<-e];exact hu
  have J:b<hi:=by
   by_cases e2:b=hi
   ·simp_all
   ·omega
  have P:(nx b).length=2:=by
   rw[<-e];rcases(d.bk b B h).2.2 with g|⟨_,F,_⟩|⟨r,_⟩
   ·omega
   ·exact F
   ·omega
  rw[L,<-H.ez u (H.tree b u J R).1];exact H.ET b J P u R
 ·intro b o;have ac:b<t.blocks.length:=o;obtain⟨l,P⟩:=H.reach b (by omega);have ae:∀{b l},Pn nx hi b l->Pt (next ⟨f,p,t.s.ef,t.blocks,t.s.eh⟩) b l:=by
   intro b l h
   induction h with
   |nil=>exact .nil
   |step _ hp e W=>exact .step W (by grind)
  grind
 ·intro v b k x n m E w N;obtain⟨c,r,F,_⟩:=(d.JD v x m).own
  grind
 ·intro v b k x B n m E K j w q h5 h6;obtain⟨c,r,_,C⟩:=d.ph v x m E;obtain rfl:=A r (z n);rw[(d.bk c B K).2.1]at h6;exact G ((C id).2 j w q h5 h6)
 ·intro v b k x fs n m E K w N;obtain⟨c,r,_,C,_⟩:=(d.JD v x m).own
  grind
 ·intro b B h m;rcases(d.bk b B h).2.2 with g|⟨_,_,C⟩|⟨r,_⟩
  ·omega
  ·simp_all
  ·omega
 ·intro b B fs h m E w N;rcases(d.bk b B h).2.2 with g|⟨r,_,_⟩|⟨_,_,aj,C,g4⟩
  ·omega
  ·omega
  simp_all
theorem MR:∀(n i:Nat) (s:Ds),(params n i s).ef.length=s.ef.length+n/\(params n i s).eh=s.eh
 |0,_,_=>⟨rfl,rfl⟩
 | n+1,i,s=>by
   obtain⟨a,b⟩:=MR n (i+1) (iz s (vl 1 0 0 (i:Nat) [] 0))
   grind[params,iz]
theorem TZ(ops c:List Int) (n:Int):Good (E6 ops c n):=by
 have d:=Uf ops c n;have g:=MR (lj n 5) 0 ⟨[],[],[],[],0⟩;have h:=Ho n (m:=5) (by omega);obtain⟨r1,r2⟩:=Ea ops (iz (params (lj n 5) 0 ⟨[],[],[],[],0⟩) (vl 2 0 0 5 [] 0));have i:(iz (params (lj n 5) 0 ⟨[],[],[],[],0⟩) (vl 2 0 0 5 [] 0)).ef.length=lj n 5+1:=by
  simp only[iz,I9,List.length_singleton,g.1];simp
 have j:(iz (params (lj n 5) 0 ⟨[],[],[],[],0⟩) (vl 2 0 0 5 [] 0)).eh=[]:=g.2;have e:Vq ⟨row ops (iz (params (lj n 5) 0 ⟨[],[],[],[],0⟩) (vl 2 0 0 5 [] 0)),[],[]⟩ 0:=by
  have a:=r1.ef;have b:=r1.eh;rw[i]at a b r2;rw[j]at b;refine⟨by grind,?_,iZ _⟩;show(row ops _).eh.length<=(row ops _).ef.length+0;simp at b;omega
 have f:=Kb ops (c.take 6) e;have hlen:(c.take 6).length<=6:=by rw[KN];omega
 unfold E6;simp only;generalize kH ops (c.take 6) ⟨row ops (iz (params (lj n 5) 0 ⟨[],[],[],[],0⟩) (vl 2 0 0 5 [] 0)),[],[]⟩=t at*;obtain⟨D,pr,nx,k,l,o⟩:=Yv ops d;obtain⟨p,q,_⟩:=Bq ops t.s;have v:=f.ef;have s:=f.eh;have bl:=f.blocks;refine YS k l o (by simp[end_,on]) rfl ?_ ?_ ?_ 1 2
 ·show(ft ops t.s).2.ef.length<=3000
  grind
 ·show(ft ops t.s).2.eh.length<=1000;omega
 ·show(t.blocks++[_]).length<=300
  grind
open Dm
def Zo(u:U) (v:Nat):Bool:=match u.ef[v]? with
 |some x=>hY x.op
 |none=>false
def VH(u:U) (b:Nat):List Nat:=match u.blocks[b]? with
 |some B=>B.ef
 |none=>[]
def zal(u:U)(t w:Nat):Prop:=w∈VH u t/\Zo u w=true
def Ot(u:U) (s:Nat):List Nat:=match u.eh[s]? with
 |some fs=>gY fs
 |none=>[]
def zb1(u:U) (v:Nat):List Nat:=match u.ef[v]? with
 |some x=>g0 x++(if leaves x.op=true then Ot u x.state else[])
 |none=>[]
def ln(In H:Nat->Nat->Prop):List Nat->(Nat->Prop)->Nat->Prop
 |[],P=>P
 |t::ts,P=>ln In H ts λw=>(P w\/In t w)/\¬H t w
def YR(u:U)(b w:Nat):Prop:=∃t∈next u b,∃(B:Bk) (v:Nat) (x:Vl) (j:Nat),u.blocks[t]? =some B/\v∈B.ef/\u.ef[v]? =some x/\x.op=21/\B.ez[j]? =some b/\x.args[j]? =some w
def YH(u:U)(b w:Nat):Prop:=∃B:Bk,u.blocks[b]? =some B/\(B.fin=2/\w=B.cond\/B.fin=3/\w∈Ot u B.state)
def zbQ(u:U)(H In:Nat->Nat->Prop)(b w:Nat):Prop:=ln In H (next u b) (λ_=>False) w\/YR u b w\/YH u b w
def bk(u:U):List Nat->(Nat->Prop)->Nat->Prop
 |[],P=>P
 |v::r,P=>if Zo u v=true then P else bk u r λw=>(P w/\w≠v)\/w∈zb1 u v
def Zz(u:U)(b:Nat)(O:Nat->Prop):Nat->Prop:=bk u (VH u b).reverse O
def Tr(u:U)(H In:Nat->Nat->Prop)(b:Nat):Nat->Prop:=Zz u b (zbQ u H In b)
structure zcP (u:U) (H In:Nat->Nat->Prop):Prop where
 up:∀b w,In b w->Tr u H In b w
 least:∀X:Nat->Nat->Prop,(∀b w,b<u.blocks.length->Tr u H X b w->X b w)->∀b w,In b w->X b w
structure zbl (u:U) (H In Out:Nat->Nat->Prop):Prop where
 out:∀b w,b<u.blocks.length->(Out b w↔zbQ u H In b w)
 L0:∀b w,b<u.blocks.length->(In b w↔Zz u b (Out b) w)
 least:∀X:Nat->Nat->Prop,(∀b w,b<u.blocks.length->Tr u H X b w->X b w)->∀b w,In b w->X b w
section
variable{u:U}(g:Good u)
include g
theorem Good.V3{p b:Nat} (h:b∈next u p):p<u.blocks.length/\b<u.blocks.length/\b≠0:=by
 refine⟨?_,g.nx p b h,λe=>?_⟩
 ·grind[next,jq]
 ·subst e;have:=sX.2 h;rw[g.Aw]at this;cases this
variable{In Out:Nat->Nat->Prop}(h:zbl u (zal u) In Out)
include h
end
