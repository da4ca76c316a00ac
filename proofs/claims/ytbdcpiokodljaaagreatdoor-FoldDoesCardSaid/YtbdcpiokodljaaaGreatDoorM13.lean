/- Parts. -/
import Derived.Test.YtbdcpiokodljaaaGreatDoorM12
set_option maxHeartbeats 4000000
namespace Go.Proofs.YtbdcpiokodljaaaGreatDoor.Un
open Dm
def qv(nx:Nat->List Nat)(n b:Nat):List Nat:=(List.range n).flatMap λi=>((nx i).filter (·= b)).map λ_=>i
theorem zq(nx:Nat->List Nat) (n b:Nat):qv nx (n+1) b=qv nx n b++((nx n).filter (·= b)).map λ_=>n:=by
 grind[qv,wBO]
theorem AB{nx Yr:Nat->List Nat} (n b:Nat) (h:∀i,i<n->Yr i=nx i):qv Yr n b=qv nx n b:=by
 induction n with
 |zero=>rfl
 |succ n a=>grind[zq]
theorem Np{nx:Nat->List Nat} {n b q:Nat}:q∈qv nx n b↔q<n/\b∈nx q:=by
 unfold qv
 simp_all
theorem MB{nx:Nat->List Nat} {n b:Nat} (h:∀i,i<n->b ∉ nx i):qv nx n b=[]:=by
 simp_all[List.eq_nil_iff_forall_not_mem,Np]
inductive Pn (nx:Nat->List Nat) (n:Nat):Nat->List Nat->Prop
 |nil:Pn nx n 0 [0]
 |step {p b:Nat} {l:List Nat} (h:Pn nx n p l) (hp:p<n) (e:b∈nx p):Pn nx n b (b::l)
theorem Pn.mono{nx Yr:Nat->List Nat} {n a:Nat} (c:n<=a) (d:∀i,i<n->Yr i=nx i):∀{b l},Pn nx n b l->Pn Yr a b l
 |_,_,.nil=> .nil
 |_,_,.step h hp e=> .step (h.mono c d) (by omega) (by simp_all)
structure Gh (D:Nat->Nat) (pr nx:Nat->List Nat) (hi:Nat):Prop where
 tree:∀p b,p<hi->b∈nx p->b<=hi/\b≠0/\qO D (D b) p
 down:∀b,b≠0->b<=hi->D b<b
 eQ:∀b,b<=hi->pr b=qv nx hi b
 reach:∀b,b<=hi->∃l,Pn nx hi b l
 IB:∀p,p<hi->(nx p).length=2->∀t∈nx p,(pr t).length=1
theorem EC{D D':Nat->Nat} {hi:Nat} (a:∀b,b≠0->b<=hi->D b<b) (d:∀b,b<=hi->D' b=D b) {x b:Nat} (h:qO D x b):b<=hi->qO D' x b:=by
 induction h with
 |refl=>exact λ_=> .refl _
 | up h0 _ e=>
   rename_i b _;intro c;have:=a b h0 c;exact .up h0 (by grind)
theorem za9{t:Dt} {v b:Nat} (h:Ow t v b):b<=t.blocks.length:=by
 rcases h with⟨B,a,_⟩|⟨a,_⟩
 ·grind
 ·omega
section
variable{D D':Nat->Nat}{pr nx pr' Yr:Nat->List Nat}{E:Nat->Prop}{t:Dt}
theorem p8.V5(c:p8 D pr nx E t) (z:Gh D pr nx t.blocks.length) (p:∀b,b<=t.blocks.length->D' b=D b) (k:∀b,b<=t.blocks.length->pr' b=pr b) (G:∀b,b<t.blocks.length->Yr b=nx b):p8 D' pr' Yr E t:=by
 have kn:∀{a w},a<=t.blocks.length->Kn D t a w->Kn D' t a w:=λH ⟨b,x,l,A,m⟩=>⟨b,x,l,EC z.down p A H,m⟩
 refine⟨c.cat,λv x h=>?_,λv x h I=>?_,λb B h=>?_,λs fs h=>?_,by rw[k _ (ju _)];exact c.pc,c.ne,λw d=>kn (ju _) (c.kn w d)⟩
 ·have n:=c.MI v x h;obtain⟨b,l,A,m,J⟩:=n.own;refine⟨n.op,n.putAt,n.par,b,l,by grind[za9],λR=>?_,J⟩
  grind[za9]
 ·obtain⟨b,e,o,i⟩:=c.ph v x h I;refine⟨b,e,o,λC=>?_⟩;rw[k b (za9 e)];refine⟨(i C).1,λj w q K F=>kn ?_ ((i C).2 j w q K F)⟩;have:=DQ F;rw[z.eQ b (za9 e)]at this
  grind[Nat.le_of_lt,Np]
 ·have L:=(kj.1 h).1;obtain⟨e,o,i⟩:=c.bk b B h;refine⟨by simp_all,by grind,?_⟩;rcases i with g|⟨r,u,y⟩|⟨r,u,fs,y,M⟩
  ·exact .inl g
  ·exact .inr (.inl ⟨r,u,kn (by omega) y⟩)
  ·exact .inr (.inr ⟨r,u,fs,y,λw d=>kn (by omega) (M w d)⟩)
 ·obtain⟨e,o⟩:=c.st s fs h;refine⟨e,λf N=>?_⟩;obtain⟨i,O,P,Q⟩:=o f N;have own:∀w,(∃a,Kn D t a w)->∃a,Kn D' t a w:=λw ⟨a,b,x,l,_,m⟩=>⟨b,b,x,l,.refl _,m⟩
  exact⟨i,O,λw d=>own w (P w d),λw d=>own w (Q w d)⟩
end
def ext{α:Type}(hi:Nat)(f:Nat->α)(g:Nat->α):Nat->α:=λb=>if b<=hi then f b else g (b-hi)
def ud(hi:Nat)(f:Nat->List Nat)(g:Nat->List Nat):Nat->List Nat:=λb=>if b<hi then f b else g (b-hi)
theorem na{α:Type}{hi b:Nat}{f g:Nat->α}(h:b<=hi):ext hi f g b=f b:=by simp_all[ext,if_pos]
theorem iC{α:Type}{hi k:Nat}{f g:Nat->α}(h:0<k):ext hi f g (hi+k)=g k:=by simp_all[ext,if_neg,wBd]
theorem Bo{hi b:Nat}{f g:Nat->List Nat}(h:b<hi):ud hi f g b=f b:=by simp_all[ud,if_pos]
theorem mr{hi k:Nat}{f g:Nat->List Nat}:ud hi f g (hi+k)=g k:=by simp_all[ud,if_neg,wBd]
section
variable{D:Nat->Nat}{pr nx:Nat->List Nat}{hi:Nat}
theorem Gh.none(a:Gh D pr nx hi) {b:Nat} (d:hi<b):qv nx hi b=[]:=MB λi h c=>by
 have:=(a.tree i b h c).1;omega
def dF(hi:Nat)(k:Nat):Nat:=hi
def pF(hi k:Nat):List Nat:=if k=3 then[hi+1,hi+2] else[hi]
def nF(hi k:Nat):List Nat:=if k=0 then[hi+1,hi+2] else[hi+3]
theorem Gh.fork(a:Gh D pr nx hi):Gh (ext hi D (dF hi)) (ext hi pr (pF hi)) (ud hi nx (nF hi)) (hi+3):=by
 have o:∀k,0<k->ext hi D (dF hi) (hi+k)=hi:=λk hk=>iC hk;have n0:ud hi nx (nF hi) hi=[hi+1,hi+2]:=mr (k:=0);have u:ud hi nx (nF hi) (hi+1)=[hi+3]:=mr (k:=1);have v:ud hi nx (nF hi) (hi+2)=[hi+3]:=mr (k:=2);have g:∀b,b<=hi->ext hi D (dF hi) b=D b:=λb h=>na h;have AK:∀i,i<hi->ud hi nx (nF hi) i=nx i:=λi h=>Bo h;have j:∀b,qv (ud hi nx (nF hi)) (hi+3) b=qv nx hi b++([hi+1,hi+2].filter (·= b)).map (λ_=>hi)++([hi+3].filter (·= b)).map (λ_=>hi+1)++([hi+3].filter (·= b)).map (λ_=>hi+2):=by simp_all[zq,AB]
 have low:∀b,b<=hi+3->b<=hi\/b=hi+1\/b=hi+2\/b=hi+3:=by omega
 refine⟨λp b hp c=>?_,λb h0 c=>?_,λb c=>?_,λb c=>?_,λp hp f t e=>?_⟩
 ·have d:p<hi\/p=hi\/p=hi+1\/p=hi+2:=by omega
  rcases d with h|rfl|rfl|rfl
  ·rw[AK p h]at c;obtain⟨m,q,r⟩:=a.tree p b h c;exact⟨by omega,q,by rw[g b m];exact EC a.down g r (by omega)⟩
  ·rw[n0]at c;simp at c;rcases c with rfl|rfl
   ·exact⟨by omega,by omega,by rw[o 1 (by omega)];exact .refl _⟩
   ·exact⟨by omega,by omega,by rw[o 2 (by omega)];exact .refl _⟩
  ·grind[Ks]
  grind[Ks]
 ·rcases low b c with h|rfl|rfl|rfl
  ·rw[g b h];exact a.down b h0 h
  ·simp_all
  ·simp_all
  simp_all
 ·rw [j];rcases low b c with h|rfl|rfl|rfl
  ·rw[na h,a.eQ b h];have w:¬hi+1=b:=by omega
   have x:¬hi+2=b:=by omega
   grind
  ·rw[iC (by omega),a.none (by omega)];simp[pF]
  ·rw[iC (by omega),a.none (by omega)];simp[pF]
  ·rw[iC (by omega),a.none (by omega)];simp[pF]
 ·obtain⟨l,f⟩:=a.reach hi (ju _);have h0:Pn (ud hi nx (nF hi)) (hi+3) hi l:=f.mono (by omega) AK;have m:Pn (ud hi nx (nF hi)) (hi+3) (hi+1) ((hi+1)::l):= .step h0 (by omega) (by simp_all);rcases low b c with h|rfl|rfl|rfl
  ·obtain⟨s,n⟩:=a.reach b h;exact⟨s,n.mono (by omega) AK⟩
  ·grind
  ·exact⟨_,.step h0 (by omega) (by simp_all)⟩
  ·exact⟨_,.step m (by omega) (by simp_all)⟩
 ·have d:p<hi\/p=hi\/p=hi+1\/p=hi+2:=by omega
  rcases d with h|rfl|rfl|rfl
  ·rw[AK p h]at f e;rw[na (a.tree p t h e).1];exact a.IB p h f t e
  ·rw[n0]at e;simp at e;rcases e with rfl|rfl
   ·rw[iC (by omega)];rfl
   ·rw[iC (by omega)];rfl
  ·simp_all
  simp_all
def nX(hi k:Nat):List Nat:=if k=0 then[hi+1,hi+2] else[]
def pX(hi _k:Nat):List Nat:=[hi]
theorem Gh.exit(c:Gh D pr nx hi):Gh (ext hi D (dF hi)) (ext hi pr (pX hi)) (ud hi nx (nX hi)) (hi+2):=by
 have n:∀k,0<k->ext hi D (dF hi) (hi+k)=hi:=λk hk=>iC hk;have n0:ud hi nx (nX hi) hi=[hi+1,hi+2]:=mr (k:=0);have u:ud hi nx (nX hi) (hi+1)=[]:=mr (k:=1);have g:∀b,b<=hi->ext hi D (dF hi) b=D b:=λb h=>na h;have AK:∀i,i<hi->ud hi nx (nX hi) i=nx i:=λi h=>Bo h;have j:∀b,qv (ud hi nx (nX hi)) (hi+2) b=qv nx hi b++([hi+1,hi+2].filter (·= b)).map (λ_=>hi):=by simp_all[zq,AB]
 have low:∀b,b<=hi+2->b<=hi\/b=hi+1\/b=hi+2:=by omega
 refine⟨λp b hp a=>?_,λb h0 a=>?_,λb a=>?_,λb a=>?_,λp hp f t e=>?_⟩
 ·have d:p<hi\/p=hi\/p=hi+1:=by omega
  rcases d with h|rfl|rfl
  ·rw[AK p h]at a;obtain⟨o,q,r⟩:=c.tree p b h a;exact⟨by omega,q,by rw[g b o];exact EC c.down g r (by omega)⟩
  ·rw[n0]at a;simp at a;rcases a with rfl|rfl
   ·exact⟨by omega,by omega,by rw[n 1 (by omega)];exact .refl _⟩
   ·exact⟨by omega,by omega,by rw[n 2 (by omega)];exact .refl _⟩
  simp_all
 ·rcases low b a with h|rfl|rfl
  ·rw[g b h];exact c.down b h0 h
  ·simp_all
  simp_all
 ·rw [j];rcases low b a with h|rfl|rfl
  ·rw[na h,c.eQ b h]
   grind
  ·rw[iC (by omega),c.none (by omega)];simp[pX]
  ·rw[iC (by omega),c.none (by omega)];simp[pX]
 ·obtain⟨l,f⟩:=c.reach hi (ju _);have h0:Pn (ud hi nx (nX hi)) (hi+2) hi l:=f.mono (by omega) AK;rcases low b a with h|rfl|rfl
  ·obtain⟨s,m⟩:=c.reach b h;exact⟨s,m.mono (by omega) AK⟩
  ·exact⟨_,.step h0 (by omega) (by simp_all)⟩
  ·exact⟨_,.step h0 (by omega) (by simp_all)⟩
 ·have d:p<hi\/p=hi\/p=hi+1:=by omega
  rcases d with h|rfl|rfl
  ·rw[AK p h]at f e;rw[na (c.tree p t h e).1];exact c.IB p h f t e
  ·rw[n0]at e;simp at e;rcases e with rfl|rfl
   ·rw[iC (by omega)];rfl
   ·rw[iC (by omega)];rfl
  simp_all
def dL(hi k:Nat):Nat:=if k=1 then hi else hi+1
def pL(hi k:Nat):List Nat:=if k=1 then[hi,hi+2] else[hi+1]
def nL(hi k:Nat):List Nat:=if k=1 then[hi+2,hi+3] else[hi+1]
theorem Gh.loop(c:Gh D pr nx hi):Gh (ext hi D (dL hi)) (ext hi pr (pL hi)) (ud hi nx (nL hi)) (hi+3):=by
 have d:ext hi D (dL hi) (hi+1)=hi:=iC (by omega);have m:ext hi D (dL hi) (hi+2)=hi+1:=iC (by omega);have n:ext hi D (dL hi) (hi+3)=hi+1:=iC (by omega);have n0:ud hi nx (nL hi) hi=[hi+1]:=mr (k:=0);have s:ud hi nx (nL hi) (hi+1)=[hi+2,hi+3]:=mr (k:=1);have u:ud hi nx (nL hi) (hi+2)=[hi+1]:=mr (k:=2);have o:∀b,b<=hi->ext hi D (dL hi) b=D b:=λb h=>na h;have AK:∀i,i<hi->ud hi nx (nL hi) i=nx i:=λi h=>Bo h;have q:∀b,qv (ud hi nx (nL hi)) (hi+3) b=qv nx hi b++([hi+1].filter (·= b)).map (λ_=>hi)++([hi+2,hi+3].filter (·= b)).map (λ_=>hi+1)++([hi+1].filter (·= b)).map (λ_=>hi+2):=by simp_all[zq,AB]
 have low:∀b,b<=hi+3->b<=hi\/b=hi+1\/b=hi+2\/b=hi+3:=by omega
 refine⟨λp b hp a=>?_,λb h0 a=>?_,λb a=>?_,λb a=>?_,λp hp g t f=>?_⟩
 ·have e:p<hi\/p=hi\/p=hi+1\/p=hi+2:=by omega
  rcases e with h|rfl|rfl|rfl
  ·rw[AK p h]at a;obtain⟨j,v,w⟩:=c.tree p b h a;exact⟨by omega,v,by rw[o b j];exact EC c.down o w (by omega)⟩
  ·rw[n0]at a;simp at a;subst a;exact⟨by omega,by omega,by rw[d];exact .refl _⟩
  ·rw[s]at a;simp at a;rcases a with rfl|rfl
   ·exact⟨by omega,by omega,by rw[m];exact .refl _⟩
   ·exact⟨by omega,by omega,by rw[n];exact .refl _⟩
  ·rw[u]at a;simp at a;subst a;exact⟨by omega,by omega,by rw[d];exact(Ks (by omega) d).trans (by grind[Ks])⟩
 ·rcases low b a with h|rfl|rfl|rfl
  ·rw[o b h];exact c.down b h0 h
  ·omega
  ·omega
  omega
 ·rw [q];rcases low b a with h|rfl|rfl|rfl
  ·rw[na h,c.eQ b h];have y:¬hi+1=b:=by omega
   have z:¬hi+2=b:=by omega
   have A:¬hi+3=b:=by omega
   simp_all
  ·rw[iC (by omega),c.none (by omega)];simp[pL]
  ·rw[iC (by omega),c.none (by omega)];simp[pL]
  ·rw[iC (by omega),c.none (by omega)];simp[pL]
 ·obtain⟨l,g⟩:=c.reach hi (ju _);have h0:Pn (ud hi nx (nL hi)) (hi+3) hi l:=g.mono (by omega) AK;have j:Pn (ud hi nx (nL hi)) (hi+3) (hi+1) ((hi+1)::l):= .step h0 (by omega) (by simp_all);rcases low b a with h|rfl|rfl|rfl
  ·obtain⟨x,r⟩:=c.reach b h;exact⟨x,r.mono (by omega) AK⟩
  ·grind
  ·exact⟨_,.step j (by omega) (by simp_all)⟩
  ·exact⟨_,.step j (by omega) (by simp_all)⟩
 ·have e:p<hi\/p=hi\/p=hi+1\/p=hi+2:=by omega
  rcases e with h|rfl|rfl|rfl
  ·rw[AK p h]at g f;rw[na (c.tree p t h f).1];exact c.IB p h g t f
  ·simp_all
  ·rw[s]at f;simp at f;rcases f with rfl|rfl
   ·rw[iC (by omega)];rfl
   ·rw[iC (by omega)];rfl
  simp_all
end
open Dm
def noE:Nat->Prop:=λ_=>False
def Ok(t:Dt):Prop:=∃D pr nx,Gh D pr nx t.blocks.length/\p8 D pr nx noE t
theorem Ok.fork{t:Dt} (ops:List Int) (h:Ok t):Ok (fork ops t):=by
 obtain⟨D,pr,nx,c,d⟩:=h;generalize a:t.blocks.length=hi at*;have b:=d.V5 (D':=ext hi D (dF hi)) (pr':=ext hi pr (pF hi)) (Yr:=ud hi nx (nF hi)) (by simp_all) (by grind[na]) (by grind[na]) (by grind[Bo])
 obtain ⟨e,f⟩:=za5 b ops (by rw[a];exact mr (k:=0)) (by rw[a];exact mr (k:=1)) (by rw[a];exact mr (k:=2)) (by rw[a];exact iC (by omega)) (by rw[a];exact iC (by omega)) (by rw[a];exact iC (by omega))
  (by rw[a];exact iC (by omega)) (by rw[a];exact iC (by omega)) (by rw[a];exact iC (by omega))
 exact⟨_,_,_,by rw[f,a];exact c.fork,e⟩
theorem Ok.exit{t:Dt} (ops:List Int) (h:Ok t):Ok (zo ops t):=by
 obtain⟨D,pr,nx,c,d⟩:=h;generalize a:t.blocks.length=hi at*;have b:=d.V5 (D':=ext hi D (dF hi)) (pr':=ext hi pr (pX hi)) (Yr:=ud hi nx (nX hi)) (by simp_all) (by grind[na]) (by grind[na]) (by grind[Bo])
 obtain ⟨e,f⟩:=zbm b ops (by rw[a];exact mr (k:=0)) (by rw[a];exact mr (k:=1)) (by rw[a];exact iC (by omega)) (by rw[a];exact iC (by omega))
  (by rw[a];exact iC (by omega)) (by rw[a];exact iC (by omega))
 exact⟨_,_,_,by rw[f,a];exact c.exit,e⟩
theorem Ok.loop{t:Dt} (ops:List Int) (h:Ok t):Ok (loop ops t):=by
 obtain⟨D,pr,nx,c,d⟩:=h;generalize a:t.blocks.length=hi at*;have b:=d.V5 (D':=ext hi D (dL hi)) (pr':=ext hi pr (pL hi)) (Yr:=ud hi nx (nL hi)) (by simp_all) (by grind[na]) (by grind[na]) (by grind[Bo])
 obtain ⟨e,f⟩:=zbk b ops (by rw[a];exact mr (k:=0)) (by rw[a];exact mr (k:=1)) (by rw[a];exact mr (k:=2)) (by rw[a];exact iC (by omega)) (by rw[a];exact iC (by omega)) (by rw[a];exact iC (by omega))
  (by rw[a];exact iC (by omega)) (by rw[a];exact iC (by omega)) (by rw[a];exact iC (by omega))
 exact⟨_,_,_,by rw[f,a];exact c.loop,e⟩
theorem Ok.mi(ops:List Int):∀(l:List Int) {t:Dt},Ok t->Ok (mi ops l t)
 |[],_,h=>h
 | k ::l,t,h=>by
   unfold Un.mi;split
   ·refine Ok.mi ops l ?_
    unfold vn;split
    ·exact h.fork ops
    split
    ·exact h.loop ops
    ·exact h.exit ops
   ·exact h
def t0(s:Ds):Dt:=⟨s,[],[]⟩
structure Ps (s:Ds) (i:Nat):Prop where
 ef:s.ef.length=i
 all:∀(v:Nat) (x:Vl),s.ef[v]? =some x->x=vl 1 0 0 (v:Nat) [] 0
 cur:s.cur=List.range i
 known:s.known=List.range i
 eh:s.eh=[]
theorem Qm:∀(n i:Nat) (s:Ds),Ps s i->Ps (params n i s) (i+n)
 |0,i,s,h=>h
 | n + 1,i,s,h=>by
   have:=Qm n (i+1) (jh s (vl 1 0 0 (i:Nat) [] 0)) ⟨by simp[jh,h.ef],λv x hv=>?_,by simp only[jh];rw[h.cur,h.ef,wBO],by simp only[jh];rw[h.known,h.ef,wBO],h.eh⟩
   ·rw[show i+(n+1)=i+1+n by omega]
    exact this
   ·have a:(s.ef++[vl 1 0 0 (i:Nat) [] 0])[v]? =some x:=hv
    by_cases Pu:v<s.ef.length
    ·rw[Wx Pu]at a
     exact h.all v x a
    ·have c:=(kj.1 a).1
     simp at c;have b:v=s.ef.length:=by omega
     subst b;rw[wBU]at a;rw[h.ef]
     simp_all
theorem gh0:Gh (λ_=>0) (λ_=>[]) (λ_=>[]) 0:=
 ⟨by omega,by omega,λb a=>rfl,λb a=>by
  obtain rfl:b=0:=by omega
  exact⟨[0],.nil⟩,by omega⟩
theorem YV{s:Ds} {n:Nat} (h:Ps s n) (o:n<=5):p8 (λ_=>0) (λ_=>[]) (λ_=>[]) noE (t0 (jh s (vl 2 0 0 5 [] 0))):=by
 have c:(t0 (jh s (vl 2 0 0 5 [] 0))).s.ef=s.ef++[vl 2 0 0 5 [] 0]:=rfl;have d:(t0 (jh s (vl 2 0 0 5 [] 0))).s.cur=List.range (n+1):=by
  show s.cur++[s.ef.length]=_;rw[h.cur,h.ef,wBO]
 have hlen:(t0 (jh s (vl 2 0 0 5 [] 0))).s.ef.length=n+1:=by rw[c];simp[h.ef]
 have a:∀(v:Nat) (x:Vl),(t0 (jh s (vl 2 0 0 5 [] 0))).s.ef[v]? =some x->(v<n/\x=vl 1 0 0 (v:Nat) [] 0)\/(v=n/\x=vl 2 0 0 5 [] 0):=λv x hv=>by
  rw[c]at hv;by_cases e:v<s.ef.length
  ·rw[Wx e]at hv;exact .inl ⟨by simp_all,h.all v x hv⟩
  grind
 have j:∀v,v<n+1->Ow (t0 (jh s (vl 2 0 0 5 [] 0))) v 0:=λv hv=> .inr ⟨rfl,by simp_all⟩;have k:∀v,v<n+1->Kn (λ_=>0) (t0 (jh s (vl 2 0 0 5 [] 0))) 0 v:=λv hv=>by
  have i:∃x,(t0 (jh s (vl 2 0 0 5 [] 0))).s.ef[v]? =some x:=by simp_all
  obtain⟨x,i⟩:=i;refine⟨0,x,j v hv,.refl _,i,?_⟩;rcases a v x i with⟨_,rfl⟩|⟨_,rfl⟩ <;> rfl
 refine⟨?_,λv x hv=>?_,λv x hv p=>?_,λb B m=>(by cases m),λst fs hs=>?_,rfl,?_,λw l=>?_⟩
 ·rw[hlen,d];rfl
 ·rcases a v x hv with⟨e,rfl⟩|⟨rfl,rfl⟩
  ·refine⟨by simp[vl],by grind[vl],λ_=>⟨by grind,rfl,by omega⟩,0,by grind,by grind[iP,vl,two,nW],by grind[vl,leaves],λ_ w _ l=>?_⟩
   grind[t0,jh,vl,hO]
  ·exact⟨by simp[vl],by grind[vl],by grind[vl],0,by simp_all,by grind[iP,vl,two,nW],by grind[vl,leaves],by grind[vl,ir]⟩
 ·rcases a v x hv with⟨_,rfl⟩|⟨_,rfl⟩
  ·grind[vl]
  grind[vl]
 ·have f:s.eh[st]? =some fs:=hs;rw[h.eh]at f;cases f
 ·show s.known++[s.ef.length]≠[];simp
 ·have g:w∈s.known++[s.ef.length]:=l;rw[h.known,h.ef,<-wBO]at g;exact k w (Ve.1 g)
theorem Yc(ops a:List Int) (n:Int):Ok (mi ops (a.take 6) ⟨row ops (jh (params (mV n 5) 0 ⟨[],[],[],[],0⟩) (vl 2 0 0 5 [] 0)),[],[]⟩):=by
 have h0:Ps ⟨[],[],[],[],0⟩ 0:=⟨rfl,by simp_all,rfl,rfl,rfl⟩
 have b:=Qm (mV n 5) 0 _ h0;rw[zO]at b;have c:=YV b (by simp_all[Nat.le_of_lt,Hh]);obtain⟨d,_⟩:=c.row ops;exact Ok.mi ops _ ⟨_,_,_,gh0,d⟩
open Dm
theorem Wz:∀(l:List Bk),(l.flatMap λB=>B.ef).Pairwise (·< ·)->∀(b b' k k':Nat) (B a:Bk) (v d:Nat),l[b]? =some B->l[b']? =some a->B.ef[k]? =some v->a.ef[k']? =some d->(b<b'->v<d)/\(b=b'->k<k'->v<d)
 |[],_,b,_,_,_,_,_,_,_,h,_,_,_=>by simp_all
 | C ::l,hp,b,b',k,k',B,a,v,d,e,c,i,j=>by
   rw[List.flatMap_cons,List.pairwise_append]at hp;obtain⟨p1,p2,p3⟩:=hp
   match b,b',e,c with
   | 0,0,e,c=>
     obtain rfl:C=B:=by simp_all
     obtain rfl:C=a:=by simp_all
     grind[kj,wA9]
   | 0,n+1,e,c=>
     obtain rfl:C=B:=by simp_all
     have f:l[n]? =some a:=by simpa using c
     refine⟨λ_=>p3 v (DQ i) d (by grind),by omega⟩
   |n+1,0,e,c=>omega
   | n+1,m+1,e,c=>
     have g:l[n]? =some B:=by simpa using e
     have f:l[m]? =some a:=by simpa using c
     have:=Wz l p2 n m k k' B a v d g f i j;omega
section
variable{u:U}(hc:u.blocks.flatMap (λB=>B.ef)=List.range u.ef.length)
include hc
theorem DN{v a b b' k k':Nat} (h:At u v b k) (h':At u a b' k'):(b<b'->v<a)/\(b=b'->k<k'->v<a):=by
 obtain⟨B,c,d⟩:=h;obtain⟨e,f,g⟩:=h'
 grind[Wz,List.pairwise_lt_range]
theorem V2{v b b' k k':Nat} (h:At u v b k) (h':At u v b' k'):b=b'/\k=k':=by
 have c:=(DN hc h h').1;have d:=(DN hc h' h).1;have a:b=b':=by
  rcases wB7 b b' with h|h|h
  ·omega
  ·exact h
  ·omega
 have e:=(DN hc h h').2 a;have f:=(DN hc h' h).2 a.symm;omega
theorem ZD{v a b k k':Nat} (h:At u v b k) (h':At u a b k') (c:v<a):k<k':=by
 rcases wB7 k k' with g|g|g
 ·exact g
 ·subst g;obtain⟨B,d,e⟩:=h;obtain⟨f,i,j⟩:=h'
  simp_all
 ·have:=(DN hc h' h).2 rfl g;omega
theorem YD{v:Nat} (hv:v<u.ef.length):∃b k,At u v b k:=by
 have:v∈u.blocks.flatMap (λB=>B.ef):=by rw[hc];exact Ve.2 hv
 obtain⟨B,a,c⟩:=Yk.1 this;obtain⟨b,d⟩:=nT.1 a;obtain⟨k,hk⟩:=nT.1 c;exact⟨b,k,B,d,hk⟩
theorem zeM{v b k:Nat} (h:At u v b k):v<u.ef.length:=by
 obtain⟨B,a,c⟩:=h;have:v∈u.blocks.flatMap (λB=>B.ef):=by grind
 simp_all
end
theorem GU(ops:List Int):∀(i:Nat) (s:Ds) (l:List Nat),∃p,(some_ ops i s l).2 = {s with pos:=p}
 |0,s,_=>⟨s.pos,rfl⟩
 |i+1,s,l=>GU ops i (fL ops s).2 (l++[(fL ops s).1])
theorem Ei(ops:List Int) (s:Ds):(fH ops s).2.ef=s.ef/\(fH ops s).2.eh.length=s.eh.length+1/\(fH ops s).2.cur=s.cur:=by
 obtain⟨p,hp⟩:=GU ops (num ops s 4).1 (num ops s 4).2 [];unfold fH;simp only;rw[hp];exact⟨rfl,by simp,rfl⟩
structure Sz (s s':Ds):Prop where
 ef:s.ef.length<=s'.ef.length
 eh:s'.eh.length+s.ef.length<=s.eh.length+s'.ef.length
theorem Sz.refl(s:Ds):Sz s s:=⟨ju _,ju _⟩
theorem Sz.trans{s s' e:Ds} (f:Sz s s') (g:Sz s' e):Sz s e:=by
 have a:=f.ef;have b:=g.ef;have c:=f.eh;have d:=g.eh;exact⟨by omega,by omega⟩
theorem zbh(ops:List Int) (s:Ds) (k a b:Nat):(tq ops s k a b).ef.length=s.ef.length+1/\(tq ops s k a b).eh.length<=s.eh.length+1:=by
 grind[Ei,tq,jh,num,put,fL]
theorem Wk(ops:List Int):∀(i:Nat) (s:Ds),Sz s (rows ops i s)/\(rows ops i s).ef.length<=max s.ef.length 200
 |0,s=>⟨.refl s,by show s.ef.length<=_;omega⟩
 | i + 1,s=>by
   unfold rows;split
   ·rename_i b
    obtain⟨c,d⟩:=Wk ops i (vf ops s);have a:=zbh ops (num ops (fL ops (fL ops s).2).2 20).2 (num ops (fL ops (fL ops s).2).2 20).1 (fL ops s).1 (fL ops (fL ops s).2).1;have e:(vf ops s).ef.length=s.ef.length+1:=a.1;have f:(vf ops s).eh.length<=s.eh.length+1:=a.2;exact⟨Sz.trans ⟨by omega,by omega⟩ c,by omega⟩
   ·exact⟨.refl s,by omega⟩
theorem GP(ops:List Int) (s:Ds):Sz s (row ops s)/\(row ops s).ef.length<=max s.ef.length 200:=by
 obtain⟨a,b⟩:=Wk ops (1+(num ops s 6).1) (num ops s 6).2;exact⟨⟨a.ef,a.eh⟩,b⟩
structure Y0 (t:Dt) (m:Nat):Prop where
 ef:t.s.ef.length<=210
 eh:t.s.eh.length<=t.s.ef.length+t.blocks.length
 blocks:t.blocks.length<=m
theorem Zx(ops:List Int) {t:Dt} {m:Nat} (h:Y0 t m) (hv:t.s.ef.length<160):Y0 (fork ops t) (m+3):=by
 obtain⟨w,x,y⟩:=h;unfold fork;simp only;have a1:=GP ops (end_ {t with s:=(fL ops t.s).2} 2 (fL ops t.s).1 [t.blocks.length+1,t.blocks.length+2] 0 [t.blocks.length]).s;generalize o:row ops (end_ {t with s:=(fL ops t.s).2} 2 (fL ops t.s).1 [t.blocks.length+1,t.blocks.length+2] 0 [t.blocks.length]).s=b at*;have p:t.s.ef.length<=b.ef.length:=a1.1.ef;have q:b.eh.length+t.s.ef.length<=t.s.eh.length+b.ef.length:=a1.1.eh;have r:b.ef.length<=max t.s.ef.length 200:=a1.2;generalize d:end_ {s:=cut t.s.known.length b,blocks:=(end_ {t with s:=(fL ops t.s).2} 2 (fL ops t.s).1 [t.blocks.length+1,t.blocks.length+2] 0 [t.blocks.length]).blocks,eQ:=(end_ {t with s:=(fL ops t.s).2} 2 (fL ops t.s).1 [t.blocks.length+1,t.blocks.length+2] 0 [t.blocks.length]).eQ} 1 0 [t.blocks.length+3] 0 [t.blocks.length]=a at*;have b2:a.blocks.length=t.blocks.length+2:=by rw[<-d];simp[end_]
 have u:a.s.ef=b.ef:=by rw[<-d];rfl
 have v:a.s.eh=b.eh:=by rw[<-d];rfl
 have a2:=GP ops a.s;generalize row ops a.s=c at*;have g:=a2.1.ef;have e:=a2.1.eh;have i:=a2.2;rw[u]at g e i;rw[v]at e;have a3:=GP ops (jh (end_ {s:=cut t.s.known.length c,blocks:=a.blocks,eQ:=a.eQ} 1 0 [t.blocks.length+3] 0 [t.blocks.length+1,t.blocks.length+2]).s (vl 21 0 0 0 [b.known.getLastD 0,c.known.getLastD 0] 0));have j:(jh (end_ {s:=cut t.s.known.length c,blocks:=a.blocks,eQ:=a.eQ} 1 0 [t.blocks.length+3] 0 [t.blocks.length+1,t.blocks.length+2]).s (vl 21 0 0 0 [b.known.getLastD 0,c.known.getLastD 0] 0)).ef.length=c.ef.length+1:=by simp[jh,end_,cut]
 have k:(jh (end_ {s:=cut t.s.known.length c,blocks:=a.blocks,eQ:=a.eQ} 1 0 [t.blocks.length+3] 0 [t.blocks.length+1,t.blocks.length+2]).s (vl 21 0 0 0 [b.known.getLastD 0,c.known.getLastD 0] 0)).eh.length=c.eh.length:=by simp[jh,end_,cut]
 have l:=a3.1.ef;have f:=a3.1.eh;have n:=a3.2;rw[j]at l f n;rw[k]at f;refine⟨?_,?_,?_⟩
 ·grind
 ·show(row ops _).eh.length<=(row ops _).ef.length+(a.blocks++[_]).length
  grind
 ·show(a.blocks++[_]).length<=m+3
  simp_all
theorem Za(ops:List Int) {t:Dt} {m:Nat} (h:Y0 t m) (hv:t.s.ef.length<160):Y0 (zo ops t) (m+3):=by
 obtain⟨q,r,u⟩:=h;unfold zo;simp only;have a1:=GP ops (end_ {t with s:=(fL ops t.s).2} 2 (fL ops t.s).1 [t.blocks.length+1,t.blocks.length+2] 0 [t.blocks.length]).s;generalize g:row ops (end_ {t with s:=(fL ops t.s).2} 2 (fL ops t.s).1 [t.blocks.length+1,t.blocks.length+2] 0 [t.blocks.length]).s=a at*;have i:t.s.ef.length<=a.ef.length:=a1.1.ef;have j:a.eh.length+t.s.ef.length<=t.s.eh.length+a.ef.length:=a1.1.eh;have k:a.ef.length<=max t.s.ef.length 200:=a1.2;obtain⟨l,n,_⟩:=Ei ops a;generalize b:end_ {s:=cut t.s.known.length (fH ops a).2,blocks:=(end_ {t with s:=(fL ops t.s).2} 2 (fL ops t.s).1 [t.blocks.length+1,t.blocks.length+2] 0 [t.blocks.length]).blocks,eQ:=(end_ {t with s:=(fL ops t.s).2} 2 (fL ops t.s).1 [t.blocks.length+1,t.blocks.length+2] 0 [t.blocks.length]).eQ} 3 0 [] (fH ops a).1 [t.blocks.length]=c at*;have b2:c.blocks.length=t.blocks.length+2:=by rw[<-b];simp[end_]
 have o:c.s.ef=a.ef:=by rw[<-b];exact l
 have p:c.s.eh.length=a.eh.length+1:=by rw[<-b];exact n
 have a2:=GP ops c.s;generalize row ops c.s=v at*;have e:=a2.1.ef;have d:=a2.1.eh;have f:=a2.2;rw[o]at e d f;rw[p]at d;refine⟨?_,?_,?_⟩
 ·grind
 ·grind
 grind
theorem E6(s:Ds)(v:Nat)(args:List Nat):(setArgs s v args).ef.length=s.ef.length/\(setArgs s v args).eh=s.eh:=⟨by simp[setArgs,List.length_modify],rfl⟩
theorem YB(ops:List Int) {t:Dt} {m:Nat} (h:Y0 t m) (hv:t.s.ef.length<160):Y0 (loop ops t) (m+3):=by
 obtain⟨G,H,I⟩:=h;unfold loop;simp only;generalize e:end_ {t with s:=(fL ops t.s).2} 1 0 [t.blocks.length+1] 0 [t.blocks.length,t.blocks.length+2]=b at*;have b1:b.blocks.length=t.blocks.length+1:=by rw[<-e];simp[end_]
 have x:b.s.ef=t.s.ef:=by rw[<-e];rfl
 have y:b.s.eh=t.s.eh:=by rw[<-e];rfl
 generalize i:({put (fL ops (put b.s (vl 21 0 0 0 [(fL ops t.s).1,0] 0))).2 (vl 21 0 0 0 [(fL ops (put b.s (vl 21 0 0 0 [(fL ops t.s).1,0] 0))).1,b.s.ef.length] 0)with known:=(put (fL ops (put b.s (vl 21 0 0 0 [(fL ops t.s).1,0] 0))).2 (vl 21 0 0 0 [(fL ops (put b.s (vl 21 0 0 0 [(fL ops t.s).1,0] 0))).1,b.s.ef.length] 0)).known++[b.s.ef.length,b.s.ef.length+1]}:Ds)=f at*;have z:f.ef.length=t.s.ef.length+2:=by rw[<-i,<-x];simp[put,fL]
 have n:f.eh=t.s.eh:=by rw[<-i,<-y];rfl
 obtain⟨A,B,_⟩:=Ei ops f;generalize j:jh (put (put (fH ops f).2 (vl 23 0 0 0 [] (fH ops f).1)) (vl 2 0 0 1 [] 0)) (vl 4 b.s.ef.length (put (fH ops f).2 (vl 23 0 0 0 [] (fH ops f).1)).ef.length 0 [] 0)=d at*;have J:d.ef.length=t.s.ef.length+5:=by rw[<-j];simp[jh,put,A,z]
 have C:d.eh.length=t.s.eh.length+1:=by rw[<-j,<-n,<-B];rfl
 generalize g:end_ {s:=d,blocks:=b.blocks,eQ:=b.eQ} 2 b.s.ef.length [t.blocks.length+2,t.blocks.length+3] 0 [t.blocks.length+1]=c at*;have b2:c.blocks.length=t.blocks.length+2:=by rw[<-g];simp[end_,b1]
 have D:c.s.ef=d.ef:=by rw[<-g];rfl
 have o:c.s.eh=d.eh:=by rw[<-g];rfl
 have a1:=GP ops c.s;generalize row ops c.s=w at*;have p:=a1.1.ef;have k:=a1.1.eh;have q:=a1.2;rw[D]at p k q;rw[o]at k;have r:∀a:Ds,a.ef.length=w.ef.length->a.eh=w.eh->Y0 {s:=row ops (end_ {s:=cut d.known.length a,blocks:=c.blocks,eQ:=c.eQ} 1 0 [t.blocks.length+1] 0 [t.blocks.length+1]).s,blocks:=(end_ {s:=cut d.known.length a,blocks:=c.blocks,eQ:=c.eQ} 1 0 [t.blocks.length+1] 0 [t.blocks.length+1]).blocks,eQ:=(end_ {s:=cut d.known.length a,blocks:=c.blocks,eQ:=c.eQ} 1 0 [t.blocks.length+1] 0 [t.blocks.length+1]).eQ} (m+3):=by
  intro a E F;have a2:=GP ops (end_ {s:=cut d.known.length a,blocks:=c.blocks,eQ:=c.eQ} 1 0 [t.blocks.length+1] 0 [t.blocks.length+1]).s;have u:a.ef.length<=_:=a2.1.ef;have l:_+a.ef.length<=a.eh.length+_:=a2.1.eh;have v:_<=max a.ef.length 200:=a2.2;rw[E]at u l v;rw[F]at l;refine⟨?_,?_,?_⟩
  ·grind
  ·show(row ops _).eh.length<=(row ops _).ef.length+(c.blocks++[_]).length
   grind
  ·show(c.blocks++[_]).length<=m+3
   simp_all
 refine r _ ?_ ?_
 ·rw[(E6 _ _ _).1];split
  ·rw[(E6 _ _ _).1];exact(E6 _ _ _).1
  ·exact(E6 _ _ _).1
 ·rw[(E6 _ _ _).2];split
  ·rfl
  ·rfl
theorem Nw(ops:List Int):∀(l:List Int) {t:Dt} {m:Nat},Y0 t m->Y0 (mi ops l t) (m+3*l.length)
 |[],t,m,h=>h
 | k ::l,t,m,h=>by
   unfold mi;split
   ·rename_i hv
    have a:Y0 (vn ops (mV k 3) t) (m+3):=by
      unfold vn;split
      ·grind[Zx]
      split
      ·grind[YB]
      ·grind[Za]
    have:=Nw ops l a
    grind
   ·exact⟨h.ef,h.eh,by have:=h.blocks;omega⟩
open Dm
theorem zby{t:Dt} (ops:List Int) (h:Ok t):∃D pr nx,Gh D pr nx t.blocks.length/\nx t.blocks.length=[]/\p8 D pr nx noE (end_ (on t (fH ops t.s).2) 3 0 [] (fH ops t.s).1 []):=by
 obtain ⟨D,pr,nx,c,r⟩:=h;generalize v:t.blocks.length=hi at*;have e:∀b,b<=hi->ext hi D (dF hi) b=D b:=λb h=>na h;have AK:∀i,i<hi->ud hi nx (λ_=>[]) i=nx i:=λi h=>Bo h;have x:Gh (ext hi D (dF hi)) (ext hi pr λ_=>[]) (ud hi nx λ_=>[]) hi:=by
  refine⟨λp b hp a=>?_,λb h0 a=>?_,λb a=>?_,λb a=>?_,λp hp d u f=>?_⟩
  ·rw[AK p hp]at a;obtain⟨o,y,z⟩:=c.tree p b hp a;exact⟨o,y,by rw[e b o];exact EC c.down e z (by omega)⟩
  ·rw[e b a];exact c.down b h0 a
  ·rw[na a,c.eQ b a,AB hi b AK]
  ·obtain⟨l,d⟩:=c.reach b a;exact⟨l,d.mono (ju _) AK⟩
  ·rw[AK p hp]at d f;rw[na (c.tree p u hp f).1];exact c.IB p hp d u f
 have j:=r.V5 (D':=ext hi D (dF hi)) (pr':=ext hi pr λ_=>[]) (Yr:=ud hi nx λ_=>[]) (by simp_all) (by simp_all) (by grind[na]) (by simp_all);have n0:ud hi nx (λ_=>[]) hi=[]:=mr (k:=0) (g:=λ_=>[]);obtain⟨m,B,hk,_,_,fs,A,C⟩:=j.state ops;have b1:(on t (fH ops t.s).2).blocks.length=hi:=v
 obtain ⟨E,_⟩:=m.end_ (fin:=3) (cond:=0) (n:=[]) (state:=(fH ops t.s).1) (eQ:=[]) (by simp_all) (by grind[iC,List,Nat])
  (.inr (.inr ⟨rfl,rfl,fs,A,λw q=>m.kn w (by show w∈(fH ops t.s).2.known;simp_all)⟩))
  (λw q=>(m.kn w q).up (by rw[b1];exact Ks (by omega) (iC (by omega))))
 grind
theorem zbz{D:Nat->Nat} {pr nx:Nat->List Nat} {t:Dt} {hi:Nat} (H:Gh D pr nx hi) (hn:nx hi=[]) (d:p8 D pr nx noE t) (hb:t.blocks.length=hi+1) (O:t.s.cur=[]) (hv:t.s.ef.length<=3000) (hs:t.s.eh.length<=1000) (S:t.blocks.length<=300) (f p:Int) :
  Good ⟨f,p,t.s.ef,t.blocks,t.s.eh⟩:=by
 have hc:t.blocks.flatMap (λB=>B.ef)=List.range t.s.ef.length:=by
  have:=d.cat
  rw[O,JY]at this;exact this
 have own:∀{v b},Ow t v b->∃k,At ⟨f,p,t.s.ef,t.blocks,t.s.eh⟩ v b k:=λh=>by
  rcases h with⟨B,n,m⟩|⟨_,m⟩
  ·obtain⟨k,hk⟩:=nT.1 m;exact⟨k,B,n,hk⟩
  simp_all
 have ag:∀{v b},Ow t v b->b<t.blocks.length:=λh=>by
  rcases h with⟨B,n,_⟩|⟨_,m⟩
  ·grind
  simp_all
 have z:∀{v b k},At ⟨f,p,t.s.ef,t.blocks,t.s.eh⟩ v b k->Ow t v b:=λ⟨B,n,m⟩=> .inl ⟨B,n,DQ m⟩;have ah:∀b,b<t.blocks.length->next ⟨f,p,t.s.ef,t.blocks,t.s.eh⟩ b=nx b:=λb h=>by
  have e:=hO h;unfold next
  simp only[e];exact(d.bk b _ e).1
 have ai:∀b,¬b<t.blocks.length->next ⟨f,p,t.s.ef,t.blocks,t.s.eh⟩ b=[]:=by grind[next,X8,Nat.le_of_not_lt]
 have BZ:∀q b,b∈next ⟨f,p,t.s.ef,t.blocks,t.s.eh⟩ q->q<hi/\b∈nx q:=λq b h=>by
  grind
 have I:∀{x b},qO D x b->qM (next ⟨f,p,t.s.ef,t.blocks,t.s.eh⟩) x b:=λh l P=>Kd (λq b hb _=>(H.tree q b (by grind) (by simp_all)).2.2) P h;have zdS:∀{a w},Kn D t a w->oJ ⟨f,p,t.s.ef,t.blocks,t.s.eh⟩ w:=λ⟨_,x,_,_,E,K⟩=>⟨x,E,K⟩
 have G:∀{a w},Kn D t a w->rX ⟨f,p,t.s.ef,t.blocks,t.s.eh⟩ w a:=λ⟨b,x,n,m,_⟩=>let⟨k,hk⟩:=own n;⟨b,k,hk,I m⟩
 have ab:∀{v w b k},At ⟨f,p,t.s.ef,t.blocks,t.s.eh⟩ v b k->w<v->Kn D t b w->BI ⟨f,p,t.s.ef,t.blocks,t.s.eh⟩ w b k:=λ{v w b k} hv o ⟨c,x,n,m,_⟩=>by
  obtain⟨j,M⟩:=own n;by_cases e:c=b
  ·subst e;exact⟨c,j,M,.inl ⟨rfl,ZD hc M hv o⟩⟩
  ·exact⟨c,j,M,.inr ⟨e,I m⟩⟩
 have A:∀{v b b'},Ow t v b->Ow t v b'->b=b':=λh h'=>by
  obtain⟨k,hk⟩:=own h;obtain⟨k',T⟩:=own h';exact(V2 hc hk T).1
 have L:∀b,ahead ⟨f,p,t.s.ef,t.blocks,t.s.eh⟩ b=qv nx hi b:=λb=>by
  have U:∀(l:List Bk) (i:Nat),(∀k B,l[k]? =some B->B.next=nx (i+k))->kh l i b=((List.range' i l.length).flatMap λq=>((nx q).filter (·= b)).map λ_=>q):=by
   intro l
   induction l with
   |nil=>intro i _;rfl
   | cons B l V=>
     intro i h;have h0:=h 0 B rfl;rw[wBw]at h0;rw[Rb,List.range'_succ,List.flatMap_cons];unfold kh;rw[h0,V (i+1) λk B W=>by rw[show i+1+k=i+(k+1) by omega];exact h (k+1) B W]
  unfold ahead;rw[U t.blocks 0 λk B W=>by rw[zO];exact(d.bk k B W).1];have e:List.range' 0 t.blocks.length=List.range t.blocks.length:=(List.range_eq_range').symm;rw[e,hb];have:=zq nx hi b
  grind[qv]
 refine{nv:=hv,L2:=by simp_all,nb:=S,ns:=hs,st:=?_,FU:=by simp_all[YD],KZ:=λv b k b' k' h h'=>V2 hc h h',jW:=λv b k h=>zeM hc h,Cs:=?_,par:=?_,Dz:=?_,op:=λv x h=>(d.MI v x h).op,use:=?_,leave:=?_,putAt:=λv x h=>(d.MI v x h).putAt,param:=?_,fin:=?_,nx:=?_,eQ:=?_,Di:=?_,IB:=?_,reach:=?_,DD:=?_,DO:=?_,GW:=?_,El:=?_,Hc:=?_}
 ·intro s fs h;obtain⟨r,F⟩:=d.st s fs h
  grind
 ·intro v w b k x y n m E K h5;obtain⟨c,r,_,_,g4⟩:=(d.MI v x E).own;obtain rfl:=A r (z n);have o:w<v:=(DN hc m n).2 rfl (Pv _)
  grind
 ·intro v b k x n m E;exact A (z n) ((d.MI v x m).par E).1
 ·intro v b k x B n m E K;obtain⟨c,r,F,C⟩:=d.ph v x m E;obtain rfl:=A r (z n);exact⟨F,by rw[(d.bk c B K).2.1];exact(C id).1⟩
 ·intro v x h w N;by_cases Q:x.op=21
  ·obtain⟨c,r,F,C⟩:=d.ph v x h Q;have X:w∈x.args:=by unfold iP at N;rw[if_pos Q]at N;exact N
   obtain⟨j,M⟩:=nT.1 X;have o:=(kj.1 M).1;rw[(C id).1]at o;exact zdS ((C id).2 j w _ M (hO o))
  ·obtain⟨c,r,F,_⟩:=(d.MI v x h).own
   grind
 ·intro v x h P;obtain⟨c,r,_,C,_⟩:=(d.MI v x h).own
  grind
 ·intro v x h n;obtain⟨r,F,C⟩:=(d.MI v x h).par n;refine⟨by omega,by omega,λw y hy Y he=>?_⟩;obtain⟨_,k2,_⟩:=(d.MI w y hy).par Y;omega
 ·intro b B h;rcases(d.bk b B h).2.2 with g|⟨r,F,C⟩|⟨r,F,fs,C,_⟩
  ·omega
  ·grind
  grind
 ·intro b u Z;obtain⟨r,F⟩:=BZ b u Z;have:=(H.tree b u r F).1
  grind
 ·intro b B h;have o:=(kj.1 h).1;rw[(d.bk b B h).2.1,L,H.eQ b (by grind)]
 ·rw[L];exact MB λi aa hm=>(H.tree i 0 aa hm).2.1 rfl
 ·intro b B h m u Z;have o:b<t.blocks.length:=by grind
  have e:=(d.bk b B h).1;have R:u∈nx b:=by rw[<-e];exact Z
  have J:b<hi:=by
   by_cases e2:b=hi
   ·simp_all
   ·omega
  have P:(nx b).length=2:=by
   rw[<-e];rcases(d.bk b B h).2.2 with g|⟨_,F,_⟩|⟨r,_⟩
   ·omega
   ·exact F
   ·omega
  rw[L,<-H.eQ u (H.tree b u J R).1];exact H.IB b J P u R
 ·intro b o;have ac:b<t.blocks.length:=o;obtain⟨l,P⟩:=H.reach b (by omega);have ae:∀{b l},Pn nx hi b l->Pt (next ⟨f,p,t.s.ef,t.blocks,t.s.eh⟩) b l:=by
   intro b l h
   induction h with
   |nil=>exact .nil
   |step _ hp e V=>exact .step V (by grind)
  grind
 ·intro v b k x n m E w N;obtain⟨c,r,F,_⟩:=(d.MI v x m).own
  grind
 ·intro v b k x B n m E K j w q h5 h6;obtain⟨c,r,_,C⟩:=d.ph v x m E;obtain rfl:=A r (z n);rw[(d.bk c B K).2.1]at h6;exact G ((C id).2 j w q h5 h6)
 ·intro v b k x fs n m E K w N;obtain⟨c,r,_,C,_⟩:=(d.MI v x m).own
  grind
 ·intro b B h m;rcases(d.bk b B h).2.2 with g|⟨_,_,C⟩|⟨r,_⟩
  ·omega
  ·simp_all
  ·omega
 ·intro b B fs h m E w N;rcases(d.bk b B h).2.2 with g|⟨r,_,_⟩|⟨_,_,aj,C,g4⟩
  ·omega
  ·omega
  simp_all
theorem PZ:∀(n i:Nat) (s:Ds),(params n i s).ef.length=s.ef.length+n/\(params n i s).eh=s.eh
 |0,_,_=>⟨rfl,rfl⟩
 | n+1,i,s=>by
   obtain⟨a,b⟩:=PZ n (i+1) (jh s (vl 1 0 0 (i:Nat) [] 0))
   grind[params,jh]
theorem W2(ops c:List Int) (n:Int):Good (Ji ops c n):=by
 have d:=Yc ops c n;have hp:=PZ (mV n 5) 0 ⟨[],[],[],[],0⟩;have g:=Hh n (m:=5) (by omega);obtain⟨r1,h⟩:=GP ops (jh (params (mV n 5) 0 ⟨[],[],[],[],0⟩) (vl 2 0 0 5 [] 0));have i:(jh (params (mV n 5) 0 ⟨[],[],[],[],0⟩) (vl 2 0 0 5 [] 0)).ef.length=mV n 5+1:=by
  simp only[jh,K8,List.length_singleton,hp.1];simp
 have j:(jh (params (mV n 5) 0 ⟨[],[],[],[],0⟩) (vl 2 0 0 5 [] 0)).eh=[]:=hp.2;have e:Y0 ⟨row ops (jh (params (mV n 5) 0 ⟨[],[],[],[],0⟩) (vl 2 0 0 5 [] 0)),[],[]⟩ 0:=by
  have a:=r1.ef;have b:=r1.eh;rw[i]at a b h;rw[j]at b;refine⟨by grind,?_,ju _⟩;show(row ops _).eh.length<=(row ops _).ef.length+0;simp at b;omega
 have f:=Nw ops (c.take 6) e;have hlen:(c.take 6).length<=6:=by rw[NM];omega
 unfold Ji;simp only;generalize mi ops (c.take 6) ⟨row ops (jh (params (mV n 5) 0 ⟨[],[],[],[],0⟩) (vl 2 0 0 5 [] 0)),[],[]⟩=t at*;obtain⟨D,pr,nx,k,l,o⟩:=zby ops d;obtain⟨p,q,_⟩:=Ei ops t.s;have v:=f.ef;have s:=f.eh;have bl:=f.blocks;refine zbz k l o (by simp[end_,on]) rfl ?_ ?_ ?_ 1 2
 ·show(fH ops t.s).2.ef.length<=3000
  grind
 ·show(fH ops t.s).2.eh.length<=1000;omega
 ·show(t.blocks++[_]).length<=300
  grind
open Dm
def zcr(u:U) (v:Nat):Bool:=match u.ef[v]? with
 |some x=>ir x.op
 |none=>false
def Zv(u:U) (b:Nat):List Nat:=match u.blocks[b]? with
 |some B=>B.ef
 |none=>[]
def zcZ(u:U)(t w:Nat):Prop:=w∈Zv u t/\zcr u w=true
def T2(u:U) (s:Nat):List Nat:=match u.eh[s]? with
 |some fs=>iq fs
 |none=>[]
def zff(u:U) (v:Nat):List Nat:=match u.ef[v]? with
 |some x=>iP x++(if leaves x.op=true then T2 u x.state else[])
 |none=>[]
def ln(In H:Nat->Nat->Prop):List Nat->(Nat->Prop)->Nat->Prop
 |[],P=>P
 |t::ts,P=>ln In H ts λw=>(P w\/In t w)/\¬H t w
def zbZ(u:U)(b w:Nat):Prop:=∃t∈next u b,∃(B:Bk) (v:Nat) (x:Vl) (j:Nat),u.blocks[t]? =some B/\v∈B.ef/\u.ef[v]? =some x/\x.op=21/\B.eQ[j]? =some b/\x.args[j]? =some w
def zbn(u:U)(b w:Nat):Prop:=∃B:Bk,u.blocks[b]? =some B/\(B.fin=2/\w=B.cond\/B.fin=3/\w∈T2 u B.state)
def zeR(u:U)(H In:Nat->Nat->Prop)(b w:Nat):Prop:=ln In H (next u b) (λ_=>False) w\/zbZ u b w\/zbn u b w
def bk(u:U):List Nat->(Nat->Prop)->Nat->Prop
 |[],P=>P
 |v::r,P=>if zcr u v=true then P else bk u r λw=>(P w/\w≠v)\/w∈zff u v
def zcq(u:U)(b:Nat)(O:Nat->Prop):Nat->Prop:=bk u (Zv u b).reverse O
def Tr(u:U)(H In:Nat->Nat->Prop)(b:Nat):Nat->Prop:=zcq u b (zeR u H In b)
structure zgo (u:U) (H In:Nat->Nat->Prop):Prop where
 up:∀b w,In b w->Tr u H In b w
 least:∀X:Nat->Nat->Prop,(∀b w,b<u.blocks.length->Tr u H X b w->X b w)->∀b w,In b w->X b w
structure zeJ (u:U) (H In Out:Nat->Nat->Prop):Prop where
 out:∀b w,b<u.blocks.length->(Out b w↔zeR u H In b w)
 Pl:∀b w,b<u.blocks.length->(In b w↔zcq u b (Out b) w)
 least:∀X:Nat->Nat->Prop,(∀b w,b<u.blocks.length->Tr u H X b w->X b w)->∀b w,In b w->X b w
section
variable{u:U}(g:Good u)
include g
theorem Good.YX{p b:Nat} (h:b∈next u p):p<u.blocks.length/\b<u.blocks.length/\b≠0:=by
 refine⟨?_,g.nx p b h,λe=>?_⟩
 ·grind[next,kj]
 ·subst e;have:=we.2 h;rw[g.Di]at this;cases this
variable{In Out:Nat->Nat->Prop}(h:zeJ u (zcZ u) In Out)
include h
end
