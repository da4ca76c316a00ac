/- Parts. -/
import Derived.Test.YtnehpeeglbgfpaaDoorM12
set_option maxHeartbeats 4000000
namespace Go.Proofs.YtnehpeeglbgfpaaDoor.Un
open Dm
def mS(nx:Nat->List Nat)(n b:Nat):List Nat:=(List.range n).flatMap λi=>((nx i).filter (·= b)).map λ_=>i
theorem tR(nx:Nat->List Nat) (n b:Nat):mS nx (n+1) b=mS nx n b++((nx n).filter (·= b)).map λ_=>n:=by
 grind[mS,Vc]
theorem vO{nx Qk:Nat->List Nat} (n b:Nat) (h:∀i,i<n->Qk i=nx i):mS Qk n b=mS nx n b:=by
 induction n with
 |zero=>rfl
 |succ n a=>grind[tR]
theorem HU{nx:Nat->List Nat} {n b q:Nat}:q∈mS nx n b↔q<n/\b∈nx q:=by
 unfold mS
 simp_all
theorem Gu{nx:Nat->List Nat} {n b:Nat} (h:∀i,i<n->b ∉ nx i):mS nx n b=[]:=by
 simp_all[List.eq_nil_iff_forall_not_mem,HU]
inductive Pn (nx:Nat->List Nat) (n:Nat):Nat->List Nat->Prop
 |nil:Pn nx n 0 [0]
 |step {p b:Nat} {l:List Nat} (h:Pn nx n p l) (a:p<n) (e:b∈nx p):Pn nx n b (b::l)
theorem Pn.mono{nx Qk:Nat->List Nat} {n a:Nat} (c:n<=a) (d:∀i,i<n->Qk i=nx i):∀{b l},Pn nx n b l->Pn Qk a b l
 |_,_,.nil=> .nil
 |_,_,.step h hp e=> .step (h.mono c d) (by omega) (by simp_all)
structure Gh (D:Nat->Nat) (pr nx:Nat->List Nat) (hi:Nat):Prop where
 tree:∀p b,p<hi->b∈nx p->b<=hi/\b≠0/\nq D (D b) p
 down:∀b,b≠0->b<=hi->D b<b
 ft:∀b,b<=hi->pr b=mS nx hi b
 reach:∀b,b<=hi->∃l,Pn nx hi b l
 MC:∀p,p<hi->(nx p).length=2->∀t∈nx p,(pr t).length=1
theorem zk{D D':Nat->Nat} {hi:Nat} (hd:∀b,b≠0->b<=hi->D b<b) (c:∀b,b<=hi->D' b=D b) {x b:Nat} (h:nq D x b):b<=hi->nq D' x b:=by
 induction h with
 |refl=>exact λ_=> .refl _
 | up h0 _ d=>
   rename_i b _;intro a;have:=hd b h0 a;exact .up h0 (by grind)
theorem SN{t:Dt} {v b:Nat} (h:Ow t v b):b<=t.blocks.length:=by
 rcases h with⟨B,a,_⟩|⟨a,_⟩
 ·grind
 ·omega
section
variable{D D':Nat->Nat}{pr nx WK Qk:Nat->List Nat}{E:Nat->Prop}{t:Dt}
theorem mK.OL(c:mK D pr nx E t) (z:Gh D pr nx t.blocks.length) (p:∀b,b<=t.blocks.length->D' b=D b) (k:∀b,b<=t.blocks.length->WK b=pr b) (F:∀b,b<t.blocks.length->Qk b=nx b):mK D' WK Qk E t:=by
 have kn:∀{a w},a<=t.blocks.length->Kn D t a w->Kn D' t a w:=λG ⟨b,x,l,A,m⟩=>⟨b,x,l,zk z.down p A G,m⟩
 refine⟨c.cat,λv x h=>?_,λv x h H=>?_,λb B h=>?_,λs fs h=>?_,by rw[k _ (jn _)];exact c.pc,c.ne,λw d=>kn (jn _) (c.kn w d)⟩
 ·have n:=c.GN v x h;obtain⟨b,l,A,m,I⟩:=n.own;refine⟨n.op,n.putAt,n.par,b,l,by grind[SN],λN=>?_,I⟩
  grind[SN]
 ·obtain⟨b,e,o,i⟩:=c.ph v x h H;refine⟨b,e,o,λC=>?_⟩;rw[k b (SN e)];refine⟨(i C).1,λj w q e1 e2=>kn ?_ ((i C).2 j w q e1 e2)⟩;have:=xu e2;rw[z.ft b (SN e)]at this
  grind[Nat.le_of_lt,HU]
 ·have J:=(jw.1 h).1;obtain⟨e,o,i⟩:=c.bk b B h;refine⟨by simp_all,by grind,?_⟩;rcases i with g|⟨r,u,y⟩|⟨r,u,fs,y,k4⟩
  ·exact .inl g
  ·exact .inr (.inl ⟨r,u,kn (by omega) y⟩)
  ·exact .inr (.inr ⟨r,u,fs,y,λw d=>kn (by omega) (k4 w d)⟩)
 ·obtain⟨e,o⟩:=c.st s fs h;refine⟨e,λf K=>?_⟩;obtain⟨i,g4,L,M⟩:=o f K;have own:∀w,(∃a,Kn D t a w)->∃a,Kn D' t a w:=λw ⟨a,b,x,l,_,m⟩=>⟨b,b,x,l,.refl _,m⟩
  exact⟨i,g4,λw d=>own w (L w d),λw d=>own w (M w d)⟩
end
def ext{α:Type}(hi:Nat)(f:Nat->α)(g:Nat->α):Nat->α:=λb=>if b<=hi then f b else g (b-hi)
def pC(hi:Nat)(f:Nat->List Nat)(g:Nat->List Nat):Nat->List Nat:=λb=>if b<hi then f b else g (b-hi)
theorem kR{α:Type}{hi b:Nat}{f g:Nat->α}(h:b<=hi):ext hi f g b=f b:=by simp_all[ext,if_pos]
theorem gO{α:Type}{hi k:Nat}{f g:Nat->α}(h:0<k):ext hi f g (hi+k)=g k:=by simp_all[ext,if_neg,Nat.add_sub_cancel_left]
theorem wW{hi b:Nat}{f g:Nat->List Nat}(h:b<hi):pC hi f g b=f b:=by simp_all[pC,if_pos]
theorem j8{hi k:Nat}{f g:Nat->List Nat}:pC hi f g (hi+k)=g k:=by simp_all[pC,if_neg,Nat.add_sub_cancel_left]
section
variable{D:Nat->Nat}{pr nx:Nat->List Nat}{hi:Nat}
theorem Gh.none(a:Gh D pr nx hi) {b:Nat} (d:hi<b):mS nx hi b=[]:=Gu λi h c=>by
 have:=(a.tree i b h c).1;omega
def dF(hi:Nat)(k:Nat):Nat:=hi
def pF(hi k:Nat):List Nat:=if k=3 then[hi+1,hi+2] else[hi]
def nF(hi k:Nat):List Nat:=if k=0 then[hi+1,hi+2] else[hi+3]
theorem Gh.fork(a:Gh D pr nx hi):Gh (ext hi D (dF hi)) (ext hi pr (pF hi)) (pC hi nx (nF hi)) (hi+3):=by
 have dn:∀k,0<k->ext hi D (dF hi) (hi+k)=hi:=λk q=>gO q;have o:pC hi nx (nF hi) hi=[hi+1,hi+2]:=j8 (k:=0);have w:pC hi nx (nF hi) (hi+1)=[hi+3]:=j8 (k:=1);have x:pC hi nx (nF hi) (hi+2)=[hi+3]:=j8 (k:=2);have g:∀b,b<=hi->ext hi D (dF hi) b=D b:=λb h=>kR h;have sP:∀i,i<hi->pC hi nx (nF hi) i=nx i:=λi h=>wW h;have j:∀b,mS (pC hi nx (nF hi)) (hi+3) b=mS nx hi b++([hi+1,hi+2].filter (·= b)).map (λ_=>hi)++([hi+3].filter (·= b)).map (λ_=>hi+1)++([hi+3].filter (·= b)).map (λ_=>hi+2):=by simp_all[tR,vO]
 have low:∀b,b<=hi+3->b<=hi\/b=hi+1\/b=hi+2\/b=hi+3:=by omega
 refine⟨λp b r c=>?_,λb h0 c=>?_,λb c=>?_,λb c=>?_,λp r f t e=>?_⟩
 ·have d:p<hi\/p=hi\/p=hi+1\/p=hi+2:=by omega
  rcases d with h|rfl|rfl|rfl
  ·rw[sP p h]at c;obtain⟨m,s,u⟩:=a.tree p b h c;exact⟨by omega,s,by rw[g b m];exact zk a.down g u (by omega)⟩
  ·rw[o]at c;simp at c;rcases c with rfl|rfl
   ·exact⟨by omega,by omega,by rw[dn 1 (by omega)];exact .refl _⟩
   ·exact⟨by omega,by omega,by rw[dn 2 (by omega)];exact .refl _⟩
  ·grind[En]
  grind[En]
 ·rcases low b c with h|rfl|rfl|rfl
  ·rw[g b h];exact a.down b h0 h
  ·simp_all
  ·simp_all
  simp_all
 ·rw [j];rcases low b c with h|rfl|rfl|rfl
  ·rw[kR h,a.ft b h];have e1:¬hi+1=b:=by omega
   have e2:¬hi+2=b:=by omega
   grind
  ·rw[gO (by omega),a.none (by omega)];simp[pF]
  ·rw[gO (by omega),a.none (by omega)];simp[pF]
  ·rw[gO (by omega),a.none (by omega)];simp[pF]
 ·obtain⟨l,f⟩:=a.reach hi (jn _);have h0:Pn (pC hi nx (nF hi)) (hi+3) hi l:=f.mono (by omega) sP;have m:Pn (pC hi nx (nF hi)) (hi+3) (hi+1) ((hi+1)::l):= .step h0 (by omega) (by simp_all);rcases low b c with h|rfl|rfl|rfl
  ·obtain⟨v,n⟩:=a.reach b h;exact⟨v,n.mono (by omega) sP⟩
  ·grind
  ·exact⟨_,.step h0 (by omega) (by simp_all)⟩
  ·exact⟨_,.step m (by omega) (by simp_all)⟩
 ·have d:p<hi\/p=hi\/p=hi+1\/p=hi+2:=by omega
  rcases d with h|rfl|rfl|rfl
  ·rw[sP p h]at f e;rw[kR (a.tree p t h e).1];exact a.MC p h f t e
  ·rw[o]at e;simp at e;rcases e with rfl|rfl
   ·rw[gO (by omega)];rfl
   ·rw[gO (by omega)];rfl
  ·simp_all
  simp_all
def nX(hi k:Nat):List Nat:=if k=0 then[hi+1,hi+2] else[]
def pX(hi _k:Nat):List Nat:=[hi]
theorem Gh.exit(c:Gh D pr nx hi):Gh (ext hi D (dF hi)) (ext hi pr (pX hi)) (pC hi nx (nX hi)) (hi+2):=by
 have dn:∀k,0<k->ext hi D (dF hi) (hi+k)=hi:=λk o=>gO o;have n:pC hi nx (nX hi) hi=[hi+1,hi+2]:=j8 (k:=0);have w:pC hi nx (nX hi) (hi+1)=[]:=j8 (k:=1);have g:∀b,b<=hi->ext hi D (dF hi) b=D b:=λb h=>kR h;have sP:∀i,i<hi->pC hi nx (nX hi) i=nx i:=λi h=>wW h;have j:∀b,mS (pC hi nx (nX hi)) (hi+2) b=mS nx hi b++([hi+1,hi+2].filter (·= b)).map (λ_=>hi):=by simp_all[tR,vO]
 have low:∀b,b<=hi+2->b<=hi\/b=hi+1\/b=hi+2:=by omega
 refine⟨λp b q a=>?_,λb h0 a=>?_,λb a=>?_,λb a=>?_,λp q f t e=>?_⟩
 ·have d:p<hi\/p=hi\/p=hi+1:=by omega
  rcases d with h|rfl|rfl
  ·rw[sP p h]at a;obtain⟨r,s,u⟩:=c.tree p b h a;exact⟨by omega,s,by rw[g b r];exact zk c.down g u (by omega)⟩
  ·rw[n]at a;simp at a;rcases a with rfl|rfl
   ·exact⟨by omega,by omega,by rw[dn 1 (by omega)];exact .refl _⟩
   ·exact⟨by omega,by omega,by rw[dn 2 (by omega)];exact .refl _⟩
  simp_all
 ·rcases low b a with h|rfl|rfl
  ·rw[g b h];exact c.down b h0 h
  ·simp_all
  simp_all
 ·rw [j];rcases low b a with h|rfl|rfl
  ·rw[kR h,c.ft b h]
   grind
  ·rw[gO (by omega),c.none (by omega)];simp[pX]
  ·rw[gO (by omega),c.none (by omega)];simp[pX]
 ·obtain⟨l,f⟩:=c.reach hi (jn _);have h0:Pn (pC hi nx (nX hi)) (hi+2) hi l:=f.mono (by omega) sP;rcases low b a with h|rfl|rfl
  ·obtain⟨v,m⟩:=c.reach b h;exact⟨v,m.mono (by omega) sP⟩
  ·exact⟨_,.step h0 (by omega) (by simp_all)⟩
  ·exact⟨_,.step h0 (by omega) (by simp_all)⟩
 ·have d:p<hi\/p=hi\/p=hi+1:=by omega
  rcases d with h|rfl|rfl
  ·rw[sP p h]at f e;rw[kR (c.tree p t h e).1];exact c.MC p h f t e
  ·rw[n]at e;simp at e;rcases e with rfl|rfl
   ·rw[gO (by omega)];rfl
   ·rw[gO (by omega)];rfl
  simp_all
def dL(hi k:Nat):Nat:=if k=1 then hi else hi+1
def pL(hi k:Nat):List Nat:=if k=1 then[hi,hi+2] else[hi+1]
def nL(hi k:Nat):List Nat:=if k=1 then[hi+2,hi+3] else[hi+1]
theorem Gh.loop(c:Gh D pr nx hi):Gh (ext hi D (dL hi)) (ext hi pr (pL hi)) (pC hi nx (nL hi)) (hi+3):=by
 have d:ext hi D (dL hi) (hi+1)=hi:=gO (by omega);have m:ext hi D (dL hi) (hi+2)=hi+1:=gO (by omega);have n:ext hi D (dL hi) (hi+3)=hi+1:=gO (by omega);have u:pC hi nx (nL hi) hi=[hi+1]:=j8 (k:=0);have s:pC hi nx (nL hi) (hi+1)=[hi+2,hi+3]:=j8 (k:=1);have v:pC hi nx (nL hi) (hi+2)=[hi+1]:=j8 (k:=2);have o:∀b,b<=hi->ext hi D (dL hi) b=D b:=λb h=>kR h;have sP:∀i,i<hi->pC hi nx (nL hi) i=nx i:=λi h=>wW h;have q:∀b,mS (pC hi nx (nL hi)) (hi+3) b=mS nx hi b++([hi+1].filter (·= b)).map (λ_=>hi)++([hi+2,hi+3].filter (·= b)).map (λ_=>hi+1)++([hi+1].filter (·= b)).map (λ_=>hi+2):=by simp_all[tR,vO]
 have low:∀b,b<=hi+3->b<=hi\/b=hi+1\/b=hi+2\/b=hi+3:=by omega
 refine⟨λp b w a=>?_,λb h0 a=>?_,λb a=>?_,λb a=>?_,λp w g t f=>?_⟩
 ·have e:p<hi\/p=hi\/p=hi+1\/p=hi+2:=by omega
  rcases e with h|rfl|rfl|rfl
  ·rw[sP p h]at a;obtain⟨j,x,y⟩:=c.tree p b h a;exact⟨by omega,x,by rw[o b j];exact zk c.down o y (by omega)⟩
  ·rw[u]at a;simp at a;subst a;exact⟨by omega,by omega,by rw[d];exact .refl _⟩
  ·rw[s]at a;simp at a;rcases a with rfl|rfl
   ·exact⟨by omega,by omega,by rw[m];exact .refl _⟩
   ·exact⟨by omega,by omega,by rw[n];exact .refl _⟩
  ·rw[v]at a;simp at a;subst a;exact⟨by omega,by omega,by rw[d];exact(En (by omega) d).trans (by grind[En])⟩
 ·rcases low b a with h|rfl|rfl|rfl
  ·rw[o b h];exact c.down b h0 h
  ·omega
  ·omega
  omega
 ·rw [q];rcases low b a with h|rfl|rfl|rfl
  ·rw[kR h,c.ft b h];have e1:¬hi+1=b:=by omega
   have e2:¬hi+2=b:=by omega
   have A:¬hi+3=b:=by omega
   simp_all
  ·rw[gO (by omega),c.none (by omega)];simp[pL]
  ·rw[gO (by omega),c.none (by omega)];simp[pL]
  ·rw[gO (by omega),c.none (by omega)];simp[pL]
 ·obtain⟨l,g⟩:=c.reach hi (jn _);have h0:Pn (pC hi nx (nL hi)) (hi+3) hi l:=g.mono (by omega) sP;have j:Pn (pC hi nx (nL hi)) (hi+3) (hi+1) ((hi+1)::l):= .step h0 (by omega) (by simp_all);rcases low b a with h|rfl|rfl|rfl
  ·obtain⟨z,r⟩:=c.reach b h;exact⟨z,r.mono (by omega) sP⟩
  ·grind
  ·exact⟨_,.step j (by omega) (by simp_all)⟩
  ·exact⟨_,.step j (by omega) (by simp_all)⟩
 ·have e:p<hi\/p=hi\/p=hi+1\/p=hi+2:=by omega
  rcases e with h|rfl|rfl|rfl
  ·rw[sP p h]at g f;rw[kR (c.tree p t h f).1];exact c.MC p h g t f
  ·simp_all
  ·rw[s]at f;simp at f;rcases f with rfl|rfl
   ·rw[gO (by omega)];rfl
   ·rw[gO (by omega)];rfl
  simp_all
end
open Dm
def YP:Nat->Prop:=λ_=>False
def Ok(t:Dt):Prop:=∃D pr nx,Gh D pr nx t.blocks.length/\mK D pr nx YP t
theorem Ok.fork{t:Dt} (ops:List Int) (h:Ok t):Ok (fork ops t):=by
 obtain⟨D,pr,nx,c,d⟩:=h;generalize a:t.blocks.length=hi at*;have b:=d.OL (D':=ext hi D (dF hi)) (WK:=ext hi pr (pF hi)) (Qk:=pC hi nx (nF hi)) (by simp_all) (by grind[kR]) (by grind[kR]) (by grind[wW])
 obtain ⟨e,f⟩:=TT b ops (by rw[a];exact j8 (k:=0)) (by rw[a];exact j8 (k:=1)) (by rw[a];exact j8 (k:=2)) (by rw[a];exact gO (by omega)) (by rw[a];exact gO (by omega)) (by rw[a];exact gO (by omega))
  (by rw[a];exact gO (by omega)) (by rw[a];exact gO (by omega)) (by rw[a];exact gO (by omega))
 exact⟨_,_,_,by rw[f,a];exact c.fork,e⟩
theorem Ok.exit{t:Dt} (ops:List Int) (h:Ok t):Ok (wG ops t):=by
 obtain⟨D,pr,nx,c,d⟩:=h;generalize a:t.blocks.length=hi at*;have b:=d.OL (D':=ext hi D (dF hi)) (WK:=ext hi pr (pX hi)) (Qk:=pC hi nx (nX hi)) (by simp_all) (by grind[kR]) (by grind[kR]) (by grind[wW])
 obtain ⟨e,f⟩:=TL b ops (by rw[a];exact j8 (k:=0)) (by rw[a];exact j8 (k:=1)) (by rw[a];exact gO (by omega)) (by rw[a];exact gO (by omega))
  (by rw[a];exact gO (by omega)) (by rw[a];exact gO (by omega))
 exact⟨_,_,_,by rw[f,a];exact c.exit,e⟩
theorem Ok.loop{t:Dt} (ops:List Int) (h:Ok t):Ok (loop ops t):=by
 obtain⟨D,pr,nx,c,d⟩:=h;generalize a:t.blocks.length=hi at*;have b:=d.OL (D':=ext hi D (dL hi)) (WK:=ext hi pr (pL hi)) (Qk:=pC hi nx (nL hi)) (by simp_all) (by grind[kR]) (by grind[kR]) (by grind[wW])
 obtain ⟨e,f⟩:=T6 b ops (by rw[a];exact j8 (k:=0)) (by rw[a];exact j8 (k:=1)) (by rw[a];exact j8 (k:=2)) (by rw[a];exact gO (by omega)) (by rw[a];exact gO (by omega)) (by rw[a];exact gO (by omega))
  (by rw[a];exact gO (by omega)) (by rw[a];exact gO (by omega)) (by rw[a];exact gO (by omega))
 exact⟨_,_,_,by rw[f,a];exact c.loop,e⟩
theorem Ok.kI(ops:List Int):∀(l:List Int) {t:Dt},Ok t->Ok (kI ops l t)
 |[],_,h=>h
 | k ::l,t,h=>by
   unfold Un.kI;split
   ·refine Ok.kI ops l ?_
    unfold rh;split
    ·exact h.fork ops
    split
    ·exact h.loop ops
    ·exact h.exit ops
   ·exact h
def t0(s:Ds):Dt:=⟨s,[],[]⟩
structure Ps (s:Ds) (i:Nat):Prop where
 ee:s.ee.length=i
 all:∀(v:Nat) (x:Vl),s.ee[v]? =some x->x=vl 1 0 0 (v:Nat) [] 0
 cur:s.cur=List.range i
 known:s.known=List.range i
 eh:s.eh=[]
theorem Jx:∀(n i:Nat) (s:Ds),Ps s i->Ps (params n i s) (i+n)
 |0,i,s,h=>h
 | n + 1,i,s,h=>by
   have:=Jx n (i+1) (gX s (vl 1 0 0 (i:Nat) [] 0)) ⟨by simp[gX,h.ee],λv x c=>?_,by simp only[gX];rw[h.cur,h.ee,Vc],by simp only[gX];rw[h.known,h.ee,Vc],h.eh⟩
   ·rw[show i+(n+1)=i+1+n by omega]
    exact this
   ·have a:(s.ee++[vl 1 0 0 (i:Nat) [] 0])[v]? =some x:=c
    by_cases IX:v<s.ee.length
    ·rw[Qg IX]at a
     exact h.all v x a
    ·have d:=(jw.1 a).1
     simp at d;have b:v=s.ee.length:=by omega
     subst b;rw[WD]at a;rw[h.ee]
     simp_all
theorem gh0:Gh (λ_=>0) (λ_=>[]) (λ_=>[]) 0:=
 ⟨by omega,by omega,λb a=>rfl,λb a=>by
  obtain rfl:b=0:=by omega
  exact⟨[0],.nil⟩,by omega⟩
theorem RI{s:Ds} {n:Nat} (h:Ps s n) (q:n<=5):mK (λ_=>0) (λ_=>[]) (λ_=>[]) YP (t0 (gX s (vl 2 0 0 5 [] 0))):=by
 have c:(t0 (gX s (vl 2 0 0 5 [] 0))).s.ee=s.ee++[vl 2 0 0 5 [] 0]:=rfl;have e:(t0 (gX s (vl 2 0 0 5 [] 0))).s.cur=List.range (n+1):=by
  show s.cur++[s.ee.length]=_;rw[h.cur,h.ee,Vc]
 have hlen:(t0 (gX s (vl 2 0 0 5 [] 0))).s.ee.length=n+1:=by rw[c];simp[h.ee]
 have a:∀(v:Nat) (x:Vl),(t0 (gX s (vl 2 0 0 5 [] 0))).s.ee[v]? =some x->(v<n/\x=vl 1 0 0 (v:Nat) [] 0)\/(v=n/\x=vl 2 0 0 5 [] 0):=λv x d=>by
  rw[c]at d;by_cases f:v<s.ee.length
  ·rw[Qg f]at d;exact .inl ⟨by simp_all,h.all v x d⟩
  grind
 have k:∀v,v<n+1->Ow (t0 (gX s (vl 2 0 0 5 [] 0))) v 0:=λv d=> .inr ⟨rfl,by simp_all⟩;have l:∀v,v<n+1->Kn (λ_=>0) (t0 (gX s (vl 2 0 0 5 [] 0))) 0 v:=λv d=>by
  have j:∃x,(t0 (gX s (vl 2 0 0 5 [] 0))).s.ee[v]? =some x:=by simp_all
  obtain⟨x,j⟩:=j;refine⟨0,x,k v d,.refl _,j,?_⟩;rcases a v x j with⟨_,rfl⟩|⟨_,rfl⟩ <;> rfl
 refine⟨?_,λv x d=>?_,λv x d r=>?_,λb B o=>(by cases o),λst fs p=>?_,rfl,?_,λw m=>?_⟩
 ·rw[hlen,e];rfl
 ·rcases a v x d with⟨f,rfl⟩|⟨rfl,rfl⟩
  ·refine⟨by simp[vl],by grind[vl],λ_=>⟨by grind,rfl,by omega⟩,0,by grind,by grind[mD,vl,two,ud],by grind[vl,leaves],λ_ w _ m=>?_⟩
   grind[t0,gX,vl,iH]
  ·exact⟨by simp[vl],by grind[vl],by grind[vl],0,by simp_all,by grind[mD,vl,two,ud],by grind[vl,leaves],by grind[vl,iC]⟩
 ·rcases a v x d with⟨_,rfl⟩|⟨_,rfl⟩
  ·grind[vl]
  grind[vl]
 ·have g:s.eh[st]? =some fs:=p;rw[h.eh]at g;cases g
 ·show s.known++[s.ee.length]≠[];simp
 ·have i:w∈s.known++[s.ee.length]:=m;rw[h.known,h.ee,<-Vc]at i;exact l w (Zd.1 i)
theorem O1(ops a:List Int) (n:Int):Ok (kI ops (a.take 6) ⟨row ops (gX (params (jk n 5) 0 ⟨[],[],[],[],0⟩) (vl 2 0 0 5 [] 0)),[],[]⟩):=by
 have h0:Ps ⟨[],[],[],[],0⟩ 0:=⟨rfl,by simp_all,rfl,rfl,rfl⟩
 have b:=Jx (jk n 5) 0 _ h0;rw[EM]at b;have c:=RI b (by simp_all[Nat.le_of_lt,wS]);obtain⟨d,_⟩:=c.row ops;exact Ok.kI ops _ ⟨_,_,_,gh0,d⟩
open Dm
theorem OO:∀(l:List Bk),(l.flatMap λB=>B.ee).Pairwise (·< ·)->∀(b f k k':Nat) (B a:Bk) (v d:Nat),l[b]? =some B->l[f]? =some a->B.ee[k]? =some v->a.ee[k']? =some d->(b<f->v<d)/\(b=f->k<k'->v<d)
 |[],_,b,_,_,_,_,_,_,_,h,_,_,_=>by simp_all
 | C ::l,hp,b,f,k,k',B,a,v,d,e,c,j,o=>by
   rw[Wg,List.pairwise_append]at hp;obtain⟨p1,p2,p3⟩:=hp
   match b,f,e,c with
   | 0,0,e,c=>
     obtain rfl:C=B:=by simp_all
     obtain rfl:C=a:=by simp_all
     grind[jw,Xp]
   | 0,n+1,e,c=>
     obtain rfl:C=B:=by simp_all
     have g:l[n]? =some a:=by simpa using c
     refine⟨λ_=>p3 v (xu j) d (by grind),by omega⟩
   |n+1,0,e,c=>omega
   | n+1,m+1,e,c=>
     have i:l[n]? =some B:=by simpa using e
     have g:l[m]? =some a:=by simpa using c
     have:=OO l p2 n m k k' B a v d i g j o;omega
section
variable{u:U}(hc:u.blocks.flatMap (λB=>B.ee)=List.range u.ee.length)
include hc
theorem Jm{v a b c k k':Nat} (h:At u v b k) (h':At u a c k'):(b<c->v<a)/\(b=c->k<k'->v<a):=by
 obtain⟨B,d,e⟩:=h;obtain⟨f,g,i⟩:=h'
 grind[OO,List.pairwise_lt_range]
theorem OT{v b a k k':Nat} (h:At u v b k) (h':At u v a k'):b=a/\k=k':=by
 have e1:=(Jm hc h h').1;have e2:=(Jm hc h' h).1;have c:b=a:=by
  rcases Nat.lt_trichotomy b a with h|h|h
  ·omega
  ·exact h
  ·omega
 have d:=(Jm hc h h').2 c;have e4:=(Jm hc h' h).2 c.symm;omega
theorem RD{v a b k k':Nat} (h:At u v b k) (h':At u a b k') (c:v<a):k<k':=by
 rcases Nat.lt_trichotomy k k' with g|g|g
 ·exact g
 ·subst g;obtain⟨B,d,e⟩:=h;obtain⟨f,i,j⟩:=h'
  simp_all
 ·have:=(Jm hc h' h).2 rfl g;omega
theorem Qp{v:Nat} (a:v<u.ee.length):∃b k,At u v b k:=by
 have:v∈u.blocks.flatMap (λB=>B.ee):=by rw[hc];exact Zd.2 a
 obtain⟨B,c,d⟩:=List.mem_flatMap.1 this;obtain⟨b,e⟩:=mM.1 c;obtain⟨k,f⟩:=mM.1 d;exact⟨b,k,B,e,f⟩
theorem Yx{v b k:Nat} (h:At u v b k):v<u.ee.length:=by
 obtain⟨B,a,c⟩:=h;have:v∈u.blocks.flatMap (λB=>B.ee):=by grind
 simp_all
end
theorem BD(ops:List Int):∀(i:Nat) (s:Ds) (l:List Nat),∃p,(some_ ops i s l).2 = {s with pos:=p}
 |0,s,_=>⟨s.pos,rfl⟩
 |i+1,s,l=>BD ops i (fu ops s).2 (l++[(fu ops s).1])
theorem wF(ops:List Int) (s:Ds):(fk ops s).2.ee=s.ee/\(fk ops s).2.eh.length=s.eh.length+1/\(fk ops s).2.cur=s.cur:=by
 obtain⟨p,a⟩:=BD ops (num ops s 4).1 (num ops s 4).2 [];unfold fk;simp only;rw[a];exact⟨rfl,by simp,rfl⟩
structure Sz (s a:Ds):Prop where
 ee:s.ee.length<=a.ee.length
 eh:a.eh.length+s.ee.length<=s.eh.length+a.ee.length
theorem Sz.refl(s:Ds):Sz s s:=⟨jn _,jn _⟩
theorem Sz.trans{s f e:Ds} (g:Sz s f) (h:Sz f e):Sz s e:=by
 have a:=g.ee;have b:=h.ee;have c:=g.eh;have d:=h.eh;exact⟨by omega,by omega⟩
theorem Tq(ops:List Int) (s:Ds) (k a b:Nat):(qR ops s k a b).ee.length=s.ee.length+1/\(qR ops s k a b).eh.length<=s.eh.length+1:=by
 grind[wF,qR,gX,num,put,fu]
theorem Ot(ops:List Int):∀(i:Nat) (s:Ds),Sz s (rows ops i s)/\(rows ops i s).ee.length<=max s.ee.length 200
 |0,s=>⟨.refl s,by show s.ee.length<=_;omega⟩
 | i + 1,s=>by
   unfold rows;split
   ·rename_i b
    obtain⟨c,d⟩:=Ot ops i (rX ops s);have a:=Tq ops (num ops (fu ops (fu ops s).2).2 20).2 (num ops (fu ops (fu ops s).2).2 20).1 (fu ops s).1 (fu ops (fu ops s).2).1;have e:(rX ops s).ee.length=s.ee.length+1:=a.1;have f:(rX ops s).eh.length<=s.eh.length+1:=a.2;exact⟨Sz.trans ⟨by omega,by omega⟩ c,by omega⟩
   ·exact⟨.refl s,by omega⟩
theorem zL(ops:List Int) (s:Ds):Sz s (row ops s)/\(row ops s).ee.length<=max s.ee.length 200:=by
 obtain⟨a,b⟩:=Ot ops (1+(num ops s 6).1) (num ops s 6).2;exact⟨⟨a.ee,a.eh⟩,b⟩
structure Qh (t:Dt) (m:Nat):Prop where
 ee:t.s.ee.length<=210
 eh:t.s.eh.length<=t.s.ee.length+t.blocks.length
 blocks:t.blocks.length<=m
theorem RH(ops:List Int) {t:Dt} {m:Nat} (h:Qh t m) (y:t.s.ee.length<160):Qh (fork ops t) (m+3):=by
 obtain⟨z,A,B⟩:=h;unfold fork;simp only;have f:=zL ops (end_ {t with s:=(fu ops t.s).2} 2 (fu ops t.s).1 [t.blocks.length+1,t.blocks.length+2] 0 [t.blocks.length]).s;generalize q:row ops (end_ {t with s:=(fu ops t.s).2} 2 (fu ops t.s).1 [t.blocks.length+1,t.blocks.length+2] 0 [t.blocks.length]).s=s1 at*;have r:t.s.ee.length<=s1.ee.length:=f.1.ee;have u:s1.eh.length+t.s.ee.length<=t.s.eh.length+s1.ee.length:=f.1.eh;have v:s1.ee.length<=max t.s.ee.length 200:=f.2;generalize c:end_ {s:=cut t.s.known.length s1,blocks:=(end_ {t with s:=(fu ops t.s).2} 2 (fu ops t.s).1 [t.blocks.length+1,t.blocks.length+2] 0 [t.blocks.length]).blocks,ft:=(end_ {t with s:=(fu ops t.s).2} 2 (fu ops t.s).1 [t.blocks.length+1,t.blocks.length+2] 0 [t.blocks.length]).ft} 1 0 [t.blocks.length+3] 0 [t.blocks.length]=a at*;have C:a.blocks.length=t.blocks.length+2:=by rw[<-c];simp[end_]
 have w:a.s.ee=s1.ee:=by rw[<-c];rfl
 have x:a.s.eh=s1.eh:=by rw[<-c];rfl
 have g:=zL ops a.s;generalize row ops a.s=b at*;have i:=g.1.ee;have d:=g.1.eh;have j:=g.2;rw[w]at i d j;rw[x]at d;have k:=zL ops (gX (end_ {s:=cut t.s.known.length b,blocks:=a.blocks,ft:=a.ft} 1 0 [t.blocks.length+3] 0 [t.blocks.length+1,t.blocks.length+2]).s (vl 21 0 0 0 [s1.known.getLastD 0,b.known.getLastD 0] 0));have l:(gX (end_ {s:=cut t.s.known.length b,blocks:=a.blocks,ft:=a.ft} 1 0 [t.blocks.length+3] 0 [t.blocks.length+1,t.blocks.length+2]).s (vl 21 0 0 0 [s1.known.getLastD 0,b.known.getLastD 0] 0)).ee.length=b.ee.length+1:=by simp[gX,end_,cut]
 have n:(gX (end_ {s:=cut t.s.known.length b,blocks:=a.blocks,ft:=a.ft} 1 0 [t.blocks.length+3] 0 [t.blocks.length+1,t.blocks.length+2]).s (vl 21 0 0 0 [s1.known.getLastD 0,b.known.getLastD 0] 0)).eh.length=b.eh.length:=by simp[gX,end_,cut]
 have o:=k.1.ee;have e:=k.1.eh;have p:=k.2;rw[l]at o e p;rw[n]at e;refine⟨?_,?_,?_⟩
 ·grind
 ·show(row ops _).eh.length<=(row ops _).ee.length+(a.blocks++[_]).length
  grind
 ·show(a.blocks++[_]).length<=m+3
  simp_all
theorem RX(ops:List Int) {t:Dt} {m:Nat} (h:Qh t m) (r:t.s.ee.length<160):Qh (wG ops t) (m+3):=by
 obtain⟨u,v,w⟩:=h;unfold wG;simp only;have d:=zL ops (end_ {t with s:=(fu ops t.s).2} 2 (fu ops t.s).1 [t.blocks.length+1,t.blocks.length+2] 0 [t.blocks.length]).s;generalize i:row ops (end_ {t with s:=(fu ops t.s).2} 2 (fu ops t.s).1 [t.blocks.length+1,t.blocks.length+2] 0 [t.blocks.length]).s=s1 at*;have j:t.s.ee.length<=s1.ee.length:=d.1.ee;have k:s1.eh.length+t.s.ee.length<=t.s.eh.length+s1.ee.length:=d.1.eh;have l:s1.ee.length<=max t.s.ee.length 200:=d.2;obtain⟨n,o,_⟩:=wF ops s1;generalize a:end_ {s:=cut t.s.known.length (fk ops s1).2,blocks:=(end_ {t with s:=(fu ops t.s).2} 2 (fu ops t.s).1 [t.blocks.length+1,t.blocks.length+2] 0 [t.blocks.length]).blocks,ft:=(end_ {t with s:=(fu ops t.s).2} 2 (fu ops t.s).1 [t.blocks.length+1,t.blocks.length+2] 0 [t.blocks.length]).ft} 3 0 [] (fk ops s1).1 [t.blocks.length]=b at*;have x:b.blocks.length=t.blocks.length+2:=by rw[<-a];simp[end_]
 have p:b.s.ee=s1.ee:=by rw[<-a];exact n
 have q:b.s.eh.length=s1.eh.length+1:=by rw[<-a];exact o
 have e:=zL ops b.s;generalize row ops b.s=y at*;have f:=e.1.ee;have c:=e.1.eh;have g:=e.2;rw[p]at f c g;rw[q]at c;refine⟨?_,?_,?_⟩
 ·grind
 ·grind
 grind
theorem zq(s:Ds)(v:Nat)(args:List Nat):(setArgs s v args).ee.length=s.ee.length/\(setArgs s v args).eh=s.eh:=⟨by simp[setArgs,List.length_modify],rfl⟩
theorem RT(ops:List Int) {t:Dt} {m:Nat} (h:Qh t m) (G:t.s.ee.length<160):Qh (loop ops t) (m+3):=by
 obtain⟨H,I,J⟩:=h;unfold loop;simp only;generalize e:end_ {t with s:=(fu ops t.s).2} 1 0 [t.blocks.length+1] 0 [t.blocks.length,t.blocks.length+2]=b at*;have z:b.blocks.length=t.blocks.length+1:=by rw[<-e];simp[end_]
 have A:b.s.ee=t.s.ee:=by rw[<-e];rfl
 have s1:b.s.eh=t.s.eh:=by rw[<-e];rfl
 generalize i:({put (fu ops (put b.s (vl 21 0 0 0 [(fu ops t.s).1,0] 0))).2 (vl 21 0 0 0 [(fu ops (put b.s (vl 21 0 0 0 [(fu ops t.s).1,0] 0))).1,b.s.ee.length] 0)with known:=(put (fu ops (put b.s (vl 21 0 0 0 [(fu ops t.s).1,0] 0))).2 (vl 21 0 0 0 [(fu ops (put b.s (vl 21 0 0 0 [(fu ops t.s).1,0] 0))).1,b.s.ee.length] 0)).known++[b.s.ee.length,b.s.ee.length+1]}:Ds)=f at*;have B:f.ee.length=t.s.ee.length+2:=by rw[<-i,<-A];simp[put,fu]
 have n:f.eh=t.s.eh:=by rw[<-i,<-s1];rfl
 obtain⟨C,D,_⟩:=wF ops f;generalize j:gX (put (put (fk ops f).2 (vl 23 0 0 0 [] (fk ops f).1)) (vl 2 0 0 1 [] 0)) (vl 4 b.s.ee.length (put (fk ops f).2 (vl 23 0 0 0 [] (fk ops f).1)).ee.length 0 [] 0)=d at*;have K:d.ee.length=t.s.ee.length+5:=by rw[<-j];simp[gX,put,C,B]
 have E:d.eh.length=t.s.eh.length+1:=by rw[<-j,<-n,<-D];rfl
 generalize g:end_ {s:=d,blocks:=b.blocks,ft:=b.ft} 2 b.s.ee.length [t.blocks.length+2,t.blocks.length+3] 0 [t.blocks.length+1]=c at*;have L:c.blocks.length=t.blocks.length+2:=by rw[<-g];simp[end_,z]
 have F:c.s.ee=d.ee:=by rw[<-g];rfl
 have o:c.s.eh=d.eh:=by rw[<-g];rfl
 have p:=zL ops c.s;generalize row ops c.s=y at*;have q:=p.1.ee;have k:=p.1.eh;have r:=p.2;rw[F]at q k r;rw[o]at k;have u:∀a:Ds,a.ee.length=y.ee.length->a.eh=y.eh->Qh {s:=row ops (end_ {s:=cut d.known.length a,blocks:=c.blocks,ft:=c.ft} 1 0 [t.blocks.length+1] 0 [t.blocks.length+1]).s,blocks:=(end_ {s:=cut d.known.length a,blocks:=c.blocks,ft:=c.ft} 1 0 [t.blocks.length+1] 0 [t.blocks.length+1]).blocks,ft:=(end_ {s:=cut d.known.length a,blocks:=c.blocks,ft:=c.ft} 1 0 [t.blocks.length+1] 0 [t.blocks.length+1]).ft} (m+3):=by
  intro a e1 e2;have v:=zL ops (end_ {s:=cut d.known.length a,blocks:=c.blocks,ft:=c.ft} 1 0 [t.blocks.length+1] 0 [t.blocks.length+1]).s;have w:a.ee.length<=_:=v.1.ee;have l:_+a.ee.length<=a.eh.length+_:=v.1.eh;have x:_<=max a.ee.length 200:=v.2;rw[e1]at w l x;rw[e2]at l;refine⟨?_,?_,?_⟩
  ·grind
  ·show(row ops _).eh.length<=(row ops _).ee.length+(c.blocks++[_]).length
   grind
  ·show(c.blocks++[_]).length<=m+3
   simp_all
 refine u _ ?_ ?_
 ·rw[(zq _ _ _).1];split
  ·rw[(zq _ _ _).1];exact(zq _ _ _).1
  ·exact(zq _ _ _).1
 ·rw[(zq _ _ _).2];split
  ·rfl
  ·rfl
theorem Dx(ops:List Int):∀(l:List Int) {t:Dt} {m:Nat},Qh t m->Qh (kI ops l t) (m+3*l.length)
 |[],t,m,h=>h
 | k ::l,t,m,h=>by
   unfold kI;split
   ·rename_i b
    have a:Qh (rh ops (jk k 3) t) (m+3):=by
      unfold rh;split
      ·grind[RH]
      split
      ·grind[RT]
      ·grind[RX]
    have:=Dx ops l a
    grind
   ·exact⟨h.ee,h.eh,by have:=h.blocks;omega⟩
open Dm
theorem SK{t:Dt} (ops:List Int) (h:Ok t):∃D pr nx,Gh D pr nx t.blocks.length/\nx t.blocks.length=[]/\mK D pr nx YP (end_ (on t (fk ops t.s).2) 3 0 [] (fk ops t.s).1 []):=by
 obtain ⟨D,pr,nx,c,r⟩:=h;generalize v:t.blocks.length=hi at*;have f:∀b,b<=hi->ext hi D (dF hi) b=D b:=λb h=>kR h;have sP:∀i,i<hi->pC hi nx (λ_=>[]) i=nx i:=λi h=>wW h;have x:Gh (ext hi D (dF hi)) (ext hi pr λ_=>[]) (pC hi nx λ_=>[]) hi:=by
  refine⟨λp b d a=>?_,λb h0 a=>?_,λb a=>?_,λb a=>?_,λp d e u j=>?_⟩
  ·rw[sP p d]at a;obtain⟨o,y,z⟩:=c.tree p b d a;exact⟨o,y,by rw[f b o];exact zk c.down f z (by omega)⟩
  ·rw[f b a];exact c.down b h0 a
  ·rw[kR a,c.ft b a,vO hi b sP]
  ·obtain⟨l,e⟩:=c.reach b a;exact⟨l,e.mono (jn _) sP⟩
  ·rw[sP p d]at e j;rw[kR (c.tree p u d j).1];exact c.MC p d e u j
 have m:=r.OL (D':=ext hi D (dF hi)) (WK:=ext hi pr λ_=>[]) (Qk:=pC hi nx λ_=>[]) (by simp_all) (by simp_all) (by grind[kR]) (by simp_all);have C:pC hi nx (λ_=>[]) hi=[]:=j8 (k:=0) (g:=λ_=>[]);obtain⟨m1,E,F,_,_,fs,A,G⟩:=m.state ops;have B:(on t (fk ops t.s).2).blocks.length=hi:=v
 obtain ⟨H,_⟩:=m1.end_ (fin:=3) (cond:=0) (n:=[]) (state:=(fk ops t.s).1) (ft:=[]) (by simp_all) (by grind[gO,List,Nat])
  (.inr (.inr ⟨rfl,rfl,fs,A,λw q=>m1.kn w (by show w∈(fk ops t.s).2.known;simp_all)⟩))
  (λw q=>(m1.kn w q).up (by rw[B];exact En (by omega) (gO (by omega))))
 grind
theorem SV{D:Nat->Nat} {pr nx:Nat->List Nat} {t:Dt} {hi:Nat} (G:Gh D pr nx hi) (hn:nx hi=[]) (d:mK D pr nx YP t) (hb:t.blocks.length=hi+1) (N:t.s.cur=[]) (T:t.s.ee.length<=3000) (hs:t.s.eh.length<=1000) (U:t.blocks.length<=300) (f p:Int) :
  Good ⟨f,p,t.s.ee,t.blocks,t.s.eh⟩:=by
 have hc:t.blocks.flatMap (λB=>B.ee)=List.range t.s.ee.length:=by
  have:=d.cat
  rw[N,IN]at this;exact this
 have own:∀{v b},Ow t v b->∃k,At ⟨f,p,t.s.ee,t.blocks,t.s.eh⟩ v b k:=λh=>by
  rcases h with⟨B,n,m⟩|⟨_,m⟩
  ·obtain⟨k,O⟩:=mM.1 m;exact⟨k,B,n,O⟩
  simp_all
 have ai:∀{v b},Ow t v b->b<t.blocks.length:=λh=>by
  rcases h with⟨B,n,_⟩|⟨_,m⟩
  ·grind
  simp_all
 have z:∀{v b k},At ⟨f,p,t.s.ee,t.blocks,t.s.eh⟩ v b k->Ow t v b:=λ⟨B,n,m⟩=> .inl ⟨B,n,xu m⟩;have aj:∀b,b<t.blocks.length->next ⟨f,p,t.s.ee,t.blocks,t.s.eh⟩ b=nx b:=λb h=>by
  have e:=iH h;unfold next
  simp only[e];exact(d.bk b _ e).1
 have ak:∀b,¬b<t.blocks.length->next ⟨f,p,t.s.ee,t.blocks,t.s.eh⟩ b=[]:=by grind[next,List.getElem?_eq_none,Nat.le_of_not_lt]
 have xz:∀q b,b∈next ⟨f,p,t.s.ee,t.blocks,t.s.eh⟩ q->q<hi/\b∈nx q:=λq b h=>by
  grind
 have H:∀{x b},nq D x b->wA (next ⟨f,p,t.s.ee,t.blocks,t.s.eh⟩) x b:=λh l P=>Er (λq b hb _=>(G.tree q b (by grind) (by simp_all)).2.2) P h;have Q:∀{a w},Kn D t a w->Eo ⟨f,p,t.s.ee,t.blocks,t.s.eh⟩ w:=λ⟨_,x,_,_,C,J⟩=>⟨x,C,J⟩
 have F:∀{a w},Kn D t a w->DC ⟨f,p,t.s.ee,t.blocks,t.s.eh⟩ w a:=λ⟨b,x,n,m,_⟩=>let⟨k,O⟩:=own n;⟨b,k,O,H m⟩
 have ae:∀{v w b k},At ⟨f,p,t.s.ee,t.blocks,t.s.eh⟩ v b k->w<v->Kn D t b w->O2 ⟨f,p,t.s.ee,t.blocks,t.s.eh⟩ w b k:=λ{v w b k} T o ⟨c,x,n,m,_⟩=>by
  obtain⟨j,L⟩:=own n;by_cases e:c=b
  ·subst e;exact⟨c,j,L,.inl ⟨rfl,RD hc L T o⟩⟩
  ·exact⟨c,j,L,.inr ⟨e,H m⟩⟩
 have uniq:∀{v b V},Ow t v b->Ow t v V->b=V:=λh h'=>by
  obtain⟨k,O⟩:=own h;obtain⟨k',W⟩:=own h';exact(OT hc O W).1
 have K:∀b,ahead ⟨f,p,t.s.ee,t.blocks,t.s.eh⟩ b=mS nx hi b:=λb=>by
  have X:∀(l:List Bk) (i:Nat),(∀k B,l[k]? =some B->B.next=nx (i+k))->lP l i b=((List.range' i l.length).flatMap λq=>((nx q).filter (·= b)).map λ_=>q):=by
   intro l
   induction l with
   |nil=>intro i _;rfl
   | cons B l Y=>
     intro i h;have h0:=h 0 B rfl;rw[SH]at h0;rw[MX,List.range'_succ,Wg];unfold lP;rw[h0,Y (i+1) λk B Z=>by rw[show i+1+k=i+(k+1) by omega];exact h (k+1) B Z]
  unfold ahead;rw[X t.blocks 0 λk B Z=>by rw[EM];exact(d.bk k B Z).1];have e:List.range' 0 t.blocks.length=List.range t.blocks.length:=(List.range_eq_range').symm;rw[e,hb];have:=tR nx hi b
  grind[mS]
 refine{nv:=T,Oz:=by simp_all,nb:=U,ns:=hs,st:=?_,DB:=by simp_all[Qp],JC:=λv b k V k' h h'=>OT hc h h',vR:=λv b k h=>Yx hc h,Ie:=?_,par:=?_,T3:=?_,op:=λv x h=>(d.GN v x h).op,use:=?_,leave:=?_,putAt:=λv x h=>(d.GN v x h).putAt,param:=?_,fin:=?_,nx:=?_,ft:=?_,KD:=?_,MC:=?_,reach:=?_,NR:=?_,Sp:=?_,NT:=?_,Se:=?_,Qx:=?_}
 ·intro s fs h;obtain⟨r,E⟩:=d.st s fs h
  grind
 ·intro v w b k x y n m C J h5;obtain⟨c,r,_,_,g4⟩:=(d.GN v x C).own;obtain rfl:=uniq r (z n);have o:w<v:=(Jm hc m n).2 rfl (K8 _)
  grind
 ·intro v b k x n m C;exact uniq (z n) ((d.GN v x m).par C).1
 ·intro v b k x B n m C J;obtain⟨c,r,E,A⟩:=d.ph v x m C;obtain rfl:=uniq r (z n);exact⟨E,by rw[(d.bk c B J).2.1];exact(A id).1⟩
 ·intro v x h w M;by_cases R:x.op=21
  ·obtain⟨c,r,E,A⟩:=d.ph v x h R;have aa:w∈x.args:=by unfold mD at M;rw[if_pos R]at M;exact M
   obtain⟨j,L⟩:=mM.1 aa;have o:=(jw.1 L).1;rw[(A id).1]at o;exact Q ((A id).2 j w _ L (iH o))
  ·obtain⟨c,r,E,_⟩:=(d.GN v x h).own
   grind
 ·intro v x h P;obtain⟨c,r,_,A,_⟩:=(d.GN v x h).own
  grind
 ·intro v x h n;obtain⟨r,E,A⟩:=(d.GN v x h).par n;refine⟨by omega,by omega,λw y hy ab he=>?_⟩;obtain⟨_,k2,_⟩:=(d.GN w y hy).par ab;omega
 ·intro b B h;rcases(d.bk b B h).2.2 with g|⟨r,E,A⟩|⟨r,E,fs,A,_⟩
  ·omega
  ·grind
  grind
 ·intro b u hu;obtain⟨r,E⟩:=xz b u hu;have:=(G.tree b u r E).1
  grind
 ·intro b B h;have o:=(jw.1 h).1;rw[(d.bk b B h).2.1,K,G.ft b (by grind)]
 ·rw[K];exact Gu λi ac hm=>(G.tree i 0 ac hm).2.1 rfl
 ·intro b B h m u hu;have o:b<t.blocks.length:=by grind
  have e:=(d.bk b B h).1;have S:u∈nx b:=by rw[<-e];exact hu
  have I:b<hi:=by
   by_cases e2:b=hi
   ·simp_all
   ·omega
  have P:(nx b).length=2:=by
   rw[<-e];rcases(d.bk b B h).2.2 with g|⟨_,E,_⟩|⟨r,_⟩
   ·omega
   ·exact E
   ·omega
  rw[K,<-G.ft u (G.tree b u I S).1];exact G.MC b I P u S
 ·intro b o;have ag:b<t.blocks.length:=o;obtain⟨l,P⟩:=G.reach b (by omega);have ah:∀{b l},Pn nx hi b l->Pt (next ⟨f,p,t.s.ee,t.blocks,t.s.eh⟩) b l:=by
   intro b l h
   induction h with
   |nil=>exact .nil
   |step _ hp e Y=>exact .step Y (by grind)
  grind
 ·intro v b k x n m C w M;obtain⟨c,r,E,_⟩:=(d.GN v x m).own
  grind
 ·intro v b k x B n m C J j w q h5 h6;obtain⟨c,r,_,A⟩:=d.ph v x m C;obtain rfl:=uniq r (z n);rw[(d.bk c B J).2.1]at h6;exact F ((A id).2 j w q h5 h6)
 ·intro v b k x fs n m C J w M;obtain⟨c,r,_,A,_⟩:=(d.GN v x m).own
  grind
 ·intro b B h m;rcases(d.bk b B h).2.2 with g|⟨_,_,A⟩|⟨r,_⟩
  ·omega
  ·simp_all
  ·omega
 ·intro b B fs h m C w M;rcases(d.bk b B h).2.2 with g|⟨r,_,_⟩|⟨_,_,al,A,g4⟩
  ·omega
  ·omega
  simp_all
theorem EP:∀(n i:Nat) (s:Ds),(params n i s).ee.length=s.ee.length+n/\(params n i s).eh=s.eh
 |0,_,_=>⟨rfl,rfl⟩
 | n+1,i,s=>by
   obtain⟨a,b⟩:=EP n (i+1) (gX s (vl 1 0 0 (i:Nat) [] 0))
   grind[params,gX]
theorem JL(ops c:List Int) (n:Int):Good (Ak ops c n):=by
 have d:=O1 ops c n;have g:=EP (jk n 5) 0 ⟨[],[],[],[],0⟩;have h:=wS n (m:=5) (by omega);obtain⟨r1,r2⟩:=zL ops (gX (params (jk n 5) 0 ⟨[],[],[],[],0⟩) (vl 2 0 0 5 [] 0));have e1:(gX (params (jk n 5) 0 ⟨[],[],[],[],0⟩) (vl 2 0 0 5 [] 0)).ee.length=jk n 5+1:=by
  simp only[gX,Ja,Xk,g.1];simp
 have e2:(gX (params (jk n 5) 0 ⟨[],[],[],[],0⟩) (vl 2 0 0 5 [] 0)).eh=[]:=g.2;have e:Qh ⟨row ops (gX (params (jk n 5) 0 ⟨[],[],[],[],0⟩) (vl 2 0 0 5 [] 0)),[],[]⟩ 0:=by
  have a:=r1.ee;have b:=r1.eh;rw[e1]at a b r2;rw[e2]at b;refine⟨by grind,?_,jn _⟩;show(row ops _).eh.length<=(row ops _).ee.length+0;simp at b;omega
 have f:=Dx ops (c.take 6) e;have hlen:(c.take 6).length<=6:=by rw[MI];omega
 unfold Ak;simp only;generalize kI ops (c.take 6) ⟨row ops (gX (params (jk n 5) 0 ⟨[],[],[],[],0⟩) (vl 2 0 0 5 [] 0)),[],[]⟩=t at*;obtain⟨D,pr,nx,i,j,k⟩:=SK ops d;obtain⟨l,o,_⟩:=wF ops t.s;have v:=f.ee;have s:=f.eh;have bl:=f.blocks;refine SV i j k (by simp[end_,on]) rfl ?_ ?_ ?_ 1 2
 ·show(fk ops t.s).2.ee.length<=3000
  grind
 ·show(fk ops t.s).2.eh.length<=1000;omega
 ·show(t.blocks++[_]).length<=300
  grind
theorem TS(ops c:List Int) (n:Int):1<=(Ak ops c n).ee.length/\(Ak ops c n).ee.length<=210:=by
 constructor
 ·have g:=JL ops c n;have h:∃(s:Nat) (fs:List Fm) (f:Fm),(Ak ops c n).eh[s]? =some fs/\f∈fs/\∃v,v∈f.stack:=by
   unfold Ak end_ fk;refine⟨_,_,_,WD,Ig.2 rfl,_,Ig.2 rfl⟩
  obtain⟨s,fs,f,i,j,v,k⟩:=h;obtain⟨x,p,_⟩:=((g.st s fs i).2.2 f j).2.2.2 v k
  grind
 ·have e:=EP (jk n 5) 0 ⟨[],[],[],[],0⟩;have l:=wS n (m:=5) (by omega);obtain⟨r1,r2⟩:=zL ops (gX (params (jk n 5) 0 ⟨[],[],[],[],0⟩) (vl 2 0 0 5 [] 0));have e1:(gX (params (jk n 5) 0 ⟨[],[],[],[],0⟩) (vl 2 0 0 5 [] 0)).ee.length=jk n 5+1:=by
   simp only[gX,Ja,Xk,e.1];simp
  have e2:(gX (params (jk n 5) 0 ⟨[],[],[],[],0⟩) (vl 2 0 0 5 [] 0)).eh=[]:=e.2;have d:Qh ⟨row ops (gX (params (jk n 5) 0 ⟨[],[],[],[],0⟩) (vl 2 0 0 5 [] 0)),[],[]⟩ 0:=by
   have a:=r1.ee;have b:=r1.eh;rw[e1]at a b r2;rw[e2]at b;refine⟨by grind,?_,jn _⟩;show(row ops _).eh.length<=(row ops _).ee.length+0;simp at b;omega
  have o:=Dx ops (c.take 6) d;unfold Ak;simp only;generalize kI ops (c.take 6) ⟨row ops (gX (params (jk n 5) 0 ⟨[],[],[],[],0⟩) (vl 2 0 0 5 [] 0)),[],[]⟩=t at*;obtain⟨q,_,_⟩:=wF ops t.s;have v:=o.ee;show(fk ops t.s).2.ee.length<=210
  simp_all
open Dm
def On(l:List Bool)(v:Nat):Prop:=l[v]? =some true
theorem rL{l:List Bool} {v w:Nat} (a:v<l.length) (b:Bool):On (l.set v b) w↔(w=v/\b=true)\/(w≠v/\On l w):=by
 grind[On,G2,Iv,absurd]
def gi(u:U) (v:Nat):Bool:=match u.ee[v]? with
 |some x=>iC x.op
 |none=>false
def ik(u:U) (b:Nat):List Nat:=match u.blocks[b]? with
 |some B=>B.ee
 |none=>[]
def gw(u:U)(t w:Nat):Prop:=w∈ik u t/\gi u w=true
def nG(u:U) (s:Nat):List Nat:=match u.eh[s]? with
 |some fs=>jh fs
 |none=>[]
def sY(u:U) (v:Nat):List Nat:=match u.ee[v]? with
 |some x=>mD x++(if leaves x.op=true then nG u x.state else[])
 |none=>[]
def ln(In H:Nat->Nat->Prop):List Nat->(Nat->Prop)->Nat->Prop
 |[],P=>P
 |t::ts,P=>ln In H ts λw=>(P w\/In t w)/\¬H t w
def DJ(u:U)(b w:Nat):Prop:=∃t∈next u b,∃(B:Bk) (v:Nat) (x:Vl) (j:Nat),u.blocks[t]? =some B/\v∈B.ee/\u.ee[v]? =some x/\x.op=21/\B.ft[j]? =some b/\x.args[j]? =some w
def EH(u:U)(b w:Nat):Prop:=∃B:Bk,u.blocks[b]? =some B/\(B.fin=2/\w=B.cond\/B.fin=3/\w∈nG u B.state)
def Cw(u:U)(H In:Nat->Nat->Prop)(b w:Nat):Prop:=ln In H (next u b) (λ_=>False) w\/DJ u b w\/EH u b w
def bk(u:U):List Nat->(Nat->Prop)->Nat->Prop
 |[],P=>P
 |v::r,P=>if gi u v=true then P else bk u r λw=>(P w/\w≠v)\/w∈sY u v
def wZ(u:U)(b:Nat)(O:Nat->Prop):Nat->Prop:=bk u (ik u b).reverse O
def Tr(u:U)(H In:Nat->Nat->Prop)(b:Nat):Nat->Prop:=wZ u b (Cw u H In b)
theorem N0{In a H:Nat->Nat->Prop} (h:∀b w,In b w->a b w):∀{ts:List Nat} {P c:Nat->Prop},(∀w,P w->c w)->∀w,ln In H ts P w->ln a H ts c w
 |[],_,_,hp,w,hw=>hp w hw
 |_::ts,_,_,hp,w,hw=>N0 (ts:=ts) h (by grind) w hw
theorem BH{In H a:Nat->Nat->Prop}:∀{ts:List Nat} {P:Nat->Prop},(∀t∈ts,∀w,H t w↔a t w)->∀w,ln In H ts P w↔ln In a ts P w
 |[],_,_,_=>Iff.rfl
 | t ::ts,P,h,w=>by
   have e:(λw=>(P w\/In t w)/\¬H t w)=λw=>(P w\/In t w)/\¬a t w:=by
     funext x;rw[h t (by simp) x]
   show ln In H ts _ w↔ln In a ts _ w;rw[e];exact BH (by simp_all) w
theorem Qu{In H:Nat->Nat->Prop}:∀{ts:List Nat} {P:Nat->Prop} {w:Nat},ln In H ts P w->P w\/∃t∈ts,In t w/\¬H t w
 |[],_,_,h=> .inl h
 | t::ts,P,w,h=>by
   rcases Qu (ts:=ts) h with a|⟨t',a,b⟩
   ·grind
   grind
theorem yS{u:U} {H In a:Nat->Nat->Prop} (h:∀b w,In b w->a b w) {b w:Nat} (d:Cw u H In b w):Cw u H a b w:=
 d.elim (λc=> .inl (N0 h (λ_ e=>e) w c)) λc=> .inr c
theorem xL{u:U}:∀{r:List Nat} {P a:Nat->Prop},(∀w,P w->a w)->∀w,bk u r P w->bk u r a w
 |[],_,_,h,w,hw=>h w hw
 | v::r,P,a,h,w,hw=>by
   unfold bk at hw⊢;split at hw
   ·simp_all
   ·rename_i e;rw[if_neg e];exact xL (by grind) w hw
theorem Kd{u:U} {H In a:Nat->Nat->Prop} (h:∀b w,In b w->a b w) {b w:Nat} (c:Tr u H In b w):Tr u H a b w:=
 xL (by grind[yS]) w c
structure K3 (u:U) (H In:Nat->Nat->Prop):Prop where
 up:∀b w,In b w->Tr u H In b w
 least:∀X:Nat->Nat->Prop,(∀b w,b<u.blocks.length->Tr u H X b w->X b w)->∀b w,In b w->X b w
theorem K3.start(u:U)(H:Nat->Nat->Prop):K3 u H λ_ _=>False:=⟨by simp_all,by simp_all⟩
def oH(In:Nat->Nat->Prop)(b:Nat)(P:Nat->Prop):Nat->Nat->Prop:=λc w=>(c=b/\P w)\/(c≠b/\In c w)
theorem K3.step{u:U} {H In:Nat->Nat->Prop} (h:K3 u H In) {b:Nat} (i:b<u.blocks.length):K3 u H (oH In b (Tr u H In b)):=by
 have f:∀c w,In c w->oH In b (Tr u H In b) c w:=λc w a=>by
  by_cases e:c=b
  ·subst e;exact .inl ⟨rfl,h.up _ _ a⟩
  ·exact .inr ⟨e,a⟩
 refine⟨λc w a=>?_,λX g c w a=>?_⟩
 ·rcases a with⟨rfl,d⟩|⟨_,d⟩
  ·grind[Kd]
  ·exact Kd f (h.up _ _ d)
 ·rcases a with⟨rfl,d⟩|⟨_,d⟩
  ·exact g _ _ i (Kd (h.least X g) d)
  ·exact h.least X g _ _ d
structure lR (u:U) (H In Out:Nat->Nat->Prop):Prop where
 out:∀b w,b<u.blocks.length->(Out b w↔Cw u H In b w)
 I8:∀b w,b<u.blocks.length->(In b w↔wZ u b (Out b) w)
 least:∀X:Nat->Nat->Prop,(∀b w,b<u.blocks.length->Tr u H X b w->X b w)->∀b w,In b w->X b w
theorem lR.tr{u:U} {H In Out:Nat->Nat->Prop} (h:lR u H In Out) {b w:Nat} (a:b<u.blocks.length):In b w↔Tr u H In b w:=by
 rw[h.I8 b w a];exact⟨xL (λx c=>(h.out b x a).1 c) w,xL (λx c=>(h.out b x a).2 c) w⟩
theorem Mb{u:U} {H c In:Nat->Nat->Prop} {b:Nat} (d:∀t∈next u b,∀w,H t w↔c t w) (w:Nat):Tr u H In b w↔Tr u c In b w:=
 ⟨xL (λx a=>a.imp (by grind[BH]) id) w,xL (λx a=>a.imp (by grind[BH]) id) w⟩
theorem lR.uniq{u:U} {H g In Out a c:Nat->Nat->Prop} (h:lR u H In Out) (h':lR u g a c) (j:∀b,∀t∈next u b,∀w,H t w↔g t w) {b w:Nat} (d:b<u.blocks.length):(In b w↔a b w)/\(Out b w↔c b w):=by
 have e:∀b w,In b w->a b w:=h.least a λb w d i=>(h'.tr d).2 (by grind[Mb]);have e':∀b w,a b w->In b w:=h'.least In λb w d i=>(h.tr d).2 (by grind[Mb]);refine⟨by grind,?_⟩;rw[h.out b w d,h'.out b w d];exact⟨λf=>(yS e f).imp (by grind[BH]) id,λf=>(yS e' f).imp (by grind[BH]) id⟩
theorem JS{u:U} {b v:Nat}:v∈ik u b↔∃k,At u v b k:=by
 unfold ik At
 grind[mM]
theorem hX{u:U} {b v k:Nat}:(ik u b)[k]? =some v↔At u v b k:=by
 grind[ik,At]
section
variable{u:U}(g:Good u)
include g
theorem Good.RM{p b:Nat} (h:b∈next u p):p<u.blocks.length/\b<u.blocks.length/\b≠0:=by
 refine⟨?_,g.nx p b h,λe=>?_⟩
 ·grind[next,jw]
 ·subst e;have:=zm.2 h;rw[g.KD]at this;cases this
omit g in
theorem NX {c p b:Nat} (h:wA (next u) c b) (hc:c≠b) (e:b∈next u p):wA (next u) c p:=λl hl=>by
 have:=h _ (.step hl e)
 simp_all
theorem Good.Eg{v b k:Nat} (h:At u v b k):∃x,u.ee[v]? =some x/\gi u v=iC x.op:=by
 have:=g.vR v b k h
 simp_all[iH,gi]
theorem Good.DN{v b k:Nat} (h:At u v b k) (a:gi u v=true):∀{w j:Nat},At u w b j->j<=k->gi u w=true:=by
 have l:∀(n:Nat) (v k:Nat),At u v b k->gi u v=true->∀w j,At u w b j->j+n=k->gi u w=true:=by
  intro n
  induction n with
  | zero=>
    intro v k h a w j c m;obtain rfl:j=k:=by omega
    obtain⟨B,d,e⟩:=h;obtain⟨z,f,A⟩:=c
    simp_all
  | succ n o=>
    intro v k h a w j c m;obtain⟨k,rfl⟩:∃i,k=i+1:=⟨k-1,by omega⟩
    obtain⟨B,d,e⟩:=h;have p:k<B.ee.length:=by have:=(jw.1 e).1;omega
    have f:At u (B.ee[k]) b k:=⟨B,d,iH p⟩
    obtain⟨x,q,r⟩:=g.Eg ⟨B,d,e⟩;obtain⟨y,s,t⟩:=g.Eg f;rw[r]at a;exact o _ k f (by rw[t];exact g.Ie _ _ _ _ _ _ ⟨B,d,e⟩ f q s a) w j c (by omega)
 exact λ{w j} c m=>l (k-j) v k h a w j c (by omega)
theorem Good.pw(b:Nat):(ik u b).reverse.Pairwise λx y=>gi u x=true->gi u y=true:=by
 rw[List.pairwise_reverse,Xp];intro i j hi a c h;exact g.DN (hX.1 (iH a)) h (hX.1 (iH hi)) (by omega)
def Mf(u:U)(b w:Nat):Prop:=∃c j,At u w c j/\wA (next u) c b/\(c=b->gi u w=true)
theorem Good.Rf{X:Nat->Nat->Prop} (n:∀b w,X b w->Mf u b w) {b w:Nat} (h:Cw u (gw u) X b w):∃c j,At u w c j/\wA (next u) c b:=by
 rcases h with h|⟨t,d,B,v,x,j,i,f,a,l,m,o⟩|⟨B,d,i⟩
 ·rcases Qu h with d|⟨t,d,i,f⟩
  ·exact d.elim
  ·obtain⟨c,j,a,l,m⟩:=n t w i;refine⟨c,j,a,NX l (λe=>?_) d⟩;subst e;exact f ⟨JS.2 ⟨j,a⟩,m rfl⟩
 ·obtain⟨k,p⟩:=JS.1 (show v∈ik u t by unfold ik;rw[i];exact f);exact g.Sp v t k x B p a l i j w b o m
 ·rcases i with⟨f,rfl⟩|⟨f,a⟩
  ·exact g.Se b B d f
  ·unfold nG at a;split at a
   ·rename_i fs q;exact g.Qx b B fs d f q w a
   ·cases a
theorem Good.Pp{b:Nat} {O:Nat->Prop} (D:∀w,O w->∃c j,At u w c j/\wA (next u) c b) {w:Nat} (h:wZ u b O w):Mf u b w:=by
 have r:∀(l d : List Nat) (P:Nat->Prop),ik u b=l++d->(∀w,P w->∃c j,At u w c j/\wA (next u) c b/\(c=b->j<l.length\/gi u w=true))->∀w,bk u l.reverse P w->Mf u b w:=by
   intro l
   induction hl:l.length generalizing l with
   | zero=>
     intro d P _ p w m;obtain rfl:l=[]:=Wm hl;obtain⟨c,j,f,i,o⟩:=p w m;refine⟨c,j,f,i,λe=>?_⟩
     simp_all
   | succ n E =>
     intro d P J p w m;obtain⟨s,v,rfl⟩:∃s v,l=s++[v]:=by
       rcases gY l with rfl|h
       ·simp_all
       ·exact h
     have F:s.length=n:=by simpa using hl
     have k:At u v b s.length:=hX.1 (by simp_all);rw[List.reverse_append]at m;simp only[List.reverse_cons,List.reverse_nil,LR,W3]at m;unfold bk at m;split at m
     ·rename_i t
      obtain⟨c,j,f,i,o⟩:=p w m;refine⟨c,j,f,i,λe=>?_⟩;rcases o e with q|q
      ·subst e
       exact g.DN k t f (by omega)
      ·exact q
     ·rename_i t
      refine E s F (v::d) _ (by simp_all) (λx a=>?_) w m;rcases a with⟨a,pe⟩|a
      ·obtain ⟨c,j,f,i,o⟩:=p x a
       refine⟨c,j,f,i,λe=>?_⟩;rcases o e with q|q
       ·left
        rcases Ji j s.length with G|G
        ·omega
        ·exfalso
         obtain rfl:j=s.length:=by omega
         subst e;obtain⟨B,e1,e2⟩:=f;obtain⟨K,L,e4⟩:=k
         simp_all
       simp_all
      ·unfold sY at a
       obtain ⟨y,z,H⟩:=g.Eg k;rw[z]at a;simp only[AI]at a;have A:y.op≠21:=λe=>t (by rw[H,e];rfl);have:O2 u x b s.length:=by
         rcases a with a|a
         ·exact g.NR v b s.length y k z A x a
         ·split at a
          ·rename_i C
           unfold nG at a;split at a
           ·rename_i fs I
            exact g.NT v b s.length y fs k z C I x a
           ·cases a
          ·cases a
       obtain⟨c,j,f,i⟩:=this;rcases i with⟨rfl,i⟩|⟨i,o⟩
       ·grind[wA.self]
       grind
 refine r (ik u b) [] O (by simp) (λw m=>?_) w h;obtain⟨c,j,f,i⟩:=D w m;refine⟨c,j,f,i,λe=> .inl ?_⟩;subst e;have:=hX.2 f
 grind
theorem Good.Xi{In Out:Nat->Nat->Prop} (h:lR u (gw u) In Out) {b w:Nat} (a:In b w):Mf u b w:=
 h.least (Mf u) (λ_ _ _ a=>g.Pp (λ_ c=>g.Rf (by simp_all) c) a) b w a
variable{In Out:Nat->Nat->Prop}(h:lR u (gw u) In Out)
include h
end
