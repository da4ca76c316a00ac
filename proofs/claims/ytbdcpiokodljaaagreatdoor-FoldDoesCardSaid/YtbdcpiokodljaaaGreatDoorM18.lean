/- Parts. -/
import Derived.Test.YtbdcpiokodljaaaGreatDoorM09
import Derived.Test.YtbdcpiokodljaaaGreatDoorM13
set_option maxHeartbeats 4000000
namespace Go.Proofs.YtbdcpiokodljaaaGreatDoor.Hx
open Un
def eN:qH Nat where
 sz:=1
 rel _ _ n cs:=cs=[.int .i64 n]
 len h:=by subst h;rfl
 one h:=by subst h;rfl
 fi _ h:=h
 mono _ h:=h
def mW(x:Vl)(w:V):List V:=[.int .i64 x.op,.int .i64 x.a,.int .i64 x.b,.int .i64 x.n,w,.int .i64 x.state]
def eV:qH Vl where
 sz:=6
 rel F h x cs:=∃w,cs=mW x w/\ie eN F h x.args w
 len:=λ⟨_,h,_⟩=>by subst h;rfl
 one:=λ⟨_,h,hs⟩=>by subst h;simp only[mW,eo,hs.one];rfl
 fi:=λhk ⟨w,h,hs⟩=>⟨w,h,hs.fi hk⟩
 mono:=λa ⟨w,h,hs⟩=>⟨w,h,hs.mono a⟩
def lB(x:Bk)(v n p:V):List V:=[v,.int .i64 x.fin,.int .i64 x.cond,n,p,.int .i64 x.state]
def eK:qH Bk where
 sz:=6
 rel F h x cs:=∃v n p,cs=lB x v n p/\ie eN F h x.ef v/\ie eN F h x.next n/\ie eN F h x.eQ p
 len:=λ⟨_,_,_,h,_⟩=>by subst h;rfl
 one:=λ⟨_,_,_,h,a,b,c⟩=>by subst h;simp only[lB,eo,a.one,b.one,c.one];rfl
 fi:=λhk ⟨v,n,p,h,a,b,c⟩=>⟨v,n,p,h,a.fi hk,b.fi hk,c.fi hk⟩
 mono:=λd ⟨v,n,p,h,a,b,c⟩=>⟨v,n,p,h,a.mono d,b.mono d,c.mono d⟩
def LL(x:Fm)(l s:V):List V:=[.int .i64 x.func,.int .i64 x.pc,l,s]
def eF:qH Fm where
 sz:=4
 rel F h x cs:=∃l s,cs=LL x l s/\ie eN F h x.locals l/\ie eN F h x.stack s
 len:=λ⟨_,_,h,_⟩=>by subst h;rfl
 one:=λ⟨_,_,h,a,b⟩=>by subst h;simp only[LL,eo,a.one,b.one];rfl
 fi:=λhk ⟨l,s,h,a,b⟩=>⟨l,s,h,a.fi hk,b.fi hk⟩
 mono:=λc ⟨l,s,h,a,b⟩=>⟨l,s,h,a.mono c,b.mono c⟩
def eT:qH (List Fm):=eL eF
theorem yd(F:Nat->Prop)(h:Hp):∀(l:List Nat),qP eN F h (l.map λn=>V.int .i64 (n:Nat)) l
 |[]=>trivial
 |n::l=>⟨[.int .i64 n],_,rfl,rfl,yd F h l⟩
def Loc(v:V)(t:Nat):Prop:=match v with
 | .slice l _ _=>l=t
 |_=>False
@[simp] theorem zfT (t:Nat):Loc .ee t=False:=rfl
@[simp] theorem zd4 (l o n t:Nat):Loc (.slice l o n) t=(l=t):=rfl
def lM{α:Type}(E:qH α)(ty:Nat)(F:Nat->Prop)(h:Hp)(xs:List α)(v:V):Prop:=(v = .ee/\xs=[])\/∃t cs,v = .slice t 0 xs.length/\t<h.next/\¬F t/\h.get t=some (.cells ty E.sz true false cs)/\qP E F h cs xs/\gv cs=true
section
variable{α:Type}{E:qH α}{ty:Nat}{F F':Nat->Prop}{h h':Hp}{xs:List α}{v:V}
theorem lM.nil:lM E ty F h [] .ee:= .inl ⟨rfl,rfl⟩
theorem lM.len(a:lM E ty F h xs v):fD v=some (.int .i64 xs.length):=by
 rcases a with⟨rfl,rfl⟩|⟨t,cs,rfl,_⟩ <;> rfl
theorem lM.one(a:lM E ty F h xs v):v.one=true:=by
 rcases a with⟨rfl,rfl⟩|⟨t,cs,rfl,_⟩ <;> rfl
noncomputable def Zd(h:Hp) (l:Nat):Option (Nat×Nat):=match h.get l with
 |some (.cells e sz _ _ _)=>some (e,sz)
 |_=>none
theorem Nb{l e sz:Nat}{a b:Bool}{cs:List V}(c:h.get l=some (.cells e sz a b cs)):Zd h l=some (e,sz):=by unfold Zd;rw[c]
theorem lM.xi(b:lM E ty F h xs v){t:Nat}(a:Loc v t):Zd h t=some (ty,E.sz)/\t<h.next/\¬F t:=by
 rcases b with⟨rfl,_⟩|⟨t',cs,rfl,c,d,e,_⟩
 ·exact a.elim
 ·obtain rfl:t' = t:=a;exact⟨Nb e,c,d⟩
theorem lM.fi(a:lM E ty F h xs v)(hk:∀l,F l->h'.get l=h.get l)(b:∀l,Loc v l->h'.get l=h.get l)(c:h.next<=h'.next):lM E ty F h' xs v:=by
 rcases a with a|⟨t,cs,rfl,d,e,f,g,i⟩
 ·exact .inl a
 ·exact .inr ⟨t,cs,rfl,ET d c,e,by rw[b t rfl];exact f,g.fi hk,i⟩
theorem lM.mono(a:lM E ty F h xs v)(b:∀l,F l->F' l)(c:∀t,Loc v t->¬F' t):lM E ty F' h xs v:=by
 rcases a with a|⟨t,cs,rfl,d,i,e,f,g⟩
 ·exact .inl a
 ·exact .inr ⟨t,cs,rfl,d,c t rfl,e,f.mono b,g⟩
theorem lM.slR(a:lM E ty F h xs v)(b:∀l,F l->F' l)(c:∀t,Loc v t->F' t):ie E F' h xs v:=by
 rcases a with a|⟨t,cs,rfl,f,g,d,e,i⟩
 ·exact .inl a
 ·exact .inr ⟨t,0,ty,true,false,cs,rfl,c t rfl,d,.inr rfl,Ol _,by simpa using e.mono b⟩
theorem lM.read(a:lM E ty F h xs v):ie E (λl=>F l\/Loc v l) h xs v:=a.slR (λ_ h=> .inl h) λ_ h=> .inr h
theorem lM.append{kL:Nat}{x:V}{new:List V}{ys:List α}(C:lM E ty F h xs v)(c:ml h E.sz x=some (ys.length,new))(q:qP E F h new ys)(D:new.length=ys.length*E.sz)(i:gv new=true)(hk:0<ys.length)(I:0<E.sz)
  (o:∀l,F l->l<h.next) (z:(xs.length+ys.length)*kL<=70368744177664) (m:xs.length+ys.length<=70368744177664) :
  ∃r h',eR ty E.sz kL v x h=some (.val r h')/\lM E ty F h' (xs++ys) r/\mw (Loc v) h h'/\(∀t,Loc r t->Loc v t\/t=h.next):=by
 have f:Nat.beq ys.length 0=false:=by
  cases hq:ys.length with
  |zero=>omega
  |succ k=>rfl
 rcases C with⟨rfl,rfl⟩|⟨t,cs,rfl,j,s,A,u,g⟩
 ·refine⟨.slice h.next 0 ys.length,h.new (.cells ty E.sz true false new),?_,.inr ⟨h.next,new,by simp,Pv _,λb=>wBp _ (o _ b),fh _ _,?_,i⟩,mw.new _ _,λt G=> .inr G.symm⟩
  ·unfold eR;simp only[c,fe,f,i,uk];rw[nj _ (UW (by simpa using z)),nj _ (UW (by simpa using m))]
  ·exact q.fi λl b=>fj _ (o l b)
 ·have H:=u.length;have B:(xs.length+ys.length)*E.sz=xs.length*E.sz+ys.length*E.sz:=Yt _ _ _
  cases hroom:Nat.ble (Nat.add 0 (Nat.mul (Nat.add xs.length ys.length) E.sz)) cs.length with
  | true=>
    have J:(xs.length+ys.length)*E.sz<=cs.length:=by
      have:=K7 hroom;show _<=_;rw[show Nat.add 0 (Nat.mul (Nat.add xs.length ys.length) E.sz)=(xs.length+ys.length)*E.sz from zO _]at this;exact this
    refine ⟨.slice t 0 (xs.length+ys.length),h.put t (.cells ty E.sz true false (cs.take (xs.length*E.sz)++new++cs.drop (xs.length*E.sz+new.length))),?_,
      .inr ⟨t,_,by simp,j,s,gq _ j,?_,?_⟩,mw.put _ rfl j,λ_ h=> .inl h⟩
    ·unfold eR kI
     have w:qw (Nat.add 0 (Nat.mul xs.length E.sz)) cs new=some (cs.take (xs.length*E.sz)++new++cs.drop (xs.length*E.sz+new.length)):=by
       rw[show Nat.add 0 (Nat.mul xs.length E.sz)=xs.length*E.sz from zO _];exact AO (by rw[D];omega)
     simp only[c,fe,f,i,uk,A,wBf,hroom,w];rw[nj _ (Xn _)];rfl
    ·refine qP.fi (h:=h) (λl b=>gK _ j λe=>s (e▸b)) ?_
     rw[M6];exact u.take.append (by rw[NM];omega) q.more
    ·rw[pd,pd,i]
     have p:∀(l:List V),gv l=l.all V.one:=λl=>by
       induction l with
       |nil=>rfl
       |cons a l y=>rw[eo,y];rfl
     rw[p]at g⊢;rw[p];rw[RU]at g;simp only[Bool.and_true,yl,RU]
     exact⟨λx c=>g x (wBa c),λx c=>g x (List.mem_of_mem_drop c)⟩
  | false=>
    have p:∀(l:List V),gv l=l.all V.one:=λl=>by
      induction l with
      |nil=>rfl
      |cons a l y=>rw[eo,y];rfl
    have d:gv (cs.take (xs.length*E.sz))=true:=by
      rw[p]at g⊢;rw[RU]at g⊢;exact λx c=>g x (wBa c)
    refine ⟨.slice h.next 0 (xs.length+ys.length),(h.put t (.cells ty E.sz false false cs)).new (.cells ty E.sz true false (cs.take (xs.length*E.sz)++new)),?_,
      .inr ⟨h.next,_,by simp,Pv _,λb=>wBp _ (o _ b),fh (h.put t _) _,?_,by rw[pd,d,i];rfl⟩,
      (mw.put (S:=Loc (.slice t 0 xs.length)) (.cells ty E.sz false false cs) rfl j).trans (mw.new _ _),λ_ h=> .inr h.symm⟩
    ·unfold eR kI
     have n:sub cs 0 (Nat.mul xs.length E.sz)=some (cs.take (xs.length*E.sz)):=by
       show sub cs 0 (xs.length*E.sz)=_;rw[EI (show 0+xs.length*E.sz<=cs.length by omega),wBS]
     simp only[c,fe,f,i,uk,A,wBf,hroom,n,d];rw[nj _ (Xn _),nj _ (show Nat.ble (Nat.mul (Nat.add xs.length ys.length) kL) 70368744177664=true from UW z),nj _ (show Nat.ble (Nat.add xs.length ys.length) 70368744177664=true from UW m)];rfl
    ·refine qP.fi (h:=h) (λl b=>?_) ?_
     ·rw[fj _ (show l<(h.put t _).next from o l b),gK _ j λe=>s (e▸b)]
     ·exact u.take.append (by rw[NM];omega) q
theorem lM.cut(d:lM E ty F h xs v){n:Nat}(a:n<=xs.length):∃b,jz E.sz v none (some (.int .i64 n)) h=some b/\lM E ty F h (xs.take n) b/\∀t,Loc b t->Loc v t:=by
 rcases d with⟨rfl,rfl⟩|⟨t,cs,rfl,e,f,c,g,i⟩
 ·obtain rfl:n=0:=by simpa using a
  exact⟨.ee,rfl,.inl ⟨rfl,rfl⟩,λ_ h=>h⟩
 ·refine⟨.slice t 0 n,?_,.inr ⟨t,cs,by rw[NM,wBk a],e,f,c,g.taken n,i⟩,λ_ h=>h⟩;unfold jz kI;simp only[c,fe,G5,PY];rw[nj _ (Xn _),nj _ (UW (Ol _)),nj _ (by rw[UW a];rfl)];simp
theorem lM.store(n:lM E ty F h xs v){i k:Nat}{y:α}{u:V}(hi:i<xs.length)(hk:k<E.sz)(f:u.one=true)(o:∀w,E.rel F h xs[i] w->E.rel F h y (w.set k u)) :
  ∃t h',Loc v t/\gG E.sz v (.int .i64 i)=some (.ptr t (i*E.sz))/\gJ 1 (.ptr t (i*E.sz+k)) u h=some (.val .undef h')/\lM E ty F h' (xs.set i y) v/\mw (Loc v) h h':=by
 rcases n with⟨rfl,rfl⟩|⟨t,cs,rfl,c,g,p,j,d⟩
 ·simp at hi
 ·obtain ⟨w,q,C,m⟩:=j.get (i:=i) (x:=xs[i]) (hO hi);have b:cs.set (i*E.sz+k) u=cs.take (i*E.sz)++w.set k u++cs.drop (i*E.sz+E.sz):=by
   have e0:cs=cs.take (i*E.sz)++(w++cs.drop (i*E.sz+E.sz)):=by
    rw[<-q]
    conv=>lhs;rw[<-Zb (i*E.sz) cs]
    congr 1;rw[<-wBg,Zb]
   have D:=E.len m
   conv=>lhs;rw[e0]
   rw[List.set_append_right _ _ (by rw[NM];omega),NM,wBk (by omega),wBd,List.set_append_left _ _ (by omega),M6]
  refine⟨t,h.put t (.cells ty E.sz true false (cs.set (i*E.sz+k) u)),rfl,by rw[za _ _ _ _ _ _ hi,zO],OU p (by omega) f,.inr ⟨t,_,by simp,c,g,gq _ c,?_,?_⟩,mw.put _ rfl c⟩
  ·refine qP.fi (h:=h) (λl r=>gK _ c λe=>g (e▸r)) ?_;rw[b];exact j.set hi (o w m)
  ·have s:∀(l:List V),gv l=l.all V.one:=λl=>by
    induction l with
    |nil=>rfl
    |cons a l z=>rw[eo,z];rfl
   rw[s]at d⊢;rw[RU]at d⊢;intro x A;rcases List.mem_or_eq_of_mem_set A with B|rfl
   ·exact d x B
   ·exact f
end
abbrev ev:Nat:=3
abbrev kr:Nat:=4
abbrev js:Nat:=22
abbrev im:Nat:=30
abbrev gP:Nat:=45
abbrev fJ:Nat:=43
abbrev mb:Nat:=52
abbrev MN:Nat:=49
abbrev Sl:Nat:=24
abbrev CM:Nat:=135
abbrev MR:Nat:=72
open Un
structure Pc where
 mM:Nat->Prop
 ok:(Nat->Prop)->Hp->Prop
 Pl:∀{F:Nat->Prop} {h:Hp},ok F h->∀l,mM l->l<h.next/\¬F l
 fi:∀{F:Nat->Prop} {h h':Hp},ok F h->(∀l,F l->h'.get l=h.get l)->(∀l,mM l->h'.get l=h.get l)->h.next<=h'.next->ok F h'
 mono:∀{F F':Nat->Prop} {h:Hp},ok F h->(∀l,F l->F' l)->(∀l,mM l->¬F' l)->ok F' h
def emp:Pc:=⟨λ_=>False,λ_ _=>True,by simp_all,by simp_all,by simp_all⟩
def ey(l ty:Nat)(vs:List V):Pc where
 mM:=λm=>m=l
 ok F h:=h.get l=some (.cells ty 1 true false vs)/\l<h.next/\¬F l
 Pl:=by simp_all
 fi:=by grind
 mono:=by simp_all
def eJ{α:Type}(E:qH α)(ty:Nat)(xs:List α)(v:V):Pc where
 mM:=Loc v
 ok F h:=lM E ty F h xs v
 Pl:=λh _ a=>(h.xi a).2
 fi:=by grind[lM.fi]
 mono:=by grind[lM.mono]
structure Sn (F:Nat->Prop) (h:Hp) (F':Nat->Prop) (h':Hp):Prop where
 next:h.next<=h'.next
 fi:∀l,F l->h'.get l=h.get l
 mono:∀l,F l->F' l
theorem Sn.refl(F:Nat->Prop)(h:Hp):Sn F h F h:=⟨ju _,by simp_all,λ_ h=>h⟩
theorem Sn.trans{F F' c:Nat->Prop} {h h' d:Hp}(a:Sn F h F' h')(b:Sn F' h' c d):Sn F h c d:=
 ⟨Ix a.next b.next,λl e=>(b.fi l (a.mono l e)).trans (a.fi l e),λl e=>b.mono l (a.mono l e)⟩
structure ej (F:Nat->Prop) (h:Hp) (cs:List Pc):Prop where
 fl:∀l,F l->l<h.next
 ok:∀(i:Nat) (c:Pc),cs[i]? =some c->c.ok F h
 Fg:∀(i j:Nat) (c d:Pc),cs[i]? =some c->cs[j]? =some d->i≠j->∀l,c.mM l->¬d.mM l
section
variable{F F':Nat->Prop}{h h':Hp}{cs:List Pc}{i j:Nat}{c d p:Pc}
theorem EZ{cs:List Pc}{i:Nat}{p:Pc}{j:Nat}{d:Pc}(a:(cs.set i p)[j]? =some d):(j=i/\d=p)\/(j≠i/\cs[j]? =some d):=by
 grind
theorem ej.nil(a:∀l,F l->l<h.next):ej F h []:=⟨a,by simp_all,by simp_all⟩
theorem ej.cons(H:ej F h cs)(f:p.ok F h)(hp:∀(i:Nat) c,cs[i]? =some c->∀l,p.mM l->¬c.mM l):ej F h (p::cs) where
 fl:=H.fl
 ok:=λi c hc=>by
  cases i with
  |zero=>simp_all
  |succ i=>exact H.ok i c hc
 Fg:=λi j c d hc b g l e a=>by
  cases i with
  | zero=>
    grind
  | succ i=>
    cases j with
    |zero=>grind
    |succ j=>exact H.Fg i j c d hc b (by omega) l e a
theorem ej.tail(H:ej F h (p::cs)):ej F h cs where
 fl:=H.fl
 ok:=λi c hc=>H.ok (i+1) c hc
 Fg:=λi j c d hc a b=>H.Fg (i+1) (j+1) c d hc a (by omega)
theorem ej.add(H:ej F h cs)(a:p.ok F h)(hp:∀l,¬p.mM l):ej F h (p::cs):=H.cons a (by simp_all)
theorem ej.swap(H:ej F h cs)(hi:cs[i]? =some c)(s:p.ok F h)(hp:∀l,p.mM l->c.mM l):ej F h (cs.set i p) where
 fl:=H.fl
 ok:=λj d t=>by
  rcases EZ t with⟨_,rfl⟩|⟨_,f⟩
  ·exact s
  ·exact H.ok j d f
 Fg:=λj k a b u n g l m e=>by
  rcases EZ u with⟨o,rfl⟩|⟨o,q⟩
  ·rcases EZ n with⟨r,_⟩|⟨_,f⟩
   ·omega
   ·subst o;exact H.Fg j k c b hi f g l (hp l m) e
  ·rcases EZ n with⟨r,rfl⟩|⟨_,f⟩
   ·subst r;exact H.Fg j k a c q hi g l m (hp l e)
   ·exact H.Fg j k a b q f g l m e
theorem ej.forget(H:ej F h cs)(hi:cs[i]? =some c):ej F h (cs.set i emp):=H.swap hi trivial λ_ h=>h.elim
theorem ej.zc1(H:ej F h cs)(hi:cs[i]? =some c)(hc:mw c.mM h h')(s:∀l,F l->F' l)(n:∀l,F' l->F l\/c.mM l\/(h.next<=l/\l<h'.next))(z:p.ok F' h')(hp:∀l,p.mM l->c.mM l\/h.next<=l):ej F' h' (cs.set i p)/\Sn F h F' h':=by
 have o:=H.ok i c hi;have t:∀l,F l->h'.get l=h.get l:=λl e=>hc.fi l (H.fl l e) λhs=>(c.Pl o l hs).2 e;have other:∀(j:Nat) (d:Pc),j≠i->cs[j]? =some d->d.ok F' h'/\∀l,d.mM l->¬p.mM l:=λj d u q=>by
  have m:=H.ok j d q;have r:∀l,d.mM l->¬c.mM l:=H.Fg j i d c q hi u;refine⟨d.mono (d.fi m t (λl e=>hc.fi l (d.Pl m l e).1 (r l e)) hc.next) s λl e f=>?_,λl e f=>?_⟩
  ·rcases n l f with g|g|g
   ·exact(d.Pl m l e).2 g
   ·simp_all
   ·have:=(d.Pl m l e).1;omega
  ·rcases hp l f with g|g
   ·simp_all
   ·have:=(d.Pl m l e).1;omega
 refine⟨⟨λl e=>?_,λj d q=>?_,λj k a b v w x l e f=>?_⟩,⟨hc.next,t,s⟩⟩
 ·rcases n l e with g|g|g
  ·exact ET (H.fl l g) hc.next
  ·exact ET (c.Pl o l g).1 hc.next
  omega
 ·grind
 ·rcases EZ v with⟨y,rfl⟩|⟨y,m⟩
  ·grind
  ·rcases EZ w with⟨A,rfl⟩|⟨_,r⟩
   ·grind
   ·exact H.Fg j k a b m r x l e f
theorem ej.DV(H:ej F h cs)(hi:cs[i]? =some c)(hc:mw c.mM h h')(a:p.ok F h')(hp:∀l,p.mM l->c.mM l\/h.next<=l):ej F h' (cs.set i p)/\Sn F h F h':=
 H.zc1 hi hc (by simp_all) (by simp_all) a hp
theorem ej.grow(H:ej F h cs)(a:IW h h'):ej F h' cs/\Sn F h F h':=by
 have c:∀l,F l->h'.get l=h.get l:=λl b=>a.fi l (H.fl l b) id;exact⟨⟨λl b=>ET (H.fl l b) a.next,λj d e=>d.fi (H.ok j d e) c (λl b=>a.fi l (d.Pl (H.ok j d e) l b).1 id) a.next,H.Fg⟩,⟨a.next,c,λ_ h=>h⟩⟩
theorem ej.new(H:ej F h cs)(o:O)(b:p.ok F (h.new o))(hp:∀l,p.mM l->l=h.next):ej F (h.new o) (p::cs)/\Sn F h F (h.new o):=by
 obtain⟨c,e⟩:=H.grow (mw.new h o);refine⟨c.cons b λj d f l g a=>?_,e⟩;have:=(d.Pl (H.ok j d f) l a).1
 grind
theorem ej.fresh(H:ej F h cs):¬F h.next:=λa=>wBp _ (H.fl _ a)
theorem ej.zT(H:ej F h cs)(ty:Nat)(vs:List V):ej F (h.new (.cells ty 1 true false vs)) (ey h.next ty vs::cs)/\Sn F h F (h.new (.cells ty 1 true false vs)):=
 H.new _ ⟨fh _ _,Pv _,H.fresh⟩ λ_ e=>e
theorem ej.Xq(H:ej F h cs){α:Type}{E:qH α}(ty:Nat){xs:List α}{ws:List V}{n:Nat}(a:n=xs.length)(b:qP E F h ws xs)(c:gv ws=true) :
  ej F (h.new (.cells ty E.sz true false ws)) (eJ E ty xs (.slice h.next 0 n)::cs)/\Sn F h F (h.new (.cells ty E.sz true false ws)):=by
 subst a;exact H.new _ (.inr ⟨h.next,ws,rfl,Pv _,H.fresh,fh _ _,b.fi λl d=>fj _ (H.fl l d),c⟩) λ_ e=>e.symm
theorem ej.ZY(H:ej F h cs){α:Type}{E:qH α}(ty:Nat){xs:List α}{ws:List V}{n:Nat}(f:n=xs.length)(g:qP E F h ws xs)(ro:Bool) :
  ej (λl=>F l\/l=h.next) (h.new (.cells ty E.sz true ro ws)) cs/\Sn F h (λl=>F l\/l=h.next) (h.new (.cells ty E.sz true ro ws))/\ie E (λl=>F l\/l=h.next) (h.new (.cells ty E.sz true ro ws)) xs (.slice h.next 0 n):=by
 subst f;obtain⟨b,c⟩:=H.grow (mw.new h (.cells ty E.sz true ro ws));refine⟨⟨λl a=>?_,λj d e=>d.mono (b.ok j d e) (by simp_all) λl a i=>?_,b.Fg⟩,⟨c.next,c.fi,by simp_all⟩,?_⟩
 ·rcases a with a|rfl
  ·exact b.fl l a
  simp_all
 ·have k:=d.Pl (H.ok j d e) l a
  simp_all
 ·exact .inr ⟨h.next,0,ty,true,ro,ws,rfl,.inr rfl,fh _ _,.inr rfl,Ol _,by rw[wBS];exact(g.fi λl a=>fj _ (H.fl l a)).mono (by simp_all)⟩
theorem ej.get(H:ej F h cs)(i:Nat){l ty:Nat}{vs:List V}(hi:cs[i]? =some (ey l ty vs)):h.get l=some (.cells ty 1 true false vs):=(H.ok i _ hi).1
theorem ej.ld(H:ej F h cs)(i:Nat){l ty o:Nat}{vs:List V}{u:V}(hi:cs[i]? =some (ey l ty vs))(a:vs[o]? =some u):ez (.ptr l o) h=some u:=ma (H.get i hi) a
theorem ej.tK(H:ej F h cs)(i:Nat){l ty n:Nat}{vs:List V}(hi:cs[i]? =some (ey l ty vs))(a:vs.length=n):fX n (.ptr l 0) h=some (.agg vs):=DB (H.get i hi) a
theorem ej.st(H:ej F h cs)(i:Nat){l ty o:Nat}{vs:List V}{u:V}(hi:cs[i]? =some (ey l ty vs))(b:o<vs.length)(c:u.one=true) :
  ∃h',gJ 1 (.ptr l o) u h=some (.val .undef h')/\h.next<=h'.next/\ej F h' (cs.set i (ey l ty (vs.set o u)))/\Sn F h F h':=by
 have a:=H.ok i _ hi;refine⟨_,OU a.1 b c,ju _,H.DV hi (mw.put _ rfl a.2.1) ⟨gq _ a.2.1,a.2.1,a.2.2⟩ λ_ h=> .inl h⟩
theorem ej.stk(H:ej F h cs)(i:Nat){l ty o:Nat}{vs:List V}{u:V}(hi:cs[i]? =some (ey l ty vs))(b:o<vs.length)(c:u.one=true) :
  ∃h',gJ 1 (.ptr l o) u h=some (.val .undef h')/\h.next<=h'.next/\ej F h' (cs.set i (ey l ty (vs.set o u)))/\Sn F h F h'/\∀m,m≠l->h'.get m=h.get m:=by
 have a:=H.ok i _ hi;obtain⟨d,e⟩:=H.DV (p:=ey l ty (vs.set o u)) (h':=h.put l (.cells ty 1 true false (vs.set o u))) hi (mw.put _ rfl a.2.1) ⟨gq _ a.2.1,a.2.1,a.2.2⟩ λ_ h=> .inl h;exact⟨_,OU a.1 b c,ju _,d,e,λm f=>gK _ a.2.1 (by omega)⟩
theorem ej.stA(H:ej F h cs)(i:Nat){l ty n:Nat}{vs ws:List V}(hi:cs[i]? =some (ey l ty vs))(b:ws.length=n)(hv:vs.length=n)(c:gv ws=true) :
  ∃h',gJ n (.ptr l 0) (.agg ws) h=some (.val .undef h')/\h.next<=h'.next/\ej F h' (cs.set i (ey l ty ws))/\Sn F h F h':=by
 have a:=H.ok i _ hi;refine⟨_,Iu a.1 b hv c,ju _,H.DV hi (mw.put _ rfl a.2.1) ⟨gq _ a.2.1,a.2.1,a.2.2⟩ λ_ h=> .inl h⟩
section
variable{α:Type}{E:qH α}{ty:Nat}{xs:List α}{v:V}
theorem ej.row(H:ej F h cs)(i:Nat)(hi:cs[i]? =some (eJ E ty xs v)):lM E ty F h xs v:=H.ok i _ hi
theorem ej.len(H:ej F h cs)(i:Nat)(hi:cs[i]? =some (eJ E ty xs v)):fD v=some (.int .i64 xs.length):=(H.row i hi).len
theorem ej.one(H:ej F h cs)(i:Nat)(hi:cs[i]? =some (eJ E ty xs v)):v.one=true:=(H.row i hi).one
theorem ej.ix(H:ej F h cs)(i:Nat)(hi:cs[i]? =some (eJ E ty xs v)){k:Nat}(hk:k<xs.length)(kd:IntKind) :
  ∃l o w,gG E.sz v (.int kd k)=some (.ptr l o)/\fX E.sz (.ptr l o) h=some (.agg w)/\E.rel (λl=>F l\/Loc v l) h xs[k] w/\∀j u,w[j]? =some u->ez (.ptr l (o+j)) h=some u:=by
 obtain⟨l,o,w,_,a,b,c,d⟩:=(H.row i hi).read.ix hk kd
 grind
theorem ej.Wd(H:ej F h cs)(i:Nat)(hi:cs[i]? =some (eJ E ty xs v)){k:Nat}(hk:k<xs.length)(kd:IntKind)(a:E.sz=1) :
  ∃l o u,gG 1 v (.int kd k)=some (.ptr l o)/\ez (.ptr l o) h=some u/\E.rel (λl=>F l\/Loc v l) h xs[k] [u]:=by
 obtain⟨l,o,u,_,b,c,d⟩:=(H.row i hi).read.Wd hk kd a
 grind
theorem ej.JZ(H:ej F h cs)(i:Nat)(hi:cs[i]? =some (eJ E ty xs v)){k:Nat}(hk:k<xs.length)(a:E.sz=1){y:α}{u:V}(f:u.one=true)(g:E.rel F h y [u]) :
  ∃l o h',gG 1 v (.int .i64 k)=some (.ptr l o)/\gJ 1 (.ptr l o) u h=some (.val .undef h')/\h.next<=h'.next/\ej F h' (cs.set i (eJ E ty (xs.set k y) v))/\Sn F h F h':=by
 obtain ⟨t,h',n,b,c,j,d⟩:=(H.row i hi).store (k:=0) (y:=y) (u:=u) hk (by omega) f (λw m=>by
  have e:=E.len m;rw[a]at e
  match w,e with
  |[x],_=>exact g)
 rw[a]at b c;exact⟨t,k*1,h',b,c,d.next,H.DV hi d j λ_ h=> .inl h⟩
end
end
open Un
section
variable{F F':Nat->Prop}{h h':Hp}{cs:List Pc}{α:Type}{E:qH α}{ty:Nat}{xs ys:List α}{v x:V}
theorem qP.one:∀{xs:List α}{ws:List V},qP E F h ws xs->ws.length=xs.length*E.sz->gv ws=true
 | [],ws,_,hl=>by
   simp_all
 | y::xs,ws,⟨w,r,b,a,c⟩,hl=>by
   subst b;have d:=E.len a;rw[pd,E.one a,qP.one c (by grind)];rfl
theorem qP.rep{y:α}{u:V}(a:E.rel F h y [u]):∀n,qP E F h (List.replicate n u) (List.replicate n y)
 |0=>trivial
 |n+1=>⟨[u],_,rfl,a,qP.rep a n⟩
theorem No{u:V}(a:u.one=true):∀n,gv (List.replicate n u)=true
 |0=>rfl
 |n+1=>by rw[List.replicate_succ,eo,a,No a n];rfl
theorem Fz{l off n K9 sz:Nat}{ro:Bool}{ds:List V}(b:h.get l=some (.cells K9 sz true ro ds))(a:off+n*sz<=ds.length):∃new,ml h sz (.slice l off n)=some (n,new)/\new=(ds.drop off).take (n*sz):=by
 cases n with
 |zero=>exact⟨_,rfl,by simp⟩
 | succ n=>
   refine⟨_,?_,rfl⟩;unfold ml IS kI;have:sub ds off (Nat.mul (Nat.succ n) sz)=some ((ds.drop off).take ((n+1)*sz)):=EI a
   simp_all
theorem ie.xc(hs:ie E F h ys x):∃new,ml h E.sz x=some (ys.length,new)/\qP E F h new ys/\new.length=ys.length*E.sz:=by
 rcases hs with⟨rfl,rfl⟩|⟨l,off,K9,live,ro,ds,rfl,g,b,c,i,a⟩
 ·exact⟨[],rfl,trivial,by simp⟩
 ·have d:=a.length;rw[wB1]at d;rcases c with rfl|rfl
  ·exact⟨[],rfl,trivial,by simp⟩
  ·obtain⟨new,e,f⟩:=Fz (n:=ys.length) (off:=off) (sz:=E.sz) b (by omega);exact⟨new,e,by rw[f];exact a.take,by simp_all⟩
theorem lM.xc(hs:lM E ty F h ys x):∃new,ml h E.sz x=some (ys.length,new)/\qP E F h new ys/\new.length=ys.length*E.sz:=by
 rcases hs with⟨rfl,rfl⟩|⟨t,ds,rfl,e,f,b,a,g⟩
 ·exact⟨[],rfl,trivial,by simp⟩
 ·have i:=a.length;obtain⟨new,c,d⟩:=Fz (n:=ys.length) (off:=0) (sz:=E.sz) b (by omega);refine⟨new,c,by rw[d,wBS];exact a.take,by simp_all⟩
theorem GX{e sz:Nat}{z:V}:jK e sz 0 z []=some (.cells e sz true false [],λl=> .slice l 0 0):=rfl
theorem ej.app(H:ej F h cs)(i:Nat)(hi:cs[i]? =some (eJ E ty xs v)){kL:Nat}{new:List V}(e:ml h E.sz x=some (ys.length,new))(f:qP E F h new ys)(b:new.length=ys.length*E.sz)
  (j:0<E.sz) (k:kL<=1000) (c:xs.length+ys.length<=10000000) :
  ∃a h',eR ty E.sz kL v x h=some (.val a h')/\h.next<=h'.next/\ej F h' (cs.set i (eJ E ty (xs++ys) a))/\Sn F h F h':=by
 have d:=H.row i hi;by_cases hk:0<ys.length
 ·have m:(xs.length+ys.length)*kL<=10000000*1000:=Nat.mul_le_mul c k;obtain⟨a,h',n,o,g,l1⟩:=d.append (kL:=kL) e f b (f.one b) hk j H.fl (by omega) (by omega);obtain⟨q,r⟩:=H.DV (p:=eJ E ty (xs++ys) a) hi g o λl b=>(l1 l b).imp id (by omega);exact⟨a,h',n,g.next,q,r⟩
 ·have e0:ys=[]:=by simp_all
  subst e0;refine⟨v,h,?_,ju _,by rw[JY];exact H.swap hi d λ_ h=>h,Sn.refl _ _⟩;unfold eR;rw[e];rcases d with⟨rfl,_⟩|⟨t,ds,rfl,_⟩ <;> rfl
theorem ej.Pf(H:ej F h cs)(i:Nat)(hi:cs[i]? =some (eJ E ty xs v)){kL:Nat}(hs:ie E F h ys x)(c:0<E.sz)(d:kL<=1000)(a:xs.length+ys.length<=10000000) :
  ∃b h',eR ty E.sz kL v x h=some (.val b h')/\h.next<=h'.next/\ej F h' (cs.set i (eJ E ty (xs++ys) b))/\Sn F h F h':=by
 obtain⟨new,e,f,g⟩:=hs.xc;exact H.app i hi e f g c d a
theorem ej.za8(H:ej F h cs)(i j:Nat)(hi:cs[i]? =some (eJ E ty xs v)){c:Nat}(d:cs[j]? =some (eJ E c ys x)){kL:Nat}(e:0<E.sz)(f:kL<=1000)(a:xs.length+ys.length<=10000000) :
  ∃b h',eR ty E.sz kL v x h=some (.val b h')/\h.next<=h'.next/\ej F h' (cs.set i (eJ E ty (xs++ys) b))/\Sn F h F h':=by
 obtain⟨new,g,k,l⟩:=(H.row j d).xc;exact H.app i hi g k l e f a
theorem ej.wR(H:ej F h cs)(i:Nat)(hi:cs[i]? =some (eJ E ty xs v)){kL K9:Nat}{y:α}{w:List V}{ro:Bool}(b:E.rel F h y w)(c:0<E.sz)(d:kL<=1000)(e:xs.length<1000000) :
  ∃a h',eR ty E.sz kL v (.slice h.next 0 1) (h.new (.cells K9 E.sz true ro w))=some (.val a h')/\h.next+1<=h'.next/\ej F h' (cs.set i (eJ E ty (xs++[y]) a))/\Sn F h F h':=by
 obtain⟨f,g⟩:=H.grow (mw.new h (.cells K9 E.sz true ro w));have j:ml (h.new (.cells K9 E.sz true ro w)) E.sz (.slice h.next 0 1)=some (1,w):=px (k:=0) (by rw[E.len b];simp);obtain⟨a,h',m,n,o,p⟩:=f.app (ys:=[y]) i hi j ⟨w,[],by simp,E.fi (λl q=>fj _ (H.fl l q)) b,trivial⟩ (by rw[E.len b];simp) c d (by simp;omega);exact⟨a,h',m,n,o,g.trans p⟩
theorem ej.zeT(H:ej F h cs)(i:Nat)(hi:cs[i]? =some (eJ E ty xs v)){n:Nat}(b:n<=xs.length) :
  ∃a,jz E.sz v none (some (.int .i64 n)) h=some a/\ej F h (cs.set i (eJ E ty (xs.take n) a)):=by
 obtain⟨a,c,d,e⟩:=(H.row i hi).cut b;exact⟨a,c,H.swap hi d e⟩
theorem ej.jZ(H:ej F h cs)(i:Nat)(hi:cs[i]? =some (eJ E ty xs v)):ej (λl=>F l\/Loc v l) h (cs.set i emp)/\Sn F h (λl=>F l\/Loc v l) h/\ie E (λl=>F l\/Loc v l) h xs v:=by
 obtain⟨a,b⟩:=H.zc1 (p:=emp) (F':=λl=>F l\/Loc v l) hi (mw.refl _ _) (by simp_all) (λ_ h=>h.imp id .inl) trivial λ_ h=>h.elim;exact⟨a,b,(H.row i hi).read⟩
theorem ej.make(H:ej F h cs){y:α}{u:V}(n:Nat)(a:E.rel F h y [u])(c:E.sz=1):ej F (h.new (.cells ty 1 true false (List.replicate n u))) (eJ E ty (List.replicate n y) (.slice h.next 0 n)::cs)/\Sn F h F (h.new (.cells ty 1 true false (List.replicate n u))):=by
 have b:=E.one a;rw[eo,yl]at b;have:=H.Xq (E:=E) ty (n:=n) (by simp) (qP.rep a n) (No b.1 n)
 simp_all
theorem kW{e kL n:Nat}{z:V}(c:z.one=true)(a:kL<=100)(b:n<=1000000) :
  iB e 1 kL z (.int .i64 (n:Int)) (.int .i64 (n:Int))=some (O.cells e 1 true false (List.replicate n z),λl=>V.slice l 0 n):=by
 have:n*kL<=1000000*100:=Nat.mul_le_mul b a
 grind[O1,Qa,zav]
theorem iR{l o:Nat}{u:V}(a:ez (.ptr l o) h=some u)(hk:h'.get l=h.get l):ez (.ptr l o) h' = some u:=by
 grind[ez,ld1,kI,zb]
theorem HO{l o n:Nat}{u:V}(a:fX n (.ptr l o) h=some u)(hk:h'.get l=h.get l):fX n (.ptr l o) h' = some u:=by
 grind[fX,IS,kI,zb]
end
open Un
def fT{ι:Type}(ty:Nat)(f:ι->Option (List Nat×V)):Pc where
 mM:=λl=>∃i xs v,f i=some (xs,v)/\Loc v l
 ok F h:=(∀i xs v,f i=some (xs,v)->lM eN ty F h xs v)/\∀i j xs v ys w,f i=some (xs,v)->f j=some (ys,w)->i≠j->∀l,Loc v l->¬Loc w l
 Pl:=λh l ⟨i,xs,v,a,b⟩=>((h.1 i xs v a).xi b).2
 fi:=λh c b d=>⟨λi xs v a=>(h.1 i xs v a).fi c (by grind) d,h.2⟩
 mono:=λh c b=>⟨λi xs v a=>(h.1 i xs v a).mono c (by grind),h.2⟩
def up{ι α:Type}[DecidableEq ι] (f:ι->Option α)(i:ι)(x:Option α):ι->Option α:=λj=>if j=i then x else f j
@[simp] theorem lZ {ι α:Type} [DecidableEq ι] (f:ι->Option α) (i:ι) (x:Option α):up f i x i=x:=if_pos rfl
theorem jL{ι α:Type}[DecidableEq ι] (f:ι->Option α){i j:ι}(x:Option α)(h:j≠i):up f i x j=f j:=if_neg h
section
variable{F:Nat->Prop}{h:Hp}{cs:List Pc}{p q:Pc}
theorem ej.sw(H:ej F h (p::q::cs)):ej F h (q::p::cs) where
 fl:=H.fl
 ok:=λi c hc=>by
  match i,hc with
  |0,hc=>exact H.ok 1 c hc
  |1,hc=>exact H.ok 0 c hc
  |i+2,hc=>exact H.ok (i+2) c hc
 Fg:=λi j c d hc a b=>by
  match i,j,hc,a with
  |0,0,_,_=>omega
  |0,1,hc,a=>exact H.Fg 1 0 c d hc a (by omega)
  |0,j+2,hc,a=>exact H.Fg 1 (j+2) c d hc a (by omega)
  |1,0,hc,a=>exact H.Fg 0 1 c d hc a (by omega)
  |1,1,_,_=>omega
  |1,j+2,hc,a=>exact H.Fg 0 (j+2) c d hc a (by omega)
  |i+2,0,hc,a=>exact H.Fg (i+2) 1 c d hc a (by omega)
  |i+2,1,hc,a=>exact H.Fg (i+2) 0 c d hc a (by omega)
  |i+2,j+2,hc,a=>exact H.Fg (i+2) (j+2) c d hc a b
theorem ej.Kc(H:ej F h (p::q::cs)):ej F h (p::cs):=H.sw.tail
end
section
variable{F F':Nat->Prop}{h h':Hp}{cs:List Pc}{ι:Type}{ty:Nat}{f:ι->Option (List Nat×V)}{xs:List Nat}{v:V}
theorem ej.Zl(H:ej F h cs):ej F h (fT (ι:=ι) ty (λ_=>Option.none)::cs):=
 H.add ⟨λ_ _ _ h=>(nomatch h),λ_ _ _ _ _ _ h=>(nomatch h)⟩ λ_ ⟨_,_,_,h,_⟩=>(nomatch h)
theorem ej.Rv [DecidableEq ι] (H:ej F h (eJ eN ty xs v::fT ty f::cs)){i:ι}(hi:f i=Option.none):ej F h (fT ty (up f i (some (xs,v)))::cs):=by
 have h0:=H.ok 0 _ rfl;have g:=H.ok 1 _ rfl;have m:∀l,Loc v l->¬(fT ty f).mM l:=λl b=>H.Fg 0 1 _ _ rfl rfl (by omega) l b;refine H.tail.tail.cons ⟨λj ys w a=>?_,λj k ys w n x a hk p l b d=>?_⟩ λj c hc l b=>?_
 ·by_cases e:j=i
  ·subst e;rw[lZ]at a;cases a;exact h0
  ·rw[jL _ _ e]at a;exact g.1 j ys w a
 ·by_cases e:j=i
  ·subst e;rw[lZ]at a;cases a;rw[jL _ _ (by grind)]at hk;exact m l b ⟨k,n,x,hk,d⟩
  ·rw[jL _ _ e]at a;by_cases e':k=i
   ·subst e';rw[lZ]at hk;cases hk;exact m l d ⟨j,ys,w,a,b⟩
   ·rw[jL _ _ e']at hk;exact g.2 j k ys w n x a hk p l b d
 ·obtain⟨k,ys,w,hk,o⟩:=b;by_cases e:k=i
  ·subst e;rw[lZ]at hk;cases hk;exact H.Fg 0 (j+2) _ c rfl hc (by omega) l o
  ·rw[jL _ _ e]at hk;exact H.Fg 1 (j+2) _ c rfl hc (by omega) l ⟨k,ys,w,hk,o⟩
theorem ej.rows(H:ej F h cs)(n:Nat)(a:cs[n]? =some (fT ty f)){i:ι}(hi:f i=some (xs,v)):lM eN ty F h xs v:=(H.ok n _ a).1 i xs v hi
theorem ej.Sw{κ:Type}(H:ej F h cs)(n:Nat)(a:cs[n]? =some (fT ty f))(g:κ->Option (List Nat×V))(m:κ->ι)(d:∀i p,g i=some p->f (m i)=some p)(b:∀i j p q,g i=some p->g j=some q->m i=m j->i=j):ej F h (cs.set n (fT ty g)):=by
 have c:=H.ok n _ a;refine H.swap a ⟨λi xs v hi=>c.1 (m i) xs v (by grind),λi j xs v ys w hi o e=>c.2 (m i) (m j) xs v ys w (by grind) (by grind) (by grind)⟩ λl ⟨i,xs,v,hi,k⟩=>⟨m i,xs,v,d i _ hi,k⟩
theorem ej.Y7 [DecidableEq ι] (H:ej F h cs)(n:Nat)(A:cs[n]? =some (fT ty f)){i:ι}(hi:f i=some (xs,v)){k:Nat}(hk:k<xs.length)(y:Nat) :
  ∃l o h',gG 1 v (.int .i64 k)=some (.ptr l o)/\gJ 1 (.ptr l o) (.int .i64 y) h=some (.val .undef h')/\h.next<=h'.next/\ej F h' (cs.set n (fT ty (up f i (some (xs.set k y,v)))))/\Sn F h F h':=by
 have m:=H.ok n _ A;obtain⟨t,h',J,B,C,K,p⟩:=(m.1 i xs v hi).store (k:=0) (y:=y) (u:=V.int .i64 y) hk Nat.one_pos rfl (λw D=>by
  have:w=[.int .i64 (xs[k]:Nat)]:=D;subst this;rfl)
 have hc:mw (fT ty f).mM h h':=p.ZH λl _ c=>⟨i,xs,v,hi,c⟩
 have d:∀{a:ι} {q:List Nat} {b:V},up f i (some (xs.set k y,v)) a=some (q,b)->∃cs,f a=some (cs,b):=by grind[lZ,jL]
 have ok:(fT ty (up f i (some (xs.set k y,v)))).ok F h':=by
  refine⟨λj ys w g=>?_,λj E ys w q x g r s l c z=>?_⟩
  ·by_cases e:j=i
   ·simp_all
   ·rw[jL _ _ e]at g;have:=m.1 j ys w g;exact this.fi (λl c=>p.fi l (H.fl l c) λhv=>((m.1 i xs v hi).xi hv).2.2 c) (λl c=>p.fi l (this.xi c).2.1 λhv=>m.2 j i ys w xs v g hi e l c hv) p.next
  ·obtain⟨_,a1⟩:=d g;obtain⟨_,a2⟩:=d r;exact m.2 j E _ w _ x a1 a2 s l c z
 obtain⟨G,I⟩:=H.DV A hc ok λl ⟨j,ys,w,g,c⟩=> .inl (let⟨q,a1⟩:=d g;⟨j,q,w,a1,c⟩);exact⟨t,k*1,h',B,C,p.next,G,I⟩
end
open Un
structure Rw where
 vv:V
 vb:V
 vs:V
 vk:V
 vc:V
 vp:V
 cc:V
def comp(lu iE jP:Nat)(R:Rw):Nat->Nat->Prop
 |0,l=>l=lu
 |1,l=>l=iE
 |2,l=>l=jP
 |3,l=>Loc R.vv l
 |4,l=>Loc R.vb l
 |5,l=>Loc R.vs l
 |6,l=>Loc R.vk l
 |7,l=>Loc R.vc l
 |_,_=>False
def sig:Nat->Nat×Nat
 |0=>(im,1)
 |1=>(js,1)
 |2=>(fJ,1)
 |3=>(gP,6)
 |4=>(fJ,6)
 |5=>(mb,1)
 |_=>(ev,1)
structure Dw (F G:Nat->Prop) (h:Hp) (lu iE jP:Nat) (t:Dt) (R:Rw):Prop where
 fl:∀l,F l->l<h.next
 gu:h.get lu=some (.cells im 1 true false [.int .i64 1,.int .i64 2,R.vv,R.vb,R.vs])
 gk:h.get iE=some (.cells js 1 true false [R.vk])
 gb:h.get jP=some (.cells fJ 1 true false [R.cc,.int .i64 0,.int .i64 0,.ee,R.vp,.int .i64 0])
 nu:lu<h.next/\¬F lu
 nk:iE<h.next/\¬F iE
 nb:jP<h.next/\¬F jP
 ov:lM eV gP F h t.s.ef R.vv
 ob:lM eK fJ F h t.blocks R.vb
 os:lM eT mb F h t.s.eh R.vs
 ok:lM eN ev F h t.s.known R.vk
 oc:lM eN ev F h t.s.cur R.vc
 sp:ie eN F h t.eQ R.vp
 kc:∀l,Loc R.vk l->¬Loc R.vc l
 gx:∀l,G l->l<h.next/\¬F l/\∀i,¬comp lu iE jP R i l
structure Kp (F G:Nat->Prop) (h h':Hp):Prop where
 next:h.next<=h'.next
 fi:∀l,F l\/G l->h'.get l=h.get l
theorem Kp.refl(F G:Nat->Prop)(h:Hp):Kp F G h h:=⟨ju _,by simp_all⟩
theorem Kp.trans{F F' G:Nat->Prop} {h h' c:Hp}(a:Kp F G h h')(b:Kp F' G h' c)(e:∀l,F l->F' l):Kp F G h c:=
 ⟨Ix a.next b.next,λl d=>by rw[b.fi l (by grind),a.fi l d]⟩
section
variable{F G:Nat->Prop}{h h':Hp}{lu iE jP:Nat}{t:Dt}{R:Rw}
theorem Dw.sig(D:Dw F G h lu iE jP t R){l:Nat}:∀{i:Nat},comp lu iE jP R i l->Zd h l=some (Hx.sig i)/\l<h.next/\¬F l
 |0,hl=>by have e:l=lu:=hl;subst e;exact⟨Nb D.gu,D.nu⟩
 |1,hl=>by have e:l=iE:=hl;subst e;exact⟨Nb D.gk,D.nk⟩
 |2,hl=>by have e:l=jP:=hl;subst e;exact⟨Nb D.gb,D.nb⟩
 |3,hl=>D.ov.xi hl
 |4,hl=>D.ob.xi hl
 |5,hl=>D.os.xi hl
 |6,hl=>D.ok.xi hl
 |7,hl=>D.oc.xi hl
 |_+8,hl=>hl.elim
theorem Dw.Fg(D:Dw F G h lu iE jP t R){l i j:Nat}(hi:comp lu iE jP R i l)(a:comp lu iE jP R j l):Hx.sig i=Hx.sig j:=by
 have b:=(D.sig hi).1
 grind[Option.some.inj,sig,comp,comp,Zd,sig]
theorem Dw.ES(D:Dw F G h lu iE jP t R){l i j:Nat}(hi:comp lu iE jP R i l)(a:comp lu iE jP R j l)(c:i<8)(d:j<8):i=j:=by
 have e:=D.Fg hi a;have b:∀i,i<8->∀j,j<8->Hx.sig i=Hx.sig j->i=j\/(i=6/\j=7)\/(i=7/\j=6):=by decide
 rcases b i c j d e with f|⟨rfl,rfl⟩|⟨rfl,rfl⟩
 ·exact f
 ·exact absurd a (D.kc l hi)
 ·exact absurd hi (D.kc l a)
theorem Dw.kept(D:Dw F G h lu iE jP t R){i j:Nat}(hi:i<8)(d:j<8)(hc:mw (λl=>comp lu iE jP R i l\/comp lu iE jP R j l) h h') :
  (∀l,F l->h'.get l=h.get l)/\(∀l,G l->h'.get l=h.get l)/\∀k l,k<8->k≠i->k≠j->comp lu iE jP R k l->h'.get l=h.get l:=by
 refine⟨λl a=>hc.fi l (D.fl l a) ?_,λl a=>hc.fi l (D.gx l a).1 ?_,λk l hk b e a=>hc.fi l (D.sig a).2.1 ?_⟩
 ·rintro(b|b)
  ·exact(D.sig b).2.2 a
  ·exact(D.sig b).2.2 a
 ·rintro(b|b)
  ·exact(D.gx l a).2.2 _ b
  ·exact(D.gx l a).2.2 _ b
 ·rintro(c|c)
  ·exact b (D.ES a c hk hi)
  ·exact e (D.ES a c hk d)
theorem Dw.other(D:Dw F G h lu iE jP t R){S:Nat->Prop}(b:mw S h h')(d:∀l,S l->¬F l/\¬G l/\∀i,¬comp lu iE jP R i l):Dw F G h' lu iE jP t R/\Kp F G h h':=by
 have c:∀l,F l->h'.get l=h.get l:=λl a=>b.fi l (D.fl l a) (by grind);have e:∀l,G l->h'.get l=h.get l:=λl a=>b.fi l (D.gx l a).1 (by grind);have k:∀i l,comp lu iE jP R i l->h'.get l=h.get l:=λi l a=>b.fi l (D.sig a).2.1 (by grind);have lt:∀l,l<h.next->l<h'.next:=λl a=>ET a b.next
 exact ⟨{
  fl:=λl a=>lt l (D.fl l a)
  gu:=by rw[k 0 _ rfl];exact D.gu
  gk:=by rw[k 1 _ rfl];exact D.gk
  gb:=by rw[k 2 _ rfl];exact D.gb
  nu:=⟨lt _ D.nu.1,D.nu.2⟩
  nk:=⟨lt _ D.nk.1,D.nk.2⟩
  nb:=⟨lt _ D.nb.1,D.nb.2⟩
  ov:=D.ov.fi c (λl a=>k 3 l a) b.next
  ob:=D.ob.fi c (λl a=>k 4 l a) b.next
  os:=D.os.fi c (λl a=>k 5 l a) b.next
  ok:=D.ok.fi c (λl a=>k 6 l a) b.next
  oc:=D.oc.fi c (λl a=>k 7 l a) b.next
  sp:=D.sp.fi c
  kc:=D.kc
  gx:=λl a=>⟨lt l (D.gx l a).1,(D.gx l a).2⟩ },⟨b.next,by grind⟩⟩
theorem Dw.grow(D:Dw F G h lu iE jP t R)(a:IW h h'):Dw F G h' lu iE jP t R:=(D.other a (by simp_all)).1
theorem Dw.more(D:Dw F G h lu iE jP t R) {F':Nat->Prop}(c:∀l,F l->F' l)(d:∀l,F' l->F l\/(l<h.next/\(∀i,¬comp lu iE jP R i l)/\¬G l)):Dw F' G h lu iE jP t R:=by
 have b:∀i l,comp lu iE jP R i l->¬F' l:=λi l a e=>by
  rcases d l e with f|⟨_,f,_⟩
  ·exact(D.sig a).2.2 f
  simp_all
 exact {
  fl:=λl a=>(d l a).elim (D.fl l) λh=>h.1
  gu:=D.gu
  gk:=D.gk
  gb:=D.gb
  nu:=⟨D.nu.1,b 0 _ rfl⟩
  nk:=⟨D.nk.1,b 1 _ rfl⟩
  nb:=⟨D.nb.1,b 2 _ rfl⟩
  ov:=D.ov.mono c λl a=>b 3 l a
  ob:=D.ob.mono c λl a=>b 4 l a
  os:=D.os.mono c λl a=>b 5 l a
  ok:=D.ok.mono c λl a=>b 6 l a
  oc:=D.oc.mono c λl a=>b 7 l a
  sp:=D.sp.mono c
  kc:=D.kc
  gx:=λl a=>⟨(D.gx l a).1,λe=>(d l e).elim (D.gx l a).2.1 (by simp_all),(D.gx l a).2.2⟩ }
def fz(F:Nat->Prop)(n:Nat):Nat->Prop:=λl=>F l\/l=n
theorem qL(F:Nat->Prop)(n:Nat):∀l,F l->fz F n l:=λ_ h=> .inl h
theorem Dw.new(D:Dw F G h lu iE jP t R)(o:O):Dw (fz F h.next) G (h.new o) lu iE jP t R:=
 (D.grow (mw.new h o)).more (qL _ _) λl a=>a.imp id λe=>by
  subst e;refine⟨Pv _,λi hi=>wBp _ (D.sig hi).2.1,λb=>wBp _ (D.gx _ b).1⟩
theorem Kp.new(F G:Nat->Prop)(h:Hp)(o:O)(a:∀l,F l->l<h.next)(b:∀l,G l->l<h.next):Kp F G h (h.new o):=
 ⟨PT _,by grind[fj]⟩
theorem Dw.Ai(D:Dw F G h lu iE jP t R)(o:O):Kp F G h (h.new o):=Kp.new F G h o D.fl λl a=>(D.gx l a).1
theorem pB{l o e sz:Nat} {cs qj:List V}{v:V}(a:h.get l=some (.cells e sz true false cs))(b:o<cs.length)(hv:v.one=true)(hs:cs.set o v=qj):gJ 1 (.ptr l o) v h=some (.val .undef (h.put l (.cells e sz true false qj))):=by
 grind[OU]
private theorem ZV {a:Nat->Prop} {l:Nat} {S:Nat->Prop} {b:Hp} {o:O} (hc:mw a h b) (d:∀l,a l->S l) (c:l<h.next) (hs:S l):mw S h (b.put l o):=
 (hc.ZH (by simp_all)).trans (mw.put o hs (ET c hc.next))
theorem Dw.zgc(D:Dw F G h lu iE jP t R){ys:List Vl}{new:List V}{xv:V}(u:ml h 6 xv=some (ys.length,new))(w:qP eV F h new ys)(a:new.length=ys.length*6) (p:gv new=true)(hk:0<ys.length)(hlen:t.s.ef.length+ys.length<1000000) :
  ∃b c f,eR gP 6 64 R.vv xv h=some (.val b c)/\h.next<=c.next/\gJ 1 (.ptr lu 2) b c=some (.val .undef f)/\c.next<=f.next/\Kp F G h f/\
   Dw F G f lu iE jP {t with s:={t.s with ef:=t.s.ef++ys} } {R with vv:=b}:=by
 obtain ⟨b,c,x,r,n,l1⟩:=D.ov.append (kL:=64) (ys:=ys) u w a p hk (by decide) D.fl (by omega) (by omega);have q:c.get lu=some (.cells im 1 true false [.int .i64 1,.int .i64 2,R.vv,R.vb,R.vs]):=by
  rw[n.fi lu D.nu.1 λa=>nomatch D.ES (i:=0) (j:=3) rfl a (by decide) (by decide)];exact D.gu
 have k:lu<c.next:=ET D.nu.1 n.next;have y:=pB (o:=2) (v:=b) (qj:=[.int .i64 1,.int .i64 2,b,R.vb,R.vs]) q (by simp) r.one rfl;have hc:mw (λl=>comp lu iE jP R 0 l\/comp lu iE jP R 3 l) h (c.put lu (.cells im 1 true false [.int .i64 1,.int .i64 2,b,R.vb,R.vs])):=ZV n (λ_ h=> .inr h) D.nu.1 (.inl rfl);obtain⟨m,A,g⟩:=D.kept (by decide) (by decide) hc;have d:∀l,l<h.next->l<(c.put lu (.cells im 1 true false [.int .i64 1,.int .i64 2,b,R.vb,R.vs])).next:=λl a=>ET a hc.next;have B:∀l,Loc b l->l≠lu:=λl a e=>by
  subst e;rcases l1 _ a with f|f
  ·exact absurd (D.ES (i:=0) (j:=3) rfl f (by decide) (by decide)) (by decide)
  ·exact absurd f (Sp D.nu.1)
 have z:lM eV gP F (c.put lu (.cells im 1 true false [.int .i64 1,.int .i64 2,b,R.vb,R.vs])) (t.s.ef++ys) b:=
  r.fi (λl a=>gK _ k λe=>D.nu.2 (e▸a)) (by grind[gK]) (ju _)
 refine⟨b,c,_,x,n.next,y,ju _,⟨hc.next,by grind⟩,?_⟩
 exact {
  fl:=λl a=>d l (D.fl l a)
  gu:=gq _ k
  gk:=by rw[g 1 iE (by decide) (by decide) (by decide) rfl];exact D.gk
  gb:=by rw[g 2 jP (by decide) (by decide) (by decide) rfl];exact D.gb
  ov:=z
  ob:=D.ob.fi m (λl a=>g 4 l (by decide) (by decide) (by decide) a) hc.next
  os:=D.os.fi m (λl a=>g 5 l (by decide) (by decide) (by decide) a) hc.next
  ok:=D.ok.fi m (λl a=>g 6 l (by decide) (by decide) (by decide) a) hc.next
  oc:=D.oc.fi m (λl a=>g 7 l (by decide) (by decide) (by decide) a) hc.next
  nu:=⟨d _ D.nu.1,D.nu.2⟩
  nk:=⟨d _ D.nk.1,D.nk.2⟩
  nb:=⟨d _ D.nb.1,D.nb.2⟩
  sp:=D.sp.fi m
  kc:=D.kc
  gx:=λl a=>⟨d l (D.gx l a).1,(D.gx l a).2.1,λi hi=>by
   match i,hi with
   |0,hi=>exact(D.gx l a).2.2 0 hi
   |1,hi=>exact(D.gx l a).2.2 1 hi
   |2,hi=>exact(D.gx l a).2.2 2 hi
   |3,hi=>exact(l1 l hi).elim ((D.gx l a).2.2 3) λe=>absurd e (Sp (D.gx l a).1)
   |4,hi=>exact(D.gx l a).2.2 4 hi
   |5,hi=>exact(D.gx l a).2.2 5 hi
   |6,hi=>exact(D.gx l a).2.2 6 hi
   |7,hi=>exact(D.gx l a).2.2 7 hi⟩ }
theorem Dw.zf1(D:Dw F G h lu iE jP t R){ys:List Bk}{new:List V}{xv:V}(s:ml h 6 xv=some (ys.length,new))(u:qP eK F h new ys)(a:new.length=ys.length*6) (p:gv new=true)(hk:0<ys.length)(hlen:t.blocks.length+ys.length<1000000) :
  ∃b c f,eR fJ 6 96 R.vb xv h=some (.val b c)/\h.next<=c.next/\gJ 1 (.ptr lu 3) b c=some (.val .undef f)/\c.next<=f.next/\Kp F G h f/\
   Dw F G f lu iE jP {t with blocks:=t.blocks++ys} {R with vb:=b}:=by
 obtain ⟨b,c,w,r,n,l1⟩:=D.ob.append (kL:=96) (ys:=ys) s u a p hk (by decide) D.fl (by omega) (by omega);have q:c.get lu=some (.cells im 1 true false [.int .i64 1,.int .i64 2,R.vv,R.vb,R.vs]):=by
  rw[n.fi lu D.nu.1 λa=>nomatch D.ES (i:=0) (j:=4) rfl a (by decide) (by decide)];exact D.gu
 have k:lu<c.next:=ET D.nu.1 n.next;have x:=pB (o:=3) (v:=b) (qj:=[.int .i64 1,.int .i64 2,R.vv,b,R.vs]) q (by simp) r.one rfl;have hc:mw (λl=>comp lu iE jP R 0 l\/comp lu iE jP R 4 l) h (c.put lu (.cells im 1 true false [.int .i64 1,.int .i64 2,R.vv,b,R.vs])):=ZV n (λ_ h=> .inr h) D.nu.1 (.inl rfl);obtain⟨m,z,g⟩:=D.kept (by decide) (by decide) hc;have d:∀l,l<h.next->l<(c.put lu (.cells im 1 true false [.int .i64 1,.int .i64 2,R.vv,b,R.vs])).next:=λl a=>ET a hc.next;have A:∀l,Loc b l->l≠lu:=λl a e=>by
  subst e;rcases l1 _ a with f|f
  ·exact absurd (D.ES (i:=0) (j:=4) rfl f (by decide) (by decide)) (by decide)
  ·exact absurd f (Sp D.nu.1)
 have y:lM eK fJ F (c.put lu (.cells im 1 true false [.int .i64 1,.int .i64 2,R.vv,b,R.vs])) (t.blocks++ys) b:=
  r.fi (λl a=>gK _ k λe=>D.nu.2 (e▸a)) (by grind[gK]) (ju _)
 refine⟨b,c,_,w,n.next,x,ju _,⟨hc.next,by grind⟩,?_⟩
 exact {
  fl:=λl a=>d l (D.fl l a)
  gu:=gq _ k
  gk:=by rw[g 1 iE (by decide) (by decide) (by decide) rfl];exact D.gk
  gb:=by rw[g 2 jP (by decide) (by decide) (by decide) rfl];exact D.gb
  ov:=D.ov.fi m (λl a=>g 3 l (by decide) (by decide) (by decide) a) hc.next
  ob:=y
  os:=D.os.fi m (λl a=>g 5 l (by decide) (by decide) (by decide) a) hc.next
  ok:=D.ok.fi m (λl a=>g 6 l (by decide) (by decide) (by decide) a) hc.next
  oc:=D.oc.fi m (λl a=>g 7 l (by decide) (by decide) (by decide) a) hc.next
  nu:=⟨d _ D.nu.1,D.nu.2⟩
  nk:=⟨d _ D.nk.1,D.nk.2⟩
  nb:=⟨d _ D.nb.1,D.nb.2⟩
  sp:=D.sp.fi m
  kc:=D.kc
  gx:=λl a=>⟨d l (D.gx l a).1,(D.gx l a).2.1,λi hi=>by
   match i,hi with
   |0,hi=>exact(D.gx l a).2.2 0 hi
   |1,hi=>exact(D.gx l a).2.2 1 hi
   |2,hi=>exact(D.gx l a).2.2 2 hi
   |3,hi=>exact(D.gx l a).2.2 3 hi
   |4,hi=>exact(l1 l hi).elim ((D.gx l a).2.2 4) λe=>absurd e (Sp (D.gx l a).1)
   |5,hi=>exact(D.gx l a).2.2 5 hi
   |6,hi=>exact(D.gx l a).2.2 6 hi
   |7,hi=>exact(D.gx l a).2.2 7 hi⟩ }
theorem Dw.zfZ(D:Dw F G h lu iE jP t R){ys:List (List Fm)}{new:List V}{xv:V}(u:ml h 1 xv=some (ys.length,new))(w:qP eT F h new ys)(a:new.length=ys.length*1) (p:gv new=true)(hk:0<ys.length)(hlen:t.s.eh.length+ys.length<1000000) :
  ∃b c f,eR mb 1 24 R.vs xv h=some (.val b c)/\h.next<=c.next/\gJ 1 (.ptr lu 4) b c=some (.val .undef f)/\c.next<=f.next/\Kp F G h f/\
   Dw F G f lu iE jP {t with s:={t.s with eh:=t.s.eh++ys} } {R with vs:=b}:=by
 obtain ⟨b,c,x,r,n,l1⟩:=D.os.append (kL:=24) (ys:=ys) u w a p hk (by decide) D.fl (by omega) (by omega);have q:c.get lu=some (.cells im 1 true false [.int .i64 1,.int .i64 2,R.vv,R.vb,R.vs]):=by
  rw[n.fi lu D.nu.1 λa=>nomatch D.ES (i:=0) (j:=5) rfl a (by decide) (by decide)];exact D.gu
 have k:lu<c.next:=ET D.nu.1 n.next;have y:=pB (o:=4) (v:=b) (qj:=[.int .i64 1,.int .i64 2,R.vv,R.vb,b]) q (by simp) r.one rfl;have hc:mw (λl=>comp lu iE jP R 0 l\/comp lu iE jP R 5 l) h (c.put lu (.cells im 1 true false [.int .i64 1,.int .i64 2,R.vv,R.vb,b])):=ZV n (λ_ h=> .inr h) D.nu.1 (.inl rfl);obtain⟨m,A,g⟩:=D.kept (by decide) (by decide) hc;have d:∀l,l<h.next->l<(c.put lu (.cells im 1 true false [.int .i64 1,.int .i64 2,R.vv,R.vb,b])).next:=λl a=>ET a hc.next;have B:∀l,Loc b l->l≠lu:=λl a e=>by
  subst e;rcases l1 _ a with f|f
  ·exact absurd (D.ES (i:=0) (j:=5) rfl f (by decide) (by decide)) (by decide)
  ·exact absurd f (Sp D.nu.1)
 have z:lM eT mb F (c.put lu (.cells im 1 true false [.int .i64 1,.int .i64 2,R.vv,R.vb,b])) (t.s.eh++ys) b:=
  r.fi (λl a=>gK _ k λe=>D.nu.2 (e▸a)) (by grind[gK]) (ju _)
 refine⟨b,c,_,x,n.next,y,ju _,⟨hc.next,by grind⟩,?_⟩
 exact {
  fl:=λl a=>d l (D.fl l a)
  gu:=gq _ k
  gk:=by rw[g 1 iE (by decide) (by decide) (by decide) rfl];exact D.gk
  gb:=by rw[g 2 jP (by decide) (by decide) (by decide) rfl];exact D.gb
  ov:=D.ov.fi m (λl a=>g 3 l (by decide) (by decide) (by decide) a) hc.next
  ob:=D.ob.fi m (λl a=>g 4 l (by decide) (by decide) (by decide) a) hc.next
  os:=z
  ok:=D.ok.fi m (λl a=>g 6 l (by decide) (by decide) (by decide) a) hc.next
  oc:=D.oc.fi m (λl a=>g 7 l (by decide) (by decide) (by decide) a) hc.next
  nu:=⟨d _ D.nu.1,D.nu.2⟩
  nk:=⟨d _ D.nk.1,D.nk.2⟩
  nb:=⟨d _ D.nb.1,D.nb.2⟩
  sp:=D.sp.fi m
  kc:=D.kc
  gx:=λl a=>⟨d l (D.gx l a).1,(D.gx l a).2.1,λi hi=>by
   match i,hi with
   |0,hi=>exact(D.gx l a).2.2 0 hi
   |1,hi=>exact(D.gx l a).2.2 1 hi
   |2,hi=>exact(D.gx l a).2.2 2 hi
   |3,hi=>exact(D.gx l a).2.2 3 hi
   |4,hi=>exact(D.gx l a).2.2 4 hi
   |5,hi=>exact(l1 l hi).elim ((D.gx l a).2.2 5) λe=>absurd e (Sp (D.gx l a).1)
   |6,hi=>exact(D.gx l a).2.2 6 hi
   |7,hi=>exact(D.gx l a).2.2 7 hi⟩ }
theorem Dw.zc0(D:Dw F G h lu iE jP t R){ys:List Nat}{new:List V}{xv:V}(u:ml h 1 xv=some (ys.length,new))(w:qP eN F h new ys)(a:new.length=ys.length*1) (p:gv new=true)(hk:0<ys.length)(hlen:t.s.known.length+ys.length<1000000) :
  ∃b c f,eR ev 1 8 R.vk xv h=some (.val b c)/\h.next<=c.next/\gJ 1 (.ptr iE 0) b c=some (.val .undef f)/\c.next<=f.next/\Kp F G h f/\
   Dw F G f lu iE jP {t with s:={t.s with known:=t.s.known++ys} } {R with vk:=b}:=by
 obtain ⟨b,c,x,r,n,l1⟩:=D.ok.append (kL:=8) (ys:=ys) u w a p hk (by decide) D.fl (by omega) (by omega);have q:c.get iE=some (.cells js 1 true false [R.vk]):=by
  rw[n.fi iE D.nk.1 λa=>nomatch D.ES (i:=1) (j:=6) rfl a (by decide) (by decide)];exact D.gk
 have k:iE<c.next:=ET D.nk.1 n.next;have y:=pB (o:=0) (v:=b) (qj:=[b]) q (by simp) r.one rfl;have hc:mw (λl=>comp lu iE jP R 1 l\/comp lu iE jP R 6 l) h (c.put iE (.cells js 1 true false [b])):=ZV n (λ_ h=> .inr h) D.nk.1 (.inl rfl);obtain⟨m,A,g⟩:=D.kept (by decide) (by decide) hc;have d:∀l,l<h.next->l<(c.put iE (.cells js 1 true false [b])).next:=λl a=>ET a hc.next;have B:∀l,Loc b l->l≠iE:=λl a e=>by
  subst e;rcases l1 _ a with f|f
  ·exact absurd (D.ES (i:=1) (j:=6) rfl f (by decide) (by decide)) (by decide)
  ·exact absurd f (Sp D.nk.1)
 have z:lM eN ev F (c.put iE (.cells js 1 true false [b])) (t.s.known++ys) b:=
  r.fi (λl a=>gK _ k λe=>D.nk.2 (e▸a)) (by grind[gK]) (ju _)
 refine⟨b,c,_,x,n.next,y,ju _,⟨hc.next,by grind⟩,?_⟩
 exact {
  fl:=λl a=>d l (D.fl l a)
  gu:=by rw[g 0 lu (by decide) (by decide) (by decide) rfl];exact D.gu
  gk:=gq _ k
  gb:=by rw[g 2 jP (by decide) (by decide) (by decide) rfl];exact D.gb
  ov:=D.ov.fi m (λl a=>g 3 l (by decide) (by decide) (by decide) a) hc.next
  ob:=D.ob.fi m (λl a=>g 4 l (by decide) (by decide) (by decide) a) hc.next
  os:=D.os.fi m (λl a=>g 5 l (by decide) (by decide) (by decide) a) hc.next
  ok:=z
  oc:=D.oc.fi m (λl a=>g 7 l (by decide) (by decide) (by decide) a) hc.next
  nu:=⟨d _ D.nu.1,D.nu.2⟩
  nk:=⟨d _ D.nk.1,D.nk.2⟩
  nb:=⟨d _ D.nb.1,D.nb.2⟩
  sp:=D.sp.fi m
  kc:=λl a hc=>(l1 l a).elim (λf=>D.kc l f hc) λe=>absurd e (Sp (D.oc.xi hc).2.1)
  gx:=λl a=>⟨d l (D.gx l a).1,(D.gx l a).2.1,λi hi=>by
   match i,hi with
   |0,hi=>exact(D.gx l a).2.2 0 hi
   |1,hi=>exact(D.gx l a).2.2 1 hi
   |2,hi=>exact(D.gx l a).2.2 2 hi
   |3,hi=>exact(D.gx l a).2.2 3 hi
   |4,hi=>exact(D.gx l a).2.2 4 hi
   |5,hi=>exact(D.gx l a).2.2 5 hi
   |6,hi=>exact(l1 l hi).elim ((D.gx l a).2.2 6) λe=>absurd e (Sp (D.gx l a).1)
   |7,hi=>exact(D.gx l a).2.2 7 hi⟩ }
theorem Dw.zge(D:Dw F G h lu iE jP t R){ys:List Nat}{new:List V}{xv:V}(u:ml h 1 xv=some (ys.length,new))(w:qP eN F h new ys)(a:new.length=ys.length*1) (p:gv new=true)(hk:0<ys.length)(hlen:t.s.cur.length+ys.length<1000000) :
  ∃b c f,eR ev 1 8 R.vc xv h=some (.val b c)/\h.next<=c.next/\gJ 1 (.ptr jP 0) b c=some (.val .undef f)/\c.next<=f.next/\Kp F G h f/\
   Dw F G f lu iE jP {t with s:={t.s with cur:=t.s.cur++ys} } {R with vc:=b,cc:=b}:=by
 obtain ⟨b,c,x,r,n,l1⟩:=D.oc.append (kL:=8) (ys:=ys) u w a p hk (by decide) D.fl (by omega) (by omega);have q:c.get jP=some (.cells fJ 1 true false [R.cc,.int .i64 0,.int .i64 0,.ee,R.vp,.int .i64 0]):=by
  rw[n.fi jP D.nb.1 λa=>nomatch D.ES (i:=2) (j:=7) rfl a (by decide) (by decide)];exact D.gb
 have k:jP<c.next:=ET D.nb.1 n.next;have y:=pB (o:=0) (v:=b) (qj:=[b,.int .i64 0,.int .i64 0,.ee,R.vp,.int .i64 0]) q (by simp) r.one rfl;have hc:mw (λl=>comp lu iE jP R 2 l\/comp lu iE jP R 7 l) h (c.put jP (.cells fJ 1 true false [b,.int .i64 0,.int .i64 0,.ee,R.vp,.int .i64 0])):=ZV n (λ_ h=> .inr h) D.nb.1 (.inl rfl);obtain⟨m,A,g⟩:=D.kept (by decide) (by decide) hc;have d:∀l,l<h.next->l<(c.put jP (.cells fJ 1 true false [b,.int .i64 0,.int .i64 0,.ee,R.vp,.int .i64 0])).next:=λl a=>ET a hc.next;have B:∀l,Loc b l->l≠jP:=λl a e=>by
  subst e;rcases l1 _ a with f|f
  ·exact absurd (D.ES (i:=2) (j:=7) rfl f (by decide) (by decide)) (by decide)
  ·exact absurd f (Sp D.nb.1)
 have z:lM eN ev F (c.put jP (.cells fJ 1 true false [b,.int .i64 0,.int .i64 0,.ee,R.vp,.int .i64 0])) (t.s.cur++ys) b:=
  r.fi (λl a=>gK _ k λe=>D.nb.2 (e▸a)) (by grind[gK]) (ju _)
 refine⟨b,c,_,x,n.next,y,ju _,⟨hc.next,by grind⟩,?_⟩
 exact {
  fl:=λl a=>d l (D.fl l a)
  gu:=by rw[g 0 lu (by decide) (by decide) (by decide) rfl];exact D.gu
  gk:=by rw[g 1 iE (by decide) (by decide) (by decide) rfl];exact D.gk
  gb:=gq _ k
  ov:=D.ov.fi m (λl a=>g 3 l (by decide) (by decide) (by decide) a) hc.next
  ob:=D.ob.fi m (λl a=>g 4 l (by decide) (by decide) (by decide) a) hc.next
  os:=D.os.fi m (λl a=>g 5 l (by decide) (by decide) (by decide) a) hc.next
  ok:=D.ok.fi m (λl a=>g 6 l (by decide) (by decide) (by decide) a) hc.next
  oc:=z
  nu:=⟨d _ D.nu.1,D.nu.2⟩
  nk:=⟨d _ D.nk.1,D.nk.2⟩
  nb:=⟨d _ D.nb.1,D.nb.2⟩
  sp:=D.sp.fi m
  kc:=λl a hc=>(l1 l hc).elim (λf=>D.kc l a f) λe=>absurd e (Sp (D.ok.xi a).2.1)
  gx:=λl a=>⟨d l (D.gx l a).1,(D.gx l a).2.1,λi hi=>by
   match i,hi with
   |0,hi=>exact(D.gx l a).2.2 0 hi
   |1,hi=>exact(D.gx l a).2.2 1 hi
   |2,hi=>exact(D.gx l a).2.2 2 hi
   |3,hi=>exact(D.gx l a).2.2 3 hi
   |4,hi=>exact(D.gx l a).2.2 4 hi
   |5,hi=>exact(D.gx l a).2.2 5 hi
   |6,hi=>exact(D.gx l a).2.2 6 hi
   |7,hi=>exact(l1 l hi).elim ((D.gx l a).2.2 7) λe=>absurd e (Sp (D.gx l a).1)⟩ }
theorem Dw.cell(D:Dw F G h lu iE jP t R){i:Nat}(hi:i<8)(hc:mw (λl=>comp lu iE jP R i l) h h') :
  (∀l,F l->h'.get l=h.get l)/\(∀l,G l->h'.get l=h.get l)/\∀k l,k<8->k≠i->comp lu iE jP R k l->h'.get l=h.get l:=by
 obtain⟨a,b,c⟩:=D.kept hi hi (hc.ZH (S':=λl=>comp lu iE jP R i l\/comp lu iE jP R i l) λ_ _ h=> .inl h)
 grind
theorem Dw.zga(D:Dw F G h lu iE jP t R){n:Nat}(g:n<=t.s.known.length) :
  ∃b e,jz 1 R.vk none (some (.int .i64 n)) h=some b/\gJ 1 (.ptr iE 0) b h=some (.val .undef e)/\h.next<=e.next/\Kp F G h e/\Dw F G e lu iE jP {t with s:=Un.cut n t.s} {R with vk:=b}:=by
 obtain⟨b,j,f,l1⟩:=D.ok.cut g;have k:=pB (o:=0) (v:=b) (qj:=[b]) D.gk (by simp) f.one rfl;have hc:mw (λl=>comp lu iE jP R 1 l) h (h.put iE (.cells js 1 true false [b])):=mw.put _ rfl D.nk.1;obtain⟨d,m,c⟩:=D.cell (by decide) hc;refine⟨b,_,j,k,ju _,⟨hc.next,by grind⟩,?_⟩
 exact {
  fl:=D.fl
  gu:=by rw[c 0 lu (by decide) (by decide) rfl];exact D.gu
  gk:=gq _ D.nk.1
  gb:=by rw[c 2 jP (by decide) (by decide) rfl];exact D.gb
  nu:=D.nu
  nk:=D.nk
  nb:=D.nb
  ov:=D.ov.fi d (λl a=>c 3 l (by decide) (by decide) a) hc.next
  ob:=D.ob.fi d (λl a=>c 4 l (by decide) (by decide) a) hc.next
  os:=D.os.fi d (λl a=>c 5 l (by decide) (by decide) a) hc.next
  ok:=f.fi d (λl a=>c 6 l (by decide) (by decide) (l1 l a)) hc.next
  oc:=D.oc.fi d (λl a=>c 7 l (by decide) (by decide) a) hc.next
  sp:=D.sp.fi d
  kc:=λl a=>D.kc l (l1 l a)
  gx:=λl a=>⟨(D.gx l a).1,(D.gx l a).2.1,λi hi=>by
   match i,hi with
   |0,hi=>exact(D.gx l a).2.2 0 hi
   |1,hi=>exact(D.gx l a).2.2 1 hi
   |2,hi=>exact(D.gx l a).2.2 2 hi
   |3,hi=>exact(D.gx l a).2.2 3 hi
   |4,hi=>exact(D.gx l a).2.2 4 hi
   |5,hi=>exact(D.gx l a).2.2 5 hi
   |6,hi=>exact(D.gx l a).2.2 6 (l1 l hi)
   |7,hi=>exact(D.gx l a).2.2 7 hi⟩ }
theorem Dw.zcy(D:Dw F G h lu iE jP t R){c p:V}{ps:List Nat}(hp:ie eN F h ps p):Kp F G h (h.put jP (.cells fJ 1 true false [c,.int .i64 0,.int .i64 0,.ee,p,.int .i64 0]))/\
  Dw F G (h.put jP (.cells fJ 1 true false [c,.int .i64 0,.int .i64 0,.ee,p,.int .i64 0])) lu iE jP {t with eQ:=ps} {R with vp:=p,cc:=c}:=by
 have hc:mw (λl=>comp lu iE jP R 2 l) h (h.put jP (.cells fJ 1 true false [c,.int .i64 0,.int .i64 0,.ee,p,.int .i64 0])):=mw.put _ rfl D.nb.1;obtain⟨d,e,b⟩:=D.cell (by decide) hc;refine⟨⟨hc.next,by grind⟩,?_⟩
 exact {
  fl:=D.fl
  gu:=by rw[b 0 lu (by decide) (by decide) rfl];exact D.gu
  gk:=by rw[b 1 iE (by decide) (by decide) rfl];exact D.gk
  gb:=gq _ D.nb.1
  nu:=D.nu
  nk:=D.nk
  nb:=D.nb
  ov:=D.ov.fi d (λl a=>b 3 l (by decide) (by decide) a) hc.next
  ob:=D.ob.fi d (λl a=>b 4 l (by decide) (by decide) a) hc.next
  os:=D.os.fi d (λl a=>b 5 l (by decide) (by decide) a) hc.next
  ok:=D.ok.fi d (λl a=>b 6 l (by decide) (by decide) a) hc.next
  oc:=D.oc.fi d (λl a=>b 7 l (by decide) (by decide) a) hc.next
  sp:=hp.fi d
  kc:=D.kc
  gx:=D.gx}
def fzc(F:Nat->Prop)(v:V):Nat->Prop:=λl=>F l\/Loc v l
theorem Dw.flush(D:Dw F G h lu iE jP t R):ie eN (fzc F R.vc) h t.s.cur R.vc/\Dw (fzc F R.vc) G h lu iE jP {t with s:={t.s with cur:=[]} } {R with vc:= .ee}:=by
 refine⟨D.oc.slR (λ_ h=> .inl h) λ_ h=> .inr h,?_⟩
 have D':Dw F G h lu iE jP {t with s:={t.s with cur:=[]} } {R with vc:= .ee}:=
  { D with
    oc:= .nil
    kc:=by simp_all
    gx:=λl a=>⟨(D.gx l a).1,(D.gx l a).2.1,λi hi=>by
      match i,hi with
      |0,hi=>exact(D.gx l a).2.2 0 hi
      |1,hi=>exact(D.gx l a).2.2 1 hi
      |2,hi=>exact(D.gx l a).2.2 2 hi
      |3,hi=>exact(D.gx l a).2.2 3 hi
      |4,hi=>exact(D.gx l a).2.2 4 hi
      |5,hi=>exact(D.gx l a).2.2 5 hi
      |6,hi=>exact(D.gx l a).2.2 6 hi
      |n+7,hi=>exact(match n,hi with|0,hi=>hi)⟩ }
 refine D'.more (λ_ h=> .inl h) λl a=>a.imp id λhc=>⟨(D.oc.xi hc).2.1,λi hi=>?_,λb=>(D.gx l b).2.2 7 hc⟩
 match i,hi with
 |0,hi=>exact nomatch D.ES (i:=0) (j:=7) hi hc (by decide) (by decide)
 |1,hi=>exact nomatch D.ES (i:=1) (j:=7) hi hc (by decide) (by decide)
 |2,hi=>exact nomatch D.ES (i:=2) (j:=7) hi hc (by decide) (by decide)
 |3,hi=>exact nomatch D.ES (i:=3) (j:=7) hi hc (by decide) (by decide)
 |4,hi=>exact nomatch D.ES (i:=4) (j:=7) hi hc (by decide) (by decide)
 |5,hi=>exact nomatch D.ES (i:=5) (j:=7) hi hc (by decide) (by decide)
 |6,hi=>exact nomatch D.ES (i:=6) (j:=7) hi hc (by decide) (by decide)
 |n+7,hi=>exact(match n,hi with|0,hi=>hi)
theorem Dw.zdL(D:Dw F G h lu iE jP t R){p:Nat}{xs:List Nat}{a:V}(hp:p<t.s.ef.length)(j:ie eN F h xs a) :
  ∃l d,gG 6 R.vv (.int .i64 p)=some (.ptr l (p*6))/\gJ 1 (.ptr l (p*6+4)) a h=some (.val .undef d)/\h.next<=d.next/\Kp F G h d/\Dw F G d lu iE jP {t with s:=setArgs t.s p xs} R:=by
 obtain ⟨l,d,_,m,n,q,hc⟩:=D.ov.store (i:=p) (k:=4) (y:={t.s.ef[p]with args:=xs}) hp (by decide) j.one (λw ⟨x,o,_⟩=>by subst o;exact⟨a,rfl,j⟩);obtain⟨g,r,f⟩:=D.cell (i:=3) (by decide) hc;refine⟨l,d,m,n,hc.next,⟨hc.next,by grind⟩,?_⟩;have c:∀l,l<h.next->l<d.next:=λl b=>ET b hc.next;have em:(setArgs t.s p xs).ef=t.s.ef.set p {t.s.ef[p]with args:=xs}:=by
  unfold setArgs;show t.s.ef.modify p _=_;refine wBR λi=>?_;rw[List.getElem?_modify,List.getElem?_set];by_cases e:p=i
  ·grind
  ·simp[e]
 exact {
  fl:=λl b=>c l (D.fl l b)
  gu:=by rw[f 0 lu (by decide) (by decide) rfl];exact D.gu
  gk:=by rw[f 1 iE (by decide) (by decide) rfl];exact D.gk
  gb:=by rw[f 2 jP (by decide) (by decide) rfl];exact D.gb
  nu:=⟨c _ D.nu.1,D.nu.2⟩
  nk:=⟨c _ D.nk.1,D.nk.2⟩
  nb:=⟨c _ D.nb.1,D.nb.2⟩
  ov:=by simp_all
  ob:=D.ob.fi g (λl b=>f 4 l (by decide) (by decide) b) hc.next
  os:=D.os.fi g (λl b=>f 5 l (by decide) (by decide) b) hc.next
  ok:=D.ok.fi g (λl b=>f 6 l (by decide) (by decide) b) hc.next
  oc:=D.oc.fi g (λl b=>f 7 l (by decide) (by decide) b) hc.next
  sp:=D.sp.fi g
  kc:=D.kc
  gx:=λl b=>⟨c l (D.gx l b).1,(D.gx l b).2⟩ }
end
