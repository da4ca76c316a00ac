/- Parts. -/
import Derived.Test.YtflkbfabonggkaaGreatDoorM09
import Derived.Test.YtflkbfabonggkaaGreatDoorM13
set_option maxHeartbeats 4000000
namespace Go.Proofs.YtflkbfabonggkaaGreatDoor.Hx
open Un
def eN:p8 Nat where
 sz:=1
 rel _ _ n cs:=cs=[.int .i64 n]
 len h:=by subst h;rfl
 one h:=by subst h;rfl
 fh _ h:=h
 mono _ h:=h
def my(x:Vl)(w:V):List V:=[.int .i64 x.op,.int .i64 x.a,.int .i64 x.b,.int .i64 x.n,w,.int .i64 x.state]
def eV:p8 Vl where
 sz:=6
 rel F h x cs:=∃w,cs=my x w/\iy eN F h x.args w
 len:=λ⟨_,h,_⟩=>by subst h;rfl
 one:=λ⟨_,h,hs⟩=>by subst h;simp only[my,ey,hs.one];rfl
 fh:=λhk ⟨w,h,hs⟩=>⟨w,h,hs.fh hk⟩
 mono:=λa ⟨w,h,hs⟩=>⟨w,h,hs.mono a⟩
def kI(x:Bk)(v n p:V):List V:=[v,.int .i64 x.fin,.int .i64 x.cond,n,p,.int .i64 x.state]
def eK:p8 Bk where
 sz:=6
 rel F h x cs:=∃v n p,cs=kI x v n p/\iy eN F h x.ef v/\iy eN F h x.next n/\iy eN F h x.eQ p
 len:=λ⟨_,_,_,h,_⟩=>by subst h;rfl
 one:=λ⟨_,_,_,h,a,b,c⟩=>by subst h;simp only[kI,ey,a.one,b.one,c.one];rfl
 fh:=λhk ⟨v,n,p,h,a,b,c⟩=>⟨v,n,p,h,a.fh hk,b.fh hk,c.fh hk⟩
 mono:=λd ⟨v,n,p,h,a,b,c⟩=>⟨v,n,p,h,a.mono d,b.mono d,c.mono d⟩
def Ou(x:Fm)(l s:V):List V:=[.int .i64 x.func,.int .i64 x.pc,l,s]
def eF:p8 Fm where
 sz:=4
 rel F h x cs:=∃l s,cs=Ou x l s/\iy eN F h x.locals l/\iy eN F h x.stack s
 len:=λ⟨_,_,h,_⟩=>by subst h;rfl
 one:=λ⟨_,_,h,a,b⟩=>by subst h;simp only[Ou,ey,a.one,b.one];rfl
 fh:=λhk ⟨l,s,h,a,b⟩=>⟨l,s,h,a.fh hk,b.fh hk⟩
 mono:=λc ⟨l,s,h,a,b⟩=>⟨l,s,h,a.mono c,b.mono c⟩
def eT:p8 (List Fm):=eL eF
theorem wF(F:Nat->Prop)(h:Hp):∀(l:List Nat),qb eN F h (l.map λn=>V.int .i64 (n:Nat)) l
 |[]=>trivial
 |n::l=>⟨[.int .i64 n],_,rfl,rfl,wF F h l⟩
def Loc(v:V)(t:Nat):Prop:=match v with
 | .slice l _ _=>l=t
 |_=>False
@[simp] theorem ze4 (t:Nat):Loc .ee t=False:=rfl
@[simp] theorem zdi (l o n t:Nat):Loc (.slice l o n) t=(l=t):=rfl
def kQ{α:Type}(E:p8 α)(ty:Nat)(F:Nat->Prop)(h:Hp)(xs:List α)(v:V):Prop:=(v = .ee/\xs=[])\/∃t cs,v = .slice t 0 xs.length/\t<h.next/\¬F t/\h.get t=some (.cells ty E.sz true false cs)/\qb E F h cs xs/\gj cs=true
section
variable{α:Type}{E:p8 α}{ty:Nat}{F F':Nat->Prop}{h h':Hp}{xs:List α}{v:V}
theorem kQ.nil:kQ E ty F h [] .ee:= .inl ⟨rfl,rfl⟩
theorem kQ.len(a:kQ E ty F h xs v):fE v=some (.int .i64 xs.length):=by
 rcases a with⟨rfl,rfl⟩|⟨t,cs,rfl,_⟩ <;> rfl
theorem kQ.one(a:kQ E ty F h xs v):v.one=true:=by
 rcases a with⟨rfl,rfl⟩|⟨t,cs,rfl,_⟩ <;> rfl
noncomputable def Ys(h:Hp) (l:Nat):Option (Nat×Nat):=match h.get l with
 |some (.cells e sz _ _ _)=>some (e,sz)
 |_=>none
theorem Mk{l e sz:Nat}{a b:Bool}{cs:List V}(c:h.get l=some (.cells e sz a b cs)):Ys h l=some (e,sz):=by unfold Ys;rw[c]
theorem kQ.we(b:kQ E ty F h xs v){t:Nat}(a:Loc v t):Ys h t=some (ty,E.sz)/\t<h.next/\¬F t:=by
 rcases b with⟨rfl,_⟩|⟨t',cs,rfl,c,d,e,_⟩
 ·exact a.elim
 ·obtain rfl:t' = t:=a;exact⟨Mk e,c,d⟩
theorem kQ.fh(a:kQ E ty F h xs v)(hk:∀l,F l->h'.get l=h.get l)(b:∀l,Loc v l->h'.get l=h.get l)(c:h.next<=h'.next):kQ E ty F h' xs v:=by
 rcases a with a|⟨t,cs,rfl,d,e,f,g,i⟩
 ·exact .inl a
 ·exact .inr ⟨t,cs,rfl,EL d c,e,by rw[b t rfl];exact f,g.fh hk,i⟩
theorem kQ.mono(a:kQ E ty F h xs v)(b:∀l,F l->F' l)(c:∀t,Loc v t->¬F' t):kQ E ty F' h xs v:=by
 rcases a with a|⟨t,cs,rfl,d,i,e,f,g⟩
 ·exact .inl a
 ·exact .inr ⟨t,cs,rfl,d,c t rfl,e,f.mono b,g⟩
theorem kQ.slR(a:kQ E ty F h xs v)(b:∀l,F l->F' l)(c:∀t,Loc v t->F' t):iy E F' h xs v:=by
 rcases a with a|⟨t,cs,rfl,f,g,d,e,i⟩
 ·exact .inl a
 ·exact .inr ⟨t,0,ty,true,false,cs,rfl,c t rfl,d,.inr rfl,NJ _,by simpa using e.mono b⟩
theorem kQ.read(a:kQ E ty F h xs v):iy E (λl=>F l\/Loc v l) h xs v:=a.slR (λ_ h=> .inl h) λ_ h=> .inr h
theorem kQ.append{jW:Nat}{x:V}{new:List V}{ys:List α}(C:kQ E ty F h xs v)(c:lK h E.sz x=some (ys.length,new))(q:qb E F h new ys)(D:new.length=ys.length*E.sz)(i:gj new=true)(hk:0<ys.length)(I:0<E.sz)
  (o:∀l,F l->l<h.next) (z:(xs.length+ys.length)*jW<=70368744177664) (m:xs.length+ys.length<=70368744177664) :
  ∃r h',eR ty E.sz jW v x h=some (.val r h')/\kQ E ty F h' (xs++ys) r/\lN (Loc v) h h'/\(∀t,Loc r t->Loc v t\/t=h.next):=by
 have f:Nat.beq ys.length 0=false:=by
  cases hq:ys.length with
  |zero=>omega
  |succ k=>rfl
 rcases C with⟨rfl,rfl⟩|⟨t,cs,rfl,j,s,A,u,g⟩
 ·refine⟨.slice h.next 0 ys.length,h.new (.cells ty E.sz true false new),?_,.inr ⟨h.next,new,by simp,Oy _,λb=>wBq _ (o _ b),fg _ _,?_,i⟩,lN.new _ _,λt G=> .inr G.symm⟩
  ·unfold eR;simp only[c,fe,f,i,tT];rw[mE _ (UD (by simpa using z)),mE _ (UD (by simpa using m))]
  ·exact q.fh λl b=>fj _ (o l b)
 ·have H:=u.length;have B:(xs.length+ys.length)*E.sz=xs.length*E.sz+ys.length*E.sz:=Xt _ _ _
  cases hroom:Nat.ble (Nat.add 0 (Nat.mul (Nat.add xs.length ys.length) E.sz)) cs.length with
  | true=>
    have J:(xs.length+ys.length)*E.sz<=cs.length:=by
      have:=Kj hroom;show _<=_;rw[show Nat.add 0 (Nat.mul (Nat.add xs.length ys.length) E.sz)=(xs.length+ys.length)*E.sz from zj _]at this;exact this
    refine ⟨.slice t 0 (xs.length+ys.length),h.put t (.cells ty E.sz true false (cs.take (xs.length*E.sz)++new++cs.drop (xs.length*E.sz+new.length))),?_,
      .inr ⟨t,_,by simp,j,s,gg _ j,?_,?_⟩,lN.put _ rfl j,λ_ h=> .inl h⟩
    ·unfold eR j5
     have w:pJ (Nat.add 0 (Nat.mul xs.length E.sz)) cs new=some (cs.take (xs.length*E.sz)++new++cs.drop (xs.length*E.sz+new.length)):=by
       rw[show Nat.add 0 (Nat.mul xs.length E.sz)=xs.length*E.sz from zj _];exact Af (by rw[D];omega)
     simp only[c,fe,f,i,tT,A,wBg,hroom,w];rw[mE _ (WG _)];rfl
    ·refine qb.fh (h:=h) (λl b=>gB _ j λe=>s (e▸b)) ?_
     rw[LY];exact u.take.append (by rw[Mo];omega) q.more
    ·rw[oh,oh,i]
     have p:∀(l:List V),gj l=l.all V.one:=λl=>by
       induction l with
       |nil=>rfl
       |cons a l y=>rw[ey,y];rfl
     rw[p]at g⊢;rw[p];rw[Q1]at g;simp only[Bool.and_true,xg,Q1]
     exact⟨λx c=>g x (wBb c),λx c=>g x (List.mem_of_mem_drop c)⟩
  | false=>
    have p:∀(l:List V),gj l=l.all V.one:=λl=>by
      induction l with
      |nil=>rfl
      |cons a l y=>rw[ey,y];rfl
    have d:gj (cs.take (xs.length*E.sz))=true:=by
      rw[p]at g⊢;rw[Q1]at g⊢;exact λx c=>g x (wBb c)
    refine ⟨.slice h.next 0 (xs.length+ys.length),(h.put t (.cells ty E.sz false false cs)).new (.cells ty E.sz true false (cs.take (xs.length*E.sz)++new)),?_,
      .inr ⟨h.next,_,by simp,Oy _,λb=>wBq _ (o _ b),fg (h.put t _) _,?_,by rw[oh,d,i];rfl⟩,
      (lN.put (S:=Loc (.slice t 0 xs.length)) (.cells ty E.sz false false cs) rfl j).trans (lN.new _ _),λ_ h=> .inr h.symm⟩
    ·unfold eR j5
     have n:sub cs 0 (Nat.mul xs.length E.sz)=some (cs.take (xs.length*E.sz)):=by
       show sub cs 0 (xs.length*E.sz)=_;rw[Er (show 0+xs.length*E.sz<=cs.length by omega),ZV]
     simp only[c,fe,f,i,tT,A,wBg,hroom,n,d];rw[mE _ (WG _),mE _ (show Nat.ble (Nat.mul (Nat.add xs.length ys.length) jW) 70368744177664=true from UD z),mE _ (show Nat.ble (Nat.add xs.length ys.length) 70368744177664=true from UD m)];rfl
    ·refine qb.fh (h:=h) (λl b=>?_) ?_
     ·rw[fj _ (show l<(h.put t _).next from o l b),gB _ j λe=>s (e▸b)]
     ·exact u.take.append (by rw[Mo];omega) q
theorem kQ.cut(d:kQ E ty F h xs v){n:Nat}(a:n<=xs.length):∃b,jf E.sz v none (some (.int .i64 n)) h=some b/\kQ E ty F h (xs.take n) b/\∀t,Loc b t->Loc v t:=by
 rcases d with⟨rfl,rfl⟩|⟨t,cs,rfl,e,f,c,g,i⟩
 ·obtain rfl:n=0:=by simpa using a
  exact⟨.ee,rfl,.inl ⟨rfl,rfl⟩,λ_ h=>h⟩
 ·refine⟨.slice t 0 n,?_,.inr ⟨t,cs,by rw[Mo,wBm a],e,f,c,g.taken n,i⟩,λ_ h=>h⟩;unfold jf j5;simp only[c,fe,GB,Pu];rw[mE _ (WG _),mE _ (UD (NJ _)),mE _ (by rw[UD a];rfl)];simp
theorem kQ.store(n:kQ E ty F h xs v){i k:Nat}{y:α}{u:V}(hi:i<xs.length)(hk:k<E.sz)(f:u.one=true)(o:∀w,E.rel F h xs[i] w->E.rel F h y (w.set k u)) :
  ∃t h',Loc v t/\gz E.sz v (.int .i64 i)=some (.ptr t (i*E.sz))/\gI 1 (.ptr t (i*E.sz+k)) u h=some (.val .undef h')/\kQ E ty F h' (xs.set i y) v/\lN (Loc v) h h':=by
 rcases n with⟨rfl,rfl⟩|⟨t,cs,rfl,c,g,p,j,d⟩
 ·simp at hi
 ·obtain ⟨w,q,C,m⟩:=j.get (i:=i) (x:=xs[i]) (gW hi);have b:cs.set (i*E.sz+k) u=cs.take (i*E.sz)++w.set k u++cs.drop (i*E.sz+E.sz):=by
   have e0:cs=cs.take (i*E.sz)++(w++cs.drop (i*E.sz+E.sz)):=by
    rw[<-q]
    conv=>lhs;rw[<-Zp (i*E.sz) cs]
    congr 1;rw[<-wBh,Zp]
   have D:=E.len m
   conv=>lhs;rw[e0]
   rw[List.set_append_right _ _ (by rw[Mo];omega),Mo,wBm (by omega),wBe,List.set_append_left _ _ (by omega),LY]
  refine⟨t,h.put t (.cells ty E.sz true false (cs.set (i*E.sz+k) u)),rfl,by rw[yl _ _ _ _ _ _ hi,zj],MK p (by omega) f,.inr ⟨t,_,by simp,c,g,gg _ c,?_,?_⟩,lN.put _ rfl c⟩
  ·refine qb.fh (h:=h) (λl r=>gB _ c λe=>g (e▸r)) ?_;rw[b];exact j.set hi (o w m)
  ·have s:∀(l:List V),gj l=l.all V.one:=λl=>by
    induction l with
    |nil=>rfl
    |cons a l z=>rw[ey,z];rfl
   rw[s]at d⊢;rw[Q1]at d⊢;intro x A;rcases List.mem_or_eq_of_mem_set A with B|rfl
   ·exact d x B
   ·exact f
end
abbrev eo:Nat:=3
abbrev jD:Nat:=4
abbrev iQ:Nat:=22
abbrev hV:Nat:=30
abbrev gL:Nat:=49
abbrev fI:Nat:=47
abbrev lX:Nat:=56
abbrev Mg:Nat:=53
abbrev Ss:Nat:=24
abbrev xu:Nat:=126
abbrev Me:Nat:=65
open Un
structure Pc where
 ma:Nat->Prop
 ok:(Nat->Prop)->Hp->Prop
 Oa:∀{F:Nat->Prop} {h:Hp},ok F h->∀l,ma l->l<h.next/\¬F l
 fh:∀{F:Nat->Prop} {h h':Hp},ok F h->(∀l,F l->h'.get l=h.get l)->(∀l,ma l->h'.get l=h.get l)->h.next<=h'.next->ok F h'
 mono:∀{F F':Nat->Prop} {h:Hp},ok F h->(∀l,F l->F' l)->(∀l,ma l->¬F' l)->ok F' h
def emp:Pc:=⟨λ_=>False,λ_ _=>True,by simp_all,by simp_all,by simp_all⟩
def ev(l ty:Nat)(vs:List V):Pc where
 ma:=λm=>m=l
 ok F h:=h.get l=some (.cells ty 1 true false vs)/\l<h.next/\¬F l
 Oa:=by simp_all
 fh:=by grind
 mono:=by simp_all
def eJ{α:Type}(E:p8 α)(ty:Nat)(xs:List α)(v:V):Pc where
 ma:=Loc v
 ok F h:=kQ E ty F h xs v
 Oa:=λh _ a=>(h.we a).2
 fh:=by grind[kQ.fh]
 mono:=by grind[kQ.mono]
structure Sn (F:Nat->Prop) (h:Hp) (F':Nat->Prop) (h':Hp):Prop where
 next:h.next<=h'.next
 fh:∀l,F l->h'.get l=h.get l
 mono:∀l,F l->F' l
theorem Sn.refl(F:Nat->Prop)(h:Hp):Sn F h F h:=⟨iZ _,by simp_all,λ_ h=>h⟩
theorem Sn.trans{F F' c:Nat->Prop} {h h' d:Hp}(a:Sn F h F' h')(b:Sn F' h' c d):Sn F h c d:=
 ⟨Ie a.next b.next,λl e=>(b.fh l (a.mono l e)).trans (a.fh l e),λl e=>b.mono l (a.mono l e)⟩
structure ej (F:Nat->Prop) (h:Hp) (cs:List Pc):Prop where
 fl:∀l,F l->l<h.next
 ok:∀(i:Nat) (c:Pc),cs[i]? =some c->c.ok F h
 E2:∀(i j:Nat) (c d:Pc),cs[i]? =some c->cs[j]? =some d->i≠j->∀l,c.ma l->¬d.ma l
section
variable{F F':Nat->Prop}{h h':Hp}{cs:List Pc}{i j:Nat}{c d p:Pc}
theorem EV{cs:List Pc}{i:Nat}{p:Pc}{j:Nat}{d:Pc}(a:(cs.set i p)[j]? =some d):(j=i/\d=p)\/(j≠i/\cs[j]? =some d):=by
 grind
theorem ej.nil(a:∀l,F l->l<h.next):ej F h []:=⟨a,by simp_all,by simp_all⟩
theorem ej.cons(H:ej F h cs)(f:p.ok F h)(hp:∀(i:Nat) c,cs[i]? =some c->∀l,p.ma l->¬c.ma l):ej F h (p::cs) where
 fl:=H.fl
 ok:=λi c hc=>by
  cases i with
  |zero=>simp_all
  |succ i=>exact H.ok i c hc
 E2:=λi j c d hc b g l e a=>by
  cases i with
  | zero=>
    grind
  | succ i=>
    cases j with
    |zero=>grind
    |succ j=>exact H.E2 i j c d hc b (by omega) l e a
theorem ej.tail(H:ej F h (p::cs)):ej F h cs where
 fl:=H.fl
 ok:=λi c hc=>H.ok (i+1) c hc
 E2:=λi j c d hc a b=>H.E2 (i+1) (j+1) c d hc a (by omega)
theorem ej.add(H:ej F h cs)(a:p.ok F h)(hp:∀l,¬p.ma l):ej F h (p::cs):=H.cons a (by simp_all)
theorem ej.swap(H:ej F h cs)(hi:cs[i]? =some c)(s:p.ok F h)(hp:∀l,p.ma l->c.ma l):ej F h (cs.set i p) where
 fl:=H.fl
 ok:=λj d t=>by
  rcases EV t with⟨_,rfl⟩|⟨_,f⟩
  ·exact s
  ·exact H.ok j d f
 E2:=λj k a b u n g l m e=>by
  rcases EV u with⟨o,rfl⟩|⟨o,q⟩
  ·rcases EV n with⟨r,_⟩|⟨_,f⟩
   ·omega
   ·subst o;exact H.E2 j k c b hi f g l (hp l m) e
  ·rcases EV n with⟨r,rfl⟩|⟨_,f⟩
   ·subst r;exact H.E2 j k a c q hi g l m (hp l e)
   ·exact H.E2 j k a b q f g l m e
theorem ej.forget(H:ej F h cs)(hi:cs[i]? =some c):ej F h (cs.set i emp):=H.swap hi trivial λ_ h=>h.elim
theorem ej.zcY(H:ej F h cs)(hi:cs[i]? =some c)(hc:lN c.ma h h')(s:∀l,F l->F' l)(n:∀l,F' l->F l\/c.ma l\/(h.next<=l/\l<h'.next))(z:p.ok F' h')(hp:∀l,p.ma l->c.ma l\/h.next<=l):ej F' h' (cs.set i p)/\Sn F h F' h':=by
 have o:=H.ok i c hi;have t:∀l,F l->h'.get l=h.get l:=λl e=>hc.fh l (H.fl l e) λhs=>(c.Oa o l hs).2 e;have other:∀(j:Nat) (d:Pc),j≠i->cs[j]? =some d->d.ok F' h'/\∀l,d.ma l->¬p.ma l:=λj d u q=>by
  have m:=H.ok j d q;have r:∀l,d.ma l->¬c.ma l:=H.E2 j i d c q hi u;refine⟨d.mono (d.fh m t (λl e=>hc.fh l (d.Oa m l e).1 (r l e)) hc.next) s λl e f=>?_,λl e f=>?_⟩
  ·rcases n l f with g|g|g
   ·exact(d.Oa m l e).2 g
   ·simp_all
   ·have:=(d.Oa m l e).1;omega
  ·rcases hp l f with g|g
   ·simp_all
   ·have:=(d.Oa m l e).1;omega
 refine⟨⟨λl e=>?_,λj d q=>?_,λj k a b v w x l e f=>?_⟩,⟨hc.next,t,s⟩⟩
 ·rcases n l e with g|g|g
  ·exact EL (H.fl l g) hc.next
  ·exact EL (c.Oa o l g).1 hc.next
  omega
 ·grind
 ·rcases EV v with⟨y,rfl⟩|⟨y,m⟩
  ·grind
  ·rcases EV w with⟨A,rfl⟩|⟨_,r⟩
   ·grind
   ·exact H.E2 j k a b m r x l e f
theorem ej.DG(H:ej F h cs)(hi:cs[i]? =some c)(hc:lN c.ma h h')(a:p.ok F h')(hp:∀l,p.ma l->c.ma l\/h.next<=l):ej F h' (cs.set i p)/\Sn F h F h':=
 H.zcY hi hc (by simp_all) (by simp_all) a hp
theorem ej.grow(H:ej F h cs)(a:Im h h'):ej F h' cs/\Sn F h F h':=by
 have c:∀l,F l->h'.get l=h.get l:=λl b=>a.fh l (H.fl l b) id;exact⟨⟨λl b=>EL (H.fl l b) a.next,λj d e=>d.fh (H.ok j d e) c (λl b=>a.fh l (d.Oa (H.ok j d e) l b).1 id) a.next,H.E2⟩,⟨a.next,c,λ_ h=>h⟩⟩
theorem ej.new(H:ej F h cs)(o:O)(b:p.ok F (h.new o))(hp:∀l,p.ma l->l=h.next):ej F (h.new o) (p::cs)/\Sn F h F (h.new o):=by
 obtain⟨c,e⟩:=H.grow (lN.new h o);refine⟨c.cons b λj d f l g a=>?_,e⟩;have:=(d.Oa (H.ok j d f) l a).1
 grind
theorem ej.fresh(H:ej F h cs):¬F h.next:=λa=>wBq _ (H.fl _ a)
theorem ej.zo(H:ej F h cs)(ty:Nat)(vs:List V):ej F (h.new (.cells ty 1 true false vs)) (ev h.next ty vs::cs)/\Sn F h F (h.new (.cells ty 1 true false vs)):=
 H.new _ ⟨fg _ _,Oy _,H.fresh⟩ λ_ e=>e
theorem ej.V6(H:ej F h cs){α:Type}{E:p8 α}(ty:Nat){xs:List α}{ws:List V}{n:Nat}(a:n=xs.length)(b:qb E F h ws xs)(c:gj ws=true) :
  ej F (h.new (.cells ty E.sz true false ws)) (eJ E ty xs (.slice h.next 0 n)::cs)/\Sn F h F (h.new (.cells ty E.sz true false ws)):=by
 subst a;exact H.new _ (.inr ⟨h.next,ws,rfl,Oy _,H.fresh,fg _ _,b.fh λl d=>fj _ (H.fl l d),c⟩) λ_ e=>e.symm
theorem ej.ZF(H:ej F h cs){α:Type}{E:p8 α}(ty:Nat){xs:List α}{ws:List V}{n:Nat}(f:n=xs.length)(g:qb E F h ws xs)(ro:Bool) :
  ej (λl=>F l\/l=h.next) (h.new (.cells ty E.sz true ro ws)) cs/\Sn F h (λl=>F l\/l=h.next) (h.new (.cells ty E.sz true ro ws))/\iy E (λl=>F l\/l=h.next) (h.new (.cells ty E.sz true ro ws)) xs (.slice h.next 0 n):=by
 subst f;obtain⟨b,c⟩:=H.grow (lN.new h (.cells ty E.sz true ro ws));refine⟨⟨λl a=>?_,λj d e=>d.mono (b.ok j d e) (by simp_all) λl a i=>?_,b.E2⟩,⟨c.next,c.fh,by simp_all⟩,?_⟩
 ·rcases a with a|rfl
  ·exact b.fl l a
  simp_all
 ·have k:=d.Oa (H.ok j d e) l a
  simp_all
 ·exact .inr ⟨h.next,0,ty,true,ro,ws,rfl,.inr rfl,fg _ _,.inr rfl,NJ _,by rw[ZV];exact(g.fh λl a=>fj _ (H.fl l a)).mono (by simp_all)⟩
theorem ej.get(H:ej F h cs)(i:Nat){l ty:Nat}{vs:List V}(hi:cs[i]? =some (ev l ty vs)):h.get l=some (.cells ty 1 true false vs):=(H.ok i _ hi).1
theorem ej.ld(H:ej F h cs)(i:Nat){l ty o:Nat}{vs:List V}{u:V}(hi:cs[i]? =some (ev l ty vs))(a:vs[o]? =some u):ez (.ptr l o) h=some u:=lE (H.get i hi) a
theorem ej.zb(H:ej F h cs)(i:Nat){l ty n:Nat}{vs:List V}(hi:cs[i]? =some (ev l ty vs))(a:vs.length=n):gv n (.ptr l 0) h=some (.agg vs):=Dr (H.get i hi) a
theorem ej.st(H:ej F h cs)(i:Nat){l ty o:Nat}{vs:List V}{u:V}(hi:cs[i]? =some (ev l ty vs))(b:o<vs.length)(c:u.one=true) :
  ∃h',gI 1 (.ptr l o) u h=some (.val .undef h')/\h.next<=h'.next/\ej F h' (cs.set i (ev l ty (vs.set o u)))/\Sn F h F h':=by
 have a:=H.ok i _ hi;refine⟨_,MK a.1 b c,iZ _,H.DG hi (lN.put _ rfl a.2.1) ⟨gg _ a.2.1,a.2.1,a.2.2⟩ λ_ h=> .inl h⟩
theorem ej.stk(H:ej F h cs)(i:Nat){l ty o:Nat}{vs:List V}{u:V}(hi:cs[i]? =some (ev l ty vs))(b:o<vs.length)(c:u.one=true) :
  ∃h',gI 1 (.ptr l o) u h=some (.val .undef h')/\h.next<=h'.next/\ej F h' (cs.set i (ev l ty (vs.set o u)))/\Sn F h F h'/\∀m,m≠l->h'.get m=h.get m:=by
 have a:=H.ok i _ hi;obtain⟨d,e⟩:=H.DG (p:=ev l ty (vs.set o u)) (h':=h.put l (.cells ty 1 true false (vs.set o u))) hi (lN.put _ rfl a.2.1) ⟨gg _ a.2.1,a.2.1,a.2.2⟩ λ_ h=> .inl h;exact⟨_,MK a.1 b c,iZ _,d,e,λm f=>gB _ a.2.1 (by omega)⟩
theorem ej.Zx(H:ej F h cs)(i:Nat){l ty n:Nat}{vs ws:List V}(hi:cs[i]? =some (ev l ty vs))(b:ws.length=n)(hv:vs.length=n)(c:gj ws=true) :
  ∃h',gI n (.ptr l 0) (.agg ws) h=some (.val .undef h')/\h.next<=h'.next/\ej F h' (cs.set i (ev l ty ws))/\Sn F h F h':=by
 have a:=H.ok i _ hi;refine⟨_,G1 a.1 b hv c,iZ _,H.DG hi (lN.put _ rfl a.2.1) ⟨gg _ a.2.1,a.2.1,a.2.2⟩ λ_ h=> .inl h⟩
section
variable{α:Type}{E:p8 α}{ty:Nat}{xs:List α}{v:V}
theorem ej.row(H:ej F h cs)(i:Nat)(hi:cs[i]? =some (eJ E ty xs v)):kQ E ty F h xs v:=H.ok i _ hi
theorem ej.len(H:ej F h cs)(i:Nat)(hi:cs[i]? =some (eJ E ty xs v)):fE v=some (.int .i64 xs.length):=(H.row i hi).len
theorem ej.one(H:ej F h cs)(i:Nat)(hi:cs[i]? =some (eJ E ty xs v)):v.one=true:=(H.row i hi).one
theorem ej.ix(H:ej F h cs)(i:Nat)(hi:cs[i]? =some (eJ E ty xs v)){k:Nat}(hk:k<xs.length)(kd:IntKind) :
  ∃l o w,gz E.sz v (.int kd k)=some (.ptr l o)/\gv E.sz (.ptr l o) h=some (.agg w)/\E.rel (λl=>F l\/Loc v l) h xs[k] w/\∀j u,w[j]? =some u->ez (.ptr l (o+j)) h=some u:=by
 obtain⟨l,o,w,_,a,b,c,d⟩:=(H.row i hi).read.ix hk kd
 grind
theorem ej.Vc(H:ej F h cs)(i:Nat)(hi:cs[i]? =some (eJ E ty xs v)){k:Nat}(hk:k<xs.length)(kd:IntKind)(a:E.sz=1) :
  ∃l o u,gz 1 v (.int kd k)=some (.ptr l o)/\ez (.ptr l o) h=some u/\E.rel (λl=>F l\/Loc v l) h xs[k] [u]:=by
 obtain⟨l,o,u,_,b,c,d⟩:=(H.row i hi).read.Vc hk kd a
 grind
theorem ej.Jj(H:ej F h cs)(i:Nat)(hi:cs[i]? =some (eJ E ty xs v)){k:Nat}(hk:k<xs.length)(a:E.sz=1){y:α}{u:V}(f:u.one=true)(g:E.rel F h y [u]) :
  ∃l o h',gz 1 v (.int .i64 k)=some (.ptr l o)/\gI 1 (.ptr l o) u h=some (.val .undef h')/\h.next<=h'.next/\ej F h' (cs.set i (eJ E ty (xs.set k y) v))/\Sn F h F h':=by
 obtain ⟨t,h',n,b,c,j,d⟩:=(H.row i hi).store (k:=0) (y:=y) (u:=u) hk (by omega) f (λw m=>by
  have e:=E.len m;rw[a]at e
  match w,e with
  |[x],_=>exact g)
 rw[a]at b c;exact⟨t,k*1,h',b,c,d.next,H.DG hi d j λ_ h=> .inl h⟩
end
end
open Un
section
variable{F F':Nat->Prop}{h h':Hp}{cs:List Pc}{α:Type}{E:p8 α}{ty:Nat}{xs ys:List α}{v x:V}
theorem qb.one:∀{xs:List α}{ws:List V},qb E F h ws xs->ws.length=xs.length*E.sz->gj ws=true
 | [],ws,_,hl=>by
   simp_all
 | y::xs,ws,⟨w,r,b,a,c⟩,hl=>by
   subst b;have d:=E.len a;rw[oh,E.one a,qb.one c (by grind)];rfl
theorem qb.rep{y:α}{u:V}(a:E.rel F h y [u]):∀n,qb E F h (List.replicate n u) (List.replicate n y)
 |0=>trivial
 |n+1=>⟨[u],_,rfl,a,qb.rep a n⟩
theorem NC{u:V}(a:u.one=true):∀n,gj (List.replicate n u)=true
 |0=>rfl
 |n+1=>by rw[List.replicate_succ,ey,a,NC a n];rfl
theorem EY{l off n DP sz:Nat}{ro:Bool}{ds:List V}(b:h.get l=some (.cells DP sz true ro ds))(a:off+n*sz<=ds.length):∃new,lK h sz (.slice l off n)=some (n,new)/\new=(ds.drop off).take (n*sz):=by
 cases n with
 |zero=>exact⟨_,rfl,by simp⟩
 | succ n=>
   refine⟨_,?_,rfl⟩;unfold lK HU j5;have:sub ds off (Nat.mul (Nat.succ n) sz)=some ((ds.drop off).take ((n+1)*sz)):=Er a
   simp_all
theorem iy.xc(hs:iy E F h ys x):∃new,lK h E.sz x=some (ys.length,new)/\qb E F h new ys/\new.length=ys.length*E.sz:=by
 rcases hs with⟨rfl,rfl⟩|⟨l,off,DP,live,ro,ds,rfl,g,b,c,i,a⟩
 ·exact⟨[],rfl,trivial,by simp⟩
 ·have d:=a.length;rw[wB1]at d;rcases c with rfl|rfl
  ·exact⟨[],rfl,trivial,by simp⟩
  ·obtain⟨new,e,f⟩:=EY (n:=ys.length) (off:=off) (sz:=E.sz) b (by omega);exact⟨new,e,by rw[f];exact a.take,by simp_all⟩
theorem kQ.xc(hs:kQ E ty F h ys x):∃new,lK h E.sz x=some (ys.length,new)/\qb E F h new ys/\new.length=ys.length*E.sz:=by
 rcases hs with⟨rfl,rfl⟩|⟨t,ds,rfl,e,f,b,a,g⟩
 ·exact⟨[],rfl,trivial,by simp⟩
 ·have i:=a.length;obtain⟨new,c,d⟩:=EY (n:=ys.length) (off:=0) (sz:=E.sz) b (by omega);refine⟨new,c,by rw[d,ZV];exact a.take,by simp_all⟩
theorem Gv{e sz:Nat}{z:V}:jr e sz 0 z []=some (.cells e sz true false [],λl=> .slice l 0 0):=rfl
theorem ej.app(H:ej F h cs)(i:Nat)(hi:cs[i]? =some (eJ E ty xs v)){jW:Nat}{new:List V}(e:lK h E.sz x=some (ys.length,new))(f:qb E F h new ys)(b:new.length=ys.length*E.sz)
  (j:0<E.sz) (k:jW<=1000) (c:xs.length+ys.length<=10000000) :
  ∃a h',eR ty E.sz jW v x h=some (.val a h')/\h.next<=h'.next/\ej F h' (cs.set i (eJ E ty (xs++ys) a))/\Sn F h F h':=by
 have d:=H.row i hi;by_cases hk:0<ys.length
 ·have m:(xs.length+ys.length)*jW<=10000000*1000:=Nat.mul_le_mul c k;obtain⟨a,h',n,o,g,l1⟩:=d.append (jW:=jW) e f b (f.one b) hk j H.fl (by omega) (by omega);obtain⟨q,r⟩:=H.DG (p:=eJ E ty (xs++ys) a) hi g o λl b=>(l1 l b).imp id (by omega);exact⟨a,h',n,g.next,q,r⟩
 ·have e0:ys=[]:=by simp_all
  subst e0;refine⟨v,h,?_,iZ _,by rw[Jk];exact H.swap hi d λ_ h=>h,Sn.refl _ _⟩;unfold eR;rw[e];rcases d with⟨rfl,_⟩|⟨t,ds,rfl,_⟩ <;> rfl
theorem ej.OB(H:ej F h cs)(i:Nat)(hi:cs[i]? =some (eJ E ty xs v)){jW:Nat}(hs:iy E F h ys x)(c:0<E.sz)(d:jW<=1000)(a:xs.length+ys.length<=10000000) :
  ∃b h',eR ty E.sz jW v x h=some (.val b h')/\h.next<=h'.next/\ej F h' (cs.set i (eJ E ty (xs++ys) b))/\Sn F h F h':=by
 obtain⟨new,e,f,g⟩:=hs.xc;exact H.app i hi e f g c d a
theorem ej.zaU(H:ej F h cs)(i j:Nat)(hi:cs[i]? =some (eJ E ty xs v)){c:Nat}(d:cs[j]? =some (eJ E c ys x)){jW:Nat}(e:0<E.sz)(f:jW<=1000)(a:xs.length+ys.length<=10000000) :
  ∃b h',eR ty E.sz jW v x h=some (.val b h')/\h.next<=h'.next/\ej F h' (cs.set i (eJ E ty (xs++ys) b))/\Sn F h F h':=by
 obtain⟨new,g,k,l⟩:=(H.row j d).xc;exact H.app i hi g k l e f a
theorem ej.vR(H:ej F h cs)(i:Nat)(hi:cs[i]? =some (eJ E ty xs v)){jW DP:Nat}{y:α}{w:List V}{ro:Bool}(b:E.rel F h y w)(c:0<E.sz)(d:jW<=1000)(e:xs.length<1000000) :
  ∃a h',eR ty E.sz jW v (.slice h.next 0 1) (h.new (.cells DP E.sz true ro w))=some (.val a h')/\h.next+1<=h'.next/\ej F h' (cs.set i (eJ E ty (xs++[y]) a))/\Sn F h F h':=by
 obtain⟨f,g⟩:=H.grow (lN.new h (.cells DP E.sz true ro w));have j:lK (h.new (.cells DP E.sz true ro w)) E.sz (.slice h.next 0 1)=some (1,w):=nV (k:=0) (by rw[E.len b];simp);obtain⟨a,h',m,n,o,p⟩:=f.app (ys:=[y]) i hi j ⟨w,[],by simp,E.fh (λl q=>fj _ (H.fl l q)) b,trivial⟩ (by rw[E.len b];simp) c d (by simp;omega);exact⟨a,h',m,n,o,g.trans p⟩
theorem ej.zd1(H:ej F h cs)(i:Nat)(hi:cs[i]? =some (eJ E ty xs v)){n:Nat}(b:n<=xs.length) :
  ∃a,jf E.sz v none (some (.int .i64 n)) h=some a/\ej F h (cs.set i (eJ E ty (xs.take n) a)):=by
 obtain⟨a,c,d,e⟩:=(H.row i hi).cut b;exact⟨a,c,H.swap hi d e⟩
theorem ej.jI(H:ej F h cs)(i:Nat)(hi:cs[i]? =some (eJ E ty xs v)):ej (λl=>F l\/Loc v l) h (cs.set i emp)/\Sn F h (λl=>F l\/Loc v l) h/\iy E (λl=>F l\/Loc v l) h xs v:=by
 obtain⟨a,b⟩:=H.zcY (p:=emp) (F':=λl=>F l\/Loc v l) hi (lN.refl _ _) (by simp_all) (λ_ h=>h.imp id .inl) trivial λ_ h=>h.elim;exact⟨a,b,(H.row i hi).read⟩
theorem ej.make(H:ej F h cs){y:α}{u:V}(n:Nat)(a:E.rel F h y [u])(c:E.sz=1):ej F (h.new (.cells ty 1 true false (List.replicate n u))) (eJ E ty (List.replicate n y) (.slice h.next 0 n)::cs)/\Sn F h F (h.new (.cells ty 1 true false (List.replicate n u))):=by
 have b:=E.one a;rw[ey,xg]at b;have:=H.V6 (E:=E) ty (n:=n) (by simp) (qb.rep a n) (NC b.1 n)
 simp_all
theorem kr{e jW n:Nat}{z:V}(c:z.one=true)(a:jW<=100)(b:n<=1000000) :
  il e 1 jW z (.int .i64 (n:Int)) (.int .i64 (n:Int))=some (O.cells e 1 true false (List.replicate n z),λl=>V.slice l 0 n):=by
 have:n*jW<=1000000*100:=Nat.mul_le_mul b a
 grind[Od,O8,Y2]
theorem iK{l o:Nat}{u:V}(a:ez (.ptr l o) h=some u)(hk:h'.get l=h.get l):ez (.ptr l o) h' = some u:=by
 grind[ez,ld1,j5,ym]
theorem G0{l o n:Nat}{u:V}(a:gv n (.ptr l o) h=some u)(hk:h'.get l=h.get l):gv n (.ptr l o) h' = some u:=by
 grind[gv,HU,j5,ym]
end
open Un
def fS{ι:Type}(ty:Nat)(f:ι->Option (List Nat×V)):Pc where
 ma:=λl=>∃i xs v,f i=some (xs,v)/\Loc v l
 ok F h:=(∀i xs v,f i=some (xs,v)->kQ eN ty F h xs v)/\∀i j xs v ys w,f i=some (xs,v)->f j=some (ys,w)->i≠j->∀l,Loc v l->¬Loc w l
 Oa:=λh l ⟨i,xs,v,a,b⟩=>((h.1 i xs v a).we b).2
 fh:=λh c b d=>⟨λi xs v a=>(h.1 i xs v a).fh c (by grind) d,h.2⟩
 mono:=λh c b=>⟨λi xs v a=>(h.1 i xs v a).mono c (by grind),h.2⟩
def up{ι α:Type}[DecidableEq ι] (f:ι->Option α)(i:ι)(x:Option α):ι->Option α:=λj=>if j=i then x else f j
@[simp] theorem lg {ι α:Type} [DecidableEq ι] (f:ι->Option α) (i:ι) (x:Option α):up f i x i=x:=if_pos rfl
theorem js{ι α:Type}[DecidableEq ι] (f:ι->Option α){i j:ι}(x:Option α)(h:j≠i):up f i x j=f j:=if_neg h
section
variable{F:Nat->Prop}{h:Hp}{cs:List Pc}{p q:Pc}
theorem ej.sw(H:ej F h (p::q::cs)):ej F h (q::p::cs) where
 fl:=H.fl
 ok:=λi c hc=>by
  match i,hc with
  |0,hc=>exact H.ok 1 c hc
  |1,hc=>exact H.ok 0 c hc
  |i+2,hc=>exact H.ok (i+2) c hc
 E2:=λi j c d hc a b=>by
  match i,j,hc,a with
  |0,0,_,_=>omega
  |0,1,hc,a=>exact H.E2 1 0 c d hc a (by omega)
  |0,j+2,hc,a=>exact H.E2 1 (j+2) c d hc a (by omega)
  |1,0,hc,a=>exact H.E2 0 1 c d hc a (by omega)
  |1,1,_,_=>omega
  |1,j+2,hc,a=>exact H.E2 0 (j+2) c d hc a (by omega)
  |i+2,0,hc,a=>exact H.E2 (i+2) 1 c d hc a (by omega)
  |i+2,1,hc,a=>exact H.E2 (i+2) 0 c d hc a (by omega)
  |i+2,j+2,hc,a=>exact H.E2 (i+2) (j+2) c d hc a b
theorem ej.JS(H:ej F h (p::q::cs)):ej F h (p::cs):=H.sw.tail
end
section
variable{F F':Nat->Prop}{h h':Hp}{cs:List Pc}{ι:Type}{ty:Nat}{f:ι->Option (List Nat×V)}{xs:List Nat}{v:V}
theorem ej.Yn(H:ej F h cs):ej F h (fS (ι:=ι) ty (λ_=>Option.none)::cs):=
 H.add ⟨λ_ _ _ h=>(nomatch h),λ_ _ _ _ _ _ h=>(nomatch h)⟩ λ_ ⟨_,_,_,h,_⟩=>(nomatch h)
theorem ej.QV [DecidableEq ι] (H:ej F h (eJ eN ty xs v::fS ty f::cs)){i:ι}(hi:f i=Option.none):ej F h (fS ty (up f i (some (xs,v)))::cs):=by
 have h0:=H.ok 0 _ rfl;have g:=H.ok 1 _ rfl;have m:∀l,Loc v l->¬(fS ty f).ma l:=λl b=>H.E2 0 1 _ _ rfl rfl (by omega) l b;refine H.tail.tail.cons ⟨λj ys w a=>?_,λj k ys w n x a hk p l b d=>?_⟩ λj c hc l b=>?_
 ·by_cases e:j=i
  ·subst e;rw[lg]at a;cases a;exact h0
  ·rw[js _ _ e]at a;exact g.1 j ys w a
 ·by_cases e:j=i
  ·subst e;rw[lg]at a;cases a;rw[js _ _ (by grind)]at hk;exact m l b ⟨k,n,x,hk,d⟩
  ·rw[js _ _ e]at a;by_cases e':k=i
   ·subst e';rw[lg]at hk;cases hk;exact m l d ⟨j,ys,w,a,b⟩
   ·rw[js _ _ e']at hk;exact g.2 j k ys w n x a hk p l b d
 ·obtain⟨k,ys,w,hk,o⟩:=b;by_cases e:k=i
  ·subst e;rw[lg]at hk;cases hk;exact H.E2 0 (j+2) _ c rfl hc (by omega) l o
  ·rw[js _ _ e]at hk;exact H.E2 1 (j+2) _ c rfl hc (by omega) l ⟨k,ys,w,hk,o⟩
theorem ej.rows(H:ej F h cs)(n:Nat)(a:cs[n]? =some (fS ty f)){i:ι}(hi:f i=some (xs,v)):kQ eN ty F h xs v:=(H.ok n _ a).1 i xs v hi
theorem ej.RL{κ:Type}(H:ej F h cs)(n:Nat)(a:cs[n]? =some (fS ty f))(g:κ->Option (List Nat×V))(m:κ->ι)(d:∀i p,g i=some p->f (m i)=some p)(b:∀i j p q,g i=some p->g j=some q->m i=m j->i=j):ej F h (cs.set n (fS ty g)):=by
 have c:=H.ok n _ a;refine H.swap a ⟨λi xs v hi=>c.1 (m i) xs v (by grind),λi j xs v ys w hi o e=>c.2 (m i) (m j) xs v ys w (by grind) (by grind) (by grind)⟩ λl ⟨i,xs,v,hi,k⟩=>⟨m i,xs,v,d i _ hi,k⟩
theorem ej.XJ [DecidableEq ι] (H:ej F h cs)(n:Nat)(A:cs[n]? =some (fS ty f)){i:ι}(hi:f i=some (xs,v)){k:Nat}(hk:k<xs.length)(y:Nat) :
  ∃l o h',gz 1 v (.int .i64 k)=some (.ptr l o)/\gI 1 (.ptr l o) (.int .i64 y) h=some (.val .undef h')/\h.next<=h'.next/\ej F h' (cs.set n (fS ty (up f i (some (xs.set k y,v)))))/\Sn F h F h':=by
 have m:=H.ok n _ A;obtain⟨t,h',J,B,C,K,p⟩:=(m.1 i xs v hi).store (k:=0) (y:=y) (u:=V.int .i64 y) hk Nat.one_pos rfl (λw D=>by
  have:w=[.int .i64 (xs[k]:Nat)]:=D;subst this;rfl)
 have hc:lN (fS ty f).ma h h':=p.X4 λl _ c=>⟨i,xs,v,hi,c⟩
 have d:∀{a:ι} {q:List Nat} {b:V},up f i (some (xs.set k y,v)) a=some (q,b)->∃cs,f a=some (cs,b):=by grind[lg,js]
 have ok:(fS ty (up f i (some (xs.set k y,v)))).ok F h':=by
  refine⟨λj ys w g=>?_,λj E ys w q x g r s l c z=>?_⟩
  ·by_cases e:j=i
   ·simp_all
   ·rw[js _ _ e]at g;have:=m.1 j ys w g;exact this.fh (λl c=>p.fh l (H.fl l c) λhv=>((m.1 i xs v hi).we hv).2.2 c) (λl c=>p.fh l (this.we c).2.1 λhv=>m.2 j i ys w xs v g hi e l c hv) p.next
  ·obtain⟨_,a1⟩:=d g;obtain⟨_,a2⟩:=d r;exact m.2 j E _ w _ x a1 a2 s l c z
 obtain⟨G,I⟩:=H.DG A hc ok λl ⟨j,ys,w,g,c⟩=> .inl (let⟨q,a1⟩:=d g;⟨j,q,w,a1,c⟩);exact⟨t,k*1,h',B,C,p.next,G,I⟩
end
open Un
structure Rw where
 vv:V
 vb:V
 vs:V
 vk:V
 vc:V
 vp:V
 cc:V
def comp(lu iq jw:Nat)(R:Rw):Nat->Nat->Prop
 |0,l=>l=lu
 |1,l=>l=iq
 |2,l=>l=jw
 |3,l=>Loc R.vv l
 |4,l=>Loc R.vb l
 |5,l=>Loc R.vs l
 |6,l=>Loc R.vk l
 |7,l=>Loc R.vc l
 |_,_=>False
def sig:Nat->Nat×Nat
 |0=>(hV,1)
 |1=>(iQ,1)
 |2=>(fI,1)
 |3=>(gL,6)
 |4=>(fI,6)
 |5=>(lX,1)
 |_=>(eo,1)
structure Dw (F G:Nat->Prop) (h:Hp) (lu iq jw:Nat) (t:Dt) (R:Rw):Prop where
 fl:∀l,F l->l<h.next
 gu:h.get lu=some (.cells hV 1 true false [.int .i64 1,.int .i64 2,R.vv,R.vb,R.vs])
 gk:h.get iq=some (.cells iQ 1 true false [R.vk])
 gb:h.get jw=some (.cells fI 1 true false [R.cc,.int .i64 0,.int .i64 0,.ee,R.vp,.int .i64 0])
 nu:lu<h.next/\¬F lu
 nk:iq<h.next/\¬F iq
 nb:jw<h.next/\¬F jw
 ov:kQ eV gL F h t.s.ef R.vv
 ob:kQ eK fI F h t.blocks R.vb
 os:kQ eT lX F h t.s.eh R.vs
 ok:kQ eN eo F h t.s.known R.vk
 oc:kQ eN eo F h t.s.cur R.vc
 sp:iy eN F h t.eQ R.vp
 kc:∀l,Loc R.vk l->¬Loc R.vc l
 gx:∀l,G l->l<h.next/\¬F l/\∀i,¬comp lu iq jw R i l
structure Kp (F G:Nat->Prop) (h h':Hp):Prop where
 next:h.next<=h'.next
 fh:∀l,F l\/G l->h'.get l=h.get l
theorem Kp.refl(F G:Nat->Prop)(h:Hp):Kp F G h h:=⟨iZ _,by simp_all⟩
theorem Kp.trans{F F' G:Nat->Prop} {h h' c:Hp}(a:Kp F G h h')(b:Kp F' G h' c)(e:∀l,F l->F' l):Kp F G h c:=
 ⟨Ie a.next b.next,λl d=>by rw[b.fh l (by grind),a.fh l d]⟩
section
variable{F G:Nat->Prop}{h h':Hp}{lu iq jw:Nat}{t:Dt}{R:Rw}
theorem Dw.sig(D:Dw F G h lu iq jw t R){l:Nat}:∀{i:Nat},comp lu iq jw R i l->Ys h l=some (Hx.sig i)/\l<h.next/\¬F l
 |0,hl=>by have e:l=lu:=hl;subst e;exact⟨Mk D.gu,D.nu⟩
 |1,hl=>by have e:l=iq:=hl;subst e;exact⟨Mk D.gk,D.nk⟩
 |2,hl=>by have e:l=jw:=hl;subst e;exact⟨Mk D.gb,D.nb⟩
 |3,hl=>D.ov.we hl
 |4,hl=>D.ob.we hl
 |5,hl=>D.os.we hl
 |6,hl=>D.ok.we hl
 |7,hl=>D.oc.we hl
 |_+8,hl=>hl.elim
theorem Dw.E2(D:Dw F G h lu iq jw t R){l i j:Nat}(hi:comp lu iq jw R i l)(a:comp lu iq jw R j l):Hx.sig i=Hx.sig j:=by
 have b:=(D.sig hi).1
 grind[Option.some.inj,sig,comp,comp,Ys,sig]
theorem Dw.Eh(D:Dw F G h lu iq jw t R){l i j:Nat}(hi:comp lu iq jw R i l)(a:comp lu iq jw R j l)(c:i<8)(d:j<8):i=j:=by
 have e:=D.E2 hi a;have b:∀i,i<8->∀j,j<8->Hx.sig i=Hx.sig j->i=j\/(i=6/\j=7)\/(i=7/\j=6):=by decide
 rcases b i c j d e with f|⟨rfl,rfl⟩|⟨rfl,rfl⟩
 ·exact f
 ·exact absurd a (D.kc l hi)
 ·exact absurd hi (D.kc l a)
theorem Dw.kept(D:Dw F G h lu iq jw t R){i j:Nat}(hi:i<8)(d:j<8)(hc:lN (λl=>comp lu iq jw R i l\/comp lu iq jw R j l) h h') :
  (∀l,F l->h'.get l=h.get l)/\(∀l,G l->h'.get l=h.get l)/\∀k l,k<8->k≠i->k≠j->comp lu iq jw R k l->h'.get l=h.get l:=by
 refine⟨λl a=>hc.fh l (D.fl l a) ?_,λl a=>hc.fh l (D.gx l a).1 ?_,λk l hk b e a=>hc.fh l (D.sig a).2.1 ?_⟩
 ·rintro(b|b)
  ·exact(D.sig b).2.2 a
  ·exact(D.sig b).2.2 a
 ·rintro(b|b)
  ·exact(D.gx l a).2.2 _ b
  ·exact(D.gx l a).2.2 _ b
 ·rintro(c|c)
  ·exact b (D.Eh a c hk hi)
  ·exact e (D.Eh a c hk d)
theorem Dw.other(D:Dw F G h lu iq jw t R){S:Nat->Prop}(b:lN S h h')(d:∀l,S l->¬F l/\¬G l/\∀i,¬comp lu iq jw R i l):Dw F G h' lu iq jw t R/\Kp F G h h':=by
 have c:∀l,F l->h'.get l=h.get l:=λl a=>b.fh l (D.fl l a) (by grind);have e:∀l,G l->h'.get l=h.get l:=λl a=>b.fh l (D.gx l a).1 (by grind);have k:∀i l,comp lu iq jw R i l->h'.get l=h.get l:=λi l a=>b.fh l (D.sig a).2.1 (by grind);have lt:∀l,l<h.next->l<h'.next:=λl a=>EL a b.next
 exact ⟨{
  fl:=λl a=>lt l (D.fl l a)
  gu:=by rw[k 0 _ rfl];exact D.gu
  gk:=by rw[k 1 _ rfl];exact D.gk
  gb:=by rw[k 2 _ rfl];exact D.gb
  nu:=⟨lt _ D.nu.1,D.nu.2⟩
  nk:=⟨lt _ D.nk.1,D.nk.2⟩
  nb:=⟨lt _ D.nb.1,D.nb.2⟩
  ov:=D.ov.fh c (λl a=>k 3 l a) b.next
  ob:=D.ob.fh c (λl a=>k 4 l a) b.next
  os:=D.os.fh c (λl a=>k 5 l a) b.next
  ok:=D.ok.fh c (λl a=>k 6 l a) b.next
  oc:=D.oc.fh c (λl a=>k 7 l a) b.next
  sp:=D.sp.fh c
  kc:=D.kc
  gx:=λl a=>⟨lt l (D.gx l a).1,(D.gx l a).2⟩ },⟨b.next,by grind⟩⟩
theorem Dw.grow(D:Dw F G h lu iq jw t R)(a:Im h h'):Dw F G h' lu iq jw t R:=(D.other a (by simp_all)).1
theorem Dw.more(D:Dw F G h lu iq jw t R) {F':Nat->Prop}(c:∀l,F l->F' l)(d:∀l,F' l->F l\/(l<h.next/\(∀i,¬comp lu iq jw R i l)/\¬G l)):Dw F' G h lu iq jw t R:=by
 have b:∀i l,comp lu iq jw R i l->¬F' l:=λi l a e=>by
  rcases d l e with f|⟨_,f,_⟩
  ·exact(D.sig a).2.2 f
  simp_all
 exact {
  fl:=λl a=>(d l a).elim (D.fl l) λh=>h.1
  gu:=D.gu
  gk:=D.gk
  gb:=D.gb
  nu:=⟨D.nu.1,b 0 _ rfl⟩
  nk:=⟨D.nk.1,b 1 _ rfl⟩
  nb:=⟨D.nb.1,b 2 _ rfl⟩
  ov:=D.ov.mono c λl a=>b 3 l a
  ob:=D.ob.mono c λl a=>b 4 l a
  os:=D.os.mono c λl a=>b 5 l a
  ok:=D.ok.mono c λl a=>b 6 l a
  oc:=D.oc.mono c λl a=>b 7 l a
  sp:=D.sp.mono c
  kc:=D.kc
  gx:=λl a=>⟨(D.gx l a).1,λe=>(d l e).elim (D.gx l a).2.1 (by simp_all),(D.gx l a).2.2⟩ }
def fz(F:Nat->Prop)(n:Nat):Nat->Prop:=λl=>F l\/l=n
theorem pU(F:Nat->Prop)(n:Nat):∀l,F l->fz F n l:=λ_ h=> .inl h
theorem Dw.new(D:Dw F G h lu iq jw t R)(o:O):Dw (fz F h.next) G (h.new o) lu iq jw t R:=
 (D.grow (lN.new h o)).more (pU _ _) λl a=>a.imp id λe=>by
  subst e;refine⟨Oy _,λi hi=>wBq _ (D.sig hi).2.1,λb=>wBq _ (D.gx _ b).1⟩
theorem Kp.new(F G:Nat->Prop)(h:Hp)(o:O)(a:∀l,F l->l<h.next)(b:∀l,G l->l<h.next):Kp F G h (h.new o):=
 ⟨O4 _,by grind[fj]⟩
theorem Dw.zO(D:Dw F G h lu iq jw t R)(o:O):Kp F G h (h.new o):=Kp.new F G h o D.fl λl a=>(D.gx l a).1
theorem oG{l o e sz:Nat} {cs px:List V}{v:V}(a:h.get l=some (.cells e sz true false cs))(b:o<cs.length)(hv:v.one=true)(hs:cs.set o v=px):gI 1 (.ptr l o) v h=some (.val .undef (h.put l (.cells e sz true false px))):=by
 grind[MK]
private theorem YZ {a:Nat->Prop} {l:Nat} {S:Nat->Prop} {b:Hp} {o:O} (hc:lN a h b) (d:∀l,a l->S l) (c:l<h.next) (hs:S l):lN S h (b.put l o):=
 (hc.X4 (by simp_all)).trans (lN.put o hs (EL c hc.next))
theorem Dw.zfw(D:Dw F G h lu iq jw t R){ys:List Vl}{new:List V}{xv:V}(u:lK h 6 xv=some (ys.length,new))(w:qb eV F h new ys)(a:new.length=ys.length*6) (p:gj new=true)(hk:0<ys.length)(hlen:t.s.ef.length+ys.length<1000000) :
  ∃b c f,eR gL 6 64 R.vv xv h=some (.val b c)/\h.next<=c.next/\gI 1 (.ptr lu 2) b c=some (.val .undef f)/\c.next<=f.next/\Kp F G h f/\
   Dw F G f lu iq jw {t with s:={t.s with ef:=t.s.ef++ys} } {R with vv:=b}:=by
 obtain ⟨b,c,x,r,n,l1⟩:=D.ov.append (jW:=64) (ys:=ys) u w a p hk (by decide) D.fl (by omega) (by omega);have q:c.get lu=some (.cells hV 1 true false [.int .i64 1,.int .i64 2,R.vv,R.vb,R.vs]):=by
  rw[n.fh lu D.nu.1 λa=>nomatch D.Eh (i:=0) (j:=3) rfl a (by decide) (by decide)];exact D.gu
 have k:lu<c.next:=EL D.nu.1 n.next;have y:=oG (o:=2) (v:=b) (px:=[.int .i64 1,.int .i64 2,b,R.vb,R.vs]) q (by simp) r.one rfl;have hc:lN (λl=>comp lu iq jw R 0 l\/comp lu iq jw R 3 l) h (c.put lu (.cells hV 1 true false [.int .i64 1,.int .i64 2,b,R.vb,R.vs])):=YZ n (λ_ h=> .inr h) D.nu.1 (.inl rfl);obtain⟨m,A,g⟩:=D.kept (by decide) (by decide) hc;have d:∀l,l<h.next->l<(c.put lu (.cells hV 1 true false [.int .i64 1,.int .i64 2,b,R.vb,R.vs])).next:=λl a=>EL a hc.next;have B:∀l,Loc b l->l≠lu:=λl a e=>by
  subst e;rcases l1 _ a with f|f
  ·exact absurd (D.Eh (i:=0) (j:=3) rfl f (by decide) (by decide)) (by decide)
  ·exact absurd f (Rc D.nu.1)
 have z:kQ eV gL F (c.put lu (.cells hV 1 true false [.int .i64 1,.int .i64 2,b,R.vb,R.vs])) (t.s.ef++ys) b:=
  r.fh (λl a=>gB _ k λe=>D.nu.2 (e▸a)) (by grind[gB]) (iZ _)
 refine⟨b,c,_,x,n.next,y,iZ _,⟨hc.next,by grind⟩,?_⟩
 exact {
  fl:=λl a=>d l (D.fl l a)
  gu:=gg _ k
  gk:=by rw[g 1 iq (by decide) (by decide) (by decide) rfl];exact D.gk
  gb:=by rw[g 2 jw (by decide) (by decide) (by decide) rfl];exact D.gb
  ov:=z
  ob:=D.ob.fh m (λl a=>g 4 l (by decide) (by decide) (by decide) a) hc.next
  os:=D.os.fh m (λl a=>g 5 l (by decide) (by decide) (by decide) a) hc.next
  ok:=D.ok.fh m (λl a=>g 6 l (by decide) (by decide) (by decide) a) hc.next
  oc:=D.oc.fh m (λl a=>g 7 l (by decide) (by decide) (by decide) a) hc.next
  nu:=⟨d _ D.nu.1,D.nu.2⟩
  nk:=⟨d _ D.nk.1,D.nk.2⟩
  nb:=⟨d _ D.nb.1,D.nb.2⟩
  sp:=D.sp.fh m
  kc:=D.kc
  gx:=λl a=>⟨d l (D.gx l a).1,(D.gx l a).2.1,λi hi=>by
   match i,hi with
   |0,hi=>exact(D.gx l a).2.2 0 hi
   |1,hi=>exact(D.gx l a).2.2 1 hi
   |2,hi=>exact(D.gx l a).2.2 2 hi
   |3,hi=>exact(l1 l hi).elim ((D.gx l a).2.2 3) λe=>absurd e (Rc (D.gx l a).1)
   |4,hi=>exact(D.gx l a).2.2 4 hi
   |5,hi=>exact(D.gx l a).2.2 5 hi
   |6,hi=>exact(D.gx l a).2.2 6 hi
   |7,hi=>exact(D.gx l a).2.2 7 hi⟩ }
theorem Dw.zft(D:Dw F G h lu iq jw t R){ys:List Bk}{new:List V}{xv:V}(s:lK h 6 xv=some (ys.length,new))(u:qb eK F h new ys)(a:new.length=ys.length*6) (p:gj new=true)(hk:0<ys.length)(hlen:t.blocks.length+ys.length<1000000) :
  ∃b c f,eR fI 6 96 R.vb xv h=some (.val b c)/\h.next<=c.next/\gI 1 (.ptr lu 3) b c=some (.val .undef f)/\c.next<=f.next/\Kp F G h f/\
   Dw F G f lu iq jw {t with blocks:=t.blocks++ys} {R with vb:=b}:=by
 obtain ⟨b,c,w,r,n,l1⟩:=D.ob.append (jW:=96) (ys:=ys) s u a p hk (by decide) D.fl (by omega) (by omega);have q:c.get lu=some (.cells hV 1 true false [.int .i64 1,.int .i64 2,R.vv,R.vb,R.vs]):=by
  rw[n.fh lu D.nu.1 λa=>nomatch D.Eh (i:=0) (j:=4) rfl a (by decide) (by decide)];exact D.gu
 have k:lu<c.next:=EL D.nu.1 n.next;have x:=oG (o:=3) (v:=b) (px:=[.int .i64 1,.int .i64 2,R.vv,b,R.vs]) q (by simp) r.one rfl;have hc:lN (λl=>comp lu iq jw R 0 l\/comp lu iq jw R 4 l) h (c.put lu (.cells hV 1 true false [.int .i64 1,.int .i64 2,R.vv,b,R.vs])):=YZ n (λ_ h=> .inr h) D.nu.1 (.inl rfl);obtain⟨m,z,g⟩:=D.kept (by decide) (by decide) hc;have d:∀l,l<h.next->l<(c.put lu (.cells hV 1 true false [.int .i64 1,.int .i64 2,R.vv,b,R.vs])).next:=λl a=>EL a hc.next;have A:∀l,Loc b l->l≠lu:=λl a e=>by
  subst e;rcases l1 _ a with f|f
  ·exact absurd (D.Eh (i:=0) (j:=4) rfl f (by decide) (by decide)) (by decide)
  ·exact absurd f (Rc D.nu.1)
 have y:kQ eK fI F (c.put lu (.cells hV 1 true false [.int .i64 1,.int .i64 2,R.vv,b,R.vs])) (t.blocks++ys) b:=
  r.fh (λl a=>gB _ k λe=>D.nu.2 (e▸a)) (by grind[gB]) (iZ _)
 refine⟨b,c,_,w,n.next,x,iZ _,⟨hc.next,by grind⟩,?_⟩
 exact {
  fl:=λl a=>d l (D.fl l a)
  gu:=gg _ k
  gk:=by rw[g 1 iq (by decide) (by decide) (by decide) rfl];exact D.gk
  gb:=by rw[g 2 jw (by decide) (by decide) (by decide) rfl];exact D.gb
  ov:=D.ov.fh m (λl a=>g 3 l (by decide) (by decide) (by decide) a) hc.next
  ob:=y
  os:=D.os.fh m (λl a=>g 5 l (by decide) (by decide) (by decide) a) hc.next
  ok:=D.ok.fh m (λl a=>g 6 l (by decide) (by decide) (by decide) a) hc.next
  oc:=D.oc.fh m (λl a=>g 7 l (by decide) (by decide) (by decide) a) hc.next
  nu:=⟨d _ D.nu.1,D.nu.2⟩
  nk:=⟨d _ D.nk.1,D.nk.2⟩
  nb:=⟨d _ D.nb.1,D.nb.2⟩
  sp:=D.sp.fh m
  kc:=D.kc
  gx:=λl a=>⟨d l (D.gx l a).1,(D.gx l a).2.1,λi hi=>by
   match i,hi with
   |0,hi=>exact(D.gx l a).2.2 0 hi
   |1,hi=>exact(D.gx l a).2.2 1 hi
   |2,hi=>exact(D.gx l a).2.2 2 hi
   |3,hi=>exact(D.gx l a).2.2 3 hi
   |4,hi=>exact(l1 l hi).elim ((D.gx l a).2.2 4) λe=>absurd e (Rc (D.gx l a).1)
   |5,hi=>exact(D.gx l a).2.2 5 hi
   |6,hi=>exact(D.gx l a).2.2 6 hi
   |7,hi=>exact(D.gx l a).2.2 7 hi⟩ }
theorem Dw.zfl(D:Dw F G h lu iq jw t R){ys:List (List Fm)}{new:List V}{xv:V}(u:lK h 1 xv=some (ys.length,new))(w:qb eT F h new ys)(a:new.length=ys.length*1) (p:gj new=true)(hk:0<ys.length)(hlen:t.s.eh.length+ys.length<1000000) :
  ∃b c f,eR lX 1 24 R.vs xv h=some (.val b c)/\h.next<=c.next/\gI 1 (.ptr lu 4) b c=some (.val .undef f)/\c.next<=f.next/\Kp F G h f/\
   Dw F G f lu iq jw {t with s:={t.s with eh:=t.s.eh++ys} } {R with vs:=b}:=by
 obtain ⟨b,c,x,r,n,l1⟩:=D.os.append (jW:=24) (ys:=ys) u w a p hk (by decide) D.fl (by omega) (by omega);have q:c.get lu=some (.cells hV 1 true false [.int .i64 1,.int .i64 2,R.vv,R.vb,R.vs]):=by
  rw[n.fh lu D.nu.1 λa=>nomatch D.Eh (i:=0) (j:=5) rfl a (by decide) (by decide)];exact D.gu
 have k:lu<c.next:=EL D.nu.1 n.next;have y:=oG (o:=4) (v:=b) (px:=[.int .i64 1,.int .i64 2,R.vv,R.vb,b]) q (by simp) r.one rfl;have hc:lN (λl=>comp lu iq jw R 0 l\/comp lu iq jw R 5 l) h (c.put lu (.cells hV 1 true false [.int .i64 1,.int .i64 2,R.vv,R.vb,b])):=YZ n (λ_ h=> .inr h) D.nu.1 (.inl rfl);obtain⟨m,A,g⟩:=D.kept (by decide) (by decide) hc;have d:∀l,l<h.next->l<(c.put lu (.cells hV 1 true false [.int .i64 1,.int .i64 2,R.vv,R.vb,b])).next:=λl a=>EL a hc.next;have B:∀l,Loc b l->l≠lu:=λl a e=>by
  subst e;rcases l1 _ a with f|f
  ·exact absurd (D.Eh (i:=0) (j:=5) rfl f (by decide) (by decide)) (by decide)
  ·exact absurd f (Rc D.nu.1)
 have z:kQ eT lX F (c.put lu (.cells hV 1 true false [.int .i64 1,.int .i64 2,R.vv,R.vb,b])) (t.s.eh++ys) b:=
  r.fh (λl a=>gB _ k λe=>D.nu.2 (e▸a)) (by grind[gB]) (iZ _)
 refine⟨b,c,_,x,n.next,y,iZ _,⟨hc.next,by grind⟩,?_⟩
 exact {
  fl:=λl a=>d l (D.fl l a)
  gu:=gg _ k
  gk:=by rw[g 1 iq (by decide) (by decide) (by decide) rfl];exact D.gk
  gb:=by rw[g 2 jw (by decide) (by decide) (by decide) rfl];exact D.gb
  ov:=D.ov.fh m (λl a=>g 3 l (by decide) (by decide) (by decide) a) hc.next
  ob:=D.ob.fh m (λl a=>g 4 l (by decide) (by decide) (by decide) a) hc.next
  os:=z
  ok:=D.ok.fh m (λl a=>g 6 l (by decide) (by decide) (by decide) a) hc.next
  oc:=D.oc.fh m (λl a=>g 7 l (by decide) (by decide) (by decide) a) hc.next
  nu:=⟨d _ D.nu.1,D.nu.2⟩
  nk:=⟨d _ D.nk.1,D.nk.2⟩
  nb:=⟨d _ D.nb.1,D.nb.2⟩
  sp:=D.sp.fh m
  kc:=D.kc
  gx:=λl a=>⟨d l (D.gx l a).1,(D.gx l a).2.1,λi hi=>by
   match i,hi with
   |0,hi=>exact(D.gx l a).2.2 0 hi
   |1,hi=>exact(D.gx l a).2.2 1 hi
   |2,hi=>exact(D.gx l a).2.2 2 hi
   |3,hi=>exact(D.gx l a).2.2 3 hi
   |4,hi=>exact(D.gx l a).2.2 4 hi
   |5,hi=>exact(l1 l hi).elim ((D.gx l a).2.2 5) λe=>absurd e (Rc (D.gx l a).1)
   |6,hi=>exact(D.gx l a).2.2 6 hi
   |7,hi=>exact(D.gx l a).2.2 7 hi⟩ }
theorem Dw.zct(D:Dw F G h lu iq jw t R){ys:List Nat}{new:List V}{xv:V}(u:lK h 1 xv=some (ys.length,new))(w:qb eN F h new ys)(a:new.length=ys.length*1) (p:gj new=true)(hk:0<ys.length)(hlen:t.s.known.length+ys.length<1000000) :
  ∃b c f,eR eo 1 8 R.vk xv h=some (.val b c)/\h.next<=c.next/\gI 1 (.ptr iq 0) b c=some (.val .undef f)/\c.next<=f.next/\Kp F G h f/\
   Dw F G f lu iq jw {t with s:={t.s with known:=t.s.known++ys} } {R with vk:=b}:=by
 obtain ⟨b,c,x,r,n,l1⟩:=D.ok.append (jW:=8) (ys:=ys) u w a p hk (by decide) D.fl (by omega) (by omega);have q:c.get iq=some (.cells iQ 1 true false [R.vk]):=by
  rw[n.fh iq D.nk.1 λa=>nomatch D.Eh (i:=1) (j:=6) rfl a (by decide) (by decide)];exact D.gk
 have k:iq<c.next:=EL D.nk.1 n.next;have y:=oG (o:=0) (v:=b) (px:=[b]) q (by simp) r.one rfl;have hc:lN (λl=>comp lu iq jw R 1 l\/comp lu iq jw R 6 l) h (c.put iq (.cells iQ 1 true false [b])):=YZ n (λ_ h=> .inr h) D.nk.1 (.inl rfl);obtain⟨m,A,g⟩:=D.kept (by decide) (by decide) hc;have d:∀l,l<h.next->l<(c.put iq (.cells iQ 1 true false [b])).next:=λl a=>EL a hc.next;have B:∀l,Loc b l->l≠iq:=λl a e=>by
  subst e;rcases l1 _ a with f|f
  ·exact absurd (D.Eh (i:=1) (j:=6) rfl f (by decide) (by decide)) (by decide)
  ·exact absurd f (Rc D.nk.1)
 have z:kQ eN eo F (c.put iq (.cells iQ 1 true false [b])) (t.s.known++ys) b:=
  r.fh (λl a=>gB _ k λe=>D.nk.2 (e▸a)) (by grind[gB]) (iZ _)
 refine⟨b,c,_,x,n.next,y,iZ _,⟨hc.next,by grind⟩,?_⟩
 exact {
  fl:=λl a=>d l (D.fl l a)
  gu:=by rw[g 0 lu (by decide) (by decide) (by decide) rfl];exact D.gu
  gk:=gg _ k
  gb:=by rw[g 2 jw (by decide) (by decide) (by decide) rfl];exact D.gb
  ov:=D.ov.fh m (λl a=>g 3 l (by decide) (by decide) (by decide) a) hc.next
  ob:=D.ob.fh m (λl a=>g 4 l (by decide) (by decide) (by decide) a) hc.next
  os:=D.os.fh m (λl a=>g 5 l (by decide) (by decide) (by decide) a) hc.next
  ok:=z
  oc:=D.oc.fh m (λl a=>g 7 l (by decide) (by decide) (by decide) a) hc.next
  nu:=⟨d _ D.nu.1,D.nu.2⟩
  nk:=⟨d _ D.nk.1,D.nk.2⟩
  nb:=⟨d _ D.nb.1,D.nb.2⟩
  sp:=D.sp.fh m
  kc:=λl a hc=>(l1 l a).elim (λf=>D.kc l f hc) λe=>absurd e (Rc (D.oc.we hc).2.1)
  gx:=λl a=>⟨d l (D.gx l a).1,(D.gx l a).2.1,λi hi=>by
   match i,hi with
   |0,hi=>exact(D.gx l a).2.2 0 hi
   |1,hi=>exact(D.gx l a).2.2 1 hi
   |2,hi=>exact(D.gx l a).2.2 2 hi
   |3,hi=>exact(D.gx l a).2.2 3 hi
   |4,hi=>exact(D.gx l a).2.2 4 hi
   |5,hi=>exact(D.gx l a).2.2 5 hi
   |6,hi=>exact(l1 l hi).elim ((D.gx l a).2.2 6) λe=>absurd e (Rc (D.gx l a).1)
   |7,hi=>exact(D.gx l a).2.2 7 hi⟩ }
theorem Dw.zfo(D:Dw F G h lu iq jw t R){ys:List Nat}{new:List V}{xv:V}(u:lK h 1 xv=some (ys.length,new))(w:qb eN F h new ys)(a:new.length=ys.length*1) (p:gj new=true)(hk:0<ys.length)(hlen:t.s.cur.length+ys.length<1000000) :
  ∃b c f,eR eo 1 8 R.vc xv h=some (.val b c)/\h.next<=c.next/\gI 1 (.ptr jw 0) b c=some (.val .undef f)/\c.next<=f.next/\Kp F G h f/\
   Dw F G f lu iq jw {t with s:={t.s with cur:=t.s.cur++ys} } {R with vc:=b,cc:=b}:=by
 obtain ⟨b,c,x,r,n,l1⟩:=D.oc.append (jW:=8) (ys:=ys) u w a p hk (by decide) D.fl (by omega) (by omega);have q:c.get jw=some (.cells fI 1 true false [R.cc,.int .i64 0,.int .i64 0,.ee,R.vp,.int .i64 0]):=by
  rw[n.fh jw D.nb.1 λa=>nomatch D.Eh (i:=2) (j:=7) rfl a (by decide) (by decide)];exact D.gb
 have k:jw<c.next:=EL D.nb.1 n.next;have y:=oG (o:=0) (v:=b) (px:=[b,.int .i64 0,.int .i64 0,.ee,R.vp,.int .i64 0]) q (by simp) r.one rfl;have hc:lN (λl=>comp lu iq jw R 2 l\/comp lu iq jw R 7 l) h (c.put jw (.cells fI 1 true false [b,.int .i64 0,.int .i64 0,.ee,R.vp,.int .i64 0])):=YZ n (λ_ h=> .inr h) D.nb.1 (.inl rfl);obtain⟨m,A,g⟩:=D.kept (by decide) (by decide) hc;have d:∀l,l<h.next->l<(c.put jw (.cells fI 1 true false [b,.int .i64 0,.int .i64 0,.ee,R.vp,.int .i64 0])).next:=λl a=>EL a hc.next;have B:∀l,Loc b l->l≠jw:=λl a e=>by
  subst e;rcases l1 _ a with f|f
  ·exact absurd (D.Eh (i:=2) (j:=7) rfl f (by decide) (by decide)) (by decide)
  ·exact absurd f (Rc D.nb.1)
 have z:kQ eN eo F (c.put jw (.cells fI 1 true false [b,.int .i64 0,.int .i64 0,.ee,R.vp,.int .i64 0])) (t.s.cur++ys) b:=
  r.fh (λl a=>gB _ k λe=>D.nb.2 (e▸a)) (by grind[gB]) (iZ _)
 refine⟨b,c,_,x,n.next,y,iZ _,⟨hc.next,by grind⟩,?_⟩
 exact {
  fl:=λl a=>d l (D.fl l a)
  gu:=by rw[g 0 lu (by decide) (by decide) (by decide) rfl];exact D.gu
  gk:=by rw[g 1 iq (by decide) (by decide) (by decide) rfl];exact D.gk
  gb:=gg _ k
  ov:=D.ov.fh m (λl a=>g 3 l (by decide) (by decide) (by decide) a) hc.next
  ob:=D.ob.fh m (λl a=>g 4 l (by decide) (by decide) (by decide) a) hc.next
  os:=D.os.fh m (λl a=>g 5 l (by decide) (by decide) (by decide) a) hc.next
  ok:=D.ok.fh m (λl a=>g 6 l (by decide) (by decide) (by decide) a) hc.next
  oc:=z
  nu:=⟨d _ D.nu.1,D.nu.2⟩
  nk:=⟨d _ D.nk.1,D.nk.2⟩
  nb:=⟨d _ D.nb.1,D.nb.2⟩
  sp:=D.sp.fh m
  kc:=λl a hc=>(l1 l hc).elim (λf=>D.kc l a f) λe=>absurd e (Rc (D.ok.we a).2.1)
  gx:=λl a=>⟨d l (D.gx l a).1,(D.gx l a).2.1,λi hi=>by
   match i,hi with
   |0,hi=>exact(D.gx l a).2.2 0 hi
   |1,hi=>exact(D.gx l a).2.2 1 hi
   |2,hi=>exact(D.gx l a).2.2 2 hi
   |3,hi=>exact(D.gx l a).2.2 3 hi
   |4,hi=>exact(D.gx l a).2.2 4 hi
   |5,hi=>exact(D.gx l a).2.2 5 hi
   |6,hi=>exact(D.gx l a).2.2 6 hi
   |7,hi=>exact(l1 l hi).elim ((D.gx l a).2.2 7) λe=>absurd e (Rc (D.gx l a).1)⟩ }
theorem Dw.cell(D:Dw F G h lu iq jw t R){i:Nat}(hi:i<8)(hc:lN (λl=>comp lu iq jw R i l) h h') :
  (∀l,F l->h'.get l=h.get l)/\(∀l,G l->h'.get l=h.get l)/\∀k l,k<8->k≠i->comp lu iq jw R k l->h'.get l=h.get l:=by
 obtain⟨a,b,c⟩:=D.kept hi hi (hc.X4 (S':=λl=>comp lu iq jw R i l\/comp lu iq jw R i l) λ_ _ h=> .inl h)
 grind
theorem Dw.zfq(D:Dw F G h lu iq jw t R){n:Nat}(g:n<=t.s.known.length) :
  ∃b e,jf 1 R.vk none (some (.int .i64 n)) h=some b/\gI 1 (.ptr iq 0) b h=some (.val .undef e)/\h.next<=e.next/\Kp F G h e/\Dw F G e lu iq jw {t with s:=Un.cut n t.s} {R with vk:=b}:=by
 obtain⟨b,j,f,l1⟩:=D.ok.cut g;have k:=oG (o:=0) (v:=b) (px:=[b]) D.gk (by simp) f.one rfl;have hc:lN (λl=>comp lu iq jw R 1 l) h (h.put iq (.cells iQ 1 true false [b])):=lN.put _ rfl D.nk.1;obtain⟨d,m,c⟩:=D.cell (by decide) hc;refine⟨b,_,j,k,iZ _,⟨hc.next,by grind⟩,?_⟩
 exact {
  fl:=D.fl
  gu:=by rw[c 0 lu (by decide) (by decide) rfl];exact D.gu
  gk:=gg _ D.nk.1
  gb:=by rw[c 2 jw (by decide) (by decide) rfl];exact D.gb
  nu:=D.nu
  nk:=D.nk
  nb:=D.nb
  ov:=D.ov.fh d (λl a=>c 3 l (by decide) (by decide) a) hc.next
  ob:=D.ob.fh d (λl a=>c 4 l (by decide) (by decide) a) hc.next
  os:=D.os.fh d (λl a=>c 5 l (by decide) (by decide) a) hc.next
  ok:=f.fh d (λl a=>c 6 l (by decide) (by decide) (l1 l a)) hc.next
  oc:=D.oc.fh d (λl a=>c 7 l (by decide) (by decide) a) hc.next
  sp:=D.sp.fh d
  kc:=λl a=>D.kc l (l1 l a)
  gx:=λl a=>⟨(D.gx l a).1,(D.gx l a).2.1,λi hi=>by
   match i,hi with
   |0,hi=>exact(D.gx l a).2.2 0 hi
   |1,hi=>exact(D.gx l a).2.2 1 hi
   |2,hi=>exact(D.gx l a).2.2 2 hi
   |3,hi=>exact(D.gx l a).2.2 3 hi
   |4,hi=>exact(D.gx l a).2.2 4 hi
   |5,hi=>exact(D.gx l a).2.2 5 hi
   |6,hi=>exact(D.gx l a).2.2 6 (l1 l hi)
   |7,hi=>exact(D.gx l a).2.2 7 hi⟩ }
theorem Dw.zb4(D:Dw F G h lu iq jw t R){c p:V}{ps:List Nat}(hp:iy eN F h ps p):Kp F G h (h.put jw (.cells fI 1 true false [c,.int .i64 0,.int .i64 0,.ee,p,.int .i64 0]))/\
  Dw F G (h.put jw (.cells fI 1 true false [c,.int .i64 0,.int .i64 0,.ee,p,.int .i64 0])) lu iq jw {t with eQ:=ps} {R with vp:=p,cc:=c}:=by
 have hc:lN (λl=>comp lu iq jw R 2 l) h (h.put jw (.cells fI 1 true false [c,.int .i64 0,.int .i64 0,.ee,p,.int .i64 0])):=lN.put _ rfl D.nb.1;obtain⟨d,e,b⟩:=D.cell (by decide) hc;refine⟨⟨hc.next,by grind⟩,?_⟩
 exact {
  fl:=D.fl
  gu:=by rw[b 0 lu (by decide) (by decide) rfl];exact D.gu
  gk:=by rw[b 1 iq (by decide) (by decide) rfl];exact D.gk
  gb:=gg _ D.nb.1
  nu:=D.nu
  nk:=D.nk
  nb:=D.nb
  ov:=D.ov.fh d (λl a=>b 3 l (by decide) (by decide) a) hc.next
  ob:=D.ob.fh d (λl a=>b 4 l (by decide) (by decide) a) hc.next
  os:=D.os.fh d (λl a=>b 5 l (by decide) (by decide) a) hc.next
  ok:=D.ok.fh d (λl a=>b 6 l (by decide) (by decide) a) hc.next
  oc:=D.oc.fh d (λl a=>b 7 l (by decide) (by decide) a) hc.next
  sp:=hp.fh d
  kc:=D.kc
  gx:=D.gx}
def fzc(F:Nat->Prop)(v:V):Nat->Prop:=λl=>F l\/Loc v l
theorem Dw.flush(D:Dw F G h lu iq jw t R):iy eN (fzc F R.vc) h t.s.cur R.vc/\Dw (fzc F R.vc) G h lu iq jw {t with s:={t.s with cur:=[]} } {R with vc:= .ee}:=by
 refine⟨D.oc.slR (λ_ h=> .inl h) λ_ h=> .inr h,?_⟩
 have D':Dw F G h lu iq jw {t with s:={t.s with cur:=[]} } {R with vc:= .ee}:=
  { D with
    oc:= .nil
    kc:=by simp_all
    gx:=λl a=>⟨(D.gx l a).1,(D.gx l a).2.1,λi hi=>by
      match i,hi with
      |0,hi=>exact(D.gx l a).2.2 0 hi
      |1,hi=>exact(D.gx l a).2.2 1 hi
      |2,hi=>exact(D.gx l a).2.2 2 hi
      |3,hi=>exact(D.gx l a).2.2 3 hi
      |4,hi=>exact(D.gx l a).2.2 4 hi
      |5,hi=>exact(D.gx l a).2.2 5 hi
      |6,hi=>exact(D.gx l a).2.2 6 hi
      |n+7,hi=>exact(match n,hi with|0,hi=>hi)⟩ }
 refine D'.more (λ_ h=> .inl h) λl a=>a.imp id λhc=>⟨(D.oc.we hc).2.1,λi hi=>?_,λb=>(D.gx l b).2.2 7 hc⟩
 match i,hi with
 |0,hi=>exact nomatch D.Eh (i:=0) (j:=7) hi hc (by decide) (by decide)
 |1,hi=>exact nomatch D.Eh (i:=1) (j:=7) hi hc (by decide) (by decide)
 |2,hi=>exact nomatch D.Eh (i:=2) (j:=7) hi hc (by decide) (by decide)
 |3,hi=>exact nomatch D.Eh (i:=3) (j:=7) hi hc (by decide) (by decide)
 |4,hi=>exact nomatch D.Eh (i:=4) (j:=7) hi hc (by decide) (by decide)
 |5,hi=>exact nomatch D.Eh (i:=5) (j:=7) hi hc (by decide) (by decide)
 |6,hi=>exact nomatch D.Eh (i:=6) (j:=7) hi hc (by decide) (by decide)
 |n+7,hi=>exact(match n,hi with|0,hi=>hi)
theorem Dw.zcq(D:Dw F G h lu iq jw t R){p:Nat}{xs:List Nat}{a:V}(hp:p<t.s.ef.length)(j:iy eN F h xs a) :
  ∃l d,gz 6 R.vv (.int .i64 p)=some (.ptr l (p*6))/\gI 1 (.ptr l (p*6+4)) a h=some (.val .undef d)/\h.next<=d.next/\Kp F G h d/\Dw F G d lu iq jw {t with s:=setArgs t.s p xs} R:=by
 obtain ⟨l,d,_,m,n,q,hc⟩:=D.ov.store (i:=p) (k:=4) (y:={t.s.ef[p]with args:=xs}) hp (by decide) j.one (λw ⟨x,o,_⟩=>by subst o;exact⟨a,rfl,j⟩);obtain⟨g,r,f⟩:=D.cell (i:=3) (by decide) hc;refine⟨l,d,m,n,hc.next,⟨hc.next,by grind⟩,?_⟩;have c:∀l,l<h.next->l<d.next:=λl b=>EL b hc.next;have em:(setArgs t.s p xs).ef=t.s.ef.set p {t.s.ef[p]with args:=xs}:=by
  unfold setArgs;show t.s.ef.modify p _=_;refine wBR λi=>?_;rw[List.getElem?_modify,List.getElem?_set];by_cases e:p=i
  ·grind
  ·simp[e]
 exact {
  fl:=λl b=>c l (D.fl l b)
  gu:=by rw[f 0 lu (by decide) (by decide) rfl];exact D.gu
  gk:=by rw[f 1 iq (by decide) (by decide) rfl];exact D.gk
  gb:=by rw[f 2 jw (by decide) (by decide) rfl];exact D.gb
  nu:=⟨c _ D.nu.1,D.nu.2⟩
  nk:=⟨c _ D.nk.1,D.nk.2⟩
  nb:=⟨c _ D.nb.1,D.nb.2⟩
  ov:=by simp_all
  ob:=D.ob.fh g (λl b=>f 4 l (by decide) (by decide) b) hc.next
  os:=D.os.fh g (λl b=>f 5 l (by decide) (by decide) b) hc.next
  ok:=D.ok.fh g (λl b=>f 6 l (by decide) (by decide) b) hc.next
  oc:=D.oc.fh g (λl b=>f 7 l (by decide) (by decide) b) hc.next
  sp:=D.sp.fh g
  kc:=D.kc
  gx:=λl b=>⟨c l (D.gx l b).1,(D.gx l b).2⟩ }
end
