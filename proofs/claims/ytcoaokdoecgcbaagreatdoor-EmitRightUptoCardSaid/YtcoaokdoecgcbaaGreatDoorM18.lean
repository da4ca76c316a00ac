/- Parts. -/
import Derived.Test.YtcoaokdoecgcbaaGreatDoorM09
import Derived.Test.YtcoaokdoecgcbaaGreatDoorM13
set_option maxHeartbeats 4000000
namespace Go.Proofs.YtcoaokdoecgcbaaGreatDoor.Hx
open Un
def eN:rG Nat where
 sz:=1
 rel _ _ n cs:=cs=[.int .i64 n]
 len h:=by subst h;rfl
 one h:=by subst h;rfl
 fh _ h:=h
 mono _ h:=h
def yH(x:Vl)(w:V):List V:=[.int .i64 x.op,.int .i64 x.a,.int .i64 x.b,.int .i64 x.n,w,.int .i64 x.state]
def eV:rG Vl where
 sz:=6
 rel F h x cs:=∃w,cs=yH x w/\iH eN F h x.args w
 len:=λ⟨_,h,_⟩=>by subst h;rfl
 one:=λ⟨_,h,hs⟩=>by subst h;simp only[yH,fe,hs.one];rfl
 fh:=λa ⟨w,h,hs⟩=>⟨w,h,hs.fh a⟩
 mono:=λb ⟨w,h,hs⟩=>⟨w,h,hs.mono b⟩
def rr(x:Bk)(v n p:V):List V:=[v,.int .i64 x.fin,.int .i64 x.cond,n,p,.int .i64 x.state]
def eK:rG Bk where
 sz:=6
 rel F h x cs:=∃v n p,cs=rr x v n p/\iH eN F h x.ee v/\iH eN F h x.next n/\iH eN F h x.fu p
 len:=λ⟨_,_,_,h,_⟩=>by subst h;rfl
 one:=λ⟨_,_,_,h,a,b,c⟩=>by subst h;simp only[rr,fe,a.one,b.one,c.one];rfl
 fh:=λd ⟨v,n,p,h,a,b,c⟩=>⟨v,n,p,h,a.fh d,b.fh d,c.fh d⟩
 mono:=λe ⟨v,n,p,h,a,b,c⟩=>⟨v,n,p,h,a.mono e,b.mono e,c.mono e⟩
def fmC(x:Fm)(l s:V):List V:=[.int .i64 x.func,.int .i64 x.pc,l,s]
def eF:rG Fm where
 sz:=4
 rel F h x cs:=∃l s,cs=fmC x l s/\iH eN F h x.locals l/\iH eN F h x.stack s
 len:=λ⟨_,_,h,_⟩=>by subst h;rfl
 one:=λ⟨_,_,h,a,b⟩=>by subst h;simp only[fmC,fe,a.one,b.one];rfl
 fh:=λc ⟨l,s,h,a,b⟩=>⟨l,s,h,a.fh c,b.fh c⟩
 mono:=λd ⟨l,s,h,a,b⟩=>⟨l,s,h,a.mono d,b.mono d⟩
def eT:rG (List Fm):=eL eF
theorem zY(F:Nat->Prop)(h:Hp):∀(l:List Nat),pU eN F h (l.map λn=>V.int .i64 (n:Nat)) l
 |[]=>trivial
 |n::l=>⟨[.int .i64 n],_,rfl,rfl,zY F h l⟩
def Loc(v:V)(t:Nat):Prop:=match v with
 | .slice l _ _=>l=t
 |_=>False
@[simp] theorem zgs (t:Nat):Loc .ed t=False:=rfl
@[simp] theorem zet (l o n t:Nat):Loc (.slice l o n) t=(l=t):=rfl
def kT{α:Type}(E:rG α)(ty:Nat)(F:Nat->Prop)(h:Hp)(xs:List α)(v:V):Prop:=(v = .ed/\xs=[])\/∃t cs,v = .slice t 0 xs.length/\t<h.next/\¬F t/\h.get t=some (.cells ty E.sz true false cs)/\pU E F h cs xs/\gz cs=true
section
variable{α:Type}{E:rG α}{ty:Nat}{F F':Nat->Prop}{h h':Hp}{xs:List α}{v:V}
theorem kT.nil:kT E ty F h [] .ed:= .inl ⟨rfl,rfl⟩
theorem kT.len(a:kT E ty F h xs v):fD v=some (.int .i64 xs.length):=by
 rcases a with⟨rfl,rfl⟩|⟨t,cs,rfl,_⟩ <;> rfl
theorem kT.one(a:kT E ty F h xs v):v.one=true:=by
 rcases a with⟨rfl,rfl⟩|⟨t,cs,rfl,_⟩ <;> rfl
noncomputable def za1(h:Hp) (l:Nat):Option (Nat×Nat):=match h.get l with
 |some (.cells e sz _ _ _)=>some (e,sz)
 |_=>none
theorem Kx{l e sz:Nat}{a b:Bool}{cs:List V}(c:h.get l=some (.cells e sz a b cs)):za1 h l=some (e,sz):=by unfold za1;rw[c]
theorem kT.xN(b:kT E ty F h xs v){t:Nat}(a:Loc v t):za1 h t=some (ty,E.sz)/\t<h.next/\¬F t:=by
 rcases b with⟨rfl,_⟩|⟨t',cs,rfl,c,d,e,_⟩
 ·exact a.elim
 ·obtain rfl:t' = t:=a;exact⟨Kx e,c,d⟩
theorem kT.fh(a:kT E ty F h xs v)(b:∀l,F l->h'.get l=h.get l)(hl:∀l,Loc v l->h'.get l=h.get l)(c:h.next<=h'.next):kT E ty F h' xs v:=by
 rcases a with a|⟨t,cs,rfl,d,e,f,g,i⟩
 ·exact .inl a
 ·exact .inr ⟨t,cs,rfl,Dy d c,e,by rw[hl t rfl];exact f,g.fh b,i⟩
theorem kT.mono(a:kT E ty F h xs v)(b:∀l,F l->F' l)(c:∀t,Loc v t->¬F' t):kT E ty F' h xs v:=by
 rcases a with a|⟨t,cs,rfl,d,i,e,f,g⟩
 ·exact .inl a
 ·exact .inr ⟨t,cs,rfl,d,c t rfl,e,f.mono b,g⟩
theorem kT.slR(a:kT E ty F h xs v)(b:∀l,F l->F' l)(c:∀t,Loc v t->F' t):iH E F' h xs v:=by
 rcases a with a|⟨t,cs,rfl,f,g,d,e,i⟩
 ·exact .inl a
 ·exact .inr ⟨t,0,ty,true,false,cs,rfl,c t rfl,d,.inr rfl,Ll _,by simpa using e.mono b⟩
theorem kT.read(a:kT E ty F h xs v):iH E (λl=>F l\/Loc v l) h xs v:=a.slR (λ_ h=> .inl h) λ_ h=> .inr h
theorem kT.append{lE:Nat}{x:V}{new:List V}{ys:List α}(B:kT E ty F h xs v)(c:kV h E.sz x=some (ys.length,new))(p:pU E F h new ys)(hl:new.length=ys.length*E.sz)(i:gz new=true)(G:0<ys.length)(H:0<E.sz)
  (o:∀l,F l->l<h.next) (y:(xs.length+ys.length)*lE<=70368744177664) (m:xs.length+ys.length<=70368744177664) :
  ∃q h',eQ ty E.sz lE v x h=some (.val q h')/\kT E ty F h' (xs++ys) q/\lU (Loc v) h h'/\(∀t,Loc q t->Loc v t\/t=h.next):=by
 have f:Nat.beq ys.length 0=false:=by
  cases hq:ys.length with
  |zero=>omega
  |succ k=>rfl
 rcases B with⟨rfl,rfl⟩|⟨t,cs,rfl,j,r,z,s,g⟩
 ·refine⟨.slice h.next 0 ys.length,h.new (.cells ty E.sz true false new),?_,.inr ⟨h.next,new,by simp,RC _,λb=>wBz _ (o _ b),eJ _ _,?_,i⟩,lU.new _ _,λt C=> .inr C.symm⟩
  ·unfold eQ;simp only[c,eD,f,i,BS];rw[zi _ (X2 (by simpa using y)),zi _ (X2 (by simpa using m))]
  ·exact p.fh λl b=>eE _ (o l b)
 ·have D:=s.length;have A:(xs.length+ys.length)*E.sz=xs.length*E.sz+ys.length*E.sz:=XA _ _ _
  cases hroom:Nat.ble (Nat.add 0 (Nat.mul (Nat.add xs.length ys.length) E.sz)) cs.length with
  | true=>
    have I:(xs.length+ys.length)*E.sz<=cs.length:=by
      have:=Iv hroom;show _<=_;rw[show Nat.add 0 (Nat.mul (Nat.add xs.length ys.length) E.sz)=(xs.length+ys.length)*E.sz from HP _]at this;exact this
    refine ⟨.slice t 0 (xs.length+ys.length),h.put t (.cells ty E.sz true false (cs.take (xs.length*E.sz)++new++cs.drop (xs.length*E.sz+new.length))),?_,
      .inr ⟨t,_,by simp,j,r,fT _ j,?_,?_⟩,lU.put _ rfl j,λ_ h=> .inl h⟩
    ·unfold eQ jW
     have u:qv (Nat.add 0 (Nat.mul xs.length E.sz)) cs new=some (cs.take (xs.length*E.sz)++new++cs.drop (xs.length*E.sz+new.length)):=by
       rw[show Nat.add 0 (Nat.mul xs.length E.sz)=xs.length*E.sz from HP _];exact BU (by rw[hl];omega)
     simp only[c,eD,f,i,BS,z,Bool.not_false,hroom,u];rw[zi _ (XV _)];rfl
    ·refine pU.fh (h:=h) (λl b=>gi _ j λe=>r (e▸b)) ?_
     rw[KB];exact s.take.append (by rw[Rh];omega) p.more
    ·rw[pG,pG,i]
     have e1:∀(l:List V),gz l=l.all V.one:=λl=>by
       induction l with
       |nil=>rfl
       |cons a l w=>rw[fe,w];rfl
     rw[e1]at g⊢;rw[e1];rw[PX]at g;simp only[Bool.and_true,sJ,PX]
     exact⟨λx c=>g x (wBk c),λx c=>g x (List.mem_of_mem_drop c)⟩
  | false=>
    have e1:∀(l:List V),gz l=l.all V.one:=λl=>by
      induction l with
      |nil=>rfl
      |cons a l w=>rw[fe,w];rfl
    have d:gz (cs.take (xs.length*E.sz))=true:=by
      rw[e1]at g⊢;rw[PX]at g⊢;exact λx c=>g x (wBk c)
    refine ⟨.slice h.next 0 (xs.length+ys.length),(h.put t (.cells ty E.sz false false cs)).new (.cells ty E.sz true false (cs.take (xs.length*E.sz)++new)),?_,
      .inr ⟨h.next,_,by simp,RC _,λb=>wBz _ (o _ b),eJ (h.put t _) _,?_,by rw[pG,d,i];rfl⟩,
      (lU.put (S:=Loc (.slice t 0 xs.length)) (.cells ty E.sz false false cs) rfl j).trans (lU.new _ _),λ_ h=> .inr h.symm⟩
    ·unfold eQ jW
     have n:sub cs 0 (Nat.mul xs.length E.sz)=some (cs.take (xs.length*E.sz)):=by
       show sub cs 0 (xs.length*E.sz)=_;rw[Gk (show 0+xs.length*E.sz<=cs.length by omega),wBL]
     simp only[c,eD,f,i,BS,z,Bool.not_false,hroom,n,d];rw[zi _ (XV _),zi _ (show Nat.ble (Nat.mul (Nat.add xs.length ys.length) lE) 70368744177664=true from X2 y),zi _ (show Nat.ble (Nat.add xs.length ys.length) 70368744177664=true from X2 m)];rfl
    ·refine pU.fh (h:=h) (λl b=>?_) ?_
     ·rw[eE _ (show l<(h.put t _).next from o l b),gi _ j λe=>r (e▸b)]
     ·exact s.take.append (by rw[Rh];omega) p
theorem kT.cut(d:kT E ty F h xs v){n:Nat}(a:n<=xs.length):∃b,iL E.sz v none (some (.int .i64 n)) h=some b/\kT E ty F h (xs.take n) b/\∀t,Loc b t->Loc v t:=by
 rcases d with⟨rfl,rfl⟩|⟨t,cs,rfl,e,f,c,g,i⟩
 ·obtain rfl:n=0:=by simpa using a
  exact⟨.ed,rfl,.inl ⟨rfl,rfl⟩,λ_ h=>h⟩
 ·refine⟨.slice t 0 n,?_,.inr ⟨t,cs,by rw[Rh,wBm a],e,f,c,g.taken n,i⟩,λ_ h=>h⟩;unfold iL jW;simp only[c,eD,L0,Qa];rw[zi _ (XV _),zi _ (X2 (Ll _)),zi _ (by rw[X2 a];rfl)];simp
theorem kT.store(n:kT E ty F h xs v){i k:Nat}{y:α}{u:V}(hi:i<xs.length)(B:k<E.sz)(f:u.one=true)(o:∀w,E.rel F h xs[i] w->E.rel F h y (w.set k u)) :
  ∃t h',Loc v t/\gP E.sz v (.int .i64 i)=some (.ptr t (i*E.sz))/\gL 1 (.ptr t (i*E.sz+k)) u h=some (.val .undef h')/\kT E ty F h' (xs.set i y) v/\lU (Loc v) h h':=by
 rcases n with⟨rfl,rfl⟩|⟨t,cs,rfl,c,g,p,j,d⟩
 ·simp at hi
 ·obtain ⟨w,q,C,m⟩:=j.get (i:=i) (x:=xs[i]) (iz hi);have b:cs.set (i*E.sz+k) u=cs.take (i*E.sz)++w.set k u++cs.drop (i*E.sz+E.sz):=by
   have e0:cs=cs.take (i*E.sz)++(w++cs.drop (i*E.sz+E.sz)):=by
    rw[<-q]
    conv=>lhs;rw[<-wA3 (i*E.sz) cs]
    congr 1;rw[<-wBe,wA3]
   have D:=E.len m
   conv=>lhs;rw[e0]
   rw[List.set_append_right _ _ (by rw[Rh];omega),Rh,wBm (by omega),Nat.add_sub_cancel_left,List.set_append_left _ _ (by omega),KB]
  refine⟨t,h.put t (.cells ty E.sz true false (cs.set (i*E.sz+k) u)),rfl,by rw[wx _ _ _ _ _ _ hi,HP],Ox p (by omega) f,.inr ⟨t,_,by simp,c,g,fT _ c,?_,?_⟩,lU.put _ rfl c⟩
  ·refine pU.fh (h:=h) (λl r=>gi _ c λe=>g (e▸r)) ?_;rw[b];exact j.set hi (o w m)
  ·have e1:∀(l:List V),gz l=l.all V.one:=λl=>by
    induction l with
    |nil=>rfl
    |cons a l s=>rw[fe,s];rfl
   rw[e1]at d⊢;rw[PX]at d⊢;intro x z;rcases wBF z with A|rfl
   ·exact d x A
   ·exact f
end
abbrev fw:Nat:=3
abbrev hC:Nat:=4
abbrev jE:Nat:=22
abbrev uI:Nat:=34
abbrev zT:Nat:=81
abbrev qJ:Nat:=79
abbrev ML:Nat:=88
abbrev Ss:Nat:=24
abbrev A0:Nat:=157
abbrev hY:Nat:=130
abbrev me:Nat:=154
abbrev zgS:Nat:=164
abbrev OX:Nat:=162
abbrev pB:Nat:=37
abbrev zfy:Nat:=132
open Un
structure Pc where
 oJ:Nat->Prop
 ok:(Nat->Prop)->Hp->Prop
 Iu:∀{F:Nat->Prop} {h:Hp},ok F h->∀l,oJ l->l<h.next/\¬F l
 fh:∀{F:Nat->Prop} {h h':Hp},ok F h->(∀l,F l->h'.get l=h.get l)->(∀l,oJ l->h'.get l=h.get l)->h.next<=h'.next->ok F h'
 mono:∀{F F':Nat->Prop} {h:Hp},ok F h->(∀l,F l->F' l)->(∀l,oJ l->¬F' l)->ok F' h
def emp:Pc:=⟨λ_=>False,λ_ _=>True,by simp_all,by simp_all,by simp_all⟩
def ft(l ty:Nat)(vs:List V):Pc where
 oJ:=λm=>m=l
 ok F h:=h.get l=some (.cells ty 1 true false vs)/\l<h.next/\¬F l
 Iu:=by simp_all
 fh:=by grind
 mono:=by simp_all
def fE{α:Type}(E:rG α)(ty:Nat)(xs:List α)(v:V):Pc where
 oJ:=Loc v
 ok F h:=kT E ty F h xs v
 Iu:=λh _ hl=>(h.xN hl).2
 fh:=by grind[kT.fh]
 mono:=by grind[kT.mono]
structure Sn (F:Nat->Prop) (h:Hp) (F':Nat->Prop) (h':Hp):Prop where
 next:h.next<=h'.next
 fh:∀l,F l->h'.get l=h.get l
 mono:∀l,F l->F' l
theorem Sn.refl(F:Nat->Prop)(h:Hp):Sn F h F h:=⟨jv _,by simp_all,λ_ h=>h⟩
theorem Sn.trans{F F' c:Nat->Prop} {h h' d:Hp}(a:Sn F h F' h')(b:Sn F' h' c d):Sn F h c d:=
 ⟨KK a.next b.next,λl hl=>(b.fh l (a.mono l hl)).trans (a.fh l hl),λl hl=>b.mono l (a.mono l hl)⟩
structure ej (F:Nat->Prop) (h:Hp) (cs:List Pc):Prop where
 fl:∀l,F l->l<h.next
 ok:∀(i:Nat) c,cs[i]? =some c->c.ok F h
 Kv:∀(i j:Nat) c d,cs[i]? =some c->cs[j]? =some d->i≠j->∀l,c.oJ l->¬d.oJ l
section
variable{F F':Nat->Prop}{h h':Hp}{cs:List Pc}{i j:Nat}{c d p:Pc}
theorem KQ{cs:List Pc}{i:Nat}{p:Pc}{j:Nat}{d:Pc}(hd:(cs.set i p)[j]? =some d):(j=i/\d=p)\/(j≠i/\cs[j]? =some d):=by
 grind
theorem ej.nil(a:∀l,F l->l<h.next):ej F h []:=⟨a,by simp_all,by simp_all⟩
theorem ej.cons(H:ej F h cs)(b:p.ok F h)(e:∀(i:Nat) c,cs[i]? =some c->∀l,p.oJ l->¬c.oJ l):ej F h (p::cs) where
 fl:=H.fl
 ok:=λi c hc=>by
  cases i with
  |zero=>simp_all
  |succ i=>exact H.ok i c hc
 Kv:=λi j c d hc hd f l hl a=>by
  cases i with
  | zero=>
    grind
  | succ i=>
    cases j with
    |zero=>grind
    |succ j=>exact H.Kv i j c d hc hd (by omega) l hl a
theorem ej.tail(H:ej F h (p::cs)):ej F h cs where
 fl:=H.fl
 ok:=λi c hc=>H.ok (i+1) c hc
 Kv:=λi j c d hc hd a=>H.Kv (i+1) (j+1) c d hc hd (by omega)
theorem ej.add(H:ej F h cs)(a:p.ok F h)(b:∀l,¬p.oJ l):ej F h (p::cs):=H.cons a (by simp_all)
theorem ej.swap(H:ej F h cs)(hi:cs[i]? =some c)(q:p.ok F h)(m:∀l,p.oJ l->c.oJ l):ej F h (cs.set i p) where
 fl:=H.fl
 ok:=λj d hd=>by
  rcases KQ hd with⟨_,rfl⟩|⟨_,f⟩
  ·exact q
  ·exact H.ok j d f
 Kv:=λj k a b r n g l hl e=>by
  rcases KQ r with⟨e1,rfl⟩|⟨e1,o⟩
  ·rcases KQ n with⟨e2,_⟩|⟨_,f⟩
   ·omega
   ·subst e1;exact H.Kv j k c b hi f g l (m l hl) e
  ·rcases KQ n with⟨e2,rfl⟩|⟨_,f⟩
   ·subst e2;exact H.Kv j k a c o hi g l hl (m l e)
   ·exact H.Kv j k a b o f g l hl e
theorem ej.forget(H:ej F h cs)(hi:cs[i]? =some c):ej F h (cs.set i emp):=H.swap hi trivial λ_ h=>h.elim
theorem ej.zbH(H:ej F h cs)(hi:cs[i]? =some c)(hc:lU c.oJ h h')(q:∀l,F l->F' l)(m:∀l,F' l->F l\/c.oJ l\/(h.next<=l/\l<h'.next))(x:p.ok F' h')(s:∀l,p.oJ l->c.oJ l\/h.next<=l):ej F' h' (cs.set i p)/\Sn F h F' h':=by
 have n:=H.ok i c hi;have r:=λl hl=>hc.fh l (H.fl l hl) λhs=>(c.Iu n l hs).2 hl;have other:∀j d,j≠i->cs[j]? =some d->d.ok F' h'/\∀l,d.oJ l->¬p.oJ l:=λj d t hd=>by
  have g:=H.ok j d hd;have o:=H.Kv j i d c hd hi t;refine⟨d.mono (d.fh g r (λl hl=>hc.fh l (d.Iu g l hl).1 (o l hl)) hc.next) q λl hl e=>?_,λl hl e=>?_⟩
  ·rcases m l e with f|f|f
   ·exact(d.Iu g l hl).2 f
   ·simp_all
   ·have:=(d.Iu g l hl).1;omega
  ·rcases s l e with f|f
   ·simp_all
   ·have:=(d.Iu g l hl).1;omega
 refine⟨⟨λl hl=>?_,λj d hd=>?_,λj k a b u v w l hl e=>?_⟩,⟨hc.next,r,q⟩⟩
 ·rcases m l hl with f|f|f
  ·exact Dy (H.fl l f) hc.next
  ·exact Dy (c.Iu n l f).1 hc.next
  omega
 ·grind
 ·rcases KQ u with⟨e1,rfl⟩|⟨e1,g⟩
  ·grind
  ·rcases KQ v with⟨e2,rfl⟩|⟨_,o⟩
   ·grind
   ·exact H.Kv j k a b g o w l hl e
theorem ej.Bm(H:ej F h cs)(hi:cs[i]? =some c)(hc:lU c.oJ h h')(a:p.ok F h')(b:∀l,p.oJ l->c.oJ l\/h.next<=l):ej F h' (cs.set i p)/\Sn F h F h':=
 H.zbH hi hc (by simp_all) (by simp_all) a b
theorem ej.grow(H:ej F h cs)(a:Io h h'):ej F h' cs/\Sn F h F h':=by
 have b:=λl hl=>a.fh l (H.fl l hl) id;exact⟨⟨λl hl=>Dy (H.fl l hl) a.next,λj d hd=>d.fh (H.ok j d hd) b (λl hl=>a.fh l (d.Iu (H.ok j d hd) l hl).1 id) a.next,H.Kv⟩,⟨a.next,b,λ_ h=>h⟩⟩
theorem ej.new(H:ej F h cs)(o:O)(b:p.ok F (h.new o))(f:∀l,p.oJ l->l=h.next):ej F (h.new o) (p::cs)/\Sn F h F (h.new o):=by
 let⟨c,e⟩:=H.grow (lU.new h o)
 refine⟨c.cons b λj d hd l hl a=>?_,e⟩;have:=(d.Iu (H.ok j d hd) l a).1
 grind
theorem ej.fresh(H:ej F h cs):¬F h.next:=λa=>wBz _ (H.fl _ a)
theorem ej.HM(H:ej F h cs)(ty:Nat)(vs:List V):ej F (h.new (.cells ty 1 true false vs)) (ft h.next ty vs::cs)/\Sn F h F (h.new (.cells ty 1 true false vs)):=
 H.new _ ⟨eJ _ _,RC _,H.fresh⟩ λ_ e=>e
theorem ej.NX(H:ej F h cs){α:Type}{E:rG α}(ty:Nat){xs:List α}{ws:List V}{n:Nat}(a:n=xs.length)(b:pU E F h ws xs)(c:gz ws=true) :
  ej F (h.new (.cells ty E.sz true false ws)) (fE E ty xs (.slice h.next 0 n)::cs)/\Sn F h F (h.new (.cells ty E.sz true false ws)):=by
 subst a;exact H.new _ (.inr ⟨h.next,ws,rfl,RC _,H.fresh,eJ _ _,b.fh λl hl=>eE _ (H.fl l hl),c⟩) λ_ e=>e.symm
theorem ej.Xu(H:ej F h cs){α:Type}{E:rG α}(ty:Nat){xs:List α}{ws:List V}{n:Nat}(c:n=xs.length)(e:pU E F h ws xs)(ro:Bool) :
  ej (λl=>F l\/l=h.next) (h.new (.cells ty E.sz true ro ws)) cs/\Sn F h (λl=>F l\/l=h.next) (h.new (.cells ty E.sz true ro ws))/\iH E (λl=>F l\/l=h.next) (h.new (.cells ty E.sz true ro ws)) xs (.slice h.next 0 n):=by
 subst c
 let⟨a,b⟩:=H.grow (lU.new h (.cells ty E.sz true ro ws))
 refine⟨⟨λl hl=>?_,λj d hd=>d.mono (a.ok j d hd) (by simp_all) λl hl f=>?_,a.Kv⟩,⟨b.next,b.fh,by simp_all⟩,?_⟩
 ·rcases hl with hl|rfl
  ·exact a.fl l hl
  simp_all
 ·have g:=d.Iu (H.ok j d hd) l hl
  simp_all
 ·exact .inr ⟨h.next,0,ty,true,ro,ws,rfl,.inr rfl,eJ _ _,.inr rfl,Ll _,by rw[wBL];exact(e.fh λl hl=>eE _ (H.fl l hl)).mono (by simp_all)⟩
theorem ej.get(H:ej F h cs)(i:Nat){l ty:Nat}{vs:List V}(hi:cs[i]? =some (ft l ty vs)):h.get l=some (.cells ty 1 true false vs):=(H.ok i _ hi).1
theorem ej.ld(H:ej F h cs)(i:Nat){l ty o:Nat}{vs:List V}{u:V}(hi:cs[i]? =some (ft l ty vs))(a:vs[o]? =some u):eC (.ptr l o) h=some u:=j5 (H.get i hi) a
theorem ej.zB(H:ej F h cs)(i:Nat){l ty n:Nat}{vs:List V}(hi:cs[i]? =some (ft l ty vs))(a:vs.length=n):gy n (.ptr l 0) h=some (.agg vs):=Av (H.get i hi) a
theorem ej.st(H:ej F h cs)(i:Nat){l ty o:Nat}{vs:List V}{u:V}(hi:cs[i]? =some (ft l ty vs))(b:o<vs.length)(c:u.one=true) :
  ∃h',gL 1 (.ptr l o) u h=some (.val .undef h')/\h.next<=h'.next/\ej F h' (cs.set i (ft l ty (vs.set o u)))/\Sn F h F h':=by
 have a:=H.ok i _ hi;refine⟨_,Ox a.1 b c,jv _,H.Bm hi (lU.put _ rfl a.2.1) ⟨fT _ a.2.1,a.2.1,a.2.2⟩ λ_ h=> .inl h⟩
theorem ej.stk(H:ej F h cs)(i:Nat){l ty o:Nat}{vs:List V}{u:V}(hi:cs[i]? =some (ft l ty vs))(b:o<vs.length)(c:u.one=true) :
  ∃h',gL 1 (.ptr l o) u h=some (.val .undef h')/\h.next<=h'.next/\ej F h' (cs.set i (ft l ty (vs.set o u)))/\Sn F h F h'/\∀m,m≠l->h'.get m=h.get m:=by
 have a:=H.ok i _ hi
 let⟨d,e⟩:=H.Bm (p:=ft l ty (vs.set o u)) hi (lU.put _ rfl a.2.1) ⟨fT _ a.2.1,a.2.1,a.2.2⟩ λ_ h=> .inl h
 exact⟨_,Ox a.1 b c,jv _,d,e,λm f=>gi _ a.2.1 (by omega)⟩
theorem ej.XM(H:ej F h cs)(i:Nat){l ty n:Nat}{vs ws:List V}(hi:cs[i]? =some (ft l ty vs))(b:ws.length=n)(hv:vs.length=n)(c:gz ws=true) :
  ∃h',gL n (.ptr l 0) (.agg ws) h=some (.val .undef h')/\h.next<=h'.next/\ej F h' (cs.set i (ft l ty ws))/\Sn F h F h':=by
 have a:=H.ok i _ hi;refine⟨_,GX a.1 b hv c,jv _,H.Bm hi (lU.put _ rfl a.2.1) ⟨fT _ a.2.1,a.2.1,a.2.2⟩ λ_ h=> .inl h⟩
theorem ej.MU(H:ej F h cs)(i:Nat){l ty:Nat}{vs:List V}(hi:cs[i]? =some (ft l ty vs)):ej (λm=>F m\/m=l) h (cs.set i emp)/\Sn F h (λm=>F m\/m=l) h:=
 H.zbH hi (lU.refl _ _) (by simp_all) (λ_ h=>h.imp id .inl) trivial λ_ h=>h.elim
section
variable{α:Type}{E:rG α}{ty:Nat}{xs:List α}{v:V}
theorem ej.row(H:ej F h cs)(i:Nat)(hi:cs[i]? =some (fE E ty xs v)):kT E ty F h xs v:=H.ok i _ hi
theorem ej.len(H:ej F h cs)(i:Nat)(hi:cs[i]? =some (fE E ty xs v)):fD v=some (.int .i64 xs.length):=(H.row i hi).len
theorem ej.one(H:ej F h cs)(i:Nat)(hi:cs[i]? =some (fE E ty xs v)):v.one=true:=(H.row i hi).one
theorem ej.ix(H:ej F h cs)(i:Nat)(hi:cs[i]? =some (fE E ty xs v)){k:Nat}(b:k<xs.length)(a:IntKind) :
  ∃l o w,gP E.sz v (.int a k)=some (.ptr l o)/\gy E.sz (.ptr l o) h=some (.agg w)/\E.rel (λl=>F l\/Loc v l) h xs[k] w/\∀j u,w[j]? =some u->eC (.ptr l (o+j)) h=some u:=by
 let⟨l,o,w,_,c,d,e,f⟩:=(H.row i hi).read.ix b a
 grind
theorem ej.XZ(H:ej F h cs)(i:Nat)(hi:cs[i]? =some (fE E ty xs v)){k:Nat}(b:k<xs.length)(a:IntKind)(c:E.sz=1) :
  ∃l o u,gP 1 v (.int a k)=some (.ptr l o)/\eC (.ptr l o) h=some u/\E.rel (λl=>F l\/Loc v l) h xs[k] [u]:=by
 let⟨l,o,u,_,d,e,f⟩:=(H.row i hi).read.XZ b a c
 grind
theorem ej.L9(H:ej F h cs)(i:Nat)(hi:cs[i]? =some (fE E ty xs v)){k:Nat}(e:k<xs.length)(a:E.sz=1){y:α}{u:V}(f:u.one=true)(g:E.rel F h y [u]) :
  ∃l o h',gP 1 v (.int .i64 k)=some (.ptr l o)/\gL 1 (.ptr l o) u h=some (.val .undef h')/\h.next<=h'.next/\ej F h' (cs.set i (fE E ty (xs.set k y) v))/\Sn F h F h':=by
 let ⟨t,h',n,b,c,j,d⟩:=(H.row i hi).store (k:=0) (y:=y) e (by omega) f (λw m=>by
  have hl:=E.len m;rw[a]at hl
  match w,hl with
  |[x],_=>exact g)
 rw[a]at b c;exact⟨t,k*1,h',b,c,d.next,H.Bm hi d j λ_ h=> .inl h⟩
end
end
open Un
section
variable{F F':Nat->Prop}{h h':Hp}{cs:List Pc}{α:Type}{E:rG α}{ty:Nat}{xs ys:List α}{v x:V}
theorem pU.one:∀{xs:List α}{ws:List V},pU E F h ws xs->ws.length=xs.length*E.sz->gz ws=true
 | [],ws,_,hl=>by
   simp_all
 | y::xs,ws,⟨w,r,b,a,c⟩,hl=>by
   subst b;have d:=E.len a;rw[pG,E.one a,pU.one c (by grind)];rfl
theorem pU.rep{y:α}{u:V}(a:E.rel F h y [u]):∀n,pU E F h (List.replicate n u) (List.replicate n y)
 |0=>trivial
 |n+1=>⟨[u],_,rfl,a,pU.rep a n⟩
theorem IJ{u:V}(a:u.one=true):∀n,gz (List.replicate n u)=true
 |0=>rfl
 |n+1=>by rw[List.replicate_succ,fe,a,IJ a n];rfl
theorem DV{l off n IZ sz:Nat}{ro:Bool}{ds:List V}(a:h.get l=some (.cells IZ sz true ro ds))(hl:off+n*sz<=ds.length):∃new,kV h sz (.slice l off n)=some (n,new)/\new=(ds.drop off).take (n*sz):=by
 cases n with
 |zero=>exact⟨_,rfl,by simp⟩
 | succ n=>
   refine⟨_,?_,rfl⟩;unfold kV Hj jW;have:=Gk hl
   simp_all
theorem iH.xc(hs:iH E F h ys x):∃new,kV h E.sz x=some (ys.length,new)/\pU E F h new ys/\new.length=ys.length*E.sz:=by
 rcases hs with⟨rfl,rfl⟩|⟨l,off,IZ,live,ro,ds,rfl,e,b,c,f,a⟩
 ·exact⟨[],rfl,trivial,by simp⟩
 ·have d:=a.length;rw[wBa]at d;rcases c with rfl|rfl
  ·exact⟨[],rfl,trivial,by simp⟩
  ·let⟨new,e1,e2⟩:=DV (n:=ys.length) (off:=off) b (by omega)
   exact⟨new,e1,by rw[e2];exact a.take,by simp_all⟩
theorem kT.xc(hs:kT E ty F h ys x):∃new,kV h E.sz x=some (ys.length,new)/\pU E F h new ys/\new.length=ys.length*E.sz:=by
 rcases hs with⟨rfl,rfl⟩|⟨t,ds,rfl,c,d,b,a,e⟩
 ·exact⟨[],rfl,trivial,by simp⟩
 ·have f:=a.length
  let⟨new,e1,e2⟩:=DV (n:=ys.length) (off:=0) b (by omega)
  refine⟨new,e1,by rw[e2,wBL];exact a.take,by simp_all⟩
theorem V1{e:Nat}{z w:V}(a:z.one=true)(b:w.one=true):iK e 1 1 z [(0,w)]=some (.cells e 1 true false [w],λl=> .slice l 0 1):=by
 unfold iK;simp only[xE,eD,tM a,tM b];rw[zi _ (by rfl)];show oB (oB (some [w]) λcs=>some cs) _=_
 simp_all
theorem tY{e sz:Nat}{z:V}:iK e sz 0 z []=some (.cells e sz true false [],λl=> .slice l 0 0):=rfl
theorem ej.app(H:ej F h cs)(i:Nat)(hi:cs[i]? =some (fE E ty xs v)){lE:Nat}{new:List V}(d:kV h E.sz x=some (ys.length,new))(e:pU E F h new ys)(hl:new.length=ys.length*E.sz)
  (g:0<E.sz) (j:lE<=1000) (b:xs.length+ys.length<=10000000) :
  ∃a h',eQ ty E.sz lE v x h=some (.val a h')/\h.next<=h'.next/\ej F h' (cs.set i (fE E ty (xs++ys) a))/\Sn F h F h':=by
 have c:=H.row i hi;by_cases hk:0<ys.length
 ·have k:=Nat.mul_le_mul b j
  let⟨a,h',e1,m,f,l1⟩:=c.append (lE:=lE) d e hl (e.one hl) hk g H.fl (by omega) (by omega)
  let⟨n,o⟩:=H.Bm (p:=fE E ty (xs++ys) a) hi f m λl hl=>(l1 l hl).imp id (by omega)
  exact⟨a,h',e1,f.next,n,o⟩
 ·have e0:ys=[]:=by simp_all
  subst e0;refine⟨v,h,?_,jv _,by rw[Hf];exact H.swap hi c λ_ h=>h,Sn.refl _ _⟩;unfold eQ;rw[d];rcases c with⟨rfl,_⟩|⟨t,ds,rfl,_⟩ <;> rfl
theorem ej.O9(H:ej F h cs)(i:Nat)(hi:cs[i]? =some (fE E ty xs v)){lE:Nat}(hs:iH E F h ys x)(c:0<E.sz)(d:lE<=1000)(a:xs.length+ys.length<=10000000) :
  ∃b h',eQ ty E.sz lE v x h=some (.val b h')/\h.next<=h'.next/\ej F h' (cs.set i (fE E ty (xs++ys) b))/\Sn F h F h':=by
 let⟨new,e1,e2,e⟩:=hs.xc
 exact H.app i hi e1 e2 e c d a
theorem ej.zek(H:ej F h cs)(i j:Nat)(hi:cs[i]? =some (fE E ty xs v)){c:Nat}(d:cs[j]? =some (fE E c ys x)){lE:Nat}(e:0<E.sz)(f:lE<=1000)(a:xs.length+ys.length<=10000000) :
  ∃b h',eQ ty E.sz lE v x h=some (.val b h')/\h.next<=h'.next/\ej F h' (cs.set i (fE E ty (xs++ys) b))/\Sn F h F h':=by
 let⟨new,e1,e2,g⟩:=(H.row j d).xc
 exact H.app i hi e1 e2 g e f a
theorem ej.wi(H:ej F h cs)(i:Nat)(hi:cs[i]? =some (fE E ty xs v)){lE IZ:Nat}{y:α}{w:List V}{ro:Bool}(b:E.rel F h y w)(c:0<E.sz)(d:lE<=1000)(e:xs.length<1000000) :
  ∃a h',eQ ty E.sz lE v (.slice h.next 0 1) (h.new (.cells IZ E.sz true ro w))=some (.val a h')/\h.next+1<=h'.next/\ej F h' (cs.set i (fE E ty (xs++[y]) a))/\Sn F h F h':=by
 let⟨f,s1⟩:=H.grow (lU.new h (.cells IZ E.sz true ro w))
 have g:kV (h.new (.cells IZ E.sz true ro w)) E.sz (.slice h.next 0 1)=some (1,w):=nC (by rw[E.len b];simp)
 let⟨a,h',e1,e2,j,k⟩:=f.app (ys:=[y]) i hi g ⟨w,[],by simp,E.fh (λl hl=>eE _ (H.fl l hl)) b,trivial⟩ (by rw[E.len b];simp) c d (by simp;omega)
 exact⟨a,h',e1,e2,j,s1.trans k⟩
theorem ej.zdK(H:ej F h cs)(i:Nat)(hi:cs[i]? =some (fE E ty xs v)){n:Nat}(b:n<=xs.length) :
  ∃a,iL E.sz v none (some (.int .i64 n)) h=some a/\ej F h (cs.set i (fE E ty (xs.take n) a)):=by
 let⟨a,c,d,e⟩:=(H.row i hi).cut b
 exact⟨a,c,H.swap hi d e⟩
theorem ej.ji(H:ej F h cs)(i:Nat)(hi:cs[i]? =some (fE E ty xs v)):ej (λl=>F l\/Loc v l) h (cs.set i emp)/\Sn F h (λl=>F l\/Loc v l) h/\iH E (λl=>F l\/Loc v l) h xs v:=by
 let⟨a,b⟩:=H.zbH (p:=emp) (F':=λl=>F l\/Loc v l) hi (lU.refl _ _) (by simp_all) (λ_ h=>h.imp id .inl) trivial λ_ h=>h.elim
 exact⟨a,b,(H.row i hi).read⟩
theorem ej.make(H:ej F h cs){y:α}{u:V}(n:Nat)(a:E.rel F h y [u])(c:E.sz=1):ej F (h.new (.cells ty 1 true false (List.replicate n u))) (fE E ty (List.replicate n y) (.slice h.next 0 n)::cs)/\Sn F h F (h.new (.cells ty 1 true false (List.replicate n u))):=by
 have b:=E.one a;rw[fe,sJ]at b;have:=H.NX ty (n:=n) (by simp) (pU.rep a n) (IJ b.1 n)
 simp_all
theorem pC{e lE n:Nat}{z:V}(c:z.one=true)(a:lE<=100)(b:n<=1000000) :
  jo e 1 lE z (.int .i64 (n:Int)) (.int .i64 (n:Int))=some (O.cells e 1 true false (List.replicate n z),λl=>V.slice l 0 n):=by
 have:=Nat.mul_le_mul b a
 grind[OQ,tM,ZC]
theorem iJ{l o:Nat}{u:V}(hl:eC (.ptr l o) h=some u)(a:h'.get l=h.get l):eC (.ptr l o) h' = some u:=by
 grind[eC,ld1,jW,tw]
theorem Qi{l o n:Nat}{u:V}(hl:gy n (.ptr l o) h=some u)(a:h'.get l=h.get l):gy n (.ptr l o) h' = some u:=by
 grind[gy,Hj,jW,tw]
end
open Un
def up{ι α:Type}[DecidableEq ι] (f:ι->Option α)(i:ι)(x:Option α):ι->Option α:=λj=>if j=i then x else f j
@[simp] theorem zgp {ι α:Type} [DecidableEq ι] (f:ι->Option α) (i:ι) (x:Option α):up f i x i=x:=if_pos rfl
section
variable{F:Nat->Prop}{h:Hp}{cs:List Pc}{p q:Pc}
theorem ej.sw(H:ej F h (p::q::cs)):ej F h (q::p::cs) where
 fl:=H.fl
 ok:=λi c hc=>by
  match i,hc with
  |0,hc=>exact H.ok 1 c hc
  |1,hc=>exact H.ok 0 c hc
  |i+2,hc=>exact H.ok (i+2) c hc
 Kv:=λi j c d hc hd a=>by
  match i,j,hc,hd with
  |0,0,_,_=>omega
  |0,1,hc,hd=>exact H.Kv 1 0 c d hc hd (by omega)
  |0,j+2,hc,hd=>exact H.Kv 1 (j+2) c d hc hd (by omega)
  |1,0,hc,hd=>exact H.Kv 0 1 c d hc hd (by omega)
  |1,1,_,_=>omega
  |1,j+2,hc,hd=>exact H.Kv 0 (j+2) c d hc hd (by omega)
  |i+2,0,hc,hd=>exact H.Kv (i+2) 1 c d hc hd (by omega)
  |i+2,1,hc,hd=>exact H.Kv (i+2) 0 c d hc hd (by omega)
  |i+2,j+2,hc,hd=>exact H.Kv (i+2) (j+2) c d hc hd a
theorem ej.Fk(H:ej F h (p::q::cs)):ej F h (p::cs):=H.sw.tail
end
section
variable{F F':Nat->Prop}{h h':Hp}{cs:List Pc}{ι:Type}{ty:Nat}{f:ι->Option (List Nat×V)}{xs:List Nat}{v:V}
end
open Un
structure Rw where
 vv:V
 vb:V
 vs:V
 vk:V
 vc:V
 vp:V
 cc:V
def comp(lu ie jq:Nat)(R:Rw):Nat->Nat->Prop
 |0,l=>l=lu
 |1,l=>l=ie
 |2,l=>l=jq
 |3,l=>Loc R.vv l
 |4,l=>Loc R.vb l
 |5,l=>Loc R.vs l
 |6,l=>Loc R.vk l
 |7,l=>Loc R.vc l
 |_,_=>False
def sig:Nat->Nat×Nat
 |0=>(uI,1)
 |1=>(jE,1)
 |2=>(qJ,1)
 |3=>(zT,6)
 |4=>(qJ,6)
 |5=>(ML,1)
 |_=>(fw,1)
structure Dw (F G:Nat->Prop) (h:Hp) (lu ie jq:Nat) (t:Dt) (R:Rw):Prop where
 fl:∀l,F l->l<h.next
 gu:h.get lu=some (.cells uI 1 true false [.int .i64 1,.int .i64 2,R.vv,R.vb,R.vs])
 gk:h.get ie=some (.cells jE 1 true false [R.vk])
 gb:h.get jq=some (.cells qJ 1 true false [R.cc,.int .i64 0,.int .i64 0,.ed,R.vp,.int .i64 0])
 nu:lu<h.next/\¬F lu
 nk:ie<h.next/\¬F ie
 nb:jq<h.next/\¬F jq
 ov:kT eV zT F h t.s.ee R.vv
 ob:kT eK qJ F h t.blocks R.vb
 os:kT eT ML F h t.s.ez R.vs
 ok:kT eN fw F h t.s.known R.vk
 oc:kT eN fw F h t.s.cur R.vc
 sp:iH eN F h t.fu R.vp
 kc:∀l,Loc R.vk l->¬Loc R.vc l
 gx:∀l,G l->l<h.next/\¬F l/\∀i,¬comp lu ie jq R i l
structure Kp (F G:Nat->Prop) (h h':Hp):Prop where
 next:h.next<=h'.next
 fh:∀l,F l\/G l->h'.get l=h.get l
theorem Kp.refl(F G:Nat->Prop)(h:Hp):Kp F G h h:=⟨jv _,by simp_all⟩
theorem Kp.trans{F F' G:Nat->Prop} {h h' c:Hp}(a:Kp F G h h')(b:Kp F' G h' c)(d:∀l,F l->F' l):Kp F G h c:=
 ⟨KK a.next b.next,λl hl=>by rw[b.fh l (by grind),a.fh l hl]⟩
section
variable{F G:Nat->Prop}{h h':Hp}{lu ie jq:Nat}{t:Dt}{R:Rw}
theorem Dw.sig(D:Dw F G h lu ie jq t R){l:Nat}:∀{i:Nat},comp lu ie jq R i l->za1 h l=some (Hx.sig i)/\l<h.next/\¬F l
 |0,hl=>by have e:=hl;subst e;exact⟨Kx D.gu,D.nu⟩
 |1,hl=>by have e:=hl;subst e;exact⟨Kx D.gk,D.nk⟩
 |2,hl=>by have e:=hl;subst e;exact⟨Kx D.gb,D.nb⟩
 |3,hl=>D.ov.xN hl
 |4,hl=>D.ob.xN hl
 |5,hl=>D.os.xN hl
 |6,hl=>D.ok.xN hl
 |7,hl=>D.oc.xN hl
 |_+8,hl=>hl.elim
theorem Dw.Kv(D:Dw F G h lu ie jq t R){l i j:Nat}(hi:comp lu ie jq R i l)(a:comp lu ie jq R j l):Hx.sig i=Hx.sig j:=by
 have b:=(D.sig hi).1
 grind[sig]
theorem Dw.Dr(D:Dw F G h lu ie jq t R){l i j:Nat}(hi:comp lu ie jq R i l)(a:comp lu ie jq R j l)(c:i<8)(d:j<8):i=j:=by
 have e:=D.Kv hi a;have b:∀i,i<8->∀j,j<8->Hx.sig i=Hx.sig j->i=j\/(i=6/\j=7)\/(i=7/\j=6):=by decide
 rcases b i c j d e with f|⟨rfl,rfl⟩|⟨rfl,rfl⟩
 ·exact f
 ·exact absurd a (D.kc l hi)
 ·exact absurd hi (D.kc l a)
theorem Dw.kept(D:Dw F G h lu ie jq t R){i j:Nat}(hi:i<8)(d:j<8)(hc:lU (λl=>comp lu ie jq R i l\/comp lu ie jq R j l) h h') :
  (∀l,F l->h'.get l=h.get l)/\(∀l,G l->h'.get l=h.get l)/\∀k l,k<8->k≠i->k≠j->comp lu ie jq R k l->h'.get l=h.get l:=by
 refine⟨λl hl=>hc.fh l (D.fl l hl) ?_,λl hl=>hc.fh l (D.gx l hl).1 ?_,λk l c a e hl=>hc.fh l (D.sig hl).2.1 ?_⟩
 ·rintro(a|a)
  ·exact(D.sig a).2.2 hl
  ·exact(D.sig a).2.2 hl
 ·rintro(a|a)
  ·exact(D.gx l hl).2.2 _ a
  ·exact(D.gx l hl).2.2 _ a
 ·rintro(b|b)
  ·exact a (D.Dr hl b c hi)
  ·exact e (D.Dr hl b c d)
theorem Dw.other(D:Dw F G h lu ie jq t R){S:Nat->Prop}(a:lU S h h')(c:∀l,S l->¬F l/\¬G l/\∀i,¬comp lu ie jq R i l):Dw F G h' lu ie jq t R/\Kp F G h h':=by
 have b:=λl hl=>a.fh l (D.fl l hl) (by grind);have d:=λl hl=>a.fh l (D.gx l hl).1 (by grind);have k:∀i l,comp lu ie jq R i l->h'.get l=h.get l:=λi l hl=>a.fh l (D.sig hl).2.1 (by grind);have lt:∀l,l<h.next->l<h'.next:=λl hl=>Dy hl a.next
 exact ⟨{
  fl:=λl hl=>lt l (D.fl l hl)
  gu:=by rw[k 0 _ rfl];exact D.gu
  gk:=by rw[k 1 _ rfl];exact D.gk
  gb:=by rw[k 2 _ rfl];exact D.gb
  nu:=⟨lt _ D.nu.1,D.nu.2⟩
  nk:=⟨lt _ D.nk.1,D.nk.2⟩
  nb:=⟨lt _ D.nb.1,D.nb.2⟩
  ov:=D.ov.fh b (λl hl=>k 3 l hl) a.next
  ob:=D.ob.fh b (λl hl=>k 4 l hl) a.next
  os:=D.os.fh b (λl hl=>k 5 l hl) a.next
  ok:=D.ok.fh b (λl hl=>k 6 l hl) a.next
  oc:=D.oc.fh b (λl hl=>k 7 l hl) a.next
  sp:=D.sp.fh b
  kc:=D.kc
  gx:=λl hl=>⟨lt l (D.gx l hl).1,(D.gx l hl).2⟩ },⟨a.next,by grind⟩⟩
theorem Dw.grow(D:Dw F G h lu ie jq t R)(a:Io h h'):Dw F G h' lu ie jq t R:=(D.other a (by simp_all)).1
theorem Dw.more(D:Dw F G h lu ie jq t R) {F':Nat->Prop}(b:∀l,F l->F' l)(c:∀l,F' l->F l\/(l<h.next/\(∀i,¬comp lu ie jq R i l)/\¬G l)):Dw F' G h lu ie jq t R:=by
 have a:∀i l,comp lu ie jq R i l->¬F' l:=λi l hl d=>by
  rcases c l d with e|⟨_,e,_⟩
  ·exact(D.sig hl).2.2 e
  simp_all
 exact {
  fl:=λl hl=>(c l hl).elim (D.fl l) λh=>h.1
  gu:=D.gu
  gk:=D.gk
  gb:=D.gb
  nu:=⟨D.nu.1,a 0 _ rfl⟩
  nk:=⟨D.nk.1,a 1 _ rfl⟩
  nb:=⟨D.nb.1,a 2 _ rfl⟩
  ov:=D.ov.mono b λl hl=>a 3 l hl
  ob:=D.ob.mono b λl hl=>a 4 l hl
  os:=D.os.mono b λl hl=>a 5 l hl
  ok:=D.ok.mono b λl hl=>a 6 l hl
  oc:=D.oc.mono b λl hl=>a 7 l hl
  sp:=D.sp.mono b
  kc:=D.kc
  gx:=λl hl=>⟨(D.gx l hl).1,λd=>(c l d).elim (D.gx l hl).2.1 (by simp_all),(D.gx l hl).2.2⟩ }
def fz(F:Nat->Prop)(n:Nat):Nat->Prop:=λl=>F l\/l=n
theorem pP(F:Nat->Prop)(n:Nat):∀l,F l->fz F n l:=λ_ h=> .inl h
theorem Dw.new(D:Dw F G h lu ie jq t R)(o:O):Dw (fz F h.next) G (h.new o) lu ie jq t R:=
 (D.grow (lU.new h o)).more (pP _ _) λl hl=>hl.imp id λe=>by
  subst e;refine⟨RC _,λi hi=>wBz _ (D.sig hi).2.1,λa=>wBz _ (D.gx _ a).1⟩
theorem Kp.new(F G:Nat->Prop)(h:Hp)(o:O)(a:∀l,F l->l<h.next)(b:∀l,G l->l<h.next):Kp F G h (h.new o):=
 ⟨RM _,by grind[eE]⟩
theorem Dw.yA(D:Dw F G h lu ie jq t R)(o:O):Kp F G h (h.new o):=Kp.new F G h o D.fl λl hl=>(D.gx l hl).1
theorem nY{l o e sz:Nat} {cs oY:List V}{v:V}(a:h.get l=some (.cells e sz true false cs))(b:o<cs.length)(hv:v.one=true)(hs:cs.set o v=oY):gL 1 (.ptr l o) v h=some (.val .undef (h.put l (.cells e sz true false oY))):=by
 grind[Ox]
private theorem zam {a:Nat->Prop} {l:Nat} {S:Nat->Prop} {b:Hp} {o:O} (hc:lU a h b) (c:∀l,a l->S l) (hl:l<h.next) (hs:S l):lU S h (b.put l o):=
 (hc.zaR (by simp_all)).trans (lU.put o hs (Dy hl hc.next))
theorem Dw.zgR(D:Dw F G h lu ie jq t R){ys:List Vl}{new:List V}{xv:V}(p:kV h 6 xv=some (ys.length,new))(q:pU eV F h new ys)(hl:new.length=ys.length*6) (k:gz new=true)(r:0<ys.length)(hlen:t.s.ee.length+ys.length<1000000) :
  ∃a c d,eQ zT 6 64 R.vv xv h=some (.val a c)/\h.next<=c.next/\gL 1 (.ptr lu 2) a c=some (.val .undef d)/\c.next<=d.next/\Kp F G h d/\
   Dw F G d lu ie jq {t with s:={t.s with ee:=t.s.ee++ys} } {R with vv:=a}:=by
 let⟨a,c,e1,n,g,l1⟩:=D.ov.append (lE:=64) p q hl k r (by decide) D.fl (by omega) (by omega)
 have m:c.get lu=some (.cells uI 1 true false [.int .i64 1,.int .i64 2,R.vv,R.vb,R.vs]):=by
  rw[g.fh lu D.nu.1 λhl=>nomatch D.Dr (i:=0) (j:=3) rfl hl (by decide) (by decide)];exact D.gu
 have f:=Dy D.nu.1 g.next;have e2:=nY (o:=2) (oY:=[.int .i64 1,.int .i64 2,a,R.vb,R.vs]) m (by simp) n.one rfl;have hc:lU (λl=>comp lu ie jq R 0 l\/comp lu ie jq R 3 l) h (c.put lu (.cells uI 1 true false [.int .i64 1,.int .i64 2,a,R.vb,R.vs])):=zam g (λ_ h=> .inr h) D.nu.1 (.inl rfl)
 let⟨kF,kG,kC⟩:=D.kept (by decide) (by decide) hc
 have b:∀l,l<h.next->l<(c.put lu (.cells uI 1 true false [.int .i64 1,.int .i64 2,a,R.vb,R.vs])).next:=λl hl=>Dy hl hc.next;have v:∀l,Loc a l->l≠lu:=λl hl e=>by
  subst e;rcases l1 _ hl with d|d
  ·exact absurd (D.Dr (i:=0) (j:=3) rfl d (by decide) (by decide)) (by decide)
  ·exact absurd d (Tj D.nu.1)
 have u:kT eV zT F (c.put lu (.cells uI 1 true false [.int .i64 1,.int .i64 2,a,R.vb,R.vs])) (t.s.ee++ys) a:=
  n.fh (λl hl=>gi _ f λe=>D.nu.2 (e▸hl)) (by grind[gi]) (jv _)
 refine⟨a,c,_,e1,g.next,e2,jv _,⟨hc.next,by grind⟩,?_⟩
 exact {
  fl:=λl hl=>b l (D.fl l hl)
  gu:=fT _ f
  gk:=by rw[kC 1 ie (by decide) (by decide) (by decide) rfl];exact D.gk
  gb:=by rw[kC 2 jq (by decide) (by decide) (by decide) rfl];exact D.gb
  ov:=u
  ob:=D.ob.fh kF (λl hl=>kC 4 l (by decide) (by decide) (by decide) hl) hc.next
  os:=D.os.fh kF (λl hl=>kC 5 l (by decide) (by decide) (by decide) hl) hc.next
  ok:=D.ok.fh kF (λl hl=>kC 6 l (by decide) (by decide) (by decide) hl) hc.next
  oc:=D.oc.fh kF (λl hl=>kC 7 l (by decide) (by decide) (by decide) hl) hc.next
  nu:=⟨b _ D.nu.1,D.nu.2⟩
  nk:=⟨b _ D.nk.1,D.nk.2⟩
  nb:=⟨b _ D.nb.1,D.nb.2⟩
  sp:=D.sp.fh kF
  kc:=D.kc
  gx:=λl hl=>⟨b l (D.gx l hl).1,(D.gx l hl).2.1,λi hi=>by
   match i,hi with
   |0,hi=>exact(D.gx l hl).2.2 0 hi
   |1,hi=>exact(D.gx l hl).2.2 1 hi
   |2,hi=>exact(D.gx l hl).2.2 2 hi
   |3,hi=>exact(l1 l hi).elim ((D.gx l hl).2.2 3) λe=>absurd e (Tj (D.gx l hl).1)
   |4,hi=>exact(D.gx l hl).2.2 4 hi
   |5,hi=>exact(D.gx l hl).2.2 5 hi
   |6,hi=>exact(D.gx l hl).2.2 6 hi
   |7,hi=>exact(D.gx l hl).2.2 7 hi⟩ }
theorem Dw.zgN(D:Dw F G h lu ie jq t R){ys:List Bk}{new:List V}{xv:V}(p:kV h 6 xv=some (ys.length,new))(q:pU eK F h new ys)(hl:new.length=ys.length*6) (k:gz new=true)(r:0<ys.length)(hlen:t.blocks.length+ys.length<1000000) :
  ∃a c d,eQ qJ 6 96 R.vb xv h=some (.val a c)/\h.next<=c.next/\gL 1 (.ptr lu 3) a c=some (.val .undef d)/\c.next<=d.next/\Kp F G h d/\
   Dw F G d lu ie jq {t with blocks:=t.blocks++ys} {R with vb:=a}:=by
 let⟨a,c,e1,n,g,l1⟩:=D.ob.append (lE:=96) p q hl k r (by decide) D.fl (by omega) (by omega)
 have m:c.get lu=some (.cells uI 1 true false [.int .i64 1,.int .i64 2,R.vv,R.vb,R.vs]):=by
  rw[g.fh lu D.nu.1 λhl=>nomatch D.Dr (i:=0) (j:=4) rfl hl (by decide) (by decide)];exact D.gu
 have f:=Dy D.nu.1 g.next;have e2:=nY (o:=3) (oY:=[.int .i64 1,.int .i64 2,R.vv,a,R.vs]) m (by simp) n.one rfl;have hc:lU (λl=>comp lu ie jq R 0 l\/comp lu ie jq R 4 l) h (c.put lu (.cells uI 1 true false [.int .i64 1,.int .i64 2,R.vv,a,R.vs])):=zam g (λ_ h=> .inr h) D.nu.1 (.inl rfl)
 let⟨kF,kG,kC⟩:=D.kept (by decide) (by decide) hc
 have b:∀l,l<h.next->l<(c.put lu (.cells uI 1 true false [.int .i64 1,.int .i64 2,R.vv,a,R.vs])).next:=λl hl=>Dy hl hc.next;have u:∀l,Loc a l->l≠lu:=λl hl e=>by
  subst e;rcases l1 _ hl with d|d
  ·exact absurd (D.Dr (i:=0) (j:=4) rfl d (by decide) (by decide)) (by decide)
  ·exact absurd d (Tj D.nu.1)
 have s:kT eK qJ F (c.put lu (.cells uI 1 true false [.int .i64 1,.int .i64 2,R.vv,a,R.vs])) (t.blocks++ys) a:=
  n.fh (λl hl=>gi _ f λe=>D.nu.2 (e▸hl)) (by grind[gi]) (jv _)
 refine⟨a,c,_,e1,g.next,e2,jv _,⟨hc.next,by grind⟩,?_⟩
 exact {
  fl:=λl hl=>b l (D.fl l hl)
  gu:=fT _ f
  gk:=by rw[kC 1 ie (by decide) (by decide) (by decide) rfl];exact D.gk
  gb:=by rw[kC 2 jq (by decide) (by decide) (by decide) rfl];exact D.gb
  ov:=D.ov.fh kF (λl hl=>kC 3 l (by decide) (by decide) (by decide) hl) hc.next
  ob:=s
  os:=D.os.fh kF (λl hl=>kC 5 l (by decide) (by decide) (by decide) hl) hc.next
  ok:=D.ok.fh kF (λl hl=>kC 6 l (by decide) (by decide) (by decide) hl) hc.next
  oc:=D.oc.fh kF (λl hl=>kC 7 l (by decide) (by decide) (by decide) hl) hc.next
  nu:=⟨b _ D.nu.1,D.nu.2⟩
  nk:=⟨b _ D.nk.1,D.nk.2⟩
  nb:=⟨b _ D.nb.1,D.nb.2⟩
  sp:=D.sp.fh kF
  kc:=D.kc
  gx:=λl hl=>⟨b l (D.gx l hl).1,(D.gx l hl).2.1,λi hi=>by
   match i,hi with
   |0,hi=>exact(D.gx l hl).2.2 0 hi
   |1,hi=>exact(D.gx l hl).2.2 1 hi
   |2,hi=>exact(D.gx l hl).2.2 2 hi
   |3,hi=>exact(D.gx l hl).2.2 3 hi
   |4,hi=>exact(l1 l hi).elim ((D.gx l hl).2.2 4) λe=>absurd e (Tj (D.gx l hl).1)
   |5,hi=>exact(D.gx l hl).2.2 5 hi
   |6,hi=>exact(D.gx l hl).2.2 6 hi
   |7,hi=>exact(D.gx l hl).2.2 7 hi⟩ }
theorem Dw.zgX(D:Dw F G h lu ie jq t R){ys:List (List Fm)}{new:List V}{xv:V}(p:kV h 1 xv=some (ys.length,new))(q:pU eT F h new ys)(hl:new.length=ys.length*1) (k:gz new=true)(r:0<ys.length)(hlen:t.s.ez.length+ys.length<1000000) :
  ∃a c d,eQ ML 1 24 R.vs xv h=some (.val a c)/\h.next<=c.next/\gL 1 (.ptr lu 4) a c=some (.val .undef d)/\c.next<=d.next/\Kp F G h d/\
   Dw F G d lu ie jq {t with s:={t.s with ez:=t.s.ez++ys} } {R with vs:=a}:=by
 let⟨a,c,e1,n,g,l1⟩:=D.os.append (lE:=24) p q hl k r (by decide) D.fl (by omega) (by omega)
 have m:c.get lu=some (.cells uI 1 true false [.int .i64 1,.int .i64 2,R.vv,R.vb,R.vs]):=by
  rw[g.fh lu D.nu.1 λhl=>nomatch D.Dr (i:=0) (j:=5) rfl hl (by decide) (by decide)];exact D.gu
 have f:=Dy D.nu.1 g.next;have e2:=nY (o:=4) (oY:=[.int .i64 1,.int .i64 2,R.vv,R.vb,a]) m (by simp) n.one rfl;have hc:lU (λl=>comp lu ie jq R 0 l\/comp lu ie jq R 5 l) h (c.put lu (.cells uI 1 true false [.int .i64 1,.int .i64 2,R.vv,R.vb,a])):=zam g (λ_ h=> .inr h) D.nu.1 (.inl rfl)
 let⟨kF,kG,kC⟩:=D.kept (by decide) (by decide) hc
 have b:∀l,l<h.next->l<(c.put lu (.cells uI 1 true false [.int .i64 1,.int .i64 2,R.vv,R.vb,a])).next:=λl hl=>Dy hl hc.next;have v:∀l,Loc a l->l≠lu:=λl hl e=>by
  subst e;rcases l1 _ hl with d|d
  ·exact absurd (D.Dr (i:=0) (j:=5) rfl d (by decide) (by decide)) (by decide)
  ·exact absurd d (Tj D.nu.1)
 have u:kT eT ML F (c.put lu (.cells uI 1 true false [.int .i64 1,.int .i64 2,R.vv,R.vb,a])) (t.s.ez++ys) a:=
  n.fh (λl hl=>gi _ f λe=>D.nu.2 (e▸hl)) (by grind[gi]) (jv _)
 refine⟨a,c,_,e1,g.next,e2,jv _,⟨hc.next,by grind⟩,?_⟩
 exact {
  fl:=λl hl=>b l (D.fl l hl)
  gu:=fT _ f
  gk:=by rw[kC 1 ie (by decide) (by decide) (by decide) rfl];exact D.gk
  gb:=by rw[kC 2 jq (by decide) (by decide) (by decide) rfl];exact D.gb
  ov:=D.ov.fh kF (λl hl=>kC 3 l (by decide) (by decide) (by decide) hl) hc.next
  ob:=D.ob.fh kF (λl hl=>kC 4 l (by decide) (by decide) (by decide) hl) hc.next
  os:=u
  ok:=D.ok.fh kF (λl hl=>kC 6 l (by decide) (by decide) (by decide) hl) hc.next
  oc:=D.oc.fh kF (λl hl=>kC 7 l (by decide) (by decide) (by decide) hl) hc.next
  nu:=⟨b _ D.nu.1,D.nu.2⟩
  nk:=⟨b _ D.nk.1,D.nk.2⟩
  nb:=⟨b _ D.nb.1,D.nb.2⟩
  sp:=D.sp.fh kF
  kc:=D.kc
  gx:=λl hl=>⟨b l (D.gx l hl).1,(D.gx l hl).2.1,λi hi=>by
   match i,hi with
   |0,hi=>exact(D.gx l hl).2.2 0 hi
   |1,hi=>exact(D.gx l hl).2.2 1 hi
   |2,hi=>exact(D.gx l hl).2.2 2 hi
   |3,hi=>exact(D.gx l hl).2.2 3 hi
   |4,hi=>exact(D.gx l hl).2.2 4 hi
   |5,hi=>exact(l1 l hi).elim ((D.gx l hl).2.2 5) λe=>absurd e (Tj (D.gx l hl).1)
   |6,hi=>exact(D.gx l hl).2.2 6 hi
   |7,hi=>exact(D.gx l hl).2.2 7 hi⟩ }
theorem Dw.zdd(D:Dw F G h lu ie jq t R){ys:List Nat}{new:List V}{xv:V}(p:kV h 1 xv=some (ys.length,new))(q:pU eN F h new ys)(hl:new.length=ys.length*1) (k:gz new=true)(r:0<ys.length)(hlen:t.s.known.length+ys.length<1000000) :
  ∃a c d,eQ fw 1 8 R.vk xv h=some (.val a c)/\h.next<=c.next/\gL 1 (.ptr ie 0) a c=some (.val .undef d)/\c.next<=d.next/\Kp F G h d/\
   Dw F G d lu ie jq {t with s:={t.s with known:=t.s.known++ys} } {R with vk:=a}:=by
 let⟨a,c,e1,n,g,l1⟩:=D.ok.append (lE:=8) p q hl k r (by decide) D.fl (by omega) (by omega)
 have m:c.get ie=some (.cells jE 1 true false [R.vk]):=by
  rw[g.fh ie D.nk.1 λhl=>nomatch D.Dr (i:=1) (j:=6) rfl hl (by decide) (by decide)];exact D.gk
 have f:=Dy D.nk.1 g.next;have e2:=nY (o:=0) (oY:=[a]) m (by simp) n.one rfl;have hc:lU (λl=>comp lu ie jq R 1 l\/comp lu ie jq R 6 l) h (c.put ie (.cells jE 1 true false [a])):=zam g (λ_ h=> .inr h) D.nk.1 (.inl rfl)
 let⟨kF,kG,kC⟩:=D.kept (by decide) (by decide) hc
 have b:∀l,l<h.next->l<(c.put ie (.cells jE 1 true false [a])).next:=λl hl=>Dy hl hc.next;have v:∀l,Loc a l->l≠ie:=λl hl e=>by
  subst e;rcases l1 _ hl with d|d
  ·exact absurd (D.Dr (i:=1) (j:=6) rfl d (by decide) (by decide)) (by decide)
  ·exact absurd d (Tj D.nk.1)
 have u:kT eN fw F (c.put ie (.cells jE 1 true false [a])) (t.s.known++ys) a:=
  n.fh (λl hl=>gi _ f λe=>D.nk.2 (e▸hl)) (by grind[gi]) (jv _)
 refine⟨a,c,_,e1,g.next,e2,jv _,⟨hc.next,by grind⟩,?_⟩
 exact {
  fl:=λl hl=>b l (D.fl l hl)
  gu:=by rw[kC 0 lu (by decide) (by decide) (by decide) rfl];exact D.gu
  gk:=fT _ f
  gb:=by rw[kC 2 jq (by decide) (by decide) (by decide) rfl];exact D.gb
  ov:=D.ov.fh kF (λl hl=>kC 3 l (by decide) (by decide) (by decide) hl) hc.next
  ob:=D.ob.fh kF (λl hl=>kC 4 l (by decide) (by decide) (by decide) hl) hc.next
  os:=D.os.fh kF (λl hl=>kC 5 l (by decide) (by decide) (by decide) hl) hc.next
  ok:=u
  oc:=D.oc.fh kF (λl hl=>kC 7 l (by decide) (by decide) (by decide) hl) hc.next
  nu:=⟨b _ D.nu.1,D.nu.2⟩
  nk:=⟨b _ D.nk.1,D.nk.2⟩
  nb:=⟨b _ D.nb.1,D.nb.2⟩
  sp:=D.sp.fh kF
  kc:=λl hl hc=>(l1 l hl).elim (λd=>D.kc l d hc) λe=>absurd e (Tj (D.oc.xN hc).2.1)
  gx:=λl hl=>⟨b l (D.gx l hl).1,(D.gx l hl).2.1,λi hi=>by
   match i,hi with
   |0,hi=>exact(D.gx l hl).2.2 0 hi
   |1,hi=>exact(D.gx l hl).2.2 1 hi
   |2,hi=>exact(D.gx l hl).2.2 2 hi
   |3,hi=>exact(D.gx l hl).2.2 3 hi
   |4,hi=>exact(D.gx l hl).2.2 4 hi
   |5,hi=>exact(D.gx l hl).2.2 5 hi
   |6,hi=>exact(l1 l hi).elim ((D.gx l hl).2.2 6) λe=>absurd e (Tj (D.gx l hl).1)
   |7,hi=>exact(D.gx l hl).2.2 7 hi⟩ }
theorem Dw.zgF(D:Dw F G h lu ie jq t R){ys:List Nat}{new:List V}{xv:V}(p:kV h 1 xv=some (ys.length,new))(q:pU eN F h new ys)(hl:new.length=ys.length*1) (k:gz new=true)(r:0<ys.length)(hlen:t.s.cur.length+ys.length<1000000) :
  ∃a c d,eQ fw 1 8 R.vc xv h=some (.val a c)/\h.next<=c.next/\gL 1 (.ptr jq 0) a c=some (.val .undef d)/\c.next<=d.next/\Kp F G h d/\
   Dw F G d lu ie jq {t with s:={t.s with cur:=t.s.cur++ys} } {R with vc:=a,cc:=a}:=by
 let⟨a,c,e1,n,g,l1⟩:=D.oc.append (lE:=8) p q hl k r (by decide) D.fl (by omega) (by omega)
 have m:c.get jq=some (.cells qJ 1 true false [R.cc,.int .i64 0,.int .i64 0,.ed,R.vp,.int .i64 0]):=by
  rw[g.fh jq D.nb.1 λhl=>nomatch D.Dr (i:=2) (j:=7) rfl hl (by decide) (by decide)];exact D.gb
 have f:=Dy D.nb.1 g.next;have e2:=nY (o:=0) (oY:=[a,.int .i64 0,.int .i64 0,.ed,R.vp,.int .i64 0]) m (by simp) n.one rfl;have hc:lU (λl=>comp lu ie jq R 2 l\/comp lu ie jq R 7 l) h (c.put jq (.cells qJ 1 true false [a,.int .i64 0,.int .i64 0,.ed,R.vp,.int .i64 0])):=zam g (λ_ h=> .inr h) D.nb.1 (.inl rfl)
 let⟨kF,kG,kC⟩:=D.kept (by decide) (by decide) hc
 have b:∀l,l<h.next->l<(c.put jq (.cells qJ 1 true false [a,.int .i64 0,.int .i64 0,.ed,R.vp,.int .i64 0])).next:=λl hl=>Dy hl hc.next;have v:∀l,Loc a l->l≠jq:=λl hl e=>by
  subst e;rcases l1 _ hl with d|d
  ·exact absurd (D.Dr (i:=2) (j:=7) rfl d (by decide) (by decide)) (by decide)
  ·exact absurd d (Tj D.nb.1)
 have u:kT eN fw F (c.put jq (.cells qJ 1 true false [a,.int .i64 0,.int .i64 0,.ed,R.vp,.int .i64 0])) (t.s.cur++ys) a:=
  n.fh (λl hl=>gi _ f λe=>D.nb.2 (e▸hl)) (by grind[gi]) (jv _)
 refine⟨a,c,_,e1,g.next,e2,jv _,⟨hc.next,by grind⟩,?_⟩
 exact {
  fl:=λl hl=>b l (D.fl l hl)
  gu:=by rw[kC 0 lu (by decide) (by decide) (by decide) rfl];exact D.gu
  gk:=by rw[kC 1 ie (by decide) (by decide) (by decide) rfl];exact D.gk
  gb:=fT _ f
  ov:=D.ov.fh kF (λl hl=>kC 3 l (by decide) (by decide) (by decide) hl) hc.next
  ob:=D.ob.fh kF (λl hl=>kC 4 l (by decide) (by decide) (by decide) hl) hc.next
  os:=D.os.fh kF (λl hl=>kC 5 l (by decide) (by decide) (by decide) hl) hc.next
  ok:=D.ok.fh kF (λl hl=>kC 6 l (by decide) (by decide) (by decide) hl) hc.next
  oc:=u
  nu:=⟨b _ D.nu.1,D.nu.2⟩
  nk:=⟨b _ D.nk.1,D.nk.2⟩
  nb:=⟨b _ D.nb.1,D.nb.2⟩
  sp:=D.sp.fh kF
  kc:=λl hl hc=>(l1 l hc).elim (λd=>D.kc l hl d) λe=>absurd e (Tj (D.ok.xN hl).2.1)
  gx:=λl hl=>⟨b l (D.gx l hl).1,(D.gx l hl).2.1,λi hi=>by
   match i,hi with
   |0,hi=>exact(D.gx l hl).2.2 0 hi
   |1,hi=>exact(D.gx l hl).2.2 1 hi
   |2,hi=>exact(D.gx l hl).2.2 2 hi
   |3,hi=>exact(D.gx l hl).2.2 3 hi
   |4,hi=>exact(D.gx l hl).2.2 4 hi
   |5,hi=>exact(D.gx l hl).2.2 5 hi
   |6,hi=>exact(D.gx l hl).2.2 6 hi
   |7,hi=>exact(l1 l hi).elim ((D.gx l hl).2.2 7) λe=>absurd e (Tj (D.gx l hl).1)⟩ }
theorem Dw.cell(D:Dw F G h lu ie jq t R){i:Nat}(hi:i<8)(hc:lU (λl=>comp lu ie jq R i l) h h') :
  (∀l,F l->h'.get l=h.get l)/\(∀l,G l->h'.get l=h.get l)/\∀k l,k<8->k≠i->comp lu ie jq R k l->h'.get l=h.get l:=by
 let⟨a,b,c⟩:=D.kept hi hi (hc.zaR λ_ _ h=> .inl h)
 grind
theorem Dw.zg0(D:Dw F G h lu ie jq t R){n:Nat}(d:n<=t.s.known.length) :
  ∃a b,iL 1 R.vk none (some (.int .i64 n)) h=some a/\gL 1 (.ptr ie 0) a h=some (.val .undef b)/\h.next<=b.next/\Kp F G h b/\Dw F G b lu ie jq {t with s:=Un.cut n t.s} {R with vk:=a}:=by
 let⟨a,e1,c,l1⟩:=D.ok.cut d
 have e2:=nY (o:=0) (oY:=[a]) D.gk (by simp) c.one rfl;have hc:lU (λl=>comp lu ie jq R 1 l) h (h.put ie (.cells jE 1 true false [a])):=lU.put _ rfl D.nk.1
 let⟨kF,kG,kC⟩:=D.cell (by decide) hc
 refine⟨a,_,e1,e2,jv _,⟨hc.next,by grind⟩,?_⟩
 exact {
  fl:=D.fl
  gu:=by rw[kC 0 lu (by decide) (by decide) rfl];exact D.gu
  gk:=fT _ D.nk.1
  gb:=by rw[kC 2 jq (by decide) (by decide) rfl];exact D.gb
  nu:=D.nu
  nk:=D.nk
  nb:=D.nb
  ov:=D.ov.fh kF (λl hl=>kC 3 l (by decide) (by decide) hl) hc.next
  ob:=D.ob.fh kF (λl hl=>kC 4 l (by decide) (by decide) hl) hc.next
  os:=D.os.fh kF (λl hl=>kC 5 l (by decide) (by decide) hl) hc.next
  ok:=c.fh kF (λl hl=>kC 6 l (by decide) (by decide) (l1 l hl)) hc.next
  oc:=D.oc.fh kF (λl hl=>kC 7 l (by decide) (by decide) hl) hc.next
  sp:=D.sp.fh kF
  kc:=λl hl=>D.kc l (l1 l hl)
  gx:=λl hl=>⟨(D.gx l hl).1,(D.gx l hl).2.1,λi hi=>by
   match i,hi with
   |0,hi=>exact(D.gx l hl).2.2 0 hi
   |1,hi=>exact(D.gx l hl).2.2 1 hi
   |2,hi=>exact(D.gx l hl).2.2 2 hi
   |3,hi=>exact(D.gx l hl).2.2 3 hi
   |4,hi=>exact(D.gx l hl).2.2 4 hi
   |5,hi=>exact(D.gx l hl).2.2 5 hi
   |6,hi=>exact(D.gx l hl).2.2 6 (l1 l hi)
   |7,hi=>exact(D.gx l hl).2.2 7 hi⟩ }
theorem Dw.zcM(D:Dw F G h lu ie jq t R){c p:V}{a:List Nat}(b:iH eN F h a p):Kp F G h (h.put jq (.cells qJ 1 true false [c,.int .i64 0,.int .i64 0,.ed,p,.int .i64 0]))/\
  Dw F G (h.put jq (.cells qJ 1 true false [c,.int .i64 0,.int .i64 0,.ed,p,.int .i64 0])) lu ie jq {t with fu:=a} {R with vp:=p,cc:=c}:=by
 have hc:lU (λl=>comp lu ie jq R 2 l) h (h.put jq (.cells qJ 1 true false [c,.int .i64 0,.int .i64 0,.ed,p,.int .i64 0])):=lU.put _ rfl D.nb.1
 let⟨kF,kG,kC⟩:=D.cell (by decide) hc
 refine⟨⟨hc.next,by grind⟩,?_⟩
 exact {
  fl:=D.fl
  gu:=by rw[kC 0 lu (by decide) (by decide) rfl];exact D.gu
  gk:=by rw[kC 1 ie (by decide) (by decide) rfl];exact D.gk
  gb:=fT _ D.nb.1
  nu:=D.nu
  nk:=D.nk
  nb:=D.nb
  ov:=D.ov.fh kF (λl hl=>kC 3 l (by decide) (by decide) hl) hc.next
  ob:=D.ob.fh kF (λl hl=>kC 4 l (by decide) (by decide) hl) hc.next
  os:=D.os.fh kF (λl hl=>kC 5 l (by decide) (by decide) hl) hc.next
  ok:=D.ok.fh kF (λl hl=>kC 6 l (by decide) (by decide) hl) hc.next
  oc:=D.oc.fh kF (λl hl=>kC 7 l (by decide) (by decide) hl) hc.next
  sp:=b.fh kF
  kc:=D.kc
  gx:=D.gx}
def fzc(F:Nat->Prop)(v:V):Nat->Prop:=λl=>F l\/Loc v l
theorem Dw.flush(D:Dw F G h lu ie jq t R):iH eN (fzc F R.vc) h t.s.cur R.vc/\Dw (fzc F R.vc) G h lu ie jq {t with s:={t.s with cur:=[]} } {R with vc:= .ed}:=by
 refine⟨D.oc.slR (λ_ h=> .inl h) λ_ h=> .inr h,?_⟩
 have D':Dw F G h lu ie jq {t with s:={t.s with cur:=[]} } {R with vc:= .ed}:=
  { D with
    oc:= .nil
    kc:=by simp_all
    gx:=λl hl=>⟨(D.gx l hl).1,(D.gx l hl).2.1,λi hi=>by
      match i,hi with
      |0,hi=>exact(D.gx l hl).2.2 0 hi
      |1,hi=>exact(D.gx l hl).2.2 1 hi
      |2,hi=>exact(D.gx l hl).2.2 2 hi
      |3,hi=>exact(D.gx l hl).2.2 3 hi
      |4,hi=>exact(D.gx l hl).2.2 4 hi
      |5,hi=>exact(D.gx l hl).2.2 5 hi
      |6,hi=>exact(D.gx l hl).2.2 6 hi
      |n+7,hi=>exact(match n,hi with|0,hi=>hi)⟩ }
 refine D'.more (λ_ h=> .inl h) λl hl=>hl.imp id λhc=>⟨(D.oc.xN hc).2.1,λi hi=>?_,λa=>(D.gx l a).2.2 7 hc⟩
 match i,hi with
 |0,hi=>exact nomatch D.Dr (i:=0) (j:=7) hi hc (by decide) (by decide)
 |1,hi=>exact nomatch D.Dr (i:=1) (j:=7) hi hc (by decide) (by decide)
 |2,hi=>exact nomatch D.Dr (i:=2) (j:=7) hi hc (by decide) (by decide)
 |3,hi=>exact nomatch D.Dr (i:=3) (j:=7) hi hc (by decide) (by decide)
 |4,hi=>exact nomatch D.Dr (i:=4) (j:=7) hi hc (by decide) (by decide)
 |5,hi=>exact nomatch D.Dr (i:=5) (j:=7) hi hc (by decide) (by decide)
 |6,hi=>exact nomatch D.Dr (i:=6) (j:=7) hi hc (by decide) (by decide)
 |n+7,hi=>exact(match n,hi with|0,hi=>hi)
theorem Dw.zdi(D:Dw F G h lu ie jq t R){p:Nat}{xs:List Nat}{a:V}(f:p<t.s.ee.length)(d:iH eN F h xs a) :
  ∃l c,gP 6 R.vv (.int .i64 p)=some (.ptr l (p*6))/\gL 1 (.ptr l (p*6+4)) a h=some (.val .undef c)/\h.next<=c.next/\Kp F G h c/\Dw F G c lu ie jq {t with s:=setArgs t.s p xs} R:=by
 let⟨l,c,_,e1,e2,j,hc⟩:=D.ov.store (k:=4) (y:={t.s.ee[p]with args:=xs}) f (by decide) d.one (λw ⟨x,g,_⟩=>by subst g;exact⟨a,rfl,d⟩)
 let⟨kF,kG,kC⟩:=D.cell (i:=3) (by decide) hc
 refine ⟨l,c,e1,e2,hc.next,⟨hc.next,by grind⟩,?_⟩;have b:∀l,l<h.next->l<c.next:=λl hl=>Dy hl hc.next;have em:(setArgs t.s p xs).ee=t.s.ee.set p {t.s.ee[p]with args:=xs}:=by
  show t.s.ee.modify p _=_;refine wB1 λi=>?_;rw[ List.getElem?_set];by_cases e:p=i
  ·grind
  ·simp[e]
 exact {
  fl:=λl hl=>b l (D.fl l hl)
  gu:=by rw[kC 0 lu (by decide) (by decide) rfl];exact D.gu
  gk:=by rw[kC 1 ie (by decide) (by decide) rfl];exact D.gk
  gb:=by rw[kC 2 jq (by decide) (by decide) rfl];exact D.gb
  nu:=⟨b _ D.nu.1,D.nu.2⟩
  nk:=⟨b _ D.nk.1,D.nk.2⟩
  nb:=⟨b _ D.nb.1,D.nb.2⟩
  ov:=by simp_all
  ob:=D.ob.fh kF (λl hl=>kC 4 l (by decide) (by decide) hl) hc.next
  os:=D.os.fh kF (λl hl=>kC 5 l (by decide) (by decide) hl) hc.next
  ok:=D.ok.fh kF (λl hl=>kC 6 l (by decide) (by decide) hl) hc.next
  oc:=D.oc.fh kF (λl hl=>kC 7 l (by decide) (by decide) hl) hc.next
  sp:=D.sp.fh kF
  kc:=D.kc
  gx:=λl hl=>⟨b l (D.gx l hl).1,(D.gx l hl).2⟩ }
end
