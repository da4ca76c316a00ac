/- Parts. -/
import Derived.Test.YtjgjgngfjopaaaaDoorM09
import Derived.Test.YtjgjgngfjopaaaaDoorM13
namespace Go.Proofs.YtjgjgngfjopaaaaDoor.Hx
open Un
def eN:qA Nat where
 sz:=1
 rel _ _ n cs:=cs=[.I n]
 len h:=by subst h;rfl
 one h:=by subst h;rfl
 fk _ h:=h
 mono _ h:=h
def mz(x:Vl)(w:V):List V:=[.I x.op,.I x.a,.I x.b,.I x.n,w,.I x.state]
def eV:qA Vl where
 sz:=6
 rel F h x cs:=∃w,cs=mz x w/\iC eN F h x.args w
 len:=λ⟨_,h,_⟩=>by subst h;rfl
 one:=λ⟨_,h,hs⟩=>by subst h;simp only[mz,eQ,hs.one];rfl
 fk:=λa ⟨w,h,hs⟩=>⟨w,h,hs.fk a⟩
 mono:=λb ⟨w,h,hs⟩=>⟨w,h,hs.mono b⟩
def kr(x:Bk)(v n p:V):List V:=[v,.I x.fin,.I x.cond,n,p,.I x.state]
def eK:qA Bk where
 sz:=6
 rel F h x cs:=∃v n p,cs=kr x v n p/\iC eN F h x.ef v/\iC eN F h x.next n/\iC eN F h x.fg p
 len:=λ⟨_,_,_,h,_⟩=>by subst h;rfl
 one:=λ⟨_,_,_,h,a,b,c⟩=>by subst h;simp only[kr,eQ,a.one,b.one,c.one];rfl
 fk:=λd ⟨v,n,p,h,a,b,c⟩=>⟨v,n,p,h,a.fk d,b.fk d,c.fk d⟩
 mono:=λe ⟨v,n,p,h,a,b,c⟩=>⟨v,n,p,h,a.mono e,b.mono e,c.mono e⟩
def MH(x:Fm)(l s:V):List V:=[.I x.func,.I x.pc,l,s]
def eF:qA Fm where
 sz:=4
 rel F h x cs:=∃l s,cs=MH x l s/\iC eN F h x.locals l/\iC eN F h x.stack s
 len:=λ⟨_,_,h,_⟩=>by subst h;rfl
 one:=λ⟨_,_,h,a,b⟩=>by subst h;simp only[MH,eQ,a.one,b.one];rfl
 fk:=λc ⟨l,s,h,a,b⟩=>⟨l,s,h,a.fk c,b.fk c⟩
 mono:=λd ⟨l,s,h,a,b⟩=>⟨l,s,h,a.mono d,b.mono d⟩
def eT:qA (List Fm):=eL eF
theorem xU(F:Nat->Prop)(h:Hp):∀(l:List Nat),pR eN F h (l.map λn=>V.I (n:Nat)) l
 |[]=>trivial
 |n::l=>⟨[.I n],_,rfl,rfl,xU F h l⟩
def Loc(v:V)(t:Nat):Prop:=match v with
 | .slice l _ _=>l=t
 |_=>False
@[simp] theorem zds (t:Nat):Loc .ee t=False:=rfl
@[simp] theorem zbG (l o n t:Nat):Loc (.slice l o n) t=(l=t):=rfl
def ko{α:Type}(E:qA α)(ty:Nat)(F:Nat->Prop)(h:Hp)(xs:List α)(v:V):Prop:=(v = .ee/\xs=[])\/∃t cs,v = .slice t 0 xs.length/\t<h.next/\¬F t/\h.get t=some (.cells ty E.sz true false cs)/\pR E F h cs xs/\gv cs=true
section
variable{α:Type}{E:qA α}{ty:Nat}{F F':Nat->Prop}{h h':Hp}{xs:List α}{v:V}
theorem ko.nil:ko E ty F h [] .ee:= .inl ⟨rfl,rfl⟩
theorem ko.len(a:ko E ty F h xs v):fF v=some (.I xs.length):=by
 rcases a with⟨rfl,rfl⟩|⟨t,cs,rfl,_⟩ <;> rfl
theorem ko.one(a:ko E ty F h xs v):v.one=true:=by
 rcases a with⟨rfl,rfl⟩|⟨t,cs,rfl,_⟩ <;> rfl
noncomputable def ZA(h:Hp) (l:Nat):Option (Nat×Nat):=match h.get l with
 |some (.cells e sz _ _ _)=>some (e,sz)
 |_=>none
theorem KS{l e sz:Nat}{a b:Bool}{cs:List V}(c:h.get l=some (.cells e sz a b cs)):ZA h l=some (e,sz):=by unfold ZA;rw[c]
theorem ko.wh(b:ko E ty F h xs v){t:Nat}(a:Loc v t):ZA h t=some (ty,E.sz)/\t<h.next/\¬F t:=by
 rcases b with⟨rfl,_⟩|⟨t',cs,rfl,c,d,e,_⟩
 ·exact a.elim
 ·obtain rfl:t' = t:=a;exact⟨KS e,c,d⟩
theorem ko.fk(a:ko E ty F h xs v)(b:∀l,F l->h'.get l=h.get l)(c:∀l,Loc v l->h'.get l=h.get l)(d:h.next<=h'.next):ko E ty F h' xs v:=by
 rcases a with a|⟨t,cs,rfl,e,f,g,i,j⟩
 ·exact .inl a
 ·exact .inr ⟨t,cs,rfl,BL e d,f,by rw[c t rfl];exact g,i.fk b,j⟩
theorem ko.mono(a:ko E ty F h xs v)(b:∀l,F l->F' l)(c:∀t,Loc v t->¬F' t):ko E ty F' h xs v:=by
 rcases a with a|⟨t,cs,rfl,d,i,e,f,g⟩
 ·exact .inl a
 ·exact .inr ⟨t,cs,rfl,d,c t rfl,e,f.mono b,g⟩
theorem ko.Yo(a:ko E ty F h xs v)(b:∀l,F l->F' l)(c:∀t,Loc v t->F' t):iC E F' h xs v:=by
 rcases a with a|⟨t,cs,rfl,f,g,d,e,i⟩
 ·exact .inl a
 ·exact .inr ⟨t,0,ty,true,false,cs,rfl,c t rfl,d,.inr rfl,Kl _,by simpa using e.mono b⟩
theorem ko.read(a:ko E ty F h xs v):iC E (λl=>F l\/Loc v l) h xs v:=a.Yo (λ_ h=> .inl h) λ_ h=> .inr h
theorem ko.append{jM:Nat}{x:V}{new:List V}{ys:List α}(C:ko E ty F h xs v)(c:lC h E.sz x=some (ys.length,new))(q:pR E F h new ys)(D:new.length=ys.length*E.sz)(i:gv new=true)(I:0<ys.length)(J:0<E.sz)
  (o:∀l,F l->l<h.next) (z:(xs.length+ys.length)*jM<=70368744177664) (m:xs.length+ys.length<=70368744177664) :
  ∃r h',fe ty E.sz jM v x h=some (.val r h')/\ko E ty F h' (xs++ys) r/\lV (Loc v) h h'/\(∀t,Loc r t->Loc v t\/t=h.next):=by
 have f:Nat.beq ys.length 0=false:=by
  cases hq:ys.length with
  |zero=>omega
  |succ k=>rfl
 rcases C with⟨rfl,rfl⟩|⟨t,cs,rfl,j,s,A,u,g⟩
 ·refine⟨.slice h.next 0 ys.length,h.new (.cells ty E.sz true false new),?_,.inr ⟨h.next,new,by simp,KX _,λb=>Tw _ (o _ b),fi _ _,?_,i⟩,lV.new _ _,λt G=> .inr G.symm⟩
  ·unfold fe;simp only[c,fj,f,i,sY];rw[kN _ (NZ (by simpa using z)),kN _ (NZ (by simpa using m))]
  ·exact q.fk λl b=>fo _ (o l b)
 ·have H:=u.length;have B:(xs.length+ys.length)*E.sz=xs.length*E.sz+ys.length*E.sz:=Nl _ _ _
  cases hroom:Nat.ble (Nat.add 0 (Nat.mul (Nat.add xs.length ys.length) E.sz)) cs.length with
  | true=>
    have K:(xs.length+ys.length)*E.sz<=cs.length:=by
      have:=Iu hroom;show _<=_;rw[show Nat.add 0 (Nat.mul (Nat.add xs.length ys.length) E.sz)=(xs.length+ys.length)*E.sz from yC _]at this;exact this
    refine ⟨.slice t 0 (xs.length+ys.length),h.put t (.cells ty E.sz true false (cs.take (xs.length*E.sz)++new++cs.drop (xs.length*E.sz+new.length))),?_,
      .inr ⟨t,_,by simp,j,s,gq _ j,?_,?_⟩,lV.put _ rfl j,λ_ h=> .inl h⟩
    ·unfold fe ke
     have w:p7 (Nat.add 0 (Nat.mul xs.length E.sz)) cs new=some (cs.take (xs.length*E.sz)++new++cs.drop (xs.length*E.sz+new.length)):=by
       rw[show Nat.add 0 (Nat.mul xs.length E.sz)=xs.length*E.sz from yC _];exact Cc (by rw[D];omega)
     simp only[c,fj,f,i,sY,A,ZL,hroom,w];rw[kN _ (QN _)];rfl
    ·refine pR.fk (h:=h) (λl b=>gI _ j λe=>s (e▸b)) ?_
     rw[Ek];exact u.take.append (by rw[GX];omega) q.more
    ·rw[ng,ng,i]
     have p:∀(l:List V),gv l=l.all V.one:=λl=>by
       induction l with
       |nil=>rfl
       |cons a l y=>rw[eQ,y];rfl
     rw[p]at g⊢;rw[p];rw[MT]at g;simp only[Bool.and_true,uZ,MT]
     exact⟨λx c=>g x (wB9 c),λx c=>g x (List.mem_of_mem_drop c)⟩
  | false=>
    have p:∀(l:List V),gv l=l.all V.one:=λl=>by
      induction l with
      |nil=>rfl
      |cons a l y=>rw[eQ,y];rfl
    have d:gv (cs.take (xs.length*E.sz))=true:=by
      rw[p]at g⊢;rw[MT]at g⊢;exact λx c=>g x (wB9 c)
    refine ⟨.slice h.next 0 (xs.length+ys.length),(h.put t (.cells ty E.sz false false cs)).new (.cells ty E.sz true false (cs.take (xs.length*E.sz)++new)),?_,
      .inr ⟨h.next,_,by simp,KX _,λb=>Tw _ (o _ b),fi (h.put t _) _,?_,by rw[ng,d,i];rfl⟩,
      (lV.put (S:=Loc (.slice t 0 xs.length)) (.cells ty E.sz false false cs) rfl j).trans (lV.new _ _),λ_ h=> .inr h.symm⟩
    ·unfold fe ke
     have n:sub cs 0 (Nat.mul xs.length E.sz)=some (cs.take (xs.length*E.sz)):=by
       show sub cs 0 (xs.length*E.sz)=_;rw[Fz (show 0+xs.length*E.sz<=cs.length by omega),Vt]
     simp only[c,fj,f,i,sY,A,ZL,hroom,n,d];rw[kN _ (QN _),kN _ (show Nat.ble (Nat.mul (Nat.add xs.length ys.length) jM) 70368744177664=true from NZ z),kN _ (show Nat.ble (Nat.add xs.length ys.length) 70368744177664=true from NZ m)];rfl
    ·refine pR.fk (h:=h) (λl b=>?_) ?_
     ·rw[fo _ (show l<(h.put t _).next from o l b),gI _ j λe=>s (e▸b)]
     ·exact u.take.append (by rw[GX];omega) q
theorem ko.cut(d:ko E ty F h xs v){n:Nat}(a:n<=xs.length):∃b,jh E.sz v none (some (.I n)) h=some b/\ko E ty F h (xs.take n) b/\∀t,Loc b t->Loc v t:=by
 rcases d with⟨rfl,rfl⟩|⟨t,cs,rfl,e,f,c,g,i⟩
 ·obtain rfl:n=0:=by simpa using a
  exact⟨.ee,rfl,.inl ⟨rfl,rfl⟩,λ_ h=>h⟩
 ·refine⟨.slice t 0 n,?_,.inr ⟨t,cs,by rw[GX,wBx a],e,f,c,g.taken n,i⟩,λ_ h=>h⟩;unfold jh ke;simp only[c,fj,Fa,Gn];rw[kN _ (QN _),kN _ (NZ (Kl _)),kN _ (by rw[NZ a];rfl)];simp
theorem ko.store(m:ko E ty F h xs v){i k:Nat}{y:α}{u:V}(hi:i<xs.length)(B:k<E.sz)(f:u.one=true)(n:∀w,E.rel F h xs[i] w->E.rel F h y (w.set k u)) :
  ∃t h',Loc v t/\gD E.sz v (.I i)=some (.ptr t (i*E.sz))/\gK 1 (.ptr t (i*E.sz+k)) u h=some (.val .undef h')/\ko E ty F h' (xs.set i y) v/\lV (Loc v) h h':=by
 rcases m with⟨rfl,rfl⟩|⟨t,cs,rfl,c,g,o,j,d⟩
 ·simp at hi
 ·obtain ⟨w,p,C,g3⟩:=j.get (i:=i) (x:=xs[i]) (gP hi);have b:cs.set (i*E.sz+k) u=cs.take (i*E.sz)++w.set k u++cs.drop (i*E.sz+E.sz):=by
   have e0:cs=cs.take (i*E.sz)++(w++cs.drop (i*E.sz+E.sz)):=by
    rw[<-p]
    conv=>lhs;rw[<-X5 (i*E.sz) cs]
    congr 1;rw[<-ZQ,X5]
   have D:=E.len g3
   conv=>lhs;rw[e0]
   rw[List.set_append_right _ _ (by rw[GX];omega),GX,wBx (by omega),wBr,List.set_append_left _ _ (by omega),Ek]
  refine⟨t,h.put t (.cells ty E.sz true false (cs.set (i*E.sz+k) u)),rfl,by rw[BT _ _ _ _ _ _ hi,yC],L1 o (by omega) f,.inr ⟨t,_,by simp,c,g,gq _ c,?_,?_⟩,lV.put _ rfl c⟩
  ·refine pR.fk (h:=h) (λl q=>gI _ c λe=>g (e▸q)) ?_;rw[b];exact j.set hi (n w g3)
  ·have r:∀(l:List V),gv l=l.all V.one:=λl=>by
    induction l with
    |nil=>rfl
    |cons a l s=>rw[eQ,s];rfl
   rw[r]at d⊢;rw[MT]at d⊢;intro x z;rcases List.mem_or_eq_of_mem_set z with A|rfl
   ·exact d x A
   ·exact f
end
abbrev ey:Nat:=3
abbrev jd:Nat:=4
abbrev iP:Nat:=22
abbrev gY:Nat:=30
abbrev hH:Nat:=46
abbrev fQ:Nat:=50
abbrev ml:Nat:=60
abbrev KZ:Nat:=57
abbrev PZ:Nat:=24
abbrev wI:Nat:=123
abbrev Lj:Nat:=42
open Un
structure Pc where
 lX:Nat->Prop
 ok:(Nat->Prop)->Hp->Prop
 JC:∀{F:Nat->Prop} {h:Hp},ok F h->∀l,lX l->l<h.next/\¬F l
 fk:∀{F:Nat->Prop} {h h':Hp},ok F h->(∀l,F l->h'.get l=h.get l)->(∀l,lX l->h'.get l=h.get l)->h.next<=h'.next->ok F h'
 mono:∀{F F':Nat->Prop} {h:Hp},ok F h->(∀l,F l->F' l)->(∀l,lX l->¬F' l)->ok F' h
def emp:Pc:=⟨λ_=>False,λ_ _=>True,λ_ _ h=>h.elim,λ_ _ _ _=>trivial,λ_ _ _=>trivial⟩
def ev(l ty:Nat)(vs:List V):Pc where
 lX:=λm=>m=l
 ok F h:=h.get l=some (.cells ty 1 true false vs)/\l<h.next/\¬F l
 JC:=λh _ e=>by subst e;exact h.2
 fk:=λh _ a b=>⟨(a l rfl).trans h.1,BL h.2.1 b,h.2.2⟩
 mono:=λh _ a=>⟨h.1,h.2.1,a l rfl⟩
def eR{α:Type}(E:qA α)(ty:Nat)(xs:List α)(v:V):Pc where
 lX:=Loc v
 ok F h:=ko E ty F h xs v
 JC:=λh _ a=>(h.wh a).2
 fk:=λh b a c=>ko.fk h b a c
 mono:=λh b a=>ko.mono h b a
structure Sn (F:Nat->Prop) (h:Hp) (F':Nat->Prop) (h':Hp):Prop where
 next:h.next<=h'.next
 fk:∀l,F l->h'.get l=h.get l
 mono:∀l,F l->F' l
theorem Sn.refl(F:Nat->Prop)(h:Hp):Sn F h F h:=⟨jj _,λ_ _=>rfl,λ_ h=>h⟩
theorem Sn.trans{F F' c:Nat->Prop} {h h' d:Hp}(a:Sn F h F' h')(b:Sn F' h' c d):Sn F h c d:=
 ⟨Gt a.next b.next,λl e=>(b.fk l (a.mono l e)).trans (a.fk l e),λl e=>b.mono l (a.mono l e)⟩
structure en (F:Nat->Prop) (h:Hp) (cs:List Pc):Prop where
 fl:∀l,F l->l<h.next
 ok:∀(i:Nat) (c:Pc),cs[i]? =some c->c.ok F h
 Dl:∀(i j:Nat) (c d:Pc),cs[i]? =some c->cs[j]? =some d->i≠j->∀l,c.lX l->¬d.lX l
section
variable{F F':Nat->Prop}{h h':Hp}{cs:List Pc}{i j:Nat}{c d p:Pc}
theorem yA{cs:List Pc}{i:Nat}{p:Pc}{j:Nat}{d:Pc}(a:(cs.set i p)[j]? =some d):(j=i/\d=p)\/(j≠i/\cs[j]? =some d):=by
 by_cases e:i=j
 ·subst e;have b:i<cs.length:=by
   have:=(iR.1 a).1;simpa using this
  rw[EK b]at a;exact .inl ⟨rfl,(Option.some.inj a).symm⟩
 ·rw[C8 e]at a;exact .inr ⟨λc=>e c.symm,a⟩
theorem en.nil(a:∀l,F l->l<h.next):en F h []:=⟨a,λ_ _ h=>by simp at h,λ_ _ _ _ h=>by simp at h⟩
theorem en.cons(H:en F h cs)(k:p.ok F h)(hp:∀(i:Nat) c,cs[i]? =some c->∀l,p.lX l->¬c.lX l):en F h (p::cs) where
 fl:=H.fl
 ok:=λi c hc=>by
  cases i with
  |zero=>cases hc;exact k
  |succ i=>exact H.ok i c hc
 Dl:=λi j c d hc b g l f a=>by
  cases i with
  | zero=>
    cases hc
    cases j with
    |zero=>exact g rfl
    |succ j=>exact hp j d b l f a
  | succ i=>
    cases j with
    |zero=>cases b;exact hp i c hc l a f
    |succ j=>exact H.Dl i j c d hc b (λe=>g (by rw[e])) l f a
theorem en.tail(H:en F h (p::cs)):en F h cs where
 fl:=H.fl
 ok:=λi c hc=>H.ok (i+1) c hc
 Dl:=λi j c d hc a b=>H.Dl (i+1) (j+1) c d hc a (λe=>b (by omega))
theorem en.add(H:en F h cs)(a:p.ok F h)(hp:∀l,¬p.lX l):en F h (p::cs):=H.cons a λ_ _ _ l b=>(hp l b).elim
theorem en.swap(H:en F h cs)(hi:cs[i]? =some c)(s:p.ok F h)(hp:∀l,p.lX l->c.lX l):en F h (cs.set i p) where
 fl:=H.fl
 ok:=λj d t=>by
  rcases yA t with⟨_,rfl⟩|⟨_,f⟩
  ·exact s
  ·exact H.ok j d f
 Dl:=λj k a b u q g l m e=>by
  rcases yA u with⟨n,rfl⟩|⟨n,r⟩
  ·rcases yA q with⟨o,_⟩|⟨_,f⟩
   ·exact g (n.trans o.symm)
   ·subst n;exact H.Dl j k c b hi f g l (hp l m) e
  ·rcases yA q with⟨o,rfl⟩|⟨_,f⟩
   ·subst o;exact H.Dl j k a c r hi g l m (hp l e)
   ·exact H.Dl j k a b r f g l m e
theorem en.forget(H:en F h cs)(hi:cs[i]? =some c):en F h (cs.set i emp):=H.swap hi trivial λ_ h=>h.elim
theorem en.zaG(H:en F h cs)(hi:cs[i]? =some c)(hc:lV c.lX h h')(u:∀l,F l->F' l)(o:∀l,F' l->F l\/c.lX l\/(h.next<=l/\l<h'.next))(y:p.ok F' h')(hp:∀l,p.lX l->c.lX l\/h.next<=l):en F' h' (cs.set i p)/\Sn F h F' h':=by
 have q:=H.ok i c hi;have v:∀l,F l->h'.get l=h.get l:=λl e=>hc.fk l (H.fl l e) λhs=>(c.JC q l hs).2 e;have other:∀(j:Nat) (d:Pc),j≠i->cs[j]? =some d->d.ok F' h'/\∀l,d.lX l->¬p.lX l:=λj d z r=>by
  have m:=H.ok j d r;have n:∀l,d.lX l->¬c.lX l:=H.Dl j i d c r hi z;refine⟨d.mono (d.fk m v (λl e=>hc.fk l (d.JC m l e).1 (n l e)) hc.next) u λl e f=>?_,λl e f=>?_⟩
  ·rcases o l f with g|g|g
   ·exact(d.JC m l e).2 g
   ·exact n l e g
   ·have:=(d.JC m l e).1;omega
  ·rcases hp l f with g|g
   ·exact n l e g
   ·have:=(d.JC m l e).1;omega
 refine⟨⟨λl e=>?_,λj d r=>?_,λj k a b A w x l e f=>?_⟩,⟨hc.next,v,u⟩⟩
 ·rcases o l e with g|g|g
  ·exact BL (H.fl l g) hc.next
  ·exact BL (c.JC q l g).1 hc.next
  ·exact g.2
 ·rcases yA r with⟨_,rfl⟩|⟨m,n⟩
  ·exact y
  ·exact(other j d m n).1
 ·rcases yA A with⟨t,rfl⟩|⟨t,m⟩
  ·rcases yA w with⟨s,_⟩|⟨s,n⟩
   ·exact x (t.trans s.symm)
   ·exact(other k b s n).2 l f e
  ·rcases yA w with⟨s,rfl⟩|⟨_,n⟩
   ·exact(other j a t m).2 l e f
   ·exact H.Dl j k a b m n x l e f
theorem en.G9(H:en F h cs)(hi:cs[i]? =some c)(hc:lV c.lX h h')(a:p.ok F h')(hp:∀l,p.lX l->c.lX l\/h.next<=l):en F h' (cs.set i p)/\Sn F h F h':=
 H.zaG hi hc (λ_ h=>h) (λ_ h=> .inl h) a hp
theorem en.grow(H:en F h cs)(a:GP h h'):en F h' cs/\Sn F h F h':=by
 have c:∀l,F l->h'.get l=h.get l:=λl b=>a.fk l (H.fl l b) id;exact⟨⟨λl b=>BL (H.fl l b) a.next,λj d e=>d.fk (H.ok j d e) c (λl b=>a.fk l (d.JC (H.ok j d e) l b).1 id) a.next,H.Dl⟩,⟨a.next,c,λ_ h=>h⟩⟩
theorem en.new(H:en F h cs)(o:O)(b:p.ok F (h.new o))(hp:∀l,p.lX l->l=h.next):en F (h.new o) (p::cs)/\Sn F h F (h.new o):=by
 obtain⟨c,e⟩:=H.grow (lV.new h o);refine⟨c.cons b λj d f l g a=>?_,e⟩;have:=(d.JC (H.ok j d f) l a).1;have:=hp l g;omega
theorem en.fresh(H:en F h cs):¬F h.next:=λa=>Tw _ (H.fl _ a)
theorem en.zf(H:en F h cs)(ty:Nat)(vs:List V):en F (h.new (.cells ty 1 true false vs)) (ev h.next ty vs::cs)/\Sn F h F (h.new (.cells ty 1 true false vs)):=
 H.new _ ⟨fi _ _,KX _,H.fresh⟩ λ_ e=>e
theorem en.Vp(H:en F h cs){α:Type}{E:qA α}(ty:Nat){xs:List α}{ws:List V}{n:Nat}(a:n=xs.length)(b:pR E F h ws xs)(c:gv ws=true) :
  en F (h.new (.cells ty E.sz true false ws)) (eR E ty xs (.slice h.next 0 n)::cs)/\Sn F h F (h.new (.cells ty E.sz true false ws)):=by
 subst a;exact H.new _ (.inr ⟨h.next,ws,rfl,KX _,H.fresh,fi _ _,b.fk λl d=>fo _ (H.fl l d),c⟩) λ_ e=>e.symm
theorem en.ZS(H:en F h cs){α:Type}{E:qA α}(ty:Nat){xs:List α}{ws:List V}{n:Nat}(i:n=xs.length)(k:pR E F h ws xs)(ro:Bool) :
  en (λl=>F l\/l=h.next) (h.new (.cells ty E.sz true ro ws)) cs/\Sn F h (λl=>F l\/l=h.next) (h.new (.cells ty E.sz true ro ws))/\iC E (λl=>F l\/l=h.next) (h.new (.cells ty E.sz true ro ws)) xs (.slice h.next 0 n):=by
 subst i;obtain⟨b,e⟩:=H.grow (lV.new h (.cells ty E.sz true ro ws));refine⟨⟨λl a=>?_,λj d f=>d.mono (b.ok j d f) (λ_ h=> .inl h) λl a c=>?_,b.Dl⟩,⟨e.next,e.fk,λ_ h=> .inl h⟩,?_⟩
 ·rcases a with a|rfl
  ·exact b.fl l a
  ·exact KX _
 ·have g:=d.JC (H.ok j d f) l a;rcases c with m|rfl
  ·exact g.2 m
  ·exact Tw _ g.1
 ·exact .inr ⟨h.next,0,ty,true,ro,ws,rfl,.inr rfl,fi _ _,.inr rfl,Kl _,by rw[Vt];exact(k.fk λl a=>fo _ (H.fl l a)).mono λ_ h=> .inl h⟩
theorem en.get(H:en F h cs)(i:Nat){l ty:Nat}{vs:List V}(hi:cs[i]? =some (ev l ty vs)):h.get l=some (.cells ty 1 true false vs):=(H.ok i _ hi).1
theorem en.ld(H:en F h cs)(i:Nat){l ty o:Nat}{vs:List V}{u:V}(hi:cs[i]? =some (ev l ty vs))(a:vs[o]? =some u):ez (.ptr l o) h=some u:=kX (H.get i hi) a
theorem en.wS(H:en F h cs)(i:Nat){l ty n:Nat}{vs:List V}(hi:cs[i]? =some (ev l ty vs))(a:vs.length=n):gg n (.ptr l 0) h=some (.agg vs):=BY (H.get i hi) a
theorem en.st(H:en F h cs)(i:Nat){l ty o:Nat}{vs:List V}{u:V}(hi:cs[i]? =some (ev l ty vs))(b:o<vs.length)(c:u.one=true) :
  ∃h',gK 1 (.ptr l o) u h=some (.val .undef h')/\h.next<=h'.next/\en F h' (cs.set i (ev l ty (vs.set o u)))/\Sn F h F h':=by
 have a:=H.ok i _ hi;refine⟨_,L1 a.1 b c,jj _,H.G9 hi (lV.put _ rfl a.2.1) ⟨gq _ a.2.1,a.2.1,a.2.2⟩ λ_ h=> .inl h⟩
theorem en.stk(H:en F h cs)(i:Nat){l ty o:Nat}{vs:List V}{u:V}(hi:cs[i]? =some (ev l ty vs))(b:o<vs.length)(c:u.one=true) :
  ∃h',gK 1 (.ptr l o) u h=some (.val .undef h')/\h.next<=h'.next/\en F h' (cs.set i (ev l ty (vs.set o u)))/\Sn F h F h'/\∀m,m≠l->h'.get m=h.get m:=by
 have a:=H.ok i _ hi;obtain⟨d,f⟩:=H.G9 (p:=ev l ty (vs.set o u)) (h':=h.put l (.cells ty 1 true false (vs.set o u))) hi (lV.put _ rfl a.2.1) ⟨gq _ a.2.1,a.2.1,a.2.2⟩ λ_ h=> .inl h;exact⟨_,L1 a.1 b c,jj _,d,f,λm g=>gI _ a.2.1 λe=>g e.symm⟩
theorem en.XP(H:en F h cs)(i:Nat){l ty n:Nat}{vs ws:List V}(hi:cs[i]? =some (ev l ty vs))(b:ws.length=n)(hv:vs.length=n)(c:gv ws=true) :
  ∃h',gK n (.ptr l 0) (.agg ws) h=some (.val .undef h')/\h.next<=h'.next/\en F h' (cs.set i (ev l ty ws))/\Sn F h F h':=by
 have a:=H.ok i _ hi;refine⟨_,FQ a.1 b hv c,jj _,H.G9 hi (lV.put _ rfl a.2.1) ⟨gq _ a.2.1,a.2.1,a.2.2⟩ λ_ h=> .inl h⟩
section
variable{α:Type}{E:qA α}{ty:Nat}{xs:List α}{v:V}
theorem en.row(H:en F h cs)(i:Nat)(hi:cs[i]? =some (eR E ty xs v)):ko E ty F h xs v:=H.ok i _ hi
theorem en.len(H:en F h cs)(i:Nat)(hi:cs[i]? =some (eR E ty xs v)):fF v=some (.I xs.length):=(H.row i hi).len
theorem en.one(H:en F h cs)(i:Nat)(hi:cs[i]? =some (eR E ty xs v)):v.one=true:=(H.row i hi).one
theorem en.ix(H:en F h cs)(i:Nat)(hi:cs[i]? =some (eR E ty xs v)){k:Nat}(a:k<xs.length)(kd:IntKind) :
  ∃l o w,gD E.sz v (.int kd k)=some (.ptr l o)/\gg E.sz (.ptr l o) h=some (.agg w)/\E.rel (λl=>F l\/Loc v l) h xs[k] w/\∀j u,w[j]? =some u->ez (.ptr l (o+j)) h=some u:=by
 obtain⟨l,o,w,_,b,c,d,e⟩:=(H.row i hi).read.ix a kd;exact⟨l,o,w,b,c,d,e⟩
theorem en.Tz(H:en F h cs)(i:Nat)(hi:cs[i]? =some (eR E ty xs v)){k:Nat}(a:k<xs.length)(kd:IntKind)(b:E.sz=1) :
  ∃l o u,gD 1 v (.int kd k)=some (.ptr l o)/\ez (.ptr l o) h=some u/\E.rel (λl=>F l\/Loc v l) h xs[k] [u]:=by
 obtain⟨l,o,u,_,c,d,e⟩:=(H.row i hi).read.Tz a kd b;exact⟨l,o,u,c,d,e⟩
theorem en.Ig(H:en F h cs)(i:Nat)(hi:cs[i]? =some (eR E ty xs v)){k:Nat}(f:k<xs.length)(a:E.sz=1){y:α}{u:V}(g:u.one=true)(j:E.rel F h y [u]) :
  ∃l o h',gD 1 v (.I k)=some (.ptr l o)/\gK 1 (.ptr l o) u h=some (.val .undef h')/\h.next<=h'.next/\en F h' (cs.set i (eR E ty (xs.set k y) v))/\Sn F h F h':=by
 obtain ⟨t,h',p,b,c,m,d⟩:=(H.row i hi).store (k:=0) (y:=y) (u:=u) f (by omega) g (λw n=>by
  have e:=E.len n;rw[a]at e
  match w,e with
  |[x],_=>exact j)
 rw[a]at b c;exact⟨t,k*1,h',b,c,d.next,H.G9 hi d m λ_ h=> .inl h⟩
end
end
open Un
section
variable{F F':Nat->Prop}{h h':Hp}{cs:List Pc}{α:Type}{E:qA α}{ty:Nat}{xs ys:List α}{v x:V}
theorem pR.one:∀{xs:List α}{ws:List V},pR E F h ws xs->ws.length=xs.length*E.sz->gv ws=true
 | [],ws,_,hl=>by
   have:ws=[]:=UZ (by simpa using hl)
   subst this;rfl
 | y::xs,ws,⟨w,r,b,a,c⟩,hl=>by
   subst b;have d:=E.len a;rw[ng,E.one a,pR.one c (by simp only[y6,Dz,Nl,Zg]at hl;omega)];rfl
theorem pR.rep{y:α}{u:V}(a:E.rel F h y [u]):∀n,pR E F h (List.replicate n u) (List.replicate n y)
 |0=>trivial
 |n+1=>⟨[u],_,rfl,a,pR.rep a n⟩
theorem L7{u:V}(a:u.one=true):∀n,gv (List.replicate n u)=true
 |0=>rfl
 |n+1=>by rw[List.replicate_succ,eQ,a,L7 a n];rfl
theorem CW{l off n BN sz:Nat}{ro:Bool}{ds:List V}(a:h.get l=some (.cells BN sz true ro ds))(b:off+n*sz<=ds.length):∃new,lC h sz (.slice l off n)=some (n,new)/\new=(ds.drop off).take (n*sz):=by
 cases n with
 |zero=>exact⟨_,rfl,by simp⟩
 | succ n=>
   refine⟨_,?_,rfl⟩;unfold lC Gx ke;have:sub ds off (Nat.mul (Nat.succ n) sz)=some ((ds.drop off).take ((n+1)*sz)):=Fz b;simp only[a,fj,sY,this]
theorem iC.xc(hs:iC E F h ys x):∃new,lC h E.sz x=some (ys.length,new)/\pR E F h new ys/\new.length=ys.length*E.sz:=by
 rcases hs with⟨rfl,rfl⟩|⟨l,off,BN,live,ro,ds,rfl,g,c,d,i,a⟩
 ·exact⟨[],rfl,trivial,by simp⟩
 ·have e:=a.length;rw[wB2]at e;rcases d with rfl|rfl
  ·exact⟨[],rfl,trivial,by simp⟩
  ·obtain⟨new,f,b⟩:=CW (n:=ys.length) (off:=off) (sz:=E.sz) c (by omega);exact⟨new,f,by rw[b];exact a.take,by rw[b,GX,wB2];omega⟩
theorem ko.xc(hs:ko E ty F h ys x):∃new,lC h E.sz x=some (ys.length,new)/\pR E F h new ys/\new.length=ys.length*E.sz:=by
 rcases hs with⟨rfl,rfl⟩|⟨t,ds,rfl,e,f,c,a,g⟩
 ·exact⟨[],rfl,trivial,by simp⟩
 ·have i:=a.length;obtain⟨new,d,b⟩:=CW (n:=ys.length) (off:=0) (sz:=E.sz) c (by omega);refine⟨new,d,by rw[b,Vt];exact a.take,by rw[b,GX,wB2];omega⟩
theorem EP{e sz:Nat}{z:V}:jt e sz 0 z []=some (.cells e sz true false [],λl=> .slice l 0 0):=rfl
theorem en.app(H:en F h cs)(i:Nat)(hi:cs[i]? =some (eR E ty xs v)){jM:Nat}{new:List V}(f:lC h E.sz x=some (ys.length,new))(g:pR E F h new ys)(b:new.length=ys.length*E.sz)
  (k:0<E.sz) (m:jM<=1000) (c:xs.length+ys.length<=10000000) :
  ∃a h',fe ty E.sz jM v x h=some (.val a h')/\h.next<=h'.next/\en F h' (cs.set i (eR E ty (xs++ys) a))/\Sn F h F h':=by
 have d:=H.row i hi;by_cases hk:0<ys.length
 ·have n:(xs.length+ys.length)*jM<=10000000*1000:=Nat.mul_le_mul c m;obtain⟨a,h',o,q,j,l1⟩:=d.append (jM:=jM) f g b (g.one b) hk k H.fl (by omega) (by omega);obtain⟨r,s⟩:=H.G9 (p:=eR E ty (xs++ys) a) hi j q λl b=>(l1 l b).imp id λe=>by omega
  exact⟨a,h',o,j.next,r,s⟩
 ·have e0:ys=[]:=UZ (by omega);subst e0;refine⟨v,h,?_,jj _,by rw[Eo];exact H.swap hi d λ_ h=>h,Sn.refl _ _⟩;unfold fe;rw[f];rcases d with⟨rfl,_⟩|⟨t,ds,rfl,_⟩ <;> rfl
theorem en.M7(H:en F h cs)(i:Nat)(hi:cs[i]? =some (eR E ty xs v)){jM:Nat}(hs:iC E F h ys x)(c:0<E.sz)(d:jM<=1000)(a:xs.length+ys.length<=10000000) :
  ∃b h',fe ty E.sz jM v x h=some (.val b h')/\h.next<=h'.next/\en F h' (cs.set i (eR E ty (xs++ys) b))/\Sn F h F h':=by
 obtain⟨new,e,f,e3⟩:=hs.xc;exact H.app i hi e f e3 c d a
theorem en.YU(H:en F h cs)(i j:Nat)(hi:cs[i]? =some (eR E ty xs v)){c:Nat}(d:cs[j]? =some (eR E c ys x)){jM:Nat}(e:0<E.sz)(f:jM<=1000)(a:xs.length+ys.length<=10000000) :
  ∃b h',fe ty E.sz jM v x h=some (.val b h')/\h.next<=h'.next/\en F h' (cs.set i (eR E ty (xs++ys) b))/\Sn F h F h':=by
 obtain⟨new,g,k,e3⟩:=(H.row j d).xc;exact H.app i hi g k e3 e f a
theorem en.tU(H:en F h cs)(i:Nat)(hi:cs[i]? =some (eR E ty xs v)){jM BN:Nat}{y:α}{w:List V}{ro:Bool}(b:E.rel F h y w)(c:0<E.sz)(d:jM<=1000)(e:xs.length<1000000) :
  ∃a h',fe ty E.sz jM v (.slice h.next 0 1) (h.new (.cells BN E.sz true ro w))=some (.val a h')/\h.next+1<=h'.next/\en F h' (cs.set i (eR E ty (xs++[y]) a))/\Sn F h F h':=by
 obtain⟨f,g⟩:=H.grow (lV.new h (.cells BN E.sz true ro w));have j:lC (h.new (.cells BN E.sz true ro w)) E.sz (.slice h.next 0 1)=some (1,w):=nB (k:=0) (by rw[E.len b];simp);obtain⟨a,h',m,n,e3,o⟩:=f.app (ys:=[y]) i hi j ⟨w,[],by simp,E.fk (λl p=>fo _ (H.fl l p)) b,trivial⟩ (by rw[E.len b];simp) c d (by simp;omega);exact⟨a,h',m,n,e3,g.trans o⟩
theorem en.zaV(H:en F h cs)(i:Nat)(hi:cs[i]? =some (eR E ty xs v)){n:Nat}(b:n<=xs.length) :
  ∃a,jh E.sz v none (some (.I n)) h=some a/\en F h (cs.set i (eR E ty (xs.take n) a)):=by
 obtain⟨a,c,d,e⟩:=(H.row i hi).cut b;exact⟨a,c,H.swap hi d e⟩
theorem en.lO(H:en F h cs)(i:Nat)(hi:cs[i]? =some (eR E ty xs v)):en (λl=>F l\/Loc v l) h (cs.set i emp)/\Sn F h (λl=>F l\/Loc v l) h/\iC E (λl=>F l\/Loc v l) h xs v:=by
 obtain⟨a,b⟩:=H.zaG (p:=emp) (F':=λl=>F l\/Loc v l) hi (lV.refl _ _) (λ_ h=> .inl h) (λ_ h=>h.imp id .inl) trivial λ_ h=>h.elim;exact⟨a,b,(H.row i hi).read⟩
theorem en.make(H:en F h cs){y:α}{u:V}(n:Nat)(a:E.rel F h y [u])(c:E.sz=1):en F (h.new (.cells ty 1 true false (List.replicate n u))) (eR E ty (List.replicate n y) (.slice h.next 0 n)::cs)/\Sn F h F (h.new (.cells ty 1 true false (List.replicate n u))):=by
 have b:=E.one a;rw[eQ,uZ]at b;have:=H.Vp (E:=E) ty (n:=n) (by simp) (pR.rep a n) (L7 b.1 n)
 rwa [c]at this
theorem jQ{e jM n:Nat}{z:V}(a:z.one=true)(b:jM<=100)(c:n<=1000000) :
  ig e 1 jM z (.I (n:Int)) (.I (n:Int))=some (O.cells e 1 true false (List.replicate n z),λl=>V.slice l 0 n):=by
 have:n*jM<=1000000*100:=Nat.mul_le_mul c b;rw[M8 (by omega) (by omega),NG a,VW]
theorem iF{l o:Nat}{u:V}(a:ez (.ptr l o) h=some u)(b:h'.get l=h.get l):ez (.ptr l o) h' = some u:=by
 rw[<-a];unfold ez ld1 ke;simp only[zv,b]
theorem FI{l o n:Nat}{u:V}(a:gg n (.ptr l o) h=some u)(b:h'.get l=h.get l):gg n (.ptr l o) h' = some u:=by
 rw[<-a];unfold gg Gx ke;simp only[zv,b]
end
open Un
def fT{ι:Type}(ty:Nat)(f:ι->Option (List Nat×V)):Pc where
 lX:=λl=>∃i xs v,f i=some (xs,v)/\Loc v l
 ok F h:=(∀i xs v,f i=some (xs,v)->ko eN ty F h xs v)/\∀i j xs v ys w,f i=some (xs,v)->f j=some (ys,w)->i≠j->∀l,Loc v l->¬Loc w l
 JC:=λh l ⟨i,xs,v,a,b⟩=>((h.1 i xs v a).wh b).2
 fk:=λh c b d=>⟨λi xs v a=>(h.1 i xs v a).fk c (λl hv=>b l ⟨i,xs,v,a,hv⟩) d,h.2⟩
 mono:=λh c b=>⟨λi xs v a=>(h.1 i xs v a).mono c λl hv=>b l ⟨i,xs,v,a,hv⟩,h.2⟩
def up{ι α:Type}[DecidableEq ι] (f:ι->Option α)(i:ι)(x:Option α):ι->Option α:=λj=>if j=i then x else f j
@[simp] theorem ji {ι α:Type} [DecidableEq ι] (f:ι->Option α) (i:ι) (x:Option α):up f i x i=x:=if_pos rfl
theorem iZ{ι α:Type}[DecidableEq ι] (f:ι->Option α){i j:ι}(x:Option α)(h:j≠i):up f i x j=f j:=if_neg h
section
variable{F:Nat->Prop}{h:Hp}{cs:List Pc}{p q:Pc}
theorem en.sw(H:en F h (p::q::cs)):en F h (q::p::cs) where
 fl:=H.fl
 ok:=λi c hc=>by
  match i,hc with
  |0,hc=>exact H.ok 1 c hc
  |1,hc=>exact H.ok 0 c hc
  |i+2,hc=>exact H.ok (i+2) c hc
 Dl:=λi j c d hc a b=>by
  match i,j,hc,a with
  |0,0,_,_=>exact absurd rfl b
  |0,1,hc,a=>exact H.Dl 1 0 c d hc a (by omega)
  |0,j+2,hc,a=>exact H.Dl 1 (j+2) c d hc a (by omega)
  |1,0,hc,a=>exact H.Dl 0 1 c d hc a (by omega)
  |1,1,_,_=>exact absurd rfl b
  |1,j+2,hc,a=>exact H.Dl 0 (j+2) c d hc a (by omega)
  |i+2,0,hc,a=>exact H.Dl (i+2) 1 c d hc a (by omega)
  |i+2,1,hc,a=>exact H.Dl (i+2) 0 c d hc a (by omega)
  |i+2,j+2,hc,a=>exact H.Dl (i+2) (j+2) c d hc a b
theorem en.IF(H:en F h (p::q::cs)):en F h (p::cs):=H.sw.tail
end
section
variable{F F':Nat->Prop}{h h':Hp}{cs:List Pc}{ι:Type}{ty:Nat}{f:ι->Option (List Nat×V)}{xs:List Nat}{v:V}
theorem en.VD(H:en F h cs):en F h (fT (ι:=ι) ty (λ_=>Option.none)::cs):=
 H.add ⟨λ_ _ _ h=>(nomatch h),λ_ _ _ _ _ _ h=>(nomatch h)⟩ λ_ ⟨_,_,_,h,_⟩=>(nomatch h)
theorem en.OI [DecidableEq ι] (H:en F h (eR eN ty xs v::fT ty f::cs)){i:ι}(hi:f i=Option.none):en F h (fT ty (up f i (some (xs,v)))::cs):=by
 have h0:=H.ok 0 _ rfl;have m:=H.ok 1 _ rfl;have n:∀l,Loc v l->¬(fT ty f).lX l:=λl d=>H.Dl 0 1 _ _ rfl rfl (by omega) l d;refine H.tail.tail.cons ⟨λj ys w b=>?_,λj k ys w o x b a p l d g=>?_⟩ λj c hc l d=>?_
 ·by_cases e:j=i
  ·subst e;rw[ji]at b;cases b;exact h0
  ·rw[iZ _ _ e]at b;exact m.1 j ys w b
 ·by_cases e:j=i
  ·subst e;rw[ji]at b;cases b;rw[iZ _ _ λe=>p e.symm]at a;exact n l d ⟨k,o,x,a,g⟩
  ·rw[iZ _ _ e]at b;by_cases e':k=i
   ·subst e';rw[ji]at a;cases a;exact n l g ⟨j,ys,w,b,d⟩
   ·rw[iZ _ _ e']at a;exact m.2 j k ys w o x b a p l d g
 ·obtain⟨k,ys,w,a,q⟩:=d;by_cases e:k=i
  ·subst e;rw[ji]at a;cases a;exact H.Dl 0 (j+2) _ c rfl hc (by omega) l q
  ·rw[iZ _ _ e]at a;exact H.Dl 1 (j+2) _ c rfl hc (by omega) l ⟨k,ys,w,a,q⟩
theorem en.rows(H:en F h cs)(n:Nat)(a:cs[n]? =some (fT ty f)){i:ι}(hi:f i=some (xs,v)):ko eN ty F h xs v:=(H.ok n _ a).1 i xs v hi
theorem en.Qa{κ:Type}(H:en F h cs)(n:Nat)(d:cs[n]? =some (fT ty f))(g:κ->Option (List Nat×V))(m:κ->ι)(b:∀i p,g i=some p->f (m i)=some p)(a:∀i j p q,g i=some p->g j=some q->m i=m j->i=j):en F h (cs.set n (fT ty g)):=by
 have k:=H.ok n _ d;refine H.swap d ⟨λi xs v hi=>k.1 (m i) xs v (b i _ hi),λi j xs v ys w hi o c=>k.2 (m i) (m j) xs v ys w (b i _ hi) (b j _ o) λe=>c (a i j _ _ hi o e)⟩ λl ⟨i,xs,v,hi,r⟩=>⟨m i,xs,v,b i _ hi,r⟩
theorem en.V6 [DecidableEq ι] (H:en F h cs)(n:Nat)(B:cs[n]? =some (fT ty f)){i:ι}(hi:f i=some (xs,v)){k:Nat}(C:k<xs.length)(y:Nat) :
  ∃l o h',gD 1 v (.I k)=some (.ptr l o)/\gK 1 (.ptr l o) (.I y) h=some (.val .undef h')/\h.next<=h'.next/\en F h' (cs.set n (fT ty (up f i (some (xs.set k y,v)))))/\Sn F h F h':=by
 have p:=H.ok n _ B;obtain⟨t,h',L,D,e3,E,q⟩:=(p.1 i xs v hi).store (k:=0) (y:=y) (u:=V.I y) C Nat.one_pos rfl (λw G=>by
  have:w=[.I (xs[k]:Nat)]:=G;subst this;exact(rfl:eN.rel F h y [V.I y]))
 have hc:lV (fT ty f).lX h h':=q.U2 λl _ c=>⟨i,xs,v,hi,c⟩
 have g:∀{a:ι} {m:List Nat} {b:V},up f i (some (xs.set k y,v)) a=some (m,b)->∃cs,f a=some (cs,b):=λ{a m b} r=>by
  by_cases e:a=i
  ·subst e;rw[ji]at r;cases r;exact⟨xs,hi⟩
  ·rw[iZ _ _ e]at r;exact⟨m,r⟩
 have ok:(fT ty (up f i (some (xs.set k y,v)))).ok F h':=by
  refine⟨λj ys w d=>?_,λj I ys w m x d s z l c A=>?_⟩
  ·by_cases e:j=i
   ·subst e;rw[ji]at d;cases d;exact E
   ·rw[iZ _ _ e]at d;have:=p.1 j ys w d;exact this.fk (λl c=>q.fk l (H.fl l c) λhv=>((p.1 i xs v hi).wh hv).2.2 c) (λl c=>q.fk l (this.wh c).2.1 λhv=>p.2 j i ys w xs v d hi e l c hv) q.next
  ·obtain⟨_,a1⟩:=g d;obtain⟨_,a2⟩:=g s;exact p.2 j I _ w _ x a1 a2 z l c A
 obtain⟨J,K⟩:=H.G9 B hc ok λl ⟨j,ys,w,d,c⟩=> .inl (let⟨m,a1⟩:=g d;⟨j,m,w,a1,c⟩);exact⟨t,k*1,h',D,e3,q.next,J,K⟩
end
open Un
structure Rw where
 vv:V
 vb:V
 vs:V
 vk:V
 vc:V
 vp:V
 cc:V
def comp(lu iu jA:Nat)(R:Rw):Nat->Nat->Prop
 |0,l=>l=lu
 |1,l=>l=iu
 |2,l=>l=jA
 |3,l=>Loc R.vv l
 |4,l=>Loc R.vb l
 |5,l=>Loc R.vs l
 |6,l=>Loc R.vk l
 |7,l=>Loc R.vc l
 |_,_=>False
def sig:Nat->Nat×Nat
 |0=>(gY,1)
 |1=>(iP,1)
 |2=>(fQ,1)
 |3=>(hH,6)
 |4=>(fQ,6)
 |5=>(ml,1)
 |_=>(ey,1)
structure Dw (F G:Nat->Prop) (h:Hp) (lu iu jA:Nat) (t:Dt) (R:Rw):Prop where
 fl:∀l,F l->l<h.next
 gu:h.get lu=some (.cells gY 1 true false [.I 1,.I 2,R.vv,R.vb,R.vs])
 gk:h.get iu=some (.cells iP 1 true false [R.vk])
 gb:h.get jA=some (.cells fQ 1 true false [R.cc,.I 0,.I 0,.ee,R.vp,.I 0])
 nu:lu<h.next/\¬F lu
 nk:iu<h.next/\¬F iu
 nb:jA<h.next/\¬F jA
 ov:ko eV hH F h t.s.ef R.vv
 ob:ko eK fQ F h t.blocks R.vb
 os:ko eT ml F h t.s.eh R.vs
 ok:ko eN ey F h t.s.known R.vk
 oc:ko eN ey F h t.s.cur R.vc
 sp:iC eN F h t.fg R.vp
 kc:∀l,Loc R.vk l->¬Loc R.vc l
 gx:∀l,G l->l<h.next/\¬F l/\∀i,¬comp lu iu jA R i l
structure Kp (F G:Nat->Prop) (h h':Hp):Prop where
 next:h.next<=h'.next
 fk:∀l,F l\/G l->h'.get l=h.get l
theorem Kp.refl(F G:Nat->Prop)(h:Hp):Kp F G h h:=⟨jj _,λ_ _=>rfl⟩
theorem Kp.trans{F F' G:Nat->Prop} {h h' c:Hp}(a:Kp F G h h')(b:Kp F' G h' c)(e:∀l,F l->F' l):Kp F G h c:=
 ⟨Gt a.next b.next,λl d=>by rw[b.fk l (d.imp (e l) id),a.fk l d]⟩
section
variable{F G:Nat->Prop}{h h':Hp}{lu iu jA:Nat}{t:Dt}{R:Rw}
theorem Dw.sig(D:Dw F G h lu iu jA t R){l:Nat}:∀{i:Nat},comp lu iu jA R i l->ZA h l=some (Hx.sig i)/\l<h.next/\¬F l
 |0,hl=>by have e:l=lu:=hl;subst e;exact⟨KS D.gu,D.nu⟩
 |1,hl=>by have e:l=iu:=hl;subst e;exact⟨KS D.gk,D.nk⟩
 |2,hl=>by have e:l=jA:=hl;subst e;exact⟨KS D.gb,D.nb⟩
 |3,hl=>D.ov.wh hl
 |4,hl=>D.ob.wh hl
 |5,hl=>D.os.wh hl
 |6,hl=>D.ok.wh hl
 |7,hl=>D.oc.wh hl
 |_+8,hl=>hl.elim
theorem Dw.Dl(D:Dw F G h lu iu jA t R){l i j:Nat}(hi:comp lu iu jA R i l)(b:comp lu iu jA R j l):Hx.sig i=Hx.sig j:=by
 have a:=(D.sig hi).1;rw[(D.sig b).1]at a;exact(Option.some.inj a).symm
theorem Dw.Dy(D:Dw F G h lu iu jA t R){l i j:Nat}(hi:comp lu iu jA R i l)(a:comp lu iu jA R j l)(c:i<8)(d:j<8):i=j:=by
 have e:=D.Dl hi a;have b:∀i,i<8->∀j,j<8->Hx.sig i=Hx.sig j->i=j\/(i=6/\j=7)\/(i=7/\j=6):=by decide
 rcases b i c j d e with f|⟨rfl,rfl⟩|⟨rfl,rfl⟩
 ·exact f
 ·exact absurd a (D.kc l hi)
 ·exact absurd hi (D.kc l a)
theorem Dw.kept(D:Dw F G h lu iu jA t R){i j:Nat}(hi:i<8)(e:j<8)(hc:lV (λl=>comp lu iu jA R i l\/comp lu iu jA R j l) h h') :
  (∀l,F l->h'.get l=h.get l)/\(∀l,G l->h'.get l=h.get l)/\∀k l,k<8->k≠i->k≠j->comp lu iu jA R k l->h'.get l=h.get l:=by
 refine⟨λl a=>hc.fk l (D.fl l a) ?_,λl a=>hc.fk l (D.gx l a).1 ?_,λk l d b f a=>hc.fk l (D.sig a).2.1 ?_⟩
 ·rintro(b|b)
  ·exact(D.sig b).2.2 a
  ·exact(D.sig b).2.2 a
 ·rintro(b|b)
  ·exact(D.gx l a).2.2 _ b
  ·exact(D.gx l a).2.2 _ b
 ·rintro(c|c)
  ·exact b (D.Dy a c d hi)
  ·exact f (D.Dy a c d e)
theorem Dw.other(D:Dw F G h lu iu jA t R){S:Nat->Prop}(b:lV S h h')(d:∀l,S l->¬F l/\¬G l/\∀i,¬comp lu iu jA R i l):Dw F G h' lu iu jA t R/\Kp F G h h':=by
 have c:∀l,F l->h'.get l=h.get l:=λl a=>b.fk l (D.fl l a) λhs=>(d l hs).1 a;have e:∀l,G l->h'.get l=h.get l:=λl a=>b.fk l (D.gx l a).1 λhs=>(d l hs).2.1 a;have k:∀i l,comp lu iu jA R i l->h'.get l=h.get l:=λi l a=>b.fk l (D.sig a).2.1 λhs=>(d l hs).2.2 i a;have lt:∀l,l<h.next->l<h'.next:=λl a=>BL a b.next
 exact ⟨{
  fl:=λl a=>lt l (D.fl l a)
  gu:=by rw[k 0 _ rfl];exact D.gu
  gk:=by rw[k 1 _ rfl];exact D.gk
  gb:=by rw[k 2 _ rfl];exact D.gb
  nu:=⟨lt _ D.nu.1,D.nu.2⟩
  nk:=⟨lt _ D.nk.1,D.nk.2⟩
  nb:=⟨lt _ D.nb.1,D.nb.2⟩
  ov:=D.ov.fk c (λl a=>k 3 l a) b.next
  ob:=D.ob.fk c (λl a=>k 4 l a) b.next
  os:=D.os.fk c (λl a=>k 5 l a) b.next
  ok:=D.ok.fk c (λl a=>k 6 l a) b.next
  oc:=D.oc.fk c (λl a=>k 7 l a) b.next
  sp:=D.sp.fk c
  kc:=D.kc
  gx:=λl a=>⟨lt l (D.gx l a).1,(D.gx l a).2⟩ },⟨b.next,λl a=>a.elim (c l) (e l)⟩⟩
theorem Dw.grow(D:Dw F G h lu iu jA t R)(a:GP h h'):Dw F G h' lu iu jA t R:=(D.other a λ_ h=>h.elim).1
theorem Dw.more(D:Dw F G h lu iu jA t R) {F':Nat->Prop}(c:∀l,F l->F' l)(d:∀l,F' l->F l\/(l<h.next/\(∀i,¬comp lu iu jA R i l)/\¬G l)):Dw F' G h lu iu jA t R:=by
 have b:∀i l,comp lu iu jA R i l->¬F' l:=λi l a e=>by
  rcases d l e with f|⟨_,f,_⟩
  ·exact(D.sig a).2.2 f
  ·exact f i a
 exact {
  fl:=λl a=>(d l a).elim (D.fl l) λh=>h.1
  gu:=D.gu
  gk:=D.gk
  gb:=D.gb
  nu:=⟨D.nu.1,b 0 _ rfl⟩
  nk:=⟨D.nk.1,b 1 _ rfl⟩
  nb:=⟨D.nb.1,b 2 _ rfl⟩
  ov:=D.ov.mono c λl a=>b 3 l a
  ob:=D.ob.mono c λl a=>b 4 l a
  os:=D.os.mono c λl a=>b 5 l a
  ok:=D.ok.mono c λl a=>b 6 l a
  oc:=D.oc.mono c λl a=>b 7 l a
  sp:=D.sp.mono c
  kc:=D.kc
  gx:=λl a=>⟨(D.gx l a).1,λe=>(d l e).elim (D.gx l a).2.1 λh=>h.2.2 a,(D.gx l a).2.2⟩ }
def fz(F:Nat->Prop)(n:Nat):Nat->Prop:=λl=>F l\/l=n
theorem pJ(F:Nat->Prop)(n:Nat):∀l,F l->fz F n l:=λ_ h=> .inl h
theorem Dw.new(D:Dw F G h lu iu jA t R)(o:O):Dw (fz F h.next) G (h.new o) lu iu jA t R:=
 (D.grow (lV.new h o)).more (pJ _ _) λl a=>a.imp id λe=>by
  subst e;refine⟨KX _,λi hi=>Tw _ (D.sig hi).2.1,λb=>Tw _ (D.gx _ b).1⟩
theorem Kp.new(F G:Nat->Prop)(h:Hp)(o:O)(a:∀l,F l->l<h.next)(b:∀l,G l->l<h.next):Kp F G h (h.new o):=
 ⟨Nk _,λl c=>fo o (c.elim (a l) (b l))⟩
theorem Dw.yI(D:Dw F G h lu iu jA t R)(o:O):Kp F G h (h.new o):=Kp.new F G h o D.fl λl a=>(D.gx l a).1
theorem nT{l o e sz:Nat} {cs nQ:List V}{v:V}(a:h.get l=some (.cells e sz true false cs))(b:o<cs.length)(hv:v.one=true)(hs:cs.set o v=nQ):gK 1 (.ptr l o) v h=some (.val .undef (h.put l (.cells e sz true false nQ))):=by
 subst hs;exact L1 a b hv
private theorem WK {a:Nat->Prop} {l:Nat} {S:Nat->Prop} {b:Hp} {o:O} (hc:lV a h b) (c:∀l,a l->S l) (d:l<h.next) (hs:S l):lV S h (b.put l o):=
 (hc.U2 λl _ h=>c l h).trans (lV.put o hs (BL d hc.next))
theorem Dw.zdX(D:Dw F G h lu iu jA t R){ys:List Vl}{new:List V}{xv:V}(u:lC h 6 xv=some (ys.length,new))(w:pR eV F h new ys)(a:new.length=ys.length*6) (p:gv new=true)(x:0<ys.length)(hlen:t.s.ef.length+ys.length<1000000) :
  ∃b c f,fe hH 6 64 R.vv xv h=some (.val b c)/\h.next<=c.next/\gK 1 (.ptr lu 2) b c=some (.val .undef f)/\c.next<=f.next/\Kp F G h f/\
   Dw F G f lu iu jA {t with s:={t.s with ef:=t.s.ef++ys} } {R with vv:=b}:=by
 obtain ⟨b,c,y,r,n,l1⟩:=D.ov.append (jM:=64) (ys:=ys) u w a p x (by decide) D.fl (by omega) (by omega);have q:c.get lu=some (.cells gY 1 true false [.I 1,.I 2,R.vv,R.vb,R.vs]):=by
  rw[n.fk lu D.nu.1 λa=>nomatch D.Dy (i:=0) (j:=3) rfl a (by decide) (by decide)];exact D.gu
 have g:lu<c.next:=BL D.nu.1 n.next;have z:=nT (o:=2) (v:=b) (nQ:=[.I 1,.I 2,b,R.vb,R.vs]) q (by simp) r.one rfl;have hc:lV (λl=>comp lu iu jA R 0 l\/comp lu iu jA R 3 l) h (c.put lu (.cells gY 1 true false [.I 1,.I 2,b,R.vb,R.vs])):=WK n (λ_ h=> .inr h) D.nu.1 (.inl rfl);obtain⟨k,A,m⟩:=D.kept (by decide) (by decide) hc;have d:∀l,l<h.next->l<(c.put lu (.cells gY 1 true false [.I 1,.I 2,b,R.vb,R.vs])).next:=λl a=>BL a hc.next;have B:∀l,Loc b l->l≠lu:=λl a e=>by
  subst e;rcases l1 _ a with f|f
  ·exact absurd (D.Dy (i:=0) (j:=3) rfl f (by decide) (by decide)) (by decide)
  ·exact absurd f (Qe D.nu.1)
 have C:ko eV hH F (c.put lu (.cells gY 1 true false [.I 1,.I 2,b,R.vb,R.vs])) (t.s.ef++ys) b:=
  r.fk (λl a=>gI _ g λe=>D.nu.2 (e▸a)) (λl a=>gI _ g λe=>B l a e.symm) (jj _)
 refine⟨b,c,_,y,n.next,z,jj _,⟨hc.next,λl a=>a.elim (k l) (A l)⟩,?_⟩
 exact {
  fl:=λl a=>d l (D.fl l a)
  gu:=gq _ g
  gk:=by rw[m 1 iu (by decide) (by decide) (by decide) rfl];exact D.gk
  gb:=by rw[m 2 jA (by decide) (by decide) (by decide) rfl];exact D.gb
  ov:=C
  ob:=D.ob.fk k (λl a=>m 4 l (by decide) (by decide) (by decide) a) hc.next
  os:=D.os.fk k (λl a=>m 5 l (by decide) (by decide) (by decide) a) hc.next
  ok:=D.ok.fk k (λl a=>m 6 l (by decide) (by decide) (by decide) a) hc.next
  oc:=D.oc.fk k (λl a=>m 7 l (by decide) (by decide) (by decide) a) hc.next
  nu:=⟨d _ D.nu.1,D.nu.2⟩
  nk:=⟨d _ D.nk.1,D.nk.2⟩
  nb:=⟨d _ D.nb.1,D.nb.2⟩
  sp:=D.sp.fk k
  kc:=D.kc
  gx:=λl a=>⟨d l (D.gx l a).1,(D.gx l a).2.1,λi hi=>by
   match i,hi with
   |0,hi=>exact(D.gx l a).2.2 0 hi
   |1,hi=>exact(D.gx l a).2.2 1 hi
   |2,hi=>exact(D.gx l a).2.2 2 hi
   |3,hi=>exact(l1 l hi).elim ((D.gx l a).2.2 3) λe=>absurd e (Qe (D.gx l a).1)
   |4,hi=>exact(D.gx l a).2.2 4 hi
   |5,hi=>exact(D.gx l a).2.2 5 hi
   |6,hi=>exact(D.gx l a).2.2 6 hi
   |7,hi=>exact(D.gx l a).2.2 7 hi⟩ }
theorem Dw.zdz(D:Dw F G h lu iu jA t R){ys:List Bk}{new:List V}{xv:V}(s:lC h 6 xv=some (ys.length,new))(u:pR eK F h new ys)(a:new.length=ys.length*6) (p:gv new=true)(w:0<ys.length)(hlen:t.blocks.length+ys.length<1000000) :
  ∃b c f,fe fQ 6 96 R.vb xv h=some (.val b c)/\h.next<=c.next/\gK 1 (.ptr lu 3) b c=some (.val .undef f)/\c.next<=f.next/\Kp F G h f/\
   Dw F G f lu iu jA {t with blocks:=t.blocks++ys} {R with vb:=b}:=by
 obtain ⟨b,c,x,r,n,l1⟩:=D.ob.append (jM:=96) (ys:=ys) s u a p w (by decide) D.fl (by omega) (by omega);have q:c.get lu=some (.cells gY 1 true false [.I 1,.I 2,R.vv,R.vb,R.vs]):=by
  rw[n.fk lu D.nu.1 λa=>nomatch D.Dy (i:=0) (j:=4) rfl a (by decide) (by decide)];exact D.gu
 have g:lu<c.next:=BL D.nu.1 n.next;have y:=nT (o:=3) (v:=b) (nQ:=[.I 1,.I 2,R.vv,b,R.vs]) q (by simp) r.one rfl;have hc:lV (λl=>comp lu iu jA R 0 l\/comp lu iu jA R 4 l) h (c.put lu (.cells gY 1 true false [.I 1,.I 2,R.vv,b,R.vs])):=WK n (λ_ h=> .inr h) D.nu.1 (.inl rfl);obtain⟨k,z,m⟩:=D.kept (by decide) (by decide) hc;have d:∀l,l<h.next->l<(c.put lu (.cells gY 1 true false [.I 1,.I 2,R.vv,b,R.vs])).next:=λl a=>BL a hc.next;have A:∀l,Loc b l->l≠lu:=λl a e=>by
  subst e;rcases l1 _ a with f|f
  ·exact absurd (D.Dy (i:=0) (j:=4) rfl f (by decide) (by decide)) (by decide)
  ·exact absurd f (Qe D.nu.1)
 have B:ko eK fQ F (c.put lu (.cells gY 1 true false [.I 1,.I 2,R.vv,b,R.vs])) (t.blocks++ys) b:=
  r.fk (λl a=>gI _ g λe=>D.nu.2 (e▸a)) (λl a=>gI _ g λe=>A l a e.symm) (jj _)
 refine⟨b,c,_,x,n.next,y,jj _,⟨hc.next,λl a=>a.elim (k l) (z l)⟩,?_⟩
 exact {
  fl:=λl a=>d l (D.fl l a)
  gu:=gq _ g
  gk:=by rw[m 1 iu (by decide) (by decide) (by decide) rfl];exact D.gk
  gb:=by rw[m 2 jA (by decide) (by decide) (by decide) rfl];exact D.gb
  ov:=D.ov.fk k (λl a=>m 3 l (by decide) (by decide) (by decide) a) hc.next
  ob:=B
  os:=D.os.fk k (λl a=>m 5 l (by decide) (by decide) (by decide) a) hc.next
  ok:=D.ok.fk k (λl a=>m 6 l (by decide) (by decide) (by decide) a) hc.next
  oc:=D.oc.fk k (λl a=>m 7 l (by decide) (by decide) (by decide) a) hc.next
  nu:=⟨d _ D.nu.1,D.nu.2⟩
  nk:=⟨d _ D.nk.1,D.nk.2⟩
  nb:=⟨d _ D.nb.1,D.nb.2⟩
  sp:=D.sp.fk k
  kc:=D.kc
  gx:=λl a=>⟨d l (D.gx l a).1,(D.gx l a).2.1,λi hi=>by
   match i,hi with
   |0,hi=>exact(D.gx l a).2.2 0 hi
   |1,hi=>exact(D.gx l a).2.2 1 hi
   |2,hi=>exact(D.gx l a).2.2 2 hi
   |3,hi=>exact(D.gx l a).2.2 3 hi
   |4,hi=>exact(l1 l hi).elim ((D.gx l a).2.2 4) λe=>absurd e (Qe (D.gx l a).1)
   |5,hi=>exact(D.gx l a).2.2 5 hi
   |6,hi=>exact(D.gx l a).2.2 6 hi
   |7,hi=>exact(D.gx l a).2.2 7 hi⟩ }
theorem Dw.zdM(D:Dw F G h lu iu jA t R){ys:List (List Fm)}{new:List V}{xv:V}(u:lC h 1 xv=some (ys.length,new))(w:pR eT F h new ys)(a:new.length=ys.length*1) (p:gv new=true)(x:0<ys.length)(hlen:t.s.eh.length+ys.length<1000000) :
  ∃b c f,fe ml 1 24 R.vs xv h=some (.val b c)/\h.next<=c.next/\gK 1 (.ptr lu 4) b c=some (.val .undef f)/\c.next<=f.next/\Kp F G h f/\
   Dw F G f lu iu jA {t with s:={t.s with eh:=t.s.eh++ys} } {R with vs:=b}:=by
 obtain ⟨b,c,y,r,n,l1⟩:=D.os.append (jM:=24) (ys:=ys) u w a p x (by decide) D.fl (by omega) (by omega);have q:c.get lu=some (.cells gY 1 true false [.I 1,.I 2,R.vv,R.vb,R.vs]):=by
  rw[n.fk lu D.nu.1 λa=>nomatch D.Dy (i:=0) (j:=5) rfl a (by decide) (by decide)];exact D.gu
 have g:lu<c.next:=BL D.nu.1 n.next;have z:=nT (o:=4) (v:=b) (nQ:=[.I 1,.I 2,R.vv,R.vb,b]) q (by simp) r.one rfl;have hc:lV (λl=>comp lu iu jA R 0 l\/comp lu iu jA R 5 l) h (c.put lu (.cells gY 1 true false [.I 1,.I 2,R.vv,R.vb,b])):=WK n (λ_ h=> .inr h) D.nu.1 (.inl rfl);obtain⟨k,A,m⟩:=D.kept (by decide) (by decide) hc;have d:∀l,l<h.next->l<(c.put lu (.cells gY 1 true false [.I 1,.I 2,R.vv,R.vb,b])).next:=λl a=>BL a hc.next;have B:∀l,Loc b l->l≠lu:=λl a e=>by
  subst e;rcases l1 _ a with f|f
  ·exact absurd (D.Dy (i:=0) (j:=5) rfl f (by decide) (by decide)) (by decide)
  ·exact absurd f (Qe D.nu.1)
 have C:ko eT ml F (c.put lu (.cells gY 1 true false [.I 1,.I 2,R.vv,R.vb,b])) (t.s.eh++ys) b:=
  r.fk (λl a=>gI _ g λe=>D.nu.2 (e▸a)) (λl a=>gI _ g λe=>B l a e.symm) (jj _)
 refine⟨b,c,_,y,n.next,z,jj _,⟨hc.next,λl a=>a.elim (k l) (A l)⟩,?_⟩
 exact {
  fl:=λl a=>d l (D.fl l a)
  gu:=gq _ g
  gk:=by rw[m 1 iu (by decide) (by decide) (by decide) rfl];exact D.gk
  gb:=by rw[m 2 jA (by decide) (by decide) (by decide) rfl];exact D.gb
  ov:=D.ov.fk k (λl a=>m 3 l (by decide) (by decide) (by decide) a) hc.next
  ob:=D.ob.fk k (λl a=>m 4 l (by decide) (by decide) (by decide) a) hc.next
  os:=C
  ok:=D.ok.fk k (λl a=>m 6 l (by decide) (by decide) (by decide) a) hc.next
  oc:=D.oc.fk k (λl a=>m 7 l (by decide) (by decide) (by decide) a) hc.next
  nu:=⟨d _ D.nu.1,D.nu.2⟩
  nk:=⟨d _ D.nk.1,D.nk.2⟩
  nb:=⟨d _ D.nb.1,D.nb.2⟩
  sp:=D.sp.fk k
  kc:=D.kc
  gx:=λl a=>⟨d l (D.gx l a).1,(D.gx l a).2.1,λi hi=>by
   match i,hi with
   |0,hi=>exact(D.gx l a).2.2 0 hi
   |1,hi=>exact(D.gx l a).2.2 1 hi
   |2,hi=>exact(D.gx l a).2.2 2 hi
   |3,hi=>exact(D.gx l a).2.2 3 hi
   |4,hi=>exact(D.gx l a).2.2 4 hi
   |5,hi=>exact(l1 l hi).elim ((D.gx l a).2.2 5) λe=>absurd e (Qe (D.gx l a).1)
   |6,hi=>exact(D.gx l a).2.2 6 hi
   |7,hi=>exact(D.gx l a).2.2 7 hi⟩ }
theorem Dw.zbr(D:Dw F G h lu iu jA t R){ys:List Nat}{new:List V}{xv:V}(u:lC h 1 xv=some (ys.length,new))(w:pR eN F h new ys)(a:new.length=ys.length*1) (p:gv new=true)(x:0<ys.length)(hlen:t.s.known.length+ys.length<1000000) :
  ∃b c f,fe ey 1 8 R.vk xv h=some (.val b c)/\h.next<=c.next/\gK 1 (.ptr iu 0) b c=some (.val .undef f)/\c.next<=f.next/\Kp F G h f/\
   Dw F G f lu iu jA {t with s:={t.s with known:=t.s.known++ys} } {R with vk:=b}:=by
 obtain ⟨b,c,y,r,n,l1⟩:=D.ok.append (jM:=8) (ys:=ys) u w a p x (by decide) D.fl (by omega) (by omega);have q:c.get iu=some (.cells iP 1 true false [R.vk]):=by
  rw[n.fk iu D.nk.1 λa=>nomatch D.Dy (i:=1) (j:=6) rfl a (by decide) (by decide)];exact D.gk
 have g:iu<c.next:=BL D.nk.1 n.next;have z:=nT (o:=0) (v:=b) (nQ:=[b]) q (by simp) r.one rfl;have hc:lV (λl=>comp lu iu jA R 1 l\/comp lu iu jA R 6 l) h (c.put iu (.cells iP 1 true false [b])):=WK n (λ_ h=> .inr h) D.nk.1 (.inl rfl);obtain⟨k,A,m⟩:=D.kept (by decide) (by decide) hc;have d:∀l,l<h.next->l<(c.put iu (.cells iP 1 true false [b])).next:=λl a=>BL a hc.next;have B:∀l,Loc b l->l≠iu:=λl a e=>by
  subst e;rcases l1 _ a with f|f
  ·exact absurd (D.Dy (i:=1) (j:=6) rfl f (by decide) (by decide)) (by decide)
  ·exact absurd f (Qe D.nk.1)
 have C:ko eN ey F (c.put iu (.cells iP 1 true false [b])) (t.s.known++ys) b:=
  r.fk (λl a=>gI _ g λe=>D.nk.2 (e▸a)) (λl a=>gI _ g λe=>B l a e.symm) (jj _)
 refine⟨b,c,_,y,n.next,z,jj _,⟨hc.next,λl a=>a.elim (k l) (A l)⟩,?_⟩
 exact {
  fl:=λl a=>d l (D.fl l a)
  gu:=by rw[m 0 lu (by decide) (by decide) (by decide) rfl];exact D.gu
  gk:=gq _ g
  gb:=by rw[m 2 jA (by decide) (by decide) (by decide) rfl];exact D.gb
  ov:=D.ov.fk k (λl a=>m 3 l (by decide) (by decide) (by decide) a) hc.next
  ob:=D.ob.fk k (λl a=>m 4 l (by decide) (by decide) (by decide) a) hc.next
  os:=D.os.fk k (λl a=>m 5 l (by decide) (by decide) (by decide) a) hc.next
  ok:=C
  oc:=D.oc.fk k (λl a=>m 7 l (by decide) (by decide) (by decide) a) hc.next
  nu:=⟨d _ D.nu.1,D.nu.2⟩
  nk:=⟨d _ D.nk.1,D.nk.2⟩
  nb:=⟨d _ D.nb.1,D.nb.2⟩
  sp:=D.sp.fk k
  kc:=λl a hc=>(l1 l a).elim (λf=>D.kc l f hc) λe=>absurd e (Qe (D.oc.wh hc).2.1)
  gx:=λl a=>⟨d l (D.gx l a).1,(D.gx l a).2.1,λi hi=>by
   match i,hi with
   |0,hi=>exact(D.gx l a).2.2 0 hi
   |1,hi=>exact(D.gx l a).2.2 1 hi
   |2,hi=>exact(D.gx l a).2.2 2 hi
   |3,hi=>exact(D.gx l a).2.2 3 hi
   |4,hi=>exact(D.gx l a).2.2 4 hi
   |5,hi=>exact(D.gx l a).2.2 5 hi
   |6,hi=>exact(l1 l hi).elim ((D.gx l a).2.2 6) λe=>absurd e (Qe (D.gx l a).1)
   |7,hi=>exact(D.gx l a).2.2 7 hi⟩ }
theorem Dw.zdN(D:Dw F G h lu iu jA t R){ys:List Nat}{new:List V}{xv:V}(u:lC h 1 xv=some (ys.length,new))(w:pR eN F h new ys)(a:new.length=ys.length*1) (p:gv new=true)(x:0<ys.length)(hlen:t.s.cur.length+ys.length<1000000) :
  ∃b c f,fe ey 1 8 R.vc xv h=some (.val b c)/\h.next<=c.next/\gK 1 (.ptr jA 0) b c=some (.val .undef f)/\c.next<=f.next/\Kp F G h f/\
   Dw F G f lu iu jA {t with s:={t.s with cur:=t.s.cur++ys} } {R with vc:=b,cc:=b}:=by
 obtain ⟨b,c,y,r,n,l1⟩:=D.oc.append (jM:=8) (ys:=ys) u w a p x (by decide) D.fl (by omega) (by omega);have q:c.get jA=some (.cells fQ 1 true false [R.cc,.I 0,.I 0,.ee,R.vp,.I 0]):=by
  rw[n.fk jA D.nb.1 λa=>nomatch D.Dy (i:=2) (j:=7) rfl a (by decide) (by decide)];exact D.gb
 have g:jA<c.next:=BL D.nb.1 n.next;have z:=nT (o:=0) (v:=b) (nQ:=[b,.I 0,.I 0,.ee,R.vp,.I 0]) q (by simp) r.one rfl;have hc:lV (λl=>comp lu iu jA R 2 l\/comp lu iu jA R 7 l) h (c.put jA (.cells fQ 1 true false [b,.I 0,.I 0,.ee,R.vp,.I 0])):=WK n (λ_ h=> .inr h) D.nb.1 (.inl rfl);obtain⟨k,A,m⟩:=D.kept (by decide) (by decide) hc;have d:∀l,l<h.next->l<(c.put jA (.cells fQ 1 true false [b,.I 0,.I 0,.ee,R.vp,.I 0])).next:=λl a=>BL a hc.next;have B:∀l,Loc b l->l≠jA:=λl a e=>by
  subst e;rcases l1 _ a with f|f
  ·exact absurd (D.Dy (i:=2) (j:=7) rfl f (by decide) (by decide)) (by decide)
  ·exact absurd f (Qe D.nb.1)
 have C:ko eN ey F (c.put jA (.cells fQ 1 true false [b,.I 0,.I 0,.ee,R.vp,.I 0])) (t.s.cur++ys) b:=
  r.fk (λl a=>gI _ g λe=>D.nb.2 (e▸a)) (λl a=>gI _ g λe=>B l a e.symm) (jj _)
 refine⟨b,c,_,y,n.next,z,jj _,⟨hc.next,λl a=>a.elim (k l) (A l)⟩,?_⟩
 exact {
  fl:=λl a=>d l (D.fl l a)
  gu:=by rw[m 0 lu (by decide) (by decide) (by decide) rfl];exact D.gu
  gk:=by rw[m 1 iu (by decide) (by decide) (by decide) rfl];exact D.gk
  gb:=gq _ g
  ov:=D.ov.fk k (λl a=>m 3 l (by decide) (by decide) (by decide) a) hc.next
  ob:=D.ob.fk k (λl a=>m 4 l (by decide) (by decide) (by decide) a) hc.next
  os:=D.os.fk k (λl a=>m 5 l (by decide) (by decide) (by decide) a) hc.next
  ok:=D.ok.fk k (λl a=>m 6 l (by decide) (by decide) (by decide) a) hc.next
  oc:=C
  nu:=⟨d _ D.nu.1,D.nu.2⟩
  nk:=⟨d _ D.nk.1,D.nk.2⟩
  nb:=⟨d _ D.nb.1,D.nb.2⟩
  sp:=D.sp.fk k
  kc:=λl a hc=>(l1 l hc).elim (λf=>D.kc l a f) λe=>absurd e (Qe (D.ok.wh a).2.1)
  gx:=λl a=>⟨d l (D.gx l a).1,(D.gx l a).2.1,λi hi=>by
   match i,hi with
   |0,hi=>exact(D.gx l a).2.2 0 hi
   |1,hi=>exact(D.gx l a).2.2 1 hi
   |2,hi=>exact(D.gx l a).2.2 2 hi
   |3,hi=>exact(D.gx l a).2.2 3 hi
   |4,hi=>exact(D.gx l a).2.2 4 hi
   |5,hi=>exact(D.gx l a).2.2 5 hi
   |6,hi=>exact(D.gx l a).2.2 6 hi
   |7,hi=>exact(l1 l hi).elim ((D.gx l a).2.2 7) λe=>absurd e (Qe (D.gx l a).1)⟩ }
theorem Dw.cell(D:Dw F G h lu iu jA t R){i:Nat}(hi:i<8)(hc:lV (λl=>comp lu iu jA R i l) h h') :
  (∀l,F l->h'.get l=h.get l)/\(∀l,G l->h'.get l=h.get l)/\∀k l,k<8->k≠i->comp lu iu jA R k l->h'.get l=h.get l:=by
 obtain⟨c,d,e⟩:=D.kept hi hi (hc.U2 (S':=λl=>comp lu iu jA R i l\/comp lu iu jA R i l) λ_ _ h=> .inl h);exact⟨c,d,λk l a b=>e k l a b b⟩
theorem Dw.zdy(D:Dw F G h lu iu jA t R){n:Nat}(g:n<=t.s.known.length) :
  ∃b e,jh 1 R.vk none (some (.I n)) h=some b/\gK 1 (.ptr iu 0) b h=some (.val .undef e)/\h.next<=e.next/\Kp F G h e/\Dw F G e lu iu jA {t with s:=Un.cut n t.s} {R with vk:=b}:=by
 obtain⟨b,j,f,l1⟩:=D.ok.cut g;have k:=nT (o:=0) (v:=b) (nQ:=[b]) D.gk (by simp) f.one rfl;have hc:lV (λl=>comp lu iu jA R 1 l) h (h.put iu (.cells iP 1 true false [b])):=lV.put _ rfl D.nk.1;obtain⟨c,m,d⟩:=D.cell (by decide) hc;refine⟨b,_,j,k,jj _,⟨hc.next,λl a=>a.elim (c l) (m l)⟩,?_⟩
 exact {
  fl:=D.fl
  gu:=by rw[d 0 lu (by decide) (by decide) rfl];exact D.gu
  gk:=gq _ D.nk.1
  gb:=by rw[d 2 jA (by decide) (by decide) rfl];exact D.gb
  nu:=D.nu
  nk:=D.nk
  nb:=D.nb
  ov:=D.ov.fk c (λl a=>d 3 l (by decide) (by decide) a) hc.next
  ob:=D.ob.fk c (λl a=>d 4 l (by decide) (by decide) a) hc.next
  os:=D.os.fk c (λl a=>d 5 l (by decide) (by decide) a) hc.next
  ok:=f.fk c (λl a=>d 6 l (by decide) (by decide) (l1 l a)) hc.next
  oc:=D.oc.fk c (λl a=>d 7 l (by decide) (by decide) a) hc.next
  sp:=D.sp.fk c
  kc:=λl a=>D.kc l (l1 l a)
  gx:=λl a=>⟨(D.gx l a).1,(D.gx l a).2.1,λi hi=>by
   match i,hi with
   |0,hi=>exact(D.gx l a).2.2 0 hi
   |1,hi=>exact(D.gx l a).2.2 1 hi
   |2,hi=>exact(D.gx l a).2.2 2 hi
   |3,hi=>exact(D.gx l a).2.2 3 hi
   |4,hi=>exact(D.gx l a).2.2 4 hi
   |5,hi=>exact(D.gx l a).2.2 5 hi
   |6,hi=>exact(D.gx l a).2.2 6 (l1 l hi)
   |7,hi=>exact(D.gx l a).2.2 7 hi⟩ }
theorem Dw.ZZ(D:Dw F G h lu iu jA t R){c p:V}{ps:List Nat}(hp:iC eN F h ps p):Kp F G h (h.put jA (.cells fQ 1 true false [c,.I 0,.I 0,.ee,p,.I 0]))/\
  Dw F G (h.put jA (.cells fQ 1 true false [c,.I 0,.I 0,.ee,p,.I 0])) lu iu jA {t with fg:=ps} {R with vp:=p,cc:=c}:=by
 have hc:lV (λl=>comp lu iu jA R 2 l) h (h.put jA (.cells fQ 1 true false [c,.I 0,.I 0,.ee,p,.I 0])):=lV.put _ rfl D.nb.1;obtain⟨b,e,d⟩:=D.cell (by decide) hc;refine⟨⟨hc.next,λl a=>a.elim (b l) (e l)⟩,?_⟩
 exact {
  fl:=D.fl
  gu:=by rw[d 0 lu (by decide) (by decide) rfl];exact D.gu
  gk:=by rw[d 1 iu (by decide) (by decide) rfl];exact D.gk
  gb:=gq _ D.nb.1
  nu:=D.nu
  nk:=D.nk
  nb:=D.nb
  ov:=D.ov.fk b (λl a=>d 3 l (by decide) (by decide) a) hc.next
  ob:=D.ob.fk b (λl a=>d 4 l (by decide) (by decide) a) hc.next
  os:=D.os.fk b (λl a=>d 5 l (by decide) (by decide) a) hc.next
  ok:=D.ok.fk b (λl a=>d 6 l (by decide) (by decide) a) hc.next
  oc:=D.oc.fk b (λl a=>d 7 l (by decide) (by decide) a) hc.next
  sp:=hp.fk b
  kc:=D.kc
  gx:=D.gx}
def fzc(F:Nat->Prop)(v:V):Nat->Prop:=λl=>F l\/Loc v l
theorem Dw.flush(D:Dw F G h lu iu jA t R):iC eN (fzc F R.vc) h t.s.cur R.vc/\Dw (fzc F R.vc) G h lu iu jA {t with s:={t.s with cur:=[]} } {R with vc:= .ee}:=by
 refine⟨D.oc.Yo (λ_ h=> .inl h) λ_ h=> .inr h,?_⟩
 have D':Dw F G h lu iu jA {t with s:={t.s with cur:=[]} } {R with vc:= .ee}:=
  { D with
    oc:= .nil
    kc:=λ_ _ h=>h
    gx:=λl a=>⟨(D.gx l a).1,(D.gx l a).2.1,λi hi=>by
      match i,hi with
      |0,hi=>exact(D.gx l a).2.2 0 hi
      |1,hi=>exact(D.gx l a).2.2 1 hi
      |2,hi=>exact(D.gx l a).2.2 2 hi
      |3,hi=>exact(D.gx l a).2.2 3 hi
      |4,hi=>exact(D.gx l a).2.2 4 hi
      |5,hi=>exact(D.gx l a).2.2 5 hi
      |6,hi=>exact(D.gx l a).2.2 6 hi
      |n+7,hi=>exact(match n,hi with|0,hi=>hi)⟩ }
 refine D'.more (λ_ h=> .inl h) λl a=>a.imp id λhc=>⟨(D.oc.wh hc).2.1,λi hi=>?_,λb=>(D.gx l b).2.2 7 hc⟩
 match i,hi with
 |0,hi=>exact nomatch D.Dy (i:=0) (j:=7) hi hc (by decide) (by decide)
 |1,hi=>exact nomatch D.Dy (i:=1) (j:=7) hi hc (by decide) (by decide)
 |2,hi=>exact nomatch D.Dy (i:=2) (j:=7) hi hc (by decide) (by decide)
 |3,hi=>exact nomatch D.Dy (i:=3) (j:=7) hi hc (by decide) (by decide)
 |4,hi=>exact nomatch D.Dy (i:=4) (j:=7) hi hc (by decide) (by decide)
 |5,hi=>exact nomatch D.Dy (i:=5) (j:=7) hi hc (by decide) (by decide)
 |6,hi=>exact nomatch D.Dy (i:=6) (j:=7) hi hc (by decide) (by decide)
 |n+7,hi=>exact(match n,hi with|0,hi=>hi)
theorem Dw.zbj(D:Dw F G h lu iu jA t R){p:Nat}{xs:List Nat}{a:V}(hp:p<t.s.ef.length)(j:iC eN F h xs a) :
  ∃l d,gD 6 R.vv (.I p)=some (.ptr l (p*6))/\gK 1 (.ptr l (p*6+4)) a h=some (.val .undef d)/\h.next<=d.next/\Kp F G h d/\Dw F G d lu iu jA {t with s:=setArgs t.s p xs} R:=by
 obtain ⟨l,d,_,m,n,o,hc⟩:=D.ov.store (i:=p) (k:=4) (y:={t.s.ef[p]with args:=xs}) hp (by decide) j.one (λw ⟨x,q,_⟩=>by subst q;exact⟨a,rfl,j⟩);obtain⟨g,r,f⟩:=D.cell (i:=3) (by decide) hc;refine⟨l,d,m,n,hc.next,⟨hc.next,λl b=>b.elim (g l) (r l)⟩,?_⟩;have c:∀l,l<h.next->l<d.next:=λl b=>BL b hc.next;have em:(setArgs t.s p xs).ef=t.s.ef.set p {t.s.ef[p]with args:=xs}:=by
  unfold setArgs;show t.s.ef.modify p _=_;refine wBv λi=>?_;rw[wCA,List.getElem?_set];by_cases e:p=i
  ·subst e;simp[hp]
  ·simp[e]
 exact {
  fl:=λl b=>c l (D.fl l b)
  gu:=by rw[f 0 lu (by decide) (by decide) rfl];exact D.gu
  gk:=by rw[f 1 iu (by decide) (by decide) rfl];exact D.gk
  gb:=by rw[f 2 jA (by decide) (by decide) rfl];exact D.gb
  nu:=⟨c _ D.nu.1,D.nu.2⟩
  nk:=⟨c _ D.nk.1,D.nk.2⟩
  nb:=⟨c _ D.nb.1,D.nb.2⟩
  ov:=by show ko eV hH F d (setArgs t.s p xs).ef R.vv;rw[em];exact o
  ob:=D.ob.fk g (λl b=>f 4 l (by decide) (by decide) b) hc.next
  os:=D.os.fk g (λl b=>f 5 l (by decide) (by decide) b) hc.next
  ok:=D.ok.fk g (λl b=>f 6 l (by decide) (by decide) b) hc.next
  oc:=D.oc.fk g (λl b=>f 7 l (by decide) (by decide) b) hc.next
  sp:=D.sp.fk g
  kc:=D.kc
  gx:=λl b=>⟨c l (D.gx l b).1,(D.gx l b).2⟩ }
end
