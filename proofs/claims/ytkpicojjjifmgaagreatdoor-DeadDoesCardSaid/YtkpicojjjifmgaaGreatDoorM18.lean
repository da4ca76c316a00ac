/- Parts. -/
import Derived.Test.YtkpicojjjifmgaaGreatDoorM09
import Derived.Test.YtkpicojjjifmgaaGreatDoorM13
namespace Go.Proofs.YtkpicojjjifmgaaGreatDoor.Hx
open Un
def eN:ri Nat where
 sz:=1
 rel _ _ n cs:=cs=[.I n]
 len h:=by subst h;rfl
 one h:=by subst h;rfl
 fm _ h:=h
 mono _ h:=h
def mI(x:Vl)(w:V):List V:=[.I x.op,.I x.a,.I x.b,.I x.n,w,.I x.state]
def eV:ri Vl where
 sz:=6
 rel F h x cs:=∃w,cs=mI x w/\iq eN F h x.args w
 len:=λ⟨_,h,_⟩=>by subst h;rfl
 one:=λ⟨_,h,hs⟩=>by subst h;simp only[mI,ey,hs.one];rfl
 fm:=λa ⟨w,h,hs⟩=>⟨w,h,hs.fm a⟩
 mono:=λb ⟨w,h,hs⟩=>⟨w,h,hs.mono b⟩
def kE(x:Bk)(v n p:V):List V:=[v,.I x.fin,.I x.cond,n,p,.I x.state]
def eK:ri Bk where
 sz:=6
 rel F h x cs:=∃v n p,cs=kE x v n p/\iq eN F h x.eh v/\iq eN F h x.next n/\iq eN F h x.fh p
 len:=λ⟨_,_,_,h,_⟩=>by subst h;rfl
 one:=λ⟨_,_,_,h,a,b,c⟩=>by subst h;simp only[kE,ey,a.one,b.one,c.one];rfl
 fm:=λd ⟨v,n,p,h,a,b,c⟩=>⟨v,n,p,h,a.fm d,b.fm d,c.fm d⟩
 mono:=λe ⟨v,n,p,h,a,b,c⟩=>⟨v,n,p,h,a.mono e,b.mono e,c.mono e⟩
def JD(x:Fm)(l s:V):List V:=[.I x.func,.I x.pc,l,s]
def eF:ri Fm where
 sz:=4
 rel F h x cs:=∃l s,cs=JD x l s/\iq eN F h x.locals l/\iq eN F h x.stack s
 len:=λ⟨_,_,h,_⟩=>by subst h;rfl
 one:=λ⟨_,_,h,a,b⟩=>by subst h;simp only[JD,ey,a.one,b.one];rfl
 fm:=λc ⟨l,s,h,a,b⟩=>⟨l,s,h,a.fm c,b.fm c⟩
 mono:=λd ⟨l,s,h,a,b⟩=>⟨l,s,h,a.mono d,b.mono d⟩
def eT:ri (List Fm):=eL eF
theorem yy(F:Nat->Prop)(h:Hp):∀(l:List Nat),qq eN F h (l.map λn=>V.I (n:Nat)) l
 |[]=>trivial
 |n::l=>⟨[.I n],_,rfl,rfl,yy F h l⟩
def Loc(v:V)(t:Nat):Prop:=match v with
 | .slice l _ _=>l=t
 |_=>False
@[simp] theorem zdS (t:Nat):Loc .ef t=False:=rfl
@[simp] theorem zb6 (l o n t:Nat):Loc (.slice l o n) t=(l=t):=rfl
def kS{α:Type}(E:ri α)(ty:Nat)(F:Nat->Prop)(h:Hp)(xs:List α)(v:V):Prop:=(v = .ef/\xs=[])\/∃t cs,v = .slice t 0 xs.length/\t<h.next/\¬F t/\h.get t=some (.cells ty E.sz true false cs)/\qq E F h cs xs/\gG cs=true
section
variable{α:Type}{E:ri α}{ty:Nat}{F F':Nat->Prop}{h h':Hp}{xs:List α}{v:V}
theorem kS.nil:kS E ty F h [] .ef:= .inl ⟨rfl,rfl⟩
theorem kS.len(a:kS E ty F h xs v):fH v=some (.I xs.length):=by
 rcases a with⟨rfl,rfl⟩|⟨t,cs,rfl,_⟩ <;> rfl
theorem kS.one(a:kS E ty F h xs v):v.one=true:=by
 rcases a with⟨rfl,rfl⟩|⟨t,cs,rfl,_⟩ <;> rfl
noncomputable def YV(h:Hp) (l:Nat):Option (Nat×Nat):=match h.get l with
 |some (.cells e sz _ _ _)=>some (e,sz)
 |_=>none
theorem Lr{l e sz:Nat}{a b:Bool}{cs:List V}(c:h.get l=some (.cells e sz a b cs)):YV h l=some (e,sz):=by unfold YV;rw[c]
theorem kS.wq(b:kS E ty F h xs v){t:Nat}(a:Loc v t):YV h t=some (ty,E.sz)/\t<h.next/\¬F t:=by
 rcases b with⟨rfl,_⟩|⟨t',cs,rfl,c,d,e,_⟩
 ·exact a.elim
 ·obtain rfl:t' = t:=a;exact⟨Lr e,c,d⟩
theorem kS.fm(a:kS E ty F h xs v)(b:∀l,F l->h'.get l=h.get l)(c:∀l,Loc v l->h'.get l=h.get l)(d:h.next<=h'.next):kS E ty F h' xs v:=by
 rcases a with a|⟨t,cs,rfl,e,f,g,i,j⟩
 ·exact .inl a
 ·exact .inr ⟨t,cs,rfl,Cb e d,f,by rw[c t rfl];exact g,i.fm b,j⟩
theorem kS.mono(a:kS E ty F h xs v)(b:∀l,F l->F' l)(c:∀t,Loc v t->¬F' t):kS E ty F' h xs v:=by
 rcases a with a|⟨t,cs,rfl,d,i,e,f,g⟩
 ·exact .inl a
 ·exact .inr ⟨t,cs,rfl,d,c t rfl,e,f.mono b,g⟩
theorem kS.ZS(a:kS E ty F h xs v)(b:∀l,F l->F' l)(c:∀t,Loc v t->F' t):iq E F' h xs v:=by
 rcases a with a|⟨t,cs,rfl,f,g,d,e,i⟩
 ·exact .inl a
 ·exact .inr ⟨t,0,ty,true,false,cs,rfl,c t rfl,d,.inr rfl,Na _,by simpa using e.mono b⟩
theorem kS.read(a:kS E ty F h xs v):iq E (λl=>F l\/Loc v l) h xs v:=a.ZS (λ_ h=> .inl h) λ_ h=> .inr h
theorem kS.append{j7:Nat}{x:V}{new:List V}{ys:List α}(C:kS E ty F h xs v)(c:lU h E.sz x=some (ys.length,new))(q:qq E F h new ys)(D:new.length=ys.length*E.sz)(i:gG new=true)(I:0<ys.length)(J:0<E.sz)
  (o:∀l,F l->l<h.next) (z:(xs.length+ys.length)*j7<=70368744177664) (m:xs.length+ys.length<=70368744177664) :
  ∃r h',fg ty E.sz j7 v x h=some (.val r h')/\kS E ty F h' (xs++ys) r/\mA (Loc v) h h'/\(∀t,Loc r t->Loc v t\/t=h.next):=by
 have f:Nat.beq ys.length 0=false:=by
  cases hq:ys.length with
  |zero=>omega
  |succ k=>rfl
 rcases C with⟨rfl,rfl⟩|⟨t,cs,rfl,j,s,A,u,g⟩
 ·refine⟨.slice h.next 0 ys.length,h.new (.cells ty E.sz true false new),?_,.inr ⟨h.next,new,by simp,Mm _,λb=>Yt _ (o _ b),fj _ _,?_,i⟩,mA.new _ _,λt G=> .inr G.symm⟩
  ·unfold fg;simp only[c,fi,f,i,tH];rw[mC _ (Qu (by simpa using z)),mC _ (Qu (by simpa using m))]
  ·exact q.fm λl b=>fo _ (o l b)
 ·have H:=u.length;have B:(xs.length+ys.length)*E.sz=xs.length*E.sz+ys.length*E.sz:=Vx _ _ _
  cases hroom:Nat.ble (Nat.add 0 (Nat.mul (Nat.add xs.length ys.length) E.sz)) cs.length with
  | true=>
    have K:(xs.length+ys.length)*E.sz<=cs.length:=by
      have:=JE hroom;show _<=_;rw[show Nat.add 0 (Nat.mul (Nat.add xs.length ys.length) E.sz)=(xs.length+ys.length)*E.sz from zA _]at this;exact this
    refine ⟨.slice t 0 (xs.length+ys.length),h.put t (.cells ty E.sz true false (cs.take (xs.length*E.sz)++new++cs.drop (xs.length*E.sz+new.length))),?_,
      .inr ⟨t,_,by simp,j,s,gq _ j,?_,?_⟩,mA.put _ rfl j,λ_ h=> .inl h⟩
    ·unfold fg kI
     have w:pV (Nat.add 0 (Nat.mul xs.length E.sz)) cs new=some (cs.take (xs.length*E.sz)++new++cs.drop (xs.length*E.sz+new.length)):=by
       rw[show Nat.add 0 (Nat.mul xs.length E.sz)=xs.length*E.sz from zA _];exact Cg (by rw[D];omega)
     simp only[c,fi,f,i,tH,A,wBf,hroom,w];rw[mC _ (Tn _)];rfl
    ·refine qq.fm (h:=h) (λl b=>gL _ j λe=>s (e▸b)) ?_
     rw[Ii];exact u.take.append (by rw[Ip];omega) q.more
    ·rw[oK,oK,i]
     have p:∀(l:List V),gG l=l.all V.one:=λl=>by
       induction l with
       |nil=>rfl
       |cons a l y=>rw[ey,y];rfl
     rw[p]at g⊢;rw[p];rw[Qk]at g;simp only[Bool.and_true,vR,Qk]
     exact⟨λx c=>g x (wBx c),λx c=>g x (List.mem_of_mem_drop c)⟩
  | false=>
    have p:∀(l:List V),gG l=l.all V.one:=λl=>by
      induction l with
      |nil=>rfl
      |cons a l y=>rw[ey,y];rfl
    have d:gG (cs.take (xs.length*E.sz))=true:=by
      rw[p]at g⊢;rw[Qk]at g⊢;exact λx c=>g x (wBx c)
    refine ⟨.slice h.next 0 (xs.length+ys.length),(h.put t (.cells ty E.sz false false cs)).new (.cells ty E.sz true false (cs.take (xs.length*E.sz)++new)),?_,
      .inr ⟨h.next,_,by simp,Mm _,λb=>Yt _ (o _ b),fj (h.put t _) _,?_,by rw[oK,d,i];rfl⟩,
      (mA.put (S:=Loc (.slice t 0 xs.length)) (.cells ty E.sz false false cs) rfl j).trans (mA.new _ _),λ_ h=> .inr h.symm⟩
    ·unfold fg kI
     have n:sub cs 0 (Nat.mul xs.length E.sz)=some (cs.take (xs.length*E.sz)):=by
       show sub cs 0 (xs.length*E.sz)=_;rw[FZ (show 0+xs.length*E.sz<=cs.length by omega),Yr]
     simp only[c,fi,f,i,tH,A,wBf,hroom,n,d];rw[mC _ (Tn _),mC _ (show Nat.ble (Nat.mul (Nat.add xs.length ys.length) j7) 70368744177664=true from Qu z),mC _ (show Nat.ble (Nat.add xs.length ys.length) 70368744177664=true from Qu m)];rfl
    ·refine qq.fm (h:=h) (λl b=>?_) ?_
     ·rw[fo _ (show l<(h.put t _).next from o l b),gL _ j λe=>s (e▸b)]
     ·exact u.take.append (by rw[Ip];omega) q
theorem kS.cut(d:kS E ty F h xs v){n:Nat}(a:n<=xs.length):∃b,jy E.sz v none (some (.I n)) h=some b/\kS E ty F h (xs.take n) b/\∀t,Loc b t->Loc v t:=by
 rcases d with⟨rfl,rfl⟩|⟨t,cs,rfl,e,f,c,g,i⟩
 ·obtain rfl:n=0:=by simpa using a
  exact⟨.ef,rfl,.inl ⟨rfl,rfl⟩,λ_ h=>h⟩
 ·refine⟨.slice t 0 n,?_,.inr ⟨t,cs,by rw[Ip,wBm a],e,f,c,g.taken n,i⟩,λ_ h=>h⟩;unfold jy kI;simp only[c,fi,FU,GG];rw[mC _ (Tn _),mC _ (Qu (Na _)),mC _ (by rw[Qu a];rfl)];simp
theorem kS.store(n:kS E ty F h xs v){i k:Nat}{y:α}{u:V}(hi:i<xs.length)(C:k<E.sz)(f:u.one=true)(o:∀w,E.rel F h xs[i] w->E.rel F h y (w.set k u)) :
  ∃t h',Loc v t/\gJ E.sz v (.I i)=some (.ptr t (i*E.sz))/\gM 1 (.ptr t (i*E.sz+k)) u h=some (.val .undef h')/\kS E ty F h' (xs.set i y) v/\mA (Loc v) h h':=by
 rcases n with⟨rfl,rfl⟩|⟨t,cs,rfl,c,g,p,j,d⟩
 ·simp at hi
 ·obtain ⟨w,q,D,m⟩:=j.get (i:=i) (x:=xs[i]) (hO hi);have b:cs.set (i*E.sz+k) u=cs.take (i*E.sz)++w.set k u++cs.drop (i*E.sz+E.sz):=by
   have e0:cs=cs.take (i*E.sz)++(w++cs.drop (i*E.sz+E.sz)):=by
    rw[<-q]
    conv=>lhs;rw[<-Ym (i*E.sz) cs]
    congr 1;rw[<-Zx,Ym]
   have G:=E.len m
   conv=>lhs;rw[e0]
   rw[List.set_append_right _ _ (by rw[Ip];omega),Ip,wBm (by omega),wBe,List.set_append_left _ _ (by omega),Ii]
  refine⟨t,h.put t (.cells ty E.sz true false (cs.set (i*E.sz+k) u)),rfl,by rw[Ci _ _ _ _ _ _ hi,zA],LC p (by omega) f,.inr ⟨t,_,by simp,c,g,gq _ c,?_,?_⟩,mA.put _ rfl c⟩
  ·refine qq.fm (h:=h) (λl r=>gL _ c λe=>g (e▸r)) ?_;rw[b];exact j.set hi (o w m)
  ·have s:∀(l:List V),gG l=l.all V.one:=λl=>by
    induction l with
    |nil=>rfl
    |cons a l z=>rw[ey,z];rfl
   rw[s]at d⊢;rw[Qk]at d⊢;intro x A;rcases List.mem_or_eq_of_mem_set A with B|rfl
   ·exact d x B
   ·exact f
end
abbrev eJ:Nat:=3
abbrev ju:Nat:=4
abbrev jb:Nat:=22
abbrev gZ:Nat:=30
abbrev hK:Nat:=45
abbrev fR:Nat:=43
abbrev me:Nat:=52
abbrev Lt:Nat:=49
abbrev QN:Nat:=24
abbrev wB:Nat:=132
abbrev Lf:Nat:=56
open Un
structure Pc where
 mw:Nat->Prop
 ok:(Nat->Prop)->Hp->Prop
 Nz:∀{F:Nat->Prop} {h:Hp},ok F h->∀l,mw l->l<h.next/\¬F l
 fm:∀{F:Nat->Prop} {h h':Hp},ok F h->(∀l,F l->h'.get l=h.get l)->(∀l,mw l->h'.get l=h.get l)->h.next<=h'.next->ok F h'
 mono:∀{F F':Nat->Prop} {h:Hp},ok F h->(∀l,F l->F' l)->(∀l,mw l->¬F' l)->ok F' h
def emp:Pc:=⟨λ_=>False,λ_ _=>True,λ_ _ h=>h.elim,λ_ _ _ _=>trivial,λ_ _ _=>trivial⟩
def ez(l ty:Nat)(vs:List V):Pc where
 mw:=λm=>m=l
 ok F h:=h.get l=some (.cells ty 1 true false vs)/\l<h.next/\¬F l
 Nz:=λh _ e=>by subst e;exact h.2
 fm:=λh _ a b=>⟨(a l rfl).trans h.1,Cb h.2.1 b,h.2.2⟩
 mono:=λh _ a=>⟨h.1,h.2.1,a l rfl⟩
def eR{α:Type}(E:ri α)(ty:Nat)(xs:List α)(v:V):Pc where
 mw:=Loc v
 ok F h:=kS E ty F h xs v
 Nz:=λh _ a=>(h.wq a).2
 fm:=λh b a c=>kS.fm h b a c
 mono:=λh b a=>kS.mono h b a
structure Sn (F:Nat->Prop) (h:Hp) (F':Nat->Prop) (h':Hp):Prop where
 next:h.next<=h'.next
 fm:∀l,F l->h'.get l=h.get l
 mono:∀l,F l->F' l
theorem Sn.refl(F:Nat->Prop)(h:Hp):Sn F h F h:=⟨jK _,λ_ _=>rfl,λ_ h=>h⟩
theorem Sn.trans{F F' c:Nat->Prop} {h h' d:Hp}(a:Sn F h F' h')(b:Sn F' h' c d):Sn F h c d:=
 ⟨II a.next b.next,λl e=>(b.fm l (a.mono l e)).trans (a.fm l e),λl e=>b.mono l (a.mono l e)⟩
structure eo (F:Nat->Prop) (h:Hp) (cs:List Pc):Prop where
 fl:∀l,F l->l<h.next
 ok:∀(i:Nat) (c:Pc),cs[i]? =some c->c.ok F h
 D0:∀(i j:Nat) (c d:Pc),cs[i]? =some c->cs[j]? =some d->i≠j->∀l,c.mw l->¬d.mw l
section
variable{F F':Nat->Prop}{h h':Hp}{cs:List Pc}{i j:Nat}{c d p:Pc}
theorem yP{cs:List Pc}{i:Nat}{p:Pc}{j:Nat}{d:Pc}(a:(cs.set i p)[j]? =some d):(j=i/\d=p)\/(j≠i/\cs[j]? =some d):=by
 by_cases e:i=j
 ·subst e;have b:i<cs.length:=by
   have:=(jR.1 a).1;simpa using this
  rw[Hf b]at a;exact .inl ⟨rfl,(Option.some.inj a).symm⟩
 ·rw[ES e]at a;exact .inr ⟨λc=>e c.symm,a⟩
theorem eo.nil(a:∀l,F l->l<h.next):eo F h []:=⟨a,λ_ _ h=>by simp at h,λ_ _ _ _ h=>by simp at h⟩
theorem eo.cons(H:eo F h cs)(k:p.ok F h)(hp:∀(i:Nat) c,cs[i]? =some c->∀l,p.mw l->¬c.mw l):eo F h (p::cs) where
 fl:=H.fl
 ok:=λi c hc=>by
  cases i with
  |zero=>cases hc;exact k
  |succ i=>exact H.ok i c hc
 D0:=λi j c d hc b g l f a=>by
  cases i with
  | zero=>
    cases hc
    cases j with
    |zero=>exact g rfl
    |succ j=>exact hp j d b l f a
  | succ i=>
    cases j with
    |zero=>cases b;exact hp i c hc l a f
    |succ j=>exact H.D0 i j c d hc b (λe=>g (by rw[e])) l f a
theorem eo.tail(H:eo F h (p::cs)):eo F h cs where
 fl:=H.fl
 ok:=λi c hc=>H.ok (i+1) c hc
 D0:=λi j c d hc a b=>H.D0 (i+1) (j+1) c d hc a (λe=>b (by omega))
theorem eo.add(H:eo F h cs)(a:p.ok F h)(hp:∀l,¬p.mw l):eo F h (p::cs):=H.cons a λ_ _ _ l b=>(hp l b).elim
theorem eo.swap(H:eo F h cs)(hi:cs[i]? =some c)(s:p.ok F h)(hp:∀l,p.mw l->c.mw l):eo F h (cs.set i p) where
 fl:=H.fl
 ok:=λj d t=>by
  rcases yP t with⟨_,rfl⟩|⟨_,f⟩
  ·exact s
  ·exact H.ok j d f
 D0:=λj k a b u q g l m e=>by
  rcases yP u with⟨n,rfl⟩|⟨n,r⟩
  ·rcases yP q with⟨o,_⟩|⟨_,f⟩
   ·exact g (n.trans o.symm)
   ·subst n;exact H.D0 j k c b hi f g l (hp l m) e
  ·rcases yP q with⟨o,rfl⟩|⟨_,f⟩
   ·subst o;exact H.D0 j k a c r hi g l m (hp l e)
   ·exact H.D0 j k a b r f g l m e
theorem eo.forget(H:eo F h cs)(hi:cs[i]? =some c):eo F h (cs.set i emp):=H.swap hi trivial λ_ h=>h.elim
theorem eo.zb0(H:eo F h cs)(hi:cs[i]? =some c)(hc:mA c.mw h h')(u:∀l,F l->F' l)(o:∀l,F' l->F l\/c.mw l\/(h.next<=l/\l<h'.next))(y:p.ok F' h')(hp:∀l,p.mw l->c.mw l\/h.next<=l):eo F' h' (cs.set i p)/\Sn F h F' h':=by
 have q:=H.ok i c hi;have v:∀l,F l->h'.get l=h.get l:=λl e=>hc.fm l (H.fl l e) λhs=>(c.Nz q l hs).2 e;have other:∀(j:Nat) (d:Pc),j≠i->cs[j]? =some d->d.ok F' h'/\∀l,d.mw l->¬p.mw l:=λj d z r=>by
  have m:=H.ok j d r;have n:∀l,d.mw l->¬c.mw l:=H.D0 j i d c r hi z;refine⟨d.mono (d.fm m v (λl e=>hc.fm l (d.Nz m l e).1 (n l e)) hc.next) u λl e f=>?_,λl e f=>?_⟩
  ·rcases o l f with g|g|g
   ·exact(d.Nz m l e).2 g
   ·exact n l e g
   ·have:=(d.Nz m l e).1;omega
  ·rcases hp l f with g|g
   ·exact n l e g
   ·have:=(d.Nz m l e).1;omega
 refine⟨⟨λl e=>?_,λj d r=>?_,λj k a b A w x l e f=>?_⟩,⟨hc.next,v,u⟩⟩
 ·rcases o l e with g|g|g
  ·exact Cb (H.fl l g) hc.next
  ·exact Cb (c.Nz q l g).1 hc.next
  ·exact g.2
 ·rcases yP r with⟨_,rfl⟩|⟨m,n⟩
  ·exact y
  ·exact(other j d m n).1
 ·rcases yP A with⟨t,rfl⟩|⟨t,m⟩
  ·rcases yP w with⟨s,_⟩|⟨s,n⟩
   ·exact x (t.trans s.symm)
   ·exact(other k b s n).2 l f e
  ·rcases yP w with⟨s,rfl⟩|⟨_,n⟩
   ·exact(other j a t m).2 l e f
   ·exact H.D0 j k a b m n x l e f
theorem eo.Hu(H:eo F h cs)(hi:cs[i]? =some c)(hc:mA c.mw h h')(a:p.ok F h')(hp:∀l,p.mw l->c.mw l\/h.next<=l):eo F h' (cs.set i p)/\Sn F h F h':=
 H.zb0 hi hc (λ_ h=>h) (λ_ h=> .inl h) a hp
theorem eo.grow(H:eo F h cs)(a:G9 h h'):eo F h' cs/\Sn F h F h':=by
 have c:∀l,F l->h'.get l=h.get l:=λl b=>a.fm l (H.fl l b) id;exact⟨⟨λl b=>Cb (H.fl l b) a.next,λj d e=>d.fm (H.ok j d e) c (λl b=>a.fm l (d.Nz (H.ok j d e) l b).1 id) a.next,H.D0⟩,⟨a.next,c,λ_ h=>h⟩⟩
theorem eo.new(H:eo F h cs)(o:O)(b:p.ok F (h.new o))(hp:∀l,p.mw l->l=h.next):eo F (h.new o) (p::cs)/\Sn F h F (h.new o):=by
 obtain⟨c,e⟩:=H.grow (mA.new h o);refine⟨c.cons b λj d f l g a=>?_,e⟩;have:=(d.Nz (H.ok j d f) l a).1;have:=hp l g;omega
theorem eo.fresh(H:eo F h cs):¬F h.next:=λa=>Yt _ (H.fl _ a)
theorem eo.zI(H:eo F h cs)(ty:Nat)(vs:List V):eo F (h.new (.cells ty 1 true false vs)) (ez h.next ty vs::cs)/\Sn F h F (h.new (.cells ty 1 true false vs)):=
 H.new _ ⟨fj _ _,Mm _,H.fresh⟩ λ_ e=>e
theorem eo.VC(H:eo F h cs){α:Type}{E:ri α}(ty:Nat){xs:List α}{ws:List V}{n:Nat}(a:n=xs.length)(b:qq E F h ws xs)(c:gG ws=true) :
  eo F (h.new (.cells ty E.sz true false ws)) (eR E ty xs (.slice h.next 0 n)::cs)/\Sn F h F (h.new (.cells ty E.sz true false ws)):=by
 subst a;exact H.new _ (.inr ⟨h.next,ws,rfl,Mm _,H.fresh,fj _ _,b.fm λl d=>fo _ (H.fl l d),c⟩) λ_ e=>e.symm
theorem eo.ZW(H:eo F h cs){α:Type}{E:ri α}(ty:Nat){xs:List α}{ws:List V}{n:Nat}(i:n=xs.length)(k:qq E F h ws xs)(ro:Bool) :
  eo (λl=>F l\/l=h.next) (h.new (.cells ty E.sz true ro ws)) cs/\Sn F h (λl=>F l\/l=h.next) (h.new (.cells ty E.sz true ro ws))/\iq E (λl=>F l\/l=h.next) (h.new (.cells ty E.sz true ro ws)) xs (.slice h.next 0 n):=by
 subst i;obtain⟨b,e⟩:=H.grow (mA.new h (.cells ty E.sz true ro ws));refine⟨⟨λl a=>?_,λj d f=>d.mono (b.ok j d f) (λ_ h=> .inl h) λl a c=>?_,b.D0⟩,⟨e.next,e.fm,λ_ h=> .inl h⟩,?_⟩
 ·rcases a with a|rfl
  ·exact b.fl l a
  ·exact Mm _
 ·have g:=d.Nz (H.ok j d f) l a;rcases c with m|rfl
  ·exact g.2 m
  ·exact Yt _ g.1
 ·exact .inr ⟨h.next,0,ty,true,ro,ws,rfl,.inr rfl,fj _ _,.inr rfl,Na _,by rw[Yr];exact(k.fm λl a=>fo _ (H.fl l a)).mono λ_ h=> .inl h⟩
theorem eo.get(H:eo F h cs)(i:Nat){l ty:Nat}{vs:List V}(hi:cs[i]? =some (ez l ty vs)):h.get l=some (.cells ty 1 true false vs):=(H.ok i _ hi).1
theorem eo.ld(H:eo F h cs)(i:Nat){l ty o:Nat}{vs:List V}{u:V}(hi:cs[i]? =some (ez l ty vs))(a:vs[o]? =some u):eQ (.ptr l o) h=some u:=lQ (H.get i hi) a
theorem eo.rh(H:eo F h cs)(i:Nat){l ty n:Nat}{vs:List V}(hi:cs[i]? =some (ez l ty vs))(a:vs.length=n):fY n (.ptr l 0) h=some (.agg vs):=CJ (H.get i hi) a
theorem eo.st(H:eo F h cs)(i:Nat){l ty o:Nat}{vs:List V}{u:V}(hi:cs[i]? =some (ez l ty vs))(b:o<vs.length)(c:u.one=true) :
  ∃h',gM 1 (.ptr l o) u h=some (.val .undef h')/\h.next<=h'.next/\eo F h' (cs.set i (ez l ty (vs.set o u)))/\Sn F h F h':=by
 have a:=H.ok i _ hi;refine⟨_,LC a.1 b c,jK _,H.Hu hi (mA.put _ rfl a.2.1) ⟨gq _ a.2.1,a.2.1,a.2.2⟩ λ_ h=> .inl h⟩
theorem eo.stk(H:eo F h cs)(i:Nat){l ty o:Nat}{vs:List V}{u:V}(hi:cs[i]? =some (ez l ty vs))(b:o<vs.length)(c:u.one=true) :
  ∃h',gM 1 (.ptr l o) u h=some (.val .undef h')/\h.next<=h'.next/\eo F h' (cs.set i (ez l ty (vs.set o u)))/\Sn F h F h'/\∀m,m≠l->h'.get m=h.get m:=by
 have a:=H.ok i _ hi;obtain⟨d,f⟩:=H.Hu (p:=ez l ty (vs.set o u)) (h':=h.put l (.cells ty 1 true false (vs.set o u))) hi (mA.put _ rfl a.2.1) ⟨gq _ a.2.1,a.2.1,a.2.2⟩ λ_ h=> .inl h;exact⟨_,LC a.1 b c,jK _,d,f,λm g=>gL _ a.2.1 λe=>g e.symm⟩
theorem eo.WS(H:eo F h cs)(i:Nat){l ty n:Nat}{vs ws:List V}(hi:cs[i]? =some (ez l ty vs))(b:ws.length=n)(hv:vs.length=n)(c:gG ws=true) :
  ∃h',gM n (.ptr l 0) (.agg ws) h=some (.val .undef h')/\h.next<=h'.next/\eo F h' (cs.set i (ez l ty ws))/\Sn F h F h':=by
 have a:=H.ok i _ hi;refine⟨_,Gf a.1 b hv c,jK _,H.Hu hi (mA.put _ rfl a.2.1) ⟨gq _ a.2.1,a.2.1,a.2.2⟩ λ_ h=> .inl h⟩
section
variable{α:Type}{E:ri α}{ty:Nat}{xs:List α}{v:V}
theorem eo.row(H:eo F h cs)(i:Nat)(hi:cs[i]? =some (eR E ty xs v)):kS E ty F h xs v:=H.ok i _ hi
theorem eo.len(H:eo F h cs)(i:Nat)(hi:cs[i]? =some (eR E ty xs v)):fH v=some (.I xs.length):=(H.row i hi).len
theorem eo.one(H:eo F h cs)(i:Nat)(hi:cs[i]? =some (eR E ty xs v)):v.one=true:=(H.row i hi).one
theorem eo.ix(H:eo F h cs)(i:Nat)(hi:cs[i]? =some (eR E ty xs v)){k:Nat}(a:k<xs.length)(kd:IntKind) :
  ∃l o w,gJ E.sz v (.int kd k)=some (.ptr l o)/\fY E.sz (.ptr l o) h=some (.agg w)/\E.rel (λl=>F l\/Loc v l) h xs[k] w/\∀j u,w[j]? =some u->eQ (.ptr l (o+j)) h=some u:=by
 obtain⟨l,o,w,_,b,c,d,e⟩:=(H.row i hi).read.ix a kd;exact⟨l,o,w,b,c,d,e⟩
theorem eo.TS(H:eo F h cs)(i:Nat)(hi:cs[i]? =some (eR E ty xs v)){k:Nat}(a:k<xs.length)(kd:IntKind)(b:E.sz=1) :
  ∃l o u,gJ 1 v (.int kd k)=some (.ptr l o)/\eQ (.ptr l o) h=some u/\E.rel (λl=>F l\/Loc v l) h xs[k] [u]:=by
 obtain⟨l,o,u,_,c,d,e⟩:=(H.row i hi).read.TS a kd b;exact⟨l,o,u,c,d,e⟩
theorem eo.IG(H:eo F h cs)(i:Nat)(hi:cs[i]? =some (eR E ty xs v)){k:Nat}(f:k<xs.length)(a:E.sz=1){y:α}{u:V}(g:u.one=true)(j:E.rel F h y [u]) :
  ∃l o h',gJ 1 v (.I k)=some (.ptr l o)/\gM 1 (.ptr l o) u h=some (.val .undef h')/\h.next<=h'.next/\eo F h' (cs.set i (eR E ty (xs.set k y) v))/\Sn F h F h':=by
 obtain ⟨t,h',p,b,c,m,d⟩:=(H.row i hi).store (k:=0) (y:=y) (u:=u) f (by omega) g (λw n=>by
  have e:=E.len n;rw[a]at e
  match w,e with
  |[x],_=>exact j)
 rw[a]at b c;exact⟨t,k*1,h',b,c,d.next,H.Hu hi d m λ_ h=> .inl h⟩
end
end
open Un
section
variable{F F':Nat->Prop}{h h':Hp}{cs:List Pc}{α:Type}{E:ri α}{ty:Nat}{xs ys:List α}{v x:V}
theorem qq.one:∀{xs:List α}{ws:List V},qq E F h ws xs->ws.length=xs.length*E.sz->gG ws=true
 | [],ws,_,hl=>by
   have:ws=[]:=Wi (by simpa using hl)
   subst this;rfl
 | y::xs,ws,⟨w,r,b,a,c⟩,hl=>by
   subst b;have d:=E.len a;rw[oK,E.one a,qq.one c (by simp only[Ec,KB,Vx,Nat.one_mul]at hl;omega)];rfl
theorem qq.rep{y:α}{u:V}(a:E.rel F h y [u]):∀n,qq E F h (List.replicate n u) (List.replicate n y)
 |0=>trivial
 |n+1=>⟨[u],_,rfl,a,qq.rep a n⟩
theorem ML{u:V}(a:u.one=true):∀n,gG (List.replicate n u)=true
 |0=>rfl
 |n+1=>by rw[List.replicate_succ,ey,a,ML a n];rfl
theorem Eg{l off n Ca sz:Nat}{ro:Bool}{ds:List V}(a:h.get l=some (.cells Ca sz true ro ds))(b:off+n*sz<=ds.length):∃new,lU h sz (.slice l off n)=some (n,new)/\new=(ds.drop off).take (n*sz):=by
 cases n with
 |zero=>exact⟨_,rfl,by simp⟩
 | succ n=>
   refine⟨_,?_,rfl⟩;unfold lU GN kI;have:sub ds off (Nat.mul (Nat.succ n) sz)=some ((ds.drop off).take ((n+1)*sz)):=FZ b;simp only[a,fi,tH,this]
theorem iq.xc(hs:iq E F h ys x):∃new,lU h E.sz x=some (ys.length,new)/\qq E F h new ys/\new.length=ys.length*E.sz:=by
 rcases hs with⟨rfl,rfl⟩|⟨l,off,Ca,live,ro,ds,rfl,g,c,d,i,a⟩
 ·exact⟨[],rfl,trivial,by simp⟩
 ·have e:=a.length;rw[wBr]at e;rcases d with rfl|rfl
  ·exact⟨[],rfl,trivial,by simp⟩
  ·obtain⟨new,f,b⟩:=Eg (n:=ys.length) (off:=off) (sz:=E.sz) c (by omega);exact⟨new,f,by rw[b];exact a.take,by rw[b,Ip,wBr];omega⟩
theorem kS.xc(hs:kS E ty F h ys x):∃new,lU h E.sz x=some (ys.length,new)/\qq E F h new ys/\new.length=ys.length*E.sz:=by
 rcases hs with⟨rfl,rfl⟩|⟨t,ds,rfl,e,f,c,a,g⟩
 ·exact⟨[],rfl,trivial,by simp⟩
 ·have i:=a.length;obtain⟨new,d,b⟩:=Eg (n:=ys.length) (off:=0) (sz:=E.sz) c (by omega);refine⟨new,d,by rw[b,Yr];exact a.take,by rw[b,Ip,wBr];omega⟩
theorem Fi{e sz:Nat}{z:V}:jG e sz 0 z []=some (.cells e sz true false [],λl=> .slice l 0 0):=rfl
theorem eo.app(H:eo F h cs)(i:Nat)(hi:cs[i]? =some (eR E ty xs v)){j7:Nat}{new:List V}(f:lU h E.sz x=some (ys.length,new))(g:qq E F h new ys)(b:new.length=ys.length*E.sz)
  (k:0<E.sz) (m:j7<=1000) (c:xs.length+ys.length<=10000000) :
  ∃a h',fg ty E.sz j7 v x h=some (.val a h')/\h.next<=h'.next/\eo F h' (cs.set i (eR E ty (xs++ys) a))/\Sn F h F h':=by
 have d:=H.row i hi;by_cases hk:0<ys.length
 ·have n:(xs.length+ys.length)*j7<=10000000*1000:=Nat.mul_le_mul c m;obtain⟨a,h',o,q,j,l1⟩:=d.append (j7:=j7) f g b (g.one b) hk k H.fl (by omega) (by omega);obtain⟨r,s⟩:=H.Hu (p:=eR E ty (xs++ys) a) hi j q λl b=>(l1 l b).imp id λe=>by omega
  exact⟨a,h',o,j.next,r,s⟩
 ·have e0:ys=[]:=Wi (by omega);subst e0;refine⟨v,h,?_,jK _,by rw[GP];exact H.swap hi d λ_ h=>h,Sn.refl _ _⟩;unfold fg;rw[f];rcases d with⟨rfl,_⟩|⟨t,ds,rfl,_⟩ <;> rfl
theorem eo.Nt(H:eo F h cs)(i:Nat)(hi:cs[i]? =some (eR E ty xs v)){j7:Nat}(hs:iq E F h ys x)(c:0<E.sz)(d:j7<=1000)(a:xs.length+ys.length<=10000000) :
  ∃b h',fg ty E.sz j7 v x h=some (.val b h')/\h.next<=h'.next/\eo F h' (cs.set i (eR E ty (xs++ys) b))/\Sn F h F h':=by
 obtain⟨new,e,f,g⟩:=hs.xc;exact H.app i hi e f g c d a
theorem eo.ZL(H:eo F h cs)(i j:Nat)(hi:cs[i]? =some (eR E ty xs v)){c:Nat}(d:cs[j]? =some (eR E c ys x)){j7:Nat}(e:0<E.sz)(f:j7<=1000)(a:xs.length+ys.length<=10000000) :
  ∃b h',fg ty E.sz j7 v x h=some (.val b h')/\h.next<=h'.next/\eo F h' (cs.set i (eR E ty (xs++ys) b))/\Sn F h F h':=by
 obtain⟨new,g,k,l⟩:=(H.row j d).xc;exact H.app i hi g k l e f a
theorem eo.uD(H:eo F h cs)(i:Nat)(hi:cs[i]? =some (eR E ty xs v)){j7 Ca:Nat}{y:α}{w:List V}{ro:Bool}(b:E.rel F h y w)(c:0<E.sz)(d:j7<=1000)(e:xs.length<1000000) :
  ∃a h',fg ty E.sz j7 v (.slice h.next 0 1) (h.new (.cells Ca E.sz true ro w))=some (.val a h')/\h.next+1<=h'.next/\eo F h' (cs.set i (eR E ty (xs++[y]) a))/\Sn F h F h':=by
 obtain⟨f,g⟩:=H.grow (mA.new h (.cells Ca E.sz true ro w));have j:lU (h.new (.cells Ca E.sz true ro w)) E.sz (.slice h.next 0 1)=some (1,w):=oG (k:=0) (by rw[E.len b];simp);obtain⟨a,h',m,n,o,p⟩:=f.app (ys:=[y]) i hi j ⟨w,[],by simp,E.fm (λl q=>fo _ (H.fl l q)) b,trivial⟩ (by rw[E.len b];simp) c d (by simp;omega);exact⟨a,h',m,n,o,g.trans p⟩
theorem eo.zbx(H:eo F h cs)(i:Nat)(hi:cs[i]? =some (eR E ty xs v)){n:Nat}(b:n<=xs.length) :
  ∃a,jy E.sz v none (some (.I n)) h=some a/\eo F h (cs.set i (eR E ty (xs.take n) a)):=by
 obtain⟨a,c,d,e⟩:=(H.row i hi).cut b;exact⟨a,c,H.swap hi d e⟩
theorem eo.ma(H:eo F h cs)(i:Nat)(hi:cs[i]? =some (eR E ty xs v)):eo (λl=>F l\/Loc v l) h (cs.set i emp)/\Sn F h (λl=>F l\/Loc v l) h/\iq E (λl=>F l\/Loc v l) h xs v:=by
 obtain⟨a,b⟩:=H.zb0 (p:=emp) (F':=λl=>F l\/Loc v l) hi (mA.refl _ _) (λ_ h=> .inl h) (λ_ h=>h.imp id .inl) trivial λ_ h=>h.elim;exact⟨a,b,(H.row i hi).read⟩
theorem eo.make(H:eo F h cs){y:α}{u:V}(n:Nat)(a:E.rel F h y [u])(c:E.sz=1):eo F (h.new (.cells ty 1 true false (List.replicate n u))) (eR E ty (List.replicate n y) (.slice h.next 0 n)::cs)/\Sn F h F (h.new (.cells ty 1 true false (List.replicate n u))):=by
 have b:=E.one a;rw[ey,vR]at b;have:=H.VC (E:=E) ty (n:=n) (by simp) (qq.rep a n) (ML b.1 n)
 rwa [c]at this
theorem ka{e j7 n:Nat}{z:V}(a:z.one=true)(b:j7<=100)(c:n<=1000000) :
  iu e 1 j7 z (.I (n:Int)) (.I (n:Int))=some (O.cells e 1 true false (List.replicate n z),λl=>V.slice l 0 n):=by
 have:n*j7<=1000000*100:=Nat.mul_le_mul c b;rw[Nq (by omega) (by omega),Ot a,XA]
theorem iL{l o:Nat}{u:V}(a:eQ (.ptr l o) h=some u)(b:h'.get l=h.get l):eQ (.ptr l o) h' = some u:=by
 rw[<-a];unfold eQ ld1 kI;simp only[zU,b]
theorem Gc{l o n:Nat}{u:V}(a:fY n (.ptr l o) h=some u)(b:h'.get l=h.get l):fY n (.ptr l o) h' = some u:=by
 rw[<-a];unfold fY GN kI;simp only[zU,b]
end
open Un
def fS{ι:Type}(ty:Nat)(f:ι->Option (List Nat×V)):Pc where
 mw:=λl=>∃i xs v,f i=some (xs,v)/\Loc v l
 ok F h:=(∀i xs v,f i=some (xs,v)->kS eN ty F h xs v)/\∀i j xs v ys w,f i=some (xs,v)->f j=some (ys,w)->i≠j->∀l,Loc v l->¬Loc w l
 Nz:=λh l ⟨i,xs,v,a,b⟩=>((h.1 i xs v a).wq b).2
 fm:=λh c b d=>⟨λi xs v a=>(h.1 i xs v a).fm c (λl hv=>b l ⟨i,xs,v,a,hv⟩) d,h.2⟩
 mono:=λh c b=>⟨λi xs v a=>(h.1 i xs v a).mono c λl hv=>b l ⟨i,xs,v,a,hv⟩,h.2⟩
def up{ι α:Type}[DecidableEq ι] (f:ι->Option α)(i:ι)(x:Option α):ι->Option α:=λj=>if j=i then x else f j
@[simp] theorem jx {ι α:Type} [DecidableEq ι] (f:ι->Option α) (i:ι) (x:Option α):up f i x i=x:=if_pos rfl
theorem jt{ι α:Type}[DecidableEq ι] (f:ι->Option α){i j:ι}(x:Option α)(h:j≠i):up f i x j=f j:=if_neg h
section
variable{F:Nat->Prop}{h:Hp}{cs:List Pc}{p q:Pc}
theorem eo.sw(H:eo F h (p::q::cs)):eo F h (q::p::cs) where
 fl:=H.fl
 ok:=λi c hc=>by
  match i,hc with
  |0,hc=>exact H.ok 1 c hc
  |1,hc=>exact H.ok 0 c hc
  |i+2,hc=>exact H.ok (i+2) c hc
 D0:=λi j c d hc a b=>by
  match i,j,hc,a with
  |0,0,_,_=>exact absurd rfl b
  |0,1,hc,a=>exact H.D0 1 0 c d hc a (by omega)
  |0,j+2,hc,a=>exact H.D0 1 (j+2) c d hc a (by omega)
  |1,0,hc,a=>exact H.D0 0 1 c d hc a (by omega)
  |1,1,_,_=>exact absurd rfl b
  |1,j+2,hc,a=>exact H.D0 0 (j+2) c d hc a (by omega)
  |i+2,0,hc,a=>exact H.D0 (i+2) 1 c d hc a (by omega)
  |i+2,1,hc,a=>exact H.D0 (i+2) 0 c d hc a (by omega)
  |i+2,j+2,hc,a=>exact H.D0 (i+2) (j+2) c d hc a b
theorem eo.Jh(H:eo F h (p::q::cs)):eo F h (p::cs):=H.sw.tail
end
section
variable{F F':Nat->Prop}{h h':Hp}{cs:List Pc}{ι:Type}{ty:Nat}{f:ι->Option (List Nat×V)}{xs:List Nat}{v:V}
theorem eo.WU(H:eo F h cs):eo F h (fS (ι:=ι) ty (λ_=>Option.none)::cs):=
 H.add ⟨λ_ _ _ h=>(nomatch h),λ_ _ _ _ _ _ h=>(nomatch h)⟩ λ_ ⟨_,_,_,h,_⟩=>(nomatch h)
theorem eo.Pf [DecidableEq ι] (H:eo F h (eR eN ty xs v::fS ty f::cs)){i:ι}(hi:f i=Option.none):eo F h (fS ty (up f i (some (xs,v)))::cs):=by
 have h0:=H.ok 0 _ rfl;have m:=H.ok 1 _ rfl;have n:∀l,Loc v l->¬(fS ty f).mw l:=λl d=>H.D0 0 1 _ _ rfl rfl (by omega) l d;refine H.tail.tail.cons ⟨λj ys w b=>?_,λj k ys w o x b a p l d g=>?_⟩ λj c hc l d=>?_
 ·by_cases e:j=i
  ·subst e;rw[jx]at b;cases b;exact h0
  ·rw[jt _ _ e]at b;exact m.1 j ys w b
 ·by_cases e:j=i
  ·subst e;rw[jx]at b;cases b;rw[jt _ _ λe=>p e.symm]at a;exact n l d ⟨k,o,x,a,g⟩
  ·rw[jt _ _ e]at b;by_cases e':k=i
   ·subst e';rw[jx]at a;cases a;exact n l g ⟨j,ys,w,b,d⟩
   ·rw[jt _ _ e']at a;exact m.2 j k ys w o x b a p l d g
 ·obtain⟨k,ys,w,a,q⟩:=d;by_cases e:k=i
  ·subst e;rw[jx]at a;cases a;exact H.D0 0 (j+2) _ c rfl hc (by omega) l q
  ·rw[jt _ _ e]at a;exact H.D0 1 (j+2) _ c rfl hc (by omega) l ⟨k,ys,w,a,q⟩
theorem eo.rows(H:eo F h cs)(n:Nat)(a:cs[n]? =some (fS ty f)){i:ι}(hi:f i=some (xs,v)):kS eN ty F h xs v:=(H.ok n _ a).1 i xs v hi
theorem eo.Ql{κ:Type}(H:eo F h cs)(n:Nat)(d:cs[n]? =some (fS ty f))(g:κ->Option (List Nat×V))(m:κ->ι)(b:∀i p,g i=some p->f (m i)=some p)(a:∀i j p q,g i=some p->g j=some q->m i=m j->i=j):eo F h (cs.set n (fS ty g)):=by
 have k:=H.ok n _ d;refine H.swap d ⟨λi xs v hi=>k.1 (m i) xs v (b i _ hi),λi j xs v ys w hi o c=>k.2 (m i) (m j) xs v ys w (b i _ hi) (b j _ o) λe=>c (a i j _ _ hi o e)⟩ λl ⟨i,xs,v,hi,r⟩=>⟨m i,xs,v,b i _ hi,r⟩
theorem eo.Wq [DecidableEq ι] (H:eo F h cs)(n:Nat)(B:cs[n]? =some (fS ty f)){i:ι}(hi:f i=some (xs,v)){k:Nat}(C:k<xs.length)(y:Nat) :
  ∃l o h',gJ 1 v (.I k)=some (.ptr l o)/\gM 1 (.ptr l o) (.I y) h=some (.val .undef h')/\h.next<=h'.next/\eo F h' (cs.set n (fS ty (up f i (some (xs.set k y,v)))))/\Sn F h F h':=by
 have p:=H.ok n _ B;obtain⟨t,h',M,D,E,G,q⟩:=(p.1 i xs v hi).store (k:=0) (y:=y) (u:=V.I y) C Nat.one_pos rfl (λw I=>by
  have:w=[.I (xs[k]:Nat)]:=I;subst this;exact(rfl:eN.rel F h y [V.I y]))
 have hc:mA (fS ty f).mw h h':=q.U6 λl _ c=>⟨i,xs,v,hi,c⟩
 have g:∀{a:ι} {m:List Nat} {b:V},up f i (some (xs.set k y,v)) a=some (m,b)->∃cs,f a=some (cs,b):=λ{a m b} r=>by
  by_cases e:a=i
  ·subst e;rw[jx]at r;cases r;exact⟨xs,hi⟩
  ·rw[jt _ _ e]at r;exact⟨m,r⟩
 have ok:(fS ty (up f i (some (xs.set k y,v)))).ok F h':=by
  refine⟨λj ys w d=>?_,λj J ys w m x d s z l c A=>?_⟩
  ·by_cases e:j=i
   ·subst e;rw[jx]at d;cases d;exact G
   ·rw[jt _ _ e]at d;have:=p.1 j ys w d;exact this.fm (λl c=>q.fm l (H.fl l c) λhv=>((p.1 i xs v hi).wq hv).2.2 c) (λl c=>q.fm l (this.wq c).2.1 λhv=>p.2 j i ys w xs v d hi e l c hv) q.next
  ·obtain⟨_,a1⟩:=g d;obtain⟨_,a2⟩:=g s;exact p.2 j J _ w _ x a1 a2 z l c A
 obtain⟨K,L⟩:=H.Hu B hc ok λl ⟨j,ys,w,d,c⟩=> .inl (let⟨m,a1⟩:=g d;⟨j,m,w,a1,c⟩);exact⟨t,k*1,h',D,E,q.next,K,L⟩
end
open Un
structure Rw where
 vv:V
 vb:V
 vs:V
 vk:V
 vc:V
 vp:V
 cc:V
def comp(lu iA jN:Nat)(R:Rw):Nat->Nat->Prop
 |0,l=>l=lu
 |1,l=>l=iA
 |2,l=>l=jN
 |3,l=>Loc R.vv l
 |4,l=>Loc R.vb l
 |5,l=>Loc R.vs l
 |6,l=>Loc R.vk l
 |7,l=>Loc R.vc l
 |_,_=>False
def sig:Nat->Nat×Nat
 |0=>(gZ,1)
 |1=>(jb,1)
 |2=>(fR,1)
 |3=>(hK,6)
 |4=>(fR,6)
 |5=>(me,1)
 |_=>(eJ,1)
structure Dw (F G:Nat->Prop) (h:Hp) (lu iA jN:Nat) (t:Dt) (R:Rw):Prop where
 fl:∀l,F l->l<h.next
 gu:h.get lu=some (.cells gZ 1 true false [.I 1,.I 2,R.vv,R.vb,R.vs])
 gk:h.get iA=some (.cells jb 1 true false [R.vk])
 gb:h.get jN=some (.cells fR 1 true false [R.cc,.I 0,.I 0,.ef,R.vp,.I 0])
 nu:lu<h.next/\¬F lu
 nk:iA<h.next/\¬F iA
 nb:jN<h.next/\¬F jN
 ov:kS eV hK F h t.s.eh R.vv
 ob:kS eK fR F h t.blocks R.vb
 os:kS eT me F h t.s.en R.vs
 ok:kS eN eJ F h t.s.known R.vk
 oc:kS eN eJ F h t.s.cur R.vc
 sp:iq eN F h t.fh R.vp
 kc:∀l,Loc R.vk l->¬Loc R.vc l
 gx:∀l,G l->l<h.next/\¬F l/\∀i,¬comp lu iA jN R i l
structure Kp (F G:Nat->Prop) (h h':Hp):Prop where
 next:h.next<=h'.next
 fm:∀l,F l\/G l->h'.get l=h.get l
theorem Kp.refl(F G:Nat->Prop)(h:Hp):Kp F G h h:=⟨jK _,λ_ _=>rfl⟩
theorem Kp.trans{F F' G:Nat->Prop} {h h' c:Hp}(a:Kp F G h h')(b:Kp F' G h' c)(e:∀l,F l->F' l):Kp F G h c:=
 ⟨II a.next b.next,λl d=>by rw[b.fm l (d.imp (e l) id),a.fm l d]⟩
section
variable{F G:Nat->Prop}{h h':Hp}{lu iA jN:Nat}{t:Dt}{R:Rw}
theorem Dw.sig(D:Dw F G h lu iA jN t R){l:Nat}:∀{i:Nat},comp lu iA jN R i l->YV h l=some (Hx.sig i)/\l<h.next/\¬F l
 |0,hl=>by have e:l=lu:=hl;subst e;exact⟨Lr D.gu,D.nu⟩
 |1,hl=>by have e:l=iA:=hl;subst e;exact⟨Lr D.gk,D.nk⟩
 |2,hl=>by have e:l=jN:=hl;subst e;exact⟨Lr D.gb,D.nb⟩
 |3,hl=>D.ov.wq hl
 |4,hl=>D.ob.wq hl
 |5,hl=>D.os.wq hl
 |6,hl=>D.ok.wq hl
 |7,hl=>D.oc.wq hl
 |_+8,hl=>hl.elim
theorem Dw.D0(D:Dw F G h lu iA jN t R){l i j:Nat}(hi:comp lu iA jN R i l)(b:comp lu iA jN R j l):Hx.sig i=Hx.sig j:=by
 have a:=(D.sig hi).1;rw[(D.sig b).1]at a;exact(Option.some.inj a).symm
theorem Dw.DI(D:Dw F G h lu iA jN t R){l i j:Nat}(hi:comp lu iA jN R i l)(a:comp lu iA jN R j l)(c:i<8)(d:j<8):i=j:=by
 have e:=D.D0 hi a;have b:∀i,i<8->∀j,j<8->Hx.sig i=Hx.sig j->i=j\/(i=6/\j=7)\/(i=7/\j=6):=by decide
 rcases b i c j d e with f|⟨rfl,rfl⟩|⟨rfl,rfl⟩
 ·exact f
 ·exact absurd a (D.kc l hi)
 ·exact absurd hi (D.kc l a)
theorem Dw.kept(D:Dw F G h lu iA jN t R){i j:Nat}(hi:i<8)(e:j<8)(hc:mA (λl=>comp lu iA jN R i l\/comp lu iA jN R j l) h h') :
  (∀l,F l->h'.get l=h.get l)/\(∀l,G l->h'.get l=h.get l)/\∀k l,k<8->k≠i->k≠j->comp lu iA jN R k l->h'.get l=h.get l:=by
 refine⟨λl a=>hc.fm l (D.fl l a) ?_,λl a=>hc.fm l (D.gx l a).1 ?_,λk l d b f a=>hc.fm l (D.sig a).2.1 ?_⟩
 ·rintro(b|b)
  ·exact(D.sig b).2.2 a
  ·exact(D.sig b).2.2 a
 ·rintro(b|b)
  ·exact(D.gx l a).2.2 _ b
  ·exact(D.gx l a).2.2 _ b
 ·rintro(c|c)
  ·exact b (D.DI a c d hi)
  ·exact f (D.DI a c d e)
theorem Dw.other(D:Dw F G h lu iA jN t R){S:Nat->Prop}(b:mA S h h')(d:∀l,S l->¬F l/\¬G l/\∀i,¬comp lu iA jN R i l):Dw F G h' lu iA jN t R/\Kp F G h h':=by
 have c:∀l,F l->h'.get l=h.get l:=λl a=>b.fm l (D.fl l a) λhs=>(d l hs).1 a;have e:∀l,G l->h'.get l=h.get l:=λl a=>b.fm l (D.gx l a).1 λhs=>(d l hs).2.1 a;have k:∀i l,comp lu iA jN R i l->h'.get l=h.get l:=λi l a=>b.fm l (D.sig a).2.1 λhs=>(d l hs).2.2 i a;have lt:∀l,l<h.next->l<h'.next:=λl a=>Cb a b.next
 exact ⟨{
  fl:=λl a=>lt l (D.fl l a)
  gu:=by rw[k 0 _ rfl];exact D.gu
  gk:=by rw[k 1 _ rfl];exact D.gk
  gb:=by rw[k 2 _ rfl];exact D.gb
  nu:=⟨lt _ D.nu.1,D.nu.2⟩
  nk:=⟨lt _ D.nk.1,D.nk.2⟩
  nb:=⟨lt _ D.nb.1,D.nb.2⟩
  ov:=D.ov.fm c (λl a=>k 3 l a) b.next
  ob:=D.ob.fm c (λl a=>k 4 l a) b.next
  os:=D.os.fm c (λl a=>k 5 l a) b.next
  ok:=D.ok.fm c (λl a=>k 6 l a) b.next
  oc:=D.oc.fm c (λl a=>k 7 l a) b.next
  sp:=D.sp.fm c
  kc:=D.kc
  gx:=λl a=>⟨lt l (D.gx l a).1,(D.gx l a).2⟩ },⟨b.next,λl a=>a.elim (c l) (e l)⟩⟩
theorem Dw.grow(D:Dw F G h lu iA jN t R)(a:G9 h h'):Dw F G h' lu iA jN t R:=(D.other a λ_ h=>h.elim).1
theorem Dw.more(D:Dw F G h lu iA jN t R) {F':Nat->Prop}(c:∀l,F l->F' l)(d:∀l,F' l->F l\/(l<h.next/\(∀i,¬comp lu iA jN R i l)/\¬G l)):Dw F' G h lu iA jN t R:=by
 have b:∀i l,comp lu iA jN R i l->¬F' l:=λi l a e=>by
  rcases d l e with f|⟨_,f,_⟩
  ·exact(D.sig a).2.2 f
  ·exact f i a
 exact {
  fl:=λl a=>(d l a).elim (D.fl l) λh=>h.1
  gu:=D.gu
  gk:=D.gk
  gb:=D.gb
  nu:=⟨D.nu.1,b 0 _ rfl⟩
  nk:=⟨D.nk.1,b 1 _ rfl⟩
  nb:=⟨D.nb.1,b 2 _ rfl⟩
  ov:=D.ov.mono c λl a=>b 3 l a
  ob:=D.ob.mono c λl a=>b 4 l a
  os:=D.os.mono c λl a=>b 5 l a
  ok:=D.ok.mono c λl a=>b 6 l a
  oc:=D.oc.mono c λl a=>b 7 l a
  sp:=D.sp.mono c
  kc:=D.kc
  gx:=λl a=>⟨(D.gx l a).1,λe=>(d l e).elim (D.gx l a).2.1 λh=>h.2.2 a,(D.gx l a).2.2⟩ }
def fz(F:Nat->Prop)(n:Nat):Nat->Prop:=λl=>F l\/l=n
theorem qe(F:Nat->Prop)(n:Nat):∀l,F l->fz F n l:=λ_ h=> .inl h
theorem Dw.new(D:Dw F G h lu iA jN t R)(o:O):Dw (fz F h.next) G (h.new o) lu iA jN t R:=
 (D.grow (mA.new h o)).more (qe _ _) λl a=>a.imp id λe=>by
  subst e;refine⟨Mm _,λi hi=>Yt _ (D.sig hi).2.1,λb=>Yt _ (D.gx _ b).1⟩
theorem Kp.new(F G:Nat->Prop)(h:Hp)(o:O)(a:∀l,F l->l<h.next)(b:∀l,G l->l<h.next):Kp F G h (h.new o):=
 ⟨OH _,λl c=>fo o (c.elim (a l) (b l))⟩
theorem Dw.zh(D:Dw F G h lu iA jN t R)(o:O):Kp F G h (h.new o):=Kp.new F G h o D.fl λl a=>(D.gx l a).1
theorem oT{l o e sz:Nat} {cs pD:List V}{v:V}(a:h.get l=some (.cells e sz true false cs))(b:o<cs.length)(hv:v.one=true)(hs:cs.set o v=pD):gM 1 (.ptr l o) v h=some (.val .undef (h.put l (.cells e sz true false pD))):=by
 subst hs;exact LC a b hv
private theorem WB {a:Nat->Prop} {l:Nat} {S:Nat->Prop} {b:Hp} {o:O} (hc:mA a h b) (c:∀l,a l->S l) (d:l<h.next) (hs:S l):mA S h (b.put l o):=
 (hc.U6 λl _ h=>c l h).trans (mA.put o hs (Cb d hc.next))
theorem Dw.zd9(D:Dw F G h lu iA jN t R){ys:List Vl}{new:List V}{xv:V}(u:lU h 6 xv=some (ys.length,new))(w:qq eV F h new ys)(a:new.length=ys.length*6) (p:gG new=true)(x:0<ys.length)(hlen:t.s.eh.length+ys.length<1000000) :
  ∃b c f,fg hK 6 64 R.vv xv h=some (.val b c)/\h.next<=c.next/\gM 1 (.ptr lu 2) b c=some (.val .undef f)/\c.next<=f.next/\Kp F G h f/\
   Dw F G f lu iA jN {t with s:={t.s with eh:=t.s.eh++ys} } {R with vv:=b}:=by
 obtain ⟨b,c,y,r,n,l1⟩:=D.ov.append (j7:=64) (ys:=ys) u w a p x (by decide) D.fl (by omega) (by omega);have q:c.get lu=some (.cells gZ 1 true false [.I 1,.I 2,R.vv,R.vb,R.vs]):=by
  rw[n.fm lu D.nu.1 λa=>nomatch D.DI (i:=0) (j:=3) rfl a (by decide) (by decide)];exact D.gu
 have g:lu<c.next:=Cb D.nu.1 n.next;have z:=oT (o:=2) (v:=b) (pD:=[.I 1,.I 2,b,R.vb,R.vs]) q (by simp) r.one rfl;have hc:mA (λl=>comp lu iA jN R 0 l\/comp lu iA jN R 3 l) h (c.put lu (.cells gZ 1 true false [.I 1,.I 2,b,R.vb,R.vs])):=WB n (λ_ h=> .inr h) D.nu.1 (.inl rfl);obtain⟨k,A,m⟩:=D.kept (by decide) (by decide) hc;have d:∀l,l<h.next->l<(c.put lu (.cells gZ 1 true false [.I 1,.I 2,b,R.vb,R.vs])).next:=λl a=>Cb a hc.next;have B:∀l,Loc b l->l≠lu:=λl a e=>by
  subst e;rcases l1 _ a with f|f
  ·exact absurd (D.DI (i:=0) (j:=3) rfl f (by decide) (by decide)) (by decide)
  ·exact absurd f (RB D.nu.1)
 have C:kS eV hK F (c.put lu (.cells gZ 1 true false [.I 1,.I 2,b,R.vb,R.vs])) (t.s.eh++ys) b:=
  r.fm (λl a=>gL _ g λe=>D.nu.2 (e▸a)) (λl a=>gL _ g λe=>B l a e.symm) (jK _)
 refine⟨b,c,_,y,n.next,z,jK _,⟨hc.next,λl a=>a.elim (k l) (A l)⟩,?_⟩
 exact {
  fl:=λl a=>d l (D.fl l a)
  gu:=gq _ g
  gk:=by rw[m 1 iA (by decide) (by decide) (by decide) rfl];exact D.gk
  gb:=by rw[m 2 jN (by decide) (by decide) (by decide) rfl];exact D.gb
  ov:=C
  ob:=D.ob.fm k (λl a=>m 4 l (by decide) (by decide) (by decide) a) hc.next
  os:=D.os.fm k (λl a=>m 5 l (by decide) (by decide) (by decide) a) hc.next
  ok:=D.ok.fm k (λl a=>m 6 l (by decide) (by decide) (by decide) a) hc.next
  oc:=D.oc.fm k (λl a=>m 7 l (by decide) (by decide) (by decide) a) hc.next
  nu:=⟨d _ D.nu.1,D.nu.2⟩
  nk:=⟨d _ D.nk.1,D.nk.2⟩
  nb:=⟨d _ D.nb.1,D.nb.2⟩
  sp:=D.sp.fm k
  kc:=D.kc
  gx:=λl a=>⟨d l (D.gx l a).1,(D.gx l a).2.1,λi hi=>by
   match i,hi with
   |0,hi=>exact(D.gx l a).2.2 0 hi
   |1,hi=>exact(D.gx l a).2.2 1 hi
   |2,hi=>exact(D.gx l a).2.2 2 hi
   |3,hi=>exact(l1 l hi).elim ((D.gx l a).2.2 3) λe=>absurd e (RB (D.gx l a).1)
   |4,hi=>exact(D.gx l a).2.2 4 hi
   |5,hi=>exact(D.gx l a).2.2 5 hi
   |6,hi=>exact(D.gx l a).2.2 6 hi
   |7,hi=>exact(D.gx l a).2.2 7 hi⟩ }
theorem Dw.zea(D:Dw F G h lu iA jN t R){ys:List Bk}{new:List V}{xv:V}(s:lU h 6 xv=some (ys.length,new))(u:qq eK F h new ys)(a:new.length=ys.length*6) (p:gG new=true)(w:0<ys.length)(hlen:t.blocks.length+ys.length<1000000) :
  ∃b c f,fg fR 6 96 R.vb xv h=some (.val b c)/\h.next<=c.next/\gM 1 (.ptr lu 3) b c=some (.val .undef f)/\c.next<=f.next/\Kp F G h f/\
   Dw F G f lu iA jN {t with blocks:=t.blocks++ys} {R with vb:=b}:=by
 obtain ⟨b,c,x,r,n,l1⟩:=D.ob.append (j7:=96) (ys:=ys) s u a p w (by decide) D.fl (by omega) (by omega);have q:c.get lu=some (.cells gZ 1 true false [.I 1,.I 2,R.vv,R.vb,R.vs]):=by
  rw[n.fm lu D.nu.1 λa=>nomatch D.DI (i:=0) (j:=4) rfl a (by decide) (by decide)];exact D.gu
 have g:lu<c.next:=Cb D.nu.1 n.next;have y:=oT (o:=3) (v:=b) (pD:=[.I 1,.I 2,R.vv,b,R.vs]) q (by simp) r.one rfl;have hc:mA (λl=>comp lu iA jN R 0 l\/comp lu iA jN R 4 l) h (c.put lu (.cells gZ 1 true false [.I 1,.I 2,R.vv,b,R.vs])):=WB n (λ_ h=> .inr h) D.nu.1 (.inl rfl);obtain⟨k,z,m⟩:=D.kept (by decide) (by decide) hc;have d:∀l,l<h.next->l<(c.put lu (.cells gZ 1 true false [.I 1,.I 2,R.vv,b,R.vs])).next:=λl a=>Cb a hc.next;have A:∀l,Loc b l->l≠lu:=λl a e=>by
  subst e;rcases l1 _ a with f|f
  ·exact absurd (D.DI (i:=0) (j:=4) rfl f (by decide) (by decide)) (by decide)
  ·exact absurd f (RB D.nu.1)
 have B:kS eK fR F (c.put lu (.cells gZ 1 true false [.I 1,.I 2,R.vv,b,R.vs])) (t.blocks++ys) b:=
  r.fm (λl a=>gL _ g λe=>D.nu.2 (e▸a)) (λl a=>gL _ g λe=>A l a e.symm) (jK _)
 refine⟨b,c,_,x,n.next,y,jK _,⟨hc.next,λl a=>a.elim (k l) (z l)⟩,?_⟩
 exact {
  fl:=λl a=>d l (D.fl l a)
  gu:=gq _ g
  gk:=by rw[m 1 iA (by decide) (by decide) (by decide) rfl];exact D.gk
  gb:=by rw[m 2 jN (by decide) (by decide) (by decide) rfl];exact D.gb
  ov:=D.ov.fm k (λl a=>m 3 l (by decide) (by decide) (by decide) a) hc.next
  ob:=B
  os:=D.os.fm k (λl a=>m 5 l (by decide) (by decide) (by decide) a) hc.next
  ok:=D.ok.fm k (λl a=>m 6 l (by decide) (by decide) (by decide) a) hc.next
  oc:=D.oc.fm k (λl a=>m 7 l (by decide) (by decide) (by decide) a) hc.next
  nu:=⟨d _ D.nu.1,D.nu.2⟩
  nk:=⟨d _ D.nk.1,D.nk.2⟩
  nb:=⟨d _ D.nb.1,D.nb.2⟩
  sp:=D.sp.fm k
  kc:=D.kc
  gx:=λl a=>⟨d l (D.gx l a).1,(D.gx l a).2.1,λi hi=>by
   match i,hi with
   |0,hi=>exact(D.gx l a).2.2 0 hi
   |1,hi=>exact(D.gx l a).2.2 1 hi
   |2,hi=>exact(D.gx l a).2.2 2 hi
   |3,hi=>exact(D.gx l a).2.2 3 hi
   |4,hi=>exact(l1 l hi).elim ((D.gx l a).2.2 4) λe=>absurd e (RB (D.gx l a).1)
   |5,hi=>exact(D.gx l a).2.2 5 hi
   |6,hi=>exact(D.gx l a).2.2 6 hi
   |7,hi=>exact(D.gx l a).2.2 7 hi⟩ }
theorem Dw.zed(D:Dw F G h lu iA jN t R){ys:List (List Fm)}{new:List V}{xv:V}(u:lU h 1 xv=some (ys.length,new))(w:qq eT F h new ys)(a:new.length=ys.length*1) (p:gG new=true)(x:0<ys.length)(hlen:t.s.en.length+ys.length<1000000) :
  ∃b c f,fg me 1 24 R.vs xv h=some (.val b c)/\h.next<=c.next/\gM 1 (.ptr lu 4) b c=some (.val .undef f)/\c.next<=f.next/\Kp F G h f/\
   Dw F G f lu iA jN {t with s:={t.s with en:=t.s.en++ys} } {R with vs:=b}:=by
 obtain ⟨b,c,y,r,n,l1⟩:=D.os.append (j7:=24) (ys:=ys) u w a p x (by decide) D.fl (by omega) (by omega);have q:c.get lu=some (.cells gZ 1 true false [.I 1,.I 2,R.vv,R.vb,R.vs]):=by
  rw[n.fm lu D.nu.1 λa=>nomatch D.DI (i:=0) (j:=5) rfl a (by decide) (by decide)];exact D.gu
 have g:lu<c.next:=Cb D.nu.1 n.next;have z:=oT (o:=4) (v:=b) (pD:=[.I 1,.I 2,R.vv,R.vb,b]) q (by simp) r.one rfl;have hc:mA (λl=>comp lu iA jN R 0 l\/comp lu iA jN R 5 l) h (c.put lu (.cells gZ 1 true false [.I 1,.I 2,R.vv,R.vb,b])):=WB n (λ_ h=> .inr h) D.nu.1 (.inl rfl);obtain⟨k,A,m⟩:=D.kept (by decide) (by decide) hc;have d:∀l,l<h.next->l<(c.put lu (.cells gZ 1 true false [.I 1,.I 2,R.vv,R.vb,b])).next:=λl a=>Cb a hc.next;have B:∀l,Loc b l->l≠lu:=λl a e=>by
  subst e;rcases l1 _ a with f|f
  ·exact absurd (D.DI (i:=0) (j:=5) rfl f (by decide) (by decide)) (by decide)
  ·exact absurd f (RB D.nu.1)
 have C:kS eT me F (c.put lu (.cells gZ 1 true false [.I 1,.I 2,R.vv,R.vb,b])) (t.s.en++ys) b:=
  r.fm (λl a=>gL _ g λe=>D.nu.2 (e▸a)) (λl a=>gL _ g λe=>B l a e.symm) (jK _)
 refine⟨b,c,_,y,n.next,z,jK _,⟨hc.next,λl a=>a.elim (k l) (A l)⟩,?_⟩
 exact {
  fl:=λl a=>d l (D.fl l a)
  gu:=gq _ g
  gk:=by rw[m 1 iA (by decide) (by decide) (by decide) rfl];exact D.gk
  gb:=by rw[m 2 jN (by decide) (by decide) (by decide) rfl];exact D.gb
  ov:=D.ov.fm k (λl a=>m 3 l (by decide) (by decide) (by decide) a) hc.next
  ob:=D.ob.fm k (λl a=>m 4 l (by decide) (by decide) (by decide) a) hc.next
  os:=C
  ok:=D.ok.fm k (λl a=>m 6 l (by decide) (by decide) (by decide) a) hc.next
  oc:=D.oc.fm k (λl a=>m 7 l (by decide) (by decide) (by decide) a) hc.next
  nu:=⟨d _ D.nu.1,D.nu.2⟩
  nk:=⟨d _ D.nk.1,D.nk.2⟩
  nb:=⟨d _ D.nb.1,D.nb.2⟩
  sp:=D.sp.fm k
  kc:=D.kc
  gx:=λl a=>⟨d l (D.gx l a).1,(D.gx l a).2.1,λi hi=>by
   match i,hi with
   |0,hi=>exact(D.gx l a).2.2 0 hi
   |1,hi=>exact(D.gx l a).2.2 1 hi
   |2,hi=>exact(D.gx l a).2.2 2 hi
   |3,hi=>exact(D.gx l a).2.2 3 hi
   |4,hi=>exact(D.gx l a).2.2 4 hi
   |5,hi=>exact(l1 l hi).elim ((D.gx l a).2.2 5) λe=>absurd e (RB (D.gx l a).1)
   |6,hi=>exact(D.gx l a).2.2 6 hi
   |7,hi=>exact(D.gx l a).2.2 7 hi⟩ }
theorem Dw.zbW(D:Dw F G h lu iA jN t R){ys:List Nat}{new:List V}{xv:V}(u:lU h 1 xv=some (ys.length,new))(w:qq eN F h new ys)(a:new.length=ys.length*1) (p:gG new=true)(x:0<ys.length)(hlen:t.s.known.length+ys.length<1000000) :
  ∃b c f,fg eJ 1 8 R.vk xv h=some (.val b c)/\h.next<=c.next/\gM 1 (.ptr iA 0) b c=some (.val .undef f)/\c.next<=f.next/\Kp F G h f/\
   Dw F G f lu iA jN {t with s:={t.s with known:=t.s.known++ys} } {R with vk:=b}:=by
 obtain ⟨b,c,y,r,n,l1⟩:=D.ok.append (j7:=8) (ys:=ys) u w a p x (by decide) D.fl (by omega) (by omega);have q:c.get iA=some (.cells jb 1 true false [R.vk]):=by
  rw[n.fm iA D.nk.1 λa=>nomatch D.DI (i:=1) (j:=6) rfl a (by decide) (by decide)];exact D.gk
 have g:iA<c.next:=Cb D.nk.1 n.next;have z:=oT (o:=0) (v:=b) (pD:=[b]) q (by simp) r.one rfl;have hc:mA (λl=>comp lu iA jN R 1 l\/comp lu iA jN R 6 l) h (c.put iA (.cells jb 1 true false [b])):=WB n (λ_ h=> .inr h) D.nk.1 (.inl rfl);obtain⟨k,A,m⟩:=D.kept (by decide) (by decide) hc;have d:∀l,l<h.next->l<(c.put iA (.cells jb 1 true false [b])).next:=λl a=>Cb a hc.next;have B:∀l,Loc b l->l≠iA:=λl a e=>by
  subst e;rcases l1 _ a with f|f
  ·exact absurd (D.DI (i:=1) (j:=6) rfl f (by decide) (by decide)) (by decide)
  ·exact absurd f (RB D.nk.1)
 have C:kS eN eJ F (c.put iA (.cells jb 1 true false [b])) (t.s.known++ys) b:=
  r.fm (λl a=>gL _ g λe=>D.nk.2 (e▸a)) (λl a=>gL _ g λe=>B l a e.symm) (jK _)
 refine⟨b,c,_,y,n.next,z,jK _,⟨hc.next,λl a=>a.elim (k l) (A l)⟩,?_⟩
 exact {
  fl:=λl a=>d l (D.fl l a)
  gu:=by rw[m 0 lu (by decide) (by decide) (by decide) rfl];exact D.gu
  gk:=gq _ g
  gb:=by rw[m 2 jN (by decide) (by decide) (by decide) rfl];exact D.gb
  ov:=D.ov.fm k (λl a=>m 3 l (by decide) (by decide) (by decide) a) hc.next
  ob:=D.ob.fm k (λl a=>m 4 l (by decide) (by decide) (by decide) a) hc.next
  os:=D.os.fm k (λl a=>m 5 l (by decide) (by decide) (by decide) a) hc.next
  ok:=C
  oc:=D.oc.fm k (λl a=>m 7 l (by decide) (by decide) (by decide) a) hc.next
  nu:=⟨d _ D.nu.1,D.nu.2⟩
  nk:=⟨d _ D.nk.1,D.nk.2⟩
  nb:=⟨d _ D.nb.1,D.nb.2⟩
  sp:=D.sp.fm k
  kc:=λl a hc=>(l1 l a).elim (λf=>D.kc l f hc) λe=>absurd e (RB (D.oc.wq hc).2.1)
  gx:=λl a=>⟨d l (D.gx l a).1,(D.gx l a).2.1,λi hi=>by
   match i,hi with
   |0,hi=>exact(D.gx l a).2.2 0 hi
   |1,hi=>exact(D.gx l a).2.2 1 hi
   |2,hi=>exact(D.gx l a).2.2 2 hi
   |3,hi=>exact(D.gx l a).2.2 3 hi
   |4,hi=>exact(D.gx l a).2.2 4 hi
   |5,hi=>exact(D.gx l a).2.2 5 hi
   |6,hi=>exact(l1 l hi).elim ((D.gx l a).2.2 6) λe=>absurd e (RB (D.gx l a).1)
   |7,hi=>exact(D.gx l a).2.2 7 hi⟩ }
theorem Dw.zdV(D:Dw F G h lu iA jN t R){ys:List Nat}{new:List V}{xv:V}(u:lU h 1 xv=some (ys.length,new))(w:qq eN F h new ys)(a:new.length=ys.length*1) (p:gG new=true)(x:0<ys.length)(hlen:t.s.cur.length+ys.length<1000000) :
  ∃b c f,fg eJ 1 8 R.vc xv h=some (.val b c)/\h.next<=c.next/\gM 1 (.ptr jN 0) b c=some (.val .undef f)/\c.next<=f.next/\Kp F G h f/\
   Dw F G f lu iA jN {t with s:={t.s with cur:=t.s.cur++ys} } {R with vc:=b,cc:=b}:=by
 obtain ⟨b,c,y,r,n,l1⟩:=D.oc.append (j7:=8) (ys:=ys) u w a p x (by decide) D.fl (by omega) (by omega);have q:c.get jN=some (.cells fR 1 true false [R.cc,.I 0,.I 0,.ef,R.vp,.I 0]):=by
  rw[n.fm jN D.nb.1 λa=>nomatch D.DI (i:=2) (j:=7) rfl a (by decide) (by decide)];exact D.gb
 have g:jN<c.next:=Cb D.nb.1 n.next;have z:=oT (o:=0) (v:=b) (pD:=[b,.I 0,.I 0,.ef,R.vp,.I 0]) q (by simp) r.one rfl;have hc:mA (λl=>comp lu iA jN R 2 l\/comp lu iA jN R 7 l) h (c.put jN (.cells fR 1 true false [b,.I 0,.I 0,.ef,R.vp,.I 0])):=WB n (λ_ h=> .inr h) D.nb.1 (.inl rfl);obtain⟨k,A,m⟩:=D.kept (by decide) (by decide) hc;have d:∀l,l<h.next->l<(c.put jN (.cells fR 1 true false [b,.I 0,.I 0,.ef,R.vp,.I 0])).next:=λl a=>Cb a hc.next;have B:∀l,Loc b l->l≠jN:=λl a e=>by
  subst e;rcases l1 _ a with f|f
  ·exact absurd (D.DI (i:=2) (j:=7) rfl f (by decide) (by decide)) (by decide)
  ·exact absurd f (RB D.nb.1)
 have C:kS eN eJ F (c.put jN (.cells fR 1 true false [b,.I 0,.I 0,.ef,R.vp,.I 0])) (t.s.cur++ys) b:=
  r.fm (λl a=>gL _ g λe=>D.nb.2 (e▸a)) (λl a=>gL _ g λe=>B l a e.symm) (jK _)
 refine⟨b,c,_,y,n.next,z,jK _,⟨hc.next,λl a=>a.elim (k l) (A l)⟩,?_⟩
 exact {
  fl:=λl a=>d l (D.fl l a)
  gu:=by rw[m 0 lu (by decide) (by decide) (by decide) rfl];exact D.gu
  gk:=by rw[m 1 iA (by decide) (by decide) (by decide) rfl];exact D.gk
  gb:=gq _ g
  ov:=D.ov.fm k (λl a=>m 3 l (by decide) (by decide) (by decide) a) hc.next
  ob:=D.ob.fm k (λl a=>m 4 l (by decide) (by decide) (by decide) a) hc.next
  os:=D.os.fm k (λl a=>m 5 l (by decide) (by decide) (by decide) a) hc.next
  ok:=D.ok.fm k (λl a=>m 6 l (by decide) (by decide) (by decide) a) hc.next
  oc:=C
  nu:=⟨d _ D.nu.1,D.nu.2⟩
  nk:=⟨d _ D.nk.1,D.nk.2⟩
  nb:=⟨d _ D.nb.1,D.nb.2⟩
  sp:=D.sp.fm k
  kc:=λl a hc=>(l1 l hc).elim (λf=>D.kc l a f) λe=>absurd e (RB (D.ok.wq a).2.1)
  gx:=λl a=>⟨d l (D.gx l a).1,(D.gx l a).2.1,λi hi=>by
   match i,hi with
   |0,hi=>exact(D.gx l a).2.2 0 hi
   |1,hi=>exact(D.gx l a).2.2 1 hi
   |2,hi=>exact(D.gx l a).2.2 2 hi
   |3,hi=>exact(D.gx l a).2.2 3 hi
   |4,hi=>exact(D.gx l a).2.2 4 hi
   |5,hi=>exact(D.gx l a).2.2 5 hi
   |6,hi=>exact(D.gx l a).2.2 6 hi
   |7,hi=>exact(l1 l hi).elim ((D.gx l a).2.2 7) λe=>absurd e (RB (D.gx l a).1)⟩ }
theorem Dw.cell(D:Dw F G h lu iA jN t R){i:Nat}(hi:i<8)(hc:mA (λl=>comp lu iA jN R i l) h h') :
  (∀l,F l->h'.get l=h.get l)/\(∀l,G l->h'.get l=h.get l)/\∀k l,k<8->k≠i->comp lu iA jN R k l->h'.get l=h.get l:=by
 obtain⟨c,d,e⟩:=D.kept hi hi (hc.U6 (S':=λl=>comp lu iA jN R i l\/comp lu iA jN R i l) λ_ _ h=> .inl h);exact⟨c,d,λk l a b=>e k l a b b⟩
theorem Dw.zec(D:Dw F G h lu iA jN t R){n:Nat}(g:n<=t.s.known.length) :
  ∃b e,jy 1 R.vk none (some (.I n)) h=some b/\gM 1 (.ptr iA 0) b h=some (.val .undef e)/\h.next<=e.next/\Kp F G h e/\Dw F G e lu iA jN {t with s:=Un.cut n t.s} {R with vk:=b}:=by
 obtain⟨b,j,f,l1⟩:=D.ok.cut g;have k:=oT (o:=0) (v:=b) (pD:=[b]) D.gk (by simp) f.one rfl;have hc:mA (λl=>comp lu iA jN R 1 l) h (h.put iA (.cells jb 1 true false [b])):=mA.put _ rfl D.nk.1;obtain⟨c,m,d⟩:=D.cell (by decide) hc;refine⟨b,_,j,k,jK _,⟨hc.next,λl a=>a.elim (c l) (m l)⟩,?_⟩
 exact {
  fl:=D.fl
  gu:=by rw[d 0 lu (by decide) (by decide) rfl];exact D.gu
  gk:=gq _ D.nk.1
  gb:=by rw[d 2 jN (by decide) (by decide) rfl];exact D.gb
  nu:=D.nu
  nk:=D.nk
  nb:=D.nb
  ov:=D.ov.fm c (λl a=>d 3 l (by decide) (by decide) a) hc.next
  ob:=D.ob.fm c (λl a=>d 4 l (by decide) (by decide) a) hc.next
  os:=D.os.fm c (λl a=>d 5 l (by decide) (by decide) a) hc.next
  ok:=f.fm c (λl a=>d 6 l (by decide) (by decide) (l1 l a)) hc.next
  oc:=D.oc.fm c (λl a=>d 7 l (by decide) (by decide) a) hc.next
  sp:=D.sp.fm c
  kc:=λl a=>D.kc l (l1 l a)
  gx:=λl a=>⟨(D.gx l a).1,(D.gx l a).2.1,λi hi=>by
   match i,hi with
   |0,hi=>exact(D.gx l a).2.2 0 hi
   |1,hi=>exact(D.gx l a).2.2 1 hi
   |2,hi=>exact(D.gx l a).2.2 2 hi
   |3,hi=>exact(D.gx l a).2.2 3 hi
   |4,hi=>exact(D.gx l a).2.2 4 hi
   |5,hi=>exact(D.gx l a).2.2 5 hi
   |6,hi=>exact(D.gx l a).2.2 6 (l1 l hi)
   |7,hi=>exact(D.gx l a).2.2 7 hi⟩ }
theorem Dw.zaf(D:Dw F G h lu iA jN t R){c p:V}{ps:List Nat}(hp:iq eN F h ps p):Kp F G h (h.put jN (.cells fR 1 true false [c,.I 0,.I 0,.ef,p,.I 0]))/\
  Dw F G (h.put jN (.cells fR 1 true false [c,.I 0,.I 0,.ef,p,.I 0])) lu iA jN {t with fh:=ps} {R with vp:=p,cc:=c}:=by
 have hc:mA (λl=>comp lu iA jN R 2 l) h (h.put jN (.cells fR 1 true false [c,.I 0,.I 0,.ef,p,.I 0])):=mA.put _ rfl D.nb.1;obtain⟨b,e,d⟩:=D.cell (by decide) hc;refine⟨⟨hc.next,λl a=>a.elim (b l) (e l)⟩,?_⟩
 exact {
  fl:=D.fl
  gu:=by rw[d 0 lu (by decide) (by decide) rfl];exact D.gu
  gk:=by rw[d 1 iA (by decide) (by decide) rfl];exact D.gk
  gb:=gq _ D.nb.1
  nu:=D.nu
  nk:=D.nk
  nb:=D.nb
  ov:=D.ov.fm b (λl a=>d 3 l (by decide) (by decide) a) hc.next
  ob:=D.ob.fm b (λl a=>d 4 l (by decide) (by decide) a) hc.next
  os:=D.os.fm b (λl a=>d 5 l (by decide) (by decide) a) hc.next
  ok:=D.ok.fm b (λl a=>d 6 l (by decide) (by decide) a) hc.next
  oc:=D.oc.fm b (λl a=>d 7 l (by decide) (by decide) a) hc.next
  sp:=hp.fm b
  kc:=D.kc
  gx:=D.gx}
def fzc(F:Nat->Prop)(v:V):Nat->Prop:=λl=>F l\/Loc v l
theorem Dw.flush(D:Dw F G h lu iA jN t R):iq eN (fzc F R.vc) h t.s.cur R.vc/\Dw (fzc F R.vc) G h lu iA jN {t with s:={t.s with cur:=[]} } {R with vc:= .ef}:=by
 refine⟨D.oc.ZS (λ_ h=> .inl h) λ_ h=> .inr h,?_⟩
 have D':Dw F G h lu iA jN {t with s:={t.s with cur:=[]} } {R with vc:= .ef}:=
  { D with
    oc:= .nil
    kc:=λ_ _ h=>h
    gx:=λl a=>⟨(D.gx l a).1,(D.gx l a).2.1,λi hi=>by
      match i,hi with
      |0,hi=>exact(D.gx l a).2.2 0 hi
      |1,hi=>exact(D.gx l a).2.2 1 hi
      |2,hi=>exact(D.gx l a).2.2 2 hi
      |3,hi=>exact(D.gx l a).2.2 3 hi
      |4,hi=>exact(D.gx l a).2.2 4 hi
      |5,hi=>exact(D.gx l a).2.2 5 hi
      |6,hi=>exact(D.gx l a).2.2 6 hi
      |n+7,hi=>exact(match n,hi with|0,hi=>hi)⟩ }
 refine D'.more (λ_ h=> .inl h) λl a=>a.imp id λhc=>⟨(D.oc.wq hc).2.1,λi hi=>?_,λb=>(D.gx l b).2.2 7 hc⟩
 match i,hi with
 |0,hi=>exact nomatch D.DI (i:=0) (j:=7) hi hc (by decide) (by decide)
 |1,hi=>exact nomatch D.DI (i:=1) (j:=7) hi hc (by decide) (by decide)
 |2,hi=>exact nomatch D.DI (i:=2) (j:=7) hi hc (by decide) (by decide)
 |3,hi=>exact nomatch D.DI (i:=3) (j:=7) hi hc (by decide) (by decide)
 |4,hi=>exact nomatch D.DI (i:=4) (j:=7) hi hc (by decide) (by decide)
 |5,hi=>exact nomatch D.DI (i:=5) (j:=7) hi hc (by decide) (by decide)
 |6,hi=>exact nomatch D.DI (i:=6) (j:=7) hi hc (by decide) (by decide)
 |n+7,hi=>exact(match n,hi with|0,hi=>hi)
theorem Dw.zbp(D:Dw F G h lu iA jN t R){p:Nat}{xs:List Nat}{a:V}(hp:p<t.s.eh.length)(j:iq eN F h xs a) :
  ∃l d,gJ 6 R.vv (.I p)=some (.ptr l (p*6))/\gM 1 (.ptr l (p*6+4)) a h=some (.val .undef d)/\h.next<=d.next/\Kp F G h d/\Dw F G d lu iA jN {t with s:=setArgs t.s p xs} R:=by
 obtain ⟨l,d,_,m,n,o,hc⟩:=D.ov.store (i:=p) (k:=4) (y:={t.s.eh[p]with args:=xs}) hp (by decide) j.one (λw ⟨x,q,_⟩=>by subst q;exact⟨a,rfl,j⟩);obtain⟨g,r,f⟩:=D.cell (i:=3) (by decide) hc;refine⟨l,d,m,n,hc.next,⟨hc.next,λl b=>b.elim (g l) (r l)⟩,?_⟩;have c:∀l,l<h.next->l<d.next:=λl b=>Cb b hc.next;have em:(setArgs t.s p xs).eh=t.s.eh.set p {t.s.eh[p]with args:=xs}:=by
  unfold setArgs;show t.s.eh.modify p _=_;refine wBk λi=>?_;rw[List.getElem?_modify,List.getElem?_set];by_cases e:p=i
  ·subst e;simp[hp]
  ·simp[e]
 exact {
  fl:=λl b=>c l (D.fl l b)
  gu:=by rw[f 0 lu (by decide) (by decide) rfl];exact D.gu
  gk:=by rw[f 1 iA (by decide) (by decide) rfl];exact D.gk
  gb:=by rw[f 2 jN (by decide) (by decide) rfl];exact D.gb
  nu:=⟨c _ D.nu.1,D.nu.2⟩
  nk:=⟨c _ D.nk.1,D.nk.2⟩
  nb:=⟨c _ D.nb.1,D.nb.2⟩
  ov:=by show kS eV hK F d (setArgs t.s p xs).eh R.vv;rw[em];exact o
  ob:=D.ob.fm g (λl b=>f 4 l (by decide) (by decide) b) hc.next
  os:=D.os.fm g (λl b=>f 5 l (by decide) (by decide) b) hc.next
  ok:=D.ok.fm g (λl b=>f 6 l (by decide) (by decide) b) hc.next
  oc:=D.oc.fm g (λl b=>f 7 l (by decide) (by decide) b) hc.next
  sp:=D.sp.fm g
  kc:=D.kc
  gx:=λl b=>⟨c l (D.gx l b).1,(D.gx l b).2⟩ }
end
