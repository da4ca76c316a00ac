/- Parts. -/
import Derived.Test.YtcoaokdoecgcbaaGreatDoorM09
import Derived.Test.YtcoaokdoecgcbaaGreatDoorM13
set_option maxHeartbeats 4000000
namespace Go.Proofs.YtcoaokdoecgcbaaGreatDoor.Hx
open Un
variable{e l sz:Nat}{α:Type}{u z:V}
def eN:ue Nat where
 sz:=1
 rel _ _ n cs:=cs=[.int .i64 n]
 len h:=by subst h;rfl
 one h:=by subst h;rfl
 fm _ h:=h
 mono _ h:=h
def ym(x:Vl)(w:V):List V:=[.int .i64 x.op,.int .i64 x.a,.int .i64 x.b,.int .i64 x.n,w,.int .i64 x.state]
def eV:ue Vl where
 sz:=6
 rel F h x cs:=∃w,cs=ym x w/\iD eN F h x.args w
 len:=λ⟨_,h,_⟩=>by subst h;rfl
 one:=λ⟨_,h,hs⟩=>by subst h;simp only[ym,fh,hs.one];rfl
 fm:=λa ⟨w,h,hs⟩=>⟨w,h,hs.fm a⟩
 mono:=λb ⟨w,h,hs⟩=>⟨w,h,hs.mono b⟩
def pY(x:Bk)(v n p:V):List V:=[v,.int .i64 x.fin,.int .i64 x.cond,n,p,.int .i64 x.state]
def eK:ue Bk where
 sz:=6
 rel F h x cs:=∃v n p,cs=pY x v n p/\iD eN F h x.ee v/\iD eN F h x.next n/\iD eN F h x.fj p
 len:=λ⟨_,_,_,h,_⟩=>by subst h;rfl
 one:=λ⟨_,_,_,h,a,b,c⟩=>by subst h;simp only[pY,fh,a.one,b.one,c.one];rfl
 fm:=λd ⟨v,n,p,h,a,b,c⟩=>⟨v,n,p,h,a.fm d,b.fm d,c.fm d⟩
 mono:=λe ⟨v,n,p,h,a,b,c⟩=>⟨v,n,p,h,a.mono e,b.mono e,c.mono e⟩
def fmC(x:Fm)(l s:V):List V:=[.int .i64 x.func,.int .i64 x.pc,l,s]
def eF:ue Fm where
 sz:=4
 rel F h x cs:=∃l s,cs=fmC x l s/\iD eN F h x.locals l/\iD eN F h x.stack s
 len:=λ⟨_,_,h,_⟩=>by subst h;rfl
 one:=λ⟨_,_,h,a,b⟩=>by subst h;simp only[fmC,fh,a.one,b.one];rfl
 fm:=λc ⟨l,s,h,a,b⟩=>⟨l,s,h,a.fm c,b.fm c⟩
 mono:=λd ⟨l,s,h,a,b⟩=>⟨l,s,h,a.mono d,b.mono d⟩
def eT:ue (List Fm):=eL eF
theorem AV(F:Nat->Prop)(h:Hp):∀(l:List Nat),rF eN F h (l.map λn=>V.int .i64 (n:Nat)) l
 |[]=>trivial
 |n::l=>⟨[.int .i64 n],_,rfl,rfl,AV F h l⟩
def Loc(v:V)(t:Nat):Prop:=match v with
 | .slice l _ _=>l=t
 |_=>False
@[simp] theorem zgr (t:Nat):Loc .ed t=False:=rfl
@[simp] theorem zfn (l o n t:Nat):Loc (.slice l o n) t=(l=t):=rfl
def lN(E:ue α)(ty:Nat)(F:Nat->Prop)(h:Hp)(xs:List α)(v:V):Prop:=(v = .ed/\xs=[])\/∃t cs,v = .slice t 0 xs.length/\t<h.next/\¬F t/\h.get t=some (.cells ty E.sz true false cs)/\rF E F h cs xs/\gj cs=true
section
variable{α:Type}{E:ue α}{ty:Nat}{F F':Nat->Prop}{h h':Hp}{xs:List α}{v:V}
theorem lN.nil:lN E ty F h [] .ed:= .inl ⟨rfl,rfl⟩
theorem lN.len(a:lN E ty F h xs v):fM v=some (.int .i64 xs.length):=by
 rcases a with⟨rfl,rfl⟩|⟨t,cs,rfl,_⟩ <;> rfl
theorem lN.one(a:lN E ty F h xs v):v.one=true:=by
 rcases a with⟨rfl,rfl⟩|⟨t,cs,rfl,_⟩ <;> rfl
noncomputable def zdN(h:Hp) (l:Nat):Option (Nat×Nat):=match h.get l with
 |some (.cells e sz _ _ _)=>some (e,sz)
 |_=>none
theorem LJ{a b:Bool}{cs:List V}(c:h.get l=some (.cells e sz a b cs)):zdN h l=some (e,sz):=by unfold zdN;rw[c]
theorem lN.y6(b:lN E ty F h xs v){t:Nat}(a:Loc v t):zdN h t=some (ty,E.sz)/\t<h.next/\¬F t:=by
 rcases b with⟨rfl,_⟩|⟨t',cs,rfl,c,d,e,_⟩
 ·exact a.elim
 ·obtain rfl:t' = t:=a;exact⟨LJ e,c,d⟩
theorem lN.fm(a:lN E ty F h xs v)(b:∀l,F l->h'.get l=h.get l)(hl:∀l,Loc v l->h'.get l=h.get l)(c:h.next<=h'.next):lN E ty F h' xs v:=by
 rcases a with a|⟨t,cs,rfl,d,e,f,g,i⟩
 ·exact .inl a
 ·exact .inr ⟨t,cs,rfl,EP d c,e,by rw[hl t rfl];exact f,g.fm b,i⟩
theorem lN.mono(a:lN E ty F h xs v)(b:∀l,F l->F' l)(c:∀t,Loc v t->¬F' t):lN E ty F' h xs v:=by
 rcases a with a|⟨t,cs,rfl,d,i,e,f,g⟩
 ·exact .inl a
 ·exact .inr ⟨t,cs,rfl,d,c t rfl,e,f.mono b,g⟩
theorem lN.slR(a:lN E ty F h xs v)(b:∀l,F l->F' l)(c:∀t,Loc v t->F' t):iD E F' h xs v:=by
 rcases a with a|⟨t,cs,rfl,f,g,d,e,i⟩
 ·exact .inl a
 ·exact .inr ⟨t,0,ty,true,false,cs,rfl,c t rfl,d,.inr rfl,L9 _,by simpa using e.mono b⟩
theorem lN.read(a:lN E ty F h xs v):iD E (λl=>F l\/Loc v l) h xs v:=a.slR (λ_ h=> .inl h) λ_ h=> .inr h
theorem lN.append{jh:Nat}{x:V}{new:List V}{ys:List α}(B:lN E ty F h xs v)(c:lT h E.sz x=some (ys.length,new))(p:rF E F h new ys)(hl:new.length=ys.length*E.sz)(i:gj new=true)(G:0<ys.length)(H:0<E.sz)
  (o:∀l,F l->l<h.next) (y:(xs.length+ys.length)*jh<=70368744177664) (m:xs.length+ys.length<=70368744177664) :
  ∃q h',fg ty E.sz jh v x h=some (.val q h')/\lN E ty F h' (xs++ys) q/\mr (Loc v) h h'/\(∀t,Loc q t->Loc v t\/t=h.next):=by
 have f:Nat.beq ys.length 0=false:=by
  cases hq:ys.length with
  |zero=>omega
  |succ k=>rfl
 rcases B with⟨rfl,rfl⟩|⟨t,cs,rfl,j,r,z,s,g⟩
 ·refine⟨.slice h.next 0 ys.length,h.new (.cells ty E.sz true false new),?_,.inr ⟨h.next,new,by simp,Rz _,λb=>wBy _ (o _ b),eQ _ _,?_,i⟩,mr.new _ _,λt C=> .inr C.symm⟩
  ·unfold fg;simp only[c,fe,f,i,KP];rw[zK _ (ZP (by simpa using y)),zK _ (ZP (by simpa using m))]
  ·exact p.fm λl b=>eE _ (o l b)
 ·have D:=s.length;have A:(xs.length+ys.length)*E.sz=xs.length*E.sz+ys.length*E.sz:=YH _ _ _
  cases hroom:Nat.ble (Nat.add 0 (Nat.mul (Nat.add xs.length ys.length) E.sz)) cs.length with
  | true=>
    have I:(xs.length+ys.length)*E.sz<=cs.length:=by
      have:=ND hroom;show _<=_;rw[show Nat.add 0 (Nat.mul (Nat.add xs.length ys.length) E.sz)=(xs.length+ys.length)*E.sz from Gg _]at this;exact this
    refine ⟨.slice t 0 (xs.length+ys.length),h.put t (.cells ty E.sz true false (cs.take (xs.length*E.sz)++new++cs.drop (xs.length*E.sz+new.length))),?_,
      .inr ⟨t,_,by simp,j,r,fY _ j,?_,?_⟩,mr.put _ rfl j,λ_ h=> .inl h⟩
    ·unfold fg lj
     have u:ta (Nat.add 0 (Nat.mul xs.length E.sz)) cs new=some (cs.take (xs.length*E.sz)++new++cs.drop (xs.length*E.sz+new.length)):=by
       rw[show Nat.add 0 (Nat.mul xs.length E.sz)=xs.length*E.sz from Gg _];exact Db (by rw[hl];omega)
     simp only[c,fe,f,i,KP,z,Bool.not_false,hroom,u];rw[zK _ (wBk _)];rfl
    ·refine rF.fm (h:=h) (λl b=>gq _ j λe=>r (e▸b)) ?_
     rw[Bo];exact s.take.append (by rw[Sr];omega) p.more
    ·rw[qP,qP,i]
     have e1:∀(l:List V),gj l=l.all V.one:=λl=>by
       induction l with
       |nil=>rfl
       |cons a l w=>rw[fh,w];rfl
     rw[e1]at g⊢;rw[e1];rw[Rh]at g;simp only[Bool.and_true,xB,Rh]
     exact⟨λx c=>g x (wBs c),λx c=>g x (List.mem_of_mem_drop c)⟩
  | false=>
    have e1:∀(l:List V),gj l=l.all V.one:=λl=>by
      induction l with
      |nil=>rfl
      |cons a l w=>rw[fh,w];rfl
    have d:gj (cs.take (xs.length*E.sz))=true:=by
      rw[e1]at g⊢;rw[Rh]at g⊢;exact λx c=>g x (wBs c)
    refine ⟨.slice h.next 0 (xs.length+ys.length),(h.put t (.cells ty E.sz false false cs)).new (.cells ty E.sz true false (cs.take (xs.length*E.sz)++new)),?_,
      .inr ⟨h.next,_,by simp,Rz _,λb=>wBy _ (o _ b),eQ (h.put t _) _,?_,by rw[qP,d,i];rfl⟩,
      (mr.put (S:=Loc (.slice t 0 xs.length)) (.cells ty E.sz false false cs) rfl j).trans (mr.new _ _),λ_ h=> .inr h.symm⟩
    ·unfold fg lj
     have n:sub cs 0 (Nat.mul xs.length E.sz)=some (cs.take (xs.length*E.sz)):=by
       show sub cs 0 (xs.length*E.sz)=_;rw[HP (show 0+xs.length*E.sz<=cs.length by omega),wBU]
     simp only[c,fe,f,i,KP,z,Bool.not_false,hroom,n,d];rw[zK _ (wBk _),zK _ (show Nat.ble (Nat.mul (Nat.add xs.length ys.length) jh) 70368744177664=true from ZP y),zK _ (show Nat.ble (Nat.add xs.length ys.length) 70368744177664=true from ZP m)];rfl
    ·refine rF.fm (h:=h) (λl b=>?_) ?_
     ·rw[eE _ (show l<(h.put t _).next from o l b),gq _ j λe=>r (e▸b)]
     ·exact s.take.append (by rw[Sr];omega) p
theorem lN.cut(d:lN E ty F h xs v){n:Nat}(a:n<=xs.length):∃b,jE E.sz v none (some (.int .i64 n)) h=some b/\lN E ty F h (xs.take n) b/\∀t,Loc b t->Loc v t:=by
 rcases d with⟨rfl,rfl⟩|⟨t,cs,rfl,e,f,c,g,i⟩
 ·obtain rfl:n=0:=by simpa using a
  exact⟨.ed,rfl,.inl ⟨rfl,rfl⟩,λ_ h=>h⟩
 ·refine⟨.slice t 0 n,?_,.inr ⟨t,cs,by rw[Sr,wBV a],e,f,c,g.taken n,i⟩,λ_ h=>h⟩;unfold jE lj;simp only[c,fe,NL,RG];rw[zK _ (wBk _),zK _ (ZP (L9 _)),zK _ (by rw[ZP a];rfl)];simp
theorem lN.store(n:lN E ty F h xs v){i k:Nat}{y:α}{u:V}(hi:i<xs.length)(B:k<E.sz)(f:u.one=true)(o:∀w,E.rel F h xs[i] w->E.rel F h y (w.set k u)) :
  ∃t h',Loc v t/\gQ E.sz v (.int .i64 i)=some (.ptr t (i*E.sz))/\gw 1 (.ptr t (i*E.sz+k)) u h=some (.val .undef h')/\lN E ty F h' (xs.set i y) v/\mr (Loc v) h h':=by
 rcases n with⟨rfl,rfl⟩|⟨t,cs,rfl,c,g,p,j,d⟩
 ·simp at hi
 ·obtain ⟨w,q,C,m⟩:=j.get (i:=i) (x:=xs[i]) (hN hi);have b:cs.set (i*E.sz+k) u=cs.take (i*E.sz)++w.set k u++cs.drop (i*E.sz+E.sz):=by
   have e0:cs=cs.take (i*E.sz)++(w++cs.drop (i*E.sz+E.sz)):=by
    rw[<-q]
    conv=>lhs;rw[<-wA0 (i*E.sz) cs]
    congr 1;rw[<-wBl,wA0]
   have D:=E.len m
   conv=>lhs;rw[e0]
   rw[List.set_append_right _ _ (by rw[Sr];omega),Sr,wBV (by omega),wBQ,List.set_append_left _ _ (by omega),Bo]
  refine⟨t,h.put t (.cells ty E.sz true false (cs.set (i*E.sz+k) u)),rfl,by rw[vG _ _ _ _ _ _ hi,Gg],OS p (by omega) f,.inr ⟨t,_,by simp,c,g,fY _ c,?_,?_⟩,mr.put _ rfl c⟩
  ·refine rF.fm (h:=h) (λl r=>gq _ c λe=>g (e▸r)) ?_;rw[b];exact j.set hi (o w m)
  ·have e1:∀(l:List V),gj l=l.all V.one:=λl=>by
    induction l with
    |nil=>rfl
    |cons a l s=>rw[fh,s];rfl
   rw[e1]at d⊢;rw[Rh]at d⊢;intro x z;rcases wBJ z with A|rfl
   ·exact d x A
   ·exact f
abbrev fJ:Nat:=3
abbrev hY:Nat:=4
abbrev jX:Nat:=22
abbrev wL:Nat:=34
abbrev Bg:Nat:=81
abbrev tg:Nat:=79
abbrev Oj:Nat:=88
abbrev Vb:Nat:=24
abbrev BJ:Nat:=157
abbrev iq:Nat:=130
abbrev mF:Nat:=154
abbrev zgK:Nat:=164
abbrev zbb:Nat:=162
abbrev y0:Nat:=37
abbrev zgc:Nat:=132
structure Pc where
 pQ:Nat->Prop
 ok:(Nat->Prop)->Hp->Prop
 Iq:∀{F:Nat->Prop} {h:Hp},ok F h->∀l,pQ l->l<h.next/\¬F l
 fm:∀{F:Nat->Prop} {h h':Hp},ok F h->(∀l,F l->h'.get l=h.get l)->(∀l,pQ l->h'.get l=h.get l)->h.next<=h'.next->ok F h'
 mono:∀{F F':Nat->Prop} {h:Hp},ok F h->(∀l,F l->F' l)->(∀l,pQ l->¬F' l)->ok F' h
def emp:Pc:=⟨λ_=>False,λ_ _=>True,by simp_all,by simp_all,by simp_all⟩
def fi(l ty:Nat)(vs:List V):Pc where
 pQ:=λm=>m=l
 ok F h:=h.get l=some (.cells ty 1 true false vs)/\l<h.next/\¬F l
 Iq:=by simp_all
 fm:=by grind
 mono:=by simp_all
def fu(E:ue α)(ty:Nat)(xs:List α)(v:V):Pc where
 pQ:=Loc v
 ok F h:=lN E ty F h xs v
 Iq:=λh _ hl=>(h.y6 hl).2
 fm:=by grind[lN.fm]
 mono:=by grind[lN.mono]
structure Sn (F:Nat->Prop) (h:Hp) (F':Nat->Prop) (h':Hp):Prop where
 next:h.next<=h'.next
 fm:∀l,F l->h'.get l=h.get l
 mono:∀l,F l->F' l
theorem Sn.refl(F:Nat->Prop)(h:Hp):Sn F h F h:=⟨jj _,by simp_all,λ_ h=>h⟩
theorem Sn.trans{F F' c:Nat->Prop} {h h' d:Hp}(a:Sn F h F' h')(b:Sn F' h' c d):Sn F h c d:=
 ⟨MT a.next b.next,λl hl=>(b.fm l (a.mono l hl)).trans (a.fm l hl),λl hl=>b.mono l (a.mono l hl)⟩
structure ej (F:Nat->Prop) (h:Hp) (cs:List Pc):Prop where
 fl:∀l,F l->l<h.next
 ok:∀(i:Nat) c,cs[i]? =some c->c.ok F h
 K5:∀(i j:Nat) c d,cs[i]? =some c->cs[j]? =some d->i≠j->∀l,c.pQ l->¬d.pQ l
end
section
variable{F F':Nat->Prop}{h h':Hp}{cs:List Pc}{i j:Nat}{c d p:Pc}
theorem MR{cs:List Pc}{i:Nat}{p:Pc}{j:Nat}{d:Pc}(hd:(cs.set i p)[j]? =some d):(j=i/\d=p)\/(j≠i/\cs[j]? =some d):=by
 grind
theorem ej.nil(a:∀l,F l->l<h.next):ej F h []:=⟨a,by simp_all,by simp_all⟩
theorem ej.cons(H:ej F h cs)(b:p.ok F h)(hp:∀(i:Nat) c,cs[i]? =some c->∀l,p.pQ l->¬c.pQ l):ej F h (p::cs) where
 fl:=H.fl
 ok:=λi c hc=>by
  cases i with
  |zero=>simp_all
  |succ i=>exact H.ok i c hc
 K5:=λi j c d hc hd e l hl a=>by
  cases i with
  | zero=>
    grind
  | succ i=>
    cases j with
    |zero=>grind
    |succ j=>exact H.K5 i j c d hc hd (by omega) l hl a
theorem ej.tail(H:ej F h (p::cs)):ej F h cs where
 fl:=H.fl
 ok:=λi c hc=>H.ok (i+1) c hc
 K5:=λi j c d hc hd a=>H.K5 (i+1) (j+1) c d hc hd (by omega)
theorem ej.add(H:ej F h cs)(a:p.ok F h)(hp:∀l,¬p.pQ l):ej F h (p::cs):=H.cons a (by simp_all)
theorem ej.swap(H:ej F h cs)(hi:cs[i]? =some c)(o:p.ok F h)(hp:∀l,p.pQ l->c.pQ l):ej F h (cs.set i p) where
 fl:=H.fl
 ok:=λj d hd=>by
  rcases MR hd with⟨_,rfl⟩|⟨_,f⟩
  ·exact o
  ·exact H.ok j d f
 K5:=λj k a b q m g l hl e=>by
  rcases MR q with⟨e1,rfl⟩|⟨e1,n⟩
  ·rcases MR m with⟨e2,_⟩|⟨_,f⟩
   ·omega
   ·subst e1;exact H.K5 j k c b hi f g l (hp l hl) e
  ·rcases MR m with⟨e2,rfl⟩|⟨_,f⟩
   ·subst e2;exact H.K5 j k a c n hi g l hl (hp l e)
   ·exact H.K5 j k a b n f g l hl e
theorem ej.forget(H:ej F h cs)(hi:cs[i]? =some c):ej F h (cs.set i emp):=H.swap hi trivial λ_ h=>h.elim
theorem ej.zdg(H:ej F h cs)(hi:cs[i]? =some c)(hc:mr c.pQ h h')(q:∀l,F l->F' l)(m:∀l,F' l->F l\/c.pQ l\/(h.next<=l/\l<h'.next))(w:p.ok F' h')(hp:∀l,p.pQ l->c.pQ l\/h.next<=l):ej F' h' (cs.set i p)/\Sn F h F' h':=by
 have n:=H.ok i c hi;have r:=λl hl=>hc.fm l (H.fl l hl) λhs=>(c.Iq n l hs).2 hl;have other:∀j d,j≠i->cs[j]? =some d->d.ok F' h'/\∀l,d.pQ l->¬p.pQ l:=λj d s hd=>by
  have g:=H.ok j d hd;have o:=H.K5 j i d c hd hi s;refine⟨d.mono (d.fm g r (λl hl=>hc.fm l (d.Iq g l hl).1 (o l hl)) hc.next) q λl hl e=>?_,λl hl e=>?_⟩
  ·rcases m l e with f|f|f
   ·exact(d.Iq g l hl).2 f
   ·simp_all
   ·have:=(d.Iq g l hl).1;omega
  ·rcases hp l e with f|f
   ·simp_all
   ·have:=(d.Iq g l hl).1;omega
 refine⟨⟨λl hl=>?_,λj d hd=>?_,λj k a b t u v l hl e=>?_⟩,⟨hc.next,r,q⟩⟩
 ·rcases m l hl with f|f|f
  ·exact EP (H.fl l f) hc.next
  ·exact EP (c.Iq n l f).1 hc.next
  omega
 ·grind
 ·rcases MR t with⟨e1,rfl⟩|⟨e1,g⟩
  ·grind
  ·rcases MR u with⟨e2,rfl⟩|⟨_,o⟩
   ·grind
   ·exact H.K5 j k a b g o v l hl e
theorem ej.BV(H:ej F h cs)(hi:cs[i]? =some c)(hc:mr c.pQ h h')(a:p.ok F h')(hp:∀l,p.pQ l->c.pQ l\/h.next<=l):ej F h' (cs.set i p)/\Sn F h F h':=
 H.zdg hi hc (by simp_all) (by simp_all) a hp
theorem ej.grow(H:ej F h cs)(a:JG h h'):ej F h' cs/\Sn F h F h':=by
 have b:=λl hl=>a.fm l (H.fl l hl) id;exact⟨⟨λl hl=>EP (H.fl l hl) a.next,λj d hd=>d.fm (H.ok j d hd) b (λl hl=>a.fm l (d.Iq (H.ok j d hd) l hl).1 id) a.next,H.K5⟩,⟨a.next,b,λ_ h=>h⟩⟩
theorem ej.new(H:ej F h cs)(o:O)(b:p.ok F (h.new o))(hp:∀l,p.pQ l->l=h.next):ej F (h.new o) (p::cs)/\Sn F h F (h.new o):=by
 let⟨c,e⟩:=H.grow (mr.new h o)
 refine⟨c.cons b λj d hd l hl a=>?_,e⟩;have:=(d.Iq (H.ok j d hd) l a).1
 grind
theorem ej.fresh(H:ej F h cs):¬F h.next:=λa=>wBy _ (H.fl _ a)
theorem ej.Dy(H:ej F h cs)(ty:Nat)(vs:List V):ej F (h.new (.cells ty 1 true false vs)) (fi h.next ty vs::cs)/\Sn F h F (h.new (.cells ty 1 true false vs)):=
 H.new _ ⟨eQ _ _,Rz _,H.fresh⟩ λ_ e=>e
theorem ej.SM(H:ej F h cs){α:Type}{E:ue α}(ty:Nat){xs:List α}{ws:List V}{n:Nat}(a:n=xs.length)(b:rF E F h ws xs)(c:gj ws=true) :
  ej F (h.new (.cells ty E.sz true false ws)) (fu E ty xs (.slice h.next 0 n)::cs)/\Sn F h F (h.new (.cells ty E.sz true false ws)):=by
 subst a;exact H.new _ (.inr ⟨h.next,ws,rfl,Rz _,H.fresh,eQ _ _,b.fm λl hl=>eE _ (H.fl l hl),c⟩) λ_ e=>e.symm
theorem ej.zdy(H:ej F h cs){α:Type}{E:ue α}(ty:Nat){xs:List α}{ws:List V}{n:Nat}(c:n=xs.length)(e:rF E F h ws xs)(ro:Bool) :
  ej (λl=>F l\/l=h.next) (h.new (.cells ty E.sz true ro ws)) cs/\Sn F h (λl=>F l\/l=h.next) (h.new (.cells ty E.sz true ro ws))/\iD E (λl=>F l\/l=h.next) (h.new (.cells ty E.sz true ro ws)) xs (.slice h.next 0 n):=by
 subst c
 let⟨a,b⟩:=H.grow (mr.new h (.cells ty E.sz true ro ws))
 refine⟨⟨λl hl=>?_,λj d hd=>d.mono (a.ok j d hd) (by simp_all) λl hl f=>?_,a.K5⟩,⟨b.next,b.fm,by simp_all⟩,?_⟩
 ·rcases hl with hl|rfl
  ·exact a.fl l hl
  simp_all
 ·have g:=d.Iq (H.ok j d hd) l hl
  simp_all
 ·exact .inr ⟨h.next,0,ty,true,ro,ws,rfl,.inr rfl,eQ _ _,.inr rfl,L9 _,by rw[wBU];exact(e.fm λl hl=>eE _ (H.fl l hl)).mono (by simp_all)⟩
theorem ej.get(H:ej F h cs)(i:Nat){l ty:Nat}{vs:List V}(hi:cs[i]? =some (fi l ty vs)):h.get l=some (.cells ty 1 true false vs):=(H.ok i _ hi).1
theorem ej.ld(H:ej F h cs)(i:Nat){l ty o:Nat}{vs:List V}{u:V}(hi:cs[i]? =some (fi l ty vs))(a:vs[o]? =some u):eD (.ptr l o) h=some u:=kH (H.get i hi) a
theorem ej.xk(H:ej F h cs)(i:Nat){l ty n:Nat}{vs:List V}(hi:cs[i]? =some (fi l ty vs))(a:vs.length=n):gi n (.ptr l 0) h=some (.agg vs):=A6 (H.get i hi) a
theorem ej.st(H:ej F h cs)(i:Nat){l ty o:Nat}{vs:List V}{u:V}(hi:cs[i]? =some (fi l ty vs))(b:o<vs.length)(c:u.one=true) :
  ∃h',gw 1 (.ptr l o) u h=some (.val .undef h')/\h.next<=h'.next/\ej F h' (cs.set i (fi l ty (vs.set o u)))/\Sn F h F h':=by
 have a:=H.ok i _ hi;refine⟨_,OS a.1 b c,jj _,H.BV hi (mr.put _ rfl a.2.1) ⟨fY _ a.2.1,a.2.1,a.2.2⟩ λ_ h=> .inl h⟩
theorem ej.stk(H:ej F h cs)(i:Nat){l ty o:Nat}{vs:List V}{u:V}(hi:cs[i]? =some (fi l ty vs))(b:o<vs.length)(c:u.one=true) :
  ∃h',gw 1 (.ptr l o) u h=some (.val .undef h')/\h.next<=h'.next/\ej F h' (cs.set i (fi l ty (vs.set o u)))/\Sn F h F h'/\∀m,m≠l->h'.get m=h.get m:=by
 have a:=H.ok i _ hi
 let⟨d,e⟩:=H.BV (p:=fi l ty (vs.set o u)) hi (mr.put _ rfl a.2.1) ⟨fY _ a.2.1,a.2.1,a.2.2⟩ λ_ h=> .inl h
 exact⟨_,OS a.1 b c,jj _,d,e,λm f=>gq _ a.2.1 (by omega)⟩
theorem ej.Wh(H:ej F h cs)(i:Nat){l ty n:Nat}{vs ws:List V}(hi:cs[i]? =some (fi l ty vs))(b:ws.length=n)(hv:vs.length=n)(c:gj ws=true) :
  ∃h',gw n (.ptr l 0) (.agg ws) h=some (.val .undef h')/\h.next<=h'.next/\ej F h' (cs.set i (fi l ty ws))/\Sn F h F h':=by
 have a:=H.ok i _ hi;refine⟨_,Iy a.1 b hv c,jj _,H.BV hi (mr.put _ rfl a.2.1) ⟨fY _ a.2.1,a.2.1,a.2.2⟩ λ_ h=> .inl h⟩
theorem ej.Sd(H:ej F h cs)(i:Nat){l ty:Nat}{vs:List V}(hi:cs[i]? =some (fi l ty vs)):ej (λm=>F m\/m=l) h (cs.set i emp)/\Sn F h (λm=>F m\/m=l) h:=
 H.zdg hi (mr.refl _ _) (by simp_all) (λ_ h=>h.imp id .inl) trivial λ_ h=>h.elim
section
variable{α:Type}{E:ue α}{ty:Nat}{xs:List α}{v:V}
theorem ej.row(H:ej F h cs)(i:Nat)(hi:cs[i]? =some (fu E ty xs v)):lN E ty F h xs v:=H.ok i _ hi
theorem ej.len(H:ej F h cs)(i:Nat)(hi:cs[i]? =some (fu E ty xs v)):fM v=some (.int .i64 xs.length):=(H.row i hi).len
theorem ej.one(H:ej F h cs)(i:Nat)(hi:cs[i]? =some (fu E ty xs v)):v.one=true:=(H.row i hi).one
theorem ej.ix(H:ej F h cs)(i:Nat)(hi:cs[i]? =some (fu E ty xs v)){k:Nat}(b:k<xs.length)(a:IntKind) :
  ∃l o w,gQ E.sz v (.int a k)=some (.ptr l o)/\gi E.sz (.ptr l o) h=some (.agg w)/\E.rel (λl=>F l\/Loc v l) h xs[k] w/\∀j u,w[j]? =some u->eD (.ptr l (o+j)) h=some u:=by
 let⟨l,o,w,_,c,d,e,f⟩:=(H.row i hi).read.ix b a
 grind
theorem ej.Yk(H:ej F h cs)(i:Nat)(hi:cs[i]? =some (fu E ty xs v)){k:Nat}(b:k<xs.length)(a:IntKind)(c:E.sz=1) :
  ∃l o u,gQ 1 v (.int a k)=some (.ptr l o)/\eD (.ptr l o) h=some u/\E.rel (λl=>F l\/Loc v l) h xs[k] [u]:=by
 let⟨l,o,u,_,d,e,f⟩:=(H.row i hi).read.Yk b a c
 grind
theorem ej.Mb(H:ej F h cs)(i:Nat)(hi:cs[i]? =some (fu E ty xs v)){k:Nat}(e:k<xs.length)(a:E.sz=1){y:α}{u:V}(f:u.one=true)(g:E.rel F h y [u]) :
  ∃l o h',gQ 1 v (.int .i64 k)=some (.ptr l o)/\gw 1 (.ptr l o) u h=some (.val .undef h')/\h.next<=h'.next/\ej F h' (cs.set i (fu E ty (xs.set k y) v))/\Sn F h F h':=by
 let ⟨t,h',n,b,c,j,d⟩:=(H.row i hi).store (k:=0) (y:=y) e (by omega) f (λw m=>by
  have hl:=E.len m;rw[a]at hl
  match w,hl with
  |[x],_=>exact g)
 rw[a]at b c;exact⟨t,k*1,h',b,c,d.next,H.BV hi d j λ_ h=> .inl h⟩
end
end
section
variable{F F':Nat->Prop}{h h':Hp}{cs:List Pc}{α:Type}{E:ue α}{ty:Nat}{xs ys:List α}{v x:V}
theorem rF.one:∀{xs:List α}{ws:List V},rF E F h ws xs->ws.length=xs.length*E.sz->gj ws=true
 | [],ws,_,hl=>by
   simp_all
 | y::xs,ws,⟨w,r,b,a,c⟩,hl=>by
   subst b;have d:=E.len a;rw[qP,E.one a,rF.one c (by grind)];rfl
theorem rF.rep{y:α}(a:E.rel F h y [u]):∀n,rF E F h (List.replicate n u) (List.replicate n y)
 |0=>trivial
 |n+1=>⟨[u],_,rfl,a,rF.rep a n⟩
theorem KD(a:u.one=true):∀n,gj (List.replicate n u)=true
 |0=>rfl
 |n+1=>by rw[List.replicate_succ,fh,a,KD a n];rfl
theorem ER{off n NM:Nat}{ro:Bool}{ds:List V}(a:h.get l=some (.cells NM sz true ro ds))(hl:off+n*sz<=ds.length):∃new,lT h sz (.slice l off n)=some (n,new)/\new=(ds.drop off).take (n*sz):=by
 cases n with
 |zero=>exact⟨_,rfl,by simp⟩
 | succ n=>
   refine⟨_,?_,rfl⟩;unfold lT LW lj;have:=HP hl
   simp_all
theorem iD.xc(hs:iD E F h ys x):∃new,lT h E.sz x=some (ys.length,new)/\rF E F h new ys/\new.length=ys.length*E.sz:=by
 rcases hs with⟨rfl,rfl⟩|⟨l,off,NM,live,ro,ds,rfl,e,b,c,f,a⟩
 ·exact⟨[],rfl,trivial,by simp⟩
 ·have d:=a.length;rw[wBo]at d;rcases c with rfl|rfl
  ·exact⟨[],rfl,trivial,by simp⟩
  ·let⟨new,e1,e2⟩:=ER (n:=ys.length) (off:=off) b (by omega)
   exact⟨new,e1,by rw[e2];exact a.take,by simp_all⟩
theorem lN.xc(hs:lN E ty F h ys x):∃new,lT h E.sz x=some (ys.length,new)/\rF E F h new ys/\new.length=ys.length*E.sz:=by
 rcases hs with⟨rfl,rfl⟩|⟨t,ds,rfl,c,d,b,a,e⟩
 ·exact⟨[],rfl,trivial,by simp⟩
 ·have f:=a.length
  let⟨new,e1,e2⟩:=ER (n:=ys.length) (off:=0) b (by omega)
  refine⟨new,e1,by rw[e2,wBU];exact a.take,by simp_all⟩
theorem XM{w:V}(a:z.one=true)(b:w.one=true):iW e 1 1 z [(0,w)]=some (.cells e 1 true false [w],λl=> .slice l 0 1):=by
 unfold iW;simp only[xz,fe,th a,th b];rw[zK _ (by rfl)];show oB (oB (some [w]) λcs=>some cs) _=_
 simp_all
theorem Ej:iW e sz 0 z []=some (.cells e sz true false [],λl=> .slice l 0 0):=rfl
theorem ej.app(H:ej F h cs)(i:Nat)(hi:cs[i]? =some (fu E ty xs v)){jh:Nat}{new:List V}(d:lT h E.sz x=some (ys.length,new))(e:rF E F h new ys)(hl:new.length=ys.length*E.sz)
  (g:0<E.sz) (j:jh<=1000) (b:xs.length+ys.length<=10000000) :
  ∃a h',fg ty E.sz jh v x h=some (.val a h')/\h.next<=h'.next/\ej F h' (cs.set i (fu E ty (xs++ys) a))/\Sn F h F h':=by
 have c:=H.row i hi;by_cases hk:0<ys.length
 ·have k:=Nat.mul_le_mul b j
  let⟨a,h',e1,m,f,n⟩:=c.append (jh:=jh) d e hl (e.one hl) hk g H.fl (by omega) (by omega)
  let⟨o,q⟩:=H.BV (p:=fu E ty (xs++ys) a) hi f m λl hl=>(n l hl).imp id (by omega)
  exact⟨a,h',e1,f.next,o,q⟩
 ·have e0:ys=[]:=by simp_all
  subst e0;refine⟨v,h,?_,jj _,by rw[GA];exact H.swap hi c λ_ h=>h,Sn.refl _ _⟩;unfold fg;rw[d];rcases c with⟨rfl,_⟩|⟨t,ds,rfl,_⟩ <;> rfl
theorem ej.V2(H:ej F h cs)(i:Nat)(hi:cs[i]? =some (fu E ty xs v)){jh:Nat}(hs:iD E F h ys x)(c:0<E.sz)(d:jh<=1000)(a:xs.length+ys.length<=10000000) :
  ∃b h',fg ty E.sz jh v x h=some (.val b h')/\h.next<=h'.next/\ej F h' (cs.set i (fu E ty (xs++ys) b))/\Sn F h F h':=by
 let⟨new,e1,e2,e⟩:=hs.xc
 exact H.app i hi e1 e2 e c d a
theorem ej.zeJ(H:ej F h cs)(i j:Nat)(hi:cs[i]? =some (fu E ty xs v)){c:Nat}(d:cs[j]? =some (fu E c ys x)){jh:Nat}(e:0<E.sz)(f:jh<=1000)(a:xs.length+ys.length<=10000000) :
  ∃b h',fg ty E.sz jh v x h=some (.val b h')/\h.next<=h'.next/\ej F h' (cs.set i (fu E ty (xs++ys) b))/\Sn F h F h':=by
 let⟨new,e1,e2,g⟩:=(H.row j d).xc
 exact H.app i hi e1 e2 g e f a
theorem ej.tz(H:ej F h cs)(i:Nat)(hi:cs[i]? =some (fu E ty xs v)){jh NM:Nat}{y:α}{w:List V}{ro:Bool}(b:E.rel F h y w)(c:0<E.sz)(d:jh<=1000)(e:xs.length<1000000) :
  ∃a h',fg ty E.sz jh v (.slice h.next 0 1) (h.new (.cells NM E.sz true ro w))=some (.val a h')/\h.next+1<=h'.next/\ej F h' (cs.set i (fu E ty (xs++[y]) a))/\Sn F h F h':=by
 let⟨f,s1⟩:=H.grow (mr.new h (.cells NM E.sz true ro w))
 have g:lT (h.new (.cells NM E.sz true ro w)) E.sz (.slice h.next 0 1)=some (1,w):=oI (by rw[E.len b];simp)
 let⟨a,h',e1,e2,j,k⟩:=f.app (ys:=[y]) i hi g ⟨w,[],by simp,E.fm (λl hl=>eE _ (H.fl l hl)) b,trivial⟩ (by rw[E.len b];simp) c d (by simp;omega)
 exact⟨a,h',e1,e2,j,s1.trans k⟩
theorem ej.ze1(H:ej F h cs)(i:Nat)(hi:cs[i]? =some (fu E ty xs v)){n:Nat}(b:n<=xs.length) :
  ∃a,jE E.sz v none (some (.int .i64 n)) h=some a/\ej F h (cs.set i (fu E ty (xs.take n) a)):=by
 let⟨a,c,d,e⟩:=(H.row i hi).cut b
 exact⟨a,c,H.swap hi d e⟩
theorem ej.jG(H:ej F h cs)(i:Nat)(hi:cs[i]? =some (fu E ty xs v)):ej (λl=>F l\/Loc v l) h (cs.set i emp)/\Sn F h (λl=>F l\/Loc v l) h/\iD E (λl=>F l\/Loc v l) h xs v:=by
 let⟨a,b⟩:=H.zdg (p:=emp) (F':=λl=>F l\/Loc v l) hi (mr.refl _ _) (by simp_all) (λ_ h=>h.imp id .inl) trivial λ_ h=>h.elim
 exact⟨a,b,(H.row i hi).read⟩
theorem ej.make(H:ej F h cs){y:α}{u:V}(n:Nat)(a:E.rel F h y [u])(c:E.sz=1):ej F (h.new (.cells ty 1 true false (List.replicate n u))) (fu E ty (List.replicate n y) (.slice h.next 0 n)::cs)/\Sn F h F (h.new (.cells ty 1 true false (List.replicate n u))):=by
 have b:=E.one a;rw[fh,xB]at b;have:=H.SM ty (n:=n) (by simp) (rF.rep a n) (KD b.1 n)
 simp_all
theorem pW{jh n:Nat}(c:z.one=true)(a:jh<=100)(b:n<=1000000) :
  jA e 1 jh z (.int .i64 (n:Int)) (.int .i64 (n:Int))=some (O.cells e 1 true false (List.replicate n z),λl=>V.slice l 0 n):=by
 have:=Nat.mul_le_mul b a
 grind[QD,th,zaO]
theorem gS{o:Nat}(hl:eD (.ptr l o) h=some u)(a:h'.get l=h.get l):eD (.ptr l o) h' = some u:=by
 grind[eD,ld1,lj,IN]
theorem MY{o n:Nat}(hl:gi n (.ptr l o) h=some u)(a:h'.get l=h.get l):gi n (.ptr l o) h' = some u:=by
 grind[gi,LW,lj,IN]
def up{ι:Type}[DecidableEq ι] (f:ι->Option α)(i:ι)(x:Option α):ι->Option α:=λj=>if j=i then x else f j
@[simp] theorem zgs {ι α:Type} [DecidableEq ι] (f:ι->Option α) (i:ι) (x:Option α):up f i x i=x:=if_pos rfl
variable{p q:Pc}
theorem ej.sw(H:ej F h (p::q::cs)):ej F h (q::p::cs) where
 fl:=H.fl
 ok:=λi c hc=>by
  match i,hc with
  |0,hc=>exact H.ok 1 c hc
  |1,hc=>exact H.ok 0 c hc
  |i+2,hc=>exact H.ok (i+2) c hc
 K5:=λi j c d hc hd a=>by
  match i,j,hc,hd with
  |0,0,_,_=>omega
  |0,1,hc,hd=>exact H.K5 1 0 c d hc hd (by omega)
  |0,j+2,hc,hd=>exact H.K5 1 (j+2) c d hc hd (by omega)
  |1,0,hc,hd=>exact H.K5 0 1 c d hc hd (by omega)
  |1,1,_,_=>omega
  |1,j+2,hc,hd=>exact H.K5 0 (j+2) c d hc hd (by omega)
  |i+2,0,hc,hd=>exact H.K5 (i+2) 1 c d hc hd (by omega)
  |i+2,1,hc,hd=>exact H.K5 (i+2) 0 c d hc hd (by omega)
  |i+2,j+2,hc,hd=>exact H.K5 (i+2) (j+2) c d hc hd a
theorem ej.Em(H:ej F h (p::q::cs)):ej F h (p::cs):=H.sw.tail
variable{ι:Type}{f:ι->Option (List Nat×V)}{xs:List Nat}
structure Rw where
 vv:V
 vb:V
 vs:V
 vk:V
 vc:V
 vp:V
 cc:V
def comp(lu im jL:Nat)(R:Rw):Nat->Nat->Prop
 |0,l=>l=lu
 |1,l=>l=im
 |2,l=>l=jL
 |3,l=>Loc R.vv l
 |4,l=>Loc R.vb l
 |5,l=>Loc R.vs l
 |6,l=>Loc R.vk l
 |7,l=>Loc R.vc l
 |_,_=>False
def sig:Nat->Nat×Nat
 |0=>(wL,1)
 |1=>(jX,1)
 |2=>(tg,1)
 |3=>(Bg,6)
 |4=>(tg,6)
 |5=>(Oj,1)
 |_=>(fJ,1)
structure Dw (F G:Nat->Prop) (h:Hp) (lu im jL:Nat) (t:Dt) (R:Rw):Prop where
 fl:∀l,F l->l<h.next
 gu:h.get lu=some (.cells wL 1 true false [.int .i64 1,.int .i64 2,R.vv,R.vb,R.vs])
 gk:h.get im=some (.cells jX 1 true false [R.vk])
 gb:h.get jL=some (.cells tg 1 true false [R.cc,.int .i64 0,.int .i64 0,.ed,R.vp,.int .i64 0])
 nu:lu<h.next/\¬F lu
 nk:im<h.next/\¬F im
 nb:jL<h.next/\¬F jL
 ov:lN eV Bg F h t.s.ee R.vv
 ob:lN eK tg F h t.blocks R.vb
 os:lN eT Oj F h t.s.ez R.vs
 ok:lN eN fJ F h t.s.known R.vk
 oc:lN eN fJ F h t.s.cur R.vc
 sp:iD eN F h t.fj R.vp
 kc:∀l,Loc R.vk l->¬Loc R.vc l
 gx:∀l,G l->l<h.next/\¬F l/\∀i,¬comp lu im jL R i l
structure Kp (F G:Nat->Prop) (h h':Hp):Prop where
 next:h.next<=h'.next
 fm:∀l,F l\/G l->h'.get l=h.get l
theorem Kp.refl(F G:Nat->Prop)(h:Hp):Kp F G h h:=⟨jj _,by simp_all⟩
theorem Kp.trans{F F' G:Nat->Prop} {h h' c:Hp}(a:Kp F G h h')(b:Kp F' G h' c)(d:∀l,F l->F' l):Kp F G h c:=
 ⟨MT a.next b.next,λl hl=>by rw[b.fm l (by grind),a.fm l hl]⟩
variable{G:Nat->Prop}{lu im jL:Nat}{t:Dt}{R:Rw}
theorem Dw.sig(D:Dw F G h lu im jL t R){l:Nat}:∀{i:Nat},comp lu im jL R i l->zdN h l=some (Hx.sig i)/\l<h.next/\¬F l
 |0,hl=>by have e:=hl;subst e;exact⟨LJ D.gu,D.nu⟩
 |1,hl=>by have e:=hl;subst e;exact⟨LJ D.gk,D.nk⟩
 |2,hl=>by have e:=hl;subst e;exact⟨LJ D.gb,D.nb⟩
 |3,hl=>D.ov.y6 hl
 |4,hl=>D.ob.y6 hl
 |5,hl=>D.os.y6 hl
 |6,hl=>D.ok.y6 hl
 |7,hl=>D.oc.y6 hl
 |_+8,hl=>hl.elim
theorem Dw.K5(D:Dw F G h lu im jL t R){l i j:Nat}(hi:comp lu im jL R i l)(a:comp lu im jL R j l):Hx.sig i=Hx.sig j:=by
 have b:=(D.sig hi).1
 grind[sig]
theorem Dw.EF(D:Dw F G h lu im jL t R){l i j:Nat}(hi:comp lu im jL R i l)(a:comp lu im jL R j l)(c:i<8)(d:j<8):i=j:=by
 have e:=D.K5 hi a;have b:∀i,i<8->∀j,j<8->Hx.sig i=Hx.sig j->i=j\/(i=6/\j=7)\/(i=7/\j=6):=by decide
 rcases b i c j d e with f|⟨rfl,rfl⟩|⟨rfl,rfl⟩
 ·exact f
 ·exact absurd a (D.kc l hi)
 ·exact absurd hi (D.kc l a)
theorem Dw.kept(D:Dw F G h lu im jL t R){i j:Nat}(hi:i<8)(d:j<8)(hc:mr (λl=>comp lu im jL R i l\/comp lu im jL R j l) h h') :
  (∀l,F l->h'.get l=h.get l)/\(∀l,G l->h'.get l=h.get l)/\∀k l,k<8->k≠i->k≠j->comp lu im jL R k l->h'.get l=h.get l:=by
 refine⟨λl hl=>hc.fm l (D.fl l hl) ?_,λl hl=>hc.fm l (D.gx l hl).1 ?_,λk l c a e hl=>hc.fm l (D.sig hl).2.1 ?_⟩
 ·rintro(a|a)
  ·exact(D.sig a).2.2 hl
  ·exact(D.sig a).2.2 hl
 ·rintro(a|a)
  ·exact(D.gx l hl).2.2 _ a
  ·exact(D.gx l hl).2.2 _ a
 ·rintro(b|b)
  ·exact a (D.EF hl b c hi)
  ·exact e (D.EF hl b c d)
theorem Dw.other(D:Dw F G h lu im jL t R){S:Nat->Prop}(a:mr S h h')(c:∀l,S l->¬F l/\¬G l/\∀i,¬comp lu im jL R i l):Dw F G h' lu im jL t R/\Kp F G h h':=by
 have b:=λl hl=>a.fm l (D.fl l hl) (by grind);have d:=λl hl=>a.fm l (D.gx l hl).1 (by grind);have k:∀i l,comp lu im jL R i l->h'.get l=h.get l:=λi l hl=>a.fm l (D.sig hl).2.1 (by grind);have lt:∀l,l<h.next->l<h'.next:=λl hl=>EP hl a.next
 exact ⟨{
  fl:=λl hl=>lt l (D.fl l hl)
  gu:=by rw[k 0 _ rfl];exact D.gu
  gk:=by rw[k 1 _ rfl];exact D.gk
  gb:=by rw[k 2 _ rfl];exact D.gb
  nu:=⟨lt _ D.nu.1,D.nu.2⟩
  nk:=⟨lt _ D.nk.1,D.nk.2⟩
  nb:=⟨lt _ D.nb.1,D.nb.2⟩
  ov:=D.ov.fm b (λl hl=>k 3 l hl) a.next
  ob:=D.ob.fm b (λl hl=>k 4 l hl) a.next
  os:=D.os.fm b (λl hl=>k 5 l hl) a.next
  ok:=D.ok.fm b (λl hl=>k 6 l hl) a.next
  oc:=D.oc.fm b (λl hl=>k 7 l hl) a.next
  sp:=D.sp.fm b
  kc:=D.kc
  gx:=λl hl=>⟨lt l (D.gx l hl).1,(D.gx l hl).2⟩ },⟨a.next,by grind⟩⟩
theorem Dw.grow(D:Dw F G h lu im jL t R)(a:JG h h'):Dw F G h' lu im jL t R:=(D.other a (by simp_all)).1
theorem Dw.more(D:Dw F G h lu im jL t R) {F':Nat->Prop}(b:∀l,F l->F' l)(c:∀l,F' l->F l\/(l<h.next/\(∀i,¬comp lu im jL R i l)/\¬G l)):Dw F' G h lu im jL t R:=by
 have a:∀i l,comp lu im jL R i l->¬F' l:=λi l hl d=>by
  rcases c l d with e|⟨_,e,_⟩
  ·exact(D.sig hl).2.2 e
  simp_all
 exact {
  fl:=λl hl=>(c l hl).elim (D.fl l) λh=>h.1
  gu:=D.gu
  gk:=D.gk
  gb:=D.gb
  nu:=⟨D.nu.1,a 0 _ rfl⟩
  nk:=⟨D.nk.1,a 1 _ rfl⟩
  nb:=⟨D.nb.1,a 2 _ rfl⟩
  ov:=D.ov.mono b λl hl=>a 3 l hl
  ob:=D.ob.mono b λl hl=>a 4 l hl
  os:=D.os.mono b λl hl=>a 5 l hl
  ok:=D.ok.mono b λl hl=>a 6 l hl
  oc:=D.oc.mono b λl hl=>a 7 l hl
  sp:=D.sp.mono b
  kc:=D.kc
  gx:=λl hl=>⟨(D.gx l hl).1,λd=>(c l d).elim (D.gx l hl).2.1 (by simp_all),(D.gx l hl).2.2⟩ }
def fz(F:Nat->Prop)(n:Nat):Nat->Prop:=λl=>F l\/l=n
theorem rq(F:Nat->Prop)(n:Nat):∀l,F l->fz F n l:=λ_ h=> .inl h
theorem Dw.new(D:Dw F G h lu im jL t R)(o:O):Dw (fz F h.next) G (h.new o) lu im jL t R:=
 (D.grow (mr.new h o)).more (rq _ _) λl hl=>hl.imp id λe=>by
  subst e;refine⟨Rz _,λi hi=>wBy _ (D.sig hi).2.1,λa=>wBy _ (D.gx _ a).1⟩
theorem Kp.new(F G:Nat->Prop)(h:Hp)(o:O)(a:∀l,F l->l<h.next)(b:∀l,G l->l<h.next):Kp F G h (h.new o):=
 ⟨Ql _,by grind[eE]⟩
theorem Dw.zR(D:Dw F G h lu im jL t R)(o:O):Kp F G h (h.new o):=Kp.new F G h o D.fl λl hl=>(D.gx l hl).1
theorem po{o:Nat} {cs qF:List V}{v:V}(a:h.get l=some (.cells e sz true false cs))(b:o<cs.length)(hv:v.one=true)(hs:cs.set o v=qF):gw 1 (.ptr l o) v h=some (.val .undef (h.put l (.cells e sz true false qF))):=by
 grind[OS]
private theorem zbk {a:Nat->Prop} {l:Nat} {S:Nat->Prop} {b:Hp} {o:O} (hc:mr a h b) (c:∀l,a l->S l) (hl:l<h.next) (hs:S l):mr S h (b.put l o):=
 (hc.zc3 (by simp_all)).trans (mr.put o hs (EP hl hc.next))
theorem Dw.zgO(D:Dw F G h lu im jL t R){ys:List Vl}{new:List V}{xv:V}(q:lT h 6 xv=some (ys.length,new))(r:rF eV F h new ys)(hl:new.length=ys.length*6) (k:gj new=true)(u:0<ys.length)(hlen:t.s.ee.length+ys.length<1000000) :
  ∃a c d,fg Bg 6 64 R.vv xv h=some (.val a c)/\h.next<=c.next/\gw 1 (.ptr lu 2) a c=some (.val .undef d)/\c.next<=d.next/\Kp F G h d/\
   Dw F G d lu im jL {t with s:={t.s with ee:=t.s.ee++ys} } {R with vv:=a}:=by
 let⟨a,c,e1,n,g,p⟩:=D.ov.append (jh:=64) q r hl k u (by decide) D.fl (by omega) (by omega)
 have m:c.get lu=some (.cells wL 1 true false [.int .i64 1,.int .i64 2,R.vv,R.vb,R.vs]):=by
  rw[g.fm lu D.nu.1 λhl=>nomatch D.EF (i:=0) (j:=3) rfl hl (by decide) (by decide)];exact D.gu
 have f:=EP D.nu.1 g.next;have e2:=po (o:=2) (qF:=[.int .i64 1,.int .i64 2,a,R.vb,R.vs]) m (by simp) n.one rfl;have hc:mr (λl=>comp lu im jL R 0 l\/comp lu im jL R 3 l) h (c.put lu (.cells wL 1 true false [.int .i64 1,.int .i64 2,a,R.vb,R.vs])):=zbk g (λ_ h=> .inr h) D.nu.1 (.inl rfl)
 let⟨kF,kG,kC⟩:=D.kept (by decide) (by decide) hc
 have b:∀l,l<h.next->l<(c.put lu (.cells wL 1 true false [.int .i64 1,.int .i64 2,a,R.vb,R.vs])).next:=λl hl=>EP hl hc.next;have w:∀l,Loc a l->l≠lu:=λl hl e=>by
  subst e;rcases p _ hl with d|d
  ·exact absurd (D.EF (i:=0) (j:=3) rfl d (by decide) (by decide)) (by decide)
  ·exact absurd d (UX D.nu.1)
 have v:lN eV Bg F (c.put lu (.cells wL 1 true false [.int .i64 1,.int .i64 2,a,R.vb,R.vs])) (t.s.ee++ys) a:=
  n.fm (λl hl=>gq _ f λe=>D.nu.2 (e▸hl)) (by grind[gq]) (jj _)
 refine⟨a,c,_,e1,g.next,e2,jj _,⟨hc.next,by grind⟩,?_⟩
 exact {
  fl:=λl hl=>b l (D.fl l hl)
  gu:=fY _ f
  gk:=by rw[kC 1 im (by decide) (by decide) (by decide) rfl];exact D.gk
  gb:=by rw[kC 2 jL (by decide) (by decide) (by decide) rfl];exact D.gb
  ov:=v
  ob:=D.ob.fm kF (λl hl=>kC 4 l (by decide) (by decide) (by decide) hl) hc.next
  os:=D.os.fm kF (λl hl=>kC 5 l (by decide) (by decide) (by decide) hl) hc.next
  ok:=D.ok.fm kF (λl hl=>kC 6 l (by decide) (by decide) (by decide) hl) hc.next
  oc:=D.oc.fm kF (λl hl=>kC 7 l (by decide) (by decide) (by decide) hl) hc.next
  nu:=⟨b _ D.nu.1,D.nu.2⟩
  nk:=⟨b _ D.nk.1,D.nk.2⟩
  nb:=⟨b _ D.nb.1,D.nb.2⟩
  sp:=D.sp.fm kF
  kc:=D.kc
  gx:=λl hl=>⟨b l (D.gx l hl).1,(D.gx l hl).2.1,λi hi=>by
   match i,hi with
   |0,hi=>exact(D.gx l hl).2.2 0 hi
   |1,hi=>exact(D.gx l hl).2.2 1 hi
   |2,hi=>exact(D.gx l hl).2.2 2 hi
   |3,hi=>exact(p l hi).elim ((D.gx l hl).2.2 3) λe=>absurd e (UX (D.gx l hl).1)
   |4,hi=>exact(D.gx l hl).2.2 4 hi
   |5,hi=>exact(D.gx l hl).2.2 5 hi
   |6,hi=>exact(D.gx l hl).2.2 6 hi
   |7,hi=>exact(D.gx l hl).2.2 7 hi⟩ }
theorem Dw.zgN(D:Dw F G h lu im jL t R){ys:List Bk}{new:List V}{xv:V}(q:lT h 6 xv=some (ys.length,new))(r:rF eK F h new ys)(hl:new.length=ys.length*6) (k:gj new=true)(s:0<ys.length)(hlen:t.blocks.length+ys.length<1000000) :
  ∃a c d,fg tg 6 96 R.vb xv h=some (.val a c)/\h.next<=c.next/\gw 1 (.ptr lu 3) a c=some (.val .undef d)/\c.next<=d.next/\Kp F G h d/\
   Dw F G d lu im jL {t with blocks:=t.blocks++ys} {R with vb:=a}:=by
 let⟨a,c,e1,n,g,p⟩:=D.ob.append (jh:=96) q r hl k s (by decide) D.fl (by omega) (by omega)
 have m:c.get lu=some (.cells wL 1 true false [.int .i64 1,.int .i64 2,R.vv,R.vb,R.vs]):=by
  rw[g.fm lu D.nu.1 λhl=>nomatch D.EF (i:=0) (j:=4) rfl hl (by decide) (by decide)];exact D.gu
 have f:=EP D.nu.1 g.next;have e2:=po (o:=3) (qF:=[.int .i64 1,.int .i64 2,R.vv,a,R.vs]) m (by simp) n.one rfl;have hc:mr (λl=>comp lu im jL R 0 l\/comp lu im jL R 4 l) h (c.put lu (.cells wL 1 true false [.int .i64 1,.int .i64 2,R.vv,a,R.vs])):=zbk g (λ_ h=> .inr h) D.nu.1 (.inl rfl)
 let⟨kF,kG,kC⟩:=D.kept (by decide) (by decide) hc
 have b:∀l,l<h.next->l<(c.put lu (.cells wL 1 true false [.int .i64 1,.int .i64 2,R.vv,a,R.vs])).next:=λl hl=>EP hl hc.next;have v:∀l,Loc a l->l≠lu:=λl hl e=>by
  subst e;rcases p _ hl with d|d
  ·exact absurd (D.EF (i:=0) (j:=4) rfl d (by decide) (by decide)) (by decide)
  ·exact absurd d (UX D.nu.1)
 have u:lN eK tg F (c.put lu (.cells wL 1 true false [.int .i64 1,.int .i64 2,R.vv,a,R.vs])) (t.blocks++ys) a:=
  n.fm (λl hl=>gq _ f λe=>D.nu.2 (e▸hl)) (by grind[gq]) (jj _)
 refine⟨a,c,_,e1,g.next,e2,jj _,⟨hc.next,by grind⟩,?_⟩
 exact {
  fl:=λl hl=>b l (D.fl l hl)
  gu:=fY _ f
  gk:=by rw[kC 1 im (by decide) (by decide) (by decide) rfl];exact D.gk
  gb:=by rw[kC 2 jL (by decide) (by decide) (by decide) rfl];exact D.gb
  ov:=D.ov.fm kF (λl hl=>kC 3 l (by decide) (by decide) (by decide) hl) hc.next
  ob:=u
  os:=D.os.fm kF (λl hl=>kC 5 l (by decide) (by decide) (by decide) hl) hc.next
  ok:=D.ok.fm kF (λl hl=>kC 6 l (by decide) (by decide) (by decide) hl) hc.next
  oc:=D.oc.fm kF (λl hl=>kC 7 l (by decide) (by decide) (by decide) hl) hc.next
  nu:=⟨b _ D.nu.1,D.nu.2⟩
  nk:=⟨b _ D.nk.1,D.nk.2⟩
  nb:=⟨b _ D.nb.1,D.nb.2⟩
  sp:=D.sp.fm kF
  kc:=D.kc
  gx:=λl hl=>⟨b l (D.gx l hl).1,(D.gx l hl).2.1,λi hi=>by
   match i,hi with
   |0,hi=>exact(D.gx l hl).2.2 0 hi
   |1,hi=>exact(D.gx l hl).2.2 1 hi
   |2,hi=>exact(D.gx l hl).2.2 2 hi
   |3,hi=>exact(D.gx l hl).2.2 3 hi
   |4,hi=>exact(p l hi).elim ((D.gx l hl).2.2 4) λe=>absurd e (UX (D.gx l hl).1)
   |5,hi=>exact(D.gx l hl).2.2 5 hi
   |6,hi=>exact(D.gx l hl).2.2 6 hi
   |7,hi=>exact(D.gx l hl).2.2 7 hi⟩ }
theorem Dw.zgD(D:Dw F G h lu im jL t R){ys:List (List Fm)}{new:List V}{xv:V}(q:lT h 1 xv=some (ys.length,new))(r:rF eT F h new ys)(hl:new.length=ys.length*1) (k:gj new=true)(u:0<ys.length)(hlen:t.s.ez.length+ys.length<1000000) :
  ∃a c d,fg Oj 1 24 R.vs xv h=some (.val a c)/\h.next<=c.next/\gw 1 (.ptr lu 4) a c=some (.val .undef d)/\c.next<=d.next/\Kp F G h d/\
   Dw F G d lu im jL {t with s:={t.s with ez:=t.s.ez++ys} } {R with vs:=a}:=by
 let⟨a,c,e1,n,g,p⟩:=D.os.append (jh:=24) q r hl k u (by decide) D.fl (by omega) (by omega)
 have m:c.get lu=some (.cells wL 1 true false [.int .i64 1,.int .i64 2,R.vv,R.vb,R.vs]):=by
  rw[g.fm lu D.nu.1 λhl=>nomatch D.EF (i:=0) (j:=5) rfl hl (by decide) (by decide)];exact D.gu
 have f:=EP D.nu.1 g.next;have e2:=po (o:=4) (qF:=[.int .i64 1,.int .i64 2,R.vv,R.vb,a]) m (by simp) n.one rfl;have hc:mr (λl=>comp lu im jL R 0 l\/comp lu im jL R 5 l) h (c.put lu (.cells wL 1 true false [.int .i64 1,.int .i64 2,R.vv,R.vb,a])):=zbk g (λ_ h=> .inr h) D.nu.1 (.inl rfl)
 let⟨kF,kG,kC⟩:=D.kept (by decide) (by decide) hc
 have b:∀l,l<h.next->l<(c.put lu (.cells wL 1 true false [.int .i64 1,.int .i64 2,R.vv,R.vb,a])).next:=λl hl=>EP hl hc.next;have w:∀l,Loc a l->l≠lu:=λl hl e=>by
  subst e;rcases p _ hl with d|d
  ·exact absurd (D.EF (i:=0) (j:=5) rfl d (by decide) (by decide)) (by decide)
  ·exact absurd d (UX D.nu.1)
 have v:lN eT Oj F (c.put lu (.cells wL 1 true false [.int .i64 1,.int .i64 2,R.vv,R.vb,a])) (t.s.ez++ys) a:=
  n.fm (λl hl=>gq _ f λe=>D.nu.2 (e▸hl)) (by grind[gq]) (jj _)
 refine⟨a,c,_,e1,g.next,e2,jj _,⟨hc.next,by grind⟩,?_⟩
 exact {
  fl:=λl hl=>b l (D.fl l hl)
  gu:=fY _ f
  gk:=by rw[kC 1 im (by decide) (by decide) (by decide) rfl];exact D.gk
  gb:=by rw[kC 2 jL (by decide) (by decide) (by decide) rfl];exact D.gb
  ov:=D.ov.fm kF (λl hl=>kC 3 l (by decide) (by decide) (by decide) hl) hc.next
  ob:=D.ob.fm kF (λl hl=>kC 4 l (by decide) (by decide) (by decide) hl) hc.next
  os:=v
  ok:=D.ok.fm kF (λl hl=>kC 6 l (by decide) (by decide) (by decide) hl) hc.next
  oc:=D.oc.fm kF (λl hl=>kC 7 l (by decide) (by decide) (by decide) hl) hc.next
  nu:=⟨b _ D.nu.1,D.nu.2⟩
  nk:=⟨b _ D.nk.1,D.nk.2⟩
  nb:=⟨b _ D.nb.1,D.nb.2⟩
  sp:=D.sp.fm kF
  kc:=D.kc
  gx:=λl hl=>⟨b l (D.gx l hl).1,(D.gx l hl).2.1,λi hi=>by
   match i,hi with
   |0,hi=>exact(D.gx l hl).2.2 0 hi
   |1,hi=>exact(D.gx l hl).2.2 1 hi
   |2,hi=>exact(D.gx l hl).2.2 2 hi
   |3,hi=>exact(D.gx l hl).2.2 3 hi
   |4,hi=>exact(D.gx l hl).2.2 4 hi
   |5,hi=>exact(p l hi).elim ((D.gx l hl).2.2 5) λe=>absurd e (UX (D.gx l hl).1)
   |6,hi=>exact(D.gx l hl).2.2 6 hi
   |7,hi=>exact(D.gx l hl).2.2 7 hi⟩ }
theorem Dw.zeR(D:Dw F G h lu im jL t R){ys:List Nat}{new:List V}{xv:V}(q:lT h 1 xv=some (ys.length,new))(r:rF eN F h new ys)(hl:new.length=ys.length*1) (k:gj new=true)(u:0<ys.length)(hlen:t.s.known.length+ys.length<1000000) :
  ∃a c d,fg fJ 1 8 R.vk xv h=some (.val a c)/\h.next<=c.next/\gw 1 (.ptr im 0) a c=some (.val .undef d)/\c.next<=d.next/\Kp F G h d/\
   Dw F G d lu im jL {t with s:={t.s with known:=t.s.known++ys} } {R with vk:=a}:=by
 let⟨a,c,e1,p,g,m⟩:=D.ok.append (jh:=8) q r hl k u (by decide) D.fl (by omega) (by omega)
 have n:c.get im=some (.cells jX 1 true false [R.vk]):=by
  rw[g.fm im D.nk.1 λhl=>nomatch D.EF (i:=1) (j:=6) rfl hl (by decide) (by decide)];exact D.gk
 have f:=EP D.nk.1 g.next;have e2:=po (o:=0) (qF:=[a]) n (by simp) p.one rfl;have hc:mr (λl=>comp lu im jL R 1 l\/comp lu im jL R 6 l) h (c.put im (.cells jX 1 true false [a])):=zbk g (λ_ h=> .inr h) D.nk.1 (.inl rfl)
 let⟨kF,kG,kC⟩:=D.kept (by decide) (by decide) hc
 have b:∀l,l<h.next->l<(c.put im (.cells jX 1 true false [a])).next:=λl hl=>EP hl hc.next;have w:∀l,Loc a l->l≠im:=λl hl e=>by
  subst e;rcases m _ hl with d|d
  ·exact absurd (D.EF (i:=1) (j:=6) rfl d (by decide) (by decide)) (by decide)
  ·exact absurd d (UX D.nk.1)
 have v:lN eN fJ F (c.put im (.cells jX 1 true false [a])) (t.s.known++ys) a:=
  p.fm (λl hl=>gq _ f λe=>D.nk.2 (e▸hl)) (by grind[gq]) (jj _)
 refine⟨a,c,_,e1,g.next,e2,jj _,⟨hc.next,by grind⟩,?_⟩
 exact {
  fl:=λl hl=>b l (D.fl l hl)
  gu:=by rw[kC 0 lu (by decide) (by decide) (by decide) rfl];exact D.gu
  gk:=fY _ f
  gb:=by rw[kC 2 jL (by decide) (by decide) (by decide) rfl];exact D.gb
  ov:=D.ov.fm kF (λl hl=>kC 3 l (by decide) (by decide) (by decide) hl) hc.next
  ob:=D.ob.fm kF (λl hl=>kC 4 l (by decide) (by decide) (by decide) hl) hc.next
  os:=D.os.fm kF (λl hl=>kC 5 l (by decide) (by decide) (by decide) hl) hc.next
  ok:=v
  oc:=D.oc.fm kF (λl hl=>kC 7 l (by decide) (by decide) (by decide) hl) hc.next
  nu:=⟨b _ D.nu.1,D.nu.2⟩
  nk:=⟨b _ D.nk.1,D.nk.2⟩
  nb:=⟨b _ D.nb.1,D.nb.2⟩
  sp:=D.sp.fm kF
  kc:=λl hl hc=>(m l hl).elim (λd=>D.kc l d hc) λe=>absurd e (UX (D.oc.y6 hc).2.1)
  gx:=λl hl=>⟨b l (D.gx l hl).1,(D.gx l hl).2.1,λi hi=>by
   match i,hi with
   |0,hi=>exact(D.gx l hl).2.2 0 hi
   |1,hi=>exact(D.gx l hl).2.2 1 hi
   |2,hi=>exact(D.gx l hl).2.2 2 hi
   |3,hi=>exact(D.gx l hl).2.2 3 hi
   |4,hi=>exact(D.gx l hl).2.2 4 hi
   |5,hi=>exact(D.gx l hl).2.2 5 hi
   |6,hi=>exact(m l hi).elim ((D.gx l hl).2.2 6) λe=>absurd e (UX (D.gx l hl).1)
   |7,hi=>exact(D.gx l hl).2.2 7 hi⟩ }
theorem Dw.zgP(D:Dw F G h lu im jL t R){ys:List Nat}{new:List V}{xv:V}(q:lT h 1 xv=some (ys.length,new))(r:rF eN F h new ys)(hl:new.length=ys.length*1) (k:gj new=true)(u:0<ys.length)(hlen:t.s.cur.length+ys.length<1000000) :
  ∃a c d,fg fJ 1 8 R.vc xv h=some (.val a c)/\h.next<=c.next/\gw 1 (.ptr jL 0) a c=some (.val .undef d)/\c.next<=d.next/\Kp F G h d/\
   Dw F G d lu im jL {t with s:={t.s with cur:=t.s.cur++ys} } {R with vc:=a,cc:=a}:=by
 let⟨a,c,e1,p,g,m⟩:=D.oc.append (jh:=8) q r hl k u (by decide) D.fl (by omega) (by omega)
 have n:c.get jL=some (.cells tg 1 true false [R.cc,.int .i64 0,.int .i64 0,.ed,R.vp,.int .i64 0]):=by
  rw[g.fm jL D.nb.1 λhl=>nomatch D.EF (i:=2) (j:=7) rfl hl (by decide) (by decide)];exact D.gb
 have f:=EP D.nb.1 g.next;have e2:=po (o:=0) (qF:=[a,.int .i64 0,.int .i64 0,.ed,R.vp,.int .i64 0]) n (by simp) p.one rfl;have hc:mr (λl=>comp lu im jL R 2 l\/comp lu im jL R 7 l) h (c.put jL (.cells tg 1 true false [a,.int .i64 0,.int .i64 0,.ed,R.vp,.int .i64 0])):=zbk g (λ_ h=> .inr h) D.nb.1 (.inl rfl)
 let⟨kF,kG,kC⟩:=D.kept (by decide) (by decide) hc
 have b:∀l,l<h.next->l<(c.put jL (.cells tg 1 true false [a,.int .i64 0,.int .i64 0,.ed,R.vp,.int .i64 0])).next:=λl hl=>EP hl hc.next;have w:∀l,Loc a l->l≠jL:=λl hl e=>by
  subst e;rcases m _ hl with d|d
  ·exact absurd (D.EF (i:=2) (j:=7) rfl d (by decide) (by decide)) (by decide)
  ·exact absurd d (UX D.nb.1)
 have v:lN eN fJ F (c.put jL (.cells tg 1 true false [a,.int .i64 0,.int .i64 0,.ed,R.vp,.int .i64 0])) (t.s.cur++ys) a:=
  p.fm (λl hl=>gq _ f λe=>D.nb.2 (e▸hl)) (by grind[gq]) (jj _)
 refine⟨a,c,_,e1,g.next,e2,jj _,⟨hc.next,by grind⟩,?_⟩
 exact {
  fl:=λl hl=>b l (D.fl l hl)
  gu:=by rw[kC 0 lu (by decide) (by decide) (by decide) rfl];exact D.gu
  gk:=by rw[kC 1 im (by decide) (by decide) (by decide) rfl];exact D.gk
  gb:=fY _ f
  ov:=D.ov.fm kF (λl hl=>kC 3 l (by decide) (by decide) (by decide) hl) hc.next
  ob:=D.ob.fm kF (λl hl=>kC 4 l (by decide) (by decide) (by decide) hl) hc.next
  os:=D.os.fm kF (λl hl=>kC 5 l (by decide) (by decide) (by decide) hl) hc.next
  ok:=D.ok.fm kF (λl hl=>kC 6 l (by decide) (by decide) (by decide) hl) hc.next
  oc:=v
  nu:=⟨b _ D.nu.1,D.nu.2⟩
  nk:=⟨b _ D.nk.1,D.nk.2⟩
  nb:=⟨b _ D.nb.1,D.nb.2⟩
  sp:=D.sp.fm kF
  kc:=λl hl hc=>(m l hc).elim (λd=>D.kc l hl d) λe=>absurd e (UX (D.ok.y6 hl).2.1)
  gx:=λl hl=>⟨b l (D.gx l hl).1,(D.gx l hl).2.1,λi hi=>by
   match i,hi with
   |0,hi=>exact(D.gx l hl).2.2 0 hi
   |1,hi=>exact(D.gx l hl).2.2 1 hi
   |2,hi=>exact(D.gx l hl).2.2 2 hi
   |3,hi=>exact(D.gx l hl).2.2 3 hi
   |4,hi=>exact(D.gx l hl).2.2 4 hi
   |5,hi=>exact(D.gx l hl).2.2 5 hi
   |6,hi=>exact(D.gx l hl).2.2 6 hi
   |7,hi=>exact(m l hi).elim ((D.gx l hl).2.2 7) λe=>absurd e (UX (D.gx l hl).1)⟩ }
theorem Dw.cell(D:Dw F G h lu im jL t R){i:Nat}(hi:i<8)(hc:mr (λl=>comp lu im jL R i l) h h') :
  (∀l,F l->h'.get l=h.get l)/\(∀l,G l->h'.get l=h.get l)/\∀k l,k<8->k≠i->comp lu im jL R k l->h'.get l=h.get l:=by
 let⟨a,b,c⟩:=D.kept hi hi (hc.zc3 λ_ _ h=> .inl h)
 grind
theorem Dw.zg3(D:Dw F G h lu im jL t R){n:Nat}(e:n<=t.s.known.length) :
  ∃a b,jE 1 R.vk none (some (.int .i64 n)) h=some a/\gw 1 (.ptr im 0) a h=some (.val .undef b)/\h.next<=b.next/\Kp F G h b/\Dw F G b lu im jL {t with s:=Un.cut n t.s} {R with vk:=a}:=by
 let⟨a,e1,d,c⟩:=D.ok.cut e
 have e2:=po (o:=0) (qF:=[a]) D.gk (by simp) d.one rfl;have hc:mr (λl=>comp lu im jL R 1 l) h (h.put im (.cells jX 1 true false [a])):=mr.put _ rfl D.nk.1
 let⟨kF,kG,kC⟩:=D.cell (by decide) hc
 refine⟨a,_,e1,e2,jj _,⟨hc.next,by grind⟩,?_⟩
 exact {
  fl:=D.fl
  gu:=by rw[kC 0 lu (by decide) (by decide) rfl];exact D.gu
  gk:=fY _ D.nk.1
  gb:=by rw[kC 2 jL (by decide) (by decide) rfl];exact D.gb
  nu:=D.nu
  nk:=D.nk
  nb:=D.nb
  ov:=D.ov.fm kF (λl hl=>kC 3 l (by decide) (by decide) hl) hc.next
  ob:=D.ob.fm kF (λl hl=>kC 4 l (by decide) (by decide) hl) hc.next
  os:=D.os.fm kF (λl hl=>kC 5 l (by decide) (by decide) hl) hc.next
  ok:=d.fm kF (λl hl=>kC 6 l (by decide) (by decide) (c l hl)) hc.next
  oc:=D.oc.fm kF (λl hl=>kC 7 l (by decide) (by decide) hl) hc.next
  sp:=D.sp.fm kF
  kc:=λl hl=>D.kc l (c l hl)
  gx:=λl hl=>⟨(D.gx l hl).1,(D.gx l hl).2.1,λi hi=>by
   match i,hi with
   |0,hi=>exact(D.gx l hl).2.2 0 hi
   |1,hi=>exact(D.gx l hl).2.2 1 hi
   |2,hi=>exact(D.gx l hl).2.2 2 hi
   |3,hi=>exact(D.gx l hl).2.2 3 hi
   |4,hi=>exact(D.gx l hl).2.2 4 hi
   |5,hi=>exact(D.gx l hl).2.2 5 hi
   |6,hi=>exact(D.gx l hl).2.2 6 (c l hi)
   |7,hi=>exact(D.gx l hl).2.2 7 hi⟩ }
theorem Dw.zdQ(D:Dw F G h lu im jL t R){c p:V}{a:List Nat}(hp:iD eN F h a p):Kp F G h (h.put jL (.cells tg 1 true false [c,.int .i64 0,.int .i64 0,.ed,p,.int .i64 0]))/\
  Dw F G (h.put jL (.cells tg 1 true false [c,.int .i64 0,.int .i64 0,.ed,p,.int .i64 0])) lu im jL {t with fj:=a} {R with vp:=p,cc:=c}:=by
 have hc:mr (λl=>comp lu im jL R 2 l) h (h.put jL (.cells tg 1 true false [c,.int .i64 0,.int .i64 0,.ed,p,.int .i64 0])):=mr.put _ rfl D.nb.1
 let⟨kF,kG,kC⟩:=D.cell (by decide) hc
 refine⟨⟨hc.next,by grind⟩,?_⟩
 exact {
  fl:=D.fl
  gu:=by rw[kC 0 lu (by decide) (by decide) rfl];exact D.gu
  gk:=by rw[kC 1 im (by decide) (by decide) rfl];exact D.gk
  gb:=fY _ D.nb.1
  nu:=D.nu
  nk:=D.nk
  nb:=D.nb
  ov:=D.ov.fm kF (λl hl=>kC 3 l (by decide) (by decide) hl) hc.next
  ob:=D.ob.fm kF (λl hl=>kC 4 l (by decide) (by decide) hl) hc.next
  os:=D.os.fm kF (λl hl=>kC 5 l (by decide) (by decide) hl) hc.next
  ok:=D.ok.fm kF (λl hl=>kC 6 l (by decide) (by decide) hl) hc.next
  oc:=D.oc.fm kF (λl hl=>kC 7 l (by decide) (by decide) hl) hc.next
  sp:=hp.fm kF
  kc:=D.kc
  gx:=D.gx}
def fzc(F:Nat->Prop)(v:V):Nat->Prop:=λl=>F l\/Loc v l
theorem Dw.flush(D:Dw F G h lu im jL t R):iD eN (fzc F R.vc) h t.s.cur R.vc/\Dw (fzc F R.vc) G h lu im jL {t with s:={t.s with cur:=[]} } {R with vc:= .ed}:=by
 refine⟨D.oc.slR (λ_ h=> .inl h) λ_ h=> .inr h,?_⟩
 have D':Dw F G h lu im jL {t with s:={t.s with cur:=[]} } {R with vc:= .ed}:=
  { D with
    oc:= .nil
    kc:=by simp_all
    gx:=λl hl=>⟨(D.gx l hl).1,(D.gx l hl).2.1,λi hi=>by
      match i,hi with
      |0,hi=>exact(D.gx l hl).2.2 0 hi
      |1,hi=>exact(D.gx l hl).2.2 1 hi
      |2,hi=>exact(D.gx l hl).2.2 2 hi
      |3,hi=>exact(D.gx l hl).2.2 3 hi
      |4,hi=>exact(D.gx l hl).2.2 4 hi
      |5,hi=>exact(D.gx l hl).2.2 5 hi
      |6,hi=>exact(D.gx l hl).2.2 6 hi
      |n+7,hi=>exact(match n,hi with|0,hi=>hi)⟩ }
 refine D'.more (λ_ h=> .inl h) λl hl=>hl.imp id λhc=>⟨(D.oc.y6 hc).2.1,λi hi=>?_,λa=>(D.gx l a).2.2 7 hc⟩
 match i,hi with
 |0,hi=>exact nomatch D.EF (i:=0) (j:=7) hi hc (by decide) (by decide)
 |1,hi=>exact nomatch D.EF (i:=1) (j:=7) hi hc (by decide) (by decide)
 |2,hi=>exact nomatch D.EF (i:=2) (j:=7) hi hc (by decide) (by decide)
 |3,hi=>exact nomatch D.EF (i:=3) (j:=7) hi hc (by decide) (by decide)
 |4,hi=>exact nomatch D.EF (i:=4) (j:=7) hi hc (by decide) (by decide)
 |5,hi=>exact nomatch D.EF (i:=5) (j:=7) hi hc (by decide) (by decide)
 |6,hi=>exact nomatch D.EF (i:=6) (j:=7) hi hc (by decide) (by decide)
 |n+7,hi=>exact(match n,hi with|0,hi=>hi)
theorem Dw.zeo(D:Dw F G h lu im jL t R){p:Nat}{xs:List Nat}{a:V}(hp:p<t.s.ee.length)(d:iD eN F h xs a) :
  ∃l c,gQ 6 R.vv (.int .i64 p)=some (.ptr l (p*6))/\gw 1 (.ptr l (p*6+4)) a h=some (.val .undef c)/\h.next<=c.next/\Kp F G h c/\Dw F G c lu im jL {t with s:=setArgs t.s p xs} R:=by
 let⟨l,c,_,e1,e2,g,hc⟩:=D.ov.store (k:=4) (y:={t.s.ee[p]with args:=xs}) hp (by decide) d.one (λw ⟨x,f,_⟩=>by subst f;exact⟨a,rfl,d⟩)
 let⟨kF,kG,kC⟩:=D.cell (i:=3) (by decide) hc
 refine ⟨l,c,e1,e2,hc.next,⟨hc.next,by grind⟩,?_⟩;have b:∀l,l<h.next->l<c.next:=λl hl=>EP hl hc.next;have em:(setArgs t.s p xs).ee=t.s.ee.set p {t.s.ee[p]with args:=xs}:=by
  show t.s.ee.modify p _=_;refine wBz λi=>?_;rw[ List.getElem?_set];by_cases e:p=i
  ·grind
  ·simp[e]
 exact {
  fl:=λl hl=>b l (D.fl l hl)
  gu:=by rw[kC 0 lu (by decide) (by decide) rfl];exact D.gu
  gk:=by rw[kC 1 im (by decide) (by decide) rfl];exact D.gk
  gb:=by rw[kC 2 jL (by decide) (by decide) rfl];exact D.gb
  nu:=⟨b _ D.nu.1,D.nu.2⟩
  nk:=⟨b _ D.nk.1,D.nk.2⟩
  nb:=⟨b _ D.nb.1,D.nb.2⟩
  ov:=by simp_all
  ob:=D.ob.fm kF (λl hl=>kC 4 l (by decide) (by decide) hl) hc.next
  os:=D.os.fm kF (λl hl=>kC 5 l (by decide) (by decide) hl) hc.next
  ok:=D.ok.fm kF (λl hl=>kC 6 l (by decide) (by decide) hl) hc.next
  oc:=D.oc.fm kF (λl hl=>kC 7 l (by decide) (by decide) hl) hc.next
  sp:=D.sp.fm kF
  kc:=D.kc
  gx:=λl hl=>⟨b l (D.gx l hl).1,(D.gx l hl).2⟩ }
