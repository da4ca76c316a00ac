/- Parts. -/
import Derived.Test.YtcoaokdoecgcbaaGreatDoorM09
import Derived.Test.YtcoaokdoecgcbaaGreatDoorM13
set_option maxHeartbeats 4000000
namespace Go.Proofs.YtcoaokdoecgcbaaGreatDoor.Hx
open Un
variable{l e:Nat}{α:Type}{sz:Nat}{u z:V}
def eN:tq Nat where
 sz:=1
 rel _ _ n cs:=cs=[.int .i64 n]
 len h:=by subst h;rfl
 one h:=by subst h;rfl
 fy _ h:=h
 mono _ h:=h
def yM(x:Vl)(w:V):List V:=[.int .i64 x.op,.int .i64 x.a,.int .i64 x.b,.int .i64 x.n,w,.int .i64 x.state]
def eV:tq Vl where
 sz:=6
 rel F h x cs:=∃w,cs=yM x w/\hD eN F h x.args w
 len:=λ⟨_,h,_⟩=>by subst h;rfl
 one:=λ⟨_,h,hs⟩=>by subst h;simp only[yM,fe,hs.one];rfl
 fy:=λa ⟨w,h,hs⟩=>⟨w,h,hs.fy a⟩
 mono:=λb ⟨w,h,hs⟩=>⟨w,h,hs.mono b⟩
def pR(x:Bk)(v n p:V):List V:=[v,.int .i64 x.fin,.int .i64 x.cond,n,p,.int .i64 x.state]
def eK:tq Bk where
 sz:=6
 rel F h x cs:=∃v n p,cs=pR x v n p/\hD eN F h x.ee v/\hD eN F h x.next n/\hD eN F h x.fk p
 len:=λ⟨_,_,_,h,_⟩=>by subst h;rfl
 one:=λ⟨_,_,_,h,a,b,c⟩=>by subst h;simp only[pR,fe,a.one,b.one,c.one];rfl
 fy:=λd ⟨v,n,p,h,a,b,c⟩=>⟨v,n,p,h,a.fy d,b.fy d,c.fy d⟩
 mono:=λe ⟨v,n,p,h,a,b,c⟩=>⟨v,n,p,h,a.mono e,b.mono e,c.mono e⟩
def fmC(x:Fm)(l s:V):List V:=[.int .i64 x.func,.int .i64 x.pc,l,s]
def eF:tq Fm where
 sz:=4
 rel F h x cs:=∃l s,cs=fmC x l s/\hD eN F h x.locals l/\hD eN F h x.stack s
 len:=λ⟨_,_,h,_⟩=>by subst h;rfl
 one:=λ⟨_,_,h,a,b⟩=>by subst h;simp only[fmC,fe,a.one,b.one];rfl
 fy:=λc ⟨l,s,h,a,b⟩=>⟨l,s,h,a.fy c,b.fy c⟩
 mono:=λd ⟨l,s,h,a,b⟩=>⟨l,s,h,a.mono d,b.mono d⟩
def eT:tq (List Fm):=eL eF
theorem BB(F:Nat->Prop)(h:Hp):∀(l:List Nat),rL eN F h (l.map λn=>V.int .i64 (n:Nat)) l
 |[]=>trivial
 |n::l=>⟨[.int .i64 n],_,rfl,rfl,BB F h l⟩
def Loc(v:V)(t:Nat):Prop:=match v with
 | .slice l _ _=>l=t
 |_=>False
@[simp] theorem zhz (t:Nat):Loc .ed t=False:=rfl
@[simp] theorem zgs (l o n t:Nat):Loc (.slice l o n) t=(l=t):=rfl
def pP(E:tq α)(ty:Nat)(F:Nat->Prop)(h:Hp)(xs:List α)(v:V):Prop:=(v = .ed/\xs=[])\/∃t cs,v = .slice t 0 xs.length/\t<h.next/\¬F t/\h.get t=some (.cells ty E.sz true false cs)/\rL E F h cs xs/\gi cs=true
section
variable{α:Type}{E:tq α}{ty:Nat}{F F':Nat->Prop}{h h':Hp}{xs:List α}{v:V}
theorem pP.nil:pP E ty F h [] .ed:= .inl ⟨rfl,rfl⟩
theorem pP.len(a:pP E ty F h xs v):fE v=some (.int .i64 xs.length):=by
 rcases a with⟨rfl,rfl⟩|⟨t,cs,rfl,_⟩ <;> rfl
theorem pP.one(a:pP E ty F h xs v):v.one=true:=by
 rcases a with⟨rfl,rfl⟩|⟨t,cs,rfl,_⟩ <;> rfl
noncomputable def zf9(h:Hp) (l:Nat):Option (Nat×Nat):=match h.get l with
 |some (.cells e sz _ _ _)=>some (e,sz)
 |_=>none
theorem YN{a b:Bool}{cs:List V}(c:h.get l=some (.cells e sz a b cs)):zf9 h l=some (e,sz):=by unfold zf9;rw[c]
theorem pP.TZ(b:pP E ty F h xs v){t:Nat}(a:Loc v t):zf9 h t=some (ty,E.sz)/\t<h.next/\¬F t:=by
 rcases b with⟨rfl,_⟩|⟨t',cs,rfl,c,d,e,_⟩
 ·exact a.elim
 ·obtain rfl:t' = t:=a;exact⟨YN e,c,d⟩
theorem pP.fy(a:pP E ty F h xs v)(b:∀l,F l->h'.get l=h.get l)(hl:∀l,Loc v l->h'.get l=h.get l)(c:h.next<=h'.next):pP E ty F h' xs v:=by
 rcases a with a|⟨t,cs,rfl,d,e,f,g,i⟩
 ·exact .inl a
 ·exact .inr ⟨t,cs,rfl,NY d c,e,by rw[hl t rfl];exact f,g.fy b,i⟩
theorem pP.mono(a:pP E ty F h xs v)(b:∀l,F l->F' l)(c:∀t,Loc v t->¬F' t):pP E ty F' h xs v:=by
 rcases a with a|⟨t,cs,rfl,d,i,e,f,g⟩
 ·exact .inl a
 ·exact .inr ⟨t,cs,rfl,d,c t rfl,e,f.mono b,g⟩
theorem pP.slR(a:pP E ty F h xs v)(b:∀l,F l->F' l)(c:∀t,Loc v t->F' t):hD E F' h xs v:=by
 rcases a with a|⟨t,cs,rfl,f,g,d,e,i⟩
 ·exact .inl a
 ·exact .inr ⟨t,0,ty,true,false,cs,rfl,c t rfl,d,.inr rfl,PM _,by simpa using e.mono b⟩
theorem pP.read(a:pP E ty F h xs v):hD E (λl=>F l\/Loc v l) h xs v:=a.slR (λ_ h=> .inl h) λ_ h=> .inr h
theorem pP.append{iU:Nat}{x:V}{new:List V}{ys:List α}(B:pP E ty F h xs v)(c:mV h E.sz x=some (ys.length,new))(p:rL E F h new ys)(hl:new.length=ys.length*E.sz)(i:gi new=true)(G:0<ys.length)(H:0<E.sz)
  (o:∀l,F l->l<h.next) (y:(xs.length+ys.length)*iU<=70368744177664) (m:xs.length+ys.length<=70368744177664) :
  ∃q h',fg ty E.sz iU v x h=some (.val q h')/\pP E ty F h' (xs++ys) q/\uE (Loc v) h h'/\(∀t,Loc q t->Loc v t\/t=h.next):=by
 have f:Nat.beq ys.length 0=false:=by
  cases hq:ys.length with
  |zero=>omega
  |succ k=>rfl
 rcases B with⟨rfl,rfl⟩|⟨t,cs,rfl,j,r,z,s,g⟩
 ·refine⟨.slice h.next 0 ys.length,h.new (.cells ty E.sz true false new),?_,.inr ⟨h.next,new,by simp,TU _,λb=>wB2 _ (o _ b),fh _ _,?_,i⟩,uE.new _ _,λt C=> .inr C.symm⟩
  ·unfold fg;simp only[c,eQ,f,i,MY];rw[Al _ (wAh (by simpa using y)),Al _ (wAh (by simpa using m))]
  ·exact p.fy λl b=>fi _ (o l b)
 ·have D:=s.length;have A:(xs.length+ys.length)*E.sz=xs.length*E.sz+ys.length*E.sz:=ZX _ _ _
  cases hroom:Nat.ble (Nat.add 0 (Nat.mul (Nat.add xs.length ys.length) E.sz)) cs.length with
  | true=>
    have I:(xs.length+ys.length)*E.sz<=cs.length:=by
      have:=Oz hroom;show _<=_;rw[show Nat.add 0 (Nat.mul (Nat.add xs.length ys.length) E.sz)=(xs.length+ys.length)*E.sz from Jn _]at this;exact this
    refine ⟨.slice t 0 (xs.length+ys.length),h.put t (.cells ty E.sz true false (cs.take (xs.length*E.sz)++new++cs.drop (xs.length*E.sz+new.length))),?_,
      .inr ⟨t,_,by simp,j,r,iB _ j,?_,?_⟩,uE.put _ rfl j,λ_ h=> .inl h⟩
    ·unfold fg kR
     have u:sV (Nat.add 0 (Nat.mul xs.length E.sz)) cs new=some (cs.take (xs.length*E.sz)++new++cs.drop (xs.length*E.sz+new.length)):=by
       rw[show Nat.add 0 (Nat.mul xs.length E.sz)=xs.length*E.sz from Jn _];exact EP (by rw[hl];omega)
     simp only[c,eQ,f,i,MY,z,Bool.not_false,hroom,u];rw[Al _ (wBh _)];rfl
    ·refine rL.fy (h:=h) (λl b=>lE _ j λe=>r (e▸b)) ?_
     rw[Cy];exact s.take.append (by rw[TV];omega) p.more
    ·rw[qL,qL,i]
     have e1:∀(l:List V),gi l=l.all V.one:=λl=>by
       induction l with
       |nil=>rfl
       |cons a l w=>rw[fe,w];rfl
     rw[e1]at g⊢;rw[e1];rw[Sx]at g;simp only[Bool.and_true,yF,Sx]
     exact⟨λx c=>g x (wBq c),λx c=>g x (List.mem_of_mem_drop c)⟩
  | false=>
    have e1:∀(l:List V),gi l=l.all V.one:=λl=>by
      induction l with
      |nil=>rfl
      |cons a l w=>rw[fe,w];rfl
    have d:gi (cs.take (xs.length*E.sz))=true:=by
      rw[e1]at g⊢;rw[Sx]at g⊢;exact λx c=>g x (wBq c)
    refine ⟨.slice h.next 0 (xs.length+ys.length),(h.put t (.cells ty E.sz false false cs)).new (.cells ty E.sz true false (cs.take (xs.length*E.sz)++new)),?_,
      .inr ⟨h.next,_,by simp,TU _,λb=>wB2 _ (o _ b),fh (h.put t _) _,?_,by rw[qL,d,i];rfl⟩,
      (uE.put (S:=Loc (.slice t 0 xs.length)) (.cells ty E.sz false false cs) rfl j).trans (uE.new _ _),λ_ h=> .inr h.symm⟩
    ·unfold fg kR
     have n:sub cs 0 (Nat.mul xs.length E.sz)=some (cs.take (xs.length*E.sz)):=by
       show sub cs 0 (xs.length*E.sz)=_;rw[I4 (show 0+xs.length*E.sz<=cs.length by omega),wBT]
     simp only[c,eQ,f,i,MY,z,Bool.not_false,hroom,n,d];rw[Al _ (wBh _),Al _ (show Nat.ble (Nat.mul (Nat.add xs.length ys.length) iU) 70368744177664=true from wAh y),Al _ (show Nat.ble (Nat.add xs.length ys.length) 70368744177664=true from wAh m)];rfl
    ·refine rL.fy (h:=h) (λl b=>?_) ?_
     ·rw[fi _ (show l<(h.put t _).next from o l b),lE _ j λe=>r (e▸b)]
     ·exact s.take.append (by rw[TV];omega) p
theorem pP.cut(d:pP E ty F h xs v){n:Nat}(a:n<=xs.length):∃b,jw E.sz v none (some (.int .i64 n)) h=some b/\pP E ty F h (xs.take n) b/\∀t,Loc b t->Loc v t:=by
 rcases d with⟨rfl,rfl⟩|⟨t,cs,rfl,e,f,c,g,i⟩
 ·obtain rfl:n=0:=by simpa using a
  exact⟨.ed,rfl,.inl ⟨rfl,rfl⟩,λ_ h=>h⟩
 ·refine⟨.slice t 0 n,?_,.inr ⟨t,cs,by rw[TV,wBU a],e,f,c,g.taken n,i⟩,λ_ h=>h⟩;unfold jw kR;simp only[c,eQ,OF,S4];rw[Al _ (wBh _),Al _ (wAh (PM _)),Al _ (by rw[wAh a];rfl)];simp
theorem pP.store(n:pP E ty F h xs v){i k:Nat}{y:α}{u:V}(hi:i<xs.length)(B:k<E.sz)(f:u.one=true)(o:∀w,E.rel F h xs[i] w->E.rel F h y (w.set k u)) :
  ∃t h',Loc v t/\gM E.sz v (.int .i64 i)=some (.ptr t (i*E.sz))/\gj 1 (.ptr t (i*E.sz+k)) u h=some (.val .undef h')/\pP E ty F h' (xs.set i y) v/\uE (Loc v) h h':=by
 rcases n with⟨rfl,rfl⟩|⟨t,cs,rfl,c,g,p,j,d⟩
 ·simp at hi
 ·obtain ⟨w,q,C,m⟩:=j.get (i:=i) (x:=xs[i]) (hZ hi);have b:cs.set (i*E.sz+k) u=cs.take (i*E.sz)++w.set k u++cs.drop (i*E.sz+E.sz):=by
   have e0:cs=cs.take (i*E.sz)++(w++cs.drop (i*E.sz+E.sz)):=by
    rw[<-q]
    conv=>lhs;rw[<-wAu (i*E.sz) cs]
    congr 1;rw[<-wBi,wAu]
   have D:=E.len m
   conv=>lhs;rw[e0]
   rw[List.set_append_right _ _ (by rw[TV];omega),TV,wBU (by omega),wBP,List.set_append_left _ _ (by omega),Cy]
  refine⟨t,h.put t (.cells ty E.sz true false (cs.set (i*E.sz+k) u)),rfl,by rw[wz _ _ _ _ _ _ hi,Jn],PY p (by omega) f,.inr ⟨t,_,by simp,c,g,iB _ c,?_,?_⟩,uE.put _ rfl c⟩
  ·refine rL.fy (h:=h) (λl r=>lE _ c λe=>g (e▸r)) ?_;rw[b];exact j.set hi (o w m)
  ·have e1:∀(l:List V),gi l=l.all V.one:=λl=>by
    induction l with
    |nil=>rfl
    |cons a l s=>rw[fe,s];rfl
   rw[e1]at d⊢;rw[Sx]at d⊢;intro x z;rcases wBG z with A|rfl
   ·exact d x A
   ·exact f
abbrev fN:Nat:=3
abbrev hV:Nat:=4
abbrev lF:Nat:=22
abbrev zc9:Nat:=34
abbrev Ay:Nat:=81
abbrev AI:Nat:=79
abbrev Pw:Nat:=88
abbrev zeH:Nat:=85
abbrev VY:Nat:=24
abbrev CC:Nat:=157
abbrev im:Nat:=130
abbrev mG:Nat:=154
abbrev zhF:Nat:=164
abbrev zco:Nat:=162
abbrev y5:Nat:=37
abbrev zhv:Nat:=132
structure Pc where
 pS:Nat->Prop
 ok:(Nat->Prop)->Hp->Prop
 FK:∀{F:Nat->Prop} {h:Hp},ok F h->∀l,pS l->l<h.next/\¬F l
 fy:∀{F:Nat->Prop} {h h':Hp},ok F h->(∀l,F l->h'.get l=h.get l)->(∀l,pS l->h'.get l=h.get l)->h.next<=h'.next->ok F h'
 mono:∀{F F':Nat->Prop} {h:Hp},ok F h->(∀l,F l->F' l)->(∀l,pS l->¬F' l)->ok F' h
def emp:Pc:=⟨λ_=>False,λ_ _=>True,by simp_all,by simp_all,by simp_all⟩
def eD(l ty:Nat)(vs:List V):Pc where
 pS:=λm=>m=l
 ok F h:=h.get l=some (.cells ty 1 true false vs)/\l<h.next/\¬F l
 FK:=by simp_all
 fy:=by grind
 mono:=by simp_all
def ft(E:tq α)(ty:Nat)(xs:List α)(v:V):Pc where
 pS:=Loc v
 ok F h:=pP E ty F h xs v
 FK:=λh _ hl=>(h.TZ hl).2
 fy:=by grind[pP.fy]
 mono:=by grind[pP.mono]
def zca(E:tq α)(xs:List α)(v:V):Pc where
 pS:=λ_=>False
 ok F h:=hD E F h xs v
 FK:=by simp_all
 fy:=by grind[hD.fy]
 mono:=by grind[hD.mono]
def MT(S:Nat->Prop)(h0:Hp):Pc where
 pS:=S
 ok F h:=∀l,S l->h.get l=h0.get l/\l<h.next/\¬F l
 FK:=by simp_all
 fy:=by grind
 mono:=by simp_all
structure Sn (F:Nat->Prop) (h:Hp) (F':Nat->Prop) (h':Hp):Prop where
 next:h.next<=h'.next
 fy:∀l,F l->h'.get l=h.get l
 mono:∀l,F l->F' l
theorem Sn.refl(F:Nat->Prop)(h:Hp):Sn F h F h:=⟨jJ _,by simp_all,λ_ h=>h⟩
theorem Sn.trans{F F' c:Nat->Prop} {h h' d:Hp}(a:Sn F h F' h')(b:Sn F' h' c d):Sn F h c d:=
 ⟨OA a.next b.next,λl hl=>(b.fy l (a.mono l hl)).trans (a.fy l hl),λl hl=>b.mono l (a.mono l hl)⟩
structure ej (F:Nat->Prop) (h:Hp) (cs:List Pc):Prop where
 fl:∀l,F l->l<h.next
 ok:∀(i:Nat) c,cs[i]? =some c->c.ok F h
 Hj:∀(i j:Nat) c d,cs[i]? =some c->cs[j]? =some d->i≠j->∀l,c.pS l->¬d.pS l
end
section
variable{F F':Nat->Prop}{h h':Hp}{cs:List Pc}{i j:Nat}{c d p:Pc}
theorem N7{cs:List Pc}{i:Nat}{p:Pc}{j:Nat}{d:Pc}(hd:(cs.set i p)[j]? =some d):(j=i/\d=p)\/(j≠i/\cs[j]? =some d):=by
 grind
theorem ej.nil(a:∀l,F l->l<h.next):ej F h []:=⟨a,by simp_all,by simp_all⟩
theorem ej.cons(H:ej F h cs)(b:p.ok F h)(hp:∀(i:Nat) c,cs[i]? =some c->∀l,p.pS l->¬c.pS l):ej F h (p::cs) where
 fl:=H.fl
 ok:=λi c hc=>by
  cases i with
  |zero=>simp_all
  |succ i=>exact H.ok i c hc
 Hj:=λi j c d hc hd e l hl a=>by
  cases i with
  | zero=>
    grind
  | succ i=>
    cases j with
    |zero=>grind
    |succ j=>exact H.Hj i j c d hc hd (by omega) l hl a
theorem ej.tail(H:ej F h (p::cs)):ej F h cs where
 fl:=H.fl
 ok:=λi c hc=>H.ok (i+1) c hc
 Hj:=λi j c d hc hd a=>H.Hj (i+1) (j+1) c d hc hd (by omega)
theorem ej.add(H:ej F h cs)(a:p.ok F h)(hp:∀l,¬p.pS l):ej F h (p::cs):=H.cons a (by simp_all)
theorem ej.swap(H:ej F h cs)(hi:cs[i]? =some c)(o:p.ok F h)(hp:∀l,p.pS l->c.pS l):ej F h (cs.set i p) where
 fl:=H.fl
 ok:=λj d hd=>by
  rcases N7 hd with⟨_,rfl⟩|⟨_,f⟩
  ·exact o
  ·exact H.ok j d f
 Hj:=λj k a b q m g l hl e=>by
  rcases N7 q with⟨e1,rfl⟩|⟨e1,n⟩
  ·rcases N7 m with⟨e2,_⟩|⟨_,f⟩
   ·omega
   ·subst e1;exact H.Hj j k c b hi f g l (hp l hl) e
  ·rcases N7 m with⟨e2,rfl⟩|⟨_,f⟩
   ·subst e2;exact H.Hj j k a c n hi g l hl (hp l e)
   ·exact H.Hj j k a b n f g l hl e
theorem ej.forget(H:ej F h cs)(hi:cs[i]? =some c):ej F h (cs.set i emp):=H.swap hi trivial λ_ h=>h.elim
theorem ej.zeg(H:ej F h cs)(hi:cs[i]? =some c)(hc:uE c.pS h h')(q:∀l,F l->F' l)(m:∀l,F' l->F l\/c.pS l\/(h.next<=l/\l<h'.next))(w:p.ok F' h')(hp:∀l,p.pS l->c.pS l\/h.next<=l):ej F' h' (cs.set i p)/\Sn F h F' h':=by
 have n:=H.ok i c hi;have r:=λl hl=>hc.fy l (H.fl l hl) λhs=>(c.FK n l hs).2 hl;have other:∀j d,j≠i->cs[j]? =some d->d.ok F' h'/\∀l,d.pS l->¬p.pS l:=λj d s hd=>by
  have g:=H.ok j d hd;have o:=H.Hj j i d c hd hi s;refine⟨d.mono (d.fy g r (λl hl=>hc.fy l (d.FK g l hl).1 (o l hl)) hc.next) q λl hl e=>?_,λl hl e=>?_⟩
  ·rcases m l e with f|f|f
   ·exact(d.FK g l hl).2 f
   ·simp_all
   ·have:=(d.FK g l hl).1;omega
  ·rcases hp l e with f|f
   ·simp_all
   ·have:=(d.FK g l hl).1;omega
 refine⟨⟨λl hl=>?_,λj d hd=>?_,λj k a b t u v l hl e=>?_⟩,⟨hc.next,r,q⟩⟩
 ·rcases m l hl with f|f|f
  ·exact NY (H.fl l f) hc.next
  ·exact NY (c.FK n l f).1 hc.next
  omega
 ·grind
 ·rcases N7 t with⟨e1,rfl⟩|⟨e1,g⟩
  ·grind
  ·rcases N7 u with⟨e2,rfl⟩|⟨_,o⟩
   ·grind
   ·exact H.Hj j k a b g o v l hl e
theorem ej.z8(H:ej F h cs)(hi:cs[i]? =some c)(hc:uE c.pS h h')(a:p.ok F h')(hp:∀l,p.pS l->c.pS l\/h.next<=l):ej F h' (cs.set i p)/\Sn F h F h':=
 H.zeg hi hc (by simp_all) (by simp_all) a hp
theorem ej.grow(H:ej F h cs)(a:SK h h'):ej F h' cs/\Sn F h F h':=by
 have b:=λl hl=>a.fy l (H.fl l hl) id;exact⟨⟨λl hl=>NY (H.fl l hl) a.next,λj d hd=>d.fy (H.ok j d hd) b (λl hl=>a.fy l (d.FK (H.ok j d hd) l hl).1 id) a.next,H.Hj⟩,⟨a.next,b,λ_ h=>h⟩⟩
theorem ej.new(H:ej F h cs)(o:O)(b:p.ok F (h.new o))(hp:∀l,p.pS l->l=h.next):ej F (h.new o) (p::cs)/\Sn F h F (h.new o):=by
 let⟨c,e⟩:=H.grow (uE.new h o)
 refine⟨c.cons b λj d hd l hl a=>?_,e⟩;have:=(d.FK (H.ok j d hd) l a).1
 grind
theorem ej.fresh(H:ej F h cs):¬F h.next:=λa=>wB2 _ (H.fl _ a)
theorem ej.xC(H:ej F h cs)(ty:Nat)(vs:List V):ej F (h.new (.cells ty 1 true false vs)) (eD h.next ty vs::cs)/\Sn F h F (h.new (.cells ty 1 true false vs)):=
 H.new _ ⟨fh _ _,TU _,H.fresh⟩ λ_ e=>e
theorem ej.Ra(H:ej F h cs){α:Type}{E:tq α}(ty:Nat){xs:List α}{ws:List V}{n:Nat}(a:n=xs.length)(b:rL E F h ws xs)(c:gi ws=true) :
  ej F (h.new (.cells ty E.sz true false ws)) (ft E ty xs (.slice h.next 0 n)::cs)/\Sn F h F (h.new (.cells ty E.sz true false ws)):=by
 subst a;exact H.new _ (.inr ⟨h.next,ws,rfl,TU _,H.fresh,fh _ _,b.fy λl hl=>fi _ (H.fl l hl),c⟩) λ_ e=>e.symm
theorem ej.zaU(H:ej F h cs){α:Type}{E:tq α}(ty:Nat){xs:List α}{ws:List V}{n:Nat}(c:n=xs.length)(e:rL E F h ws xs)(ro:Bool) :
  ej (λl=>F l\/l=h.next) (h.new (.cells ty E.sz true ro ws)) cs/\Sn F h (λl=>F l\/l=h.next) (h.new (.cells ty E.sz true ro ws))/\hD E (λl=>F l\/l=h.next) (h.new (.cells ty E.sz true ro ws)) xs (.slice h.next 0 n):=by
 subst c
 let⟨a,b⟩:=H.grow (uE.new h (.cells ty E.sz true ro ws))
 refine⟨⟨λl hl=>?_,λj d hd=>d.mono (a.ok j d hd) (by simp_all) λl hl f=>?_,a.Hj⟩,⟨b.next,b.fy,by simp_all⟩,?_⟩
 ·rcases hl with hl|rfl
  ·exact a.fl l hl
  simp_all
 ·have g:=d.FK (H.ok j d hd) l hl
  simp_all
 ·exact .inr ⟨h.next,0,ty,true,ro,ws,rfl,.inr rfl,fh _ _,.inr rfl,PM _,by rw[wBT];exact(e.fy λl hl=>fi _ (H.fl l hl)).mono (by simp_all)⟩
theorem ej.get(H:ej F h cs)(i:Nat){l ty:Nat}{vs:List V}(hi:cs[i]? =some (eD l ty vs)):h.get l=some (.cells ty 1 true false vs):=(H.ok i _ hi).1
theorem ej.ld(H:ej F h cs)(i:Nat){l ty o:Nat}{vs:List V}{u:V}(hi:cs[i]? =some (eD l ty vs))(a:vs[o]? =some u):ez (.ptr l o) h=some u:=lK (H.get i hi) a
theorem ej.tj(H:ej F h cs)(i:Nat){l ty n:Nat}{vs:List V}(hi:cs[i]? =some (eD l ty vs))(a:vs.length=n):fZ n (.ptr l 0) h=some (.agg vs):=IP (H.get i hi) a
theorem ej.st(H:ej F h cs)(i:Nat){l ty o:Nat}{vs:List V}{u:V}(hi:cs[i]? =some (eD l ty vs))(b:o<vs.length)(c:u.one=true) :
  ∃h',gj 1 (.ptr l o) u h=some (.val .undef h')/\h.next<=h'.next/\ej F h' (cs.set i (eD l ty (vs.set o u)))/\Sn F h F h':=by
 have a:=H.ok i _ hi;refine⟨_,PY a.1 b c,jJ _,H.z8 hi (uE.put _ rfl a.2.1) ⟨iB _ a.2.1,a.2.1,a.2.2⟩ λ_ h=> .inl h⟩
theorem ej.stk(H:ej F h cs)(i:Nat){l ty o:Nat}{vs:List V}{u:V}(hi:cs[i]? =some (eD l ty vs))(b:o<vs.length)(c:u.one=true) :
  ∃h',gj 1 (.ptr l o) u h=some (.val .undef h')/\h.next<=h'.next/\ej F h' (cs.set i (eD l ty (vs.set o u)))/\Sn F h F h'/\∀m,m≠l->h'.get m=h.get m:=by
 have a:=H.ok i _ hi
 let⟨d,e⟩:=H.z8 (p:=eD l ty (vs.set o u)) hi (uE.put _ rfl a.2.1) ⟨iB _ a.2.1,a.2.1,a.2.2⟩ λ_ h=> .inl h
 exact⟨_,PY a.1 b c,jJ _,d,e,λm f=>lE _ a.2.1 (by omega)⟩
theorem ej.Tw(H:ej F h cs)(i:Nat){l ty n:Nat}{vs ws:List V}(hi:cs[i]? =some (eD l ty vs))(b:ws.length=n)(hv:vs.length=n)(c:gi ws=true) :
  ∃h',gj n (.ptr l 0) (.agg ws) h=some (.val .undef h')/\h.next<=h'.next/\ej F h' (cs.set i (eD l ty ws))/\Sn F h F h':=by
 have a:=H.ok i _ hi;refine⟨_,Y3 a.1 b hv c,jJ _,H.z8 hi (uE.put _ rfl a.2.1) ⟨iB _ a.2.1,a.2.1,a.2.2⟩ λ_ h=> .inl h⟩
theorem ej.Co(H:ej F h cs)(i:Nat){l ty:Nat}{vs:List V}(hi:cs[i]? =some (eD l ty vs)):ej (λm=>F m\/m=l) h (cs.set i emp)/\Sn F h (λm=>F m\/m=l) h:=
 H.zeg hi (uE.refl _ _) (by simp_all) (λ_ h=>h.imp id .inl) trivial λ_ h=>h.elim
section
variable{α:Type}{E:tq α}{ty:Nat}{xs:List α}{v:V}
theorem ej.row(H:ej F h cs)(i:Nat)(hi:cs[i]? =some (ft E ty xs v)):pP E ty F h xs v:=H.ok i _ hi
theorem ej.len(H:ej F h cs)(i:Nat)(hi:cs[i]? =some (ft E ty xs v)):fE v=some (.int .i64 xs.length):=(H.row i hi).len
theorem ej.one(H:ej F h cs)(i:Nat)(hi:cs[i]? =some (ft E ty xs v)):v.one=true:=(H.row i hi).one
theorem ej.ix(H:ej F h cs)(i:Nat)(hi:cs[i]? =some (ft E ty xs v)){k:Nat}(b:k<xs.length)(a:IntKind) :
  ∃l o w,gM E.sz v (.int a k)=some (.ptr l o)/\fZ E.sz (.ptr l o) h=some (.agg w)/\E.rel (λl=>F l\/Loc v l) h xs[k] w/\∀j u,w[j]? =some u->ez (.ptr l (o+j)) h=some u:=by
 let⟨l,o,w,_,c,d,e,f⟩:=(H.row i hi).read.ix b a
 grind
theorem ej.Yt(H:ej F h cs)(i:Nat)(hi:cs[i]? =some (ft E ty xs v)){k:Nat}(b:k<xs.length)(a:IntKind)(c:E.sz=1) :
  ∃l o u,gM 1 v (.int a k)=some (.ptr l o)/\ez (.ptr l o) h=some u/\E.rel (λl=>F l\/Loc v l) h xs[k] [u]:=by
 let⟨l,o,u,_,d,e,f⟩:=(H.row i hi).read.Yt b a c
 grind
theorem ej.M7(H:ej F h cs)(i:Nat)(hi:cs[i]? =some (ft E ty xs v)){k:Nat}(e:k<xs.length)(a:E.sz=1){y:α}{u:V}(f:u.one=true)(g:E.rel F h y [u]) :
  ∃l o h',gM 1 v (.int .i64 k)=some (.ptr l o)/\gj 1 (.ptr l o) u h=some (.val .undef h')/\h.next<=h'.next/\ej F h' (cs.set i (ft E ty (xs.set k y) v))/\Sn F h F h':=by
 let ⟨t,h',n,b,c,j,d⟩:=(H.row i hi).store (k:=0) (y:=y) e (by omega) f (λw m=>by
  have hl:=E.len m;rw[a]at hl
  match w,hl with
  |[x],_=>exact g)
 rw[a]at b c;exact⟨t,k*1,h',b,c,d.next,H.z8 hi d j λ_ h=> .inl h⟩
end
end
section
variable{F F':Nat->Prop}{h h':Hp}{cs:List Pc}{α:Type}{E:tq α}{ty:Nat}{xs ys:List α}{v x:V}
theorem rL.one:∀{xs:List α}{ws:List V},rL E F h ws xs->ws.length=xs.length*E.sz->gi ws=true
 | [],ws,_,hl=>by
   simp_all
 | y::xs,ws,⟨w,r,b,a,c⟩,hl=>by
   subst b;have d:=E.len a;rw[qL,E.one a,rL.one c (by grind)];rfl
theorem rL.rep{y:α}(a:E.rel F h y [u]):∀n,rL E F h (List.replicate n u) (List.replicate n y)
 |0=>trivial
 |n+1=>⟨[u],_,rfl,a,rL.rep a n⟩
theorem Lq(a:u.one=true):∀n,gi (List.replicate n u)=true
 |0=>rfl
 |n+1=>by rw[List.replicate_succ,fe,a,Lq a n];rfl
theorem Fv{off n MB:Nat}{ro:Bool}{ds:List V}(a:h.get l=some (.cells MB sz true ro ds))(hl:off+n*sz<=ds.length):∃new,mV h sz (.slice l off n)=some (n,new)/\new=(ds.drop off).take (n*sz):=by
 cases n with
 |zero=>exact⟨_,rfl,by simp⟩
 | succ n=>
   refine⟨_,?_,rfl⟩;unfold mV Mb kR;have:=I4 hl
   simp_all
theorem hD.xc(hs:hD E F h ys x):∃new,mV h E.sz x=some (ys.length,new)/\rL E F h new ys/\new.length=ys.length*E.sz:=by
 rcases hs with⟨rfl,rfl⟩|⟨l,off,MB,live,ro,ds,rfl,e,b,c,f,a⟩
 ·exact⟨[],rfl,trivial,by simp⟩
 ·have d:=a.length;rw[wBn]at d;rcases c with rfl|rfl
  ·exact⟨[],rfl,trivial,by simp⟩
  ·let⟨new,e1,e2⟩:=Fv (n:=ys.length) (off:=off) b (by omega)
   exact⟨new,e1,by rw[e2];exact a.take,by simp_all⟩
theorem pP.xc(hs:pP E ty F h ys x):∃new,mV h E.sz x=some (ys.length,new)/\rL E F h new ys/\new.length=ys.length*E.sz:=by
 rcases hs with⟨rfl,rfl⟩|⟨t,ds,rfl,c,d,b,a,e⟩
 ·exact⟨[],rfl,trivial,by simp⟩
 ·have f:=a.length
  let⟨new,e1,e2⟩:=Fv (n:=ys.length) (off:=0) b (by omega)
  refine⟨new,e1,by rw[e2,wBT];exact a.take,by simp_all⟩
theorem YD{w:V}(a:z.one=true)(b:w.one=true):iO e 1 1 z [(0,w)]=some (.cells e 1 true false [w],λl=> .slice l 0 1):=by
 unfold iO;simp only[yd,eQ,tD a,tD b];rw[Al _ (by rfl)];show oB (oB (some [w]) λcs=>some cs) _=_
 simp_all
theorem za:iO e sz 0 z []=some (.cells e sz true false [],λl=> .slice l 0 0):=rfl
theorem ej.app(H:ej F h cs)(i:Nat)(hi:cs[i]? =some (ft E ty xs v)){iU:Nat}{new:List V}(d:mV h E.sz x=some (ys.length,new))(e:rL E F h new ys)(hl:new.length=ys.length*E.sz)
  (g:0<E.sz) (j:iU<=1000) (b:xs.length+ys.length<=10000000) :
  ∃a h',fg ty E.sz iU v x h=some (.val a h')/\h.next<=h'.next/\ej F h' (cs.set i (ft E ty (xs++ys) a))/\Sn F h F h':=by
 have c:=H.row i hi;by_cases hk:0<ys.length
 ·have k:=Nat.mul_le_mul b j
  let⟨a,h',e1,m,f,n⟩:=c.append (iU:=iU) d e hl (e.one hl) hk g H.fl (by omega) (by omega)
  let⟨o,q⟩:=H.z8 (p:=ft E ty (xs++ys) a) hi f m λl hl=>(n l hl).imp id (by omega)
  exact⟨a,h',e1,f.next,o,q⟩
 ·have e0:ys=[]:=by simp_all
  subst e0;refine⟨v,h,?_,jJ _,by rw[Ku];exact H.swap hi c λ_ h=>h,Sn.refl _ _⟩;unfold fg;rw[d];rcases c with⟨rfl,_⟩|⟨t,ds,rfl,_⟩ <;> rfl
theorem ej.WI(H:ej F h cs)(i:Nat)(hi:cs[i]? =some (ft E ty xs v)){iU:Nat}(hs:hD E F h ys x)(c:0<E.sz)(d:iU<=1000)(a:xs.length+ys.length<=10000000) :
  ∃b h',fg ty E.sz iU v x h=some (.val b h')/\h.next<=h'.next/\ej F h' (cs.set i (ft E ty (xs++ys) b))/\Sn F h F h':=by
 let⟨new,e1,e2,e⟩:=hs.xc
 exact H.app i hi e1 e2 e c d a
theorem ej.zeP(H:ej F h cs)(i j:Nat)(hi:cs[i]? =some (ft E ty xs v)){c:Nat}(d:cs[j]? =some (ft E c ys x)){iU:Nat}(e:0<E.sz)(f:iU<=1000)(a:xs.length+ys.length<=10000000) :
  ∃b h',fg ty E.sz iU v x h=some (.val b h')/\h.next<=h'.next/\ej F h' (cs.set i (ft E ty (xs++ys) b))/\Sn F h F h':=by
 let⟨new,e1,e2,g⟩:=(H.row j d).xc
 exact H.app i hi e1 e2 g e f a
theorem ej.pT(H:ej F h cs)(i:Nat)(hi:cs[i]? =some (ft E ty xs v)){iU MB:Nat}{y:α}{w:List V}{ro:Bool}(b:E.rel F h y w)(c:0<E.sz)(d:iU<=1000)(e:xs.length<1000000) :
  ∃a h',fg ty E.sz iU v (.slice h.next 0 1) (h.new (.cells MB E.sz true ro w))=some (.val a h')/\h.next+1<=h'.next/\ej F h' (cs.set i (ft E ty (xs++[y]) a))/\Sn F h F h':=by
 let⟨f,s1⟩:=H.grow (uE.new h (.cells MB E.sz true ro w))
 have g:mV (h.new (.cells MB E.sz true ro w)) E.sz (.slice h.next 0 1)=some (1,w):=rP (by rw[E.len b];simp)
 let⟨a,h',e1,e2,j,k⟩:=f.app (ys:=[y]) i hi g ⟨w,[],by simp,E.fy (λl hl=>fi _ (H.fl l hl)) b,trivial⟩ (by rw[E.len b];simp) c d (by simp;omega)
 exact⟨a,h',e1,e2,j,s1.trans k⟩
theorem ej.zd0(H:ej F h cs)(i:Nat)(hi:cs[i]? =some (ft E ty xs v)){n:Nat}(b:n<=xs.length) :
  ∃a,jw E.sz v none (some (.int .i64 n)) h=some a/\ej F h (cs.set i (ft E ty (xs.take n) a)):=by
 let⟨a,c,d,e⟩:=(H.row i hi).cut b
 exact⟨a,c,H.swap hi d e⟩
theorem ej.hY(H:ej F h cs)(i:Nat)(hi:cs[i]? =some (ft E ty xs v)):ej (λl=>F l\/Loc v l) h (cs.set i emp)/\Sn F h (λl=>F l\/Loc v l) h/\hD E (λl=>F l\/Loc v l) h xs v:=by
 let⟨a,b⟩:=H.zeg (p:=emp) (F':=λl=>F l\/Loc v l) hi (uE.refl _ _) (by simp_all) (λ_ h=>h.imp id .inl) trivial λ_ h=>h.elim
 exact⟨a,b,(H.row i hi).read⟩
theorem ej.make(H:ej F h cs){y:α}{u:V}(n:Nat)(a:E.rel F h y [u])(c:E.sz=1):ej F (h.new (.cells ty 1 true false (List.replicate n u))) (ft E ty (List.replicate n y) (.slice h.next 0 n)::cs)/\Sn F h F (h.new (.cells ty 1 true false (List.replicate n u))):=by
 have b:=E.one a;rw[fe,yF]at b;have:=H.Ra ty (n:=n) (by simp) (rL.rep a n) (Lq b.1 n)
 simp_all
theorem pG{iU n:Nat}(c:z.one=true)(a:iU<=100)(b:n<=1000000) :
  jy e 1 iU z (.int .i64 (n:Int)) (.int .i64 (n:Int))=some (O.cells e 1 true false (List.replicate n z),λl=>V.slice l 0 n):=by
 have:=Nat.mul_le_mul b a
 grind[Rv,tD,zbG]
theorem gz{o:Nat}(hl:ez (.ptr l o) h=some u)(a:h'.get l=h.get l):ez (.ptr l o) h' = some u:=by
 grind[ez,ld1,kR,JB]
theorem Jh{o n:Nat}(hl:fZ n (.ptr l o) h=some u)(a:h'.get l=h.get l):fZ n (.ptr l o) h' = some u:=by
 grind[fZ,Mb,kR,JB]
theorem ze8(cs:List Pc):∀(a:List Nat),(∀m∈a,m<cs.length)->(a.filterMap λm=>cs[m]?).length=a.length/\∀i:Nat,(a.filterMap λm=>cs[m]?)[i]? = (a[i]?).bind λm=>cs[m]?
 |[],_=>by simp_all
 | m::a,hm=>by
   let⟨b,c⟩:=ze8 cs a (by simp_all)
   grind
theorem ej.re(H:ej F h cs){ds:List Pc}(m:Nat->Nat)(a:∀i c,ds[i]? =some c->cs[m i]? =some c)(b:∀i j,i<ds.length->j<ds.length->m i=m j->i=j):ej F h ds where
 fl:=H.fl
 ok i c hc:=H.ok (m i) c (a i c hc)
 Hj i j c d hc hd hn:=H.Hj (m i) (m j) c d (a i c hc) (a j d hd) λe=>hn (b i j (ke.1 hc).1 (ke.1 hd).1 e)
theorem ej.perm(H:ej F h cs)(a:List Nat)(k:Nat)(d:∀m∈a,m<k)(b:a.Nodup)(f:k<=cs.length):ej F h ((a.filterMap λm=>cs[m]?)++cs.drop k):=by
 let⟨l,n⟩:=ze8 cs a (by grind)
 refine H.re (λi=>if i<a.length then a.getD i 0 else k+(i-a.length)) (λi c hc=>?_) λi j _ _ e=>?_
 ·grind
 ·have g:∀i,i<a.length->a.getD i 0<k/\a[i]? =some (a.getD i 0):=by simp_all
  by_cases hi:i<a.length
  ·rw[if_pos hi]at e;by_cases hj:j<a.length
   ·rw[if_pos hj]at e;exact(wBz hi b).1 (by rw[(g i hi).2,(g j hj).2,e])
   grind
  grind
def up{ι:Type}[DecidableEq ι] (f:ι->Option α)(i:ι)(x:Option α):ι->Option α:=λj=>if j=i then x else f j
@[simp] theorem zhy {ι α:Type} [DecidableEq ι] (f:ι->Option α) (i:ι) (x:Option α):up f i x i=x:=if_pos rfl
variable{p q:Pc}
theorem ej.sw(H:ej F h (p::q::cs)):ej F h (q::p::cs) where
 fl:=H.fl
 ok:=λi c hc=>by
  match i,hc with
  |0,hc=>exact H.ok 1 c hc
  |1,hc=>exact H.ok 0 c hc
  |i+2,hc=>exact H.ok (i+2) c hc
 Hj:=λi j c d hc hd a=>by
  match i,j,hc,hd with
  |0,0,_,_=>omega
  |0,1,hc,hd=>exact H.Hj 1 0 c d hc hd (by omega)
  |0,j+2,hc,hd=>exact H.Hj 1 (j+2) c d hc hd (by omega)
  |1,0,hc,hd=>exact H.Hj 0 1 c d hc hd (by omega)
  |1,1,_,_=>omega
  |1,j+2,hc,hd=>exact H.Hj 0 (j+2) c d hc hd (by omega)
  |i+2,0,hc,hd=>exact H.Hj (i+2) 1 c d hc hd (by omega)
  |i+2,1,hc,hd=>exact H.Hj (i+2) 0 c d hc hd (by omega)
  |i+2,j+2,hc,hd=>exact H.Hj (i+2) (j+2) c d hc hd a
theorem ej.Eu(H:ej F h (p::q::cs)):ej F h (p::cs):=H.sw.tail
variable{ι:Type}{f:ι->Option (List Nat×V)}{xs:List Nat}
structure Rw where
 vv:V
 vb:V
 vs:V
 vk:V
 vc:V
 vp:V
 cc:V
def comp(lu iI kj:Nat)(R:Rw):Nat->Nat->Prop
 |0,l=>l=lu
 |1,l=>l=iI
 |2,l=>l=kj
 |3,l=>Loc R.vv l
 |4,l=>Loc R.vb l
 |5,l=>Loc R.vs l
 |6,l=>Loc R.vk l
 |7,l=>Loc R.vc l
 |_,_=>False
abbrev RR(lu iI kj:Nat) (t:Dt) (R:Rw):List Pc:=
 [eD lu zc9 [.int .i64 1,.int .i64 2,R.vv,R.vb,R.vs],eD iI lF [R.vk],eD kj AI [R.cc,.int .i64 0,.int .i64 0,.ed,R.vp,.int .i64 0],ft eV Ay t.s.ee R.vv,ft eK AI t.blocks R.vb,ft eT Pw t.s.eE R.vs,ft eN fN t.s.known R.vk,ft eN fN t.s.cur R.vc,zca eN t.fk R.vp]
structure Dw (F G:Nat->Prop) (h:Hp) (lu iI kj:Nat) (t:Dt) (R:Rw):Prop where
 H:ej F h (RR lu iI kj t R)
 gx:∀l,G l->l<h.next/\¬F l/\∀i,¬comp lu iI kj R i l
structure Kp (F G:Nat->Prop) (h h':Hp):Prop where
 next:h.next<=h'.next
 fy:∀l,F l\/G l->h'.get l=h.get l
theorem Kp.refl(F G:Nat->Prop)(h:Hp):Kp F G h h:=⟨jJ _,by simp_all⟩
theorem Kp.trans{F F' G:Nat->Prop} {h h' c:Hp}(a:Kp F G h h')(b:Kp F' G h' c)(d:∀l,F l->F' l):Kp F G h c:=
 ⟨OA a.next b.next,λl hl=>by rw[b.fy l (by grind),a.fy l hl]⟩
end
section
variable{F G:Nat->Prop}{h h':Hp}{lu iI kj:Nat}{t:Dt}{R:Rw}
theorem Mn{c:Pc}:∀{i:Nat},(RR lu iI kj t R)[i]? =some c->c.pS l->comp lu iI kj R i l
 |0,rfl,h|1,rfl,h|2,rfl,h|3,rfl,h|4,rfl,h|5,rfl,h|6,rfl,h|7,rfl,h=>h
 |8,rfl,h=>h.elim
 |_+9,h,_=>nomatch h
theorem Um:∀{i:Nat},comp lu iI kj R i l->∃c,(RR lu iI kj t R)[i]? =some c/\c.pS l
 |0,h|1,h|2,h|3,h|4,h|5,h|6,h|7,h=>⟨_,rfl,h⟩
 |_+8,h=>h.elim
section
variable (D:Dw F G h lu iI kj t R)
include D
theorem Dw.fl:∀l,F l->l<h.next:=D.H.fl
theorem Dw.gu:h.get lu=some (.cells zc9 1 true false [.int .i64 1,.int .i64 2,R.vv,R.vb,R.vs]):=D.H.get 0 rfl
theorem Dw.gk:h.get iI=some (.cells lF 1 true false [R.vk]):=D.H.get 1 rfl
theorem Dw.gb:h.get kj=some (.cells AI 1 true false [R.cc,.int .i64 0,.int .i64 0,.ed,R.vp,.int .i64 0]):=D.H.get 2 rfl
theorem Dw.ov:pP eV Ay F h t.s.ee R.vv:=D.H.row 3 rfl
theorem Dw.ob:pP eK AI F h t.blocks R.vb:=D.H.row 4 rfl
theorem Dw.os:pP eT Pw F h t.s.eE R.vs:=D.H.row 5 rfl
theorem Dw.ok:pP eN fN F h t.s.known R.vk:=D.H.row 6 rfl
theorem Dw.oc:pP eN fN F h t.s.cur R.vc:=D.H.row 7 rfl
theorem Dw.sp:hD eN F h t.fk R.vp:=D.H.ok 8 _ rfl
theorem Dw.sig{i:Nat}(hl:comp lu iI kj R i l):True/\l<h.next/\¬F l:=
 let⟨c,hc,hf⟩:=Um (t:=t) hl
 ⟨trivial,c.FK (D.H.ok i c hc) l hf⟩
theorem Dw.wh:ej F h (MT G h::RR lu iI kj t R):=D.H.cons (λl hl=>⟨rfl,(D.gx l hl).1,(D.gx l hl).2.1⟩) λi _ hc l a hl=>(D.gx l a).2.2 i (Mn hc hl)
end
theorem Dw.of{F':Nat->Prop} {t':Dt} {R':Rw}(H:ej F' h' (MT G h::RR lu iI kj t' R'))(s:Sn F h F' h'):Kp F G h h'/\Dw F' G h' lu iI kj t' R':=
 have g:=H.ok 0 _ rfl
 ⟨⟨s.next,λl hl=>hl.elim (s.fy l) λhl=>(g l hl).1⟩,H.tail,λl hl=>⟨(g l hl).2.1,(g l hl).2.2,λi hi=>
   let⟨c,hc,hf⟩:=Um (t:=t') hi
   H.Hj 0 (i+1) _ c rfl hc (by omega) l hl hf⟩⟩
theorem Dw.other(D:Dw F G h lu iI kj t R){S:Nat->Prop}(a:uE S h h')(b:∀l,S l->¬F l/\¬G l/\∀i,¬comp lu iI kj R i l):Dw F G h' lu iI kj t R/\Kp F G h h':=by
 have c:=λl hl=>a.fy l (D.fl l hl) λhs=>(b l hs).1 hl;have H:ej F h' (MT G h::RR lu iI kj t R):=⟨λl hl=>NY (D.fl l hl) a.next,λj d hd=>d.fy (D.wh.ok j d hd) c (λl hl=>a.fy l (d.FK (D.wh.ok j d hd) l hl).1 λhs=>?_) a.next,D.wh.Hj⟩
 ·exact(Dw.of H ⟨a.next,c,λ_ h=>h⟩).symm
 ·cases j with
  |zero=>cases hd;exact(b l hs).2.1 hl
  |succ j=>exact(b l hs).2.2 j (Mn hd hl)
theorem Dw.grow(D:Dw F G h lu iI kj t R)(a:SK h h'):Dw F G h' lu iI kj t R:=(D.other a (by simp_all)).1
theorem Dw.more(D:Dw F G h lu iI kj t R) {F':Nat->Prop}(c:∀l,F l->F' l)(a:∀l,F' l->F l\/(l<h.next/\(∀i,¬comp lu iI kj R i l)/\¬G l)):Dw F' G h lu iI kj t R:=
 ⟨⟨λl hl=>(a l hl).elim (D.fl l) λh=>h.1,λj d hd=>d.mono (D.H.ok j d hd) c λl hl b=>(a l b).elim (d.FK (D.H.ok j d hd) l hl).2 λh=>h.2.1 j (Mn hd hl),D.H.Hj⟩,
   λl hl=>⟨(D.gx l hl).1,λb=>(a l b).elim (D.gx l hl).2.1 λh=>h.2.2 hl,(D.gx l hl).2.2⟩⟩
def fz(F:Nat->Prop)(n:Nat):Nat->Prop:=λl=>F l\/l=n
theorem rK(F:Nat->Prop)(n:Nat):∀l,F l->fz F n l:=λ_ h=> .inl h
theorem Dw.new(D:Dw F G h lu iI kj t R)(o:O):Dw (fz F h.next) G (h.new o) lu iI kj t R:=
 (D.grow (uE.new h o)).more (rK _ _) λl hl=>hl.imp id λe=>by
  subst e;refine⟨TU _,λi hi=>wB2 _ (D.sig hi).2.1,λa=>wB2 _ (D.gx _ a).1⟩
theorem Kp.new(F G:Nat->Prop)(h:Hp)(o:O)(a:∀l,F l->l<h.next)(b:∀l,G l->l<h.next):Kp F G h (h.new o):=
 ⟨K5 _,by grind[fi]⟩
theorem Dw.Kz(D:Dw F G h lu iI kj t R)(o:O):Kp F G h (h.new o):=Kp.new F G h o D.fl λl hl=>(D.gx l hl).1
theorem Pg{o:Nat} {cs uD:List V}{v:V}(a:h.get l=some (.cells e sz true false cs))(b:o<cs.length)(hv:v.one=true)(hs:cs.set o v=uD):gj 1 (.ptr l o) v h=some (.val .undef (h.put l (.cells e sz true false uD))):=by
 grind[PY]
theorem Dw.zhJ(D:Dw F G h lu iI kj t R){ys:List Vl}{new:List V}{xv:V}(e:mV h 6 xv=some (ys.length,new))(f:rL eV F h new ys)(hl:new.length=ys.length*6)(_:gi new=true)(_:0<ys.length)(hlen:t.s.ee.length+ys.length<1000000) :
  ∃c a b,fg Ay 6 64 R.vv xv h=some (.val c a)/\h.next<=a.next/\gj 1 (.ptr lu 2) c a=some (.val .undef b)/\a.next<=b.next/\Kp F G h b/\
   Dw F G b lu iI kj {t with s:={t.s with ee:=t.s.ee++ys} } {R with vv:=c}:=by
 let⟨c,a,e1,g,d,s1⟩:=D.wh.app 4 rfl (iU:=64) e f hl (by decide) (by decide) (by omega)
 let⟨b,e2,i,j,k⟩:=d.st 1 rfl (o:=2) (by simp) (d.one 4 rfl)
 exact⟨c,a,b,e1,g,e2,i,Dw.of j (s1.trans k)⟩
theorem Dw.zh4(D:Dw F G h lu iI kj t R){ys:List Bk}{new:List V}{xv:V}(e:mV h 6 xv=some (ys.length,new))(f:rL eK F h new ys)(hl:new.length=ys.length*6)(_:gi new=true)(_:0<ys.length)(hlen:t.blocks.length+ys.length<1000000) :
  ∃c a b,fg AI 6 96 R.vb xv h=some (.val c a)/\h.next<=a.next/\gj 1 (.ptr lu 3) c a=some (.val .undef b)/\a.next<=b.next/\Kp F G h b/\
   Dw F G b lu iI kj {t with blocks:=t.blocks++ys} {R with vb:=c}:=by
 let⟨c,a,e1,g,d,s1⟩:=D.wh.app 5 rfl (iU:=96) e f hl (by decide) (by decide) (by omega)
 let⟨b,e2,i,j,k⟩:=d.st 1 rfl (o:=3) (by simp) (d.one 5 rfl)
 exact⟨c,a,b,e1,g,e2,i,Dw.of j (s1.trans k)⟩
theorem Dw.zfJ(D:Dw F G h lu iI kj t R){ys:List Nat}{new:List V}{xv:V}(e:mV h 1 xv=some (ys.length,new))(f:rL eN F h new ys)(hl:new.length=ys.length*1)(_:gi new=true)(_:0<ys.length)(hlen:t.s.known.length+ys.length<1000000) :
  ∃c a b,fg fN 1 8 R.vk xv h=some (.val c a)/\h.next<=a.next/\gj 1 (.ptr iI 0) c a=some (.val .undef b)/\a.next<=b.next/\Kp F G h b/\
   Dw F G b lu iI kj {t with s:={t.s with known:=t.s.known++ys} } {R with vk:=c}:=by
 let⟨c,a,e1,g,d,s1⟩:=D.wh.app 7 rfl (iU:=8) e f hl (by decide) (by decide) (by omega)
 let⟨b,e2,i,j,k⟩:=d.st 2 rfl (o:=0) (by simp) (d.one 7 rfl)
 exact⟨c,a,b,e1,g,e2,i,Dw.of j (s1.trans k)⟩
theorem Dw.zhC(D:Dw F G h lu iI kj t R){ys:List Nat}{new:List V}{xv:V}(e:mV h 1 xv=some (ys.length,new))(f:rL eN F h new ys)(hl:new.length=ys.length*1)(_:gi new=true)(_:0<ys.length)(hlen:t.s.cur.length+ys.length<1000000) :
  ∃a b c,fg fN 1 8 R.vc xv h=some (.val a b)/\h.next<=b.next/\gj 1 (.ptr kj 0) a b=some (.val .undef c)/\b.next<=c.next/\Kp F G h c/\
   Dw F G c lu iI kj {t with s:={t.s with cur:=t.s.cur++ys} } {R with vc:=a,cc:=a}:=by
 let⟨a,b,e1,g,d,s1⟩:=D.wh.app 8 rfl (iU:=8) e f hl (by decide) (by decide) (by omega)
 let⟨c,e2,i,j,k⟩:=d.st 3 rfl (o:=0) (by simp) (d.one 8 rfl)
 exact⟨a,b,c,e1,g,e2,i,Dw.of j (s1.trans k)⟩
theorem Dw.zhD(D:Dw F G h lu iI kj t R){n:Nat}(d:n<=t.s.known.length) :
  ∃b a,jw 1 R.vk none (some (.int .i64 n)) h=some b/\gj 1 (.ptr iI 0) b h=some (.val .undef a)/\h.next<=a.next/\Kp F G h a/\Dw F G a lu iI kj {t with s:=Un.cut n t.s} {R with vk:=b}:=by
 let⟨b,e1,c⟩:=D.wh.zd0 7 rfl d
 let⟨a,e2,e,f,g⟩:=c.st 2 rfl (o:=0) (by simp) (c.one 7 rfl)
 exact⟨b,a,e1,e2,e,Dw.of f g⟩
theorem Dw.zfb(D:Dw F G h lu iI kj t R){c p:V}{a:List Nat}(hp:hD eN F h a p):Kp F G h (h.put kj (.cells AI 1 true false [c,.int .i64 0,.int .i64 0,.ed,p,.int .i64 0]))/\
  Dw F G (h.put kj (.cells AI 1 true false [c,.int .i64 0,.int .i64 0,.ed,p,.int .i64 0])) lu iI kj {t with fk:=a} {R with vp:=p,cc:=c}:=by
 have g:=(D.H.ok 2 _ rfl).2
 let⟨b,s1⟩:=D.wh.z8 (i:=3) (p:=eD kj AI [c,.int .i64 0,.int .i64 0,.ed,p,.int .i64 0]) rfl (uE.put _ rfl g.1) ⟨iB _ g.1,g⟩ λ_ h=> .inl h
 exact Dw.of (b.swap (i:=9) (p:=zca eN a p) rfl (hp.fy s1.fy) λ_ h=>h.elim) s1
def fzc(F:Nat->Prop)(v:V):Nat->Prop:=λl=>F l\/Loc v l
theorem Dw.flush(D:Dw F G h lu iI kj t R):hD eN (fzc F R.vc) h t.s.cur R.vc/\Dw (fzc F R.vc) G h lu iI kj {t with s:={t.s with cur:=[]} } {R with vc:= .ed}:=by
 let⟨a,s1,r1⟩:=D.wh.hY 8 rfl
 exact⟨r1,(Dw.of (t':={t with s:={t.s with cur:=[]} }) (R':={R with vc:= .ed}) (a.swap (i:=8) (p:=ft eN fN [] .ed) rfl .nil λ_ h=>h) s1).2⟩
theorem Dw.zgn(D:Dw F G h lu iI kj t R){p:Nat}{xs:List Nat}{a:V}(hp:p<t.s.ee.length)(c:hD eN F h xs a) :
  ∃l b,gM 6 R.vv (.int .i64 p)=some (.ptr l (p*6))/\gj 1 (.ptr l (p*6+4)) a h=some (.val .undef b)/\h.next<=b.next/\Kp F G h b/\Dw F G b lu iI kj {t with s:=setArgs t.s p xs} R:=by
 let⟨l,b,_,e1,e2,f,hc⟩:=D.ov.store (k:=4) (y:={t.s.ee[p]with args:=xs}) hp (by decide) c.one (λw ⟨x,g,_⟩=>by subst g;exact⟨a,rfl,c⟩)
 have em:(setArgs t.s p xs).ee=t.s.ee.set p {t.s.ee[p]with args:=xs}:=by
  show t.s.ee.modify p _=_;refine wBw λi=>?_;rw[ List.getElem?_set];by_cases e:p=i
  ·grind
  ·simp[e]
 let⟨d,s1⟩:=D.wh.z8 (i:=4) rfl hc (show(ft eV Ay _ R.vv).ok F b from f) λ_ h=> .inl h
 exact⟨l,b,e1,e2,hc.next,Dw.of (t':={t with s:=setArgs t.s p xs}) (R':=R) (by rw[<-em]at d;exact d) s1⟩
end
