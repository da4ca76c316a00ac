/- Parts. -/
import Derived.Test.YtpnddokajmjpbaaDoorM09
import Derived.Test.YtpnddokajmjpbaaDoorM13
namespace Go.Proofs.YtpnddokajmjpbaaDoor.Hx
open Go.Proofs.YtpnddokajmjpbaaDoor.Un
def eN:Enc Nat where
 sz:=1
 rel _ _ n cs:=cs=[.int .i64 n]
 len h:=by subst h;rfl
 one h:=by subst h;rfl
 keep _ h:=h
 mono _ h:=h
def vlC (x:Vl)(w:V):List V:=[.int .i64 x.op,.int .i64 x.a,.int .i64 x.b,.int .i64 x.n,w,.int .i64 x.state]
def eV:Enc Vl where
 sz:=6
 rel F h x cs:=∃w,cs=vlC x w/\SlR eN F h x.args w
 len:=λ⟨_,h,_⟩=>by subst h;rfl
 one:=λ⟨_,h,hs⟩=>by subst h;simp only[vlC,ee,hs.one];rfl
 keep:=λa ⟨w,h,hs⟩=>⟨w,h,hs.keep a⟩
 mono:=λb ⟨w,h,hs⟩=>⟨w,h,hs.mono b⟩
def bkC (x:Bk)(v n p:V):List V:=[v,.int .i64 x.fin,.int .i64 x.cond,n,p,.int .i64 x.state]
def eK:Enc Bk where
 sz:=6
 rel F h x cs:=∃v n p,cs=bkC x v n p/\SlR eN F h x.vals v/\SlR eN F h x.next n/\SlR eN F h x.preds p
 len:=λ⟨_,_,_,h,_⟩=>by subst h;rfl
 one:=λ⟨_,_,_,h,a,b,c⟩=>by subst h;simp only[bkC,ee,a.one,b.one,c.one];rfl
 keep:=λd ⟨v,n,p,h,a,b,c⟩=>⟨v,n,p,h,a.keep d,b.keep d,c.keep d⟩
 mono:=λe ⟨v,n,p,h,a,b,c⟩=>⟨v,n,p,h,a.mono e,b.mono e,c.mono e⟩
def fmC (x:Fm)(l s:V):List V:=[.int .i64 x.func,.int .i64 x.pc,l,s]
def eF:Enc Fm where
 sz:=4
 rel F h x cs:=∃l s,cs=fmC x l s/\SlR eN F h x.locals l/\SlR eN F h x.stack s
 len:=λ⟨_,_,h,_⟩=>by subst h;rfl
 one:=λ⟨_,_,h,a,b⟩=>by subst h;simp only[fmC,ee,a.one,b.one];rfl
 keep:=λc ⟨l,s,h,a,b⟩=>⟨l,s,h,a.keep c,b.keep c⟩
 mono:=λd ⟨l,s,h,a,b⟩=>⟨l,s,h,a.mono d,b.mono d⟩
def eT:Enc (List Fm):=eL eF
theorem qB (F:Nat->Prop)(h:Hp):∀(l:List Nat),Win eN F h (l.map λn=>V.int .i64 (n:Nat)) l
 |[]=>trivial
 |n::l=>⟨[.int .i64 n],_,rfl,rfl,qB F h l⟩
def Loc (v:V)(t:Nat):Prop:=match v with
 | .slice l _ _=>l=t
 |_=>False
@[simp] theorem KD (t:Nat):Loc .nilSlice t=False:=rfl
@[simp] theorem J2 (l o n t:Nat):Loc (.slice l o n) t=(l=t):=rfl
def OwnR {α:Type}(E:Enc α)(ty:Nat)(F:Nat->Prop)(h:Hp)(xs:List α)(v:V):Prop:=
 (v = .nilSlice/\xs=[])\/∃t cs,v = .slice t 0 xs.length/\t<h.next/\¬F t/\h.get t=some (.cells ty E.sz true false cs)/\Win E F h cs xs/\allOne cs=true
section
variable{α:Type}{E:Enc α}{ty:Nat}{F F':Nat->Prop}{h h':Hp}{xs:List α}{v:V}
theorem OwnR.nil:OwnR E ty F h [] .nilSlice:= .inl ⟨rfl,rfl⟩
theorem OwnR.len (a:OwnR E ty F h xs v):pLen v=some (.int .i64 xs.length):=by
 rcases a with⟨rfl,rfl⟩|⟨t,cs,rfl,_⟩ <;> rfl
theorem OwnR.one (a:OwnR E ty F h xs v):v.one=true:=by
 rcases a with⟨rfl,rfl⟩|⟨t,cs,rfl,_⟩ <;> rfl
noncomputable def tyAt (h:Hp) (l:Nat):Option (Nat×Nat):=match h.get l with
 |some (.cells e sz _ _ _)=>some (e,sz)
 |_=>none
theorem AR{l e sz:Nat}{a b:Bool}{cs:List V}(c:h.get l=some (.cells e sz a b cs)):tyAt h l=some (e,sz):=by unfold tyAt;rw[c]
theorem OwnR.tyOf (b:OwnR E ty F h xs v){t:Nat}(a:Loc v t):tyAt h t=some (ty,E.sz)/\t<h.next/\¬F t:=by
 rcases b with⟨rfl,_⟩|⟨t',cs,rfl,c,d,e,_⟩
 ·exact a.elim
 ·obtain rfl:t' = t:=a;exact⟨AR e,c,d⟩
theorem OwnR.keep (a:OwnR E ty F h xs v)(b:∀l,F l->h'.get l=h.get l)(c:∀l,Loc v l->h'.get l=h.get l)(d:h.next<=h'.next):OwnR E ty F h' xs v:=by
 rcases a with a|⟨t,cs,rfl,e,f,g,i,j⟩
 ·exact .inl a
 ·exact .inr ⟨t,cs,rfl,wAO e d,f,by rw[c t rfl];exact g,i.keep b,j⟩
theorem OwnR.mono (a:OwnR E ty F h xs v)(b:∀l,F l->F' l)(c:∀t,Loc v t->¬F' t):OwnR E ty F' h xs v:=by
 rcases a with a|⟨t,cs,rfl,d,i,e,f,g⟩
 ·exact .inl a
 ·exact .inr ⟨t,cs,rfl,d,c t rfl,e,f.mono b,g⟩
theorem OwnR.slR (a:OwnR E ty F h xs v)(b:∀l,F l->F' l)(c:∀t,Loc v t->F' t):SlR E F' h xs v:=by
 rcases a with a|⟨t,cs,rfl,f,g,d,e,i⟩
 ·exact .inl a
 ·exact .inr ⟨t,0,ty,true,false,cs,rfl,c t rfl,d,.inr rfl,wA5 _,by simpa using e.mono b⟩
theorem OwnR.read (a:OwnR E ty F h xs v):SlR E (λl=>F l\/Loc v l) h xs v:=a.slR (λ_ h=> .inl h) λ_ h=> .inr h
theorem OwnR.append {by_:Nat}{x:V}{new:List V}{ys:List α}(C:OwnR E ty F h xs v)(c:xcells h E.sz x=some (ys.length,new))(q:Win E F h new ys)(D:new.length=ys.length*E.sz)(i:allOne new=true)(I:0<ys.length)(J:0<E.sz)
  (o:∀l,F l->l<h.next) (z:(xs.length+ys.length)*by_<=70368744177664) (m:xs.length+ys.length<=70368744177664) :
  ∃r h',happend ty E.sz by_ v x h=some (.val r h')/\OwnR E ty F h' (xs++ys) r/\Chg (Loc v) h h'/\(∀t,Loc r t->Loc v t\/t=h.next):=by
 have f:Nat.beq ys.length 0=false:=by
  cases hq:ys.length with
  |zero=>omega
  |succ k=>rfl
 rcases C with⟨rfl,rfl⟩|⟨t,cs,rfl,j,s,A,u,g⟩
 ·refine⟨.slice h.next 0 ys.length,h.new (.cells ty E.sz true false new),?_,.inr ⟨h.next,new,by simp,wAk _,λb=>wBW _ (o _ b),ef _ _,?_,i⟩,Chg.new _ _,λt G=> .inr G.symm⟩
  ·unfold happend;simp only[c,en,f,i,j6];rw[go _ (wAS (by simpa using z)),go _ (wAS (by simpa using m))]
  ·exact q.keep λl b=>er _ (o l b)
 ·have H:=u.length;have B:(xs.length+ys.length)*E.sz=xs.length*E.sz+ys.length*E.sz:=wBB _ _ _
  cases hroom:Nat.ble (Nat.add 0 (Nat.mul (Nat.add xs.length ys.length) E.sz)) cs.length with
  | true=>
    have K:(xs.length+ys.length)*E.sz<=cs.length:=by
      have:=wAZ hroom;show _<=_;rw[show Nat.add 0 (Nat.mul (Nat.add xs.length ys.length) E.sz)=(xs.length+ys.length)*E.sz from wAY _]at this;exact this
    refine ⟨.slice t 0 (xs.length+ys.length),h.put t (.cells ty E.sz true false (cs.take (xs.length*E.sz)++new++cs.drop (xs.length*E.sz+new.length))),?_,
      .inr ⟨t,_,by simp,j,s,fd _ j,?_,?_⟩,Chg.put _ rfl j,λ_ h=> .inl h⟩
    ·unfold happend cellsAt
     have w:splice (Nat.add 0 (Nat.mul xs.length E.sz)) cs new=some (cs.take (xs.length*E.sz)++new++cs.drop (xs.length*E.sz+new.length)):=by
       rw[show Nat.add 0 (Nat.mul xs.length E.sz)=xs.length*E.sz from wAY _];exact uu (by rw[D];omega)
     simp only[c,en,f,i,j6,A,wBd,hroom,w];rw[go _ (wBG _)];rfl
    ·refine Win.keep (h:=h) (λl b=>fg _ j λe=>s (e▸b)) ?_
     rw[wAU];exact u.take.append (by rw[wAc];omega) q.more
    ·rw[jd,jd,i]
     have p:∀(l:List V),allOne l=l.all V.one:=λl=>by
       induction l with
       |nil=>rfl
       |cons a l y=>rw[ee,y];rfl
     rw[p]at g⊢;rw[p];rw[wAs]at g;simp only[Bool.and_true,wAJ,wAs]
     exact⟨λx c=>g x (wB4 c),λx c=>g x (List.mem_of_mem_drop c)⟩
  | false=>
    have p:∀(l:List V),allOne l=l.all V.one:=λl=>by
      induction l with
      |nil=>rfl
      |cons a l y=>rw[ee,y];rfl
    have d:allOne (cs.take (xs.length*E.sz))=true:=by
      rw[p]at g⊢;rw[wAs]at g⊢;exact λx c=>g x (wB4 c)
    refine ⟨.slice h.next 0 (xs.length+ys.length),(h.put t (.cells ty E.sz false false cs)).new (.cells ty E.sz true false (cs.take (xs.length*E.sz)++new)),?_,
      .inr ⟨h.next,_,by simp,wAk _,λb=>wBW _ (o _ b),ef (h.put t _) _,?_,by rw[jd,d,i];rfl⟩,
      (Chg.put (S:=Loc (.slice t 0 xs.length)) (.cells ty E.sz false false cs) rfl j).trans (Chg.new _ _),λ_ h=> .inr h.symm⟩
    ·unfold happend cellsAt
     have n:sub cs 0 (Nat.mul xs.length E.sz)=some (cs.take (xs.length*E.sz)):=by
       show sub cs 0 (xs.length*E.sz)=_;rw[ve (show 0+xs.length*E.sz<=cs.length by omega),wBT]
     simp only[c,en,f,i,j6,A,wBd,hroom,n,d];rw[go _ (wBG _),go _ (show Nat.ble (Nat.mul (Nat.add xs.length ys.length) by_) 70368744177664=true from wAS z),go _ (show Nat.ble (Nat.add xs.length ys.length) 70368744177664=true from wAS m)];rfl
    ·refine Win.keep (h:=h) (λl b=>?_) ?_
     ·rw[er _ (show l<(h.put t _).next from o l b),fg _ j λe=>s (e▸b)]
     ·exact u.take.append (by rw[wAc];omega) q
theorem OwnR.cut (d:OwnR E ty F h xs v){n:Nat}(a:n<=xs.length):∃b,hsliceV E.sz v none (some (.int .i64 n)) h=some b/\OwnR E ty F h (xs.take n) b/\∀t,Loc b t->Loc v t:=by
 rcases d with⟨rfl,rfl⟩|⟨t,cs,rfl,e,f,c,g,i⟩
 ·obtain rfl:n=0:=by simpa using a
  exact⟨.nilSlice,rfl,.inl ⟨rfl,rfl⟩,λ_ h=>h⟩
 ·refine⟨.slice t 0 n,?_,.inr ⟨t,cs,by rw[wAc,wB7 a],e,f,c,g.taken n,i⟩,λ_ h=>h⟩;unfold hsliceV cellsAt;simp only[c,en,wP,xI];rw[go _ (wBG _),go _ (wAS (wA5 _)),go _ (by rw[wAS a];rfl)];simp
theorem OwnR.store (n:OwnR E ty F h xs v){i k:Nat}{y:α}{u:V}(hi:i<xs.length)(C:k<E.sz)(f:u.one=true)(o:∀w,E.rel F h xs[i] w->E.rel F h y (w.set k u)) :
  ∃t h',Loc v t/\pIx E.sz v (.int .i64 i)=some (.ptr t (i*E.sz))/\pSt 1 (.ptr t (i*E.sz+k)) u h=some (.val .undef h')/\OwnR E ty F h' (xs.set i y) v/\Chg (Loc v) h h':=by
 rcases n with⟨rfl,rfl⟩|⟨t,cs,rfl,c,g,p,j,d⟩
 ·simp at hi
 ·obtain ⟨w,q,D,m⟩:=j.get (i:=i) (x:=xs[i]) (wAA hi);have b:cs.set (i*E.sz+k) u=cs.take (i*E.sz)++w.set k u++cs.drop (i*E.sz+E.sz):=by
   have e0:cs=cs.take (i*E.sz)++(w++cs.drop (i*E.sz+E.sz)):=by
    rw[<-q]
    conv=>lhs;rw[<-wA8 (i*E.sz) cs]
    congr 1;rw[<-wBp,wA8]
   have G:=E.len m
   conv=>lhs;rw[e0]
   rw[List.set_append_right _ _ (by rw[wAc];omega),wAc,wB7 (by omega),wCE,List.set_append_left _ _ (by omega),wAU]
  refine⟨t,h.put t (.cells ty E.sz true false (cs.set (i*E.sz+k) u)),rfl,by rw[uD _ _ _ _ _ _ hi,wAY],BQ p (by omega) f,.inr ⟨t,_,by simp,c,g,fd _ c,?_,?_⟩,Chg.put _ rfl c⟩
  ·refine Win.keep (h:=h) (λl r=>fg _ c λe=>g (e▸r)) ?_;rw[b];exact j.set hi (o w m)
  ·have s:∀(l:List V),allOne l=l.all V.one:=λl=>by
    induction l with
    |nil=>rfl
    |cons a l z=>rw[ee,z];rfl
   rw[s]at d⊢;rw[wAs]at d⊢;intro x A;rcases List.mem_or_eq_of_mem_set A with B|rfl
   ·exact d x B
   ·exact f
end
abbrev tyInt:Nat:=3
abbrev tyBool:Nat:=4
abbrev tyInts:Nat:=23
abbrev tyUnit:Nat:=30
abbrev tyVal:Nat:=42
abbrev tyBlock:Nat:=44
abbrev tyState:Nat:=38
abbrev tyFrame:Nat:=40
abbrev tyRaw:Nat:=25
abbrev tyVisit:Nat:=144
abbrev tyBools:Nat:=34
open Go.Proofs.YtpnddokajmjpbaaDoor.Un
structure Pc where
 foot:Nat->Prop
 ok:(Nat->Prop)->Hp->Prop
 inn:∀{F:Nat->Prop} {h:Hp},ok F h->∀l,foot l->l<h.next/\¬F l
 keep:∀{F:Nat->Prop} {h h':Hp},ok F h->(∀l,F l->h'.get l=h.get l)->(∀l,foot l->h'.get l=h.get l)->h.next<=h'.next->ok F h'
 mono:∀{F F':Nat->Prop} {h:Hp},ok F h->(∀l,F l->F' l)->(∀l,foot l->¬F' l)->ok F' h
def emp:Pc:=⟨λ_=>False,λ_ _=>True,λ_ _ h=>h.elim,λ_ _ _ _=>trivial,λ_ _ _=>trivial⟩
def cellP (l ty:Nat)(vs:List V):Pc where
 foot:=λm=>m=l
 ok F h:=h.get l=some (.cells ty 1 true false vs)/\l<h.next/\¬F l
 inn:=λh _ e=>by subst e;exact h.2
 keep:=λh _ a b=>⟨(a l rfl).trans h.1,wAO h.2.1 b,h.2.2⟩
 mono:=λh _ a=>⟨h.1,h.2.1,a l rfl⟩
def rowP {α:Type}(E:Enc α)(ty:Nat)(xs:List α)(v:V):Pc where
 foot:=Loc v
 ok F h:=OwnR E ty F h xs v
 inn:=λh _ a=>(h.tyOf a).2
 keep:=λh b a c=>OwnR.keep h b a c
 mono:=λh b a=>OwnR.mono h b a
def readP {α:Type}(E:Enc α)(xs:List α)(v:V):Pc where
 foot:=λ_=>False
 ok F h:=SlR E F h xs v
 inn:=λ_ _ h=>h.elim
 keep:=λh a _ _=>SlR.keep a h
 mono:=λh a _=>SlR.mono a h
def Km {α:Type}(E:Enc α)(x:α)(w:List V):Pc where
 foot:=λ_=>False
 ok F h:=E.rel F h x w
 inn:=λ_ _ h=>h.elim
 keep:=λh a _ _=>E.keep a h
 mono:=λh a _=>E.mono a h
structure Sn (F:Nat->Prop) (h:Hp) (F':Nat->Prop) (h':Hp):Prop where
 next:h.next<=h'.next
 keep:∀l,F l->h'.get l=h.get l
 mono:∀l,F l->F' l
theorem Sn.refl (F:Nat->Prop)(h:Hp):Sn F h F h:=⟨wAF _,λ_ _=>rfl,λ_ h=>h⟩
theorem Sn.trans {F F' c:Nat->Prop} {h h' d:Hp}(a:Sn F h F' h')(b:Sn F' h' c d):Sn F h c d:=
 ⟨wAq a.next b.next,λl e=>(b.keep l (a.mono l e)).trans (a.keep l e),λl e=>b.mono l (a.mono l e)⟩
structure Hold (F:Nat->Prop) (h:Hp) (cs:List Pc):Prop where
 fl:∀l,F l->l<h.next
 ok:∀(i:Nat) (c:Pc),cs[i]? =some c->c.ok F h
 dis:∀(i j:Nat) (c d:Pc),cs[i]? =some c->cs[j]? =some d->i≠j->∀l,c.foot l->¬d.foot l
section
variable{F F':Nat->Prop}{h h':Hp}{cs:List Pc}{i j:Nat}{c d p:Pc}
theorem rh {cs:List Pc}{i:Nat}{p:Pc}{j:Nat}{d:Pc}(a:(cs.set i p)[j]? =some d):(j=i/\d=p)\/(j≠i/\cs[j]? =some d):=by
 by_cases e:i=j
 ·subst e;have b:i<cs.length:=by
   have:=(wAB.1 a).1;simpa using this
  rw[wAK b]at a;exact .inl ⟨rfl,(Option.some.inj a).symm⟩
 ·rw[wAN e]at a;exact .inr ⟨λc=>e c.symm,a⟩
theorem Hold.mk' (a:∀l,F l->l<h.next)(H:∀(i:Nat)(c:Pc),cs[i]? =some c->c.ok F h/\∀(j:Nat)(d:Pc),j<i->cs[j]? =some d->∀l,c.foot l->¬d.foot l):Hold F h cs where
 fl:=a
 ok:=λi c hc=>(H i c hc).1
 dis:=λi j c d hi e k l f g=>by
  rcases Nat.lt_or_gt_of_ne k with b|b
  ·exact(H j d e).2 i c b hi l g f
  ·exact(H i c hi).2 j d b e l f g
theorem Hold.nil (a:∀l,F l->l<h.next):Hold F h []:=⟨a,λ_ _ h=>by simp at h,λ_ _ _ _ h=>by simp at h⟩
theorem Hold.cons (H:Hold F h cs)(m:p.ok F h)(g:∀(i:Nat) c,cs[i]? =some c->∀l,p.foot l->¬c.foot l):Hold F h (p::cs) where
 fl:=H.fl
 ok:=λi c hc=>by
  cases i with
  |zero=>cases hc;exact m
  |succ i=>exact H.ok i c hc
 dis:=λi j c d hc b k l f a=>by
  cases i with
  | zero=>
    cases hc
    cases j with
    |zero=>exact k rfl
    |succ j=>exact g j d b l f a
  | succ i=>
    cases j with
    |zero=>cases b;exact g i c hc l a f
    |succ j=>exact H.dis i j c d hc b (λe=>k (by rw[e])) l f a
theorem Hold.tail (H:Hold F h (p::cs)):Hold F h cs where
 fl:=H.fl
 ok:=λi c hc=>H.ok (i+1) c hc
 dis:=λi j c d hc a b=>H.dis (i+1) (j+1) c d hc a (λe=>b (by omega))
theorem Hold.add (H:Hold F h cs)(a:p.ok F h)(b:∀l,¬p.foot l):Hold F h (p::cs):=H.cons a λ_ _ _ l c=>(b l c).elim
theorem Hold.read (H:Hold F h cs){α:Type}{E:Enc α}{xs:List α}{v:V}(hs:SlR E F h xs v):Hold F h (readP E xs v::cs):=H.add hs λ_ h=>h
theorem Hold.val (H:Hold F h cs){α:Type}{E:Enc α}{x:α}{w:List V}(hs:E.rel F h x w):Hold F h (Km E x w::cs):=H.add hs λ_ h=>h
theorem Hold.swap (H:Hold F h cs)(hi:cs[i]? =some c)(t:p.ok F h)(q:∀l,p.foot l->c.foot l):Hold F h (cs.set i p) where
 fl:=H.fl
 ok:=λj d u=>by
  rcases rh u with⟨_,rfl⟩|⟨_,f⟩
  ·exact t
  ·exact H.ok j d f
 dis:=λj k a b v r g l m e=>by
  rcases rh v with⟨n,rfl⟩|⟨n,s⟩
  ·rcases rh r with⟨o,_⟩|⟨_,f⟩
   ·exact g (n.trans o.symm)
   ·subst n;exact H.dis j k c b hi f g l (q l m) e
  ·rcases rh r with⟨o,rfl⟩|⟨_,f⟩
   ·subst o;exact H.dis j k a c s hi g l m (q l e)
   ·exact H.dis j k a b s f g l m e
theorem Hold.forget (H:Hold F h cs)(hi:cs[i]? =some c):Hold F h (cs.set i emp):=H.swap hi trivial λ_ h=>h.elim
theorem Hold.turn (H:Hold F h cs)(hi:cs[i]? =some c)(hc:Chg c.foot h h')(u:∀l,F l->F' l)(o:∀l,F' l->F l\/c.foot l\/(h.next<=l/\l<h'.next))(y:p.ok F' h')(z:∀l,p.foot l->c.foot l\/h.next<=l):Hold F' h' (cs.set i p)/\Sn F h F' h':=by
 have q:=H.ok i c hi;have v:∀l,F l->h'.get l=h.get l:=λl e=>hc.keep l (H.fl l e) λhs=>(c.inn q l hs).2 e;have other:∀(j:Nat) (d:Pc),j≠i->cs[j]? =some d->d.ok F' h'/\∀l,d.foot l->¬p.foot l:=λj d A r=>by
  have m:=H.ok j d r;have n:∀l,d.foot l->¬c.foot l:=H.dis j i d c r hi A;refine⟨d.mono (d.keep m v (λl e=>hc.keep l (d.inn m l e).1 (n l e)) hc.next) u λl e f=>?_,λl e f=>?_⟩
  ·rcases o l f with g|g|g
   ·exact(d.inn m l e).2 g
   ·exact n l e g
   ·have:=(d.inn m l e).1;omega
  ·rcases z l f with g|g
   ·exact n l e g
   ·have:=(d.inn m l e).1;omega
 refine⟨⟨λl e=>?_,λj d r=>?_,λj k a b B w x l e f=>?_⟩,⟨hc.next,v,u⟩⟩
 ·rcases o l e with g|g|g
  ·exact wAO (H.fl l g) hc.next
  ·exact wAO (c.inn q l g).1 hc.next
  ·exact g.2
 ·rcases rh r with⟨_,rfl⟩|⟨m,n⟩
  ·exact y
  ·exact(other j d m n).1
 ·rcases rh B with⟨t,rfl⟩|⟨t,m⟩
  ·rcases rh w with⟨s,_⟩|⟨s,n⟩
   ·exact x (t.trans s.symm)
   ·exact(other k b s n).2 l f e
  ·rcases rh w with⟨s,rfl⟩|⟨_,n⟩
   ·exact(other j a t m).2 l e f
   ·exact H.dis j k a b m n x l e f
theorem Hold.turn' (H:Hold F h cs)(hi:cs[i]? =some c)(hc:Chg c.foot h h')(a:p.ok F h')(b:∀l,p.foot l->c.foot l\/h.next<=l):Hold F h' (cs.set i p)/\Sn F h F h':=
 H.turn hi hc (λ_ h=>h) (λ_ h=> .inl h) a b
theorem Hold.grow (H:Hold F h cs)(a:Grows h h'):Hold F h' cs/\Sn F h F h':=by
 have c:∀l,F l->h'.get l=h.get l:=λl b=>a.keep l (H.fl l b) id;exact⟨⟨λl b=>wAO (H.fl l b) a.next,λj d e=>d.keep (H.ok j d e) c (λl b=>a.keep l (d.inn (H.ok j d e) l b).1 id) a.next,H.dis⟩,⟨a.next,c,λ_ h=>h⟩⟩
theorem Hold.new (H:Hold F h cs)(o:O)(b:p.ok F (h.new o))(c:∀l,p.foot l->l=h.next):Hold F (h.new o) (p::cs)/\Sn F h F (h.new o):=by
 obtain⟨e,f⟩:=H.grow (Chg.new h o);refine⟨e.cons b λj d g l i a=>?_,f⟩;have:=(d.inn (H.ok j d g) l a).1;have:=c l i;omega
theorem Hold.fresh (H:Hold F h cs):¬F h.next:=λa=>wBW _ (H.fl _ a)
theorem Hold.newC (H:Hold F h cs)(ty:Nat)(vs:List V):Hold F (h.new (.cells ty 1 true false vs)) (cellP h.next ty vs::cs)/\Sn F h F (h.new (.cells ty 1 true false vs)):=
 H.new _ ⟨ef _ _,wAk _,H.fresh⟩ λ_ e=>e
theorem Hold.newR (H:Hold F h cs){α:Type}{E:Enc α}(ty:Nat){xs:List α}{ws:List V}{n:Nat}(a:n=xs.length)(b:Win E F h ws xs)(c:allOne ws=true) :
  Hold F (h.new (.cells ty E.sz true false ws)) (rowP E ty xs (.slice h.next 0 n)::cs)/\Sn F h F (h.new (.cells ty E.sz true false ws)):=by
 subst a;exact H.new _ (.inr ⟨h.next,ws,rfl,wAk _,H.fresh,ef _ _,b.keep λl d=>er _ (H.fl l d),c⟩) λ_ e=>e.symm
theorem Hold.newF (H:Hold F h cs){α:Type}{E:Enc α}(ty:Nat){xs:List α}{ws:List V}{n:Nat}(i:n=xs.length)(k:Win E F h ws xs)(ro:Bool) :
  Hold (λl=>F l\/l=h.next) (h.new (.cells ty E.sz true ro ws)) cs/\Sn F h (λl=>F l\/l=h.next) (h.new (.cells ty E.sz true ro ws))/\SlR E (λl=>F l\/l=h.next) (h.new (.cells ty E.sz true ro ws)) xs (.slice h.next 0 n):=by
 subst i;obtain⟨b,e⟩:=H.grow (Chg.new h (.cells ty E.sz true ro ws));refine⟨⟨λl a=>?_,λj d f=>d.mono (b.ok j d f) (λ_ h=> .inl h) λl a c=>?_,b.dis⟩,⟨e.next,e.keep,λ_ h=> .inl h⟩,?_⟩
 ·rcases a with a|rfl
  ·exact b.fl l a
  ·exact wAk _
 ·have g:=d.inn (H.ok j d f) l a;rcases c with m|rfl
  ·exact g.2 m
  ·exact wBW _ g.1
 ·exact .inr ⟨h.next,0,ty,true,ro,ws,rfl,.inr rfl,ef _ _,.inr rfl,wA5 _,by rw[wBT];exact(k.keep λl a=>er _ (H.fl l a)).mono λ_ h=> .inl h⟩
theorem Hold.get (H:Hold F h cs)(i:Nat){l ty:Nat}{vs:List V}(hi:cs[i]? =some (cellP l ty vs)):h.get l=some (.cells ty 1 true false vs):=(H.ok i _ hi).1
theorem Hold.ld (H:Hold F h cs)(i:Nat){l ty o:Nat}{vs:List V}{u:V}(hi:cs[i]? =some (cellP l ty vs))(a:vs[o]? =some u):pLd (.ptr l o) h=some u:=gZ (H.get i hi) a
theorem Hold.ldA (H:Hold F h cs)(i:Nat){l ty n:Nat}{vs:List V}(hi:cs[i]? =some (cellP l ty vs))(a:vs.length=n):pLdA n (.ptr l 0) h=some (.agg vs):=uL (H.get i hi) a
theorem Hold.st (H:Hold F h cs)(i:Nat){l ty o:Nat}{vs:List V}{u:V}(hi:cs[i]? =some (cellP l ty vs))(b:o<vs.length)(c:u.one=true) :
  ∃h',pSt 1 (.ptr l o) u h=some (.val .undef h')/\h.next<=h'.next/\Hold F h' (cs.set i (cellP l ty (vs.set o u)))/\Sn F h F h':=by
 have a:=H.ok i _ hi;refine⟨_,BQ a.1 b c,wAF _,H.turn' hi (Chg.put _ rfl a.2.1) ⟨fd _ a.2.1,a.2.1,a.2.2⟩ λ_ h=> .inl h⟩
theorem Hold.stk (H:Hold F h cs)(i:Nat){l ty o:Nat}{vs:List V}{u:V}(hi:cs[i]? =some (cellP l ty vs))(b:o<vs.length)(c:u.one=true) :
  ∃h',pSt 1 (.ptr l o) u h=some (.val .undef h')/\h.next<=h'.next/\Hold F h' (cs.set i (cellP l ty (vs.set o u)))/\Sn F h F h'/\∀m,m≠l->h'.get m=h.get m:=by
 have a:=H.ok i _ hi;obtain⟨d,f⟩:=H.turn' (p:=cellP l ty (vs.set o u)) (h':=h.put l (.cells ty 1 true false (vs.set o u))) hi (Chg.put _ rfl a.2.1) ⟨fd _ a.2.1,a.2.1,a.2.2⟩ λ_ h=> .inl h;exact⟨_,BQ a.1 b c,wAF _,d,f,λm g=>fg _ a.2.1 λe=>g e.symm⟩
theorem Hold.stA (H:Hold F h cs)(i:Nat){l ty n:Nat}{vs ws:List V}(hi:cs[i]? =some (cellP l ty vs))(b:ws.length=n)(c:vs.length=n)(d:allOne ws=true) :
  ∃h',pSt n (.ptr l 0) (.agg ws) h=some (.val .undef h')/\h.next<=h'.next/\Hold F h' (cs.set i (cellP l ty ws))/\Sn F h F h':=by
 have a:=H.ok i _ hi;refine⟨_,xL a.1 b c d,wAF _,H.turn' hi (Chg.put _ rfl a.2.1) ⟨fd _ a.2.1,a.2.1,a.2.2⟩ λ_ h=> .inl h⟩
section
variable{α:Type}{E:Enc α}{ty:Nat}{xs:List α}{v:V}
theorem Hold.row (H:Hold F h cs)(i:Nat)(hi:cs[i]? =some (rowP E ty xs v)):OwnR E ty F h xs v:=H.ok i _ hi
theorem Hold.len (H:Hold F h cs)(i:Nat)(hi:cs[i]? =some (rowP E ty xs v)):pLen v=some (.int .i64 xs.length):=(H.row i hi).len
theorem Hold.one (H:Hold F h cs)(i:Nat)(hi:cs[i]? =some (rowP E ty xs v)):v.one=true:=(H.row i hi).one
theorem Hold.ix (H:Hold F h cs)(i:Nat)(hi:cs[i]? =some (rowP E ty xs v)){k:Nat}(a:k<xs.length)(kd:IntKind) :
  ∃l o w,pIx E.sz v (.int kd k)=some (.ptr l o)/\pLdA E.sz (.ptr l o) h=some (.agg w)/\E.rel (λl=>F l\/Loc v l) h xs[k] w/\∀j u,w[j]? =some u->pLd (.ptr l (o+j)) h=some u:=by
 obtain⟨l,o,w,_,b,c,d,e⟩:=(H.row i hi).read.ix a kd;exact⟨l,o,w,b,c,d,e⟩
theorem Hold.ix1 (H:Hold F h cs)(i:Nat)(hi:cs[i]? =some (rowP E ty xs v)){k:Nat}(a:k<xs.length)(kd:IntKind)(b:E.sz=1) :
  ∃l o u,pIx 1 v (.int kd k)=some (.ptr l o)/\pLd (.ptr l o) h=some u/\E.rel (λl=>F l\/Loc v l) h xs[k] [u]:=by
 obtain⟨l,o,u,_,c,d,e⟩:=(H.row i hi).read.ix1 a kd b;exact⟨l,o,u,c,d,e⟩
theorem Hold.stR (H:Hold F h cs)(i:Nat)(hi:cs[i]? =some (rowP E ty xs v)){k:Nat}(f:k<xs.length)(a:E.sz=1){y:α}{u:V}(g:u.one=true)(j:E.rel F h y [u]) :
  ∃l o h',pIx 1 v (.int .i64 k)=some (.ptr l o)/\pSt 1 (.ptr l o) u h=some (.val .undef h')/\h.next<=h'.next/\Hold F h' (cs.set i (rowP E ty (xs.set k y) v))/\Sn F h F h':=by
 obtain ⟨t,h',p,b,c,m,d⟩:=(H.row i hi).store (k:=0) (y:=y) (u:=u) f (by omega) g (λw n=>by
  have e:=E.len n;rw[a]at e
  match w,e with
  |[x],_=>exact j)
 rw[a]at b c;exact⟨t,k*1,h',b,c,d.next,H.turn' hi d m λ_ h=> .inl h⟩
end
end
open Go.Proofs.YtpnddokajmjpbaaDoor.Un
section
variable{F F':Nat->Prop}{h h':Hp}{cs:List Pc}{α:Type}{E:Enc α}{ty:Nat}{xs ys:List α}{v x:V}
theorem Win.one:∀{xs:List α}{ws:List V},Win E F h ws xs->ws.length=xs.length*E.sz->allOne ws=true
 | [],ws,_,hl=>by
   have:ws=[]:=wAf (by simpa using hl)
   subst this;rfl
 | y::xs,ws,⟨w,r,b,a,c⟩,hl=>by
   subst b;have d:=E.len a;rw[jd,E.one a,Win.one c (by simp only[wAM,wAX,wBB,wCI]at hl;omega)];rfl
theorem Win.rep {y:α}{u:V}(a:E.rel F h y [u]):∀n,Win E F h (List.replicate n u) (List.replicate n y)
 |0=>trivial
 |n+1=>⟨[u],_,rfl,a,Win.rep a n⟩
theorem Bb {u:V}(a:u.one=true):∀n,allOne (List.replicate n u)=true
 |0=>rfl
 |n+1=>by rw[List.replicate_succ,ee,a,Bb a n];rfl
theorem vN {l off n ety sz:Nat}{ro:Bool}{ds:List V}(a:h.get l=some (.cells ety sz true ro ds))(b:off+n*sz<=ds.length):∃new,xcells h sz (.slice l off n)=some (n,new)/\new=(ds.drop off).take (n*sz):=by
 cases n with
 |zero=>exact⟨_,rfl,by simp⟩
 | succ n=>
   refine⟨_,?_,rfl⟩;unfold xcells ldAt cellsAt;have:sub ds off (Nat.mul (Nat.succ n) sz)=some ((ds.drop off).take ((n+1)*sz)):=ve b;simp only[a,en,j6,this]
theorem SlR.xc (hs:SlR E F h ys x):∃new,xcells h E.sz x=some (ys.length,new)/\Win E F h new ys/\new.length=ys.length*E.sz:=by
 rcases hs with⟨rfl,rfl⟩|⟨l,off,ety,live,ro,ds,rfl,g,c,d,i,a⟩
 ·exact⟨[],rfl,trivial,by simp⟩
 ·have e:=a.length;rw[wBy]at e;rcases d with rfl|rfl
  ·exact⟨[],rfl,trivial,by simp⟩
  ·obtain⟨new,f,b⟩:=vN (n:=ys.length) (off:=off) (sz:=E.sz) c (by omega);exact⟨new,f,by rw[b];exact a.take,by rw[b,wAc,wBy];omega⟩
theorem OwnR.xc (hs:OwnR E ty F h ys x):∃new,xcells h E.sz x=some (ys.length,new)/\Win E F h new ys/\new.length=ys.length*E.sz:=by
 rcases hs with⟨rfl,rfl⟩|⟨t,ds,rfl,e,f,c,a,g⟩
 ·exact⟨[],rfl,trivial,by simp⟩
 ·have i:=a.length;obtain⟨new,d,b⟩:=vN (n:=ys.length) (off:=0) (sz:=E.sz) c (by omega);refine⟨new,d,by rw[b,wBT];exact a.take,by rw[b,wAc,wBy];omega⟩
theorem yY{e sz:Nat}{z:V}:pBS e sz 0 z []=some (.cells e sz true false [],λl=> .slice l 0 0):=rfl
theorem Hold.app (H:Hold F h cs)(i:Nat)(hi:cs[i]? =some (rowP E ty xs v)){by_:Nat}{new:List V}(f:xcells h E.sz x=some (ys.length,new))(g:Win E F h new ys)(b:new.length=ys.length*E.sz)
  (k:0<E.sz) (m:by_<=1000) (c:xs.length+ys.length<=10000000) :
  ∃a h',happend ty E.sz by_ v x h=some (.val a h')/\h.next<=h'.next/\Hold F h' (cs.set i (rowP E ty (xs++ys) a))/\Sn F h F h':=by
 have d:=H.row i hi;by_cases hk:0<ys.length
 ·have n:(xs.length+ys.length)*by_<=10000000*1000:=Nat.mul_le_mul c m;obtain⟨a,h',o,q,j,l1⟩:=d.append (by_:=by_) f g b (g.one b) hk k H.fl (by omega) (by omega);obtain⟨r,s⟩:=H.turn' (p:=rowP E ty (xs++ys) a) hi j q λl b=>(l1 l b).imp id λe=>by omega
  exact⟨a,h',o,j.next,r,s⟩
 ·have e0:ys=[]:=wAf (by omega);subst e0;refine⟨v,h,?_,wAF _,by rw[wAa];exact H.swap hi d λ_ h=>h,Sn.refl _ _⟩;unfold happend;rw[f];rcases d with⟨rfl,_⟩|⟨t,ds,rfl,_⟩ <;> rfl
theorem Hold.appR (H:Hold F h cs)(i:Nat)(hi:cs[i]? =some (rowP E ty xs v)){by_:Nat}(hs:SlR E F h ys x)(c:0<E.sz)(d:by_<=1000)(a:xs.length+ys.length<=10000000) :
  ∃b h',happend ty E.sz by_ v x h=some (.val b h')/\h.next<=h'.next/\Hold F h' (cs.set i (rowP E ty (xs++ys) b))/\Sn F h F h':=by
 obtain⟨new,e,f,g⟩:=hs.xc;exact H.app i hi e f g c d a
theorem Hold.appO (H:Hold F h cs)(i j:Nat)(hi:cs[i]? =some (rowP E ty xs v)){c:Nat}(d:cs[j]? =some (rowP E c ys x)){by_:Nat}(e:0<E.sz)(f:by_<=1000)(a:xs.length+ys.length<=10000000) :
  ∃b h',happend ty E.sz by_ v x h=some (.val b h')/\h.next<=h'.next/\Hold F h' (cs.set i (rowP E ty (xs++ys) b))/\Sn F h F h':=by
 obtain⟨new,g,k,l⟩:=(H.row j d).xc;exact H.app i hi g k l e f a
theorem Hold.app1 (H:Hold F h cs)(i:Nat)(hi:cs[i]? =some (rowP E ty xs v)){by_ ety:Nat}{y:α}{w:List V}{ro:Bool}(b:E.rel F h y w)(c:0<E.sz)(d:by_<=1000)(e:xs.length<1000000) :
  ∃a h',happend ty E.sz by_ v (.slice h.next 0 1) (h.new (.cells ety E.sz true ro w))=some (.val a h')/\h.next+1<=h'.next/\Hold F h' (cs.set i (rowP E ty (xs++[y]) a))/\Sn F h F h':=by
 obtain⟨f,g⟩:=H.grow (Chg.new h (.cells ety E.sz true ro w));have j:xcells (h.new (.cells ety E.sz true ro w)) E.sz (.slice h.next 0 1)=some (1,w):=jl (k:=0) (by rw[E.len b];simp);obtain⟨a,h',m,n,o,p⟩:=f.app (ys:=[y]) i hi j ⟨w,[],by simp,E.keep (λl q=>er _ (H.fl l q)) b,trivial⟩ (by rw[E.len b];simp) c d (by simp;omega);exact⟨a,h',m,n,o,g.trans p⟩
theorem Hold.cutR (H:Hold F h cs)(i:Nat)(hi:cs[i]? =some (rowP E ty xs v)){n:Nat}(b:n<=xs.length) :
  ∃a,hsliceV E.sz v none (some (.int .i64 n)) h=some a/\Hold F h (cs.set i (rowP E ty (xs.take n) a)):=by
 obtain⟨a,c,d,e⟩:=(H.row i hi).cut b;exact⟨a,c,H.swap hi d e⟩
theorem Hold.freezeR (H:Hold F h cs)(i:Nat)(hi:cs[i]? =some (rowP E ty xs v)):Hold (λl=>F l\/Loc v l) h (cs.set i emp)/\Sn F h (λl=>F l\/Loc v l) h/\SlR E (λl=>F l\/Loc v l) h xs v:=by
 obtain⟨a,b⟩:=H.turn (p:=emp) (F':=λl=>F l\/Loc v l) hi (Chg.refl _ _) (λ_ h=> .inl h) (λ_ h=>h.imp id .inl) trivial λ_ h=>h.elim;exact⟨a,b,(H.row i hi).read⟩
theorem Hold.make (H:Hold F h cs){y:α}{u:V}(n:Nat)(a:E.rel F h y [u])(c:E.sz=1):Hold F (h.new (.cells ty 1 true false (List.replicate n u))) (rowP E ty (List.replicate n y) (.slice h.next 0 n)::cs)/\Sn F h F (h.new (.cells ty 1 true false (List.replicate n u))):=by
 have b:=E.one a;rw[ee,wAJ]at b;have:=H.newR (E:=E) ty (n:=n) (by simp) (Win.rep a n) (Bb b.1 n)
 rwa [c]at this
theorem gh {e by_ n:Nat}{z:V}(a:z.one=true)(b:by_<=100)(c:n<=1000000) :
  hmakeSlice e 1 by_ z (.int .i64 (n:Int)) (.int .i64 (n:Int))=some (O.cells e 1 true false (List.replicate n z),λl=>V.slice l 0 n):=by
 have:n*by_<=1000000*100:=Nat.mul_le_mul c b;rw[B0 (by omega) (by omega),Cv a,Hf]
theorem gQ {l o:Nat}{u:V}(a:pLd (.ptr l o) h=some u)(b:h'.get l=h.get l):pLd (.ptr l o) h' = some u:=by
 rw[<-a];unfold pLd ld1 cellsAt;simp only[rW,b]
theorem zZ {l o n:Nat}{u:V}(a:pLdA n (.ptr l o) h=some u)(b:h'.get l=h.get l):pLdA n (.ptr l o) h' = some u:=by
 rw[<-a];unfold pLdA ldAt cellsAt;simp only[rW,b]
end
open Go.Proofs.YtpnddokajmjpbaaDoor.Un
def rowsP {ι:Type}(ty:Nat)(f:ι->Option (List Nat×V)):Pc where
 foot:=λl=>∃i xs v,f i=some (xs,v)/\Loc v l
 ok F h:=(∀i xs v,f i=some (xs,v)->OwnR eN ty F h xs v)/\∀i j xs v ys w,f i=some (xs,v)->f j=some (ys,w)->i≠j->∀l,Loc v l->¬Loc w l
 inn:=λh l ⟨i,xs,v,a,b⟩=>((h.1 i xs v a).tyOf b).2
 keep:=λh c b e=>⟨λi xs v a=>(h.1 i xs v a).keep c (λl d=>b l ⟨i,xs,v,a,d⟩) e,h.2⟩
 mono:=λh c b=>⟨λi xs v a=>(h.1 i xs v a).mono c λl d=>b l ⟨i,xs,v,a,d⟩,h.2⟩
def up{ι α:Type}[DecidableEq ι] (f:ι->Option α)(i:ι)(x:Option α):ι->Option α:=λj=>if j=i then x else f j
@[simp] theorem fS {ι α:Type} [DecidableEq ι] (f:ι->Option α) (i:ι) (x:Option α):up f i x i=x:=if_pos rfl
theorem fP{ι α:Type}[DecidableEq ι] (f:ι->Option α){i j:ι}(x:Option α)(h:j≠i):up f i x j=f j:=if_neg h
section
variable{F:Nat->Prop}{h:Hp}{cs:List Pc}{p q:Pc}
theorem Hold.sw (H:Hold F h (p::q::cs)):Hold F h (q::p::cs) where
 fl:=H.fl
 ok:=λi c hc=>by
  match i,hc with
  |0,hc=>exact H.ok 1 c hc
  |1,hc=>exact H.ok 0 c hc
  |i+2,hc=>exact H.ok (i+2) c hc
 dis:=λi j c d hc a b=>by
  match i,j,hc,a with
  |0,0,_,_=>exact absurd rfl b
  |0,1,hc,a=>exact H.dis 1 0 c d hc a (by omega)
  |0,j+2,hc,a=>exact H.dis 1 (j+2) c d hc a (by omega)
  |1,0,hc,a=>exact H.dis 0 1 c d hc a (by omega)
  |1,1,_,_=>exact absurd rfl b
  |1,j+2,hc,a=>exact H.dis 0 (j+2) c d hc a (by omega)
  |i+2,0,hc,a=>exact H.dis (i+2) 1 c d hc a (by omega)
  |i+2,1,hc,a=>exact H.dis (i+2) 0 c d hc a (by omega)
  |i+2,j+2,hc,a=>exact H.dis (i+2) (j+2) c d hc a b
theorem Hold.drop1 (H:Hold F h (p::q::cs)):Hold F h (p::cs):=H.sw.tail
end
section
variable{F F':Nat->Prop}{h h':Hp}{cs:List Pc}{ι:Type}{ty:Nat}{f:ι->Option (List Nat×V)}{xs:List Nat}{v:V}
theorem Hold.rows0 (H:Hold F h cs):Hold F h (rowsP (ι:=ι) ty (λ_=>Option.none)::cs):=
 H.add ⟨λ_ _ _ h=>(nomatch h),λ_ _ _ _ _ _ h=>(nomatch h)⟩ λ_ ⟨_,_,_,h,_⟩=>(nomatch h)
theorem Hold.rowsIn [DecidableEq ι] (H:Hold F h (rowP eN ty xs v::rowsP ty f::cs)){i:ι}(hi:f i=Option.none):Hold F h (rowsP ty (up f i (some (xs,v)))::cs):=by
 have h0:=H.ok 0 _ rfl;have m:=H.ok 1 _ rfl;have n:∀l,Loc v l->¬(rowsP ty f).foot l:=λl d=>H.dis 0 1 _ _ rfl rfl (by omega) l d;refine H.tail.tail.cons ⟨λj ys w b=>?_,λj k ys w o x b a p l d g=>?_⟩ λj c hc l d=>?_
 ·by_cases e:j=i
  ·subst e;rw[fS]at b;cases b;exact h0
  ·rw[fP _ _ e]at b;exact m.1 j ys w b
 ·by_cases e:j=i
  ·subst e;rw[fS]at b;cases b;rw[fP _ _ λe=>p e.symm]at a;exact n l d ⟨k,o,x,a,g⟩
  ·rw[fP _ _ e]at b;by_cases e':k=i
   ·subst e';rw[fS]at a;cases a;exact n l g ⟨j,ys,w,b,d⟩
   ·rw[fP _ _ e']at a;exact m.2 j k ys w o x b a p l d g
 ·obtain⟨k,ys,w,a,q⟩:=d;by_cases e:k=i
  ·subst e;rw[fS]at a;cases a;exact H.dis 0 (j+2) _ c rfl hc (by omega) l q
  ·rw[fP _ _ e]at a;exact H.dis 1 (j+2) _ c rfl hc (by omega) l ⟨k,ys,w,a,q⟩
theorem Hold.rows (H:Hold F h cs)(n:Nat)(a:cs[n]? =some (rowsP ty f)){i:ι}(hi:f i=some (xs,v)):OwnR eN ty F h xs v:=(H.ok n _ a).1 i xs v hi
theorem Hold.rowsLess {κ:Type}(H:Hold F h cs)(n:Nat)(d:cs[n]? =some (rowsP ty f))(g:κ->Option (List Nat×V))(m:κ->ι)(b:∀i p,g i=some p->f (m i)=some p)(a:∀i j p q,g i=some p->g j=some q->m i=m j->i=j):Hold F h (cs.set n (rowsP ty g)):=by
 have k:=H.ok n _ d;refine H.swap d ⟨λi xs v hi=>k.1 (m i) xs v (b i _ hi),λi j xs v ys w hi o c=>k.2 (m i) (m j) xs v ys w (b i _ hi) (b j _ o) λe=>c (a i j _ _ hi o e)⟩ λl ⟨i,xs,v,hi,r⟩=>⟨m i,xs,v,b i _ hi,r⟩
theorem Hold.rowsSt [DecidableEq ι] (H:Hold F h cs)(n:Nat)(C:cs[n]? =some (rowsP ty f)){i:ι}(hi:f i=some (xs,v)){k:Nat}(D:k<xs.length)(y:Nat) :
  ∃l o h',pIx 1 v (.int .i64 k)=some (.ptr l o)/\pSt 1 (.ptr l o) (.int .i64 y) h=some (.val .undef h')/\h.next<=h'.next/\Hold F h' (cs.set n (rowsP ty (up f i (some (xs.set k y,v)))))/\Sn F h F h':=by
 have p:=H.ok n _ C;obtain⟨t,h',N,E,G,I,q⟩:=(p.1 i xs v hi).store (k:=0) (y:=y) (u:=V.int .i64 y) D Nat.one_pos rfl (λw J=>by
  have:w=[.int .i64 (xs[k]:Nat)]:=J;subst this;exact(rfl:eN.rel F h y [V.int .i64 y]))
 have hc:Chg (rowsP ty f).foot h h':=q.weak λl _ c=>⟨i,xs,v,hi,c⟩
 have g:∀{a:ι} {m:List Nat} {b:V},up f i (some (xs.set k y,v)) a=some (m,b)->∃cs,f a=some (cs,b):=λ{a m b} r=>by
  by_cases e:a=i
  ·subst e;rw[fS]at r;cases r;exact⟨xs,hi⟩
  ·rw[fP _ _ e]at r;exact⟨m,r⟩
 have ok:(rowsP ty (up f i (some (xs.set k y,v)))).ok F h':=by
  refine⟨λj ys w d=>?_,λj K ys w m x d s z l c A=>?_⟩
  ·by_cases e:j=i
   ·subst e;rw[fS]at d;cases d;exact I
   ·rw[fP _ _ e]at d;have:=p.1 j ys w d;exact this.keep (λl c=>q.keep l (H.fl l c) λB=>((p.1 i xs v hi).tyOf B).2.2 c) (λl c=>q.keep l (this.tyOf c).2.1 λB=>p.2 j i ys w xs v d hi e l c B) q.next
  ·obtain⟨_,a1⟩:=g d;obtain⟨_,a2⟩:=g s;exact p.2 j K _ w _ x a1 a2 z l c A
 obtain⟨L,M⟩:=H.turn' C hc ok λl ⟨j,ys,w,d,c⟩=> .inl (let⟨m,a1⟩:=g d;⟨j,m,w,a1,c⟩);exact⟨t,k*1,h',E,G,q.next,L,M⟩
end
open Go.Proofs.YtpnddokajmjpbaaDoor.Un
structure Rw where
 vv:V
 vb:V
 vs:V
 vk:V
 vc:V
 vp:V
 cc:V
def comp (lu lkn lbl:Nat)(R:Rw):Nat->Nat->Prop
 |0,l=>l=lu
 |1,l=>l=lkn
 |2,l=>l=lbl
 |3,l=>Loc R.vv l
 |4,l=>Loc R.vb l
 |5,l=>Loc R.vs l
 |6,l=>Loc R.vk l
 |7,l=>Loc R.vc l
 |_,_=>False
def sig:Nat->Nat×Nat
 |0=>(tyUnit,1)
 |1=>(tyInts,1)
 |2=>(tyBlock,1)
 |3=>(tyVal,6)
 |4=>(tyBlock,6)
 |5=>(tyState,1)
 |_=>(tyInt,1)
structure Dw (F G:Nat->Prop) (h:Hp) (lu lkn lbl:Nat) (t:Dt) (R:Rw):Prop where
 fl:∀l,F l->l<h.next
 gu:h.get lu=some (.cells tyUnit 1 true false [.int .i64 1,.int .i64 2,R.vv,R.vb,R.vs])
 gk:h.get lkn=some (.cells tyInts 1 true false [R.vk])
 gb:h.get lbl=some (.cells tyBlock 1 true false [R.cc,.int .i64 0,.int .i64 0,.nilSlice,R.vp,.int .i64 0])
 nu:lu<h.next/\¬F lu
 nk:lkn<h.next/\¬F lkn
 nb:lbl<h.next/\¬F lbl
 ov:OwnR eV tyVal F h t.s.vals R.vv
 ob:OwnR eK tyBlock F h t.blocks R.vb
 os:OwnR eT tyState F h t.s.states R.vs
 ok:OwnR eN tyInt F h t.s.known R.vk
 oc:OwnR eN tyInt F h t.s.cur R.vc
 sp:SlR eN F h t.preds R.vp
 kc:∀l,Loc R.vk l->¬Loc R.vc l
 gx:∀l,G l->l<h.next/\¬F l/\∀i,¬comp lu lkn lbl R i l
structure Kp (F G:Nat->Prop) (h h':Hp):Prop where
 next:h.next<=h'.next
 keep:∀l,F l\/G l->h'.get l=h.get l
theorem Kp.refl (F G:Nat->Prop)(h:Hp):Kp F G h h:=⟨wAF _,λ_ _=>rfl⟩
theorem Kp.trans {F F' G:Nat->Prop} {h h' c:Hp}(a:Kp F G h h')(b:Kp F' G h' c)(e:∀l,F l->F' l):Kp F G h c:=
 ⟨wAq a.next b.next,λl d=>by rw[b.keep l (d.imp (e l) id),a.keep l d]⟩
section
variable{F G:Nat->Prop}{h h':Hp}{lu lkn lbl:Nat}{t:Dt}{R:Rw}
theorem Dw.sig (D:Dw F G h lu lkn lbl t R){l:Nat}:∀{i:Nat},comp lu lkn lbl R i l->tyAt h l=some (Hx.sig i)/\l<h.next/\¬F l
 |0,hl=>by have e:l=lu:=hl;subst e;exact⟨AR D.gu,D.nu⟩
 |1,hl=>by have e:l=lkn:=hl;subst e;exact⟨AR D.gk,D.nk⟩
 |2,hl=>by have e:l=lbl:=hl;subst e;exact⟨AR D.gb,D.nb⟩
 |3,hl=>D.ov.tyOf hl
 |4,hl=>D.ob.tyOf hl
 |5,hl=>D.os.tyOf hl
 |6,hl=>D.ok.tyOf hl
 |7,hl=>D.oc.tyOf hl
 |_+8,hl=>hl.elim
theorem Dw.dis (D:Dw F G h lu lkn lbl t R){l i j:Nat}(hi:comp lu lkn lbl R i l)(b:comp lu lkn lbl R j l):Hx.sig i=Hx.sig j:=by
 have a:=(D.sig hi).1;rw[(D.sig b).1]at a;exact(Option.some.inj a).symm
theorem Dw.dis' (D:Dw F G h lu lkn lbl t R){l i j:Nat}(hi:comp lu lkn lbl R i l)(a:comp lu lkn lbl R j l)(c:i<8)(d:j<8):i=j:=by
 have e:=D.dis hi a;have b:∀i,i<8->∀j,j<8->Hx.sig i=Hx.sig j->i=j\/(i=6/\j=7)\/(i=7/\j=6):=by decide
 rcases b i c j d e with f|⟨rfl,rfl⟩|⟨rfl,rfl⟩
 ·exact f
 ·exact absurd a (D.kc l hi)
 ·exact absurd hi (D.kc l a)
theorem Dw.kept (D:Dw F G h lu lkn lbl t R){i j:Nat}(hi:i<8)(e:j<8)(hc:Chg (λl=>comp lu lkn lbl R i l\/comp lu lkn lbl R j l) h h') :
  (∀l,F l->h'.get l=h.get l)/\(∀l,G l->h'.get l=h.get l)/\∀k l,k<8->k≠i->k≠j->comp lu lkn lbl R k l->h'.get l=h.get l:=by
 refine⟨λl a=>hc.keep l (D.fl l a) ?_,λl a=>hc.keep l (D.gx l a).1 ?_,λk l d b f a=>hc.keep l (D.sig a).2.1 ?_⟩
 ·rintro(b|b)
  ·exact(D.sig b).2.2 a
  ·exact(D.sig b).2.2 a
 ·rintro(b|b)
  ·exact(D.gx l a).2.2 _ b
  ·exact(D.gx l a).2.2 _ b
 ·rintro(c|c)
  ·exact b (D.dis' a c d hi)
  ·exact f (D.dis' a c d e)
theorem Dw.other (D:Dw F G h lu lkn lbl t R){S:Nat->Prop}(b:Chg S h h')(d:∀l,S l->¬F l/\¬G l/\∀i,¬comp lu lkn lbl R i l):Dw F G h' lu lkn lbl t R/\Kp F G h h':=by
 have c:∀l,F l->h'.get l=h.get l:=λl a=>b.keep l (D.fl l a) λhs=>(d l hs).1 a;have e:∀l,G l->h'.get l=h.get l:=λl a=>b.keep l (D.gx l a).1 λhs=>(d l hs).2.1 a;have k:∀i l,comp lu lkn lbl R i l->h'.get l=h.get l:=λi l a=>b.keep l (D.sig a).2.1 λhs=>(d l hs).2.2 i a;have lt:∀l,l<h.next->l<h'.next:=λl a=>wAO a b.next
 exact ⟨{
  fl:=λl a=>lt l (D.fl l a)
  gu:=by rw[k 0 _ rfl];exact D.gu
  gk:=by rw[k 1 _ rfl];exact D.gk
  gb:=by rw[k 2 _ rfl];exact D.gb
  nu:=⟨lt _ D.nu.1,D.nu.2⟩
  nk:=⟨lt _ D.nk.1,D.nk.2⟩
  nb:=⟨lt _ D.nb.1,D.nb.2⟩
  ov:=D.ov.keep c (λl a=>k 3 l a) b.next
  ob:=D.ob.keep c (λl a=>k 4 l a) b.next
  os:=D.os.keep c (λl a=>k 5 l a) b.next
  ok:=D.ok.keep c (λl a=>k 6 l a) b.next
  oc:=D.oc.keep c (λl a=>k 7 l a) b.next
  sp:=D.sp.keep c
  kc:=D.kc
  gx:=λl a=>⟨lt l (D.gx l a).1,(D.gx l a).2⟩ },⟨b.next,λl a=>a.elim (c l) (e l)⟩⟩
theorem Dw.grow (D:Dw F G h lu lkn lbl t R)(a:Grows h h'):Dw F G h' lu lkn lbl t R:=(D.other a λ_ h=>h.elim).1
theorem Dw.more (D:Dw F G h lu lkn lbl t R) {F':Nat->Prop}(c:∀l,F l->F' l)(d:∀l,F' l->F l\/(l<h.next/\(∀i,¬comp lu lkn lbl R i l)/\¬G l)):Dw F' G h lu lkn lbl t R:=by
 have b:∀i l,comp lu lkn lbl R i l->¬F' l:=λi l a e=>by
  rcases d l e with f|⟨_,f,_⟩
  ·exact(D.sig a).2.2 f
  ·exact f i a
 exact {
  fl:=λl a=>(d l a).elim (D.fl l) λh=>h.1
  gu:=D.gu
  gk:=D.gk
  gb:=D.gb
  nu:=⟨D.nu.1,b 0 _ rfl⟩
  nk:=⟨D.nk.1,b 1 _ rfl⟩
  nb:=⟨D.nb.1,b 2 _ rfl⟩
  ov:=D.ov.mono c λl a=>b 3 l a
  ob:=D.ob.mono c λl a=>b 4 l a
  os:=D.os.mono c λl a=>b 5 l a
  ok:=D.ok.mono c λl a=>b 6 l a
  oc:=D.oc.mono c λl a=>b 7 l a
  sp:=D.sp.mono c
  kc:=D.kc
  gx:=λl a=>⟨(D.gx l a).1,λe=>(d l e).elim (D.gx l a).2.1 λh=>h.2.2 a,(D.gx l a).2.2⟩ }
def fz (F:Nat->Prop)(n:Nat):Nat->Prop:=λl=>F l\/l=n
theorem kr (F:Nat->Prop)(n:Nat):∀l,F l->fz F n l:=λ_ h=> .inl h
theorem Dw.new (D:Dw F G h lu lkn lbl t R)(o:O):Dw (fz F h.next) G (h.new o) lu lkn lbl t R:=
 (D.grow (Chg.new h o)).more (kr _ _) λl a=>a.imp id λe=>by
  subst e;refine⟨wAk _,λi hi=>wBW _ (D.sig hi).2.1,λb=>wBW _ (D.gx _ b).1⟩
theorem Kp.new (F G:Nat->Prop)(h:Hp)(o:O)(a:∀l,F l->l<h.next)(b:∀l,G l->l<h.next):Kp F G h (h.new o):=
 ⟨wBZ _,λl c=>er o (c.elim (a l) (b l))⟩
theorem Dw.kpNew (D:Dw F G h lu lkn lbl t R)(o:O):Kp F G h (h.new o):=Kp.new F G h o D.fl λl a=>(D.gx l a).1
theorem ju {l o e sz:Nat} {cs cs':List V}{v:V}(a:h.get l=some (.cells e sz true false cs))(b:o<cs.length)(c:v.one=true)(hs:cs.set o v=cs'):pSt 1 (.ptr l o) v h=some (.val .undef (h.put l (.cells e sz true false cs'))):=by
 subst hs;exact BQ a b c
private theorem chg2 {a:Nat->Prop} {l:Nat} {S:Nat->Prop} {b:Hp} {o:O} (hc:Chg a h b) (c:∀l,a l->S l) (d:l<h.next) (hs:S l):Chg S h (b.put l o):=
 (hc.weak λl _ h=>c l h).trans (Chg.put o hs (wAO d hc.next))
theorem Dw.appV (D:Dw F G h lu lkn lbl t R){ys:List Vl}{new:List V}{xv:V}(u:xcells h 6 xv=some (ys.length,new))(w:Win eV F h new ys)(a:new.length=ys.length*6) (p:allOne new=true)(x:0<ys.length)(hlen:t.s.vals.length+ys.length<1000000) :
  ∃b c f,happend tyVal 6 64 R.vv xv h=some (.val b c)/\h.next<=c.next/\pSt 1 (.ptr lu 2) b c=some (.val .undef f)/\c.next<=f.next/\Kp F G h f/\
   Dw F G f lu lkn lbl {t with s:={t.s with vals:=t.s.vals++ys} } {R with vv:=b}:=by
 obtain ⟨b,c,y,r,n,l1⟩:=D.ov.append (by_:=64) (ys:=ys) u w a p x (by decide) D.fl (by omega) (by omega);have q:c.get lu=some (.cells tyUnit 1 true false [.int .i64 1,.int .i64 2,R.vv,R.vb,R.vs]):=by
  rw[n.keep lu D.nu.1 λa=>nomatch D.dis' (i:=0) (j:=3) rfl a (by decide) (by decide)];exact D.gu
 have g:lu<c.next:=wAO D.nu.1 n.next;have z:=ju (o:=2) (v:=b) (cs':=[.int .i64 1,.int .i64 2,b,R.vb,R.vs]) q (by simp) r.one rfl;have hc:Chg (λl=>comp lu lkn lbl R 0 l\/comp lu lkn lbl R 3 l) h (c.put lu (.cells tyUnit 1 true false [.int .i64 1,.int .i64 2,b,R.vb,R.vs])):=chg2 n (λ_ h=> .inr h) D.nu.1 (.inl rfl);obtain⟨k,A,m⟩:=D.kept (by decide) (by decide) hc;have d:∀l,l<h.next->l<(c.put lu (.cells tyUnit 1 true false [.int .i64 1,.int .i64 2,b,R.vb,R.vs])).next:=λl a=>wAO a hc.next;have B:∀l,Loc b l->l≠lu:=λl a e=>by
  subst e;rcases l1 _ a with f|f
  ·exact absurd (D.dis' (i:=0) (j:=3) rfl f (by decide) (by decide)) (by decide)
  ·exact absurd f (wBN D.nu.1)
 have C:OwnR eV tyVal F (c.put lu (.cells tyUnit 1 true false [.int .i64 1,.int .i64 2,b,R.vb,R.vs])) (t.s.vals++ys) b:=
  r.keep (λl a=>fg _ g λe=>D.nu.2 (e▸a)) (λl a=>fg _ g λe=>B l a e.symm) (wAF _)
 refine⟨b,c,_,y,n.next,z,wAF _,⟨hc.next,λl a=>a.elim (k l) (A l)⟩,?_⟩
 exact {
  fl:=λl a=>d l (D.fl l a)
  gu:=fd _ g
  gk:=by rw[m 1 lkn (by decide) (by decide) (by decide) rfl];exact D.gk
  gb:=by rw[m 2 lbl (by decide) (by decide) (by decide) rfl];exact D.gb
  ov:=C
  ob:=D.ob.keep k (λl a=>m 4 l (by decide) (by decide) (by decide) a) hc.next
  os:=D.os.keep k (λl a=>m 5 l (by decide) (by decide) (by decide) a) hc.next
  ok:=D.ok.keep k (λl a=>m 6 l (by decide) (by decide) (by decide) a) hc.next
  oc:=D.oc.keep k (λl a=>m 7 l (by decide) (by decide) (by decide) a) hc.next
  nu:=⟨d _ D.nu.1,D.nu.2⟩
  nk:=⟨d _ D.nk.1,D.nk.2⟩
  nb:=⟨d _ D.nb.1,D.nb.2⟩
  sp:=D.sp.keep k
  kc:=D.kc
  gx:=λl a=>⟨d l (D.gx l a).1,(D.gx l a).2.1,λi hi=>by
   match i,hi with
   |0,hi=>exact(D.gx l a).2.2 0 hi
   |1,hi=>exact(D.gx l a).2.2 1 hi
   |2,hi=>exact(D.gx l a).2.2 2 hi
   |3,hi=>exact(l1 l hi).elim ((D.gx l a).2.2 3) λe=>absurd e (wBN (D.gx l a).1)
   |4,hi=>exact(D.gx l a).2.2 4 hi
   |5,hi=>exact(D.gx l a).2.2 5 hi
   |6,hi=>exact(D.gx l a).2.2 6 hi
   |7,hi=>exact(D.gx l a).2.2 7 hi⟩ }
theorem Dw.appB (D:Dw F G h lu lkn lbl t R){ys:List Bk}{new:List V}{xv:V}(s:xcells h 6 xv=some (ys.length,new))(u:Win eK F h new ys)(a:new.length=ys.length*6) (p:allOne new=true)(w:0<ys.length)(hlen:t.blocks.length+ys.length<1000000) :
  ∃b c f,happend tyBlock 6 96 R.vb xv h=some (.val b c)/\h.next<=c.next/\pSt 1 (.ptr lu 3) b c=some (.val .undef f)/\c.next<=f.next/\Kp F G h f/\
   Dw F G f lu lkn lbl {t with blocks:=t.blocks++ys} {R with vb:=b}:=by
 obtain ⟨b,c,x,r,n,l1⟩:=D.ob.append (by_:=96) (ys:=ys) s u a p w (by decide) D.fl (by omega) (by omega);have q:c.get lu=some (.cells tyUnit 1 true false [.int .i64 1,.int .i64 2,R.vv,R.vb,R.vs]):=by
  rw[n.keep lu D.nu.1 λa=>nomatch D.dis' (i:=0) (j:=4) rfl a (by decide) (by decide)];exact D.gu
 have g:lu<c.next:=wAO D.nu.1 n.next;have y:=ju (o:=3) (v:=b) (cs':=[.int .i64 1,.int .i64 2,R.vv,b,R.vs]) q (by simp) r.one rfl;have hc:Chg (λl=>comp lu lkn lbl R 0 l\/comp lu lkn lbl R 4 l) h (c.put lu (.cells tyUnit 1 true false [.int .i64 1,.int .i64 2,R.vv,b,R.vs])):=chg2 n (λ_ h=> .inr h) D.nu.1 (.inl rfl);obtain⟨k,z,m⟩:=D.kept (by decide) (by decide) hc;have d:∀l,l<h.next->l<(c.put lu (.cells tyUnit 1 true false [.int .i64 1,.int .i64 2,R.vv,b,R.vs])).next:=λl a=>wAO a hc.next;have A:∀l,Loc b l->l≠lu:=λl a e=>by
  subst e;rcases l1 _ a with f|f
  ·exact absurd (D.dis' (i:=0) (j:=4) rfl f (by decide) (by decide)) (by decide)
  ·exact absurd f (wBN D.nu.1)
 have B:OwnR eK tyBlock F (c.put lu (.cells tyUnit 1 true false [.int .i64 1,.int .i64 2,R.vv,b,R.vs])) (t.blocks++ys) b:=
  r.keep (λl a=>fg _ g λe=>D.nu.2 (e▸a)) (λl a=>fg _ g λe=>A l a e.symm) (wAF _)
 refine⟨b,c,_,x,n.next,y,wAF _,⟨hc.next,λl a=>a.elim (k l) (z l)⟩,?_⟩
 exact {
  fl:=λl a=>d l (D.fl l a)
  gu:=fd _ g
  gk:=by rw[m 1 lkn (by decide) (by decide) (by decide) rfl];exact D.gk
  gb:=by rw[m 2 lbl (by decide) (by decide) (by decide) rfl];exact D.gb
  ov:=D.ov.keep k (λl a=>m 3 l (by decide) (by decide) (by decide) a) hc.next
  ob:=B
  os:=D.os.keep k (λl a=>m 5 l (by decide) (by decide) (by decide) a) hc.next
  ok:=D.ok.keep k (λl a=>m 6 l (by decide) (by decide) (by decide) a) hc.next
  oc:=D.oc.keep k (λl a=>m 7 l (by decide) (by decide) (by decide) a) hc.next
  nu:=⟨d _ D.nu.1,D.nu.2⟩
  nk:=⟨d _ D.nk.1,D.nk.2⟩
  nb:=⟨d _ D.nb.1,D.nb.2⟩
  sp:=D.sp.keep k
  kc:=D.kc
  gx:=λl a=>⟨d l (D.gx l a).1,(D.gx l a).2.1,λi hi=>by
   match i,hi with
   |0,hi=>exact(D.gx l a).2.2 0 hi
   |1,hi=>exact(D.gx l a).2.2 1 hi
   |2,hi=>exact(D.gx l a).2.2 2 hi
   |3,hi=>exact(D.gx l a).2.2 3 hi
   |4,hi=>exact(l1 l hi).elim ((D.gx l a).2.2 4) λe=>absurd e (wBN (D.gx l a).1)
   |5,hi=>exact(D.gx l a).2.2 5 hi
   |6,hi=>exact(D.gx l a).2.2 6 hi
   |7,hi=>exact(D.gx l a).2.2 7 hi⟩ }
theorem Dw.appS (D:Dw F G h lu lkn lbl t R){ys:List (List Fm)}{new:List V}{xv:V}(u:xcells h 1 xv=some (ys.length,new))(w:Win eT F h new ys)(a:new.length=ys.length*1) (p:allOne new=true)(x:0<ys.length)(hlen:t.s.states.length+ys.length<1000000) :
  ∃b c f,happend tyState 1 24 R.vs xv h=some (.val b c)/\h.next<=c.next/\pSt 1 (.ptr lu 4) b c=some (.val .undef f)/\c.next<=f.next/\Kp F G h f/\
   Dw F G f lu lkn lbl {t with s:={t.s with states:=t.s.states++ys} } {R with vs:=b}:=by
 obtain ⟨b,c,y,r,n,l1⟩:=D.os.append (by_:=24) (ys:=ys) u w a p x (by decide) D.fl (by omega) (by omega);have q:c.get lu=some (.cells tyUnit 1 true false [.int .i64 1,.int .i64 2,R.vv,R.vb,R.vs]):=by
  rw[n.keep lu D.nu.1 λa=>nomatch D.dis' (i:=0) (j:=5) rfl a (by decide) (by decide)];exact D.gu
 have g:lu<c.next:=wAO D.nu.1 n.next;have z:=ju (o:=4) (v:=b) (cs':=[.int .i64 1,.int .i64 2,R.vv,R.vb,b]) q (by simp) r.one rfl;have hc:Chg (λl=>comp lu lkn lbl R 0 l\/comp lu lkn lbl R 5 l) h (c.put lu (.cells tyUnit 1 true false [.int .i64 1,.int .i64 2,R.vv,R.vb,b])):=chg2 n (λ_ h=> .inr h) D.nu.1 (.inl rfl);obtain⟨k,A,m⟩:=D.kept (by decide) (by decide) hc;have d:∀l,l<h.next->l<(c.put lu (.cells tyUnit 1 true false [.int .i64 1,.int .i64 2,R.vv,R.vb,b])).next:=λl a=>wAO a hc.next;have B:∀l,Loc b l->l≠lu:=λl a e=>by
  subst e;rcases l1 _ a with f|f
  ·exact absurd (D.dis' (i:=0) (j:=5) rfl f (by decide) (by decide)) (by decide)
  ·exact absurd f (wBN D.nu.1)
 have C:OwnR eT tyState F (c.put lu (.cells tyUnit 1 true false [.int .i64 1,.int .i64 2,R.vv,R.vb,b])) (t.s.states++ys) b:=
  r.keep (λl a=>fg _ g λe=>D.nu.2 (e▸a)) (λl a=>fg _ g λe=>B l a e.symm) (wAF _)
 refine⟨b,c,_,y,n.next,z,wAF _,⟨hc.next,λl a=>a.elim (k l) (A l)⟩,?_⟩
 exact {
  fl:=λl a=>d l (D.fl l a)
  gu:=fd _ g
  gk:=by rw[m 1 lkn (by decide) (by decide) (by decide) rfl];exact D.gk
  gb:=by rw[m 2 lbl (by decide) (by decide) (by decide) rfl];exact D.gb
  ov:=D.ov.keep k (λl a=>m 3 l (by decide) (by decide) (by decide) a) hc.next
  ob:=D.ob.keep k (λl a=>m 4 l (by decide) (by decide) (by decide) a) hc.next
  os:=C
  ok:=D.ok.keep k (λl a=>m 6 l (by decide) (by decide) (by decide) a) hc.next
  oc:=D.oc.keep k (λl a=>m 7 l (by decide) (by decide) (by decide) a) hc.next
  nu:=⟨d _ D.nu.1,D.nu.2⟩
  nk:=⟨d _ D.nk.1,D.nk.2⟩
  nb:=⟨d _ D.nb.1,D.nb.2⟩
  sp:=D.sp.keep k
  kc:=D.kc
  gx:=λl a=>⟨d l (D.gx l a).1,(D.gx l a).2.1,λi hi=>by
   match i,hi with
   |0,hi=>exact(D.gx l a).2.2 0 hi
   |1,hi=>exact(D.gx l a).2.2 1 hi
   |2,hi=>exact(D.gx l a).2.2 2 hi
   |3,hi=>exact(D.gx l a).2.2 3 hi
   |4,hi=>exact(D.gx l a).2.2 4 hi
   |5,hi=>exact(l1 l hi).elim ((D.gx l a).2.2 5) λe=>absurd e (wBN (D.gx l a).1)
   |6,hi=>exact(D.gx l a).2.2 6 hi
   |7,hi=>exact(D.gx l a).2.2 7 hi⟩ }
theorem Dw.appK (D:Dw F G h lu lkn lbl t R){ys:List Nat}{new:List V}{xv:V}(u:xcells h 1 xv=some (ys.length,new))(w:Win eN F h new ys)(a:new.length=ys.length*1) (p:allOne new=true)(x:0<ys.length)(hlen:t.s.known.length+ys.length<1000000) :
  ∃b c f,happend tyInt 1 8 R.vk xv h=some (.val b c)/\h.next<=c.next/\pSt 1 (.ptr lkn 0) b c=some (.val .undef f)/\c.next<=f.next/\Kp F G h f/\
   Dw F G f lu lkn lbl {t with s:={t.s with known:=t.s.known++ys} } {R with vk:=b}:=by
 obtain ⟨b,c,y,r,n,l1⟩:=D.ok.append (by_:=8) (ys:=ys) u w a p x (by decide) D.fl (by omega) (by omega);have q:c.get lkn=some (.cells tyInts 1 true false [R.vk]):=by
  rw[n.keep lkn D.nk.1 λa=>nomatch D.dis' (i:=1) (j:=6) rfl a (by decide) (by decide)];exact D.gk
 have g:lkn<c.next:=wAO D.nk.1 n.next;have z:=ju (o:=0) (v:=b) (cs':=[b]) q (by simp) r.one rfl;have hc:Chg (λl=>comp lu lkn lbl R 1 l\/comp lu lkn lbl R 6 l) h (c.put lkn (.cells tyInts 1 true false [b])):=chg2 n (λ_ h=> .inr h) D.nk.1 (.inl rfl);obtain⟨k,A,m⟩:=D.kept (by decide) (by decide) hc;have d:∀l,l<h.next->l<(c.put lkn (.cells tyInts 1 true false [b])).next:=λl a=>wAO a hc.next;have B:∀l,Loc b l->l≠lkn:=λl a e=>by
  subst e;rcases l1 _ a with f|f
  ·exact absurd (D.dis' (i:=1) (j:=6) rfl f (by decide) (by decide)) (by decide)
  ·exact absurd f (wBN D.nk.1)
 have C:OwnR eN tyInt F (c.put lkn (.cells tyInts 1 true false [b])) (t.s.known++ys) b:=
  r.keep (λl a=>fg _ g λe=>D.nk.2 (e▸a)) (λl a=>fg _ g λe=>B l a e.symm) (wAF _)
 refine⟨b,c,_,y,n.next,z,wAF _,⟨hc.next,λl a=>a.elim (k l) (A l)⟩,?_⟩
 exact {
  fl:=λl a=>d l (D.fl l a)
  gu:=by rw[m 0 lu (by decide) (by decide) (by decide) rfl];exact D.gu
  gk:=fd _ g
  gb:=by rw[m 2 lbl (by decide) (by decide) (by decide) rfl];exact D.gb
  ov:=D.ov.keep k (λl a=>m 3 l (by decide) (by decide) (by decide) a) hc.next
  ob:=D.ob.keep k (λl a=>m 4 l (by decide) (by decide) (by decide) a) hc.next
  os:=D.os.keep k (λl a=>m 5 l (by decide) (by decide) (by decide) a) hc.next
  ok:=C
  oc:=D.oc.keep k (λl a=>m 7 l (by decide) (by decide) (by decide) a) hc.next
  nu:=⟨d _ D.nu.1,D.nu.2⟩
  nk:=⟨d _ D.nk.1,D.nk.2⟩
  nb:=⟨d _ D.nb.1,D.nb.2⟩
  sp:=D.sp.keep k
  kc:=λl a hc=>(l1 l a).elim (λf=>D.kc l f hc) λe=>absurd e (wBN (D.oc.tyOf hc).2.1)
  gx:=λl a=>⟨d l (D.gx l a).1,(D.gx l a).2.1,λi hi=>by
   match i,hi with
   |0,hi=>exact(D.gx l a).2.2 0 hi
   |1,hi=>exact(D.gx l a).2.2 1 hi
   |2,hi=>exact(D.gx l a).2.2 2 hi
   |3,hi=>exact(D.gx l a).2.2 3 hi
   |4,hi=>exact(D.gx l a).2.2 4 hi
   |5,hi=>exact(D.gx l a).2.2 5 hi
   |6,hi=>exact(l1 l hi).elim ((D.gx l a).2.2 6) λe=>absurd e (wBN (D.gx l a).1)
   |7,hi=>exact(D.gx l a).2.2 7 hi⟩ }
theorem Dw.appC (D:Dw F G h lu lkn lbl t R){ys:List Nat}{new:List V}{xv:V}(u:xcells h 1 xv=some (ys.length,new))(w:Win eN F h new ys)(a:new.length=ys.length*1) (p:allOne new=true)(x:0<ys.length)(hlen:t.s.cur.length+ys.length<1000000) :
  ∃b c f,happend tyInt 1 8 R.vc xv h=some (.val b c)/\h.next<=c.next/\pSt 1 (.ptr lbl 0) b c=some (.val .undef f)/\c.next<=f.next/\Kp F G h f/\
   Dw F G f lu lkn lbl {t with s:={t.s with cur:=t.s.cur++ys} } {R with vc:=b,cc:=b}:=by
 obtain ⟨b,c,y,r,n,l1⟩:=D.oc.append (by_:=8) (ys:=ys) u w a p x (by decide) D.fl (by omega) (by omega);have q:c.get lbl=some (.cells tyBlock 1 true false [R.cc,.int .i64 0,.int .i64 0,.nilSlice,R.vp,.int .i64 0]):=by
  rw[n.keep lbl D.nb.1 λa=>nomatch D.dis' (i:=2) (j:=7) rfl a (by decide) (by decide)];exact D.gb
 have g:lbl<c.next:=wAO D.nb.1 n.next;have z:=ju (o:=0) (v:=b) (cs':=[b,.int .i64 0,.int .i64 0,.nilSlice,R.vp,.int .i64 0]) q (by simp) r.one rfl;have hc:Chg (λl=>comp lu lkn lbl R 2 l\/comp lu lkn lbl R 7 l) h (c.put lbl (.cells tyBlock 1 true false [b,.int .i64 0,.int .i64 0,.nilSlice,R.vp,.int .i64 0])):=chg2 n (λ_ h=> .inr h) D.nb.1 (.inl rfl);obtain⟨k,A,m⟩:=D.kept (by decide) (by decide) hc;have d:∀l,l<h.next->l<(c.put lbl (.cells tyBlock 1 true false [b,.int .i64 0,.int .i64 0,.nilSlice,R.vp,.int .i64 0])).next:=λl a=>wAO a hc.next;have B:∀l,Loc b l->l≠lbl:=λl a e=>by
  subst e;rcases l1 _ a with f|f
  ·exact absurd (D.dis' (i:=2) (j:=7) rfl f (by decide) (by decide)) (by decide)
  ·exact absurd f (wBN D.nb.1)
 have C:OwnR eN tyInt F (c.put lbl (.cells tyBlock 1 true false [b,.int .i64 0,.int .i64 0,.nilSlice,R.vp,.int .i64 0])) (t.s.cur++ys) b:=
  r.keep (λl a=>fg _ g λe=>D.nb.2 (e▸a)) (λl a=>fg _ g λe=>B l a e.symm) (wAF _)
 refine⟨b,c,_,y,n.next,z,wAF _,⟨hc.next,λl a=>a.elim (k l) (A l)⟩,?_⟩
 exact {
  fl:=λl a=>d l (D.fl l a)
  gu:=by rw[m 0 lu (by decide) (by decide) (by decide) rfl];exact D.gu
  gk:=by rw[m 1 lkn (by decide) (by decide) (by decide) rfl];exact D.gk
  gb:=fd _ g
  ov:=D.ov.keep k (λl a=>m 3 l (by decide) (by decide) (by decide) a) hc.next
  ob:=D.ob.keep k (λl a=>m 4 l (by decide) (by decide) (by decide) a) hc.next
  os:=D.os.keep k (λl a=>m 5 l (by decide) (by decide) (by decide) a) hc.next
  ok:=D.ok.keep k (λl a=>m 6 l (by decide) (by decide) (by decide) a) hc.next
  oc:=C
  nu:=⟨d _ D.nu.1,D.nu.2⟩
  nk:=⟨d _ D.nk.1,D.nk.2⟩
  nb:=⟨d _ D.nb.1,D.nb.2⟩
  sp:=D.sp.keep k
  kc:=λl a hc=>(l1 l hc).elim (λf=>D.kc l a f) λe=>absurd e (wBN (D.ok.tyOf a).2.1)
  gx:=λl a=>⟨d l (D.gx l a).1,(D.gx l a).2.1,λi hi=>by
   match i,hi with
   |0,hi=>exact(D.gx l a).2.2 0 hi
   |1,hi=>exact(D.gx l a).2.2 1 hi
   |2,hi=>exact(D.gx l a).2.2 2 hi
   |3,hi=>exact(D.gx l a).2.2 3 hi
   |4,hi=>exact(D.gx l a).2.2 4 hi
   |5,hi=>exact(D.gx l a).2.2 5 hi
   |6,hi=>exact(D.gx l a).2.2 6 hi
   |7,hi=>exact(l1 l hi).elim ((D.gx l a).2.2 7) λe=>absurd e (wBN (D.gx l a).1)⟩ }
theorem Dw.cell (D:Dw F G h lu lkn lbl t R){i:Nat}(hi:i<8)(hc:Chg (λl=>comp lu lkn lbl R i l) h h') :
  (∀l,F l->h'.get l=h.get l)/\(∀l,G l->h'.get l=h.get l)/\∀k l,k<8->k≠i->comp lu lkn lbl R k l->h'.get l=h.get l:=by
 obtain⟨c,d,e⟩:=D.kept hi hi (hc.weak (S':=λl=>comp lu lkn lbl R i l\/comp lu lkn lbl R i l) λ_ _ h=> .inl h);exact⟨c,d,λk l a b=>e k l a b b⟩
theorem Dw.cutK (D:Dw F G h lu lkn lbl t R){n:Nat}(g:n<=t.s.known.length) :
  ∃b e,hsliceV 1 R.vk none (some (.int .i64 n)) h=some b/\pSt 1 (.ptr lkn 0) b h=some (.val .undef e)/\h.next<=e.next/\Kp F G h e/\Dw F G e lu lkn lbl {t with s:=Un.cut n t.s} {R with vk:=b}:=by
 obtain⟨b,j,f,l1⟩:=D.ok.cut g;have k:=ju (o:=0) (v:=b) (cs':=[b]) D.gk (by simp) f.one rfl;have hc:Chg (λl=>comp lu lkn lbl R 1 l) h (h.put lkn (.cells tyInts 1 true false [b])):=Chg.put _ rfl D.nk.1;obtain⟨c,m,d⟩:=D.cell (by decide) hc;refine⟨b,_,j,k,wAF _,⟨hc.next,λl a=>a.elim (c l) (m l)⟩,?_⟩
 exact {
  fl:=D.fl
  gu:=by rw[d 0 lu (by decide) (by decide) rfl];exact D.gu
  gk:=fd _ D.nk.1
  gb:=by rw[d 2 lbl (by decide) (by decide) rfl];exact D.gb
  nu:=D.nu
  nk:=D.nk
  nb:=D.nb
  ov:=D.ov.keep c (λl a=>d 3 l (by decide) (by decide) a) hc.next
  ob:=D.ob.keep c (λl a=>d 4 l (by decide) (by decide) a) hc.next
  os:=D.os.keep c (λl a=>d 5 l (by decide) (by decide) a) hc.next
  ok:=f.keep c (λl a=>d 6 l (by decide) (by decide) (l1 l a)) hc.next
  oc:=D.oc.keep c (λl a=>d 7 l (by decide) (by decide) a) hc.next
  sp:=D.sp.keep c
  kc:=λl a=>D.kc l (l1 l a)
  gx:=λl a=>⟨(D.gx l a).1,(D.gx l a).2.1,λi hi=>by
   match i,hi with
   |0,hi=>exact(D.gx l a).2.2 0 hi
   |1,hi=>exact(D.gx l a).2.2 1 hi
   |2,hi=>exact(D.gx l a).2.2 2 hi
   |3,hi=>exact(D.gx l a).2.2 3 hi
   |4,hi=>exact(D.gx l a).2.2 4 hi
   |5,hi=>exact(D.gx l a).2.2 5 hi
   |6,hi=>exact(D.gx l a).2.2 6 (l1 l hi)
   |7,hi=>exact(D.gx l a).2.2 7 hi⟩ }
theorem Dw.setBl (D:Dw F G h lu lkn lbl t R){c p:V}{ps:List Nat}(e:SlR eN F h ps p):Kp F G h (h.put lbl (.cells tyBlock 1 true false [c,.int .i64 0,.int .i64 0,.nilSlice,p,.int .i64 0]))/\
  Dw F G (h.put lbl (.cells tyBlock 1 true false [c,.int .i64 0,.int .i64 0,.nilSlice,p,.int .i64 0])) lu lkn lbl {t with preds:=ps} {R with vp:=p,cc:=c}:=by
 have hc:Chg (λl=>comp lu lkn lbl R 2 l) h (h.put lbl (.cells tyBlock 1 true false [c,.int .i64 0,.int .i64 0,.nilSlice,p,.int .i64 0])):=Chg.put _ rfl D.nb.1;obtain⟨b,f,d⟩:=D.cell (by decide) hc;refine⟨⟨hc.next,λl a=>a.elim (b l) (f l)⟩,?_⟩
 exact {
  fl:=D.fl
  gu:=by rw[d 0 lu (by decide) (by decide) rfl];exact D.gu
  gk:=by rw[d 1 lkn (by decide) (by decide) rfl];exact D.gk
  gb:=fd _ D.nb.1
  nu:=D.nu
  nk:=D.nk
  nb:=D.nb
  ov:=D.ov.keep b (λl a=>d 3 l (by decide) (by decide) a) hc.next
  ob:=D.ob.keep b (λl a=>d 4 l (by decide) (by decide) a) hc.next
  os:=D.os.keep b (λl a=>d 5 l (by decide) (by decide) a) hc.next
  ok:=D.ok.keep b (λl a=>d 6 l (by decide) (by decide) a) hc.next
  oc:=D.oc.keep b (λl a=>d 7 l (by decide) (by decide) a) hc.next
  sp:=e.keep b
  kc:=D.kc
  gx:=D.gx}
def fzc (F:Nat->Prop)(v:V):Nat->Prop:=λl=>F l\/Loc v l
theorem Dw.flush (D:Dw F G h lu lkn lbl t R):SlR eN (fzc F R.vc) h t.s.cur R.vc/\Dw (fzc F R.vc) G h lu lkn lbl {t with s:={t.s with cur:=[]} } {R with vc:= .nilSlice}:=by
 refine⟨D.oc.slR (λ_ h=> .inl h) λ_ h=> .inr h,?_⟩
 have D':Dw F G h lu lkn lbl {t with s:={t.s with cur:=[]} } {R with vc:= .nilSlice}:=
  { D with
    oc:= .nil
    kc:=λ_ _ h=>h
    gx:=λl a=>⟨(D.gx l a).1,(D.gx l a).2.1,λi hi=>by
      match i,hi with
      |0,hi=>exact(D.gx l a).2.2 0 hi
      |1,hi=>exact(D.gx l a).2.2 1 hi
      |2,hi=>exact(D.gx l a).2.2 2 hi
      |3,hi=>exact(D.gx l a).2.2 3 hi
      |4,hi=>exact(D.gx l a).2.2 4 hi
      |5,hi=>exact(D.gx l a).2.2 5 hi
      |6,hi=>exact(D.gx l a).2.2 6 hi
      |n+7,hi=>exact(match n,hi with|0,hi=>hi)⟩ }
 refine D'.more (λ_ h=> .inl h) λl a=>a.imp id λhc=>⟨(D.oc.tyOf hc).2.1,λi hi=>?_,λb=>(D.gx l b).2.2 7 hc⟩
 match i,hi with
 |0,hi=>exact nomatch D.dis' (i:=0) (j:=7) hi hc (by decide) (by decide)
 |1,hi=>exact nomatch D.dis' (i:=1) (j:=7) hi hc (by decide) (by decide)
 |2,hi=>exact nomatch D.dis' (i:=2) (j:=7) hi hc (by decide) (by decide)
 |3,hi=>exact nomatch D.dis' (i:=3) (j:=7) hi hc (by decide) (by decide)
 |4,hi=>exact nomatch D.dis' (i:=4) (j:=7) hi hc (by decide) (by decide)
 |5,hi=>exact nomatch D.dis' (i:=5) (j:=7) hi hc (by decide) (by decide)
 |6,hi=>exact nomatch D.dis' (i:=6) (j:=7) hi hc (by decide) (by decide)
 |n+7,hi=>exact(match n,hi with|0,hi=>hi)
theorem Dw.setA (D:Dw F G h lu lkn lbl t R){p:Nat}{xs:List Nat}{a:V}(j:p<t.s.vals.length)(m:SlR eN F h xs a) :
  ∃l d,pIx 6 R.vv (.int .i64 p)=some (.ptr l (p*6))/\pSt 1 (.ptr l (p*6+4)) a h=some (.val .undef d)/\h.next<=d.next/\Kp F G h d/\Dw F G d lu lkn lbl {t with s:=setArgs t.s p xs} R:=by
 obtain ⟨l,d,_,n,o,q,hc⟩:=D.ov.store (i:=p) (k:=4) (y:={t.s.vals[p]with args:=xs}) j (by decide) m.one (λw ⟨x,r,_⟩=>by subst r;exact⟨a,rfl,m⟩);obtain⟨g,u,f⟩:=D.cell (i:=3) (by decide) hc;refine⟨l,d,n,o,hc.next,⟨hc.next,λl b=>b.elim (g l) (u l)⟩,?_⟩;have c:∀l,l<h.next->l<d.next:=λl b=>wAO b hc.next;have em:(setArgs t.s p xs).vals=t.s.vals.set p {t.s.vals[p]with args:=xs}:=by
  unfold setArgs;show t.s.vals.modify p _=_;refine wBs λi=>?_;rw[wB5,List.getElem?_set];by_cases e:p=i
  ·subst e;simp[j]
  ·simp[e]
 exact {
  fl:=λl b=>c l (D.fl l b)
  gu:=by rw[f 0 lu (by decide) (by decide) rfl];exact D.gu
  gk:=by rw[f 1 lkn (by decide) (by decide) rfl];exact D.gk
  gb:=by rw[f 2 lbl (by decide) (by decide) rfl];exact D.gb
  nu:=⟨c _ D.nu.1,D.nu.2⟩
  nk:=⟨c _ D.nk.1,D.nk.2⟩
  nb:=⟨c _ D.nb.1,D.nb.2⟩
  ov:=by show OwnR eV tyVal F d (setArgs t.s p xs).vals R.vv;rw[em];exact q
  ob:=D.ob.keep g (λl b=>f 4 l (by decide) (by decide) b) hc.next
  os:=D.os.keep g (λl b=>f 5 l (by decide) (by decide) b) hc.next
  ok:=D.ok.keep g (λl b=>f 6 l (by decide) (by decide) b) hc.next
  oc:=D.oc.keep g (λl b=>f 7 l (by decide) (by decide) b) hc.next
  sp:=D.sp.keep g
  kc:=D.kc
  gx:=λl b=>⟨c l (D.gx l b).1,(D.gx l b).2⟩ }
end
