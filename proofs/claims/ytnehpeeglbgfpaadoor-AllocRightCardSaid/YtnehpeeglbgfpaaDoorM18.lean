/- Parts. -/
import Derived.Test.YtnehpeeglbgfpaaDoorM09
import Derived.Test.YtnehpeeglbgfpaaDoorM13
set_option maxHeartbeats 4000000
namespace Go.Proofs.YtnehpeeglbgfpaaDoor.Hx
open Un
def eN:sQ Nat where
 sz:=1
 rel _ _ n cs:=cs=[.int .i64 n]
 len h:=by subst h;rfl
 one h:=by subst h;rfl
 eD _ h:=h
 mono _ h:=h
def qT(x:Vl)(w:V):List V:=[.int .i64 x.op,.int .i64 x.a,.int .i64 x.b,.int .i64 x.n,w,.int .i64 x.state]
def eV:sQ Vl where
 sz:=6
 rel F h x cs:=∃w,cs=qT x w/\iL eN F h x.args w
 len:=λ⟨_,h,_⟩=>by subst h;rfl
 one:=λ⟨_,h,a⟩=>by subst h;simp only[qT,fc,a.one];rfl
 eD:=λb ⟨w,h,a⟩=>⟨w,h,a.eD b⟩
 mono:=λc ⟨w,h,a⟩=>⟨w,h,a.mono c⟩
def lC(x:Bk)(v n p:V):List V:=[v,.int .i64 x.fin,.int .i64 x.cond,n,p,.int .i64 x.state]
def eK:sQ Bk where
 sz:=6
 rel F h x cs:=∃v n p,cs=lC x v n p/\iL eN F h x.ee v/\iL eN F h x.next n/\iL eN F h x.ft p
 len:=λ⟨_,_,_,h,_⟩=>by subst h;rfl
 one:=λ⟨_,_,_,h,a,b,c⟩=>by subst h;simp only[lC,fc,a.one,b.one,c.one];rfl
 eD:=λd ⟨v,n,p,h,a,b,c⟩=>⟨v,n,p,h,a.eD d,b.eD d,c.eD d⟩
 mono:=λe ⟨v,n,p,h,a,b,c⟩=>⟨v,n,p,h,a.mono e,b.mono e,c.mono e⟩
def WH(x:Fm)(l s:V):List V:=[.int .i64 x.func,.int .i64 x.pc,l,s]
def eF:sQ Fm where
 sz:=4
 rel F h x cs:=∃l s,cs=WH x l s/\iL eN F h x.locals l/\iL eN F h x.stack s
 len:=λ⟨_,_,h,_⟩=>by subst h;rfl
 one:=λ⟨_,_,h,a,b⟩=>by subst h;simp only[WH,fc,a.one,b.one];rfl
 eD:=λc ⟨l,s,h,a,b⟩=>⟨l,s,h,a.eD c,b.eD c⟩
 mono:=λd ⟨l,s,h,a,b⟩=>⟨l,s,h,a.mono d,b.mono d⟩
def eT:sQ (List Fm):=eL eF
theorem ux(F:Nat->Prop)(h:Hp):∀(l:List Nat),mE eN F h (l.map λn=>V.int .i64 (n:Nat)) l
 |[]=>trivial
 |n::l=>⟨[.int .i64 n],_,rfl,rfl,ux F h l⟩
def Loc(v:V)(t:Nat):Prop:=match v with
 | .slice l _ _=>l=t
 |_=>False
@[simp] theorem YF (t:Nat):Loc .ed t=False:=rfl
@[simp] theorem WB (l o n t:Nat):Loc (.slice l o n) t=(l=t):=rfl
def jF{α:Type}(E:sQ α)(ty:Nat)(F:Nat->Prop)(h:Hp)(xs:List α)(v:V):Prop:=(v = .ed/\xs=[])\/∃t cs,v = .slice t 0 xs.length/\t<h.next/\¬F t/\h.get t=some (.cells ty E.sz true false cs)/\mE E F h cs xs/\gh cs=true
section
variable{α:Type}{E:sQ α}{ty:Nat}{F F':Nat->Prop}{h h':Hp}{xs:List α}{v:V}
theorem jF.nil:jF E ty F h [] .ed:= .inl ⟨rfl,rfl⟩
theorem jF.len(a:jF E ty F h xs v):fF v=some (.int .i64 xs.length):=by
 rcases a with⟨rfl,rfl⟩|⟨t,cs,rfl,_⟩ <;> rfl
theorem jF.one(a:jF E ty F h xs v):v.one=true:=by
 rcases a with⟨rfl,rfl⟩|⟨t,cs,rfl,_⟩ <;> rfl
noncomputable def Ud(h:Hp) (l:Nat):Option (Nat×Nat):=match h.get l with
 |some (.cells e sz _ _ _)=>some (e,sz)
 |_=>none
theorem DL{l e sz:Nat}{a b:Bool}{cs:List V}(c:h.get l=some (.cells e sz a b cs)):Ud h l=some (e,sz):=by unfold Ud;rw[c]
theorem jF.tu(b:jF E ty F h xs v){t:Nat}(a:Loc v t):Ud h t=some (ty,E.sz)/\t<h.next/\¬F t:=by
 rcases b with⟨rfl,_⟩|⟨t',cs,rfl,c,d,e,_⟩
 ·exact a.elim
 ·obtain rfl:t' = t:=a;exact⟨DL e,c,d⟩
theorem jF.eD(a:jF E ty F h xs v)(b:∀l,F l->h'.get l=h.get l)(c:∀l,Loc v l->h'.get l=h.get l)(d:h.next<=h'.next):jF E ty F h' xs v:=by
 rcases a with a|⟨t,cs,rfl,e,f,g,i,j⟩
 ·exact .inl a
 ·exact .inr ⟨t,cs,rfl,zr e d,f,by rw[c t rfl];exact g,i.eD b,j⟩
theorem jF.mono(a:jF E ty F h xs v)(b:∀l,F l->F' l)(c:∀t,Loc v t->¬F' t):jF E ty F' h xs v:=by
 rcases a with a|⟨t,cs,rfl,d,i,e,f,g⟩
 ·exact .inl a
 ·exact .inr ⟨t,cs,rfl,d,c t rfl,e,f.mono b,g⟩
theorem jF.Wa(a:jF E ty F h xs v)(b:∀l,F l->F' l)(c:∀t,Loc v t->F' t):iL E F' h xs v:=by
 rcases a with a|⟨t,cs,rfl,f,g,d,e,i⟩
 ·exact .inl a
 ·exact .inr ⟨t,0,ty,true,false,cs,rfl,c t rfl,d,.inr rfl,GM _,by simpa using e.mono b⟩
theorem jF.read(a:jF E ty F h xs v):iL E (λl=>F l\/Loc v l) h xs v:=a.Wa (λ_ h=> .inl h) λ_ h=> .inr h
theorem jF.append{lV:Nat}{x:V}{new:List V}{ys:List α}(B:jF E ty F h xs v)(c:kJ h E.sz x=some (ys.length,new))(p:mE E F h new ys)(C:new.length=ys.length*E.sz)(i:gh new=true)(H:0<ys.length)(I:0<E.sz)
  (o:∀l,F l->l<h.next) (y:(xs.length+ys.length)*lV<=70368744177664) (m:xs.length+ys.length<=70368744177664) :
  ∃q h',fh ty E.sz lV v x h=some (.val q h')/\jF E ty F h' (xs++ys) q/\kX (Loc v) h h'/\(∀t,Loc q t->Loc v t\/t=h.next):=by
 have f:Nat.beq ys.length 0=false:=by
  cases hq:ys.length with
  |zero=>omega
  |succ k=>rfl
 rcases B with⟨rfl,rfl⟩|⟨t,cs,rfl,j,r,z,s,g⟩
 ·refine⟨.slice h.next 0 ys.length,h.new (.cells ty E.sz true false new),?_,.inr ⟨h.next,new,by simp,K8 _,λb=>VN _ (o _ b),ez _ _,?_,i⟩,kX.new _ _,λt D=> .inr D.symm⟩
  ·unfold fh;simp only[c,eQ,f,i,uL];rw[vJ _ (RK (by simpa using y)),vJ _ (RK (by simpa using m))]
  ·exact p.eD λl b=>eR _ (o l b)
 ·have G:=s.length;have A:(xs.length+ys.length)*E.sz=xs.length*E.sz+ys.length*E.sz:=Qd _ _ _
  cases hroom:Nat.ble (Nat.add 0 (Nat.mul (Nat.add xs.length ys.length) E.sz)) cs.length with
  | true=>
    have J:(xs.length+ys.length)*E.sz<=cs.length:=by
      have:=FY hroom;show _<=_;rw[show Nat.add 0 (Nat.mul (Nat.add xs.length ys.length) E.sz)=(xs.length+ys.length)*E.sz from EM _]at this;exact this
    refine ⟨.slice t 0 (xs.length+ys.length),h.put t (.cells ty E.sz true false (cs.take (xs.length*E.sz)++new++cs.drop (xs.length*E.sz+new.length))),?_,
      .inr ⟨t,_,by simp,j,r,fO _ j,?_,?_⟩,kX.put _ rfl j,λ_ h=> .inl h⟩
    ·unfold fh jN
     have u:nQ (Nat.add 0 (Nat.mul xs.length E.sz)) cs new=some (cs.take (xs.length*E.sz)++new++cs.drop (xs.length*E.sz+new.length)):=by
       rw[show Nat.add 0 (Nat.mul xs.length E.sz)=xs.length*E.sz from EM _];exact B2 (by rw[C];omega)
     simp only[c,eQ,f,i,uL,z,V7,hroom,u];rw[vJ _ (Qe _)];rfl
    ·refine mE.eD (h:=h) (λl b=>fS _ j λe=>r (e▸b)) ?_
     rw[MQ];exact s.take.append (by rw[MI];omega) p.more
    ·rw[mQ,mQ,i]
     have e1:∀(l:List V),gh l=l.all V.one:=λl=>by
       induction l with
       |nil=>rfl
       |cons a l w=>rw[fc,w];rfl
     rw[e1]at g⊢;rw[e1];rw[K7]at g;simp only[Bool.and_true,qU,K7]
     exact⟨λx c=>g x (Wn c),λx c=>g x (List.mem_of_mem_drop c)⟩
  | false=>
    have e1:∀(l:List V),gh l=l.all V.one:=λl=>by
      induction l with
      |nil=>rfl
      |cons a l w=>rw[fc,w];rfl
    have d:gh (cs.take (xs.length*E.sz))=true:=by
      rw[e1]at g⊢;rw[K7]at g⊢;exact λx c=>g x (Wn c)
    refine ⟨.slice h.next 0 (xs.length+ys.length),(h.put t (.cells ty E.sz false false cs)).new (.cells ty E.sz true false (cs.take (xs.length*E.sz)++new)),?_,
      .inr ⟨h.next,_,by simp,K8 _,λb=>VN _ (o _ b),ez (h.put t _) _,?_,by rw[mQ,d,i];rfl⟩,
      (kX.put (S:=Loc (.slice t 0 xs.length)) (.cells ty E.sz false false cs) rfl j).trans (kX.new _ _),λ_ h=> .inr h.symm⟩
    ·unfold fh jN
     have n:sub cs 0 (Nat.mul xs.length E.sz)=some (cs.take (xs.length*E.sz)):=by
       show sub cs 0 (xs.length*E.sz)=_;rw[Dl (show 0+xs.length*E.sz<=cs.length by omega),SE]
     simp only[c,eQ,f,i,uL,z,V7,hroom,n,d];rw[vJ _ (Qe _),vJ _ (show Nat.ble (Nat.mul (Nat.add xs.length ys.length) lV) 70368744177664=true from RK y),vJ _ (show Nat.ble (Nat.add xs.length ys.length) 70368744177664=true from RK m)];rfl
    ·refine mE.eD (h:=h) (λl b=>?_) ?_
     ·rw[eR _ (show l<(h.put t _).next from o l b),fS _ j λe=>r (e▸b)]
     ·exact s.take.append (by rw[MI];omega) p
theorem jF.cut(d:jF E ty F h xs v){n:Nat}(a:n<=xs.length):∃b,iZ E.sz v none (some (.int .i64 n)) h=some b/\jF E ty F h (xs.take n) b/\∀t,Loc b t->Loc v t:=by
 rcases d with⟨rfl,rfl⟩|⟨t,cs,rfl,e,f,c,g,i⟩
 ·obtain rfl:n=0:=by simpa using a
  exact⟨.ed,rfl,.inl ⟨rfl,rfl⟩,λ_ h=>h⟩
 ·refine⟨.slice t 0 n,?_,.inr ⟨t,cs,by rw[MI,Nat.min_eq_left a],e,f,c,g.taken n,i⟩,λ_ h=>h⟩;unfold iZ jN;simp only[c,eQ,Gm,Js];rw[vJ _ (Qe _),vJ _ (RK (GM _)),vJ _ (by rw[RK a];rfl)];simp
theorem jF.store(n:jF E ty F h xs v){i k:Nat}{y:α}{u:V}(hi:i<xs.length)(B:k<E.sz)(f:u.one=true)(o:∀w,E.rel F h xs[i] w->E.rel F h y (w.set k u)) :
  ∃t h',Loc v t/\gy E.sz v (.int .i64 i)=some (.ptr t (i*E.sz))/\gW 1 (.ptr t (i*E.sz+k)) u h=some (.val .undef h')/\jF E ty F h' (xs.set i y) v/\kX (Loc v) h h':=by
 rcases n with⟨rfl,rfl⟩|⟨t,cs,rfl,c,g,p,j,d⟩
 ·simp at hi
 ·obtain ⟨w,q,C,m⟩:=j.get (i:=i) (x:=xs[i]) (iH hi);have b:cs.set (i*E.sz+k) u=cs.take (i*E.sz)++w.set k u++cs.drop (i*E.sz+E.sz):=by
   have e0:cs=cs.take (i*E.sz)++(w++cs.drop (i*E.sz+E.sz)):=by
    rw[<-q]
    conv=>lhs;rw[<-Vh (i*E.sz) cs]
    congr 1;rw[<-TX,Vh]
   have D:=E.len m
   conv=>lhs;rw[e0]
   rw[List.set_append_right _ _ (by rw[MI];omega),MI,Nat.min_eq_left (by omega),Nat.add_sub_cancel_left,List.set_append_left _ _ (by omega),MQ]
  refine⟨t,h.put t (.cells ty E.sz true false (cs.set (i*E.sz+k) u)),rfl,by rw[vX _ _ _ _ _ _ hi,EM],Ih p (by omega) f,.inr ⟨t,_,by simp,c,g,fO _ c,?_,?_⟩,kX.put _ rfl c⟩
  ·refine mE.eD (h:=h) (λl r=>fS _ c λe=>g (e▸r)) ?_;rw[b];exact j.set hi (o w m)
  ·have e1:∀(l:List V),gh l=l.all V.one:=λl=>by
    induction l with
    |nil=>rfl
    |cons a l s=>rw[fc,s];rfl
   rw[e1]at d⊢;rw[K7]at d⊢;intro x z;rcases VJ z with A|rfl
   ·exact d x A
   ·exact f
end
abbrev fy:Nat:=3
abbrev fx:Nat:=4
abbrev ji:Nat:=22
abbrev rI:Nat:=29
abbrev uf:Nat:=46
abbrev oG:Nat:=44
abbrev G3:Nat:=53
abbrev Lq:Nat:=24
abbrev xI:Nat:=83
abbrev fL:Nat:=59
abbrev kU:Nat:=80
abbrev uU:Nat:=90
abbrev IT:Nat:=88
abbrev kj:Nat:=32
open Un
structure Pc where
 me:Nat->Prop
 ok:(Nat->Prop)->Hp->Prop
 I8:∀{F:Nat->Prop} {h:Hp},ok F h->∀l,me l->l<h.next/\¬F l
 eD:∀{F:Nat->Prop} {h h':Hp},ok F h->(∀l,F l->h'.get l=h.get l)->(∀l,me l->h'.get l=h.get l)->h.next<=h'.next->ok F h'
 mono:∀{F F':Nat->Prop} {h:Hp},ok F h->(∀l,F l->F' l)->(∀l,me l->¬F' l)->ok F' h
def emp:Pc:=⟨λ_=>False,λ_ _=>True,by simp_all,by simp_all,by simp_all⟩
def ey(l ty:Nat)(vs:List V):Pc where
 me:=λm=>m=l
 ok F h:=h.get l=some (.cells ty 1 true false vs)/\l<h.next/\¬F l
 I8:=by simp_all
 eD:=by grind
 mono:=by simp_all
def fo{α:Type}(E:sQ α)(ty:Nat)(xs:List α)(v:V):Pc where
 me:=Loc v
 ok F h:=jF E ty F h xs v
 I8:=λh _ a=>(h.tu a).2
 eD:=by grind[jF.eD]
 mono:=by grind[jF.mono]
def Zw(S:Nat->Prop)(h0:Hp):Pc where
 me:=S
 ok F h:=∀l,S l->h.get l=h0.get l/\l<h.next/\¬F l
 I8:=by simp_all
 eD:=by grind
 mono:=by simp_all
structure Sn (F:Nat->Prop) (h:Hp) (F':Nat->Prop) (h':Hp):Prop where
 next:h.next<=h'.next
 eD:∀l,F l->h'.get l=h.get l
 mono:∀l,F l->F' l
theorem Sn.refl(F:Nat->Prop)(h:Hp):Sn F h F h:=⟨jn _,by simp_all,λ_ h=>h⟩
theorem Sn.trans{F F' c:Nat->Prop} {h h' d:Hp}(a:Sn F h F' h')(b:Sn F' h' c d):Sn F h c d:=
 ⟨GP a.next b.next,λl e=>(b.eD l (a.mono l e)).trans (a.eD l e),λl e=>b.mono l (a.mono l e)⟩
structure er (F:Nat->Prop) (h:Hp) (cs:List Pc):Prop where
 fl:∀l,F l->l<h.next
 ok:∀(i:Nat) c,cs[i]? =some c->c.ok F h
 B5:∀(i j:Nat) c d,cs[i]? =some c->cs[j]? =some d->i≠j->∀l,c.me l->¬d.me l
section
variable{F F':Nat->Prop}{h h':Hp}{cs:List Pc}{i j:Nat}{c d p:Pc}
theorem FC{cs:List Pc}{i:Nat}{p:Pc}{j:Nat}{d:Pc}(hd:(cs.set i p)[j]? =some d):(j=i/\d=p)\/(j≠i/\cs[j]? =some d):=by
 grind
theorem er.nil(a:∀l,F l->l<h.next):er F h []:=⟨a,by simp_all,by simp_all⟩
theorem er.cons(H:er F h cs)(e:p.ok F h)(f:∀(i:Nat) c,cs[i]? =some c->∀l,p.me l->¬c.me l):er F h (p::cs) where
 fl:=H.fl
 ok:=λi c hc=>by
  cases i with
  |zero=>simp_all
  |succ i=>exact H.ok i c hc
 B5:=λi j c d hc hd g l b a=>by
  cases i with
  | zero=>
    grind
  | succ i=>
    cases j with
    |zero=>grind
    |succ j=>exact H.B5 i j c d hc hd (by omega) l b a
theorem er.tail(H:er F h (p::cs)):er F h cs where
 fl:=H.fl
 ok:=λi c hc=>H.ok (i+1) c hc
 B5:=λi j c d hc hd a=>H.B5 (i+1) (j+1) c d hc hd (by omega)
theorem er.add(H:er F h cs)(a:p.ok F h)(b:∀l,¬p.me l):er F h (p::cs):=H.cons a (by simp_all)
theorem er.swap(H:er F h cs)(hi:cs[i]? =some c)(r:p.ok F h)(n:∀l,p.me l->c.me l):er F h (cs.set i p) where
 fl:=H.fl
 ok:=λj d hd=>by
  rcases FC hd with⟨_,rfl⟩|⟨_,f⟩
  ·exact r
  ·exact H.ok j d f
 B5:=λj k a b s o g l m e=>by
  rcases FC s with⟨e1,rfl⟩|⟨e1,q⟩
  ·rcases FC o with⟨e2,_⟩|⟨_,f⟩
   ·omega
   ·subst e1;exact H.B5 j k c b hi f g l (n l m) e
  ·rcases FC o with⟨e2,rfl⟩|⟨_,f⟩
   ·subst e2;exact H.B5 j k a c q hi g l m (n l e)
   ·exact H.B5 j k a b q f g l m e
theorem er.forget(H:er F h cs)(hi:cs[i]? =some c):er F h (cs.set i emp):=H.swap hi trivial λ_ h=>h.elim
theorem er.Vj(H:er F h cs)(hi:cs[i]? =some c)(hc:kX c.me h h')(r:∀l,F l->F' l)(n:∀l,F' l->F l\/c.me l\/(h.next<=l/\l<h'.next))(z:p.ok F' h')(t:∀l,p.me l->c.me l\/h.next<=l):er F' h' (cs.set i p)/\Sn F h F' h':=by
 have o:=H.ok i c hi;have s:=λl e=>hc.eD l (H.fl l e) λu=>(c.I8 o l u).2 e;have other:∀j d,j≠i->cs[j]? =some d->d.ok F' h'/\∀l,d.me l->¬p.me l:=λj d v hd=>by
  have m:=H.ok j d hd;have q:=H.B5 j i d c hd hi v;refine⟨d.mono (d.eD m s (λl e=>hc.eD l (d.I8 m l e).1 (q l e)) hc.next) r λl e f=>?_,λl e f=>?_⟩
  ·rcases n l f with g|g|g
   ·exact(d.I8 m l e).2 g
   ·simp_all
   ·have:=(d.I8 m l e).1;omega
  ·rcases t l f with g|g
   ·simp_all
   ·have:=(d.I8 m l e).1;omega
 refine⟨⟨λl e=>?_,λj d hd=>?_,λj k a b w x y l e f=>?_⟩,⟨hc.next,s,r⟩⟩
 ·rcases n l e with g|g|g
  ·exact zr (H.fl l g) hc.next
  ·exact zr (c.I8 o l g).1 hc.next
  omega
 ·grind
 ·rcases FC w with⟨e1,rfl⟩|⟨e1,m⟩
  ·grind
  ·rcases FC x with⟨e2,rfl⟩|⟨_,q⟩
   ·grind
   ·exact H.B5 j k a b m q y l e f
theorem er.CN(H:er F h cs)(hi:cs[i]? =some c)(hc:kX c.me h h')(a:p.ok F h')(b:∀l,p.me l->c.me l\/h.next<=l):er F h' (cs.set i p)/\Sn F h F h':=
 H.Vj hi hc (by simp_all) (by simp_all) a b
theorem er.grow(H:er F h cs)(a:AO h h'):er F h' cs/\Sn F h F h':=by
 have c:=λl b=>a.eD l (H.fl l b) id;exact⟨⟨λl b=>zr (H.fl l b) a.next,λj d hd=>d.eD (H.ok j d hd) c (λl b=>a.eD l (d.I8 (H.ok j d hd) l b).1 id) a.next,H.B5⟩,⟨a.next,c,λ_ h=>h⟩⟩
theorem er.new(H:er F h cs)(o:O)(b:p.ok F (h.new o))(f:∀l,p.me l->l=h.next):er F (h.new o) (p::cs)/\Sn F h F (h.new o):=by
 let⟨c,e⟩:=H.grow (kX.new h o)
 refine⟨c.cons b λj d hd l g a=>?_,e⟩;have:=(d.I8 (H.ok j d hd) l a).1
 grind
theorem er.fresh(H:er F h cs):¬F h.next:=λa=>VN _ (H.fl _ a)
theorem er.GG(H:er F h cs)(ty:Nat)(vs:List V):er F (h.new (.cells ty 1 true false vs)) (ey h.next ty vs::cs)/\Sn F h F (h.new (.cells ty 1 true false vs)):=
 H.new _ ⟨ez _ _,K8 _,H.fresh⟩ λ_ e=>e
theorem er.KX(H:er F h cs){α:Type}{E:sQ α}(ty:Nat){xs:List α}{ws:List V}{n:Nat}(a:n=xs.length)(b:mE E F h ws xs)(c:gh ws=true) :
  er F (h.new (.cells ty E.sz true false ws)) (fo E ty xs (.slice h.next 0 n)::cs)/\Sn F h F (h.new (.cells ty E.sz true false ws)):=by
 subst a;exact H.new _ (.inr ⟨h.next,ws,rfl,K8 _,H.fresh,ez _ _,b.eD λl d=>eR _ (H.fl l d),c⟩) λ_ e=>e.symm
theorem er.Sr(H:er F h cs){α:Type}{E:sQ α}(ty:Nat){xs:List α}{ws:List V}{n:Nat}(e:n=xs.length)(f:mE E F h ws xs)(ro:Bool) :
  er (λl=>F l\/l=h.next) (h.new (.cells ty E.sz true ro ws)) cs/\Sn F h (λl=>F l\/l=h.next) (h.new (.cells ty E.sz true ro ws))/\iL E (λl=>F l\/l=h.next) (h.new (.cells ty E.sz true ro ws)) xs (.slice h.next 0 n):=by
 subst e
 let⟨b,c⟩:=H.grow (kX.new h (.cells ty E.sz true ro ws))
 refine⟨⟨λl a=>?_,λj d hd=>d.mono (b.ok j d hd) (by simp_all) λl a g=>?_,b.B5⟩,⟨c.next,c.eD,by simp_all⟩,?_⟩
 ·rcases a with a|rfl
  ·exact b.fl l a
  simp_all
 ·have i:=d.I8 (H.ok j d hd) l a
  simp_all
 ·exact .inr ⟨h.next,0,ty,true,ro,ws,rfl,.inr rfl,ez _ _,.inr rfl,GM _,by rw[SE];exact(f.eD λl a=>eR _ (H.fl l a)).mono (by simp_all)⟩
theorem er.get(H:er F h cs)(i:Nat){l ty:Nat}{vs:List V}(hi:cs[i]? =some (ey l ty vs)):h.get l=some (.cells ty 1 true false vs):=(H.ok i _ hi).1
theorem er.ld(H:er F h cs)(i:Nat){l ty o:Nat}{vs:List V}{u:V}(hi:cs[i]? =some (ey l ty vs))(a:vs[o]? =some u):en (.ptr l o) h=some u:=js (H.get i hi) a
theorem er.CI(H:er F h cs)(i:Nat){l ty n:Nat}{vs:List V}(hi:cs[i]? =some (ey l ty vs))(a:vs.length=n):fZ n (.ptr l 0) h=some (.agg vs):=y6 (H.get i hi) a
theorem er.st(H:er F h cs)(i:Nat){l ty o:Nat}{vs:List V}{u:V}(hi:cs[i]? =some (ey l ty vs))(b:o<vs.length)(c:u.one=true) :
  ∃h',gW 1 (.ptr l o) u h=some (.val .undef h')/\h.next<=h'.next/\er F h' (cs.set i (ey l ty (vs.set o u)))/\Sn F h F h':=by
 have a:=H.ok i _ hi;refine⟨_,Ih a.1 b c,jn _,H.CN hi (kX.put _ rfl a.2.1) ⟨fO _ a.2.1,a.2.1,a.2.2⟩ λ_ h=> .inl h⟩
theorem er.stk(H:er F h cs)(i:Nat){l ty o:Nat}{vs:List V}{u:V}(hi:cs[i]? =some (ey l ty vs))(b:o<vs.length)(c:u.one=true) :
  ∃h',gW 1 (.ptr l o) u h=some (.val .undef h')/\h.next<=h'.next/\er F h' (cs.set i (ey l ty (vs.set o u)))/\Sn F h F h'/\∀m,m≠l->h'.get m=h.get m:=by
 have a:=H.ok i _ hi
 let⟨d,e⟩:=H.CN (p:=ey l ty (vs.set o u)) hi (kX.put _ rfl a.2.1) ⟨fO _ a.2.1,a.2.1,a.2.2⟩ λ_ h=> .inl h
 exact⟨_,Ih a.1 b c,jn _,d,e,λm f=>fS _ a.2.1 (by omega)⟩
theorem er.WC(H:er F h cs)(i:Nat){l ty n:Nat}{vs ws:List V}(hi:cs[i]? =some (ey l ty vs))(b:ws.length=n)(c:vs.length=n)(d:gh ws=true) :
  ∃h',gW n (.ptr l 0) (.agg ws) h=some (.val .undef h')/\h.next<=h'.next/\er F h' (cs.set i (ey l ty ws))/\Sn F h F h':=by
 have a:=H.ok i _ hi;refine⟨_,BV a.1 b c d,jn _,H.CN hi (kX.put _ rfl a.2.1) ⟨fO _ a.2.1,a.2.1,a.2.2⟩ λ_ h=> .inl h⟩
section
variable{α:Type}{E:sQ α}{ty:Nat}{xs:List α}{v:V}
theorem er.row(H:er F h cs)(i:Nat)(hi:cs[i]? =some (fo E ty xs v)):jF E ty F h xs v:=H.ok i _ hi
theorem er.len(H:er F h cs)(i:Nat)(hi:cs[i]? =some (fo E ty xs v)):fF v=some (.int .i64 xs.length):=(H.row i hi).len
theorem er.one(H:er F h cs)(i:Nat)(hi:cs[i]? =some (fo E ty xs v)):v.one=true:=(H.row i hi).one
theorem er.ix(H:er F h cs)(i:Nat)(hi:cs[i]? =some (fo E ty xs v)){k:Nat}(b:k<xs.length)(a:IntKind) :
  ∃l o w,gy E.sz v (.int a k)=some (.ptr l o)/\fZ E.sz (.ptr l o) h=some (.agg w)/\E.rel (λl=>F l\/Loc v l) h xs[k] w/\∀j u,w[j]? =some u->en (.ptr l (o+j)) h=some u:=by
 let⟨l,o,w,_,c,d,e,f⟩:=(H.row i hi).read.ix b a
 grind
theorem er.PO(H:er F h cs)(i:Nat)(hi:cs[i]? =some (fo E ty xs v)){k:Nat}(b:k<xs.length)(a:IntKind)(c:E.sz=1) :
  ∃l o u,gy 1 v (.int a k)=some (.ptr l o)/\en (.ptr l o) h=some u/\E.rel (λl=>F l\/Loc v l) h xs[k] [u]:=by
 let⟨l,o,u,_,d,e,f⟩:=(H.row i hi).read.PO b a c
 grind
theorem er.AD(H:er F h cs)(i:Nat)(hi:cs[i]? =some (fo E ty xs v)){k:Nat}(f:k<xs.length)(a:E.sz=1){y:α}{u:V}(g:u.one=true)(j:E.rel F h y [u]) :
  ∃l o h',gy 1 v (.int .i64 k)=some (.ptr l o)/\gW 1 (.ptr l o) u h=some (.val .undef h')/\h.next<=h'.next/\er F h' (cs.set i (fo E ty (xs.set k y) v))/\Sn F h F h':=by
 let ⟨t,h',p,b,c,m,d⟩:=(H.row i hi).store (k:=0) (y:=y) f (by omega) g (λw n=>by
  have e:=E.len n;rw[a]at e
  match w,e with
  |[x],_=>exact j)
 rw[a]at b c;exact⟨t,k*1,h',b,c,d.next,H.CN hi d m λ_ h=> .inl h⟩
end
end
open Un
section
variable{F F':Nat->Prop}{h h':Hp}{cs:List Pc}{α:Type}{E:sQ α}{ty:Nat}{xs ys:List α}{v x:V}
theorem mE.one:∀{xs:List α}{ws:List V},mE E F h ws xs->ws.length=xs.length*E.sz->gh ws=true
 | [],ws,_,hl=>by
   simp_all
 | y::xs,ws,⟨w,r,b,a,c⟩,hl=>by
   subst b;have d:=E.len a;rw[mQ,E.one a,mE.one c (by grind)];rfl
theorem mE.rep{y:α}{u:V}(a:E.rel F h y [u]):∀n,mE E F h (List.replicate n u) (List.replicate n y)
 |0=>trivial
 |n+1=>⟨[u],_,rfl,a,mE.rep a n⟩
theorem z0{u:V}(a:u.one=true):∀n,gh (List.replicate n u)=true
 |0=>rfl
 |n+1=>by rw[List.replicate_succ,fc,a,z0 a n];rfl
theorem Ad{l off n Pw sz:Nat}{ro:Bool}{ds:List V}(b:h.get l=some (.cells Pw sz true ro ds))(a:off+n*sz<=ds.length):∃new,kJ h sz (.slice l off n)=some (n,new)/\new=(ds.drop off).take (n*sz):=by
 cases n with
 |zero=>exact⟨_,rfl,by simp⟩
 | succ n=>
   refine⟨_,?_,rfl⟩;unfold kJ Cs jN;have:=Dl a
   simp_all
theorem iL.xc(b:iL E F h ys x):∃new,kJ h E.sz x=some (ys.length,new)/\mE E F h new ys/\new.length=ys.length*E.sz:=by
 rcases b with⟨rfl,rfl⟩|⟨l,off,Pw,live,ro,ds,rfl,f,c,d,g,a⟩
 ·exact⟨[],rfl,trivial,by simp⟩
 ·have e:=a.length;rw[List.length_drop]at e;rcases d with rfl|rfl
  ·exact⟨[],rfl,trivial,by simp⟩
  ·let⟨new,e1,e2⟩:=Ad (n:=ys.length) (off:=off) c (by omega)
   exact⟨new,e1,by rw[e2];exact a.take,by simp_all⟩
theorem jF.xc(b:jF E ty F h ys x):∃new,kJ h E.sz x=some (ys.length,new)/\mE E F h new ys/\new.length=ys.length*E.sz:=by
 rcases b with⟨rfl,rfl⟩|⟨t,ds,rfl,d,e,c,a,f⟩
 ·exact⟨[],rfl,trivial,by simp⟩
 ·have g:=a.length
  let⟨new,e1,e2⟩:=Ad (n:=ys.length) (off:=0) c (by omega)
  refine⟨new,e1,by rw[e2,SE];exact a.take,by simp_all⟩
theorem KB{e:Nat}{z w:V}(a:z.one=true)(b:w.one=true):ju e 1 1 z [(0,w)]=some (.cells e 1 true false [w],λl=> .slice l 0 1):=by
 unfold ju;simp only[wk,eQ,BO a,BO b];rw[vJ _ (by rfl)];show oB (oB (some [w]) λcs=>some cs) _=_
 simp_all
theorem wJ{e sz:Nat}{z:V}:ju e sz 0 z []=some (.cells e sz true false [],λl=> .slice l 0 0):=rfl
theorem er.app(H:er F h cs)(i:Nat)(hi:cs[i]? =some (fo E ty xs v)){lV:Nat}{new:List V}(e:kJ h E.sz x=some (ys.length,new))(f:mE E F h new ys)(b:new.length=ys.length*E.sz)
  (j:0<E.sz) (k:lV<=1000) (c:xs.length+ys.length<=10000000) :
  ∃a h',fh ty E.sz lV v x h=some (.val a h')/\h.next<=h'.next/\er F h' (cs.set i (fo E ty (xs++ys) a))/\Sn F h F h':=by
 have d:=H.row i hi;by_cases hk:0<ys.length
 ·have m:=Nat.mul_le_mul c k
  let⟨a,h',e1,o1,g,n⟩:=d.append (lV:=lV) e f b (f.one b) hk j H.fl (by omega) (by omega)
  let⟨o,q⟩:=H.CN (p:=fo E ty (xs++ys) a) hi g o1 λl b=>(n l b).imp id (by omega)
  exact⟨a,h',e1,g.next,o,q⟩
 ·have e0:ys=[]:=by simp_all
  subst e0;refine⟨v,h,?_,jn _,by rw[IN];exact H.swap hi d λ_ h=>h,Sn.refl _ _⟩;unfold fh;rw[e];rcases d with⟨rfl,_⟩|⟨t,ds,rfl,_⟩ <;> rfl
theorem er.Nj(H:er F h cs)(i:Nat)(hi:cs[i]? =some (fo E ty xs v)){lV:Nat}(c:iL E F h ys x)(d:0<E.sz)(e:lV<=1000)(a:xs.length+ys.length<=10000000) :
  ∃b h',fh ty E.sz lV v x h=some (.val b h')/\h.next<=h'.next/\er F h' (cs.set i (fo E ty (xs++ys) b))/\Sn F h F h':=by
 let⟨new,e1,e2,f⟩:=c.xc
 exact H.app i hi e1 e2 f d e a
theorem er.RG(H:er F h cs)(i j:Nat)(hi:cs[i]? =some (fo E ty xs v)){c:Nat}(d:cs[j]? =some (fo E c ys x)){lV:Nat}(e:0<E.sz)(f:lV<=1000)(a:xs.length+ys.length<=10000000) :
  ∃b h',fh ty E.sz lV v x h=some (.val b h')/\h.next<=h'.next/\er F h' (cs.set i (fo E ty (xs++ys) b))/\Sn F h F h':=by
 let⟨new,e1,e2,g⟩:=(H.row j d).xc
 exact H.app i hi e1 e2 g e f a
theorem er.DD(H:er F h cs)(i:Nat)(hi:cs[i]? =some (fo E ty xs v)){lV Pw:Nat}{y:α}{w:List V}{ro:Bool}(b:E.rel F h y w)(c:0<E.sz)(d:lV<=1000)(e:xs.length<1000000) :
  ∃a h',fh ty E.sz lV v (.slice h.next 0 1) (h.new (.cells Pw E.sz true ro w))=some (.val a h')/\h.next+1<=h'.next/\er F h' (cs.set i (fo E ty (xs++[y]) a))/\Sn F h F h':=by
 let⟨f,s1⟩:=H.grow (kX.new h (.cells Pw E.sz true ro w))
 have g:kJ (h.new (.cells Pw E.sz true ro w)) E.sz (.slice h.next 0 1)=some (1,w):=mI (by rw[E.len b];simp)
 let⟨a,h',e1,e2,j,e4⟩:=f.app (ys:=[y]) i hi g ⟨w,[],by simp,E.eD (λl k=>eR _ (H.fl l k)) b,trivial⟩ (by rw[E.len b];simp) c d (by simp;omega)
 exact⟨a,h',e1,e2,j,s1.trans e4⟩
theorem er.Vd(H:er F h cs)(i:Nat)(hi:cs[i]? =some (fo E ty xs v)){n:Nat}(b:n<=xs.length) :
  ∃a,iZ E.sz v none (some (.int .i64 n)) h=some a/\er F h (cs.set i (fo E ty (xs.take n) a)):=by
 let⟨a,c,d,e⟩:=(H.row i hi).cut b
 exact⟨a,c,H.swap hi d e⟩
theorem er.mi(H:er F h cs)(i:Nat)(hi:cs[i]? =some (fo E ty xs v)):er (λl=>F l\/Loc v l) h (cs.set i emp)/\Sn F h (λl=>F l\/Loc v l) h/\iL E (λl=>F l\/Loc v l) h xs v:=by
 let⟨a,b⟩:=H.Vj (p:=emp) (F':=λl=>F l\/Loc v l) hi (kX.refl _ _) (by simp_all) (λ_ h=>h.imp id .inl) trivial λ_ h=>h.elim
 exact⟨a,b,(H.row i hi).read⟩
theorem er.make(H:er F h cs){y:α}{u:V}(n:Nat)(a:E.rel F h y [u])(c:E.sz=1):er F (h.new (.cells ty 1 true false (List.replicate n u))) (fo E ty (List.replicate n y) (.slice h.next 0 n)::cs)/\Sn F h F (h.new (.cells ty 1 true false (List.replicate n u))):=by
 have b:=E.one a;rw[fc,qU]at b;have:=H.KX ty (n:=n) (by simp) (mE.rep a n) (z0 b.1 n)
 simp_all
theorem kM{e lV n:Nat}{z:V}(c:z.one=true)(a:lV<=100)(b:n<=1000000) :
  hZ e 1 lV z (.int .i64 (n:Int)) (.int .i64 (n:Int))=some (O.cells e 1 true false (List.replicate n z),λl=>V.slice l 0 n):=by
 have:=Nat.mul_le_mul b a
 grind[Jj,BO,Qt]
theorem mN{l o:Nat}{u:V}(a:en (.ptr l o) h=some u)(b:h'.get l=h.get l):en (.ptr l o) h' = some u:=by
 grind[en,UA,jN,qM]
theorem Fu{l o n:Nat}{u:V}(a:fZ n (.ptr l o) h=some u)(b:h'.get l=h.get l):fZ n (.ptr l o) h' = some u:=by
 grind[fZ,Cs,jN,qM]
end
open Un
def up{ι α:Type}[DecidableEq ι] (f:ι->Option α)(i:ι)(x:Option α):ι->Option α:=λj=>if j=i then x else f j
@[simp] theorem YH {ι α:Type} [DecidableEq ι] (f:ι->Option α) (i:ι) (x:Option α):up f i x i=x:=if_pos rfl
section
variable{F:Nat->Prop}{h:Hp}{cs:List Pc}{p q:Pc}
theorem er.sw(H:er F h (p::q::cs)):er F h (q::p::cs) where
 fl:=H.fl
 ok:=λi c hc=>by
  match i,hc with
  |0,hc=>exact H.ok 1 c hc
  |1,hc=>exact H.ok 0 c hc
  |i+2,hc=>exact H.ok (i+2) c hc
 B5:=λi j c d hc hd a=>by
  match i,j,hc,hd with
  |0,0,_,_=>omega
  |0,1,hc,hd=>exact H.B5 1 0 c d hc hd (by omega)
  |0,j+2,hc,hd=>exact H.B5 1 (j+2) c d hc hd (by omega)
  |1,0,hc,hd=>exact H.B5 0 1 c d hc hd (by omega)
  |1,1,_,_=>omega
  |1,j+2,hc,hd=>exact H.B5 0 (j+2) c d hc hd (by omega)
  |i+2,0,hc,hd=>exact H.B5 (i+2) 1 c d hc hd (by omega)
  |i+2,1,hc,hd=>exact H.B5 (i+2) 0 c d hc hd (by omega)
  |i+2,j+2,hc,hd=>exact H.B5 (i+2) (j+2) c d hc hd a
theorem er.vL(H:er F h (p::q::cs)):er F h (p::cs):=H.sw.tail
end
section
variable{F F':Nat->Prop}{h h':Hp}{cs:List Pc}{ι:Type}{ty:Nat}{f:ι->Option (List Nat×V)}{xs:List Nat}{v:V}
end
open Un
structure Rw where
 vv:V
 vb:V
 vs:V
 vk:V
 vc:V
 vp:V
 cc:V
def comp(lu gR iX:Nat)(R:Rw):Nat->Nat->Prop
 |0,l=>l=lu
 |1,l=>l=gR
 |2,l=>l=iX
 |3,l=>Loc R.vv l
 |4,l=>Loc R.vb l
 |5,l=>Loc R.vs l
 |6,l=>Loc R.vk l
 |7,l=>Loc R.vc l
 |_,_=>False
def sig:Nat->Nat×Nat
 |0=>(rI,1)
 |1=>(ji,1)
 |2=>(oG,1)
 |3=>(uf,6)
 |4=>(oG,6)
 |5=>(G3,1)
 |_=>(fy,1)
structure Dw (F G:Nat->Prop) (h:Hp) (lu gR iX:Nat) (t:Dt) (R:Rw):Prop where
 fl:∀l,F l->l<h.next
 gu:h.get lu=some (.cells rI 1 true false [.int .i64 1,.int .i64 2,R.vv,R.vb,R.vs])
 gk:h.get gR=some (.cells ji 1 true false [R.vk])
 gb:h.get iX=some (.cells oG 1 true false [R.cc,.int .i64 0,.int .i64 0,.ed,R.vp,.int .i64 0])
 nu:lu<h.next/\¬F lu
 nk:gR<h.next/\¬F gR
 nb:iX<h.next/\¬F iX
 ov:jF eV uf F h t.s.ee R.vv
 ob:jF eK oG F h t.blocks R.vb
 os:jF eT G3 F h t.s.eh R.vs
 ok:jF eN fy F h t.s.known R.vk
 oc:jF eN fy F h t.s.cur R.vc
 sp:iL eN F h t.ft R.vp
 kc:∀l,Loc R.vk l->¬Loc R.vc l
 gx:∀l,G l->l<h.next/\¬F l/\∀i,¬comp lu gR iX R i l
structure Kp (F G:Nat->Prop) (h h':Hp):Prop where
 next:h.next<=h'.next
 eD:∀l,F l\/G l->h'.get l=h.get l
theorem Kp.refl(F G:Nat->Prop)(h:Hp):Kp F G h h:=⟨jn _,by simp_all⟩
theorem Kp.trans{F F' G:Nat->Prop} {h h' c:Hp}(a:Kp F G h h')(b:Kp F' G h' c)(e:∀l,F l->F' l):Kp F G h c:=
 ⟨GP a.next b.next,λl d=>by rw[b.eD l (by grind),a.eD l d]⟩
section
variable{F G:Nat->Prop}{h h':Hp}{lu gR iX:Nat}{t:Dt}{R:Rw}
theorem Dw.sig(D:Dw F G h lu gR iX t R){l:Nat}:∀{i:Nat},comp lu gR iX R i l->Ud h l=some (Hx.sig i)/\l<h.next/\¬F l
 |0,hl=>by have e:=hl;subst e;exact⟨DL D.gu,D.nu⟩
 |1,hl=>by have e:=hl;subst e;exact⟨DL D.gk,D.nk⟩
 |2,hl=>by have e:=hl;subst e;exact⟨DL D.gb,D.nb⟩
 |3,hl=>D.ov.tu hl
 |4,hl=>D.ob.tu hl
 |5,hl=>D.os.tu hl
 |6,hl=>D.ok.tu hl
 |7,hl=>D.oc.tu hl
 |_+8,hl=>hl.elim
theorem Dw.B5(D:Dw F G h lu gR iX t R){l i j:Nat}(hi:comp lu gR iX R i l)(a:comp lu gR iX R j l):Hx.sig i=Hx.sig j:=by
 have b:=(D.sig hi).1
 grind[sig]
theorem Dw.zA(D:Dw F G h lu gR iX t R){l i j:Nat}(hi:comp lu gR iX R i l)(a:comp lu gR iX R j l)(c:i<8)(d:j<8):i=j:=by
 have e:=D.B5 hi a;have b:∀i,i<8->∀j,j<8->Hx.sig i=Hx.sig j->i=j\/(i=6/\j=7)\/(i=7/\j=6):=by decide
 rcases b i c j d e with f|⟨rfl,rfl⟩|⟨rfl,rfl⟩
 ·exact f
 ·exact absurd a (D.kc l hi)
 ·exact absurd hi (D.kc l a)
theorem Dw.kept(D:Dw F G h lu gR iX t R){i j:Nat}(hi:i<8)(e:j<8)(hc:kX (λl=>comp lu gR iX R i l\/comp lu gR iX R j l) h h') :
  (∀l,F l->h'.get l=h.get l)/\(∀l,G l->h'.get l=h.get l)/\∀k l,k<8->k≠i->k≠j->comp lu gR iX R k l->h'.get l=h.get l:=by
 refine⟨λl a=>hc.eD l (D.fl l a) ?_,λl a=>hc.eD l (D.gx l a).1 ?_,λk l d b f a=>hc.eD l (D.sig a).2.1 ?_⟩
 ·rintro(b|b)
  ·exact(D.sig b).2.2 a
  ·exact(D.sig b).2.2 a
 ·rintro(b|b)
  ·exact(D.gx l a).2.2 _ b
  ·exact(D.gx l a).2.2 _ b
 ·rintro(c|c)
  ·exact b (D.zA a c d hi)
  ·exact f (D.zA a c d e)
theorem Dw.other(D:Dw F G h lu gR iX t R){S:Nat->Prop}(b:kX S h h')(d:∀l,S l->¬F l/\¬G l/\∀i,¬comp lu gR iX R i l):Dw F G h' lu gR iX t R/\Kp F G h h':=by
 have c:=λl a=>b.eD l (D.fl l a) (by grind);have e:=λl a=>b.eD l (D.gx l a).1 (by grind);have k:∀i l,comp lu gR iX R i l->h'.get l=h.get l:=λi l a=>b.eD l (D.sig a).2.1 (by grind);have lt:∀l,l<h.next->l<h'.next:=λl a=>zr a b.next
 exact ⟨{
  fl:=λl a=>lt l (D.fl l a)
  gu:=by rw[k 0 _ rfl];exact D.gu
  gk:=by rw[k 1 _ rfl];exact D.gk
  gb:=by rw[k 2 _ rfl];exact D.gb
  nu:=⟨lt _ D.nu.1,D.nu.2⟩
  nk:=⟨lt _ D.nk.1,D.nk.2⟩
  nb:=⟨lt _ D.nb.1,D.nb.2⟩
  ov:=D.ov.eD c (λl a=>k 3 l a) b.next
  ob:=D.ob.eD c (λl a=>k 4 l a) b.next
  os:=D.os.eD c (λl a=>k 5 l a) b.next
  ok:=D.ok.eD c (λl a=>k 6 l a) b.next
  oc:=D.oc.eD c (λl a=>k 7 l a) b.next
  sp:=D.sp.eD c
  kc:=D.kc
  gx:=λl a=>⟨lt l (D.gx l a).1,(D.gx l a).2⟩ },⟨b.next,by grind⟩⟩
theorem Dw.grow(D:Dw F G h lu gR iX t R)(a:AO h h'):Dw F G h' lu gR iX t R:=(D.other a (by simp_all)).1
theorem Dw.more(D:Dw F G h lu gR iX t R) {F':Nat->Prop}(c:∀l,F l->F' l)(d:∀l,F' l->F l\/(l<h.next/\(∀i,¬comp lu gR iX R i l)/\¬G l)):Dw F' G h lu gR iX t R:=by
 have b:∀i l,comp lu gR iX R i l->¬F' l:=λi l a e=>by
  rcases d l e with f|⟨_,f,_⟩
  ·exact(D.sig a).2.2 f
  simp_all
 exact {
  fl:=λl a=>(d l a).elim (D.fl l) λh=>h.1
  gu:=D.gu
  gk:=D.gk
  gb:=D.gb
  nu:=⟨D.nu.1,b 0 _ rfl⟩
  nk:=⟨D.nk.1,b 1 _ rfl⟩
  nb:=⟨D.nb.1,b 2 _ rfl⟩
  ov:=D.ov.mono c λl a=>b 3 l a
  ob:=D.ob.mono c λl a=>b 4 l a
  os:=D.os.mono c λl a=>b 5 l a
  ok:=D.ok.mono c λl a=>b 6 l a
  oc:=D.oc.mono c λl a=>b 7 l a
  sp:=D.sp.mono c
  kc:=D.kc
  gx:=λl a=>⟨(D.gx l a).1,λe=>(d l e).elim (D.gx l a).2.1 (by simp_all),(D.gx l a).2.2⟩ }
def fz(F:Nat->Prop)(n:Nat):Nat->Prop:=λl=>F l\/l=n
theorem nf(F:Nat->Prop)(n:Nat):∀l,F l->fz F n l:=λ_ h=> .inl h
theorem Dw.new(D:Dw F G h lu gR iX t R)(o:O):Dw (fz F h.next) G (h.new o) lu gR iX t R:=
 (D.grow (kX.new h o)).more (nf _ _) λl a=>a.imp id λe=>by
  subst e;refine⟨K8 _,λi hi=>VN _ (D.sig hi).2.1,λb=>VN _ (D.gx _ b).1⟩
theorem Kp.new(F G:Nat->Prop)(h:Hp)(o:O)(a:∀l,F l->l<h.next)(b:∀l,G l->l<h.next):Kp F G h (h.new o):=
 ⟨La _,by grind[eR]⟩
theorem Dw.vH(D:Dw F G h lu gR iX t R)(o:O):Kp F G h (h.new o):=Kp.new F G h o D.fl λl a=>(D.gx l a).1
theorem mg{l o e sz:Nat} {cs mG:List V}{v:V}(a:h.get l=some (.cells e sz true false cs))(b:o<cs.length)(c:v.one=true)(d:cs.set o v=mG):gW 1 (.ptr l o) v h=some (.val .undef (h.put l (.cells e sz true false mG))):=by
 grind[Ih]
private theorem Rm {a:Nat->Prop} {l:Nat} {S:Nat->Prop} {b:Hp} {o:O} (hc:kX a h b) (e:∀l,a l->S l) (c:l<h.next) (d:S l):kX S h (b.put l o):=
 (hc.Ub (by simp_all)).trans (kX.put o d (zr c hc.next))
theorem Dw.ZQ(D:Dw F G h lu gR iX t R){ys:List Vl}{new:List V}{xv:V}(q:kJ h 6 xv=some (ys.length,new))(r:mE eV F h new ys)(a:new.length=ys.length*6) (m:gh new=true)(u:0<ys.length)(hlen:t.s.ee.length+ys.length<1000000) :
  ∃b d f,fh uf 6 64 R.vv xv h=some (.val b d)/\h.next<=d.next/\gW 1 (.ptr lu 2) b d=some (.val .undef f)/\d.next<=f.next/\Kp F G h f/\
   Dw F G f lu gR iX {t with s:={t.s with ee:=t.s.ee++ys} } {R with vv:=b}:=by
 let⟨b,d,e1,o1,k,p⟩:=D.ov.append (lV:=64) q r a m u (by decide) D.fl (by omega) (by omega)
 have n:d.get lu=some (.cells rI 1 true false [.int .i64 1,.int .i64 2,R.vv,R.vb,R.vs]):=by
  rw[k.eD lu D.nu.1 λa=>nomatch D.zA (i:=0) (j:=3) rfl a (by decide) (by decide)];exact D.gu
 have g:=zr D.nu.1 k.next;have e2:=mg (o:=2) (mG:=[.int .i64 1,.int .i64 2,b,R.vb,R.vs]) n (by simp) o1.one rfl;have hc:kX (λl=>comp lu gR iX R 0 l\/comp lu gR iX R 3 l) h (d.put lu (.cells rI 1 true false [.int .i64 1,.int .i64 2,b,R.vb,R.vs])):=Rm k (λ_ h=> .inr h) D.nu.1 (.inl rfl)
 let⟨kF,kG,kC⟩:=D.kept (by decide) (by decide) hc
 have c:∀l,l<h.next->l<(d.put lu (.cells rI 1 true false [.int .i64 1,.int .i64 2,b,R.vb,R.vs])).next:=λl a=>zr a hc.next;have w:∀l,Loc b l->l≠lu:=λl a e=>by
  subst e;rcases p _ a with f|f
  ·exact absurd (D.zA (i:=0) (j:=3) rfl f (by decide) (by decide)) (by decide)
  ·exact absurd f (Li D.nu.1)
 have v:jF eV uf F (d.put lu (.cells rI 1 true false [.int .i64 1,.int .i64 2,b,R.vb,R.vs])) (t.s.ee++ys) b:=
  o1.eD (λl a=>fS _ g λe=>D.nu.2 (e▸a)) (by grind[fS]) (jn _)
 refine⟨b,d,_,e1,k.next,e2,jn _,⟨hc.next,by grind⟩,?_⟩
 exact {
  fl:=λl a=>c l (D.fl l a)
  gu:=fO _ g
  gk:=by rw[kC 1 gR (by decide) (by decide) (by decide) rfl];exact D.gk
  gb:=by rw[kC 2 iX (by decide) (by decide) (by decide) rfl];exact D.gb
  ov:=v
  ob:=D.ob.eD kF (λl a=>kC 4 l (by decide) (by decide) (by decide) a) hc.next
  os:=D.os.eD kF (λl a=>kC 5 l (by decide) (by decide) (by decide) a) hc.next
  ok:=D.ok.eD kF (λl a=>kC 6 l (by decide) (by decide) (by decide) a) hc.next
  oc:=D.oc.eD kF (λl a=>kC 7 l (by decide) (by decide) (by decide) a) hc.next
  nu:=⟨c _ D.nu.1,D.nu.2⟩
  nk:=⟨c _ D.nk.1,D.nk.2⟩
  nb:=⟨c _ D.nb.1,D.nb.2⟩
  sp:=D.sp.eD kF
  kc:=D.kc
  gx:=λl a=>⟨c l (D.gx l a).1,(D.gx l a).2.1,λi hi=>by
   match i,hi with
   |0,hi=>exact(D.gx l a).2.2 0 hi
   |1,hi=>exact(D.gx l a).2.2 1 hi
   |2,hi=>exact(D.gx l a).2.2 2 hi
   |3,hi=>exact(p l hi).elim ((D.gx l a).2.2 3) λe=>absurd e (Li (D.gx l a).1)
   |4,hi=>exact(D.gx l a).2.2 4 hi
   |5,hi=>exact(D.gx l a).2.2 5 hi
   |6,hi=>exact(D.gx l a).2.2 6 hi
   |7,hi=>exact(D.gx l a).2.2 7 hi⟩ }
theorem Dw.Zy(D:Dw F G h lu gR iX t R){ys:List Bk}{new:List V}{xv:V}(q:kJ h 6 xv=some (ys.length,new))(r:mE eK F h new ys)(a:new.length=ys.length*6) (m:gh new=true)(s:0<ys.length)(hlen:t.blocks.length+ys.length<1000000) :
  ∃b d f,fh oG 6 96 R.vb xv h=some (.val b d)/\h.next<=d.next/\gW 1 (.ptr lu 3) b d=some (.val .undef f)/\d.next<=f.next/\Kp F G h f/\
   Dw F G f lu gR iX {t with blocks:=t.blocks++ys} {R with vb:=b}:=by
 let⟨b,d,e1,o1,k,p⟩:=D.ob.append (lV:=96) q r a m s (by decide) D.fl (by omega) (by omega)
 have n:d.get lu=some (.cells rI 1 true false [.int .i64 1,.int .i64 2,R.vv,R.vb,R.vs]):=by
  rw[k.eD lu D.nu.1 λa=>nomatch D.zA (i:=0) (j:=4) rfl a (by decide) (by decide)];exact D.gu
 have g:=zr D.nu.1 k.next;have e2:=mg (o:=3) (mG:=[.int .i64 1,.int .i64 2,R.vv,b,R.vs]) n (by simp) o1.one rfl;have hc:kX (λl=>comp lu gR iX R 0 l\/comp lu gR iX R 4 l) h (d.put lu (.cells rI 1 true false [.int .i64 1,.int .i64 2,R.vv,b,R.vs])):=Rm k (λ_ h=> .inr h) D.nu.1 (.inl rfl)
 let⟨kF,kG,kC⟩:=D.kept (by decide) (by decide) hc
 have c:∀l,l<h.next->l<(d.put lu (.cells rI 1 true false [.int .i64 1,.int .i64 2,R.vv,b,R.vs])).next:=λl a=>zr a hc.next;have v:∀l,Loc b l->l≠lu:=λl a e=>by
  subst e;rcases p _ a with f|f
  ·exact absurd (D.zA (i:=0) (j:=4) rfl f (by decide) (by decide)) (by decide)
  ·exact absurd f (Li D.nu.1)
 have u:jF eK oG F (d.put lu (.cells rI 1 true false [.int .i64 1,.int .i64 2,R.vv,b,R.vs])) (t.blocks++ys) b:=
  o1.eD (λl a=>fS _ g λe=>D.nu.2 (e▸a)) (by grind[fS]) (jn _)
 refine⟨b,d,_,e1,k.next,e2,jn _,⟨hc.next,by grind⟩,?_⟩
 exact {
  fl:=λl a=>c l (D.fl l a)
  gu:=fO _ g
  gk:=by rw[kC 1 gR (by decide) (by decide) (by decide) rfl];exact D.gk
  gb:=by rw[kC 2 iX (by decide) (by decide) (by decide) rfl];exact D.gb
  ov:=D.ov.eD kF (λl a=>kC 3 l (by decide) (by decide) (by decide) a) hc.next
  ob:=u
  os:=D.os.eD kF (λl a=>kC 5 l (by decide) (by decide) (by decide) a) hc.next
  ok:=D.ok.eD kF (λl a=>kC 6 l (by decide) (by decide) (by decide) a) hc.next
  oc:=D.oc.eD kF (λl a=>kC 7 l (by decide) (by decide) (by decide) a) hc.next
  nu:=⟨c _ D.nu.1,D.nu.2⟩
  nk:=⟨c _ D.nk.1,D.nk.2⟩
  nb:=⟨c _ D.nb.1,D.nb.2⟩
  sp:=D.sp.eD kF
  kc:=D.kc
  gx:=λl a=>⟨c l (D.gx l a).1,(D.gx l a).2.1,λi hi=>by
   match i,hi with
   |0,hi=>exact(D.gx l a).2.2 0 hi
   |1,hi=>exact(D.gx l a).2.2 1 hi
   |2,hi=>exact(D.gx l a).2.2 2 hi
   |3,hi=>exact(D.gx l a).2.2 3 hi
   |4,hi=>exact(p l hi).elim ((D.gx l a).2.2 4) λe=>absurd e (Li (D.gx l a).1)
   |5,hi=>exact(D.gx l a).2.2 5 hi
   |6,hi=>exact(D.gx l a).2.2 6 hi
   |7,hi=>exact(D.gx l a).2.2 7 hi⟩ }
theorem Dw.Zv(D:Dw F G h lu gR iX t R){ys:List (List Fm)}{new:List V}{xv:V}(q:kJ h 1 xv=some (ys.length,new))(r:mE eT F h new ys)(a:new.length=ys.length*1) (m:gh new=true)(u:0<ys.length)(hlen:t.s.eh.length+ys.length<1000000) :
  ∃b d f,fh G3 1 24 R.vs xv h=some (.val b d)/\h.next<=d.next/\gW 1 (.ptr lu 4) b d=some (.val .undef f)/\d.next<=f.next/\Kp F G h f/\
   Dw F G f lu gR iX {t with s:={t.s with eh:=t.s.eh++ys} } {R with vs:=b}:=by
 let⟨b,d,e1,o1,k,p⟩:=D.os.append (lV:=24) q r a m u (by decide) D.fl (by omega) (by omega)
 have n:d.get lu=some (.cells rI 1 true false [.int .i64 1,.int .i64 2,R.vv,R.vb,R.vs]):=by
  rw[k.eD lu D.nu.1 λa=>nomatch D.zA (i:=0) (j:=5) rfl a (by decide) (by decide)];exact D.gu
 have g:=zr D.nu.1 k.next;have e2:=mg (o:=4) (mG:=[.int .i64 1,.int .i64 2,R.vv,R.vb,b]) n (by simp) o1.one rfl;have hc:kX (λl=>comp lu gR iX R 0 l\/comp lu gR iX R 5 l) h (d.put lu (.cells rI 1 true false [.int .i64 1,.int .i64 2,R.vv,R.vb,b])):=Rm k (λ_ h=> .inr h) D.nu.1 (.inl rfl)
 let⟨kF,kG,kC⟩:=D.kept (by decide) (by decide) hc
 have c:∀l,l<h.next->l<(d.put lu (.cells rI 1 true false [.int .i64 1,.int .i64 2,R.vv,R.vb,b])).next:=λl a=>zr a hc.next;have w:∀l,Loc b l->l≠lu:=λl a e=>by
  subst e;rcases p _ a with f|f
  ·exact absurd (D.zA (i:=0) (j:=5) rfl f (by decide) (by decide)) (by decide)
  ·exact absurd f (Li D.nu.1)
 have v:jF eT G3 F (d.put lu (.cells rI 1 true false [.int .i64 1,.int .i64 2,R.vv,R.vb,b])) (t.s.eh++ys) b:=
  o1.eD (λl a=>fS _ g λe=>D.nu.2 (e▸a)) (by grind[fS]) (jn _)
 refine⟨b,d,_,e1,k.next,e2,jn _,⟨hc.next,by grind⟩,?_⟩
 exact {
  fl:=λl a=>c l (D.fl l a)
  gu:=fO _ g
  gk:=by rw[kC 1 gR (by decide) (by decide) (by decide) rfl];exact D.gk
  gb:=by rw[kC 2 iX (by decide) (by decide) (by decide) rfl];exact D.gb
  ov:=D.ov.eD kF (λl a=>kC 3 l (by decide) (by decide) (by decide) a) hc.next
  ob:=D.ob.eD kF (λl a=>kC 4 l (by decide) (by decide) (by decide) a) hc.next
  os:=v
  ok:=D.ok.eD kF (λl a=>kC 6 l (by decide) (by decide) (by decide) a) hc.next
  oc:=D.oc.eD kF (λl a=>kC 7 l (by decide) (by decide) (by decide) a) hc.next
  nu:=⟨c _ D.nu.1,D.nu.2⟩
  nk:=⟨c _ D.nk.1,D.nk.2⟩
  nb:=⟨c _ D.nb.1,D.nb.2⟩
  sp:=D.sp.eD kF
  kc:=D.kc
  gx:=λl a=>⟨c l (D.gx l a).1,(D.gx l a).2.1,λi hi=>by
   match i,hi with
   |0,hi=>exact(D.gx l a).2.2 0 hi
   |1,hi=>exact(D.gx l a).2.2 1 hi
   |2,hi=>exact(D.gx l a).2.2 2 hi
   |3,hi=>exact(D.gx l a).2.2 3 hi
   |4,hi=>exact(D.gx l a).2.2 4 hi
   |5,hi=>exact(p l hi).elim ((D.gx l a).2.2 5) λe=>absurd e (Li (D.gx l a).1)
   |6,hi=>exact(D.gx l a).2.2 6 hi
   |7,hi=>exact(D.gx l a).2.2 7 hi⟩ }
theorem Dw.Vp(D:Dw F G h lu gR iX t R){ys:List Nat}{new:List V}{xv:V}(q:kJ h 1 xv=some (ys.length,new))(r:mE eN F h new ys)(a:new.length=ys.length*1) (m:gh new=true)(u:0<ys.length)(hlen:t.s.known.length+ys.length<1000000) :
  ∃b d f,fh fy 1 8 R.vk xv h=some (.val b d)/\h.next<=d.next/\gW 1 (.ptr gR 0) b d=some (.val .undef f)/\d.next<=f.next/\Kp F G h f/\
   Dw F G f lu gR iX {t with s:={t.s with known:=t.s.known++ys} } {R with vk:=b}:=by
 let⟨b,d,e1,o1,k,n⟩:=D.ok.append (lV:=8) q r a m u (by decide) D.fl (by omega) (by omega)
 have p:d.get gR=some (.cells ji 1 true false [R.vk]):=by
  rw[k.eD gR D.nk.1 λa=>nomatch D.zA (i:=1) (j:=6) rfl a (by decide) (by decide)];exact D.gk
 have g:=zr D.nk.1 k.next;have e2:=mg (o:=0) (mG:=[b]) p (by simp) o1.one rfl;have hc:kX (λl=>comp lu gR iX R 1 l\/comp lu gR iX R 6 l) h (d.put gR (.cells ji 1 true false [b])):=Rm k (λ_ h=> .inr h) D.nk.1 (.inl rfl)
 let⟨kF,kG,kC⟩:=D.kept (by decide) (by decide) hc
 have c:∀l,l<h.next->l<(d.put gR (.cells ji 1 true false [b])).next:=λl a=>zr a hc.next;have w:∀l,Loc b l->l≠gR:=λl a e=>by
  subst e;rcases n _ a with f|f
  ·exact absurd (D.zA (i:=1) (j:=6) rfl f (by decide) (by decide)) (by decide)
  ·exact absurd f (Li D.nk.1)
 have v:jF eN fy F (d.put gR (.cells ji 1 true false [b])) (t.s.known++ys) b:=
  o1.eD (λl a=>fS _ g λe=>D.nk.2 (e▸a)) (by grind[fS]) (jn _)
 refine⟨b,d,_,e1,k.next,e2,jn _,⟨hc.next,by grind⟩,?_⟩
 exact {
  fl:=λl a=>c l (D.fl l a)
  gu:=by rw[kC 0 lu (by decide) (by decide) (by decide) rfl];exact D.gu
  gk:=fO _ g
  gb:=by rw[kC 2 iX (by decide) (by decide) (by decide) rfl];exact D.gb
  ov:=D.ov.eD kF (λl a=>kC 3 l (by decide) (by decide) (by decide) a) hc.next
  ob:=D.ob.eD kF (λl a=>kC 4 l (by decide) (by decide) (by decide) a) hc.next
  os:=D.os.eD kF (λl a=>kC 5 l (by decide) (by decide) (by decide) a) hc.next
  ok:=v
  oc:=D.oc.eD kF (λl a=>kC 7 l (by decide) (by decide) (by decide) a) hc.next
  nu:=⟨c _ D.nu.1,D.nu.2⟩
  nk:=⟨c _ D.nk.1,D.nk.2⟩
  nb:=⟨c _ D.nb.1,D.nb.2⟩
  sp:=D.sp.eD kF
  kc:=λl a hc=>(n l a).elim (λf=>D.kc l f hc) λe=>absurd e (Li (D.oc.tu hc).2.1)
  gx:=λl a=>⟨c l (D.gx l a).1,(D.gx l a).2.1,λi hi=>by
   match i,hi with
   |0,hi=>exact(D.gx l a).2.2 0 hi
   |1,hi=>exact(D.gx l a).2.2 1 hi
   |2,hi=>exact(D.gx l a).2.2 2 hi
   |3,hi=>exact(D.gx l a).2.2 3 hi
   |4,hi=>exact(D.gx l a).2.2 4 hi
   |5,hi=>exact(D.gx l a).2.2 5 hi
   |6,hi=>exact(n l hi).elim ((D.gx l a).2.2 6) λe=>absurd e (Li (D.gx l a).1)
   |7,hi=>exact(D.gx l a).2.2 7 hi⟩ }
theorem Dw.ZA(D:Dw F G h lu gR iX t R){ys:List Nat}{new:List V}{xv:V}(q:kJ h 1 xv=some (ys.length,new))(r:mE eN F h new ys)(a:new.length=ys.length*1) (m:gh new=true)(u:0<ys.length)(hlen:t.s.cur.length+ys.length<1000000) :
  ∃b d f,fh fy 1 8 R.vc xv h=some (.val b d)/\h.next<=d.next/\gW 1 (.ptr iX 0) b d=some (.val .undef f)/\d.next<=f.next/\Kp F G h f/\
   Dw F G f lu gR iX {t with s:={t.s with cur:=t.s.cur++ys} } {R with vc:=b,cc:=b}:=by
 let⟨b,d,e1,o1,k,n⟩:=D.oc.append (lV:=8) q r a m u (by decide) D.fl (by omega) (by omega)
 have p:d.get iX=some (.cells oG 1 true false [R.cc,.int .i64 0,.int .i64 0,.ed,R.vp,.int .i64 0]):=by
  rw[k.eD iX D.nb.1 λa=>nomatch D.zA (i:=2) (j:=7) rfl a (by decide) (by decide)];exact D.gb
 have g:=zr D.nb.1 k.next;have e2:=mg (o:=0) (mG:=[b,.int .i64 0,.int .i64 0,.ed,R.vp,.int .i64 0]) p (by simp) o1.one rfl;have hc:kX (λl=>comp lu gR iX R 2 l\/comp lu gR iX R 7 l) h (d.put iX (.cells oG 1 true false [b,.int .i64 0,.int .i64 0,.ed,R.vp,.int .i64 0])):=Rm k (λ_ h=> .inr h) D.nb.1 (.inl rfl)
 let⟨kF,kG,kC⟩:=D.kept (by decide) (by decide) hc
 have c:∀l,l<h.next->l<(d.put iX (.cells oG 1 true false [b,.int .i64 0,.int .i64 0,.ed,R.vp,.int .i64 0])).next:=λl a=>zr a hc.next;have w:∀l,Loc b l->l≠iX:=λl a e=>by
  subst e;rcases n _ a with f|f
  ·exact absurd (D.zA (i:=2) (j:=7) rfl f (by decide) (by decide)) (by decide)
  ·exact absurd f (Li D.nb.1)
 have v:jF eN fy F (d.put iX (.cells oG 1 true false [b,.int .i64 0,.int .i64 0,.ed,R.vp,.int .i64 0])) (t.s.cur++ys) b:=
  o1.eD (λl a=>fS _ g λe=>D.nb.2 (e▸a)) (by grind[fS]) (jn _)
 refine⟨b,d,_,e1,k.next,e2,jn _,⟨hc.next,by grind⟩,?_⟩
 exact {
  fl:=λl a=>c l (D.fl l a)
  gu:=by rw[kC 0 lu (by decide) (by decide) (by decide) rfl];exact D.gu
  gk:=by rw[kC 1 gR (by decide) (by decide) (by decide) rfl];exact D.gk
  gb:=fO _ g
  ov:=D.ov.eD kF (λl a=>kC 3 l (by decide) (by decide) (by decide) a) hc.next
  ob:=D.ob.eD kF (λl a=>kC 4 l (by decide) (by decide) (by decide) a) hc.next
  os:=D.os.eD kF (λl a=>kC 5 l (by decide) (by decide) (by decide) a) hc.next
  ok:=D.ok.eD kF (λl a=>kC 6 l (by decide) (by decide) (by decide) a) hc.next
  oc:=v
  nu:=⟨c _ D.nu.1,D.nu.2⟩
  nk:=⟨c _ D.nk.1,D.nk.2⟩
  nb:=⟨c _ D.nb.1,D.nb.2⟩
  sp:=D.sp.eD kF
  kc:=λl a hc=>(n l hc).elim (λf=>D.kc l a f) λe=>absurd e (Li (D.ok.tu a).2.1)
  gx:=λl a=>⟨c l (D.gx l a).1,(D.gx l a).2.1,λi hi=>by
   match i,hi with
   |0,hi=>exact(D.gx l a).2.2 0 hi
   |1,hi=>exact(D.gx l a).2.2 1 hi
   |2,hi=>exact(D.gx l a).2.2 2 hi
   |3,hi=>exact(D.gx l a).2.2 3 hi
   |4,hi=>exact(D.gx l a).2.2 4 hi
   |5,hi=>exact(D.gx l a).2.2 5 hi
   |6,hi=>exact(D.gx l a).2.2 6 hi
   |7,hi=>exact(n l hi).elim ((D.gx l a).2.2 7) λe=>absurd e (Li (D.gx l a).1)⟩ }
theorem Dw.cell(D:Dw F G h lu gR iX t R){i:Nat}(hi:i<8)(hc:kX (λl=>comp lu gR iX R i l) h h') :
  (∀l,F l->h'.get l=h.get l)/\(∀l,G l->h'.get l=h.get l)/\∀k l,k<8->k≠i->comp lu gR iX R k l->h'.get l=h.get l:=by
 let⟨a,b,c⟩:=D.kept hi hi (hc.Ub λ_ _ h=> .inl h)
 grind
theorem Dw.Y9(D:Dw F G h lu gR iX t R){n:Nat}(e:n<=t.s.known.length) :
  ∃b c,iZ 1 R.vk none (some (.int .i64 n)) h=some b/\gW 1 (.ptr gR 0) b h=some (.val .undef c)/\h.next<=c.next/\Kp F G h c/\Dw F G c lu gR iX {t with s:=Un.cut n t.s} {R with vk:=b}:=by
 let⟨b,e1,o1,d⟩:=D.ok.cut e
 have e2:=mg (o:=0) (mG:=[b]) D.gk (by simp) o1.one rfl;have hc:kX (λl=>comp lu gR iX R 1 l) h (h.put gR (.cells ji 1 true false [b])):=kX.put _ rfl D.nk.1
 let⟨kF,kG,kC⟩:=D.cell (by decide) hc
 refine⟨b,_,e1,e2,jn _,⟨hc.next,by grind⟩,?_⟩
 exact {
  fl:=D.fl
  gu:=by rw[kC 0 lu (by decide) (by decide) rfl];exact D.gu
  gk:=fO _ D.nk.1
  gb:=by rw[kC 2 iX (by decide) (by decide) rfl];exact D.gb
  nu:=D.nu
  nk:=D.nk
  nb:=D.nb
  ov:=D.ov.eD kF (λl a=>kC 3 l (by decide) (by decide) a) hc.next
  ob:=D.ob.eD kF (λl a=>kC 4 l (by decide) (by decide) a) hc.next
  os:=D.os.eD kF (λl a=>kC 5 l (by decide) (by decide) a) hc.next
  ok:=o1.eD kF (λl a=>kC 6 l (by decide) (by decide) (d l a)) hc.next
  oc:=D.oc.eD kF (λl a=>kC 7 l (by decide) (by decide) a) hc.next
  sp:=D.sp.eD kF
  kc:=λl a=>D.kc l (d l a)
  gx:=λl a=>⟨(D.gx l a).1,(D.gx l a).2.1,λi hi=>by
   match i,hi with
   |0,hi=>exact(D.gx l a).2.2 0 hi
   |1,hi=>exact(D.gx l a).2.2 1 hi
   |2,hi=>exact(D.gx l a).2.2 2 hi
   |3,hi=>exact(D.gx l a).2.2 3 hi
   |4,hi=>exact(D.gx l a).2.2 4 hi
   |5,hi=>exact(D.gx l a).2.2 5 hi
   |6,hi=>exact(D.gx l a).2.2 6 (d l hi)
   |7,hi=>exact(D.gx l a).2.2 7 hi⟩ }
theorem Dw.UB(D:Dw F G h lu gR iX t R){c p:V}{ps:List Nat}(b:iL eN F h ps p):Kp F G h (h.put iX (.cells oG 1 true false [c,.int .i64 0,.int .i64 0,.ed,p,.int .i64 0]))/\
  Dw F G (h.put iX (.cells oG 1 true false [c,.int .i64 0,.int .i64 0,.ed,p,.int .i64 0])) lu gR iX {t with ft:=ps} {R with vp:=p,cc:=c}:=by
 have hc:kX (λl=>comp lu gR iX R 2 l) h (h.put iX (.cells oG 1 true false [c,.int .i64 0,.int .i64 0,.ed,p,.int .i64 0])):=kX.put _ rfl D.nb.1
 let⟨kF,kG,kC⟩:=D.cell (by decide) hc
 refine⟨⟨hc.next,by grind⟩,?_⟩
 exact {
  fl:=D.fl
  gu:=by rw[kC 0 lu (by decide) (by decide) rfl];exact D.gu
  gk:=by rw[kC 1 gR (by decide) (by decide) rfl];exact D.gk
  gb:=fO _ D.nb.1
  nu:=D.nu
  nk:=D.nk
  nb:=D.nb
  ov:=D.ov.eD kF (λl a=>kC 3 l (by decide) (by decide) a) hc.next
  ob:=D.ob.eD kF (λl a=>kC 4 l (by decide) (by decide) a) hc.next
  os:=D.os.eD kF (λl a=>kC 5 l (by decide) (by decide) a) hc.next
  ok:=D.ok.eD kF (λl a=>kC 6 l (by decide) (by decide) a) hc.next
  oc:=D.oc.eD kF (λl a=>kC 7 l (by decide) (by decide) a) hc.next
  sp:=b.eD kF
  kc:=D.kc
  gx:=D.gx}
def WJ(F:Nat->Prop)(v:V):Nat->Prop:=λl=>F l\/Loc v l
theorem Dw.flush(D:Dw F G h lu gR iX t R):iL eN (WJ F R.vc) h t.s.cur R.vc/\Dw (WJ F R.vc) G h lu gR iX {t with s:={t.s with cur:=[]} } {R with vc:= .ed}:=by
 refine⟨D.oc.Wa (λ_ h=> .inl h) λ_ h=> .inr h,?_⟩
 have D':Dw F G h lu gR iX {t with s:={t.s with cur:=[]} } {R with vc:= .ed}:=
  { D with
    oc:= .nil
    kc:=by simp_all
    gx:=λl a=>⟨(D.gx l a).1,(D.gx l a).2.1,λi hi=>by
      match i,hi with
      |0,hi=>exact(D.gx l a).2.2 0 hi
      |1,hi=>exact(D.gx l a).2.2 1 hi
      |2,hi=>exact(D.gx l a).2.2 2 hi
      |3,hi=>exact(D.gx l a).2.2 3 hi
      |4,hi=>exact(D.gx l a).2.2 4 hi
      |5,hi=>exact(D.gx l a).2.2 5 hi
      |6,hi=>exact(D.gx l a).2.2 6 hi
      |n+7,hi=>exact(match n,hi with|0,hi=>hi)⟩ }
 refine D'.more (λ_ h=> .inl h) λl a=>a.imp id λhc=>⟨(D.oc.tu hc).2.1,λi hi=>?_,λb=>(D.gx l b).2.2 7 hc⟩
 match i,hi with
 |0,hi=>exact nomatch D.zA (i:=0) (j:=7) hi hc (by decide) (by decide)
 |1,hi=>exact nomatch D.zA (i:=1) (j:=7) hi hc (by decide) (by decide)
 |2,hi=>exact nomatch D.zA (i:=2) (j:=7) hi hc (by decide) (by decide)
 |3,hi=>exact nomatch D.zA (i:=3) (j:=7) hi hc (by decide) (by decide)
 |4,hi=>exact nomatch D.zA (i:=4) (j:=7) hi hc (by decide) (by decide)
 |5,hi=>exact nomatch D.zA (i:=5) (j:=7) hi hc (by decide) (by decide)
 |6,hi=>exact nomatch D.zA (i:=6) (j:=7) hi hc (by decide) (by decide)
 |n+7,hi=>exact(match n,hi with|0,hi=>hi)
theorem Dw.V6(D:Dw F G h lu gR iX t R){p:Nat}{xs:List Nat}{a:V}(g:p<t.s.ee.length)(f:iL eN F h xs a) :
  ∃l d,gy 6 R.vv (.int .i64 p)=some (.ptr l (p*6))/\gW 1 (.ptr l (p*6+4)) a h=some (.val .undef d)/\h.next<=d.next/\Kp F G h d/\Dw F G d lu gR iX {t with s:=setArgs t.s p xs} R:=by
 let⟨l,d,_,e1,e2,o1,hc⟩:=D.ov.store (k:=4) (y:={t.s.ee[p]with args:=xs}) g (by decide) f.one (λw ⟨x,j,_⟩=>by subst j;exact⟨a,rfl,f⟩)
 let⟨kF,kG,kC⟩:=D.cell (i:=3) (by decide) hc
 refine ⟨l,d,e1,e2,hc.next,⟨hc.next,by grind⟩,?_⟩;have c:∀l,l<h.next->l<d.next:=λl b=>zr b hc.next;have em:(setArgs t.s p xs).ee=t.s.ee.set p {t.s.ee[p]with args:=xs}:=by
  show t.s.ee.modify p _=_;refine Wd λi=>?_;rw[ List.getElem?_set];by_cases e:p=i
  ·grind
  ·simp[e]
 exact {
  fl:=λl b=>c l (D.fl l b)
  gu:=by rw[kC 0 lu (by decide) (by decide) rfl];exact D.gu
  gk:=by rw[kC 1 gR (by decide) (by decide) rfl];exact D.gk
  gb:=by rw[kC 2 iX (by decide) (by decide) rfl];exact D.gb
  nu:=⟨c _ D.nu.1,D.nu.2⟩
  nk:=⟨c _ D.nk.1,D.nk.2⟩
  nb:=⟨c _ D.nb.1,D.nb.2⟩
  ov:=by simp_all
  ob:=D.ob.eD kF (λl b=>kC 4 l (by decide) (by decide) b) hc.next
  os:=D.os.eD kF (λl b=>kC 5 l (by decide) (by decide) b) hc.next
  ok:=D.ok.eD kF (λl b=>kC 6 l (by decide) (by decide) b) hc.next
  oc:=D.oc.eD kF (λl b=>kC 7 l (by decide) (by decide) b) hc.next
  sp:=D.sp.eD kF
  kc:=D.kc
  gx:=λl b=>⟨c l (D.gx l b).1,(D.gx l b).2⟩ }
end
