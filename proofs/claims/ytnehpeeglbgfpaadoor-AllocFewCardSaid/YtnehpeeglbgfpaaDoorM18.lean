/- Parts. -/
import Derived.Test.YtnehpeeglbgfpaaDoorM09
import Derived.Test.YtnehpeeglbgfpaaDoorM13
set_option maxHeartbeats 4000000
namespace Go.Proofs.YtnehpeeglbgfpaaDoor.Hx
open Un
def eN:sO Nat where
 sz:=1
 rel _ _ n cs:=cs=[.int .i64 n]
 len h:=by subst h;rfl
 one h:=by subst h;rfl
 eC _ h:=h
 mono _ h:=h
def qq(x:Vl)(w:V):List V:=[.int .i64 x.op,.int .i64 x.a,.int .i64 x.b,.int .i64 x.n,w,.int .i64 x.state]
def eV:sO Vl where
 sz:=6
 rel F h x cs:=∃w,cs=qq x w/\iB eN F h x.args w
 len:=λ⟨_,h,_⟩=>by subst h;rfl
 one:=λ⟨_,h,a⟩=>by subst h;simp only[qq,eR,a.one];rfl
 eC:=λb ⟨w,h,a⟩=>⟨w,h,a.eC b⟩
 mono:=λc ⟨w,h,a⟩=>⟨w,h,a.mono c⟩
def kJ(x:Bk)(v n p:V):List V:=[v,.int .i64 x.fin,.int .i64 x.cond,n,p,.int .i64 x.state]
def eK:sO Bk where
 sz:=6
 rel F h x cs:=∃v n p,cs=kJ x v n p/\iB eN F h x.ee v/\iB eN F h x.next n/\iB eN F h x.fk p
 len:=λ⟨_,_,_,h,_⟩=>by subst h;rfl
 one:=λ⟨_,_,_,h,a,b,c⟩=>by subst h;simp only[kJ,eR,a.one,b.one,c.one];rfl
 eC:=λd ⟨v,n,p,h,a,b,c⟩=>⟨v,n,p,h,a.eC d,b.eC d,c.eC d⟩
 mono:=λe ⟨v,n,p,h,a,b,c⟩=>⟨v,n,p,h,a.mono e,b.mono e,c.mono e⟩
def UE(x:Fm)(l s:V):List V:=[.int .i64 x.func,.int .i64 x.pc,l,s]
def eF:sO Fm where
 sz:=4
 rel F h x cs:=∃l s,cs=UE x l s/\iB eN F h x.locals l/\iB eN F h x.stack s
 len:=λ⟨_,_,h,_⟩=>by subst h;rfl
 one:=λ⟨_,_,h,a,b⟩=>by subst h;simp only[UE,eR,a.one,b.one];rfl
 eC:=λc ⟨l,s,h,a,b⟩=>⟨l,s,h,a.eC c,b.eC c⟩
 mono:=λd ⟨l,s,h,a,b⟩=>⟨l,s,h,a.mono d,b.mono d⟩
def eT:sO (List Fm):=eL eF
theorem sS(F:Nat->Prop)(h:Hp):∀(l:List Nat),lR eN F h (l.map λn=>V.int .i64 (n:Nat)) l
 |[]=>trivial
 |n::l=>⟨[.int .i64 n],_,rfl,rfl,sS F h l⟩
def Loc(v:V)(t:Nat):Prop:=match v with
 | .slice l _ _=>l=t
 |_=>False
@[simp] theorem WL (t:Nat):Loc .ed t=False:=rfl
@[simp] theorem UY (l o n t:Nat):Loc (.slice l o n) t=(l=t):=rfl
def jn{α:Type}(E:sO α)(ty:Nat)(F:Nat->Prop)(h:Hp)(xs:List α)(v:V):Prop:=(v = .ed/\xs=[])\/∃t cs,v = .slice t 0 xs.length/\t<h.next/\¬F t/\h.get t=some (.cells ty E.sz true false cs)/\lR E F h cs xs/\fZ cs=true
section
variable{α:Type}{E:sO α}{ty:Nat}{F F':Nat->Prop}{h h':Hp}{xs:List α}{v:V}
theorem jn.nil:jn E ty F h [] .ed:= .inl ⟨rfl,rfl⟩
theorem jn.len(a:jn E ty F h xs v):fJ v=some (.int .i64 xs.length):=by
 rcases a with⟨rfl,rfl⟩|⟨t,cs,rfl,_⟩ <;> rfl
theorem jn.one(a:jn E ty F h xs v):v.one=true:=by
 rcases a with⟨rfl,rfl⟩|⟨t,cs,rfl,_⟩ <;> rfl
noncomputable def Sf(h:Hp) (l:Nat):Option (Nat×Nat):=match h.get l with
 |some (.cells e sz _ _ _)=>some (e,sz)
 |_=>none
theorem CZ{l e sz:Nat}{a b:Bool}{cs:List V}(c:h.get l=some (.cells e sz a b cs)):Sf h l=some (e,sz):=by unfold Sf;rw[c]
theorem jn.sm(b:jn E ty F h xs v){t:Nat}(a:Loc v t):Sf h t=some (ty,E.sz)/\t<h.next/\¬F t:=by
 rcases b with⟨rfl,_⟩|⟨t',cs,rfl,c,d,e,_⟩
 ·exact a.elim
 ·obtain rfl:t' = t:=a;exact⟨CZ e,c,d⟩
theorem jn.eC(a:jn E ty F h xs v)(b:∀l,F l->h'.get l=h.get l)(c:∀l,Loc v l->h'.get l=h.get l)(d:h.next<=h'.next):jn E ty F h' xs v:=by
 rcases a with a|⟨t,cs,rfl,e,f,g,i,j⟩
 ·exact .inl a
 ·exact .inr ⟨t,cs,rfl,yG e d,f,by rw[c t rfl];exact g,i.eC b,j⟩
theorem jn.mono(a:jn E ty F h xs v)(b:∀l,F l->F' l)(c:∀t,Loc v t->¬F' t):jn E ty F' h xs v:=by
 rcases a with a|⟨t,cs,rfl,d,i,e,f,g⟩
 ·exact .inl a
 ·exact .inr ⟨t,cs,rfl,d,c t rfl,e,f.mono b,g⟩
theorem jn.TK(a:jn E ty F h xs v)(b:∀l,F l->F' l)(c:∀t,Loc v t->F' t):iB E F' h xs v:=by
 rcases a with a|⟨t,cs,rfl,f,g,d,e,i⟩
 ·exact .inl a
 ·exact .inr ⟨t,0,ty,true,false,cs,rfl,c t rfl,d,.inr rfl,EL _,by simpa using e.mono b⟩
theorem jn.read(a:jn E ty F h xs v):iB E (λl=>F l\/Loc v l) h xs v:=a.TK (λ_ h=> .inl h) λ_ h=> .inr h
theorem jn.append{lD:Nat}{x:V}{new:List V}{ys:List α}(B:jn E ty F h xs v)(c:jX h E.sz x=some (ys.length,new))(p:lR E F h new ys)(C:new.length=ys.length*E.sz)(i:fZ new=true)(H:0<ys.length)(I:0<E.sz)
  (o:∀l,F l->l<h.next) (y:(xs.length+ys.length)*lD<=70368744177664) (m:xs.length+ys.length<=70368744177664) :
  ∃q h',fh ty E.sz lD v x h=some (.val q h')/\jn E ty F h' (xs++ys) q/\ki (Loc v) h h'/\(∀t,Loc q t->Loc v t\/t=h.next):=by
 have f:Nat.beq ys.length 0=false:=by
  cases hq:ys.length with
  |zero=>omega
  |succ k=>rfl
 rcases B with⟨rfl,rfl⟩|⟨t,cs,rfl,j,r,z,s,g⟩
 ·refine⟨.slice h.next 0 ys.length,h.new (.cells ty E.sz true false new),?_,.inr ⟨h.next,new,by simp,JI _,λb=>TM _ (o _ b),ey _ _,?_,i⟩,ki.new _ _,λt D=> .inr D.symm⟩
  ·unfold fh;simp only[c,fg,f,i,tB];rw[um _ (OY (by simpa using y)),um _ (OY (by simpa using m))]
  ·exact p.eC λl b=>eJ _ (o l b)
 ·have G:=s.length;have A:(xs.length+ys.length)*E.sz=xs.length*E.sz+ys.length*E.sz:=OC _ _ _
  cases hroom:Nat.ble (Nat.add 0 (Nat.mul (Nat.add xs.length ys.length) E.sz)) cs.length with
  | true=>
    have J:(xs.length+ys.length)*E.sz<=cs.length:=by
      have:=EY hroom;show _<=_;rw[show Nat.add 0 (Nat.mul (Nat.add xs.length ys.length) E.sz)=(xs.length+ys.length)*E.sz from Dr _]at this;exact this
    refine ⟨.slice t 0 (xs.length+ys.length),h.put t (.cells ty E.sz true false (cs.take (xs.length*E.sz)++new++cs.drop (xs.length*E.sz+new.length))),?_,
      .inr ⟨t,_,by simp,j,r,fG _ j,?_,?_⟩,ki.put _ rfl j,λ_ h=> .inl h⟩
    ·unfold fh jT
     have u:nE (Nat.add 0 (Nat.mul xs.length E.sz)) cs new=some (cs.take (xs.length*E.sz)++new++cs.drop (xs.length*E.sz+new.length)):=by
       rw[show Nat.add 0 (Nat.mul xs.length E.sz)=xs.length*E.sz from Dr _];exact AY (by rw[C];omega)
     simp only[c,fg,f,i,tB,z,Um,hroom,u];rw[um _ (Oy _)];rfl
    ·refine lR.eC (h:=h) (λl b=>fN _ j λe=>r (e▸b)) ?_
     rw[LX];exact s.take.append (by rw[JN];omega) p.more
    ·rw[mw,mw,i]
     have e1:∀(l:List V),fZ l=l.all V.one:=λl=>by
       induction l with
       |nil=>rfl
       |cons a l w=>rw[eR,w];rfl
     rw[e1]at g⊢;rw[e1];rw[JB]at g;simp only[Bool.and_true,te,JB]
     exact⟨λx c=>g x (UR c),λx c=>g x (List.mem_of_mem_drop c)⟩
  | false=>
    have e1:∀(l:List V),fZ l=l.all V.one:=λl=>by
      induction l with
      |nil=>rfl
      |cons a l w=>rw[eR,w];rfl
    have d:fZ (cs.take (xs.length*E.sz))=true:=by
      rw[e1]at g⊢;rw[JB]at g⊢;exact λx c=>g x (UR c)
    refine ⟨.slice h.next 0 (xs.length+ys.length),(h.put t (.cells ty E.sz false false cs)).new (.cells ty E.sz true false (cs.take (xs.length*E.sz)++new)),?_,
      .inr ⟨h.next,_,by simp,JI _,λb=>TM _ (o _ b),ey (h.put t _) _,?_,by rw[mw,d,i];rfl⟩,
      (ki.put (S:=Loc (.slice t 0 xs.length)) (.cells ty E.sz false false cs) rfl j).trans (ki.new _ _),λ_ h=> .inr h.symm⟩
    ·unfold fh jT
     have n:sub cs 0 (Nat.mul xs.length E.sz)=some (cs.take (xs.length*E.sz)):=by
       show sub cs 0 (xs.length*E.sz)=_;rw[Cd (show 0+xs.length*E.sz<=cs.length by omega),OK]
     simp only[c,fg,f,i,tB,z,Um,hroom,n,d];rw[um _ (Oy _),um _ (show Nat.ble (Nat.mul (Nat.add xs.length ys.length) lD) 70368744177664=true from OY y),um _ (show Nat.ble (Nat.add xs.length ys.length) 70368744177664=true from OY m)];rfl
    ·refine lR.eC (h:=h) (λl b=>?_) ?_
     ·rw[eJ _ (show l<(h.put t _).next from o l b),fN _ j λe=>r (e▸b)]
     ·exact s.take.append (by rw[JN];omega) p
theorem jn.cut(d:jn E ty F h xs v){n:Nat}(a:n<=xs.length):∃b,iF E.sz v none (some (.int .i64 n)) h=some b/\jn E ty F h (xs.take n) b/\∀t,Loc b t->Loc v t:=by
 rcases d with⟨rfl,rfl⟩|⟨t,cs,rfl,e,f,c,g,i⟩
 ·obtain rfl:n=0:=by simpa using a
  exact⟨.ed,rfl,.inl ⟨rfl,rfl⟩,λ_ h=>h⟩
 ·refine⟨.slice t 0 n,?_,.inr ⟨t,cs,by rw[JN,Nat.min_eq_left a],e,f,c,g.taken n,i⟩,λ_ h=>h⟩;unfold iF jT;simp only[c,fg,E3,Ii];rw[um _ (Oy _),um _ (OY (EL _)),um _ (by rw[OY a];rfl)];simp
theorem jn.store(n:jn E ty F h xs v){i k:Nat}{y:α}{u:V}(hi:i<xs.length)(B:k<E.sz)(f:u.one=true)(o:∀w,E.rel F h xs[i] w->E.rel F h y (w.set k u)) :
  ∃t h',Loc v t/\gM E.sz v (.int .i64 i)=some (.ptr t (i*E.sz))/\gU 1 (.ptr t (i*E.sz+k)) u h=some (.val .undef h')/\jn E ty F h' (xs.set i y) v/\ki (Loc v) h h':=by
 rcases n with⟨rfl,rfl⟩|⟨t,cs,rfl,c,g,p,j,d⟩
 ·simp at hi
 ·obtain ⟨w,q,C,m⟩:=j.get (i:=i) (x:=xs[i]) (iQ hi);have b:cs.set (i*E.sz+k) u=cs.take (i*E.sz)++w.set k u++cs.drop (i*E.sz+E.sz):=by
   have e0:cs=cs.take (i*E.sz)++(w++cs.drop (i*E.sz+E.sz)):=by
    rw[<-q]
    conv=>lhs;rw[<-Tq (i*E.sz) cs]
    congr 1;rw[<-QY,Tq]
   have D:=E.len m
   conv=>lhs;rw[e0]
   rw[List.set_append_right _ _ (by rw[JN];omega),JN,Nat.min_eq_left (by omega),Nat.add_sub_cancel_left,List.set_append_left _ _ (by omega),LX]
  refine⟨t,h.put t (.cells ty E.sz true false (cs.set (i*E.sz+k) u)),rfl,by rw[uV _ _ _ _ _ _ hi,Dr],GU p (by omega) f,.inr ⟨t,_,by simp,c,g,fG _ c,?_,?_⟩,ki.put _ rfl c⟩
  ·refine lR.eC (h:=h) (λl r=>fN _ c λe=>g (e▸r)) ?_;rw[b];exact j.set hi (o w m)
  ·have e1:∀(l:List V),fZ l=l.all V.one:=λl=>by
    induction l with
    |nil=>rfl
    |cons a l s=>rw[eR,s];rfl
   rw[e1]at d⊢;rw[JB]at d⊢;intro x z;rcases Uq z with A|rfl
   ·exact d x A
   ·exact f
end
abbrev fI:Nat:=3
abbrev fo:Nat:=4
abbrev iT:Nat:=22
abbrev qy:Nat:=29
abbrev tj:Nat:=46
abbrev nN:Nat:=44
abbrev FG:Nat:=53
abbrev La:Nat:=24
abbrev wD:Nat:=83
abbrev fy:Nat:=59
abbrev mG:Nat:=80
abbrev tT:Nat:=90
abbrev Hw:Nat:=88
abbrev xL:Nat:=32
open Un
structure Pc where
 lG:Nat->Prop
 ok:(Nat->Prop)->Hp->Prop
 Hl:∀{F:Nat->Prop} {h:Hp},ok F h->∀l,lG l->l<h.next/\¬F l
 eC:∀{F:Nat->Prop} {h h':Hp},ok F h->(∀l,F l->h'.get l=h.get l)->(∀l,lG l->h'.get l=h.get l)->h.next<=h'.next->ok F h'
 mono:∀{F F':Nat->Prop} {h:Hp},ok F h->(∀l,F l->F' l)->(∀l,lG l->¬F' l)->ok F' h
def emp:Pc:=⟨λ_=>False,λ_ _=>True,by simp_all,by simp_all,by simp_all⟩
def eE(l ty:Nat)(vs:List V):Pc where
 lG:=λm=>m=l
 ok F h:=h.get l=some (.cells ty 1 true false vs)/\l<h.next/\¬F l
 Hl:=by simp_all
 eC:=by grind
 mono:=by simp_all
def ft{α:Type}(E:sO α)(ty:Nat)(xs:List α)(v:V):Pc where
 lG:=Loc v
 ok F h:=jn E ty F h xs v
 Hl:=λh _ a=>(h.sm a).2
 eC:=by grind[jn.eC]
 mono:=by grind[jn.mono]
def WM(S:Nat->Prop)(h0:Hp):Pc where
 lG:=S
 ok F h:=∀l,S l->h.get l=h0.get l/\l<h.next/\¬F l
 Hl:=by simp_all
 eC:=by grind
 mono:=by simp_all
structure Sn (F:Nat->Prop) (h:Hp) (F':Nat->Prop) (h':Hp):Prop where
 next:h.next<=h'.next
 eC:∀l,F l->h'.get l=h.get l
 mono:∀l,F l->F' l
theorem Sn.refl(F:Nat->Prop)(h:Hp):Sn F h F h:=⟨je _,by simp_all,λ_ h=>h⟩
theorem Sn.trans{F F' c:Nat->Prop} {h h' d:Hp}(a:Sn F h F' h')(b:Sn F' h' c d):Sn F h c d:=
 ⟨DE a.next b.next,λl e=>(b.eC l (a.mono l e)).trans (a.eC l e),λl e=>b.mono l (a.mono l e)⟩
structure en (F:Nat->Prop) (h:Hp) (cs:List Pc):Prop where
 fl:∀l,F l->l<h.next
 ok:∀(i:Nat) c,cs[i]? =some c->c.ok F h
 AO:∀(i j:Nat) c d,cs[i]? =some c->cs[j]? =some d->i≠j->∀l,c.lG l->¬d.lG l
section
variable{F F':Nat->Prop}{h h':Hp}{cs:List Pc}{i j:Nat}{c d p:Pc}
theorem Em{cs:List Pc}{i:Nat}{p:Pc}{j:Nat}{d:Pc}(hd:(cs.set i p)[j]? =some d):(j=i/\d=p)\/(j≠i/\cs[j]? =some d):=by
 grind
theorem en.nil(a:∀l,F l->l<h.next):en F h []:=⟨a,by simp_all,by simp_all⟩
theorem en.cons(H:en F h cs)(e:p.ok F h)(f:∀(i:Nat) c,cs[i]? =some c->∀l,p.lG l->¬c.lG l):en F h (p::cs) where
 fl:=H.fl
 ok:=λi c hc=>by
  cases i with
  |zero=>simp_all
  |succ i=>exact H.ok i c hc
 AO:=λi j c d hc hd g l b a=>by
  cases i with
  | zero=>
    grind
  | succ i=>
    cases j with
    |zero=>grind
    |succ j=>exact H.AO i j c d hc hd (by omega) l b a
theorem en.tail(H:en F h (p::cs)):en F h cs where
 fl:=H.fl
 ok:=λi c hc=>H.ok (i+1) c hc
 AO:=λi j c d hc hd a=>H.AO (i+1) (j+1) c d hc hd (by omega)
theorem en.add(H:en F h cs)(a:p.ok F h)(b:∀l,¬p.lG l):en F h (p::cs):=H.cons a (by simp_all)
theorem en.swap(H:en F h cs)(hi:cs[i]? =some c)(r:p.ok F h)(n:∀l,p.lG l->c.lG l):en F h (cs.set i p) where
 fl:=H.fl
 ok:=λj d hd=>by
  rcases Em hd with⟨_,rfl⟩|⟨_,f⟩
  ·exact r
  ·exact H.ok j d f
 AO:=λj k a b s o g l m e=>by
  rcases Em s with⟨e1,rfl⟩|⟨e1,q⟩
  ·rcases Em o with⟨e2,_⟩|⟨_,f⟩
   ·omega
   ·subst e1;exact H.AO j k c b hi f g l (n l m) e
  ·rcases Em o with⟨e2,rfl⟩|⟨_,f⟩
   ·subst e2;exact H.AO j k a c q hi g l m (n l e)
   ·exact H.AO j k a b q f g l m e
theorem en.forget(H:en F h cs)(hi:cs[i]? =some c):en F h (cs.set i emp):=H.swap hi trivial λ_ h=>h.elim
theorem en.TS(H:en F h cs)(hi:cs[i]? =some c)(hc:ki c.lG h h')(r:∀l,F l->F' l)(n:∀l,F' l->F l\/c.lG l\/(h.next<=l/\l<h'.next))(z:p.ok F' h')(t:∀l,p.lG l->c.lG l\/h.next<=l):en F' h' (cs.set i p)/\Sn F h F' h':=by
 have o:=H.ok i c hi;have s:=λl e=>hc.eC l (H.fl l e) λu=>(c.Hl o l u).2 e;have other:∀j d,j≠i->cs[j]? =some d->d.ok F' h'/\∀l,d.lG l->¬p.lG l:=λj d v hd=>by
  have m:=H.ok j d hd;have q:=H.AO j i d c hd hi v;refine⟨d.mono (d.eC m s (λl e=>hc.eC l (d.Hl m l e).1 (q l e)) hc.next) r λl e f=>?_,λl e f=>?_⟩
  ·rcases n l f with g|g|g
   ·exact(d.Hl m l e).2 g
   ·simp_all
   ·have:=(d.Hl m l e).1;omega
  ·rcases t l f with g|g
   ·simp_all
   ·have:=(d.Hl m l e).1;omega
 refine⟨⟨λl e=>?_,λj d hd=>?_,λj k a b w x y l e f=>?_⟩,⟨hc.next,s,r⟩⟩
 ·rcases n l e with g|g|g
  ·exact yG (H.fl l g) hc.next
  ·exact yG (c.Hl o l g).1 hc.next
  omega
 ·grind
 ·rcases Em w with⟨e1,rfl⟩|⟨e1,m⟩
  ·grind
  ·rcases Em x with⟨e2,rfl⟩|⟨_,q⟩
   ·grind
   ·exact H.AO j k a b m q y l e f
theorem en.BE(H:en F h cs)(hi:cs[i]? =some c)(hc:ki c.lG h h')(a:p.ok F h')(b:∀l,p.lG l->c.lG l\/h.next<=l):en F h' (cs.set i p)/\Sn F h F h':=
 H.TS hi hc (by simp_all) (by simp_all) a b
theorem en.grow(H:en F h cs)(a:BA h h'):en F h' cs/\Sn F h F h':=by
 have c:=λl b=>a.eC l (H.fl l b) id;exact⟨⟨λl b=>yG (H.fl l b) a.next,λj d hd=>d.eC (H.ok j d hd) c (λl b=>a.eC l (d.Hl (H.ok j d hd) l b).1 id) a.next,H.AO⟩,⟨a.next,c,λ_ h=>h⟩⟩
theorem en.new(H:en F h cs)(o:O)(b:p.ok F (h.new o))(f:∀l,p.lG l->l=h.next):en F (h.new o) (p::cs)/\Sn F h F (h.new o):=by
 let⟨c,e⟩:=H.grow (ki.new h o)
 refine⟨c.cons b λj d hd l g a=>?_,e⟩;have:=(d.Hl (H.ok j d hd) l a).1
 grind
theorem en.fresh(H:en F h cs):¬F h.next:=λa=>TM _ (H.fl _ a)
theorem en.GZ(H:en F h cs)(ty:Nat)(vs:List V):en F (h.new (.cells ty 1 true false vs)) (eE h.next ty vs::cs)/\Sn F h F (h.new (.cells ty 1 true false vs)):=
 H.new _ ⟨ey _ _,JI _,H.fresh⟩ λ_ e=>e
theorem en.JX(H:en F h cs){α:Type}{E:sO α}(ty:Nat){xs:List α}{ws:List V}{n:Nat}(a:n=xs.length)(b:lR E F h ws xs)(c:fZ ws=true) :
  en F (h.new (.cells ty E.sz true false ws)) (ft E ty xs (.slice h.next 0 n)::cs)/\Sn F h F (h.new (.cells ty E.sz true false ws)):=by
 subst a;exact H.new _ (.inr ⟨h.next,ws,rfl,JI _,H.fresh,ey _ _,b.eC λl d=>eJ _ (H.fl l d),c⟩) λ_ e=>e.symm
theorem en.Pu(H:en F h cs){α:Type}{E:sO α}(ty:Nat){xs:List α}{ws:List V}{n:Nat}(e:n=xs.length)(f:lR E F h ws xs)(ro:Bool) :
  en (λl=>F l\/l=h.next) (h.new (.cells ty E.sz true ro ws)) cs/\Sn F h (λl=>F l\/l=h.next) (h.new (.cells ty E.sz true ro ws))/\iB E (λl=>F l\/l=h.next) (h.new (.cells ty E.sz true ro ws)) xs (.slice h.next 0 n):=by
 subst e
 let⟨b,c⟩:=H.grow (ki.new h (.cells ty E.sz true ro ws))
 refine⟨⟨λl a=>?_,λj d hd=>d.mono (b.ok j d hd) (by simp_all) λl a g=>?_,b.AO⟩,⟨c.next,c.eC,by simp_all⟩,?_⟩
 ·rcases a with a|rfl
  ·exact b.fl l a
  simp_all
 ·have i:=d.Hl (H.ok j d hd) l a
  simp_all
 ·exact .inr ⟨h.next,0,ty,true,ro,ws,rfl,.inr rfl,ey _ _,.inr rfl,EL _,by rw[OK];exact(f.eC λl a=>eJ _ (H.fl l a)).mono (by simp_all)⟩
theorem en.get(H:en F h cs)(i:Nat){l ty:Nat}{vs:List V}(hi:cs[i]? =some (eE l ty vs)):h.get l=some (.cells ty 1 true false vs):=(H.ok i _ hi).1
theorem en.ld(H:en F h cs)(i:Nat){l ty o:Nat}{vs:List V}{u:V}(hi:cs[i]? =some (eE l ty vs))(a:vs[o]? =some u):er (.ptr l o) h=some u:=jd (H.get i hi) a
theorem en.HY(H:en F h cs)(i:Nat){l ty n:Nat}{vs:List V}(hi:cs[i]? =some (eE l ty vs))(a:vs.length=n):hH n (.ptr l 0) h=some (.agg vs):=xK (H.get i hi) a
theorem en.st(H:en F h cs)(i:Nat){l ty o:Nat}{vs:List V}{u:V}(hi:cs[i]? =some (eE l ty vs))(b:o<vs.length)(c:u.one=true) :
  ∃h',gU 1 (.ptr l o) u h=some (.val .undef h')/\h.next<=h'.next/\en F h' (cs.set i (eE l ty (vs.set o u)))/\Sn F h F h':=by
 have a:=H.ok i _ hi;refine⟨_,GU a.1 b c,je _,H.BE hi (ki.put _ rfl a.2.1) ⟨fG _ a.2.1,a.2.1,a.2.2⟩ λ_ h=> .inl h⟩
theorem en.XG(H:en F h cs)(i:Nat){l ty o:Nat}{vs:List V}{u:V}(hi:cs[i]? =some (eE l ty vs))(b:o<vs.length)(c:u.one=true) :
  ∃h',gU 1 (.ptr l o) u h=some (.val .undef h')/\h.next<=h'.next/\en F h' (cs.set i (eE l ty (vs.set o u)))/\Sn F h F h'/\∀m,m≠l->h'.get m=h.get m:=by
 have a:=H.ok i _ hi
 let⟨d,e⟩:=H.BE (p:=eE l ty (vs.set o u)) hi (ki.put _ rfl a.2.1) ⟨fG _ a.2.1,a.2.1,a.2.2⟩ λ_ h=> .inl h
 exact⟨_,GU a.1 b c,je _,d,e,λm f=>fN _ a.2.1 (by omega)⟩
theorem en.Vo(H:en F h cs)(i:Nat){l ty n:Nat}{vs ws:List V}(hi:cs[i]? =some (eE l ty vs))(b:ws.length=n)(c:vs.length=n)(d:fZ ws=true) :
  ∃h',gU n (.ptr l 0) (.agg ws) h=some (.val .undef h')/\h.next<=h'.next/\en F h' (cs.set i (eE l ty ws))/\Sn F h F h':=by
 have a:=H.ok i _ hi;refine⟨_,AP a.1 b c d,je _,H.BE hi (ki.put _ rfl a.2.1) ⟨fG _ a.2.1,a.2.1,a.2.2⟩ λ_ h=> .inl h⟩
section
variable{α:Type}{E:sO α}{ty:Nat}{xs:List α}{v:V}
theorem en.row(H:en F h cs)(i:Nat)(hi:cs[i]? =some (ft E ty xs v)):jn E ty F h xs v:=H.ok i _ hi
theorem en.len(H:en F h cs)(i:Nat)(hi:cs[i]? =some (ft E ty xs v)):fJ v=some (.int .i64 xs.length):=(H.row i hi).len
theorem en.one(H:en F h cs)(i:Nat)(hi:cs[i]? =some (ft E ty xs v)):v.one=true:=(H.row i hi).one
theorem en.ix(H:en F h cs)(i:Nat)(hi:cs[i]? =some (ft E ty xs v)){k:Nat}(b:k<xs.length)(a:IntKind) :
  ∃l o w,gM E.sz v (.int a k)=some (.ptr l o)/\hH E.sz (.ptr l o) h=some (.agg w)/\E.rel (λl=>F l\/Loc v l) h xs[k] w/\∀j u,w[j]? =some u->er (.ptr l (o+j)) h=some u:=by
 let⟨l,o,w,_,c,d,e,f⟩:=(H.row i hi).read.ix b a
 grind
theorem en.OZ(H:en F h cs)(i:Nat)(hi:cs[i]? =some (ft E ty xs v)){k:Nat}(b:k<xs.length)(a:IntKind)(c:E.sz=1) :
  ∃l o u,gM 1 v (.int a k)=some (.ptr l o)/\er (.ptr l o) h=some u/\E.rel (λl=>F l\/Loc v l) h xs[k] [u]:=by
 let⟨l,o,u,_,d,e,f⟩:=(H.row i hi).read.OZ b a c
 grind
theorem en.zm(H:en F h cs)(i:Nat)(hi:cs[i]? =some (ft E ty xs v)){k:Nat}(f:k<xs.length)(a:E.sz=1){y:α}{u:V}(g:u.one=true)(j:E.rel F h y [u]) :
  ∃l o h',gM 1 v (.int .i64 k)=some (.ptr l o)/\gU 1 (.ptr l o) u h=some (.val .undef h')/\h.next<=h'.next/\en F h' (cs.set i (ft E ty (xs.set k y) v))/\Sn F h F h':=by
 let ⟨t,h',p,b,c,m,d⟩:=(H.row i hi).store (k:=0) (y:=y) f (by omega) g (λw n=>by
  have e:=E.len n;rw[a]at e
  match w,e with
  |[x],_=>exact j)
 rw[a]at b c;exact⟨t,k*1,h',b,c,d.next,H.BE hi d m λ_ h=> .inl h⟩
end
end
open Un
section
variable{F F':Nat->Prop}{h h':Hp}{cs:List Pc}{α:Type}{E:sO α}{ty:Nat}{xs ys:List α}{v x:V}
theorem lR.one:∀{xs:List α}{ws:List V},lR E F h ws xs->ws.length=xs.length*E.sz->fZ ws=true
 | [],ws,_,hl=>by
   simp_all
 | y::xs,ws,⟨w,r,b,a,c⟩,hl=>by
   subst b;have d:=E.len a;rw[mw,E.one a,lR.one c (by grind)];rfl
theorem lR.rep{y:α}{u:V}(a:E.rel F h y [u]):∀n,lR E F h (List.replicate n u) (List.replicate n y)
 |0=>trivial
 |n+1=>⟨[u],_,rfl,a,lR.rep a n⟩
theorem yy{u:V}(a:u.one=true):∀n,fZ (List.replicate n u)=true
 |0=>rfl
 |n+1=>by rw[List.replicate_succ,eR,a,yy a n];rfl
theorem yq{l off n Ox sz:Nat}{ro:Bool}{ds:List V}(b:h.get l=some (.cells Ox sz true ro ds))(a:off+n*sz<=ds.length):∃new,jX h sz (.slice l off n)=some (n,new)/\new=(ds.drop off).take (n*sz):=by
 cases n with
 |zero=>exact⟨_,rfl,by simp⟩
 | succ n=>
   refine⟨_,?_,rfl⟩;unfold jX Bp jT;have:=Cd a
   simp_all
theorem iB.xc(b:iB E F h ys x):∃new,jX h E.sz x=some (ys.length,new)/\lR E F h new ys/\new.length=ys.length*E.sz:=by
 rcases b with⟨rfl,rfl⟩|⟨l,off,Ox,live,ro,ds,rfl,f,c,d,g,a⟩
 ·exact⟨[],rfl,trivial,by simp⟩
 ·have e:=a.length;rw[List.length_drop]at e;rcases d with rfl|rfl
  ·exact⟨[],rfl,trivial,by simp⟩
  ·let⟨new,e1,e2⟩:=yq (n:=ys.length) (off:=off) c (by omega)
   exact⟨new,e1,by rw[e2];exact a.take,by simp_all⟩
theorem jn.xc(b:jn E ty F h ys x):∃new,jX h E.sz x=some (ys.length,new)/\lR E F h new ys/\new.length=ys.length*E.sz:=by
 rcases b with⟨rfl,rfl⟩|⟨t,ds,rfl,d,e,c,a,f⟩
 ·exact⟨[],rfl,trivial,by simp⟩
 ·have g:=a.length
  let⟨new,e1,e2⟩:=yq (n:=ys.length) (off:=0) c (by omega)
  refine⟨new,e1,by rw[e2,OK];exact a.take,by simp_all⟩
theorem Mq{e:Nat}{z w:V}(a:z.one=true)(b:w.one=true):jm e 1 1 z [(0,w)]=some (.cells e 1 true false [w],λl=> .slice l 0 1):=by
 unfold jm;simp only[wH,fg,AK a,AK b];rw[um _ (by rfl)];show oB (oB (some [w]) λcs=>some cs) _=_
 simp_all
theorem yf{e sz:Nat}{z:V}:jm e sz 0 z []=some (.cells e sz true false [],λl=> .slice l 0 0):=rfl
theorem en.app(H:en F h cs)(i:Nat)(hi:cs[i]? =some (ft E ty xs v)){lD:Nat}{new:List V}(e:jX h E.sz x=some (ys.length,new))(f:lR E F h new ys)(b:new.length=ys.length*E.sz)
  (j:0<E.sz) (k:lD<=1000) (c:xs.length+ys.length<=10000000) :
  ∃a h',fh ty E.sz lD v x h=some (.val a h')/\h.next<=h'.next/\en F h' (cs.set i (ft E ty (xs++ys) a))/\Sn F h F h':=by
 have d:=H.row i hi;by_cases hk:0<ys.length
 ·have m:=Nat.mul_le_mul c k
  let⟨a,h',e1,o1,g,n⟩:=d.append (lD:=lD) e f b (f.one b) hk j H.fl (by omega) (by omega)
  let⟨o,q⟩:=H.BE (p:=ft E ty (xs++ys) a) hi g o1 λl b=>(n l b).imp id (by omega)
  exact⟨a,h',e1,g.next,o,q⟩
 ·have e0:ys=[]:=by simp_all
  subst e0;refine⟨v,h,?_,je _,by rw[Hk];exact H.swap hi d λ_ h=>h,Sn.refl _ _⟩;unfold fh;rw[e];rcases d with⟨rfl,_⟩|⟨t,ds,rfl,_⟩ <;> rfl
theorem en.Ll(H:en F h cs)(i:Nat)(hi:cs[i]? =some (ft E ty xs v)){lD:Nat}(c:iB E F h ys x)(d:0<E.sz)(e:lD<=1000)(a:xs.length+ys.length<=10000000) :
  ∃b h',fh ty E.sz lD v x h=some (.val b h')/\h.next<=h'.next/\en F h' (cs.set i (ft E ty (xs++ys) b))/\Sn F h F h':=by
 let⟨new,e1,e2,f⟩:=c.xc
 exact H.app i hi e1 e2 f d e a
theorem en.Re(H:en F h cs)(i j:Nat)(hi:cs[i]? =some (ft E ty xs v)){c:Nat}(d:cs[j]? =some (ft E c ys x)){lD:Nat}(e:0<E.sz)(f:lD<=1000)(a:xs.length+ys.length<=10000000) :
  ∃b h',fh ty E.sz lD v x h=some (.val b h')/\h.next<=h'.next/\en F h' (cs.set i (ft E ty (xs++ys) b))/\Sn F h F h':=by
 let⟨new,e1,e2,g⟩:=(H.row j d).xc
 exact H.app i hi e1 e2 g e f a
theorem en.En(H:en F h cs)(i:Nat)(hi:cs[i]? =some (ft E ty xs v)){lD Ox:Nat}{y:α}{w:List V}{ro:Bool}(b:E.rel F h y w)(c:0<E.sz)(d:lD<=1000)(e:xs.length<1000000) :
  ∃a h',fh ty E.sz lD v (.slice h.next 0 1) (h.new (.cells Ox E.sz true ro w))=some (.val a h')/\h.next+1<=h'.next/\en F h' (cs.set i (ft E ty (xs++[y]) a))/\Sn F h F h':=by
 let⟨f,s1⟩:=H.grow (ki.new h (.cells Ox E.sz true ro w))
 have g:jX (h.new (.cells Ox E.sz true ro w)) E.sz (.slice h.next 0 1)=some (1,w):=mc (by rw[E.len b];simp)
 let⟨a,h',e1,e2,j,k⟩:=f.app (ys:=[y]) i hi g ⟨w,[],by simp,E.eC (λl m=>eJ _ (H.fl l m)) b,trivial⟩ (by rw[E.len b];simp) c d (by simp;omega)
 exact⟨a,h',e1,e2,j,s1.trans k⟩
theorem en.TN(H:en F h cs)(i:Nat)(hi:cs[i]? =some (ft E ty xs v)){n:Nat}(b:n<=xs.length) :
  ∃a,iF E.sz v none (some (.int .i64 n)) h=some a/\en F h (cs.set i (ft E ty (xs.take n) a)):=by
 let⟨a,c,d,e⟩:=(H.row i hi).cut b
 exact⟨a,c,H.swap hi d e⟩
theorem en.mO(H:en F h cs)(i:Nat)(hi:cs[i]? =some (ft E ty xs v)):en (λl=>F l\/Loc v l) h (cs.set i emp)/\Sn F h (λl=>F l\/Loc v l) h/\iB E (λl=>F l\/Loc v l) h xs v:=by
 let⟨a,b⟩:=H.TS (p:=emp) (F':=λl=>F l\/Loc v l) hi (ki.refl _ _) (by simp_all) (λ_ h=>h.imp id .inl) trivial λ_ h=>h.elim
 exact⟨a,b,(H.row i hi).read⟩
theorem en.make(H:en F h cs){y:α}{u:V}(n:Nat)(a:E.rel F h y [u])(c:E.sz=1):en F (h.new (.cells ty 1 true false (List.replicate n u))) (ft E ty (List.replicate n y) (.slice h.next 0 n)::cs)/\Sn F h F (h.new (.cells ty 1 true false (List.replicate n u))):=by
 have b:=E.one a;rw[eR,te]at b;have:=H.JX ty (n:=n) (by simp) (lR.rep a n) (yy b.1 n)
 simp_all
theorem jY{e lD n:Nat}{z:V}(c:z.one=true)(a:lD<=100)(b:n<=1000000) :
  gS e 1 lD z (.int .i64 (n:Int)) (.int .i64 (n:Int))=some (O.cells e 1 true false (List.replicate n z),λl=>V.slice l 0 n):=by
 have:=Nat.mul_le_mul b a
 grind[HA,AK,O0]
theorem mm{l o:Nat}{u:V}(a:er (.ptr l o) h=some u)(b:h'.get l=h.get l):er (.ptr l o) h' = some u:=by
 grind[er,UP,jT,uU]
theorem DI{l o n:Nat}{u:V}(a:hH n (.ptr l o) h=some u)(b:h'.get l=h.get l):hH n (.ptr l o) h' = some u:=by
 grind[hH,Bp,jT,uU]
end
open Un
def up{ι α:Type}[DecidableEq ι] (f:ι->Option α)(i:ι)(x:Option α):ι->Option α:=λj=>if j=i then x else f j
@[simp] theorem Wx {ι α:Type} [DecidableEq ι] (f:ι->Option α) (i:ι) (x:Option α):up f i x i=x:=if_pos rfl
section
variable{F:Nat->Prop}{h:Hp}{cs:List Pc}{p q:Pc}
theorem en.sw(H:en F h (p::q::cs)):en F h (q::p::cs) where
 fl:=H.fl
 ok:=λi c hc=>by
  match i,hc with
  |0,hc=>exact H.ok 1 c hc
  |1,hc=>exact H.ok 0 c hc
  |i+2,hc=>exact H.ok (i+2) c hc
 AO:=λi j c d hc hd a=>by
  match i,j,hc,hd with
  |0,0,_,_=>omega
  |0,1,hc,hd=>exact H.AO 1 0 c d hc hd (by omega)
  |0,j+2,hc,hd=>exact H.AO 1 (j+2) c d hc hd (by omega)
  |1,0,hc,hd=>exact H.AO 0 1 c d hc hd (by omega)
  |1,1,_,_=>omega
  |1,j+2,hc,hd=>exact H.AO 0 (j+2) c d hc hd (by omega)
  |i+2,0,hc,hd=>exact H.AO (i+2) 1 c d hc hd (by omega)
  |i+2,1,hc,hd=>exact H.AO (i+2) 0 c d hc hd (by omega)
  |i+2,j+2,hc,hd=>exact H.AO (i+2) (j+2) c d hc hd a
theorem en.uf(H:en F h (p::q::cs)):en F h (p::cs):=H.sw.tail
end
section
variable{F F':Nat->Prop}{h h':Hp}{cs:List Pc}{ι:Type}{ty:Nat}{f:ι->Option (List Nat×V)}{xs:List Nat}{v:V}
end
open Un
structure Rw where
 vv:V
 vb:V
 vs:V
 vk:V
 vc:V
 vp:V
 cc:V
def comp(lu gK iK:Nat)(R:Rw):Nat->Nat->Prop
 |0,l=>l=lu
 |1,l=>l=gK
 |2,l=>l=iK
 |3,l=>Loc R.vv l
 |4,l=>Loc R.vb l
 |5,l=>Loc R.vs l
 |6,l=>Loc R.vk l
 |7,l=>Loc R.vc l
 |_,_=>False
def sig:Nat->Nat×Nat
 |0=>(qy,1)
 |1=>(iT,1)
 |2=>(nN,1)
 |3=>(tj,6)
 |4=>(nN,6)
 |5=>(FG,1)
 |_=>(fI,1)
structure Dw (F G:Nat->Prop) (h:Hp) (lu gK iK:Nat) (t:Dt) (R:Rw):Prop where
 fl:∀l,F l->l<h.next
 gu:h.get lu=some (.cells qy 1 true false [.int .i64 1,.int .i64 2,R.vv,R.vb,R.vs])
 gk:h.get gK=some (.cells iT 1 true false [R.vk])
 gb:h.get iK=some (.cells nN 1 true false [R.cc,.int .i64 0,.int .i64 0,.ed,R.vp,.int .i64 0])
 nu:lu<h.next/\¬F lu
 nk:gK<h.next/\¬F gK
 nb:iK<h.next/\¬F iK
 ov:jn eV tj F h t.s.ee R.vv
 ob:jn eK nN F h t.blocks R.vb
 os:jn eT FG F h t.s.ef R.vs
 ok:jn eN fI F h t.s.known R.vk
 oc:jn eN fI F h t.s.cur R.vc
 sp:iB eN F h t.fk R.vp
 kc:∀l,Loc R.vk l->¬Loc R.vc l
 gx:∀l,G l->l<h.next/\¬F l/\∀i,¬comp lu gK iK R i l
structure Kp (F G:Nat->Prop) (h h':Hp):Prop where
 next:h.next<=h'.next
 eC:∀l,F l\/G l->h'.get l=h.get l
theorem Kp.refl(F G:Nat->Prop)(h:Hp):Kp F G h h:=⟨je _,by simp_all⟩
theorem Kp.trans{F F' G:Nat->Prop} {h h' c:Hp}(a:Kp F G h h')(b:Kp F' G h' c)(e:∀l,F l->F' l):Kp F G h c:=
 ⟨DE a.next b.next,λl d=>by rw[b.eC l (by grind),a.eC l d]⟩
section
variable{F G:Nat->Prop}{h h':Hp}{lu gK iK:Nat}{t:Dt}{R:Rw}
theorem Dw.sig(D:Dw F G h lu gK iK t R){l:Nat}:∀{i:Nat},comp lu gK iK R i l->Sf h l=some (Hx.sig i)/\l<h.next/\¬F l
 |0,hl=>by have e:=hl;subst e;exact⟨CZ D.gu,D.nu⟩
 |1,hl=>by have e:=hl;subst e;exact⟨CZ D.gk,D.nk⟩
 |2,hl=>by have e:=hl;subst e;exact⟨CZ D.gb,D.nb⟩
 |3,hl=>D.ov.sm hl
 |4,hl=>D.ob.sm hl
 |5,hl=>D.os.sm hl
 |6,hl=>D.ok.sm hl
 |7,hl=>D.oc.sm hl
 |_+8,hl=>hl.elim
theorem Dw.AO(D:Dw F G h lu gK iK t R){l i j:Nat}(hi:comp lu gK iK R i l)(a:comp lu gK iK R j l):Hx.sig i=Hx.sig j:=by
 have b:=(D.sig hi).1
 grind[sig]
theorem Dw.yo(D:Dw F G h lu gK iK t R){l i j:Nat}(hi:comp lu gK iK R i l)(a:comp lu gK iK R j l)(c:i<8)(d:j<8):i=j:=by
 have e:=D.AO hi a;have b:∀i,i<8->∀j,j<8->Hx.sig i=Hx.sig j->i=j\/(i=6/\j=7)\/(i=7/\j=6):=by decide
 rcases b i c j d e with f|⟨rfl,rfl⟩|⟨rfl,rfl⟩
 ·exact f
 ·exact absurd a (D.kc l hi)
 ·exact absurd hi (D.kc l a)
theorem Dw.kept(D:Dw F G h lu gK iK t R){i j:Nat}(hi:i<8)(e:j<8)(hc:ki (λl=>comp lu gK iK R i l\/comp lu gK iK R j l) h h') :
  (∀l,F l->h'.get l=h.get l)/\(∀l,G l->h'.get l=h.get l)/\∀k l,k<8->k≠i->k≠j->comp lu gK iK R k l->h'.get l=h.get l:=by
 refine⟨λl a=>hc.eC l (D.fl l a) ?_,λl a=>hc.eC l (D.gx l a).1 ?_,λk l d b f a=>hc.eC l (D.sig a).2.1 ?_⟩
 ·rintro(b|b)
  ·exact(D.sig b).2.2 a
  ·exact(D.sig b).2.2 a
 ·rintro(b|b)
  ·exact(D.gx l a).2.2 _ b
  ·exact(D.gx l a).2.2 _ b
 ·rintro(c|c)
  ·exact b (D.yo a c d hi)
  ·exact f (D.yo a c d e)
theorem Dw.other(D:Dw F G h lu gK iK t R){S:Nat->Prop}(b:ki S h h')(d:∀l,S l->¬F l/\¬G l/\∀i,¬comp lu gK iK R i l):Dw F G h' lu gK iK t R/\Kp F G h h':=by
 have c:=λl a=>b.eC l (D.fl l a) (by grind);have e:=λl a=>b.eC l (D.gx l a).1 (by grind);have k:∀i l,comp lu gK iK R i l->h'.get l=h.get l:=λi l a=>b.eC l (D.sig a).2.1 (by grind);have lt:∀l,l<h.next->l<h'.next:=λl a=>yG a b.next
 exact ⟨{
  fl:=λl a=>lt l (D.fl l a)
  gu:=by rw[k 0 _ rfl];exact D.gu
  gk:=by rw[k 1 _ rfl];exact D.gk
  gb:=by rw[k 2 _ rfl];exact D.gb
  nu:=⟨lt _ D.nu.1,D.nu.2⟩
  nk:=⟨lt _ D.nk.1,D.nk.2⟩
  nb:=⟨lt _ D.nb.1,D.nb.2⟩
  ov:=D.ov.eC c (λl a=>k 3 l a) b.next
  ob:=D.ob.eC c (λl a=>k 4 l a) b.next
  os:=D.os.eC c (λl a=>k 5 l a) b.next
  ok:=D.ok.eC c (λl a=>k 6 l a) b.next
  oc:=D.oc.eC c (λl a=>k 7 l a) b.next
  sp:=D.sp.eC c
  kc:=D.kc
  gx:=λl a=>⟨lt l (D.gx l a).1,(D.gx l a).2⟩ },⟨b.next,by grind⟩⟩
theorem Dw.grow(D:Dw F G h lu gK iK t R)(a:BA h h'):Dw F G h' lu gK iK t R:=(D.other a (by simp_all)).1
theorem Dw.more(D:Dw F G h lu gK iK t R) {F':Nat->Prop}(c:∀l,F l->F' l)(d:∀l,F' l->F l\/(l<h.next/\(∀i,¬comp lu gK iK R i l)/\¬G l)):Dw F' G h lu gK iK t R:=by
 have b:∀i l,comp lu gK iK R i l->¬F' l:=λi l a e=>by
  rcases d l e with f|⟨_,f,_⟩
  ·exact(D.sig a).2.2 f
  simp_all
 exact {
  fl:=λl a=>(d l a).elim (D.fl l) λh=>h.1
  gu:=D.gu
  gk:=D.gk
  gb:=D.gb
  nu:=⟨D.nu.1,b 0 _ rfl⟩
  nk:=⟨D.nk.1,b 1 _ rfl⟩
  nb:=⟨D.nb.1,b 2 _ rfl⟩
  ov:=D.ov.mono c λl a=>b 3 l a
  ob:=D.ob.mono c λl a=>b 4 l a
  os:=D.os.mono c λl a=>b 5 l a
  ok:=D.ok.mono c λl a=>b 6 l a
  oc:=D.oc.mono c λl a=>b 7 l a
  sp:=D.sp.mono c
  kc:=D.kc
  gx:=λl a=>⟨(D.gx l a).1,λe=>(d l e).elim (D.gx l a).2.1 (by simp_all),(D.gx l a).2.2⟩ }
def fz(F:Nat->Prop)(n:Nat):Nat->Prop:=λl=>F l\/l=n
theorem mK(F:Nat->Prop)(n:Nat):∀l,F l->fz F n l:=λ_ h=> .inl h
theorem Dw.new(D:Dw F G h lu gK iK t R)(o:O):Dw (fz F h.next) G (h.new o) lu gK iK t R:=
 (D.grow (ki.new h o)).more (mK _ _) λl a=>a.imp id λe=>by
  subst e;refine⟨JI _,λi hi=>TM _ (D.sig hi).2.1,λb=>TM _ (D.gx _ b).1⟩
theorem Kp.new(F G:Nat->Prop)(h:Hp)(o:O)(a:∀l,F l->l<h.next)(b:∀l,G l->l<h.next):Kp F G h (h.new o):=
 ⟨JM _,by grind[eJ]⟩
theorem Dw.uv(D:Dw F G h lu gK iK t R)(o:O):Kp F G h (h.new o):=Kp.new F G h o D.fl λl a=>(D.gx l a).1
theorem lK{l o e sz:Nat} {cs lU:List V}{v:V}(a:h.get l=some (.cells e sz true false cs))(b:o<cs.length)(c:v.one=true)(d:cs.set o v=lU):gU 1 (.ptr l o) v h=some (.val .undef (h.put l (.cells e sz true false lU))):=by
 grind[GU]
private theorem OT {a:Nat->Prop} {l:Nat} {S:Nat->Prop} {b:Hp} {o:O} (hc:ki a h b) (e:∀l,a l->S l) (c:l<h.next) (d:S l):ki S h (b.put l o):=
 (hc.Q8 (by simp_all)).trans (ki.put o d (yG c hc.next))
theorem Dw.WZ(D:Dw F G h lu gK iK t R){ys:List Vl}{new:List V}{xv:V}(q:jX h 6 xv=some (ys.length,new))(r:lR eV F h new ys)(a:new.length=ys.length*6) (m:fZ new=true)(u:0<ys.length)(hlen:t.s.ee.length+ys.length<1000000) :
  ∃b d f,fh tj 6 64 R.vv xv h=some (.val b d)/\h.next<=d.next/\gU 1 (.ptr lu 2) b d=some (.val .undef f)/\d.next<=f.next/\Kp F G h f/\
   Dw F G f lu gK iK {t with s:={t.s with ee:=t.s.ee++ys} } {R with vv:=b}:=by
 let⟨b,d,e1,o1,k,p⟩:=D.ov.append (lD:=64) q r a m u (by decide) D.fl (by omega) (by omega)
 have n:d.get lu=some (.cells qy 1 true false [.int .i64 1,.int .i64 2,R.vv,R.vb,R.vs]):=by
  rw[k.eC lu D.nu.1 λa=>nomatch D.yo (i:=0) (j:=3) rfl a (by decide) (by decide)];exact D.gu
 have g:=yG D.nu.1 k.next;have e2:=lK (o:=2) (lU:=[.int .i64 1,.int .i64 2,b,R.vb,R.vs]) n (by simp) o1.one rfl;have hc:ki (λl=>comp lu gK iK R 0 l\/comp lu gK iK R 3 l) h (d.put lu (.cells qy 1 true false [.int .i64 1,.int .i64 2,b,R.vb,R.vs])):=OT k (λ_ h=> .inr h) D.nu.1 (.inl rfl)
 let⟨kF,kG,kC⟩:=D.kept (by decide) (by decide) hc
 have c:∀l,l<h.next->l<(d.put lu (.cells qy 1 true false [.int .i64 1,.int .i64 2,b,R.vb,R.vs])).next:=λl a=>yG a hc.next;have w:∀l,Loc b l->l≠lu:=λl a e=>by
  subst e;rcases p _ a with f|f
  ·exact absurd (D.yo (i:=0) (j:=3) rfl f (by decide) (by decide)) (by decide)
  ·exact absurd f (K3 D.nu.1)
 have v:jn eV tj F (d.put lu (.cells qy 1 true false [.int .i64 1,.int .i64 2,b,R.vb,R.vs])) (t.s.ee++ys) b:=
  o1.eC (λl a=>fN _ g λe=>D.nu.2 (e▸a)) (by grind[fN]) (je _)
 refine⟨b,d,_,e1,k.next,e2,je _,⟨hc.next,by grind⟩,?_⟩
 exact {
  fl:=λl a=>c l (D.fl l a)
  gu:=fG _ g
  gk:=by rw[kC 1 gK (by decide) (by decide) (by decide) rfl];exact D.gk
  gb:=by rw[kC 2 iK (by decide) (by decide) (by decide) rfl];exact D.gb
  ov:=v
  ob:=D.ob.eC kF (λl a=>kC 4 l (by decide) (by decide) (by decide) a) hc.next
  os:=D.os.eC kF (λl a=>kC 5 l (by decide) (by decide) (by decide) a) hc.next
  ok:=D.ok.eC kF (λl a=>kC 6 l (by decide) (by decide) (by decide) a) hc.next
  oc:=D.oc.eC kF (λl a=>kC 7 l (by decide) (by decide) (by decide) a) hc.next
  nu:=⟨c _ D.nu.1,D.nu.2⟩
  nk:=⟨c _ D.nk.1,D.nk.2⟩
  nb:=⟨c _ D.nb.1,D.nb.2⟩
  sp:=D.sp.eC kF
  kc:=D.kc
  gx:=λl a=>⟨c l (D.gx l a).1,(D.gx l a).2.1,λi hi=>by
   match i,hi with
   |0,hi=>exact(D.gx l a).2.2 0 hi
   |1,hi=>exact(D.gx l a).2.2 1 hi
   |2,hi=>exact(D.gx l a).2.2 2 hi
   |3,hi=>exact(p l hi).elim ((D.gx l a).2.2 3) λe=>absurd e (K3 (D.gx l a).1)
   |4,hi=>exact(D.gx l a).2.2 4 hi
   |5,hi=>exact(D.gx l a).2.2 5 hi
   |6,hi=>exact(D.gx l a).2.2 6 hi
   |7,hi=>exact(D.gx l a).2.2 7 hi⟩ }
theorem Dw.W5(D:Dw F G h lu gK iK t R){ys:List Bk}{new:List V}{xv:V}(q:jX h 6 xv=some (ys.length,new))(r:lR eK F h new ys)(a:new.length=ys.length*6) (m:fZ new=true)(s:0<ys.length)(hlen:t.blocks.length+ys.length<1000000) :
  ∃b d f,fh nN 6 96 R.vb xv h=some (.val b d)/\h.next<=d.next/\gU 1 (.ptr lu 3) b d=some (.val .undef f)/\d.next<=f.next/\Kp F G h f/\
   Dw F G f lu gK iK {t with blocks:=t.blocks++ys} {R with vb:=b}:=by
 let⟨b,d,e1,o1,k,p⟩:=D.ob.append (lD:=96) q r a m s (by decide) D.fl (by omega) (by omega)
 have n:d.get lu=some (.cells qy 1 true false [.int .i64 1,.int .i64 2,R.vv,R.vb,R.vs]):=by
  rw[k.eC lu D.nu.1 λa=>nomatch D.yo (i:=0) (j:=4) rfl a (by decide) (by decide)];exact D.gu
 have g:=yG D.nu.1 k.next;have e2:=lK (o:=3) (lU:=[.int .i64 1,.int .i64 2,R.vv,b,R.vs]) n (by simp) o1.one rfl;have hc:ki (λl=>comp lu gK iK R 0 l\/comp lu gK iK R 4 l) h (d.put lu (.cells qy 1 true false [.int .i64 1,.int .i64 2,R.vv,b,R.vs])):=OT k (λ_ h=> .inr h) D.nu.1 (.inl rfl)
 let⟨kF,kG,kC⟩:=D.kept (by decide) (by decide) hc
 have c:∀l,l<h.next->l<(d.put lu (.cells qy 1 true false [.int .i64 1,.int .i64 2,R.vv,b,R.vs])).next:=λl a=>yG a hc.next;have v:∀l,Loc b l->l≠lu:=λl a e=>by
  subst e;rcases p _ a with f|f
  ·exact absurd (D.yo (i:=0) (j:=4) rfl f (by decide) (by decide)) (by decide)
  ·exact absurd f (K3 D.nu.1)
 have u:jn eK nN F (d.put lu (.cells qy 1 true false [.int .i64 1,.int .i64 2,R.vv,b,R.vs])) (t.blocks++ys) b:=
  o1.eC (λl a=>fN _ g λe=>D.nu.2 (e▸a)) (by grind[fN]) (je _)
 refine⟨b,d,_,e1,k.next,e2,je _,⟨hc.next,by grind⟩,?_⟩
 exact {
  fl:=λl a=>c l (D.fl l a)
  gu:=fG _ g
  gk:=by rw[kC 1 gK (by decide) (by decide) (by decide) rfl];exact D.gk
  gb:=by rw[kC 2 iK (by decide) (by decide) (by decide) rfl];exact D.gb
  ov:=D.ov.eC kF (λl a=>kC 3 l (by decide) (by decide) (by decide) a) hc.next
  ob:=u
  os:=D.os.eC kF (λl a=>kC 5 l (by decide) (by decide) (by decide) a) hc.next
  ok:=D.ok.eC kF (λl a=>kC 6 l (by decide) (by decide) (by decide) a) hc.next
  oc:=D.oc.eC kF (λl a=>kC 7 l (by decide) (by decide) (by decide) a) hc.next
  nu:=⟨c _ D.nu.1,D.nu.2⟩
  nk:=⟨c _ D.nk.1,D.nk.2⟩
  nb:=⟨c _ D.nb.1,D.nb.2⟩
  sp:=D.sp.eC kF
  kc:=D.kc
  gx:=λl a=>⟨c l (D.gx l a).1,(D.gx l a).2.1,λi hi=>by
   match i,hi with
   |0,hi=>exact(D.gx l a).2.2 0 hi
   |1,hi=>exact(D.gx l a).2.2 1 hi
   |2,hi=>exact(D.gx l a).2.2 2 hi
   |3,hi=>exact(D.gx l a).2.2 3 hi
   |4,hi=>exact(p l hi).elim ((D.gx l a).2.2 4) λe=>absurd e (K3 (D.gx l a).1)
   |5,hi=>exact(D.gx l a).2.2 5 hi
   |6,hi=>exact(D.gx l a).2.2 6 hi
   |7,hi=>exact(D.gx l a).2.2 7 hi⟩ }
theorem Dw.WW(D:Dw F G h lu gK iK t R){ys:List (List Fm)}{new:List V}{xv:V}(q:jX h 1 xv=some (ys.length,new))(r:lR eT F h new ys)(a:new.length=ys.length*1) (m:fZ new=true)(u:0<ys.length)(hlen:t.s.ef.length+ys.length<1000000) :
  ∃b d f,fh FG 1 24 R.vs xv h=some (.val b d)/\h.next<=d.next/\gU 1 (.ptr lu 4) b d=some (.val .undef f)/\d.next<=f.next/\Kp F G h f/\
   Dw F G f lu gK iK {t with s:={t.s with ef:=t.s.ef++ys} } {R with vs:=b}:=by
 let⟨b,d,e1,o1,k,p⟩:=D.os.append (lD:=24) q r a m u (by decide) D.fl (by omega) (by omega)
 have n:d.get lu=some (.cells qy 1 true false [.int .i64 1,.int .i64 2,R.vv,R.vb,R.vs]):=by
  rw[k.eC lu D.nu.1 λa=>nomatch D.yo (i:=0) (j:=5) rfl a (by decide) (by decide)];exact D.gu
 have g:=yG D.nu.1 k.next;have e2:=lK (o:=4) (lU:=[.int .i64 1,.int .i64 2,R.vv,R.vb,b]) n (by simp) o1.one rfl;have hc:ki (λl=>comp lu gK iK R 0 l\/comp lu gK iK R 5 l) h (d.put lu (.cells qy 1 true false [.int .i64 1,.int .i64 2,R.vv,R.vb,b])):=OT k (λ_ h=> .inr h) D.nu.1 (.inl rfl)
 let⟨kF,kG,kC⟩:=D.kept (by decide) (by decide) hc
 have c:∀l,l<h.next->l<(d.put lu (.cells qy 1 true false [.int .i64 1,.int .i64 2,R.vv,R.vb,b])).next:=λl a=>yG a hc.next;have w:∀l,Loc b l->l≠lu:=λl a e=>by
  subst e;rcases p _ a with f|f
  ·exact absurd (D.yo (i:=0) (j:=5) rfl f (by decide) (by decide)) (by decide)
  ·exact absurd f (K3 D.nu.1)
 have v:jn eT FG F (d.put lu (.cells qy 1 true false [.int .i64 1,.int .i64 2,R.vv,R.vb,b])) (t.s.ef++ys) b:=
  o1.eC (λl a=>fN _ g λe=>D.nu.2 (e▸a)) (by grind[fN]) (je _)
 refine⟨b,d,_,e1,k.next,e2,je _,⟨hc.next,by grind⟩,?_⟩
 exact {
  fl:=λl a=>c l (D.fl l a)
  gu:=fG _ g
  gk:=by rw[kC 1 gK (by decide) (by decide) (by decide) rfl];exact D.gk
  gb:=by rw[kC 2 iK (by decide) (by decide) (by decide) rfl];exact D.gb
  ov:=D.ov.eC kF (λl a=>kC 3 l (by decide) (by decide) (by decide) a) hc.next
  ob:=D.ob.eC kF (λl a=>kC 4 l (by decide) (by decide) (by decide) a) hc.next
  os:=v
  ok:=D.ok.eC kF (λl a=>kC 6 l (by decide) (by decide) (by decide) a) hc.next
  oc:=D.oc.eC kF (λl a=>kC 7 l (by decide) (by decide) (by decide) a) hc.next
  nu:=⟨c _ D.nu.1,D.nu.2⟩
  nk:=⟨c _ D.nk.1,D.nk.2⟩
  nb:=⟨c _ D.nb.1,D.nb.2⟩
  sp:=D.sp.eC kF
  kc:=D.kc
  gx:=λl a=>⟨c l (D.gx l a).1,(D.gx l a).2.1,λi hi=>by
   match i,hi with
   |0,hi=>exact(D.gx l a).2.2 0 hi
   |1,hi=>exact(D.gx l a).2.2 1 hi
   |2,hi=>exact(D.gx l a).2.2 2 hi
   |3,hi=>exact(D.gx l a).2.2 3 hi
   |4,hi=>exact(D.gx l a).2.2 4 hi
   |5,hi=>exact(p l hi).elim ((D.gx l a).2.2 5) λe=>absurd e (K3 (D.gx l a).1)
   |6,hi=>exact(D.gx l a).2.2 6 hi
   |7,hi=>exact(D.gx l a).2.2 7 hi⟩ }
theorem Dw.Tt(D:Dw F G h lu gK iK t R){ys:List Nat}{new:List V}{xv:V}(q:jX h 1 xv=some (ys.length,new))(r:lR eN F h new ys)(a:new.length=ys.length*1) (m:fZ new=true)(u:0<ys.length)(hlen:t.s.known.length+ys.length<1000000) :
  ∃b d f,fh fI 1 8 R.vk xv h=some (.val b d)/\h.next<=d.next/\gU 1 (.ptr gK 0) b d=some (.val .undef f)/\d.next<=f.next/\Kp F G h f/\
   Dw F G f lu gK iK {t with s:={t.s with known:=t.s.known++ys} } {R with vk:=b}:=by
 let⟨b,d,e1,o1,k,n⟩:=D.ok.append (lD:=8) q r a m u (by decide) D.fl (by omega) (by omega)
 have p:d.get gK=some (.cells iT 1 true false [R.vk]):=by
  rw[k.eC gK D.nk.1 λa=>nomatch D.yo (i:=1) (j:=6) rfl a (by decide) (by decide)];exact D.gk
 have g:=yG D.nk.1 k.next;have e2:=lK (o:=0) (lU:=[b]) p (by simp) o1.one rfl;have hc:ki (λl=>comp lu gK iK R 1 l\/comp lu gK iK R 6 l) h (d.put gK (.cells iT 1 true false [b])):=OT k (λ_ h=> .inr h) D.nk.1 (.inl rfl)
 let⟨kF,kG,kC⟩:=D.kept (by decide) (by decide) hc
 have c:∀l,l<h.next->l<(d.put gK (.cells iT 1 true false [b])).next:=λl a=>yG a hc.next;have w:∀l,Loc b l->l≠gK:=λl a e=>by
  subst e;rcases n _ a with f|f
  ·exact absurd (D.yo (i:=1) (j:=6) rfl f (by decide) (by decide)) (by decide)
  ·exact absurd f (K3 D.nk.1)
 have v:jn eN fI F (d.put gK (.cells iT 1 true false [b])) (t.s.known++ys) b:=
  o1.eC (λl a=>fN _ g λe=>D.nk.2 (e▸a)) (by grind[fN]) (je _)
 refine⟨b,d,_,e1,k.next,e2,je _,⟨hc.next,by grind⟩,?_⟩
 exact {
  fl:=λl a=>c l (D.fl l a)
  gu:=by rw[kC 0 lu (by decide) (by decide) (by decide) rfl];exact D.gu
  gk:=fG _ g
  gb:=by rw[kC 2 iK (by decide) (by decide) (by decide) rfl];exact D.gb
  ov:=D.ov.eC kF (λl a=>kC 3 l (by decide) (by decide) (by decide) a) hc.next
  ob:=D.ob.eC kF (λl a=>kC 4 l (by decide) (by decide) (by decide) a) hc.next
  os:=D.os.eC kF (λl a=>kC 5 l (by decide) (by decide) (by decide) a) hc.next
  ok:=v
  oc:=D.oc.eC kF (λl a=>kC 7 l (by decide) (by decide) (by decide) a) hc.next
  nu:=⟨c _ D.nu.1,D.nu.2⟩
  nk:=⟨c _ D.nk.1,D.nk.2⟩
  nb:=⟨c _ D.nb.1,D.nb.2⟩
  sp:=D.sp.eC kF
  kc:=λl a hc=>(n l a).elim (λf=>D.kc l f hc) λe=>absurd e (K3 (D.oc.sm hc).2.1)
  gx:=λl a=>⟨c l (D.gx l a).1,(D.gx l a).2.1,λi hi=>by
   match i,hi with
   |0,hi=>exact(D.gx l a).2.2 0 hi
   |1,hi=>exact(D.gx l a).2.2 1 hi
   |2,hi=>exact(D.gx l a).2.2 2 hi
   |3,hi=>exact(D.gx l a).2.2 3 hi
   |4,hi=>exact(D.gx l a).2.2 4 hi
   |5,hi=>exact(D.gx l a).2.2 5 hi
   |6,hi=>exact(n l hi).elim ((D.gx l a).2.2 6) λe=>absurd e (K3 (D.gx l a).1)
   |7,hi=>exact(D.gx l a).2.2 7 hi⟩ }
theorem Dw.Xi(D:Dw F G h lu gK iK t R){ys:List Nat}{new:List V}{xv:V}(q:jX h 1 xv=some (ys.length,new))(r:lR eN F h new ys)(a:new.length=ys.length*1) (m:fZ new=true)(u:0<ys.length)(hlen:t.s.cur.length+ys.length<1000000) :
  ∃b d f,fh fI 1 8 R.vc xv h=some (.val b d)/\h.next<=d.next/\gU 1 (.ptr iK 0) b d=some (.val .undef f)/\d.next<=f.next/\Kp F G h f/\
   Dw F G f lu gK iK {t with s:={t.s with cur:=t.s.cur++ys} } {R with vc:=b,cc:=b}:=by
 let⟨b,d,e1,o1,k,n⟩:=D.oc.append (lD:=8) q r a m u (by decide) D.fl (by omega) (by omega)
 have p:d.get iK=some (.cells nN 1 true false [R.cc,.int .i64 0,.int .i64 0,.ed,R.vp,.int .i64 0]):=by
  rw[k.eC iK D.nb.1 λa=>nomatch D.yo (i:=2) (j:=7) rfl a (by decide) (by decide)];exact D.gb
 have g:=yG D.nb.1 k.next;have e2:=lK (o:=0) (lU:=[b,.int .i64 0,.int .i64 0,.ed,R.vp,.int .i64 0]) p (by simp) o1.one rfl;have hc:ki (λl=>comp lu gK iK R 2 l\/comp lu gK iK R 7 l) h (d.put iK (.cells nN 1 true false [b,.int .i64 0,.int .i64 0,.ed,R.vp,.int .i64 0])):=OT k (λ_ h=> .inr h) D.nb.1 (.inl rfl)
 let⟨kF,kG,kC⟩:=D.kept (by decide) (by decide) hc
 have c:∀l,l<h.next->l<(d.put iK (.cells nN 1 true false [b,.int .i64 0,.int .i64 0,.ed,R.vp,.int .i64 0])).next:=λl a=>yG a hc.next;have w:∀l,Loc b l->l≠iK:=λl a e=>by
  subst e;rcases n _ a with f|f
  ·exact absurd (D.yo (i:=2) (j:=7) rfl f (by decide) (by decide)) (by decide)
  ·exact absurd f (K3 D.nb.1)
 have v:jn eN fI F (d.put iK (.cells nN 1 true false [b,.int .i64 0,.int .i64 0,.ed,R.vp,.int .i64 0])) (t.s.cur++ys) b:=
  o1.eC (λl a=>fN _ g λe=>D.nb.2 (e▸a)) (by grind[fN]) (je _)
 refine⟨b,d,_,e1,k.next,e2,je _,⟨hc.next,by grind⟩,?_⟩
 exact {
  fl:=λl a=>c l (D.fl l a)
  gu:=by rw[kC 0 lu (by decide) (by decide) (by decide) rfl];exact D.gu
  gk:=by rw[kC 1 gK (by decide) (by decide) (by decide) rfl];exact D.gk
  gb:=fG _ g
  ov:=D.ov.eC kF (λl a=>kC 3 l (by decide) (by decide) (by decide) a) hc.next
  ob:=D.ob.eC kF (λl a=>kC 4 l (by decide) (by decide) (by decide) a) hc.next
  os:=D.os.eC kF (λl a=>kC 5 l (by decide) (by decide) (by decide) a) hc.next
  ok:=D.ok.eC kF (λl a=>kC 6 l (by decide) (by decide) (by decide) a) hc.next
  oc:=v
  nu:=⟨c _ D.nu.1,D.nu.2⟩
  nk:=⟨c _ D.nk.1,D.nk.2⟩
  nb:=⟨c _ D.nb.1,D.nb.2⟩
  sp:=D.sp.eC kF
  kc:=λl a hc=>(n l hc).elim (λf=>D.kc l a f) λe=>absurd e (K3 (D.ok.sm a).2.1)
  gx:=λl a=>⟨c l (D.gx l a).1,(D.gx l a).2.1,λi hi=>by
   match i,hi with
   |0,hi=>exact(D.gx l a).2.2 0 hi
   |1,hi=>exact(D.gx l a).2.2 1 hi
   |2,hi=>exact(D.gx l a).2.2 2 hi
   |3,hi=>exact(D.gx l a).2.2 3 hi
   |4,hi=>exact(D.gx l a).2.2 4 hi
   |5,hi=>exact(D.gx l a).2.2 5 hi
   |6,hi=>exact(D.gx l a).2.2 6 hi
   |7,hi=>exact(n l hi).elim ((D.gx l a).2.2 7) λe=>absurd e (K3 (D.gx l a).1)⟩ }
theorem Dw.cell(D:Dw F G h lu gK iK t R){i:Nat}(hi:i<8)(hc:ki (λl=>comp lu gK iK R i l) h h') :
  (∀l,F l->h'.get l=h.get l)/\(∀l,G l->h'.get l=h.get l)/\∀k l,k<8->k≠i->comp lu gK iK R k l->h'.get l=h.get l:=by
 let⟨a,b,c⟩:=D.kept hi hi (hc.Q8 λ_ _ h=> .inl h)
 grind
theorem Dw.Xv(D:Dw F G h lu gK iK t R){n:Nat}(e:n<=t.s.known.length) :
  ∃b c,iF 1 R.vk none (some (.int .i64 n)) h=some b/\gU 1 (.ptr gK 0) b h=some (.val .undef c)/\h.next<=c.next/\Kp F G h c/\Dw F G c lu gK iK {t with s:=Un.cut n t.s} {R with vk:=b}:=by
 let⟨b,e1,o1,d⟩:=D.ok.cut e
 have e2:=lK (o:=0) (lU:=[b]) D.gk (by simp) o1.one rfl;have hc:ki (λl=>comp lu gK iK R 1 l) h (h.put gK (.cells iT 1 true false [b])):=ki.put _ rfl D.nk.1
 let⟨kF,kG,kC⟩:=D.cell (by decide) hc
 refine⟨b,_,e1,e2,je _,⟨hc.next,by grind⟩,?_⟩
 exact {
  fl:=D.fl
  gu:=by rw[kC 0 lu (by decide) (by decide) rfl];exact D.gu
  gk:=fG _ D.nk.1
  gb:=by rw[kC 2 iK (by decide) (by decide) rfl];exact D.gb
  nu:=D.nu
  nk:=D.nk
  nb:=D.nb
  ov:=D.ov.eC kF (λl a=>kC 3 l (by decide) (by decide) a) hc.next
  ob:=D.ob.eC kF (λl a=>kC 4 l (by decide) (by decide) a) hc.next
  os:=D.os.eC kF (λl a=>kC 5 l (by decide) (by decide) a) hc.next
  ok:=o1.eC kF (λl a=>kC 6 l (by decide) (by decide) (d l a)) hc.next
  oc:=D.oc.eC kF (λl a=>kC 7 l (by decide) (by decide) a) hc.next
  sp:=D.sp.eC kF
  kc:=λl a=>D.kc l (d l a)
  gx:=λl a=>⟨(D.gx l a).1,(D.gx l a).2.1,λi hi=>by
   match i,hi with
   |0,hi=>exact(D.gx l a).2.2 0 hi
   |1,hi=>exact(D.gx l a).2.2 1 hi
   |2,hi=>exact(D.gx l a).2.2 2 hi
   |3,hi=>exact(D.gx l a).2.2 3 hi
   |4,hi=>exact(D.gx l a).2.2 4 hi
   |5,hi=>exact(D.gx l a).2.2 5 hi
   |6,hi=>exact(D.gx l a).2.2 6 (d l hi)
   |7,hi=>exact(D.gx l a).2.2 7 hi⟩ }
theorem Dw.Ta(D:Dw F G h lu gK iK t R){c p:V}{ps:List Nat}(b:iB eN F h ps p):Kp F G h (h.put iK (.cells nN 1 true false [c,.int .i64 0,.int .i64 0,.ed,p,.int .i64 0]))/\
  Dw F G (h.put iK (.cells nN 1 true false [c,.int .i64 0,.int .i64 0,.ed,p,.int .i64 0])) lu gK iK {t with fk:=ps} {R with vp:=p,cc:=c}:=by
 have hc:ki (λl=>comp lu gK iK R 2 l) h (h.put iK (.cells nN 1 true false [c,.int .i64 0,.int .i64 0,.ed,p,.int .i64 0])):=ki.put _ rfl D.nb.1
 let⟨kF,kG,kC⟩:=D.cell (by decide) hc
 refine⟨⟨hc.next,by grind⟩,?_⟩
 exact {
  fl:=D.fl
  gu:=by rw[kC 0 lu (by decide) (by decide) rfl];exact D.gu
  gk:=by rw[kC 1 gK (by decide) (by decide) rfl];exact D.gk
  gb:=fG _ D.nb.1
  nu:=D.nu
  nk:=D.nk
  nb:=D.nb
  ov:=D.ov.eC kF (λl a=>kC 3 l (by decide) (by decide) a) hc.next
  ob:=D.ob.eC kF (λl a=>kC 4 l (by decide) (by decide) a) hc.next
  os:=D.os.eC kF (λl a=>kC 5 l (by decide) (by decide) a) hc.next
  ok:=D.ok.eC kF (λl a=>kC 6 l (by decide) (by decide) a) hc.next
  oc:=D.oc.eC kF (λl a=>kC 7 l (by decide) (by decide) a) hc.next
  sp:=b.eC kF
  kc:=D.kc
  gx:=D.gx}
def UC(F:Nat->Prop)(v:V):Nat->Prop:=λl=>F l\/Loc v l
theorem Dw.flush(D:Dw F G h lu gK iK t R):iB eN (UC F R.vc) h t.s.cur R.vc/\Dw (UC F R.vc) G h lu gK iK {t with s:={t.s with cur:=[]} } {R with vc:= .ed}:=by
 refine⟨D.oc.TK (λ_ h=> .inl h) λ_ h=> .inr h,?_⟩
 have D':Dw F G h lu gK iK {t with s:={t.s with cur:=[]} } {R with vc:= .ed}:=
  { D with
    oc:= .nil
    kc:=by simp_all
    gx:=λl a=>⟨(D.gx l a).1,(D.gx l a).2.1,λi hi=>by
      match i,hi with
      |0,hi=>exact(D.gx l a).2.2 0 hi
      |1,hi=>exact(D.gx l a).2.2 1 hi
      |2,hi=>exact(D.gx l a).2.2 2 hi
      |3,hi=>exact(D.gx l a).2.2 3 hi
      |4,hi=>exact(D.gx l a).2.2 4 hi
      |5,hi=>exact(D.gx l a).2.2 5 hi
      |6,hi=>exact(D.gx l a).2.2 6 hi
      |n+7,hi=>exact(match n,hi with|0,hi=>hi)⟩ }
 refine D'.more (λ_ h=> .inl h) λl a=>a.imp id λhc=>⟨(D.oc.sm hc).2.1,λi hi=>?_,λb=>(D.gx l b).2.2 7 hc⟩
 match i,hi with
 |0,hi=>exact nomatch D.yo (i:=0) (j:=7) hi hc (by decide) (by decide)
 |1,hi=>exact nomatch D.yo (i:=1) (j:=7) hi hc (by decide) (by decide)
 |2,hi=>exact nomatch D.yo (i:=2) (j:=7) hi hc (by decide) (by decide)
 |3,hi=>exact nomatch D.yo (i:=3) (j:=7) hi hc (by decide) (by decide)
 |4,hi=>exact nomatch D.yo (i:=4) (j:=7) hi hc (by decide) (by decide)
 |5,hi=>exact nomatch D.yo (i:=5) (j:=7) hi hc (by decide) (by decide)
 |6,hi=>exact nomatch D.yo (i:=6) (j:=7) hi hc (by decide) (by decide)
 |n+7,hi=>exact(match n,hi with|0,hi=>hi)
theorem Dw.TJ(D:Dw F G h lu gK iK t R){p:Nat}{xs:List Nat}{a:V}(g:p<t.s.ee.length)(f:iB eN F h xs a) :
  ∃l d,gM 6 R.vv (.int .i64 p)=some (.ptr l (p*6))/\gU 1 (.ptr l (p*6+4)) a h=some (.val .undef d)/\h.next<=d.next/\Kp F G h d/\Dw F G d lu gK iK {t with s:=setArgs t.s p xs} R:=by
 let⟨l,d,_,e1,e2,o1,hc⟩:=D.ov.store (k:=4) (y:={t.s.ee[p]with args:=xs}) g (by decide) f.one (λw ⟨x,j,_⟩=>by subst j;exact⟨a,rfl,f⟩)
 let⟨kF,kG,kC⟩:=D.cell (i:=3) (by decide) hc
 refine ⟨l,d,e1,e2,hc.next,⟨hc.next,by grind⟩,?_⟩;have c:∀l,l<h.next->l<d.next:=λl b=>yG b hc.next;have em:(setArgs t.s p xs).ee=t.s.ee.set p {t.s.ee[p]with args:=xs}:=by
  show t.s.ee.modify p _=_;refine UN λi=>?_;rw[ List.getElem?_set];by_cases e:p=i
  ·grind
  ·simp[e]
 exact {
  fl:=λl b=>c l (D.fl l b)
  gu:=by rw[kC 0 lu (by decide) (by decide) rfl];exact D.gu
  gk:=by rw[kC 1 gK (by decide) (by decide) rfl];exact D.gk
  gb:=by rw[kC 2 iK (by decide) (by decide) rfl];exact D.gb
  nu:=⟨c _ D.nu.1,D.nu.2⟩
  nk:=⟨c _ D.nk.1,D.nk.2⟩
  nb:=⟨c _ D.nb.1,D.nb.2⟩
  ov:=by simp_all
  ob:=D.ob.eC kF (λl b=>kC 4 l (by decide) (by decide) b) hc.next
  os:=D.os.eC kF (λl b=>kC 5 l (by decide) (by decide) b) hc.next
  ok:=D.ok.eC kF (λl b=>kC 6 l (by decide) (by decide) b) hc.next
  oc:=D.oc.eC kF (λl b=>kC 7 l (by decide) (by decide) b) hc.next
  sp:=D.sp.eC kF
  kc:=D.kc
  gx:=λl b=>⟨c l (D.gx l b).1,(D.gx l b).2⟩ }
end
