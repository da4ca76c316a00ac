/- Parts. -/
import Derived.Test.YtkpicojjjifmgabGreatDoorM09
import Derived.Test.YtkpicojjjifmgabGreatDoorM13
set_option maxHeartbeats 4000000
namespace Go.Proofs.YtkpicojjjifmgabGreatDoor.Hx
open Un
def eN:qp Nat where
 sz:=1
 rel _ _ n cs:=cs=[.I n]
 len h:=by subst h;rfl
 one h:=by subst h;rfl
 fj _ h:=h
 mono _ h:=h
def mF(x:Vl)(w:V):List V:=[.I x.op,.I x.a,.I x.b,.I x.n,w,.I x.state]
def eV:qp Vl where
 sz:=6
 rel F h x cs:=∃w,cs=mF x w/\im eN F h x.args w
 len:=λ⟨_,h,_⟩=>by subst h;rfl
 one:=λ⟨_,h,hs⟩=>by subst h;simp only[mF,eJ,hs.one];rfl
 fj:=λa ⟨w,h,hs⟩=>⟨w,h,hs.fj a⟩
 mono:=λhb ⟨w,h,hs⟩=>⟨w,h,hs.mono hb⟩
def km(x:Bk)(v n p:V):List V:=[v,.I x.fin,.I x.cond,n,p,.I x.state]
def eK:qp Bk where
 sz:=6
 rel F h x cs:=∃v n p,cs=km x v n p/\im eN F h x.ej v/\im eN F h x.next n/\im eN F h x.fi p
 len:=λ⟨_,_,_,h,_⟩=>by subst h;rfl
 one:=λ⟨_,_,_,h,a,b,c⟩=>by subst h;simp only[km,eJ,a.one,b.one,c.one];rfl
 fj:=λd ⟨v,n,p,h,a,b,c⟩=>⟨v,n,p,h,a.fj d,b.fj d,c.fj d⟩
 mono:=λhb ⟨v,n,p,h,a,b,c⟩=>⟨v,n,p,h,a.mono hb,b.mono hb,c.mono hb⟩
def Ll(x:Fm)(l s:V):List V:=[.I x.func,.I x.pc,l,s]
def eF:qp Fm where
 sz:=4
 rel F h x cs:=∃l s,cs=Ll x l s/\im eN F h x.locals l/\im eN F h x.stack s
 len:=λ⟨_,_,h,_⟩=>by subst h;rfl
 one:=λ⟨_,_,h,a,b⟩=>by subst h;simp only[Ll,eJ,a.one,b.one];rfl
 fj:=λc ⟨l,s,h,a,b⟩=>⟨l,s,h,a.fj c,b.fj c⟩
 mono:=λhb ⟨l,s,h,a,b⟩=>⟨l,s,h,a.mono hb,b.mono hb⟩
def eT:qp (List Fm):=eL eF
theorem zI(F:Nat->Prop)(h:Hp):∀(l:List Nat),qQ eN F h (l.map λn=>V.I (n:Nat)) l
 |[]=>trivial
 |n::l=>⟨[.I n],_,rfl,rfl,zI F h l⟩
def Loc(v:V)(t:Nat):Prop:=match v with
 | .slice l _ _=>l=t
 |_=>False
@[simp] theorem zfb (t:Nat):Loc .ei t=False:=rfl
@[simp] theorem zdp (l o n t:Nat):Loc (.slice l o n) t=(l=t):=rfl
def lC{α:Type}(E:qp α)(ty:Nat)(F:Nat->Prop)(h:Hp)(xs:List α)(v:V):Prop:=(v = .ei/\xs=[])\/∃t cs,v = .slice t 0 xs.length/\t<h.next/\¬F t/\h.get t=some (.cells ty E.sz true false cs)/\qQ E F h cs xs/\gw cs=true
section
variable{α:Type}{E:qp α}{ty:Nat}{F F':Nat->Prop}{h h':Hp}{xs:List α}{v:V}
theorem lC.nil:lC E ty F h [] .ei:= .inl ⟨rfl,rfl⟩
theorem lC.len(a:lC E ty F h xs v):fI v=some (.I xs.length):=by
 rcases a with⟨rfl,rfl⟩|⟨t,cs,rfl,_⟩ <;> rfl
theorem lC.one(a:lC E ty F h xs v):v.one=true:=by
 rcases a with⟨rfl,rfl⟩|⟨t,cs,rfl,_⟩ <;> rfl
noncomputable def ZF(h:Hp) (l:Nat):Option (Nat×Nat):=match h.get l with
 |some (.cells e sz _ _ _)=>some (e,sz)
 |_=>none
theorem MM{l e sz:Nat}{a b:Bool}{cs:List V}(c:h.get l=some (.cells e sz a b cs)):ZF h l=some (e,sz):=by unfold ZF;rw[c]
theorem lC.vC(a:lC E ty F h xs v){t:Nat}(ht:Loc v t):ZF h t=some (ty,E.sz)/\t<h.next/\¬F t:=by
 rcases a with⟨rfl,_⟩|⟨t',cs,rfl,b,c,d,_⟩
 ·exact ht.elim
 ·obtain rfl:t' = t:=ht;exact⟨MM d,b,c⟩
theorem lC.fj(a:lC E ty F h xs v)(b:∀l,F l->h'.get l=h.get l)(c:∀l,Loc v l->h'.get l=h.get l)(d:h.next<=h'.next):lC E ty F h' xs v:=by
 rcases a with a|⟨t,cs,rfl,e,f,g,i,j⟩
 ·exact .inl a
 ·exact .inr ⟨t,cs,rfl,EK e d,f,by rw[c t rfl];exact g,i.fj b,j⟩
theorem lC.mono(a:lC E ty F h xs v)(b:∀l,F l->F' l)(c:∀t,Loc v t->¬F' t):lC E ty F' h xs v:=by
 rcases a with a|⟨t,cs,rfl,d,i,e,f,g⟩
 ·exact .inl a
 ·exact .inr ⟨t,cs,rfl,d,c t rfl,e,f.mono b,g⟩
theorem lC.Z8(a:lC E ty F h xs v)(b:∀l,F l->F' l)(c:∀t,Loc v t->F' t):im E F' h xs v:=by
 rcases a with a|⟨t,cs,rfl,f,g,d,e,i⟩
 ·exact .inl a
 ·exact .inr ⟨t,0,ty,true,false,cs,rfl,c t rfl,d,.inr rfl,Mj _,by simpa using e.mono b⟩
theorem lC.read(a:lC E ty F h xs v):im E (λl=>F l\/Loc v l) h xs v:=a.Z8 (λ_ h=> .inl h) λ_ h=> .inr h
theorem lC.append{jP:Nat}{x:V}{new:List V}{ys:List α}(A:lC E ty F h xs v)(hx:lQ h E.sz x=some (ys.length,new))(p:qQ E F h new ys)(B:new.length=ys.length*E.sz)(g:gw new=true)(D:0<ys.length)(G:0<E.sz)
  (n:∀l,F l->l<h.next) (hb:(xs.length+ys.length)*jP<=70368744177664) (j:xs.length+ys.length<=70368744177664) :
  ∃q h',fh ty E.sz jP v x h=some (.val q h')/\lC E ty F h' (xs++ys) q/\mA (Loc v) h h'/\(∀t,Loc q t->Loc v t\/t=h.next):=by
 have d:Nat.beq ys.length 0=false:=by
  cases hq:ys.length with
  |zero=>omega
  |succ k=>rfl
 rcases A with⟨rfl,rfl⟩|⟨t,cs,rfl,i,r,y,s,f⟩
 ·refine⟨.slice h.next 0 ys.length,h.new (.cells ty E.sz true false new),?_,.inr ⟨h.next,new,by simp,OF _,λb=>ZS _ (n _ b),fq _ _,?_,g⟩,mA.new _ _,λt ht=> .inr ht.symm⟩
  ·unfold fh;simp only[hx,fo,d,g,oV];rw[nt _ (UQ (by simpa using hb)),nt _ (UQ (by simpa using j))]
  ·exact p.fj λl b=>fk _ (n l b)
 ·have C:=s.length;have z:(xs.length+ys.length)*E.sz=xs.length*E.sz+ys.length*E.sz:=Xo _ _ _
  cases hroom:Nat.ble (Nat.add 0 (Nat.mul (Nat.add xs.length ys.length) E.sz)) cs.length with
  | true=>
    have H:(xs.length+ys.length)*E.sz<=cs.length:=by
      have:=KS hroom;show _<=_;rw[show Nat.add 0 (Nat.mul (Nat.add xs.length ys.length) E.sz)=(xs.length+ys.length)*E.sz from zO _]at this;exact this
    refine ⟨.slice t 0 (xs.length+ys.length),h.put t (.cells ty E.sz true false (cs.take (xs.length*E.sz)++new++cs.drop (xs.length*E.sz+new.length))),?_,
      .inr ⟨t,_,by simp,i,r,gj _ i,?_,?_⟩,mA.put _ rfl i,λ_ h=> .inl h⟩
    ·unfold fh kK
     have u:qv (Nat.add 0 (Nat.mul xs.length E.sz)) cs new=some (cs.take (xs.length*E.sz)++new++cs.drop (xs.length*E.sz+new.length)):=by
       rw[show Nat.add 0 (Nat.mul xs.length E.sz)=xs.length*E.sz from zO _];exact AM (by rw[B];omega)
     simp only[hx,fo,d,g,oV,y,wBe,hroom,u];rw[nt _ (W8 _)];rfl
    ·refine qQ.fj (h:=h) (λl b=>gN _ i λe=>r (e▸b)) ?_
     rw[Lb];exact s.take.append (by rw[Mq];omega) p.more
    ·rw[oZ,oZ,g]
     have o:∀(l:List V),gw l=l.all V.one:=λl=>by
       induction l with
       |nil=>rfl
       |cons a l w=>rw[eJ,w];rfl
     rw[o]at f⊢;rw[o];rw[Rp]at f;simp only[Bool.and_true,vH,Rp]
     exact⟨λx hx=>f x (wBb hx),λx hx=>f x (List.mem_of_mem_drop hx)⟩
  | false=>
    have o:∀(l:List V),gw l=l.all V.one:=λl=>by
      induction l with
      |nil=>rfl
      |cons a l w=>rw[eJ,w];rfl
    have c:gw (cs.take (xs.length*E.sz))=true:=by
      rw[o]at f⊢;rw[Rp]at f⊢;exact λx hx=>f x (wBb hx)
    refine ⟨.slice h.next 0 (xs.length+ys.length),(h.put t (.cells ty E.sz false false cs)).new (.cells ty E.sz true false (cs.take (xs.length*E.sz)++new)),?_,
      .inr ⟨h.next,_,by simp,OF _,λb=>ZS _ (n _ b),fq (h.put t _) _,?_,by rw[oZ,c,g];rfl⟩,
      (mA.put (S:=Loc (.slice t 0 xs.length)) (.cells ty E.sz false false cs) rfl i).trans (mA.new _ _),λ_ h=> .inr h.symm⟩
    ·unfold fh kK
     have m:sub cs 0 (Nat.mul xs.length E.sz)=some (cs.take (xs.length*E.sz)):=by
       show sub cs 0 (xs.length*E.sz)=_;rw[EO (show 0+xs.length*E.sz<=cs.length by omega),ZT]
     simp only[hx,fo,d,g,oV,y,wBe,hroom,m,c];rw[nt _ (W8 _),nt _ (show Nat.ble (Nat.mul (Nat.add xs.length ys.length) jP) 70368744177664=true from UQ hb),nt _ (show Nat.ble (Nat.add xs.length ys.length) 70368744177664=true from UQ j)];rfl
    ·refine qQ.fj (h:=h) (λl b=>?_) ?_
     ·rw[fk _ (show l<(h.put t _).next from n l b),gN _ i λe=>r (e▸b)]
     ·exact s.take.append (by rw[Mq];omega) p
theorem lC.cut(d:lC E ty F h xs v){n:Nat}(a:n<=xs.length):∃b,jA E.sz v none (some (.I n)) h=some b/\lC E ty F h (xs.take n) b/\∀t,Loc b t->Loc v t:=by
 rcases d with⟨rfl,rfl⟩|⟨t,cs,rfl,e,f,c,g,i⟩
 ·obtain rfl:n=0:=by simpa using a
  exact⟨.ei,rfl,.inl ⟨rfl,rfl⟩,λ_ h=>h⟩
 ·refine⟨.slice t 0 n,?_,.inr ⟨t,cs,by rw[Mq,wBl a],e,f,c,g.taken n,i⟩,λ_ h=>h⟩;unfold jA kK;simp only[c,fo,GS,Lk];rw[nt _ (W8 _),nt _ (UQ (Mj _)),nt _ (by rw[UQ a];rfl)];simp
theorem lC.store(n:lC E ty F h xs v){i k:Nat}{y:α}{u:V}(hi:i<xs.length)(B:k<E.sz)(f:u.one=true)(o:∀w,E.rel F h xs[i] w->E.rel F h y (w.set k u)) :
  ∃t h',Loc v t/\gB E.sz v (.I i)=some (.ptr t (i*E.sz))/\gJ 1 (.ptr t (i*E.sz+k)) u h=some (.val .undef h')/\lC E ty F h' (xs.set i y) v/\mA (Loc v) h h':=by
 rcases n with⟨rfl,rfl⟩|⟨t,cs,rfl,c,g,p,j,d⟩
 ·simp at hi
 ·obtain ⟨w,q,C,m⟩:=j.get (i:=i) (x:=xs[i]) (iy hi);have b:cs.set (i*E.sz+k) u=cs.take (i*E.sz)++w.set k u++cs.drop (i*E.sz+E.sz):=by
   have e0:cs=cs.take (i*E.sz)++(w++cs.drop (i*E.sz+E.sz)):=by
    rw[<-q]
    conv=>lhs;rw[<-ZI (i*E.sz) cs]
    congr 1;rw[<-wBf,ZI]
   have D:=E.len m
   conv=>lhs;rw[e0]
   rw[List.set_append_right _ _ (by rw[Mq];omega),Mq,wBl (by omega),wBd,List.set_append_left _ _ (by omega),Lb]
  refine⟨t,h.put t (.cells ty E.sz true false (cs.set (i*E.sz+k) u)),rfl,by rw[AN _ _ _ _ _ _ hi,zO],N3 p (by omega) f,.inr ⟨t,_,by simp,c,g,gj _ c,?_,?_⟩,mA.put _ rfl c⟩
  ·refine qQ.fj (h:=h) (λl r=>gN _ c λe=>g (e▸r)) ?_;rw[b];exact j.set hi (o w m)
  ·have s:∀(l:List V),gw l=l.all V.one:=λl=>by
    induction l with
    |nil=>rfl
    |cons a l z=>rw[eJ,z];rfl
   rw[s]at d⊢;rw[Rp]at d⊢;intro x hx;rcases List.mem_or_eq_of_mem_set hx with A|rfl
   ·exact d x A
   ·exact f
end
abbrev eR:Nat:=3
abbrev jZ:Nat:=4
abbrev iZ:Nat:=22
abbrev gR:Nat:=30
abbrev hH:Nat:=34
abbrev fS:Nat:=45
abbrev mO:Nat:=52
abbrev Mz:Nat:=49
abbrev Sl:Nat:=24
abbrev yc:Nat:=130
abbrev Mv:Nat:=70
open Un
structure Pc where
 mn:Nat->Prop
 ok:(Nat->Prop)->Hp->Prop
 MB:∀{F:Nat->Prop} {h:Hp},ok F h->∀l,mn l->l<h.next/\¬F l
 fj:∀{F:Nat->Prop} {h h':Hp},ok F h->(∀l,F l->h'.get l=h.get l)->(∀l,mn l->h'.get l=h.get l)->h.next<=h'.next->ok F h'
 mono:∀{F F':Nat->Prop} {h:Hp},ok F h->(∀l,F l->F' l)->(∀l,mn l->¬F' l)->ok F' h
def emp:Pc:=⟨λ_=>False,λ_ _=>True,by simp_all,by simp_all,by simp_all⟩
def eQ(l ty:Nat)(vs:List V):Pc where
 mn:=λm=>m=l
 ok F h:=h.get l=some (.cells ty 1 true false vs)/\l<h.next/\¬F l
 MB:=by simp_all
 fj:=by grind
 mono:=by simp_all
def fg{α:Type}(E:qp α)(ty:Nat)(xs:List α)(v:V):Pc where
 mn:=Loc v
 ok F h:=lC E ty F h xs v
 MB:=λh _ a=>(h.vC a).2
 fj:=by grind[lC.fj]
 mono:=by grind[lC.mono]
def zfx(S:Nat->Prop)(h0:Hp):Pc where
 mn:=S
 ok F h:=∀l,S l->h.get l=h0.get l/\l<h.next/\¬F l
 MB:=by simp_all
 fj:=by grind
 mono:=by simp_all
structure Sn (F:Nat->Prop) (h:Hp) (F':Nat->Prop) (h':Hp):Prop where
 next:h.next<=h'.next
 fj:∀l,F l->h'.get l=h.get l
 mono:∀l,F l->F' l
theorem Sn.refl(F:Nat->Prop)(h:Hp):Sn F h F h:=⟨jO _,by simp_all,λ_ h=>h⟩
theorem Sn.trans{F F' c:Nat->Prop} {h h' d:Hp}(a:Sn F h F' h')(b:Sn F' h' c d):Sn F h c d:=
 ⟨KG a.next b.next,λl e=>(b.fj l (a.mono l e)).trans (a.fj l e),λl e=>b.mono l (a.mono l e)⟩
structure eo (F:Nat->Prop) (h:Hp) (cs:List Pc):Prop where
 fl:∀l,F l->l<h.next
 ok:∀(i:Nat) (c:Pc),cs[i]? =some c->c.ok F h
 Ew:∀(i j:Nat) (c d:Pc),cs[i]? =some c->cs[j]? =some d->i≠j->∀l,c.mn l->¬d.mn l
section
variable{F F':Nat->Prop}{h h':Hp}{cs:List Pc}{i j:Nat}{c d p:Pc}
theorem EA{cs:List Pc}{i:Nat}{p:Pc}{j:Nat}{d:Pc}(a:(cs.set i p)[j]? =some d):(j=i/\d=p)\/(j≠i/\cs[j]? =some d):=by
 grind
theorem eo.nil(a:∀l,F l->l<h.next):eo F h []:=⟨a,by simp_all,by simp_all⟩
theorem eo.cons(H:eo F h cs)(f:p.ok F h)(hp:∀(i:Nat) c,cs[i]? =some c->∀l,p.mn l->¬c.mn l):eo F h (p::cs) where
 fl:=H.fl
 ok:=λi c hc=>by
  cases i with
  |zero=>simp_all
  |succ i=>exact H.ok i c hc
 Ew:=λi j c d hc b g l e a=>by
  cases i with
  | zero=>
    grind
  | succ i=>
    cases j with
    |zero=>grind
    |succ j=>exact H.Ew i j c d hc b (by omega) l e a
theorem eo.tail(H:eo F h (p::cs)):eo F h cs where
 fl:=H.fl
 ok:=λi c hc=>H.ok (i+1) c hc
 Ew:=λi j c d hc a b=>H.Ew (i+1) (j+1) c d hc a (by omega)
theorem eo.add(H:eo F h cs)(a:p.ok F h)(hp:∀l,¬p.mn l):eo F h (p::cs):=H.cons a (by simp_all)
theorem eo.swap(H:eo F h cs)(hi:cs[i]? =some c)(r:p.ok F h)(hp:∀l,p.mn l->c.mn l):eo F h (cs.set i p) where
 fl:=H.fl
 ok:=λj d s=>by
  rcases EA s with⟨_,rfl⟩|⟨_,f⟩
  ·exact r
  ·exact H.ok j d f
 Ew:=λj k a b t hb g l m e=>by
  rcases EA t with⟨n,rfl⟩|⟨n,o⟩
  ·rcases EA hb with⟨q,_⟩|⟨_,f⟩
   ·omega
   ·subst n;exact H.Ew j k c b hi f g l (hp l m) e
  ·rcases EA hb with⟨q,rfl⟩|⟨_,f⟩
   ·subst q;exact H.Ew j k a c o hi g l m (hp l e)
   ·exact H.Ew j k a b o f g l m e
theorem eo.forget(H:eo F h cs)(hi:cs[i]? =some c):eo F h (cs.set i emp):=H.swap hi trivial λ_ h=>h.elim
theorem eo.zc5(H:eo F h cs)(hi:cs[i]? =some c)(hc:mA c.mn h h')(s:∀l,F l->F' l)(n:∀l,F' l->F l\/c.mn l\/(h.next<=l/\l<h'.next))(y:p.ok F' h')(hp:∀l,p.mn l->c.mn l\/h.next<=l):eo F' h' (cs.set i p)/\Sn F h F' h':=by
 have o:=H.ok i c hi;have t:∀l,F l->h'.get l=h.get l:=λl e=>hc.fj l (H.fl l e) λhs=>(c.MB o l hs).2 e;have other:∀(j:Nat) (d:Pc),j≠i->cs[j]? =some d->d.ok F' h'/\∀l,d.mn l->¬p.mn l:=λj d u q=>by
  have m:=H.ok j d q;have r:∀l,d.mn l->¬c.mn l:=H.Ew j i d c q hi u;refine⟨d.mono (d.fj m t (λl e=>hc.fj l (d.MB m l e).1 (r l e)) hc.next) s λl e f=>?_,λl e f=>?_⟩
  ·rcases n l f with g|g|g
   ·exact(d.MB m l e).2 g
   ·simp_all
   ·have:=(d.MB m l e).1;omega
  ·rcases hp l f with g|g
   ·simp_all
   ·have:=(d.MB m l e).1;omega
 refine⟨⟨λl e=>?_,λj d q=>?_,λj k a b v hb w l e f=>?_⟩,⟨hc.next,t,s⟩⟩
 ·rcases n l e with g|g|g
  ·exact EK (H.fl l g) hc.next
  ·exact EK (c.MB o l g).1 hc.next
  omega
 ·grind
 ·rcases EA v with⟨x,rfl⟩|⟨x,m⟩
  ·grind
  ·rcases EA hb with⟨z,rfl⟩|⟨_,r⟩
   ·grind
   ·exact H.Ew j k a b m r w l e f
theorem eo.Cq(H:eo F h cs)(hi:cs[i]? =some c)(hc:mA c.mn h h')(a:p.ok F h')(hp:∀l,p.mn l->c.mn l\/h.next<=l):eo F h' (cs.set i p)/\Sn F h F h':=
 H.zc5 hi hc (by simp_all) (by simp_all) a hp
theorem eo.grow(H:eo F h cs)(a:Ix h h'):eo F h' cs/\Sn F h F h':=by
 have c:∀l,F l->h'.get l=h.get l:=λl b=>a.fj l (H.fl l b) id;exact⟨⟨λl b=>EK (H.fl l b) a.next,λj d e=>d.fj (H.ok j d e) c (λl b=>a.fj l (d.MB (H.ok j d e) l b).1 id) a.next,H.Ew⟩,⟨a.next,c,λ_ h=>h⟩⟩
theorem eo.new(H:eo F h cs)(o:O)(b:p.ok F (h.new o))(hp:∀l,p.mn l->l=h.next):eo F (h.new o) (p::cs)/\Sn F h F (h.new o):=by
 obtain⟨c,e⟩:=H.grow (mA.new h o);refine⟨c.cons b λj d f l g a=>?_,e⟩;have:=(d.MB (H.ok j d f) l a).1
 grind
theorem eo.fresh(H:eo F h cs):¬F h.next:=λa=>ZS _ (H.fl _ a)
theorem eo.Aw(H:eo F h cs)(ty:Nat)(vs:List V):eo F (h.new (.cells ty 1 true false vs)) (eQ h.next ty vs::cs)/\Sn F h F (h.new (.cells ty 1 true false vs)):=
 H.new _ ⟨fq _ _,OF _,H.fresh⟩ λ_ e=>e
theorem eo.SB(H:eo F h cs){α:Type}{E:qp α}(ty:Nat){xs:List α}{ws:List V}{n:Nat}(a:n=xs.length)(b:qQ E F h ws xs)(c:gw ws=true) :
  eo F (h.new (.cells ty E.sz true false ws)) (fg E ty xs (.slice h.next 0 n)::cs)/\Sn F h F (h.new (.cells ty E.sz true false ws)):=by
 subst a;exact H.new _ (.inr ⟨h.next,ws,rfl,OF _,H.fresh,fq _ _,b.fj λl d=>fk _ (H.fl l d),c⟩) λ_ e=>e.symm
theorem eo.za4(H:eo F h cs){α:Type}{E:qp α}(ty:Nat){xs:List α}{ws:List V}{n:Nat}(f:n=xs.length)(g:qQ E F h ws xs)(ro:Bool) :
  eo (λl=>F l\/l=h.next) (h.new (.cells ty E.sz true ro ws)) cs/\Sn F h (λl=>F l\/l=h.next) (h.new (.cells ty E.sz true ro ws))/\im E (λl=>F l\/l=h.next) (h.new (.cells ty E.sz true ro ws)) xs (.slice h.next 0 n):=by
 subst f;obtain⟨b,c⟩:=H.grow (mA.new h (.cells ty E.sz true ro ws));refine⟨⟨λl a=>?_,λj d e=>d.mono (b.ok j d e) (by simp_all) λl a i=>?_,b.Ew⟩,⟨c.next,c.fj,by simp_all⟩,?_⟩
 ·rcases a with a|rfl
  ·exact b.fl l a
  simp_all
 ·have k:=d.MB (H.ok j d e) l a
  simp_all
 ·exact .inr ⟨h.next,0,ty,true,ro,ws,rfl,.inr rfl,fq _ _,.inr rfl,Mj _,by rw[ZT];exact(g.fj λl a=>fk _ (H.fl l a)).mono (by simp_all)⟩
theorem eo.get(H:eo F h cs)(i:Nat){l ty:Nat}{vs:List V}(hi:cs[i]? =some (eQ l ty vs)):h.get l=some (.cells ty 1 true false vs):=(H.ok i _ hi).1
theorem eo.ld(H:eo F h cs)(i:Nat){l ty o:Nat}{vs:List V}{u:V}(hi:cs[i]? =some (eQ l ty vs))(a:vs[o]? =some u):fe (.ptr l o) h=some u:=lJ (H.get i hi) a
theorem eo.pC(H:eo F h cs)(i:Nat){l ty n:Nat}{vs:List V}(hi:cs[i]? =some (eQ l ty vs))(a:vs.length=n):fW n (.ptr l 0) h=some (.agg vs):=DJ (H.get i hi) a
theorem eo.st(H:eo F h cs)(i:Nat){l ty o:Nat}{vs:List V}{u:V}(hi:cs[i]? =some (eQ l ty vs))(b:o<vs.length)(c:u.one=true) :
  ∃h',gJ 1 (.ptr l o) u h=some (.val .undef h')/\h.next<=h'.next/\eo F h' (cs.set i (eQ l ty (vs.set o u)))/\Sn F h F h':=by
 have a:=H.ok i _ hi;refine⟨_,N3 a.1 b c,jO _,H.Cq hi (mA.put _ rfl a.2.1) ⟨gj _ a.2.1,a.2.1,a.2.2⟩ λ_ h=> .inl h⟩
theorem eo.stk(H:eo F h cs)(i:Nat){l ty o:Nat}{vs:List V}{u:V}(hi:cs[i]? =some (eQ l ty vs))(b:o<vs.length)(c:u.one=true) :
  ∃h',gJ 1 (.ptr l o) u h=some (.val .undef h')/\h.next<=h'.next/\eo F h' (cs.set i (eQ l ty (vs.set o u)))/\Sn F h F h'/\∀m,m≠l->h'.get m=h.get m:=by
 have a:=H.ok i _ hi;obtain⟨d,e⟩:=H.Cq (p:=eQ l ty (vs.set o u)) (h':=h.put l (.cells ty 1 true false (vs.set o u))) hi (mA.put _ rfl a.2.1) ⟨gj _ a.2.1,a.2.1,a.2.2⟩ λ_ h=> .inl h;exact⟨_,N3 a.1 b c,jO _,d,e,λm f=>gN _ a.2.1 (by omega)⟩
theorem eo.U1(H:eo F h cs)(i:Nat){l ty n:Nat}{vs ws:List V}(hi:cs[i]? =some (eQ l ty vs))(b:ws.length=n)(hv:vs.length=n)(c:gw ws=true) :
  ∃h',gJ n (.ptr l 0) (.agg ws) h=some (.val .undef h')/\h.next<=h'.next/\eo F h' (cs.set i (eQ l ty ws))/\Sn F h F h':=by
 have a:=H.ok i _ hi;refine⟨_,HB a.1 b hv c,jO _,H.Cq hi (mA.put _ rfl a.2.1) ⟨gj _ a.2.1,a.2.1,a.2.2⟩ λ_ h=> .inl h⟩
section
variable{α:Type}{E:qp α}{ty:Nat}{xs:List α}{v:V}
theorem eo.row(H:eo F h cs)(i:Nat)(hi:cs[i]? =some (fg E ty xs v)):lC E ty F h xs v:=H.ok i _ hi
theorem eo.len(H:eo F h cs)(i:Nat)(hi:cs[i]? =some (fg E ty xs v)):fI v=some (.I xs.length):=(H.row i hi).len
theorem eo.one(H:eo F h cs)(i:Nat)(hi:cs[i]? =some (fg E ty xs v)):v.one=true:=(H.row i hi).one
theorem eo.ix(H:eo F h cs)(i:Nat)(hi:cs[i]? =some (fg E ty xs v)){k:Nat}(a:k<xs.length)(kd:IntKind) :
  ∃l o w,gB E.sz v (.int kd k)=some (.ptr l o)/\fW E.sz (.ptr l o) h=some (.agg w)/\E.rel (λl=>F l\/Loc v l) h xs[k] w/\∀j u,w[j]? =some u->fe (.ptr l (o+j)) h=some u:=by
 obtain⟨l,o,w,_,b,c,d,e⟩:=(H.row i hi).read.ix a kd
 grind
theorem eo.U8(H:eo F h cs)(i:Nat)(hi:cs[i]? =some (fg E ty xs v)){k:Nat}(a:k<xs.length)(kd:IntKind)(b:E.sz=1) :
  ∃l o u,gB 1 v (.int kd k)=some (.ptr l o)/\fe (.ptr l o) h=some u/\E.rel (λl=>F l\/Loc v l) h xs[k] [u]:=by
 obtain⟨l,o,u,_,c,d,e⟩:=(H.row i hi).read.U8 a kd b
 grind
theorem eo.Kh(H:eo F h cs)(i:Nat)(hi:cs[i]? =some (fg E ty xs v)){k:Nat}(f:k<xs.length)(a:E.sz=1){y:α}{u:V}(g:u.one=true)(j:E.rel F h y [u]) :
  ∃l o h',gB 1 v (.I k)=some (.ptr l o)/\gJ 1 (.ptr l o) u h=some (.val .undef h')/\h.next<=h'.next/\eo F h' (cs.set i (fg E ty (xs.set k y) v))/\Sn F h F h':=by
 obtain ⟨t,h',p,b,c,m,d⟩:=(H.row i hi).store (k:=0) (y:=y) (u:=u) f (by omega) g (λw n=>by
  have e:=E.len n;rw[a]at e
  match w,e with
  |[x],_=>exact j)
 rw[a]at b c;exact⟨t,k*1,h',b,c,d.next,H.Cq hi d m λ_ h=> .inl h⟩
end
end
open Un
section
variable{F F':Nat->Prop}{h h':Hp}{cs:List Pc}{α:Type}{E:qp α}{ty:Nat}{xs ys:List α}{v x:V}
theorem qQ.one:∀{xs:List α}{ws:List V},qQ E F h ws xs->ws.length=xs.length*E.sz->gw ws=true
 | [],ws,_,hl=>by
   simp_all
 | y::xs,ws,⟨w,r,b,a,c⟩,hl=>by
   subst b;have d:=E.len a;rw[oZ,E.one a,qQ.one c (by grind)];rfl
theorem qQ.rep{y:α}{u:V}(a:E.rel F h y [u]):∀n,qQ E F h (List.replicate n u) (List.replicate n y)
 |0=>trivial
 |n+1=>⟨[u],_,rfl,a,qQ.rep a n⟩
theorem Oz{u:V}(a:u.one=true):∀n,gw (List.replicate n u)=true
 |0=>rfl
 |n+1=>by rw[List.replicate_succ,eJ,a,Oz a n];rfl
theorem E9{l off n zL sz:Nat}{ro:Bool}{ds:List V}(b:h.get l=some (.cells zL sz true ro ds))(a:off+n*sz<=ds.length):∃new,lQ h sz (.slice l off n)=some (n,new)/\new=(ds.drop off).take (n*sz):=by
 cases n with
 |zero=>exact⟨_,rfl,by simp⟩
 | succ n=>
   refine⟨_,?_,rfl⟩;unfold lQ Ip kK;have:sub ds off (Nat.mul (Nat.succ n) sz)=some ((ds.drop off).take ((n+1)*sz)):=EO a
   simp_all
theorem im.xc(hs:im E F h ys x):∃new,lQ h E.sz x=some (ys.length,new)/\qQ E F h new ys/\new.length=ys.length*E.sz:=by
 rcases hs with⟨rfl,rfl⟩|⟨l,off,zL,live,ro,ds,rfl,g,b,c,i,a⟩
 ·exact⟨[],rfl,trivial,by simp⟩
 ·have d:=a.length;rw[List.length_drop]at d;rcases c with rfl|rfl
  ·exact⟨[],rfl,trivial,by simp⟩
  ·obtain⟨new,e,f⟩:=E9 (n:=ys.length) (off:=off) (sz:=E.sz) b (by omega);exact⟨new,e,by rw[f];exact a.take,by simp_all⟩
theorem lC.xc(hs:lC E ty F h ys x):∃new,lQ h E.sz x=some (ys.length,new)/\qQ E F h new ys/\new.length=ys.length*E.sz:=by
 rcases hs with⟨rfl,rfl⟩|⟨t,ds,rfl,e,f,b,a,g⟩
 ·exact⟨[],rfl,trivial,by simp⟩
 ·have i:=a.length;obtain⟨new,c,d⟩:=E9 (n:=ys.length) (off:=0) (sz:=E.sz) b (by omega);refine⟨new,c,by rw[d,ZT];exact a.take,by simp_all⟩
theorem DI{e sz:Nat}{z:V}:jz e sz 0 z []=some (.cells e sz true false [],λl=> .slice l 0 0):=rfl
theorem eo.app(H:eo F h cs)(i:Nat)(hi:cs[i]? =some (fg E ty xs v)){jP:Nat}{new:List V}(hx:lQ h E.sz x=some (ys.length,new))(d:qQ E F h new ys)(b:new.length=ys.length*E.sz)
  (f:0<E.sz) (hb:jP<=1000) (c:xs.length+ys.length<=10000000) :
  ∃a h',fh ty E.sz jP v x h=some (.val a h')/\h.next<=h'.next/\eo F h' (cs.set i (fg E ty (xs++ys) a))/\Sn F h F h':=by
 have hO:=H.row i hi;by_cases hk:0<ys.length
 ·have g:(xs.length+ys.length)*jP<=10000000*1000:=Nat.mul_le_mul c hb;obtain⟨a,h',j,k,e,l1⟩:=hO.append (jP:=jP) hx d b (d.one b) hk f H.fl (by omega) (by omega);obtain⟨m,n⟩:=H.Cq (p:=fg E ty (xs++ys) a) hi e k λl b=>(l1 l b).imp id (by omega);exact⟨a,h',j,e.next,m,n⟩
 ·have e0:ys=[]:=by simp_all
  subst e0;refine⟨v,h,?_,jO _,by rw[JL];exact H.swap hi hO λ_ h=>h,Sn.refl _ _⟩;unfold fh;rw[hx];rcases hO with⟨rfl,_⟩|⟨t,ds,rfl,_⟩ <;> rfl
theorem eo.Nf(H:eo F h cs)(i:Nat)(hi:cs[i]? =some (fg E ty xs v)){jP:Nat}(hs:im E F h ys x)(c:0<E.sz)(hb:jP<=1000)(a:xs.length+ys.length<=10000000) :
  ∃b h',fh ty E.sz jP v x h=some (.val b h')/\h.next<=h'.next/\eo F h' (cs.set i (fg E ty (xs++ys) b))/\Sn F h F h':=by
 obtain⟨new,d,e,f⟩:=hs.xc;exact H.app i hi d e f c hb a
theorem eo.zad(H:eo F h cs)(i j:Nat)(hi:cs[i]? =some (fg E ty xs v)){c:Nat}(d:cs[j]? =some (fg E c ys x)){jP:Nat}(e:0<E.sz)(hb:jP<=1000)(a:xs.length+ys.length<=10000000) :
  ∃b h',fh ty E.sz jP v x h=some (.val b h')/\h.next<=h'.next/\eo F h' (cs.set i (fg E ty (xs++ys) b))/\Sn F h F h':=by
 obtain⟨new,f,g,k⟩:=(H.row j d).xc;exact H.app i hi f g k e hb a
theorem eo.rU(H:eo F h cs)(i:Nat)(hi:cs[i]? =some (fg E ty xs v)){jP zL:Nat}{y:α}{w:List V}{ro:Bool}(b:E.rel F h y w)(c:0<E.sz)(hb:jP<=1000)(d:xs.length<1000000) :
  ∃a h',fh ty E.sz jP v (.slice h.next 0 1) (h.new (.cells zL E.sz true ro w))=some (.val a h')/\h.next+1<=h'.next/\eo F h' (cs.set i (fg E ty (xs++[y]) a))/\Sn F h F h':=by
 obtain⟨e,f⟩:=H.grow (mA.new h (.cells zL E.sz true ro w));have hx:lQ (h.new (.cells zL E.sz true ro w)) E.sz (.slice h.next 0 1)=some (1,w):=nz (k:=0) (by rw[E.len b];simp);obtain⟨a,h',g,j,m,n⟩:=e.app (ys:=[y]) i hi hx ⟨w,[],by simp,E.fj (λl o=>fk _ (H.fl l o)) b,trivial⟩ (by rw[E.len b];simp) c hb (by simp;omega);exact⟨a,h',g,j,m,f.trans n⟩
theorem eo.zcr(H:eo F h cs)(i:Nat)(hi:cs[i]? =some (fg E ty xs v)){n:Nat}(b:n<=xs.length) :
  ∃a,jA E.sz v none (some (.I n)) h=some a/\eo F h (cs.set i (fg E ty (xs.take n) a)):=by
 obtain⟨a,c,d,e⟩:=(H.row i hi).cut b;exact⟨a,c,H.swap hi d e⟩
theorem eo.kL(H:eo F h cs)(i:Nat)(hi:cs[i]? =some (fg E ty xs v)):eo (λl=>F l\/Loc v l) h (cs.set i emp)/\Sn F h (λl=>F l\/Loc v l) h/\im E (λl=>F l\/Loc v l) h xs v:=by
 obtain⟨a,b⟩:=H.zc5 (p:=emp) (F':=λl=>F l\/Loc v l) hi (mA.refl _ _) (by simp_all) (λ_ h=>h.imp id .inl) trivial λ_ h=>h.elim;exact⟨a,b,(H.row i hi).read⟩
theorem eo.make(H:eo F h cs){y:α}{u:V}(n:Nat)(a:E.rel F h y [u])(c:E.sz=1):eo F (h.new (.cells ty 1 true false (List.replicate n u))) (fg E ty (List.replicate n y) (.slice h.next 0 n)::cs)/\Sn F h F (h.new (.cells ty 1 true false (List.replicate n u))):=by
 have b:=E.one a;rw[eJ,vH]at b;have:=H.SB (E:=E) ty (n:=n) (by simp) (qQ.rep a n) (Oz b.1 n)
 simp_all
theorem ku{e jP n:Nat}{z:V}(b:z.one=true)(hb:jP<=100)(a:n<=1000000) :
  iz e 1 jP z (.I (n:Int)) (.I (n:Int))=some (O.cells e 1 true false (List.replicate n z),λl=>V.slice l 0 n):=by
 have:n*jP<=1000000*100:=Nat.mul_le_mul a hb
 grind[ON,PM,Y5]
theorem iA{l o:Nat}{u:V}(a:fe (.ptr l o) h=some u)(b:h'.get l=h.get l):fe (.ptr l o) h' = some u:=by
 grind[fe,ld1,kK,yY]
theorem HX{l o n:Nat}{u:V}(a:fW n (.ptr l o) h=some u)(b:h'.get l=h.get l):fW n (.ptr l o) h' = some u:=by
 grind[fW,Ip,kK,yY]
end
open Un
def fX{ι:Type}(ty:Nat)(f:ι->Option (List Nat×V)):Pc where
 mn:=λl=>∃i xs v,f i=some (xs,v)/\Loc v l
 ok F h:=(∀i xs v,f i=some (xs,v)->lC eN ty F h xs v)/\∀i j xs v ys w,f i=some (xs,v)->f j=some (ys,w)->i≠j->∀l,Loc v l->¬Loc w l
 MB:=λh l ⟨i,xs,v,a,b⟩=>((h.1 i xs v a).vC b).2
 fj:=λh c b d=>⟨λi xs v a=>(h.1 i xs v a).fj c (by grind) d,h.2⟩
 mono:=λh c b=>⟨λi xs v a=>(h.1 i xs v a).mono c (by grind),h.2⟩
def up{ι α:Type}[DecidableEq ι] (f:ι->Option α)(i:ι)(x:Option α):ι->Option α:=λj=>if j=i then x else f j
@[simp] theorem jn {ι α:Type} [DecidableEq ι] (f:ι->Option α) (i:ι) (x:Option α):up f i x i=x:=if_pos rfl
theorem jk{ι α:Type}[DecidableEq ι] (f:ι->Option α){i j:ι}(x:Option α)(h:j≠i):up f i x j=f j:=if_neg h
section
variable{F:Nat->Prop}{h:Hp}{cs:List Pc}{p q:Pc}
theorem eo.sw(H:eo F h (p::q::cs)):eo F h (q::p::cs) where
 fl:=H.fl
 ok:=λi c hc=>by
  match i,hc with
  |0,hc=>exact H.ok 1 c hc
  |1,hc=>exact H.ok 0 c hc
  |i+2,hc=>exact H.ok (i+2) c hc
 Ew:=λi j c d hc a b=>by
  match i,j,hc,a with
  |0,0,_,_=>omega
  |0,1,hc,a=>exact H.Ew 1 0 c d hc a (by omega)
  |0,j+2,hc,a=>exact H.Ew 1 (j+2) c d hc a (by omega)
  |1,0,hc,a=>exact H.Ew 0 1 c d hc a (by omega)
  |1,1,_,_=>omega
  |1,j+2,hc,a=>exact H.Ew 0 (j+2) c d hc a (by omega)
  |i+2,0,hc,a=>exact H.Ew (i+2) 1 c d hc a (by omega)
  |i+2,1,hc,a=>exact H.Ew (i+2) 0 c d hc a (by omega)
  |i+2,j+2,hc,a=>exact H.Ew (i+2) (j+2) c d hc a b
theorem eo.Kk(H:eo F h (p::q::cs)):eo F h (p::cs):=H.sw.tail
end
section
variable{F F':Nat->Prop}{h h':Hp}{cs:List Pc}{ι:Type}{ty:Nat}{f:ι->Option (List Nat×V)}{xs:List Nat}{v:V}
theorem eo.XB(H:eo F h cs):eo F h (fX (ι:=ι) ty (λ_=>Option.none)::cs):=
 H.add ⟨λ_ _ _ h=>(nomatch h),λ_ _ _ _ _ _ h=>(nomatch h)⟩ λ_ ⟨_,_,_,h,_⟩=>(nomatch h)
theorem eo.QL [DecidableEq ι] (H:eo F h (fg eN ty xs v::fX ty f::cs)){i:ι}(hi:f i=Option.none):eo F h (fX ty (up f i (some (xs,v)))::cs):=by
 have h0:=H.ok 0 _ rfl;have m:=H.ok 1 _ rfl;have n:∀l,Loc v l->¬(fX ty f).mn l:=λl d=>H.Ew 0 1 _ _ rfl rfl (by omega) l d;refine H.tail.tail.cons ⟨λj ys w b=>?_,λj k ys w o x b a q l d g=>?_⟩ λj c hc l d=>?_
 ·by_cases e:j=i
  ·subst e;rw[jn]at b;cases b;exact h0
  ·rw[jk _ _ e]at b;exact m.1 j ys w b
 ·by_cases e:j=i
  ·subst e;rw[jn]at b;cases b;rw[jk _ _ (by grind)]at a;exact n l d ⟨k,o,x,a,g⟩
  ·rw[jk _ _ e]at b;by_cases e':k=i
   ·subst e';rw[jn]at a;cases a;exact n l g ⟨j,ys,w,b,d⟩
   ·rw[jk _ _ e']at a;exact m.2 j k ys w o x b a q l d g
 ·obtain⟨k,ys,w,a,p⟩:=d;by_cases e:k=i
  ·subst e;rw[jn]at a;cases a;exact H.Ew 0 (j+2) _ c rfl hc (by omega) l p
  ·rw[jk _ _ e]at a;exact H.Ew 1 (j+2) _ c rfl hc (by omega) l ⟨k,ys,w,a,p⟩
theorem eo.rows(H:eo F h cs)(n:Nat)(a:cs[n]? =some (fX ty f)){i:ι}(hi:f i=some (xs,v)):lC eN ty F h xs v:=(H.ok n _ a).1 i xs v hi
theorem eo.Rv{κ:Type}(H:eo F h cs)(n:Nat)(a:cs[n]? =some (fX ty f))(g:κ->Option (List Nat×V))(m:κ->ι)(d:∀i p,g i=some p->f (m i)=some p)(b:∀i j p q,g i=some p->g j=some q->m i=m j->i=j):eo F h (cs.set n (fX ty g)):=by
 have c:=H.ok n _ a;refine H.swap a ⟨λi xs v hi=>c.1 (m i) xs v (by grind),λi j xs v ys w hi o e=>c.2 (m i) (m j) xs v ys w (by grind) (by grind) (by grind)⟩ λl ⟨i,xs,v,hi,k⟩=>⟨m i,xs,v,d i _ hi,k⟩
theorem eo.XZ [DecidableEq ι] (H:eo F h cs)(n:Nat)(A:cs[n]? =some (fX ty f)){i:ι}(hi:f i=some (xs,v)){k:Nat}(B:k<xs.length)(y:Nat) :
  ∃l o h',gB 1 v (.I k)=some (.ptr l o)/\gJ 1 (.ptr l o) (.I y) h=some (.val .undef h')/\h.next<=h'.next/\eo F h' (cs.set n (fX ty (up f i (some (xs.set k y,v)))))/\Sn F h F h':=by
 have m:=H.ok n _ A;obtain⟨t,h',K,C,D,L,p⟩:=(m.1 i xs v hi).store (k:=0) (y:=y) (u:=V.I y) B Nat.one_pos rfl (λw E=>by
  have:w=[.I (xs[k]:Nat)]:=E;subst this;rfl)
 have hc:mA (fX ty f).mn h h':=p.XM λl _ c=>⟨i,xs,v,hi,c⟩
 have d:∀{a:ι} {q:List Nat} {b:V},up f i (some (xs.set k y,v)) a=some (q,b)->∃cs,f a=some (cs,b):=by grind[jn,jk]
 have ok:(fX ty (up f i (some (xs.set k y,v)))).ok F h':=by
  refine⟨λj ys w g=>?_,λj G ys w q x g r s l c z=>?_⟩
  ·by_cases e:j=i
   ·simp_all
   ·rw[jk _ _ e]at g;have:=m.1 j ys w g;exact this.fj (λl c=>p.fj l (H.fl l c) λhv=>((m.1 i xs v hi).vC hv).2.2 c) (λl c=>p.fj l (this.vC c).2.1 λhv=>m.2 j i ys w xs v g hi e l c hv) p.next
  ·obtain⟨_,a1⟩:=d g;obtain⟨_,a2⟩:=d r;exact m.2 j G _ w _ x a1 a2 s l c z
 obtain⟨I,J⟩:=H.Cq A hc ok λl ⟨j,ys,w,g,c⟩=> .inl (let⟨q,a1⟩:=d g;⟨j,q,w,a1,c⟩);exact⟨t,k*1,h',C,D,p.next,I,J⟩
end
open Un
structure Rw where
 vv:V
 vb:V
 vs:V
 vk:V
 vc:V
 vp:V
 cc:V
def comp(lu iH jT:Nat)(R:Rw):Nat->Nat->Prop
 |0,l=>l=lu
 |1,l=>l=iH
 |2,l=>l=jT
 |3,l=>Loc R.vv l
 |4,l=>Loc R.vb l
 |5,l=>Loc R.vs l
 |6,l=>Loc R.vk l
 |7,l=>Loc R.vc l
 |_,_=>False
def sig:Nat->Nat×Nat
 |0=>(gR,1)
 |1=>(iZ,1)
 |2=>(fS,1)
 |3=>(hH,6)
 |4=>(fS,6)
 |5=>(mO,1)
 |_=>(eR,1)
structure Dw (F G:Nat->Prop) (h:Hp) (lu iH jT:Nat) (t:Dt) (R:Rw):Prop where
 fl:∀l,F l->l<h.next
 gu:h.get lu=some (.cells gR 1 true false [.I 1,.I 2,R.vv,R.vb,R.vs])
 gk:h.get iH=some (.cells iZ 1 true false [R.vk])
 gb:h.get jT=some (.cells fS 1 true false [R.cc,.I 0,.I 0,.ei,R.vp,.I 0])
 nu:lu<h.next/\¬F lu
 nk:iH<h.next/\¬F iH
 nb:jT<h.next/\¬F jT
 ov:lC eV hH F h t.s.ej R.vv
 ob:lC eK fS F h t.blocks R.vb
 os:lC eT mO F h t.s.ev R.vs
 ok:lC eN eR F h t.s.known R.vk
 oc:lC eN eR F h t.s.cur R.vc
 sp:im eN F h t.fi R.vp
 kc:∀l,Loc R.vk l->¬Loc R.vc l
 gx:∀l,G l->l<h.next/\¬F l/\∀i,¬comp lu iH jT R i l
structure Kp (F G:Nat->Prop) (h h':Hp):Prop where
 next:h.next<=h'.next
 fj:∀l,F l\/G l->h'.get l=h.get l
theorem Kp.refl(F G:Nat->Prop)(h:Hp):Kp F G h h:=⟨jO _,by simp_all⟩
theorem Kp.trans{F F' G:Nat->Prop} {h h' c:Hp}(a:Kp F G h h')(b:Kp F' G h' c)(e:∀l,F l->F' l):Kp F G h c:=
 ⟨KG a.next b.next,λl d=>by rw[b.fj l (by grind),a.fj l d]⟩
section
variable{F G:Nat->Prop}{h h':Hp}{lu iH jT:Nat}{t:Dt}{R:Rw}
theorem Dw.sig(D:Dw F G h lu iH jT t R){l:Nat}:∀{i:Nat},comp lu iH jT R i l->ZF h l=some (Hx.sig i)/\l<h.next/\¬F l
 |0,hl=>by have e:l=lu:=hl;subst e;exact⟨MM D.gu,D.nu⟩
 |1,hl=>by have e:l=iH:=hl;subst e;exact⟨MM D.gk,D.nk⟩
 |2,hl=>by have e:l=jT:=hl;subst e;exact⟨MM D.gb,D.nb⟩
 |3,hl=>D.ov.vC hl
 |4,hl=>D.ob.vC hl
 |5,hl=>D.os.vC hl
 |6,hl=>D.ok.vC hl
 |7,hl=>D.oc.vC hl
 |_+8,hl=>hl.elim
theorem Dw.Ew(D:Dw F G h lu iH jT t R){l i j:Nat}(hi:comp lu iH jT R i l)(a:comp lu iH jT R j l):Hx.sig i=Hx.sig j:=by
 have b:=(D.sig hi).1
 grind[Option.some.inj,sig,comp,comp,ZF,sig]
theorem Dw.ER(D:Dw F G h lu iH jT t R){l i j:Nat}(hi:comp lu iH jT R i l)(a:comp lu iH jT R j l)(c:i<8)(d:j<8):i=j:=by
 have e:=D.Ew hi a;have b:∀i,i<8->∀j,j<8->Hx.sig i=Hx.sig j->i=j\/(i=6/\j=7)\/(i=7/\j=6):=by decide
 rcases b i c j d e with f|⟨rfl,rfl⟩|⟨rfl,rfl⟩
 ·exact f
 ·exact absurd a (D.kc l hi)
 ·exact absurd hi (D.kc l a)
theorem Dw.kept(D:Dw F G h lu iH jT t R){i j:Nat}(hi:i<8)(e:j<8)(hc:mA (λl=>comp lu iH jT R i l\/comp lu iH jT R j l) h h') :
  (∀l,F l->h'.get l=h.get l)/\(∀l,G l->h'.get l=h.get l)/\∀k l,k<8->k≠i->k≠j->comp lu iH jT R k l->h'.get l=h.get l:=by
 refine⟨λl a=>hc.fj l (D.fl l a) ?_,λl a=>hc.fj l (D.gx l a).1 ?_,λk l d b f a=>hc.fj l (D.sig a).2.1 ?_⟩
 ·rintro(b|b)
  ·exact(D.sig b).2.2 a
  ·exact(D.sig b).2.2 a
 ·rintro(b|b)
  ·exact(D.gx l a).2.2 _ b
  ·exact(D.gx l a).2.2 _ b
 ·rintro(c|c)
  ·exact b (D.ER a c d hi)
  ·exact f (D.ER a c d e)
theorem Dw.other(D:Dw F G h lu iH jT t R){S:Nat->Prop}(b:mA S h h')(d:∀l,S l->¬F l/\¬G l/\∀i,¬comp lu iH jT R i l):Dw F G h' lu iH jT t R/\Kp F G h h':=by
 have c:∀l,F l->h'.get l=h.get l:=λl a=>b.fj l (D.fl l a) (by grind);have e:∀l,G l->h'.get l=h.get l:=λl a=>b.fj l (D.gx l a).1 (by grind);have k:∀i l,comp lu iH jT R i l->h'.get l=h.get l:=λi l a=>b.fj l (D.sig a).2.1 (by grind);have lt:∀l,l<h.next->l<h'.next:=λl a=>EK a b.next
 exact ⟨{
  fl:=λl a=>lt l (D.fl l a)
  gu:=by rw[k 0 _ rfl];exact D.gu
  gk:=by rw[k 1 _ rfl];exact D.gk
  gb:=by rw[k 2 _ rfl];exact D.gb
  nu:=⟨lt _ D.nu.1,D.nu.2⟩
  nk:=⟨lt _ D.nk.1,D.nk.2⟩
  nb:=⟨lt _ D.nb.1,D.nb.2⟩
  ov:=D.ov.fj c (λl a=>k 3 l a) b.next
  ob:=D.ob.fj c (λl a=>k 4 l a) b.next
  os:=D.os.fj c (λl a=>k 5 l a) b.next
  ok:=D.ok.fj c (λl a=>k 6 l a) b.next
  oc:=D.oc.fj c (λl a=>k 7 l a) b.next
  sp:=D.sp.fj c
  kc:=D.kc
  gx:=λl a=>⟨lt l (D.gx l a).1,(D.gx l a).2⟩ },⟨b.next,by grind⟩⟩
theorem Dw.grow(D:Dw F G h lu iH jT t R)(a:Ix h h'):Dw F G h' lu iH jT t R:=(D.other a (by simp_all)).1
theorem Dw.more(D:Dw F G h lu iH jT t R) {F':Nat->Prop}(c:∀l,F l->F' l)(d:∀l,F' l->F l\/(l<h.next/\(∀i,¬comp lu iH jT R i l)/\¬G l)):Dw F' G h lu iH jT t R:=by
 have b:∀i l,comp lu iH jT R i l->¬F' l:=λi l a e=>by
  rcases d l e with f|⟨_,f,_⟩
  ·exact(D.sig a).2.2 f
  simp_all
 exact {
  fl:=λl a=>(d l a).elim (D.fl l) λh=>h.1
  gu:=D.gu
  gk:=D.gk
  gb:=D.gb
  nu:=⟨D.nu.1,b 0 _ rfl⟩
  nk:=⟨D.nk.1,b 1 _ rfl⟩
  nb:=⟨D.nb.1,b 2 _ rfl⟩
  ov:=D.ov.mono c λl a=>b 3 l a
  ob:=D.ob.mono c λl a=>b 4 l a
  os:=D.os.mono c λl a=>b 5 l a
  ok:=D.ok.mono c λl a=>b 6 l a
  oc:=D.oc.mono c λl a=>b 7 l a
  sp:=D.sp.mono c
  kc:=D.kc
  gx:=λl a=>⟨(D.gx l a).1,λe=>(d l e).elim (D.gx l a).2.1 (by simp_all),(D.gx l a).2.2⟩ }
def fz(F:Nat->Prop)(n:Nat):Nat->Prop:=λl=>F l\/l=n
theorem qM(F:Nat->Prop)(n:Nat):∀l,F l->fz F n l:=λ_ h=> .inl h
theorem Dw.new(D:Dw F G h lu iH jT t R)(o:O):Dw (fz F h.next) G (h.new o) lu iH jT t R:=
 (D.grow (mA.new h o)).more (qM _ _) λl a=>a.imp id λe=>by
  subst e;refine⟨OF _,λi hi=>ZS _ (D.sig hi).2.1,λb=>ZS _ (D.gx _ b).1⟩
theorem Kp.new(F G:Nat->Prop)(h:Hp)(o:O)(a:∀l,F l->l<h.next)(b:∀l,G l->l<h.next):Kp F G h (h.new o):=
 ⟨OK _,by grind[fk]⟩
theorem Dw.Al(D:Dw F G h lu iH jT t R)(o:O):Kp F G h (h.new o):=Kp.new F G h o D.fl λl a=>(D.gx l a).1
theorem pD{l o e sz:Nat} {cs ql:List V}{v:V}(a:h.get l=some (.cells e sz true false cs))(b:o<cs.length)(hv:v.one=true)(hs:cs.set o v=ql):gJ 1 (.ptr l o) v h=some (.val .undef (h.put l (.cells e sz true false ql))):=by
 grind[N3]
private theorem X2 {a:Nat->Prop} {l:Nat} {S:Nat->Prop} {b:Hp} {o:O} (hc:mA a h b) (d:∀l,a l->S l) (c:l<h.next) (hs:S l):mA S h (b.put l o):=
 (hc.XM (by simp_all)).trans (mA.put o hs (EK c hc.next))
theorem Dw.zfB(D:Dw F G h lu iH jT t R){ys:List Vl}{new:List V}{xv:V}(hx:lQ h 6 xv=some (ys.length,new))(u:qQ eV F h new ys)(a:new.length=ys.length*6) (p:gw new=true)(w:0<ys.length)(hlen:t.s.ej.length+ys.length<1000000) :
  ∃b c f,fh hH 6 64 R.vv xv h=some (.val b c)/\h.next<=c.next/\gJ 1 (.ptr lu 2) b c=some (.val .undef f)/\c.next<=f.next/\Kp F G h f/\
   Dw F G f lu iH jT {t with s:={t.s with ej:=t.s.ej++ys} } {R with vv:=b}:=by
 obtain ⟨b,c,x,r,n,l1⟩:=D.ov.append (jP:=64) (ys:=ys) hx u a p w (by decide) D.fl (by omega) (by omega);have q:c.get lu=some (.cells gR 1 true false [.I 1,.I 2,R.vv,R.vb,R.vs]):=by
  rw[n.fj lu D.nu.1 λa=>nomatch D.ER (i:=0) (j:=3) rfl a (by decide) (by decide)];exact D.gu
 have k:lu<c.next:=EK D.nu.1 n.next;have y:=pD (o:=2) (v:=b) (ql:=[.I 1,.I 2,b,R.vb,R.vs]) q (by simp) r.one rfl;have hc:mA (λl=>comp lu iH jT R 0 l\/comp lu iH jT R 3 l) h (c.put lu (.cells gR 1 true false [.I 1,.I 2,b,R.vb,R.vs])):=X2 n (λ_ h=> .inr h) D.nu.1 (.inl rfl);obtain⟨m,z,g⟩:=D.kept (by decide) (by decide) hc;have d:∀l,l<h.next->l<(c.put lu (.cells gR 1 true false [.I 1,.I 2,b,R.vb,R.vs])).next:=λl a=>EK a hc.next;have A:∀l,Loc b l->l≠lu:=λl a e=>by
  subst e;rcases l1 _ a with f|f
  ·exact absurd (D.ER (i:=0) (j:=3) rfl f (by decide) (by decide)) (by decide)
  ·exact absurd f (Tv D.nu.1)
 have hO:lC eV hH F (c.put lu (.cells gR 1 true false [.I 1,.I 2,b,R.vb,R.vs])) (t.s.ej++ys) b:=
  r.fj (λl a=>gN _ k λe=>D.nu.2 (e▸a)) (by grind[gN]) (jO _)
 refine⟨b,c,_,x,n.next,y,jO _,⟨hc.next,by grind⟩,?_⟩
 exact {
  fl:=λl a=>d l (D.fl l a)
  gu:=gj _ k
  gk:=by rw[g 1 iH (by decide) (by decide) (by decide) rfl];exact D.gk
  gb:=by rw[g 2 jT (by decide) (by decide) (by decide) rfl];exact D.gb
  ov:=hO
  ob:=D.ob.fj m (λl a=>g 4 l (by decide) (by decide) (by decide) a) hc.next
  os:=D.os.fj m (λl a=>g 5 l (by decide) (by decide) (by decide) a) hc.next
  ok:=D.ok.fj m (λl a=>g 6 l (by decide) (by decide) (by decide) a) hc.next
  oc:=D.oc.fj m (λl a=>g 7 l (by decide) (by decide) (by decide) a) hc.next
  nu:=⟨d _ D.nu.1,D.nu.2⟩
  nk:=⟨d _ D.nk.1,D.nk.2⟩
  nb:=⟨d _ D.nb.1,D.nb.2⟩
  sp:=D.sp.fj m
  kc:=D.kc
  gx:=λl a=>⟨d l (D.gx l a).1,(D.gx l a).2.1,λi hi=>by
   match i,hi with
   |0,hi=>exact(D.gx l a).2.2 0 hi
   |1,hi=>exact(D.gx l a).2.2 1 hi
   |2,hi=>exact(D.gx l a).2.2 2 hi
   |3,hi=>exact(l1 l hi).elim ((D.gx l a).2.2 3) λe=>absurd e (Tv (D.gx l a).1)
   |4,hi=>exact(D.gx l a).2.2 4 hi
   |5,hi=>exact(D.gx l a).2.2 5 hi
   |6,hi=>exact(D.gx l a).2.2 6 hi
   |7,hi=>exact(D.gx l a).2.2 7 hi⟩ }
theorem Dw.zfr(D:Dw F G h lu iH jT t R){ys:List Bk}{new:List V}{xv:V}(hx:lQ h 6 xv=some (ys.length,new))(s:qQ eK F h new ys)(a:new.length=ys.length*6) (p:gw new=true)(u:0<ys.length)(hlen:t.blocks.length+ys.length<1000000) :
  ∃b c f,fh fS 6 96 R.vb xv h=some (.val b c)/\h.next<=c.next/\gJ 1 (.ptr lu 3) b c=some (.val .undef f)/\c.next<=f.next/\Kp F G h f/\
   Dw F G f lu iH jT {t with blocks:=t.blocks++ys} {R with vb:=b}:=by
 obtain ⟨b,c,w,r,n,l1⟩:=D.ob.append (jP:=96) (ys:=ys) hx s a p u (by decide) D.fl (by omega) (by omega);have q:c.get lu=some (.cells gR 1 true false [.I 1,.I 2,R.vv,R.vb,R.vs]):=by
  rw[n.fj lu D.nu.1 λa=>nomatch D.ER (i:=0) (j:=4) rfl a (by decide) (by decide)];exact D.gu
 have k:lu<c.next:=EK D.nu.1 n.next;have x:=pD (o:=3) (v:=b) (ql:=[.I 1,.I 2,R.vv,b,R.vs]) q (by simp) r.one rfl;have hc:mA (λl=>comp lu iH jT R 0 l\/comp lu iH jT R 4 l) h (c.put lu (.cells gR 1 true false [.I 1,.I 2,R.vv,b,R.vs])):=X2 n (λ_ h=> .inr h) D.nu.1 (.inl rfl);obtain⟨m,y,g⟩:=D.kept (by decide) (by decide) hc;have d:∀l,l<h.next->l<(c.put lu (.cells gR 1 true false [.I 1,.I 2,R.vv,b,R.vs])).next:=λl a=>EK a hc.next;have z:∀l,Loc b l->l≠lu:=λl a e=>by
  subst e;rcases l1 _ a with f|f
  ·exact absurd (D.ER (i:=0) (j:=4) rfl f (by decide) (by decide)) (by decide)
  ·exact absurd f (Tv D.nu.1)
 have hO:lC eK fS F (c.put lu (.cells gR 1 true false [.I 1,.I 2,R.vv,b,R.vs])) (t.blocks++ys) b:=
  r.fj (λl a=>gN _ k λe=>D.nu.2 (e▸a)) (by grind[gN]) (jO _)
 refine⟨b,c,_,w,n.next,x,jO _,⟨hc.next,by grind⟩,?_⟩
 exact {
  fl:=λl a=>d l (D.fl l a)
  gu:=gj _ k
  gk:=by rw[g 1 iH (by decide) (by decide) (by decide) rfl];exact D.gk
  gb:=by rw[g 2 jT (by decide) (by decide) (by decide) rfl];exact D.gb
  ov:=D.ov.fj m (λl a=>g 3 l (by decide) (by decide) (by decide) a) hc.next
  ob:=hO
  os:=D.os.fj m (λl a=>g 5 l (by decide) (by decide) (by decide) a) hc.next
  ok:=D.ok.fj m (λl a=>g 6 l (by decide) (by decide) (by decide) a) hc.next
  oc:=D.oc.fj m (λl a=>g 7 l (by decide) (by decide) (by decide) a) hc.next
  nu:=⟨d _ D.nu.1,D.nu.2⟩
  nk:=⟨d _ D.nk.1,D.nk.2⟩
  nb:=⟨d _ D.nb.1,D.nb.2⟩
  sp:=D.sp.fj m
  kc:=D.kc
  gx:=λl a=>⟨d l (D.gx l a).1,(D.gx l a).2.1,λi hi=>by
   match i,hi with
   |0,hi=>exact(D.gx l a).2.2 0 hi
   |1,hi=>exact(D.gx l a).2.2 1 hi
   |2,hi=>exact(D.gx l a).2.2 2 hi
   |3,hi=>exact(D.gx l a).2.2 3 hi
   |4,hi=>exact(l1 l hi).elim ((D.gx l a).2.2 4) λe=>absurd e (Tv (D.gx l a).1)
   |5,hi=>exact(D.gx l a).2.2 5 hi
   |6,hi=>exact(D.gx l a).2.2 6 hi
   |7,hi=>exact(D.gx l a).2.2 7 hi⟩ }
theorem Dw.zfi(D:Dw F G h lu iH jT t R){ys:List (List Fm)}{new:List V}{xv:V}(hx:lQ h 1 xv=some (ys.length,new))(u:qQ eT F h new ys)(a:new.length=ys.length*1) (p:gw new=true)(w:0<ys.length)(hlen:t.s.ev.length+ys.length<1000000) :
  ∃b c f,fh mO 1 24 R.vs xv h=some (.val b c)/\h.next<=c.next/\gJ 1 (.ptr lu 4) b c=some (.val .undef f)/\c.next<=f.next/\Kp F G h f/\
   Dw F G f lu iH jT {t with s:={t.s with ev:=t.s.ev++ys} } {R with vs:=b}:=by
 obtain ⟨b,c,x,r,n,l1⟩:=D.os.append (jP:=24) (ys:=ys) hx u a p w (by decide) D.fl (by omega) (by omega);have q:c.get lu=some (.cells gR 1 true false [.I 1,.I 2,R.vv,R.vb,R.vs]):=by
  rw[n.fj lu D.nu.1 λa=>nomatch D.ER (i:=0) (j:=5) rfl a (by decide) (by decide)];exact D.gu
 have k:lu<c.next:=EK D.nu.1 n.next;have y:=pD (o:=4) (v:=b) (ql:=[.I 1,.I 2,R.vv,R.vb,b]) q (by simp) r.one rfl;have hc:mA (λl=>comp lu iH jT R 0 l\/comp lu iH jT R 5 l) h (c.put lu (.cells gR 1 true false [.I 1,.I 2,R.vv,R.vb,b])):=X2 n (λ_ h=> .inr h) D.nu.1 (.inl rfl);obtain⟨m,z,g⟩:=D.kept (by decide) (by decide) hc;have d:∀l,l<h.next->l<(c.put lu (.cells gR 1 true false [.I 1,.I 2,R.vv,R.vb,b])).next:=λl a=>EK a hc.next;have A:∀l,Loc b l->l≠lu:=λl a e=>by
  subst e;rcases l1 _ a with f|f
  ·exact absurd (D.ER (i:=0) (j:=5) rfl f (by decide) (by decide)) (by decide)
  ·exact absurd f (Tv D.nu.1)
 have hO:lC eT mO F (c.put lu (.cells gR 1 true false [.I 1,.I 2,R.vv,R.vb,b])) (t.s.ev++ys) b:=
  r.fj (λl a=>gN _ k λe=>D.nu.2 (e▸a)) (by grind[gN]) (jO _)
 refine⟨b,c,_,x,n.next,y,jO _,⟨hc.next,by grind⟩,?_⟩
 exact {
  fl:=λl a=>d l (D.fl l a)
  gu:=gj _ k
  gk:=by rw[g 1 iH (by decide) (by decide) (by decide) rfl];exact D.gk
  gb:=by rw[g 2 jT (by decide) (by decide) (by decide) rfl];exact D.gb
  ov:=D.ov.fj m (λl a=>g 3 l (by decide) (by decide) (by decide) a) hc.next
  ob:=D.ob.fj m (λl a=>g 4 l (by decide) (by decide) (by decide) a) hc.next
  os:=hO
  ok:=D.ok.fj m (λl a=>g 6 l (by decide) (by decide) (by decide) a) hc.next
  oc:=D.oc.fj m (λl a=>g 7 l (by decide) (by decide) (by decide) a) hc.next
  nu:=⟨d _ D.nu.1,D.nu.2⟩
  nk:=⟨d _ D.nk.1,D.nk.2⟩
  nb:=⟨d _ D.nb.1,D.nb.2⟩
  sp:=D.sp.fj m
  kc:=D.kc
  gx:=λl a=>⟨d l (D.gx l a).1,(D.gx l a).2.1,λi hi=>by
   match i,hi with
   |0,hi=>exact(D.gx l a).2.2 0 hi
   |1,hi=>exact(D.gx l a).2.2 1 hi
   |2,hi=>exact(D.gx l a).2.2 2 hi
   |3,hi=>exact(D.gx l a).2.2 3 hi
   |4,hi=>exact(D.gx l a).2.2 4 hi
   |5,hi=>exact(l1 l hi).elim ((D.gx l a).2.2 5) λe=>absurd e (Tv (D.gx l a).1)
   |6,hi=>exact(D.gx l a).2.2 6 hi
   |7,hi=>exact(D.gx l a).2.2 7 hi⟩ }
theorem Dw.zdc(D:Dw F G h lu iH jT t R){ys:List Nat}{new:List V}{xv:V}(hx:lQ h 1 xv=some (ys.length,new))(u:qQ eN F h new ys)(a:new.length=ys.length*1) (p:gw new=true)(w:0<ys.length)(hlen:t.s.known.length+ys.length<1000000) :
  ∃b c f,fh eR 1 8 R.vk xv h=some (.val b c)/\h.next<=c.next/\gJ 1 (.ptr iH 0) b c=some (.val .undef f)/\c.next<=f.next/\Kp F G h f/\
   Dw F G f lu iH jT {t with s:={t.s with known:=t.s.known++ys} } {R with vk:=b}:=by
 obtain ⟨b,c,x,r,n,l1⟩:=D.ok.append (jP:=8) (ys:=ys) hx u a p w (by decide) D.fl (by omega) (by omega);have q:c.get iH=some (.cells iZ 1 true false [R.vk]):=by
  rw[n.fj iH D.nk.1 λa=>nomatch D.ER (i:=1) (j:=6) rfl a (by decide) (by decide)];exact D.gk
 have k:iH<c.next:=EK D.nk.1 n.next;have y:=pD (o:=0) (v:=b) (ql:=[b]) q (by simp) r.one rfl;have hc:mA (λl=>comp lu iH jT R 1 l\/comp lu iH jT R 6 l) h (c.put iH (.cells iZ 1 true false [b])):=X2 n (λ_ h=> .inr h) D.nk.1 (.inl rfl);obtain⟨m,z,g⟩:=D.kept (by decide) (by decide) hc;have d:∀l,l<h.next->l<(c.put iH (.cells iZ 1 true false [b])).next:=λl a=>EK a hc.next;have A:∀l,Loc b l->l≠iH:=λl a e=>by
  subst e;rcases l1 _ a with f|f
  ·exact absurd (D.ER (i:=1) (j:=6) rfl f (by decide) (by decide)) (by decide)
  ·exact absurd f (Tv D.nk.1)
 have hO:lC eN eR F (c.put iH (.cells iZ 1 true false [b])) (t.s.known++ys) b:=
  r.fj (λl a=>gN _ k λe=>D.nk.2 (e▸a)) (by grind[gN]) (jO _)
 refine⟨b,c,_,x,n.next,y,jO _,⟨hc.next,by grind⟩,?_⟩
 exact {
  fl:=λl a=>d l (D.fl l a)
  gu:=by rw[g 0 lu (by decide) (by decide) (by decide) rfl];exact D.gu
  gk:=gj _ k
  gb:=by rw[g 2 jT (by decide) (by decide) (by decide) rfl];exact D.gb
  ov:=D.ov.fj m (λl a=>g 3 l (by decide) (by decide) (by decide) a) hc.next
  ob:=D.ob.fj m (λl a=>g 4 l (by decide) (by decide) (by decide) a) hc.next
  os:=D.os.fj m (λl a=>g 5 l (by decide) (by decide) (by decide) a) hc.next
  ok:=hO
  oc:=D.oc.fj m (λl a=>g 7 l (by decide) (by decide) (by decide) a) hc.next
  nu:=⟨d _ D.nu.1,D.nu.2⟩
  nk:=⟨d _ D.nk.1,D.nk.2⟩
  nb:=⟨d _ D.nb.1,D.nb.2⟩
  sp:=D.sp.fj m
  kc:=λl a hc=>(l1 l a).elim (λf=>D.kc l f hc) λe=>absurd e (Tv (D.oc.vC hc).2.1)
  gx:=λl a=>⟨d l (D.gx l a).1,(D.gx l a).2.1,λi hi=>by
   match i,hi with
   |0,hi=>exact(D.gx l a).2.2 0 hi
   |1,hi=>exact(D.gx l a).2.2 1 hi
   |2,hi=>exact(D.gx l a).2.2 2 hi
   |3,hi=>exact(D.gx l a).2.2 3 hi
   |4,hi=>exact(D.gx l a).2.2 4 hi
   |5,hi=>exact(D.gx l a).2.2 5 hi
   |6,hi=>exact(l1 l hi).elim ((D.gx l a).2.2 6) λe=>absurd e (Tv (D.gx l a).1)
   |7,hi=>exact(D.gx l a).2.2 7 hi⟩ }
theorem Dw.zfv(D:Dw F G h lu iH jT t R){ys:List Nat}{new:List V}{xv:V}(hx:lQ h 1 xv=some (ys.length,new))(u:qQ eN F h new ys)(a:new.length=ys.length*1) (p:gw new=true)(w:0<ys.length)(hlen:t.s.cur.length+ys.length<1000000) :
  ∃b c f,fh eR 1 8 R.vc xv h=some (.val b c)/\h.next<=c.next/\gJ 1 (.ptr jT 0) b c=some (.val .undef f)/\c.next<=f.next/\Kp F G h f/\
   Dw F G f lu iH jT {t with s:={t.s with cur:=t.s.cur++ys} } {R with vc:=b,cc:=b}:=by
 obtain ⟨b,c,x,r,n,l1⟩:=D.oc.append (jP:=8) (ys:=ys) hx u a p w (by decide) D.fl (by omega) (by omega);have q:c.get jT=some (.cells fS 1 true false [R.cc,.I 0,.I 0,.ei,R.vp,.I 0]):=by
  rw[n.fj jT D.nb.1 λa=>nomatch D.ER (i:=2) (j:=7) rfl a (by decide) (by decide)];exact D.gb
 have k:jT<c.next:=EK D.nb.1 n.next;have y:=pD (o:=0) (v:=b) (ql:=[b,.I 0,.I 0,.ei,R.vp,.I 0]) q (by simp) r.one rfl;have hc:mA (λl=>comp lu iH jT R 2 l\/comp lu iH jT R 7 l) h (c.put jT (.cells fS 1 true false [b,.I 0,.I 0,.ei,R.vp,.I 0])):=X2 n (λ_ h=> .inr h) D.nb.1 (.inl rfl);obtain⟨m,z,g⟩:=D.kept (by decide) (by decide) hc;have d:∀l,l<h.next->l<(c.put jT (.cells fS 1 true false [b,.I 0,.I 0,.ei,R.vp,.I 0])).next:=λl a=>EK a hc.next;have A:∀l,Loc b l->l≠jT:=λl a e=>by
  subst e;rcases l1 _ a with f|f
  ·exact absurd (D.ER (i:=2) (j:=7) rfl f (by decide) (by decide)) (by decide)
  ·exact absurd f (Tv D.nb.1)
 have hO:lC eN eR F (c.put jT (.cells fS 1 true false [b,.I 0,.I 0,.ei,R.vp,.I 0])) (t.s.cur++ys) b:=
  r.fj (λl a=>gN _ k λe=>D.nb.2 (e▸a)) (by grind[gN]) (jO _)
 refine⟨b,c,_,x,n.next,y,jO _,⟨hc.next,by grind⟩,?_⟩
 exact {
  fl:=λl a=>d l (D.fl l a)
  gu:=by rw[g 0 lu (by decide) (by decide) (by decide) rfl];exact D.gu
  gk:=by rw[g 1 iH (by decide) (by decide) (by decide) rfl];exact D.gk
  gb:=gj _ k
  ov:=D.ov.fj m (λl a=>g 3 l (by decide) (by decide) (by decide) a) hc.next
  ob:=D.ob.fj m (λl a=>g 4 l (by decide) (by decide) (by decide) a) hc.next
  os:=D.os.fj m (λl a=>g 5 l (by decide) (by decide) (by decide) a) hc.next
  ok:=D.ok.fj m (λl a=>g 6 l (by decide) (by decide) (by decide) a) hc.next
  oc:=hO
  nu:=⟨d _ D.nu.1,D.nu.2⟩
  nk:=⟨d _ D.nk.1,D.nk.2⟩
  nb:=⟨d _ D.nb.1,D.nb.2⟩
  sp:=D.sp.fj m
  kc:=λl a hc=>(l1 l hc).elim (λf=>D.kc l a f) λe=>absurd e (Tv (D.ok.vC a).2.1)
  gx:=λl a=>⟨d l (D.gx l a).1,(D.gx l a).2.1,λi hi=>by
   match i,hi with
   |0,hi=>exact(D.gx l a).2.2 0 hi
   |1,hi=>exact(D.gx l a).2.2 1 hi
   |2,hi=>exact(D.gx l a).2.2 2 hi
   |3,hi=>exact(D.gx l a).2.2 3 hi
   |4,hi=>exact(D.gx l a).2.2 4 hi
   |5,hi=>exact(D.gx l a).2.2 5 hi
   |6,hi=>exact(D.gx l a).2.2 6 hi
   |7,hi=>exact(l1 l hi).elim ((D.gx l a).2.2 7) λe=>absurd e (Tv (D.gx l a).1)⟩ }
theorem Dw.cell(D:Dw F G h lu iH jT t R){i:Nat}(hi:i<8)(hc:mA (λl=>comp lu iH jT R i l) h h') :
  (∀l,F l->h'.get l=h.get l)/\(∀l,G l->h'.get l=h.get l)/\∀k l,k<8->k≠i->comp lu iH jT R k l->h'.get l=h.get l:=by
 obtain⟨a,b,c⟩:=D.kept hi hi (hc.XM (S':=λl=>comp lu iH jT R i l\/comp lu iH jT R i l) λ_ _ h=> .inl h)
 grind
theorem Dw.zfC(D:Dw F G h lu iH jT t R){n:Nat}(g:n<=t.s.known.length) :
  ∃b e,jA 1 R.vk none (some (.I n)) h=some b/\gJ 1 (.ptr iH 0) b h=some (.val .undef e)/\h.next<=e.next/\Kp F G h e/\Dw F G e lu iH jT {t with s:=Un.cut n t.s} {R with vk:=b}:=by
 obtain⟨b,j,f,l1⟩:=D.ok.cut g;have k:=pD (o:=0) (v:=b) (ql:=[b]) D.gk (by simp) f.one rfl;have hc:mA (λl=>comp lu iH jT R 1 l) h (h.put iH (.cells iZ 1 true false [b])):=mA.put _ rfl D.nk.1;obtain⟨d,m,c⟩:=D.cell (by decide) hc;refine⟨b,_,j,k,jO _,⟨hc.next,by grind⟩,?_⟩
 exact {
  fl:=D.fl
  gu:=by rw[c 0 lu (by decide) (by decide) rfl];exact D.gu
  gk:=gj _ D.nk.1
  gb:=by rw[c 2 jT (by decide) (by decide) rfl];exact D.gb
  nu:=D.nu
  nk:=D.nk
  nb:=D.nb
  ov:=D.ov.fj d (λl a=>c 3 l (by decide) (by decide) a) hc.next
  ob:=D.ob.fj d (λl a=>c 4 l (by decide) (by decide) a) hc.next
  os:=D.os.fj d (λl a=>c 5 l (by decide) (by decide) a) hc.next
  ok:=f.fj d (λl a=>c 6 l (by decide) (by decide) (l1 l a)) hc.next
  oc:=D.oc.fj d (λl a=>c 7 l (by decide) (by decide) a) hc.next
  sp:=D.sp.fj d
  kc:=λl a=>D.kc l (l1 l a)
  gx:=λl a=>⟨(D.gx l a).1,(D.gx l a).2.1,λi hi=>by
   match i,hi with
   |0,hi=>exact(D.gx l a).2.2 0 hi
   |1,hi=>exact(D.gx l a).2.2 1 hi
   |2,hi=>exact(D.gx l a).2.2 2 hi
   |3,hi=>exact(D.gx l a).2.2 3 hi
   |4,hi=>exact(D.gx l a).2.2 4 hi
   |5,hi=>exact(D.gx l a).2.2 5 hi
   |6,hi=>exact(D.gx l a).2.2 6 (l1 l hi)
   |7,hi=>exact(D.gx l a).2.2 7 hi⟩ }
theorem Dw.zbt(D:Dw F G h lu iH jT t R){c p:V}{ps:List Nat}(hp:im eN F h ps p):Kp F G h (h.put jT (.cells fS 1 true false [c,.I 0,.I 0,.ei,p,.I 0]))/\
  Dw F G (h.put jT (.cells fS 1 true false [c,.I 0,.I 0,.ei,p,.I 0])) lu iH jT {t with fi:=ps} {R with vp:=p,cc:=c}:=by
 have hc:mA (λl=>comp lu iH jT R 2 l) h (h.put jT (.cells fS 1 true false [c,.I 0,.I 0,.ei,p,.I 0])):=mA.put _ rfl D.nb.1;obtain⟨d,e,b⟩:=D.cell (by decide) hc;refine⟨⟨hc.next,by grind⟩,?_⟩
 exact {
  fl:=D.fl
  gu:=by rw[b 0 lu (by decide) (by decide) rfl];exact D.gu
  gk:=by rw[b 1 iH (by decide) (by decide) rfl];exact D.gk
  gb:=gj _ D.nb.1
  nu:=D.nu
  nk:=D.nk
  nb:=D.nb
  ov:=D.ov.fj d (λl a=>b 3 l (by decide) (by decide) a) hc.next
  ob:=D.ob.fj d (λl a=>b 4 l (by decide) (by decide) a) hc.next
  os:=D.os.fj d (λl a=>b 5 l (by decide) (by decide) a) hc.next
  ok:=D.ok.fj d (λl a=>b 6 l (by decide) (by decide) a) hc.next
  oc:=D.oc.fj d (λl a=>b 7 l (by decide) (by decide) a) hc.next
  sp:=hp.fj d
  kc:=D.kc
  gx:=D.gx}
def fzc(F:Nat->Prop)(v:V):Nat->Prop:=λl=>F l\/Loc v l
theorem Dw.flush(D:Dw F G h lu iH jT t R):im eN (fzc F R.vc) h t.s.cur R.vc/\Dw (fzc F R.vc) G h lu iH jT {t with s:={t.s with cur:=[]} } {R with vc:= .ei}:=by
 refine⟨D.oc.Z8 (λ_ h=> .inl h) λ_ h=> .inr h,?_⟩
 have D':Dw F G h lu iH jT {t with s:={t.s with cur:=[]} } {R with vc:= .ei}:=
  { D with
    oc:= .nil
    kc:=by simp_all
    gx:=λl a=>⟨(D.gx l a).1,(D.gx l a).2.1,λi hi=>by
      match i,hi with
      |0,hi=>exact(D.gx l a).2.2 0 hi
      |1,hi=>exact(D.gx l a).2.2 1 hi
      |2,hi=>exact(D.gx l a).2.2 2 hi
      |3,hi=>exact(D.gx l a).2.2 3 hi
      |4,hi=>exact(D.gx l a).2.2 4 hi
      |5,hi=>exact(D.gx l a).2.2 5 hi
      |6,hi=>exact(D.gx l a).2.2 6 hi
      |n+7,hi=>exact(match n,hi with|0,hi=>hi)⟩ }
 refine D'.more (λ_ h=> .inl h) λl a=>a.imp id λhc=>⟨(D.oc.vC hc).2.1,λi hi=>?_,λb=>(D.gx l b).2.2 7 hc⟩
 match i,hi with
 |0,hi=>exact nomatch D.ER (i:=0) (j:=7) hi hc (by decide) (by decide)
 |1,hi=>exact nomatch D.ER (i:=1) (j:=7) hi hc (by decide) (by decide)
 |2,hi=>exact nomatch D.ER (i:=2) (j:=7) hi hc (by decide) (by decide)
 |3,hi=>exact nomatch D.ER (i:=3) (j:=7) hi hc (by decide) (by decide)
 |4,hi=>exact nomatch D.ER (i:=4) (j:=7) hi hc (by decide) (by decide)
 |5,hi=>exact nomatch D.ER (i:=5) (j:=7) hi hc (by decide) (by decide)
 |6,hi=>exact nomatch D.ER (i:=6) (j:=7) hi hc (by decide) (by decide)
 |n+7,hi=>exact(match n,hi with|0,hi=>hi)
theorem Dw.zcE(D:Dw F G h lu iH jT t R){p:Nat}{xs:List Nat}{a:V}(hp:p<t.s.ej.length)(j:im eN F h xs a) :
  ∃l d,gB 6 R.vv (.I p)=some (.ptr l (p*6))/\gJ 1 (.ptr l (p*6+4)) a h=some (.val .undef d)/\h.next<=d.next/\Kp F G h d/\Dw F G d lu iH jT {t with s:=setArgs t.s p xs} R:=by
 obtain ⟨l,d,_,m,n,q,hc⟩:=D.ov.store (i:=p) (k:=4) (y:={t.s.ej[p]with args:=xs}) hp (by decide) j.one (λw ⟨x,o,_⟩=>by subst o;exact⟨a,rfl,j⟩);obtain⟨g,r,f⟩:=D.cell (i:=3) (by decide) hc;refine⟨l,d,m,n,hc.next,⟨hc.next,by grind⟩,?_⟩;have c:∀l,l<h.next->l<d.next:=λl b=>EK b hc.next;have em:(setArgs t.s p xs).ej=t.s.ej.set p {t.s.ej[p]with args:=xs}:=by
  unfold setArgs;show t.s.ej.modify p _=_;refine wBZ λi=>?_;rw[List.getElem?_modify,List.getElem?_set];by_cases e:p=i
  ·grind
  ·simp[e]
 exact {
  fl:=λl b=>c l (D.fl l b)
  gu:=by rw[f 0 lu (by decide) (by decide) rfl];exact D.gu
  gk:=by rw[f 1 iH (by decide) (by decide) rfl];exact D.gk
  gb:=by rw[f 2 jT (by decide) (by decide) rfl];exact D.gb
  nu:=⟨c _ D.nu.1,D.nu.2⟩
  nk:=⟨c _ D.nk.1,D.nk.2⟩
  nb:=⟨c _ D.nb.1,D.nb.2⟩
  ov:=by simp_all
  ob:=D.ob.fj g (λl b=>f 4 l (by decide) (by decide) b) hc.next
  os:=D.os.fj g (λl b=>f 5 l (by decide) (by decide) b) hc.next
  ok:=D.ok.fj g (λl b=>f 6 l (by decide) (by decide) b) hc.next
  oc:=D.oc.fj g (λl b=>f 7 l (by decide) (by decide) b) hc.next
  sp:=D.sp.fj g
  kc:=D.kc
  gx:=λl b=>⟨c l (D.gx l b).1,(D.gx l b).2⟩ }
end
