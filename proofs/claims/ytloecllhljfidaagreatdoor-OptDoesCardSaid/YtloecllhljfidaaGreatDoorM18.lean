/- Parts. -/
import Derived.Test.YtloecllhljfidaaGreatDoorM09
import Derived.Test.YtloecllhljfidaaGreatDoorM13
set_option maxHeartbeats 4000000
namespace Go.Proofs.YtloecllhljfidaaGreatDoor.Hx
open Un
variable{l:Nat}{α:Type}{e sz:Nat}
def eN:qf Nat where
 sz:=1
 rel _ _ n cs:=cs=[.int .i64 n]
 len h:=by subst h;rfl
 one h:=by subst h;rfl
 fk _ h:=h
 mono _ h:=h
def mh(x:Vl)(w:V):List V:=[.int .i64 x.op,.int .i64 x.a,.int .i64 x.b,.int .i64 x.n,w,.int .i64 x.state]
def eV:qf Vl where
 sz:=6
 rel F h x cs:=∃w,cs=mh x w/\il eN F h x.args w
 len:=λ⟨_,h,_⟩=>by subst h;rfl
 one:=λ⟨_,h,hs⟩=>by subst h;simp only[mh,eQ,hs.one];rfl
 fk:=λhk ⟨w,h,hs⟩=>⟨w,h,hs.fk hk⟩
 mono:=λhb ⟨w,h,hs⟩=>⟨w,h,hs.mono hb⟩
def ku(x:Bk)(v n p:V):List V:=[v,.int .i64 x.fin,.int .i64 x.cond,n,p,.int .i64 x.state]
def eK:qf Bk where
 sz:=6
 rel F h x cs:=∃v n p,cs=ku x v n p/\il eN F h x.ej v/\il eN F h x.next n/\il eN F h x.fh p
 len:=λ⟨_,_,_,h,_⟩=>by subst h;rfl
 one:=λ⟨_,_,_,h,a,b,c⟩=>by subst h;simp only[ku,eQ,a.one,b.one,c.one];rfl
 fk:=λhk ⟨v,n,p,h,a,b,c⟩=>⟨v,n,p,h,a.fk hk,b.fk hk,c.fk hk⟩
 mono:=λhb ⟨v,n,p,h,a,b,c⟩=>⟨v,n,p,h,a.mono hb,b.mono hb,c.mono hb⟩
def Pj(x:Fm)(l s:V):List V:=[.int .i64 x.func,.int .i64 x.pc,l,s]
def eF:qf Fm where
 sz:=4
 rel F h x cs:=∃l s,cs=Pj x l s/\il eN F h x.locals l/\il eN F h x.stack s
 len:=λ⟨_,_,h,_⟩=>by subst h;rfl
 one:=λ⟨_,_,h,a,b⟩=>by subst h;simp only[Pj,eQ,a.one,b.one];rfl
 fk:=λhk ⟨l,s,h,a,b⟩=>⟨l,s,h,a.fk hk,b.fk hk⟩
 mono:=λhb ⟨l,s,h,a,b⟩=>⟨l,s,h,a.mono hb,b.mono hb⟩
def eT:qf (List Fm):=eL eF
theorem xC(F:Nat->Prop)(h:Hp):∀(l:List Nat),qX eN F h (l.map λn=>V.int .i64 (n:Nat)) l
 |[]=>trivial
 |n::l=>⟨[.int .i64 n],_,rfl,rfl,xC F h l⟩
def Loc(v:V)(t:Nat):Prop:=match v with
 | .slice l _ _=>l=t
 |_=>False
@[simp] theorem zgc (t:Nat):Loc .ei t=False:=rfl
@[simp] theorem zes (l o n t:Nat):Loc (.slice l o n) t=(l=t):=rfl
def kV(E:qf α)(ty:Nat)(F:Nat->Prop)(h:Hp)(xs:List α)(v:V):Prop:=(v = .ei/\xs=[])\/∃t cs,v = .slice t 0 xs.length/\t<h.next/\¬F t/\h.get t=some (.cells ty E.sz true false cs)/\qX E F h cs xs/\gj cs=true
section
variable{α:Type}{E:qf α}{ty:Nat}{F F':Nat->Prop}{h h':Hp}{xs:List α}{v:V}
theorem kV.nil:kV E ty F h [] .ei:= .inl ⟨rfl,rfl⟩
theorem kV.len(a:kV E ty F h xs v):fE v=some (.int .i64 xs.length):=by
 rcases a with⟨rfl,rfl⟩|⟨t,cs,rfl,_⟩ <;> rfl
theorem kV.one(a:kV E ty F h xs v):v.one=true:=by
 rcases a with⟨rfl,rfl⟩|⟨t,cs,rfl,_⟩ <;> rfl
noncomputable def zbT(h:Hp) (l:Nat):Option (Nat×Nat):=match h.get l with
 |some (.cells e sz _ _ _)=>some (e,sz)
 |_=>none
theorem Ng{a b:Bool}{cs:List V}(c:h.get l=some (.cells e sz a b cs)):zbT h l=some (e,sz):=by unfold zbT;rw[c]
theorem kV.vV(a:kV E ty F h xs v){t:Nat}(ht:Loc v t):zbT h t=some (ty,E.sz)/\t<h.next/\¬F t:=by
 rcases a with⟨rfl,_⟩|⟨t',cs,rfl,b,c,d,_⟩
 ·exact ht.elim
 ·obtain rfl:t' = t:=ht;exact⟨Ng d,b,c⟩
theorem kV.fk(a:kV E ty F h xs v)(hk:∀l,F l->h'.get l=h.get l)(b:∀l,Loc v l->h'.get l=h.get l)(c:h.next<=h'.next):kV E ty F h' xs v:=by
 rcases a with a|⟨t,cs,rfl,d,e,f,g,i⟩
 ·exact .inl a
 ·exact .inr ⟨t,cs,rfl,Ep d c,e,by rw[b t rfl];exact f,g.fk hk,i⟩
theorem kV.mono(a:kV E ty F h xs v)(b:∀l,F l->F' l)(c:∀t,Loc v t->¬F' t):kV E ty F' h xs v:=by
 rcases a with a|⟨t,cs,rfl,d,i,e,f,g⟩
 ·exact .inl a
 ·exact .inr ⟨t,cs,rfl,d,c t rfl,e,f.mono b,g⟩
theorem kV.slR(a:kV E ty F h xs v)(b:∀l,F l->F' l)(c:∀t,Loc v t->F' t):il E F' h xs v:=by
 rcases a with a|⟨t,cs,rfl,f,g,d,e,i⟩
 ·exact .inl a
 ·exact .inr ⟨t,0,ty,true,false,cs,rfl,c t rfl,d,.inr rfl,Mr _,by simpa using e.mono b⟩
theorem kV.read(a:kV E ty F h xs v):il E (λl=>F l\/Loc v l) h xs v:=a.slR (λ_ h=> .inl h) λ_ h=> .inr h
theorem kV.append{jL:Nat}{x:V}{new:List V}{ys:List α}(A:kV E ty F h xs v)(hx:kX h E.sz x=some (ys.length,new))(p:qX E F h new ys)(B:new.length=ys.length*E.sz)(g:gj new=true)(hk:0<ys.length)(D:0<E.sz)
  (n:∀l,F l->l<h.next) (hb:(xs.length+ys.length)*jL<=70368744177664) (j:xs.length+ys.length<=70368744177664) :
  ∃q h',fi ty E.sz jL v x h=some (.val q h')/\kV E ty F h' (xs++ys) q/\lP (Loc v) h h'/\(∀t,Loc q t->Loc v t\/t=h.next):=by
 have d:Nat.beq ys.length 0=false:=by
  cases hq:ys.length with
  |zero=>omega
  |succ k=>rfl
 rcases A with⟨rfl,rfl⟩|⟨t,cs,rfl,i,r,y,s,f⟩
 ·refine⟨.slice h.next 0 ys.length,h.new (.cells ty E.sz true false new),?_,.inr ⟨h.next,new,by simp,Pf _,λb=>wBc _ (n _ b),fm _ _,?_,g⟩,lP.new _ _,λt ht=> .inr ht.symm⟩
  ·unfold fi;simp only[hx,ft,d,g,G2];rw[mI _ (VK (by simpa using hb)),mI _ (VK (by simpa using j))]
  ·exact p.fk λl b=>fo _ (n l b)
 ·have C:=s.length;have z:(xs.length+ys.length)*E.sz=xs.length*E.sz+ys.length*E.sz:=YF _ _ _
  cases hroom:Nat.ble (Nat.add 0 (Nat.mul (Nat.add xs.length ys.length) E.sz)) cs.length with
  | true=>
    have G:(xs.length+ys.length)*E.sz<=cs.length:=by
      have:=MY hroom;show _<=_;rw[show Nat.add 0 (Nat.mul (Nat.add xs.length ys.length) E.sz)=(xs.length+ys.length)*E.sz from C7 _]at this;exact this
    refine ⟨.slice t 0 (xs.length+ys.length),h.put t (.cells ty E.sz true false (cs.take (xs.length*E.sz)++new++cs.drop (xs.length*E.sz+new.length))),?_,
      .inr ⟨t,_,by simp,i,r,fY _ i,?_,?_⟩,lP.put _ rfl i,λ_ h=> .inl h⟩
    ·unfold fi ko
     have u:qB (Nat.add 0 (Nat.mul xs.length E.sz)) cs new=some (cs.take (xs.length*E.sz)++new++cs.drop (xs.length*E.sz+new.length)):=by
       rw[show Nat.add 0 (Nat.mul xs.length E.sz)=xs.length*E.sz from C7 _];exact Ar (by rw[B];omega)
     simp only[hx,ft,d,g,G2,y,Bool.not_false,hroom,u];rw[mI _ (YH _)];rfl
    ·refine qX.fk (h:=h) (λl b=>gI _ i λe=>r (e▸b)) ?_
     rw[Pr];exact s.take.append (by rw[Pw];omega) p.more
    ·rw[oT,oT,g]
     have o:∀(l:List V),gj l=l.all V.one:=λl=>by
       induction l with
       |nil=>rfl
       |cons a l w=>rw[eQ,w];rfl
     rw[o]at f⊢;rw[o];rw[Sj]at f;simp only[Bool.and_true,vU,Sj]
     exact⟨λx hx=>f x (wBt hx),λx hx=>f x (List.mem_of_mem_drop hx)⟩
  | false=>
    have o:∀(l:List V),gj l=l.all V.one:=λl=>by
      induction l with
      |nil=>rfl
      |cons a l w=>rw[eQ,w];rfl
    have c:gj (cs.take (xs.length*E.sz))=true:=by
      rw[o]at f⊢;rw[Sj]at f⊢;exact λx hx=>f x (wBt hx)
    refine ⟨.slice h.next 0 (xs.length+ys.length),(h.put t (.cells ty E.sz false false cs)).new (.cells ty E.sz true false (cs.take (xs.length*E.sz)++new)),?_,
      .inr ⟨h.next,_,by simp,Pf _,λb=>wBc _ (n _ b),fm (h.put t _) _,?_,by rw[oT,c,g];rfl⟩,
      (lP.put (S:=Loc (.slice t 0 xs.length)) (.cells ty E.sz false false cs) rfl i).trans (lP.new _ _),λ_ h=> .inr h.symm⟩
    ·unfold fi ko
     have m:sub cs 0 (Nat.mul xs.length E.sz)=some (cs.take (xs.length*E.sz)):=by
       show sub cs 0 (xs.length*E.sz)=_;rw[EN (show 0+xs.length*E.sz<=cs.length by omega),wBP]
     simp only[hx,ft,d,g,G2,y,Bool.not_false,hroom,m,c];rw[mI _ (YH _),mI _ (show Nat.ble (Nat.mul (Nat.add xs.length ys.length) jL) 70368744177664=true from VK hb),mI _ (show Nat.ble (Nat.add xs.length ys.length) 70368744177664=true from VK j)];rfl
    ·refine qX.fk (h:=h) (λl b=>?_) ?_
     ·rw[fo _ (show l<(h.put t _).next from n l b),gI _ i λe=>r (e▸b)]
     ·exact s.take.append (by rw[Pw];omega) p
theorem kV.cut(d:kV E ty F h xs v){n:Nat}(a:n<=xs.length):∃b,iY E.sz v none (some (.int .i64 n)) h=some b/\kV E ty F h (xs.take n) b/\∀t,Loc b t->Loc v t:=by
 rcases d with⟨rfl,rfl⟩|⟨t,cs,rfl,e,f,c,g,i⟩
 ·obtain rfl:n=0:=by simpa using a
  exact⟨.ei,rfl,.inl ⟨rfl,rfl⟩,λ_ h=>h⟩
 ·refine⟨.slice t 0 n,?_,.inr ⟨t,cs,by rw[Pw,wBi a],e,f,c,g.taken n,i⟩,λ_ h=>h⟩;unfold iY ko;simp only[c,ft,HH,Qi];rw[mI _ (YH _),mI _ (VK (Mr _)),mI _ (by rw[VK a];rfl)];simp
theorem kV.store(n:kV E ty F h xs v){i k:Nat}{y:α}{u:V}(hi:i<xs.length)(hk:k<E.sz)(f:u.one=true)(o:∀w,E.rel F h xs[i] w->E.rel F h y (w.set k u)) :
  ∃t h',Loc v t/\gB E.sz v (.int .i64 i)=some (.ptr t (i*E.sz))/\gq 1 (.ptr t (i*E.sz+k)) u h=some (.val .undef h')/\kV E ty F h' (xs.set i y) v/\lP (Loc v) h h':=by
 rcases n with⟨rfl,rfl⟩|⟨t,cs,rfl,c,g,p,j,d⟩
 ·simp at hi
 ·obtain ⟨w,q,C,m⟩:=j.get (i:=i) (x:=xs[i]) (gN hi);have b:cs.set (i*E.sz+k) u=cs.take (i*E.sz)++w.set k u++cs.drop (i*E.sz+E.sz):=by
   have r:cs=cs.take (i*E.sz)++(w++cs.drop (i*E.sz+E.sz)):=by
    rw[<-q]
    conv=>lhs;rw[<-wA1 (i*E.sz) cs]
    congr 1;rw[<-wBr,wA1]
   have D:=E.len m
   conv=>lhs;rw[r]
   rw[List.set_append_right _ _ (by rw[Pw];omega),Pw,wBi (by omega),Nat.add_sub_cancel_left,List.set_append_left _ _ (by omega),Pr]
  refine⟨t,h.put t (.cells ty E.sz true false (cs.set (i*E.sz+k) u)),rfl,by rw[yJ _ _ _ _ _ _ hi,C7],NU p (by omega) f,.inr ⟨t,_,by simp,c,g,fY _ c,?_,?_⟩,lP.put _ rfl c⟩
  ·refine qX.fk (h:=h) (λl s=>gI _ c λe=>g (e▸s)) ?_;rw[b];exact j.set hi (o w m)
  ·have z:∀(l:List V),gj l=l.all V.one:=λl=>by
    induction l with
    |nil=>rfl
    |cons a l A=>rw[eQ,A];rfl
   rw[z]at d⊢;rw[Sj]at d⊢;intro x hx;rcases List.mem_or_eq_of_mem_set hx with B|rfl
   ·exact d x B
   ·exact f
end
abbrev eR:Nat:=3
abbrev jZ:Nat:=4
abbrev iU:Nat:=22
abbrev gJ:Nat:=30
abbrev gK:Nat:=45
abbrev fJ:Nat:=43
abbrev lC:Nat:=52
abbrev No:Nat:=49
abbrev T9:Nat:=24
abbrev BZ:Nat:=149
abbrev WI:Nat:=60
open Un
structure Pc where
 my:Nat->Prop
 ok:(Nat->Prop)->Hp->Prop
 Nn:∀{F:Nat->Prop} {h:Hp},ok F h->∀l,my l->l<h.next/\¬F l
 fk:∀{F:Nat->Prop} {h h':Hp},ok F h->(∀l,F l->h'.get l=h.get l)->(∀l,my l->h'.get l=h.get l)->h.next<=h'.next->ok F h'
 mono:∀{F F':Nat->Prop} {h:Hp},ok F h->(∀l,F l->F' l)->(∀l,my l->¬F' l)->ok F' h
def emp:Pc:=⟨λ_=>False,λ_ _=>True,by simp_all,by simp_all,by simp_all⟩
def eJ(l ty:Nat)(vs:List V):Pc where
 my:=λm=>m=l
 ok F h:=h.get l=some (.cells ty 1 true false vs)/\l<h.next/\¬F l
 Nn:=by simp_all
 fk:=by grind
 mono:=by simp_all
def fg(E:qf α)(ty:Nat)(xs:List α)(v:V):Pc where
 my:=Loc v
 ok F h:=kV E ty F h xs v
 Nn:=λh _ a=>(h.vV a).2
 fk:=by grind[kV.fk]
 mono:=by grind[kV.mono]
def zgu(S:Nat->Prop)(h0:Hp):Pc where
 my:=S
 ok F h:=∀l,S l->h.get l=h0.get l/\l<h.next/\¬F l
 Nn:=by simp_all
 fk:=by grind
 mono:=by simp_all
structure Sn (F:Nat->Prop) (h:Hp) (F':Nat->Prop) (h':Hp):Prop where
 next:h.next<=h'.next
 fk:∀l,F l->h'.get l=h.get l
 mono:∀l,F l->F' l
theorem Sn.refl(F:Nat->Prop)(h:Hp):Sn F h F h:=⟨iZ _,by simp_all,λ_ h=>h⟩
theorem Sn.trans{F F' c:Nat->Prop} {h h' d:Hp}(a:Sn F h F' h')(b:Sn F' h' c d):Sn F h c d:=
 ⟨Gq a.next b.next,λl e=>(b.fk l (a.mono l e)).trans (a.fk l e),λl e=>b.mono l (a.mono l e)⟩
structure ev (F:Nat->Prop) (h:Hp) (cs:List Pc):Prop where
 fl:∀l,F l->l<h.next
 ok:∀(i:Nat) c,cs[i]? =some c->c.ok F h
 Et:∀(i j:Nat) c d,cs[i]? =some c->cs[j]? =some d->i≠j->∀l,c.my l->¬d.my l
section
variable{F F':Nat->Prop}{h h':Hp}{cs:List Pc}{i j:Nat}{c d p:Pc}
theorem E4{cs:List Pc}{i:Nat}{p:Pc}{j:Nat}{d:Pc}(a:(cs.set i p)[j]? =some d):(j=i/\d=p)\/(j≠i/\cs[j]? =some d):=by
 grind
theorem ev.nil(a:∀l,F l->l<h.next):ev F h []:=⟨a,by simp_all,by simp_all⟩
theorem ev.cons(H:ev F h cs)(f:p.ok F h)(hp:∀(i:Nat) c,cs[i]? =some c->∀l,p.my l->¬c.my l):ev F h (p::cs) where
 fl:=H.fl
 ok:=λi c hc=>by
  cases i with
  |zero=>simp_all
  |succ i=>exact H.ok i c hc
 Et:=λi j c d hc b g l e a=>by
  cases i with
  | zero=>
    grind
  | succ i=>
    cases j with
    |zero=>grind
    |succ j=>exact H.Et i j c d hc b (by omega) l e a
theorem ev.tail(H:ev F h (p::cs)):ev F h cs where
 fl:=H.fl
 ok:=λi c hc=>H.ok (i+1) c hc
 Et:=λi j c d hc a b=>H.Et (i+1) (j+1) c d hc a (by omega)
theorem ev.add(H:ev F h cs)(a:p.ok F h)(hp:∀l,¬p.my l):ev F h (p::cs):=H.cons a (by simp_all)
theorem ev.swap(H:ev F h cs)(hi:cs[i]? =some c)(r:p.ok F h)(hp:∀l,p.my l->c.my l):ev F h (cs.set i p) where
 fl:=H.fl
 ok:=λj d s=>by
  rcases E4 s with⟨_,rfl⟩|⟨_,f⟩
  ·exact r
  ·exact H.ok j d f
 Et:=λj k a b t hb g l m e=>by
  rcases E4 t with⟨n,rfl⟩|⟨n,o⟩
  ·rcases E4 hb with⟨q,_⟩|⟨_,f⟩
   ·omega
   ·subst n;exact H.Et j k c b hi f g l (hp l m) e
  ·rcases E4 hb with⟨q,rfl⟩|⟨_,f⟩
   ·subst q;exact H.Et j k a c o hi g l m (hp l e)
   ·exact H.Et j k a b o f g l m e
theorem ev.forget(H:ev F h cs)(hi:cs[i]? =some c):ev F h (cs.set i emp):=H.swap hi trivial λ_ h=>h.elim
theorem ev.zdK(H:ev F h cs)(hi:cs[i]? =some c)(hc:lP c.my h h')(s:∀l,F l->F' l)(n:∀l,F' l->F l\/c.my l\/(h.next<=l/\l<h'.next))(y:p.ok F' h')(hp:∀l,p.my l->c.my l\/h.next<=l):ev F' h' (cs.set i p)/\Sn F h F' h':=by
 have o:=H.ok i c hi;have t:=λl e=>hc.fk l (H.fl l e) λhs=>(c.Nn o l hs).2 e;have other:∀j d,j≠i->cs[j]? =some d->d.ok F' h'/\∀l,d.my l->¬p.my l:=λj d u q=>by
  have m:=H.ok j d q;have r:=H.Et j i d c q hi u;refine⟨d.mono (d.fk m t (λl e=>hc.fk l (d.Nn m l e).1 (r l e)) hc.next) s λl e f=>?_,λl e f=>?_⟩
  ·rcases n l f with g|g|g
   ·exact(d.Nn m l e).2 g
   ·simp_all
   ·have:=(d.Nn m l e).1;omega
  ·rcases hp l f with g|g
   ·simp_all
   ·have:=(d.Nn m l e).1;omega
 refine⟨⟨λl e=>?_,λj d q=>?_,λj k a b v hb w l e f=>?_⟩,⟨hc.next,t,s⟩⟩
 ·rcases n l e with g|g|g
  ·exact Ep (H.fl l g) hc.next
  ·exact Ep (c.Nn o l g).1 hc.next
  omega
 ·grind
 ·rcases E4 v with⟨x,rfl⟩|⟨x,m⟩
  ·grind
  ·rcases E4 hb with⟨z,rfl⟩|⟨_,r⟩
   ·grind
   ·exact H.Et j k a b m r w l e f
theorem ev.Au(H:ev F h cs)(hi:cs[i]? =some c)(hc:lP c.my h h')(a:p.ok F h')(hp:∀l,p.my l->c.my l\/h.next<=l):ev F h' (cs.set i p)/\Sn F h F h':=
 H.zdK hi hc (by simp_all) (by simp_all) a hp
theorem ev.grow(H:ev F h cs)(a:Jp h h'):ev F h' cs/\Sn F h F h':=by
 have c:=λl b=>a.fk l (H.fl l b) id;exact⟨⟨λl b=>Ep (H.fl l b) a.next,λj d e=>d.fk (H.ok j d e) c (λl b=>a.fk l (d.Nn (H.ok j d e) l b).1 id) a.next,H.Et⟩,⟨a.next,c,λ_ h=>h⟩⟩
theorem ev.new(H:ev F h cs)(o:O)(b:p.ok F (h.new o))(hp:∀l,p.my l->l=h.next):ev F (h.new o) (p::cs)/\Sn F h F (h.new o):=by
 let⟨c,e⟩:=H.grow (lP.new h o)
 refine⟨c.cons b λj d f l g a=>?_,e⟩;have:=(d.Nn (H.ok j d f) l a).1
 grind
theorem ev.fresh(H:ev F h cs):¬F h.next:=λa=>wBc _ (H.fl _ a)
theorem ev.yP(H:ev F h cs)(ty:Nat)(vs:List V):ev F (h.new (.cells ty 1 true false vs)) (eJ h.next ty vs::cs)/\Sn F h F (h.new (.cells ty 1 true false vs)):=
 H.new _ ⟨fm _ _,Pf _,H.fresh⟩ λ_ e=>e
theorem ev.TC(H:ev F h cs){α:Type}{E:qf α}(ty:Nat){xs:List α}{ws:List V}{n:Nat}(a:n=xs.length)(b:qX E F h ws xs)(c:gj ws=true) :
  ev F (h.new (.cells ty E.sz true false ws)) (fg E ty xs (.slice h.next 0 n)::cs)/\Sn F h F (h.new (.cells ty E.sz true false ws)):=by
 subst a;exact H.new _ (.inr ⟨h.next,ws,rfl,Pf _,H.fresh,fm _ _,b.fk λl d=>fo _ (H.fl l d),c⟩) λ_ e=>e.symm
theorem ev.zaa(H:ev F h cs){α:Type}{E:qf α}(ty:Nat){xs:List α}{ws:List V}{n:Nat}(f:n=xs.length)(g:qX E F h ws xs)(ro:Bool) :
  ev (λl=>F l\/l=h.next) (h.new (.cells ty E.sz true ro ws)) cs/\Sn F h (λl=>F l\/l=h.next) (h.new (.cells ty E.sz true ro ws))/\il E (λl=>F l\/l=h.next) (h.new (.cells ty E.sz true ro ws)) xs (.slice h.next 0 n):=by
 subst f
 let⟨b,c⟩:=H.grow (lP.new h (.cells ty E.sz true ro ws))
 refine⟨⟨λl a=>?_,λj d e=>d.mono (b.ok j d e) (by simp_all) λl a i=>?_,b.Et⟩,⟨c.next,c.fk,by simp_all⟩,?_⟩
 ·rcases a with a|rfl
  ·exact b.fl l a
  simp_all
 ·have k:=d.Nn (H.ok j d e) l a
  simp_all
 ·exact .inr ⟨h.next,0,ty,true,ro,ws,rfl,.inr rfl,fm _ _,.inr rfl,Mr _,by rw[wBP];exact(g.fk λl a=>fo _ (H.fl l a)).mono (by simp_all)⟩
theorem ev.get(H:ev F h cs)(i:Nat){l ty:Nat}{vs:List V}(hi:cs[i]? =some (eJ l ty vs)):h.get l=some (.cells ty 1 true false vs):=(H.ok i _ hi).1
theorem ev.ld(H:ev F h cs)(i:Nat){l ty o:Nat}{vs:List V}{u:V}(hi:cs[i]? =some (eJ l ty vs))(a:vs[o]? =some u):fe (.ptr l o) h=some u:=kP (H.get i hi) a
theorem ev.mY(H:ev F h cs)(i:Nat){l ty n:Nat}{vs:List V}(hi:cs[i]? =some (eJ l ty vs))(a:vs.length=n):fO n (.ptr l 0) h=some (.agg vs):=DD (H.get i hi) a
theorem ev.st(H:ev F h cs)(i:Nat){l ty o:Nat}{vs:List V}{u:V}(hi:cs[i]? =some (eJ l ty vs))(b:o<vs.length)(c:u.one=true) :
  ∃h',gq 1 (.ptr l o) u h=some (.val .undef h')/\h.next<=h'.next/\ev F h' (cs.set i (eJ l ty (vs.set o u)))/\Sn F h F h':=by
 have a:=H.ok i _ hi;refine⟨_,NU a.1 b c,iZ _,H.Au hi (lP.put _ rfl a.2.1) ⟨fY _ a.2.1,a.2.1,a.2.2⟩ λ_ h=> .inl h⟩
theorem ev.stk(H:ev F h cs)(i:Nat){l ty o:Nat}{vs:List V}{u:V}(hi:cs[i]? =some (eJ l ty vs))(b:o<vs.length)(c:u.one=true) :
  ∃h',gq 1 (.ptr l o) u h=some (.val .undef h')/\h.next<=h'.next/\ev F h' (cs.set i (eJ l ty (vs.set o u)))/\Sn F h F h'/\∀m,m≠l->h'.get m=h.get m:=by
 have a:=H.ok i _ hi
 let⟨d,e⟩:=H.Au (p:=eJ l ty (vs.set o u)) hi (lP.put _ rfl a.2.1) ⟨fY _ a.2.1,a.2.1,a.2.2⟩ λ_ h=> .inl h
 exact⟨_,NU a.1 b c,iZ _,d,e,λm f=>gI _ a.2.1 (by omega)⟩
theorem ev.Qy(H:ev F h cs)(i:Nat){l ty n:Nat}{vs ws:List V}(hi:cs[i]? =some (eJ l ty vs))(b:ws.length=n)(hv:vs.length=n)(c:gj ws=true) :
  ∃h',gq n (.ptr l 0) (.agg ws) h=some (.val .undef h')/\h.next<=h'.next/\ev F h' (cs.set i (eJ l ty ws))/\Sn F h F h':=by
 have a:=H.ok i _ hi;refine⟨_,Ie a.1 b hv c,iZ _,H.Au hi (lP.put _ rfl a.2.1) ⟨fY _ a.2.1,a.2.1,a.2.2⟩ λ_ h=> .inl h⟩
section
variable{α:Type}{E:qf α}{ty:Nat}{xs:List α}{v:V}
theorem ev.row(H:ev F h cs)(i:Nat)(hi:cs[i]? =some (fg E ty xs v)):kV E ty F h xs v:=H.ok i _ hi
theorem ev.len(H:ev F h cs)(i:Nat)(hi:cs[i]? =some (fg E ty xs v)):fE v=some (.int .i64 xs.length):=(H.row i hi).len
theorem ev.one(H:ev F h cs)(i:Nat)(hi:cs[i]? =some (fg E ty xs v)):v.one=true:=(H.row i hi).one
theorem ev.ix(H:ev F h cs)(i:Nat)(hi:cs[i]? =some (fg E ty xs v)){k:Nat}(hk:k<xs.length)(kd:IntKind) :
  ∃l o w,gB E.sz v (.int kd k)=some (.ptr l o)/\fO E.sz (.ptr l o) h=some (.agg w)/\E.rel (λl=>F l\/Loc v l) h xs[k] w/\∀j u,w[j]? =some u->fe (.ptr l (o+j)) h=some u:=by
 let⟨l,o,w,_,a,b,c,d⟩:=(H.row i hi).read.ix hk kd
 grind
theorem ev.Wd(H:ev F h cs)(i:Nat)(hi:cs[i]? =some (fg E ty xs v)){k:Nat}(hk:k<xs.length)(kd:IntKind)(a:E.sz=1) :
  ∃l o u,gB 1 v (.int kd k)=some (.ptr l o)/\fe (.ptr l o) h=some u/\E.rel (λl=>F l\/Loc v l) h xs[k] [u]:=by
 let⟨l,o,u,_,b,c,d⟩:=(H.row i hi).read.Wd hk kd a
 grind
theorem ev.IH(H:ev F h cs)(i:Nat)(hi:cs[i]? =some (fg E ty xs v)){k:Nat}(hk:k<xs.length)(a:E.sz=1){y:α}{u:V}(f:u.one=true)(g:E.rel F h y [u]) :
  ∃l o h',gB 1 v (.int .i64 k)=some (.ptr l o)/\gq 1 (.ptr l o) u h=some (.val .undef h')/\h.next<=h'.next/\ev F h' (cs.set i (fg E ty (xs.set k y) v))/\Sn F h F h':=by
 let ⟨t,h',n,b,c,j,d⟩:=(H.row i hi).store (k:=0) (y:=y) hk (by omega) f (λw m=>by
  have e:=E.len m;rw[a]at e
  match w,e with
  |[x],_=>exact g)
 rw[a]at b c;exact⟨t,k*1,h',b,c,d.next,H.Au hi d j λ_ h=> .inl h⟩
end
end
open Un
section
variable{F F':Nat->Prop}{h h':Hp}{cs:List Pc}{α:Type}{E:qf α}{ty:Nat}{xs ys:List α}{v x:V}
theorem qX.one:∀{xs:List α}{ws:List V},qX E F h ws xs->ws.length=xs.length*E.sz->gj ws=true
 | [],ws,_,hl=>by
   simp_all
 | y::xs,ws,⟨w,r,b,a,c⟩,hl=>by
   subst b;have d:=E.len a;rw[oT,E.one a,qX.one c (by grind)];rfl
theorem qX.rep{y:α}{u:V}(a:E.rel F h y [u]):∀n,qX E F h (List.replicate n u) (List.replicate n y)
 |0=>trivial
 |n+1=>⟨[u],_,rfl,a,qX.rep a n⟩
theorem Oo{u:V}(a:u.one=true):∀n,gj (List.replicate n u)=true
 |0=>rfl
 |n+1=>by rw[List.replicate_succ,eQ,a,Oo a n];rfl
theorem EI{off n GA:Nat}{ro:Bool}{ds:List V}(b:h.get l=some (.cells GA sz true ro ds))(a:off+n*sz<=ds.length):∃new,kX h sz (.slice l off n)=some (n,new)/\new=(ds.drop off).take (n*sz):=by
 cases n with
 |zero=>exact⟨_,rfl,by simp⟩
 | succ n=>
   refine⟨_,?_,rfl⟩;unfold kX Lo ko;have:=EN a
   simp_all
theorem il.xc(hs:il E F h ys x):∃new,kX h E.sz x=some (ys.length,new)/\qX E F h new ys/\new.length=ys.length*E.sz:=by
 rcases hs with⟨rfl,rfl⟩|⟨l,off,GA,live,ro,ds,rfl,g,b,c,i,a⟩
 ·exact⟨[],rfl,trivial,by simp⟩
 ·have d:=a.length;rw[wBx]at d;rcases c with rfl|rfl
  ·exact⟨[],rfl,trivial,by simp⟩
  ·let⟨new,e,f⟩:=EI (n:=ys.length) (off:=off) b (by omega)
   exact⟨new,e,by rw[f];exact a.take,by simp_all⟩
theorem kV.xc(hs:kV E ty F h ys x):∃new,kX h E.sz x=some (ys.length,new)/\qX E F h new ys/\new.length=ys.length*E.sz:=by
 rcases hs with⟨rfl,rfl⟩|⟨t,ds,rfl,e,f,b,a,g⟩
 ·exact⟨[],rfl,trivial,by simp⟩
 ·have i:=a.length
  let⟨new,c,d⟩:=EI (n:=ys.length) (off:=0) b (by omega)
  refine⟨new,c,by rw[d,wBP];exact a.take,by simp_all⟩
theorem C8{z:V}:iS e sz 0 z []=some (.cells e sz true false [],λl=> .slice l 0 0):=rfl
theorem ev.app(H:ev F h cs)(i:Nat)(hi:cs[i]? =some (fg E ty xs v)){jL:Nat}{new:List V}(hx:kX h E.sz x=some (ys.length,new))(d:qX E F h new ys)(b:new.length=ys.length*E.sz)
  (f:0<E.sz) (hb:jL<=1000) (c:xs.length+ys.length<=10000000) :
  ∃a h',fi ty E.sz jL v x h=some (.val a h')/\h.next<=h'.next/\ev F h' (cs.set i (fg E ty (xs++ys) a))/\Sn F h F h':=by
 have hO:=H.row i hi;by_cases hk:0<ys.length
 ·have g:=Nat.mul_le_mul c hb
  let⟨a,h',j,k,e,l1⟩:=hO.append (jL:=jL) hx d b (d.one b) hk f H.fl (by omega) (by omega)
  let⟨m,n⟩:=H.Au (p:=fg E ty (xs++ys) a) hi e k λl b=>(l1 l b).imp id (by omega)
  exact⟨a,h',j,e.next,m,n⟩
 ·have o:ys=[]:=by simp_all
  subst o;refine⟨v,h,?_,iZ _,by rw[Lg];exact H.swap hi hO λ_ h=>h,Sn.refl _ _⟩;unfold fi;rw[hx];rcases hO with⟨rfl,_⟩|⟨t,ds,rfl,_⟩ <;> rfl
theorem ev.OV(H:ev F h cs)(i:Nat)(hi:cs[i]? =some (fg E ty xs v)){jL:Nat}(hs:il E F h ys x)(c:0<E.sz)(hb:jL<=1000)(a:xs.length+ys.length<=10000000) :
  ∃b h',fi ty E.sz jL v x h=some (.val b h')/\h.next<=h'.next/\ev F h' (cs.set i (fg E ty (xs++ys) b))/\Sn F h F h':=by
 let⟨new,d,e,f⟩:=hs.xc
 exact H.app i hi d e f c hb a
theorem ev.zbR(H:ev F h cs)(i j:Nat)(hi:cs[i]? =some (fg E ty xs v)){c:Nat}(d:cs[j]? =some (fg E c ys x)){jL:Nat}(e:0<E.sz)(hb:jL<=1000)(a:xs.length+ys.length<=10000000) :
  ∃b h',fi ty E.sz jL v x h=some (.val b h')/\h.next<=h'.next/\ev F h' (cs.set i (fg E ty (xs++ys) b))/\Sn F h F h':=by
 let⟨new,f,g,k⟩:=(H.row j d).xc
 exact H.app i hi f g k e hb a
theorem ev.rZ(H:ev F h cs)(i:Nat)(hi:cs[i]? =some (fg E ty xs v)){jL GA:Nat}{y:α}{w:List V}{ro:Bool}(b:E.rel F h y w)(c:0<E.sz)(hb:jL<=1000)(d:xs.length<1000000) :
  ∃a h',fi ty E.sz jL v (.slice h.next 0 1) (h.new (.cells GA E.sz true ro w))=some (.val a h')/\h.next+1<=h'.next/\ev F h' (cs.set i (fg E ty (xs++[y]) a))/\Sn F h F h':=by
 let⟨e,f⟩:=H.grow (lP.new h (.cells GA E.sz true ro w))
 have hx:kX (h.new (.cells GA E.sz true ro w)) E.sz (.slice h.next 0 1)=some (1,w):=mU (by rw[E.len b];simp)
 let⟨a,h',g,j,k,m⟩:=e.app (ys:=[y]) i hi hx ⟨w,[],by simp,E.fk (λl n=>fo _ (H.fl l n)) b,trivial⟩ (by rw[E.len b];simp) c hb (by simp;omega)
 exact⟨a,h',g,j,k,f.trans m⟩
theorem ev.za8(H:ev F h cs)(i:Nat)(hi:cs[i]? =some (fg E ty xs v)){n:Nat}(b:n<=xs.length) :
  ∃a,iY E.sz v none (some (.int .i64 n)) h=some a/\ev F h (cs.set i (fg E ty (xs.take n) a)):=by
 let⟨a,c,d,e⟩:=(H.row i hi).cut b
 exact⟨a,c,H.swap hi d e⟩
theorem ev.jc(H:ev F h cs)(i:Nat)(hi:cs[i]? =some (fg E ty xs v)):ev (λl=>F l\/Loc v l) h (cs.set i emp)/\Sn F h (λl=>F l\/Loc v l) h/\il E (λl=>F l\/Loc v l) h xs v:=by
 let⟨a,b⟩:=H.zdK (p:=emp) (F':=λl=>F l\/Loc v l) hi (lP.refl _ _) (by simp_all) (λ_ h=>h.imp id .inl) trivial λ_ h=>h.elim
 exact⟨a,b,(H.row i hi).read⟩
theorem ev.make(H:ev F h cs){y:α}{u:V}(n:Nat)(a:E.rel F h y [u])(c:E.sz=1):ev F (h.new (.cells ty 1 true false (List.replicate n u))) (fg E ty (List.replicate n y) (.slice h.next 0 n)::cs)/\Sn F h F (h.new (.cells ty 1 true false (List.replicate n u))):=by
 have b:=E.one a;rw[eQ,vU]at b;have:=H.TC ty (n:=n) (by simp) (qX.rep a n) (Oo b.1 n)
 simp_all
theorem jE{jL n:Nat}{z:V}(b:z.one=true)(hb:jL<=100)(a:n<=1000000) :
  gX e 1 jL z (.int .i64 (n:Int)) (.int .i64 (n:Int))=some (O.cells e 1 true false (List.replicate n z),λl=>V.slice l 0 n):=by
 have:=Nat.mul_le_mul a hb
 grind[Pm,PI,ZZ]
theorem ij{o:Nat}{u:V}(a:fe (.ptr l o) h=some u)(hk:h'.get l=h.get l):fe (.ptr l o) h' = some u:=by
 grind[fe,ld1,ko,HW]
theorem Iv{o n:Nat}{u:V}(a:fO n (.ptr l o) h=some u)(hk:h'.get l=h.get l):fO n (.ptr l o) h' = some u:=by
 grind[fO,Lo,ko,HW]
end
open Un
def fU{ι:Type}(ty:Nat)(f:ι->Option (List Nat×V)):Pc where
 my:=λl=>∃i xs v,f i=some (xs,v)/\Loc v l
 ok F h:=(∀i xs v,f i=some (xs,v)->kV eN ty F h xs v)/\∀i j xs v ys w,f i=some (xs,v)->f j=some (ys,w)->i≠j->∀l,Loc v l->¬Loc w l
 Nn:=λh l ⟨i,xs,v,a,b⟩=>((h.1 i xs v a).vV b).2
 fk:=λh c b d=>⟨λi xs v a=>(h.1 i xs v a).fk c (by grind) d,h.2⟩
 mono:=λh c b=>⟨λi xs v a=>(h.1 i xs v a).mono c (by grind),h.2⟩
def up{ι:Type}[DecidableEq ι] (f:ι->Option α)(i:ι)(x:Option α):ι->Option α:=λj=>if j=i then x else f j
@[simp] theorem jz {ι α:Type} [DecidableEq ι] (f:ι->Option α) (i:ι) (x:Option α):up f i x i=x:=if_pos rfl
theorem iX{ι:Type}[DecidableEq ι] (f:ι->Option α){i j:ι}(x:Option α)(h:j≠i):up f i x j=f j:=if_neg h
section
variable{F:Nat->Prop}{h:Hp}{cs:List Pc}{p q:Pc}
theorem ev.sw(H:ev F h (p::q::cs)):ev F h (q::p::cs) where
 fl:=H.fl
 ok:=λi c hc=>by
  match i,hc with
  |0,hc=>exact H.ok 1 c hc
  |1,hc=>exact H.ok 0 c hc
  |i+2,hc=>exact H.ok (i+2) c hc
 Et:=λi j c d hc a b=>by
  match i,j,hc,a with
  |0,0,_,_=>omega
  |0,1,hc,a=>exact H.Et 1 0 c d hc a (by omega)
  |0,j+2,hc,a=>exact H.Et 1 (j+2) c d hc a (by omega)
  |1,0,hc,a=>exact H.Et 0 1 c d hc a (by omega)
  |1,1,_,_=>omega
  |1,j+2,hc,a=>exact H.Et 0 (j+2) c d hc a (by omega)
  |i+2,0,hc,a=>exact H.Et (i+2) 1 c d hc a (by omega)
  |i+2,1,hc,a=>exact H.Et (i+2) 0 c d hc a (by omega)
  |i+2,j+2,hc,a=>exact H.Et (i+2) (j+2) c d hc a b
theorem ev.KW(H:ev F h (p::q::cs)):ev F h (p::cs):=H.sw.tail
end
section
variable{F F':Nat->Prop}{h h':Hp}{cs:List Pc}{ι:Type}{ty:Nat}{f:ι->Option (List Nat×V)}{xs:List Nat}{v:V}
theorem ev.zal(H:ev F h cs):ev F h (fU (ι:=ι) ty (λ_=>Option.none)::cs):=
 H.add ⟨λ_ _ _ h=>(nomatch h),λ_ _ _ _ _ _ h=>(nomatch h)⟩ λ_ ⟨_,_,_,h,_⟩=>(nomatch h)
theorem ev.RM [DecidableEq ι] (H:ev F h (fg eN ty xs v::fU ty f::cs)){i:ι}(hi:f i=Option.none):ev F h (fU ty (up f i (some (xs,v)))::cs):=by
 have h0:=H.ok 0 _ rfl;have g:=H.ok 1 _ rfl;have m:=λl b=>H.Et 0 1 _ _ rfl rfl (by omega) l b;refine H.tail.tail.cons ⟨λj ys w a=>?_,λj k ys w n x a hk o l b d=>?_⟩ λj c hc l b=>?_
 ·by_cases e:j=i
  ·subst e;rw[jz]at a;cases a;exact h0
  ·rw[iX _ _ e]at a;exact g.1 j ys w a
 ·by_cases e:j=i
  ·subst e;rw[jz]at a;cases a;rw[iX _ _ (by grind)]at hk;exact m l b ⟨k,n,x,hk,d⟩
  ·rw[iX _ _ e]at a;by_cases e':k=i
   ·subst e';rw[jz]at hk;cases hk;exact m l d ⟨j,ys,w,a,b⟩
   ·rw[iX _ _ e']at hk;exact g.2 j k ys w n x a hk o l b d
 ·let⟨k,ys,w,hk,hw⟩:=b
  by_cases e:k=i
  ·subst e;rw[jz]at hk;cases hk;exact H.Et 0 (j+2) _ c rfl hc (by omega) l hw
  ·rw[iX _ _ e]at hk;exact H.Et 1 (j+2) _ c rfl hc (by omega) l ⟨k,ys,w,hk,hw⟩
theorem ev.rows(H:ev F h cs)(n:Nat)(a:cs[n]? =some (fU ty f)){i:ι}(hi:f i=some (xs,v)):kV eN ty F h xs v:=(H.ok n _ a).1 i xs v hi
theorem ev.Us{κ:Type}(H:ev F h cs)(n:Nat)(a:cs[n]? =some (fU ty f))(g:κ->Option (List Nat×V))(m:κ->ι)(d:∀i p,g i=some p->f (m i)=some p)(b:∀i j p q,g i=some p->g j=some q->m i=m j->i=j):ev F h (cs.set n (fU ty g)):=by
 have c:=H.ok n _ a;refine H.swap a ⟨λi xs v hi=>c.1 (m i) xs v (by grind),λi j xs v ys w hi o e=>c.2 (m i) (m j) xs v ys w (by grind) (by grind) (by grind)⟩ λl ⟨i,xs,v,hi,k⟩=>⟨m i,xs,v,d i _ hi,k⟩
theorem ev.Y3 [DecidableEq ι] (H:ev F h cs)(n:Nat)(A:cs[n]? =some (fU ty f)){i:ι}(hi:f i=some (xs,v)){k:Nat}(hk:k<xs.length)(y:Nat) :
  ∃l o h',gB 1 v (.int .i64 k)=some (.ptr l o)/\gq 1 (.ptr l o) (.int .i64 y) h=some (.val .undef h')/\h.next<=h'.next/\ev F h' (cs.set n (fU ty (up f i (some (xs.set k y,v)))))/\Sn F h F h':=by
 have m:=H.ok n _ A
 let ⟨t,h',J,B,C,K,p⟩:=(m.1 i xs v hi).store (y:=y) (u:=V.int .i64 y) hk Nat.one_pos rfl (λw D=>by
  have:=D;subst this;rfl)
 have hc:lP (fU ty f).my h h':=p.ZC λl _ c=>⟨i,xs,v,hi,c⟩
 have d:∀{a:ι} {q:List Nat} {b:V},up f i (some (xs.set k y,v)) a=some (q,b)->∃cs,f a=some (cs,b):=by grind[jz,iX]
 have ok:(fU ty (up f i (some (xs.set k y,v)))).ok F h':=by
  refine⟨λj ys w g=>?_,λj E ys w q x g r s l c z=>?_⟩
  ·by_cases e:j=i
   ·simp_all
   ·rw[iX _ _ e]at g;have:=m.1 j ys w g;exact this.fk (λl c=>p.fk l (H.fl l c) λhv=>((m.1 i xs v hi).vV hv).2.2 c) (λl c=>p.fk l (this.vV c).2.1 λhv=>m.2 j i ys w xs v g hi e l c hv) p.next
  ·let⟨_,a1⟩:=d g
   let⟨_,a2⟩:=d r
   exact m.2 j E _ w _ x a1 a2 s l c z
 let⟨G,I⟩:=H.Au A hc ok λl ⟨j,ys,w,g,c⟩=> .inl (let⟨q,a1⟩:=d g;⟨j,q,w,a1,c⟩)
 exact⟨t,k*1,h',B,C,p.next,G,I⟩
end
open Un
structure Rw where
 vv:V
 vb:V
 vs:V
 vk:V
 vc:V
 vp:V
 cc:V
def comp(lu iA jx:Nat)(R:Rw):Nat->Nat->Prop
 |0,l=>l=lu
 |1,l=>l=iA
 |2,l=>l=jx
 |3,l=>Loc R.vv l
 |4,l=>Loc R.vb l
 |5,l=>Loc R.vs l
 |6,l=>Loc R.vk l
 |7,l=>Loc R.vc l
 |_,_=>False
def sig:Nat->Nat×Nat
 |0=>(gJ,1)
 |1=>(iU,1)
 |2=>(fJ,1)
 |3=>(gK,6)
 |4=>(fJ,6)
 |5=>(lC,1)
 |_=>(eR,1)
structure Dw (F G:Nat->Prop) (h:Hp) (lu iA jx:Nat) (t:Dt) (R:Rw):Prop where
 fl:∀l,F l->l<h.next
 gu:h.get lu=some (.cells gJ 1 true false [.int .i64 1,.int .i64 2,R.vv,R.vb,R.vs])
 gk:h.get iA=some (.cells iU 1 true false [R.vk])
 gb:h.get jx=some (.cells fJ 1 true false [R.cc,.int .i64 0,.int .i64 0,.ei,R.vp,.int .i64 0])
 nu:lu<h.next/\¬F lu
 nk:iA<h.next/\¬F iA
 nb:jx<h.next/\¬F jx
 ov:kV eV gK F h t.s.ej R.vv
 ob:kV eK fJ F h t.blocks R.vb
 os:kV eT lC F h t.s.eo R.vs
 ok:kV eN eR F h t.s.known R.vk
 oc:kV eN eR F h t.s.cur R.vc
 sp:il eN F h t.fh R.vp
 kc:∀l,Loc R.vk l->¬Loc R.vc l
 gx:∀l,G l->l<h.next/\¬F l/\∀i,¬comp lu iA jx R i l
structure Kp (F G:Nat->Prop) (h h':Hp):Prop where
 next:h.next<=h'.next
 fk:∀l,F l\/G l->h'.get l=h.get l
theorem Kp.refl(F G:Nat->Prop)(h:Hp):Kp F G h h:=⟨iZ _,by simp_all⟩
theorem Kp.trans{F F' G:Nat->Prop} {h h' c:Hp}(a:Kp F G h h')(b:Kp F' G h' c)(e:∀l,F l->F' l):Kp F G h c:=
 ⟨Gq a.next b.next,λl d=>by rw[b.fk l (by grind),a.fk l d]⟩
section
variable{F G:Nat->Prop}{h h':Hp}{lu iA jx:Nat}{t:Dt}{R:Rw}
theorem Dw.sig(D:Dw F G h lu iA jx t R){l:Nat}:∀{i:Nat},comp lu iA jx R i l->zbT h l=some (Hx.sig i)/\l<h.next/\¬F l
 |0,hl=>by have e:=hl;subst e;exact⟨Ng D.gu,D.nu⟩
 |1,hl=>by have e:=hl;subst e;exact⟨Ng D.gk,D.nk⟩
 |2,hl=>by have e:=hl;subst e;exact⟨Ng D.gb,D.nb⟩
 |3,hl=>D.ov.vV hl
 |4,hl=>D.ob.vV hl
 |5,hl=>D.os.vV hl
 |6,hl=>D.ok.vV hl
 |7,hl=>D.oc.vV hl
 |_+8,hl=>hl.elim
theorem Dw.Et(D:Dw F G h lu iA jx t R){l i j:Nat}(hi:comp lu iA jx R i l)(a:comp lu iA jx R j l):Hx.sig i=Hx.sig j:=by
 have b:=(D.sig hi).1
 grind[sig]
theorem Dw.Fj(D:Dw F G h lu iA jx t R){l i j:Nat}(hi:comp lu iA jx R i l)(a:comp lu iA jx R j l)(c:i<8)(d:j<8):i=j:=by
 have e:=D.Et hi a;have b:∀i,i<8->∀j,j<8->Hx.sig i=Hx.sig j->i=j\/(i=6/\j=7)\/(i=7/\j=6):=by decide
 rcases b i c j d e with f|⟨rfl,rfl⟩|⟨rfl,rfl⟩
 ·exact f
 ·exact absurd a (D.kc l hi)
 ·exact absurd hi (D.kc l a)
theorem Dw.kept(D:Dw F G h lu iA jx t R){i j:Nat}(hi:i<8)(d:j<8)(hc:lP (λl=>comp lu iA jx R i l\/comp lu iA jx R j l) h h') :
  (∀l,F l->h'.get l=h.get l)/\(∀l,G l->h'.get l=h.get l)/\∀k l,k<8->k≠i->k≠j->comp lu iA jx R k l->h'.get l=h.get l:=by
 refine⟨λl a=>hc.fk l (D.fl l a) ?_,λl a=>hc.fk l (D.gx l a).1 ?_,λk l hk b e a=>hc.fk l (D.sig a).2.1 ?_⟩
 ·rintro(b|b)
  ·exact(D.sig b).2.2 a
  ·exact(D.sig b).2.2 a
 ·rintro(b|b)
  ·exact(D.gx l a).2.2 _ b
  ·exact(D.gx l a).2.2 _ b
 ·rintro(c|c)
  ·exact b (D.Fj a c hk hi)
  ·exact e (D.Fj a c hk d)
theorem Dw.other(D:Dw F G h lu iA jx t R){S:Nat->Prop}(b:lP S h h')(d:∀l,S l->¬F l/\¬G l/\∀i,¬comp lu iA jx R i l):Dw F G h' lu iA jx t R/\Kp F G h h':=by
 have c:=λl a=>b.fk l (D.fl l a) (by grind);have e:=λl a=>b.fk l (D.gx l a).1 (by grind);have k:∀i l,comp lu iA jx R i l->h'.get l=h.get l:=λi l a=>b.fk l (D.sig a).2.1 (by grind);have lt:∀l,l<h.next->l<h'.next:=λl a=>Ep a b.next
 exact ⟨{
  fl:=λl a=>lt l (D.fl l a)
  gu:=by rw[k 0 _ rfl];exact D.gu
  gk:=by rw[k 1 _ rfl];exact D.gk
  gb:=by rw[k 2 _ rfl];exact D.gb
  nu:=⟨lt _ D.nu.1,D.nu.2⟩
  nk:=⟨lt _ D.nk.1,D.nk.2⟩
  nb:=⟨lt _ D.nb.1,D.nb.2⟩
  ov:=D.ov.fk c (λl a=>k 3 l a) b.next
  ob:=D.ob.fk c (λl a=>k 4 l a) b.next
  os:=D.os.fk c (λl a=>k 5 l a) b.next
  ok:=D.ok.fk c (λl a=>k 6 l a) b.next
  oc:=D.oc.fk c (λl a=>k 7 l a) b.next
  sp:=D.sp.fk c
  kc:=D.kc
  gx:=λl a=>⟨lt l (D.gx l a).1,(D.gx l a).2⟩ },⟨b.next,by grind⟩⟩
theorem Dw.grow(D:Dw F G h lu iA jx t R)(a:Jp h h'):Dw F G h' lu iA jx t R:=(D.other a (by simp_all)).1
theorem Dw.more(D:Dw F G h lu iA jx t R) {F':Nat->Prop}(c:∀l,F l->F' l)(d:∀l,F' l->F l\/(l<h.next/\(∀i,¬comp lu iA jx R i l)/\¬G l)):Dw F' G h lu iA jx t R:=by
 have b:∀i l,comp lu iA jx R i l->¬F' l:=λi l a e=>by
  rcases d l e with f|⟨_,f,_⟩
  ·exact(D.sig a).2.2 f
  simp_all
 exact {
  fl:=λl a=>(d l a).elim (D.fl l) λh=>h.1
  gu:=D.gu
  gk:=D.gk
  gb:=D.gb
  nu:=⟨D.nu.1,b 0 _ rfl⟩
  nk:=⟨D.nk.1,b 1 _ rfl⟩
  nb:=⟨D.nb.1,b 2 _ rfl⟩
  ov:=D.ov.mono c λl a=>b 3 l a
  ob:=D.ob.mono c λl a=>b 4 l a
  os:=D.os.mono c λl a=>b 5 l a
  ok:=D.ok.mono c λl a=>b 6 l a
  oc:=D.oc.mono c λl a=>b 7 l a
  sp:=D.sp.mono c
  kc:=D.kc
  gx:=λl a=>⟨(D.gx l a).1,λe=>(d l e).elim (D.gx l a).2.1 (by simp_all),(D.gx l a).2.2⟩ }
def fz(F:Nat->Prop)(n:Nat):Nat->Prop:=λl=>F l\/l=n
theorem qR(F:Nat->Prop)(n:Nat):∀l,F l->fz F n l:=λ_ h=> .inl h
theorem Dw.new(D:Dw F G h lu iA jx t R)(o:O):Dw (fz F h.next) G (h.new o) lu iA jx t R:=
 (D.grow (lP.new h o)).more (qR _ _) λl a=>a.imp id λe=>by
  subst e;refine⟨Pf _,λi hi=>wBc _ (D.sig hi).2.1,λb=>wBc _ (D.gx _ b).1⟩
theorem Kp.new(F G:Nat->Prop)(h:Hp)(o:O)(a:∀l,F l->l<h.next)(b:∀l,G l->l<h.next):Kp F G h (h.new o):=
 ⟨PH _,by grind[fo]⟩
theorem Dw.zN(D:Dw F G h lu iA jx t R)(o:O):Kp F G h (h.new o):=Kp.new F G h o D.fl λl a=>(D.gx l a).1
theorem o0{o:Nat} {cs qY:List V}{v:V}(a:h.get l=some (.cells e sz true false cs))(b:o<cs.length)(hv:v.one=true)(hs:cs.set o v=qY):gq 1 (.ptr l o) v h=some (.val .undef (h.put l (.cells e sz true false qY))):=by
 grind[NU]
private theorem Zl {a:Nat->Prop} {l:Nat} {S:Nat->Prop} {b:Hp} {o:O} (hc:lP a h b) (d:∀l,a l->S l) (c:l<h.next) (hs:S l):lP S h (b.put l o):=
 (hc.ZC (by simp_all)).trans (lP.put o hs (Ep c hc.next))
theorem Dw.zge(D:Dw F G h lu iA jx t R){ys:List Vl}{new:List V}{xv:V}(hx:kX h 6 xv=some (ys.length,new))(q:qX eV F h new ys)(a:new.length=ys.length*6) (m:gj new=true)(hk:0<ys.length)(hlen:t.s.ej.length+ys.length<1000000) :
  ∃b d f,fi gK 6 64 R.vv xv h=some (.val b d)/\h.next<=d.next/\gq 1 (.ptr lu 2) b d=some (.val .undef f)/\d.next<=f.next/\Kp F G h f/\
   Dw F G f lu iA jx {t with s:={t.s with ej:=t.s.ej++ys} } {R with vv:=b}:=by
 let⟨b,d,r,p,k,l1⟩:=D.ov.append (jL:=64) hx q a m hk (by decide) D.fl (by omega) (by omega)
 have n:d.get lu=some (.cells gJ 1 true false [.int .i64 1,.int .i64 2,R.vv,R.vb,R.vs]):=by
  rw[k.fk lu D.nu.1 λa=>nomatch D.Fj (i:=0) (j:=3) rfl a (by decide) (by decide)];exact D.gu
 have g:=Ep D.nu.1 k.next;have u:=o0 (o:=2) (qY:=[.int .i64 1,.int .i64 2,b,R.vb,R.vs]) n (by simp) p.one rfl;have hc:lP (λl=>comp lu iA jx R 0 l\/comp lu iA jx R 3 l) h (d.put lu (.cells gJ 1 true false [.int .i64 1,.int .i64 2,b,R.vb,R.vs])):=Zl k (λ_ h=> .inr h) D.nu.1 (.inl rfl)
 let⟨kF,kG,kC⟩:=D.kept (by decide) (by decide) hc
 have c:∀l,l<h.next->l<(d.put lu (.cells gJ 1 true false [.int .i64 1,.int .i64 2,b,R.vb,R.vs])).next:=λl a=>Ep a hc.next;have v:∀l,Loc b l->l≠lu:=λl a e=>by
  subst e;rcases l1 _ a with f|f
  ·exact absurd (D.Fj (i:=0) (j:=3) rfl f (by decide) (by decide)) (by decide)
  ·exact absurd f (TL D.nu.1)
 have hO:kV eV gK F (d.put lu (.cells gJ 1 true false [.int .i64 1,.int .i64 2,b,R.vb,R.vs])) (t.s.ej++ys) b:=
  p.fk (λl a=>gI _ g λe=>D.nu.2 (e▸a)) (by grind[gI]) (iZ _)
 refine⟨b,d,_,r,k.next,u,iZ _,⟨hc.next,by grind⟩,?_⟩
 exact {
  fl:=λl a=>c l (D.fl l a)
  gu:=fY _ g
  gk:=by rw[kC 1 iA (by decide) (by decide) (by decide) rfl];exact D.gk
  gb:=by rw[kC 2 jx (by decide) (by decide) (by decide) rfl];exact D.gb
  ov:=hO
  ob:=D.ob.fk kF (λl a=>kC 4 l (by decide) (by decide) (by decide) a) hc.next
  os:=D.os.fk kF (λl a=>kC 5 l (by decide) (by decide) (by decide) a) hc.next
  ok:=D.ok.fk kF (λl a=>kC 6 l (by decide) (by decide) (by decide) a) hc.next
  oc:=D.oc.fk kF (λl a=>kC 7 l (by decide) (by decide) (by decide) a) hc.next
  nu:=⟨c _ D.nu.1,D.nu.2⟩
  nk:=⟨c _ D.nk.1,D.nk.2⟩
  nb:=⟨c _ D.nb.1,D.nb.2⟩
  sp:=D.sp.fk kF
  kc:=D.kc
  gx:=λl a=>⟨c l (D.gx l a).1,(D.gx l a).2.1,λi hi=>by
   match i,hi with
   |0,hi=>exact(D.gx l a).2.2 0 hi
   |1,hi=>exact(D.gx l a).2.2 1 hi
   |2,hi=>exact(D.gx l a).2.2 2 hi
   |3,hi=>exact(l1 l hi).elim ((D.gx l a).2.2 3) λe=>absurd e (TL (D.gx l a).1)
   |4,hi=>exact(D.gx l a).2.2 4 hi
   |5,hi=>exact(D.gx l a).2.2 5 hi
   |6,hi=>exact(D.gx l a).2.2 6 hi
   |7,hi=>exact(D.gx l a).2.2 7 hi⟩ }
theorem Dw.zgg(D:Dw F G h lu iA jx t R){ys:List Bk}{new:List V}{xv:V}(hx:kX h 6 xv=some (ys.length,new))(q:qX eK F h new ys)(a:new.length=ys.length*6) (m:gj new=true)(hk:0<ys.length)(hlen:t.blocks.length+ys.length<1000000) :
  ∃b d f,fi fJ 6 96 R.vb xv h=some (.val b d)/\h.next<=d.next/\gq 1 (.ptr lu 3) b d=some (.val .undef f)/\d.next<=f.next/\Kp F G h f/\
   Dw F G f lu iA jx {t with blocks:=t.blocks++ys} {R with vb:=b}:=by
 let⟨b,d,r,p,k,l1⟩:=D.ob.append (jL:=96) hx q a m hk (by decide) D.fl (by omega) (by omega)
 have n:d.get lu=some (.cells gJ 1 true false [.int .i64 1,.int .i64 2,R.vv,R.vb,R.vs]):=by
  rw[k.fk lu D.nu.1 λa=>nomatch D.Fj (i:=0) (j:=4) rfl a (by decide) (by decide)];exact D.gu
 have g:=Ep D.nu.1 k.next;have s:=o0 (o:=3) (qY:=[.int .i64 1,.int .i64 2,R.vv,b,R.vs]) n (by simp) p.one rfl;have hc:lP (λl=>comp lu iA jx R 0 l\/comp lu iA jx R 4 l) h (d.put lu (.cells gJ 1 true false [.int .i64 1,.int .i64 2,R.vv,b,R.vs])):=Zl k (λ_ h=> .inr h) D.nu.1 (.inl rfl)
 let⟨kF,kG,kC⟩:=D.kept (by decide) (by decide) hc
 have c:∀l,l<h.next->l<(d.put lu (.cells gJ 1 true false [.int .i64 1,.int .i64 2,R.vv,b,R.vs])).next:=λl a=>Ep a hc.next;have u:∀l,Loc b l->l≠lu:=λl a e=>by
  subst e;rcases l1 _ a with f|f
  ·exact absurd (D.Fj (i:=0) (j:=4) rfl f (by decide) (by decide)) (by decide)
  ·exact absurd f (TL D.nu.1)
 have hO:kV eK fJ F (d.put lu (.cells gJ 1 true false [.int .i64 1,.int .i64 2,R.vv,b,R.vs])) (t.blocks++ys) b:=
  p.fk (λl a=>gI _ g λe=>D.nu.2 (e▸a)) (by grind[gI]) (iZ _)
 refine⟨b,d,_,r,k.next,s,iZ _,⟨hc.next,by grind⟩,?_⟩
 exact {
  fl:=λl a=>c l (D.fl l a)
  gu:=fY _ g
  gk:=by rw[kC 1 iA (by decide) (by decide) (by decide) rfl];exact D.gk
  gb:=by rw[kC 2 jx (by decide) (by decide) (by decide) rfl];exact D.gb
  ov:=D.ov.fk kF (λl a=>kC 3 l (by decide) (by decide) (by decide) a) hc.next
  ob:=hO
  os:=D.os.fk kF (λl a=>kC 5 l (by decide) (by decide) (by decide) a) hc.next
  ok:=D.ok.fk kF (λl a=>kC 6 l (by decide) (by decide) (by decide) a) hc.next
  oc:=D.oc.fk kF (λl a=>kC 7 l (by decide) (by decide) (by decide) a) hc.next
  nu:=⟨c _ D.nu.1,D.nu.2⟩
  nk:=⟨c _ D.nk.1,D.nk.2⟩
  nb:=⟨c _ D.nb.1,D.nb.2⟩
  sp:=D.sp.fk kF
  kc:=D.kc
  gx:=λl a=>⟨c l (D.gx l a).1,(D.gx l a).2.1,λi hi=>by
   match i,hi with
   |0,hi=>exact(D.gx l a).2.2 0 hi
   |1,hi=>exact(D.gx l a).2.2 1 hi
   |2,hi=>exact(D.gx l a).2.2 2 hi
   |3,hi=>exact(D.gx l a).2.2 3 hi
   |4,hi=>exact(l1 l hi).elim ((D.gx l a).2.2 4) λe=>absurd e (TL (D.gx l a).1)
   |5,hi=>exact(D.gx l a).2.2 5 hi
   |6,hi=>exact(D.gx l a).2.2 6 hi
   |7,hi=>exact(D.gx l a).2.2 7 hi⟩ }
theorem Dw.zgA(D:Dw F G h lu iA jx t R){ys:List (List Fm)}{new:List V}{xv:V}(hx:kX h 1 xv=some (ys.length,new))(q:qX eT F h new ys)(a:new.length=ys.length*1) (m:gj new=true)(hk:0<ys.length)(hlen:t.s.eo.length+ys.length<1000000) :
  ∃b d f,fi lC 1 24 R.vs xv h=some (.val b d)/\h.next<=d.next/\gq 1 (.ptr lu 4) b d=some (.val .undef f)/\d.next<=f.next/\Kp F G h f/\
   Dw F G f lu iA jx {t with s:={t.s with eo:=t.s.eo++ys} } {R with vs:=b}:=by
 let⟨b,d,r,p,k,l1⟩:=D.os.append (jL:=24) hx q a m hk (by decide) D.fl (by omega) (by omega)
 have n:d.get lu=some (.cells gJ 1 true false [.int .i64 1,.int .i64 2,R.vv,R.vb,R.vs]):=by
  rw[k.fk lu D.nu.1 λa=>nomatch D.Fj (i:=0) (j:=5) rfl a (by decide) (by decide)];exact D.gu
 have g:=Ep D.nu.1 k.next;have u:=o0 (o:=4) (qY:=[.int .i64 1,.int .i64 2,R.vv,R.vb,b]) n (by simp) p.one rfl;have hc:lP (λl=>comp lu iA jx R 0 l\/comp lu iA jx R 5 l) h (d.put lu (.cells gJ 1 true false [.int .i64 1,.int .i64 2,R.vv,R.vb,b])):=Zl k (λ_ h=> .inr h) D.nu.1 (.inl rfl)
 let⟨kF,kG,kC⟩:=D.kept (by decide) (by decide) hc
 have c:∀l,l<h.next->l<(d.put lu (.cells gJ 1 true false [.int .i64 1,.int .i64 2,R.vv,R.vb,b])).next:=λl a=>Ep a hc.next;have v:∀l,Loc b l->l≠lu:=λl a e=>by
  subst e;rcases l1 _ a with f|f
  ·exact absurd (D.Fj (i:=0) (j:=5) rfl f (by decide) (by decide)) (by decide)
  ·exact absurd f (TL D.nu.1)
 have hO:kV eT lC F (d.put lu (.cells gJ 1 true false [.int .i64 1,.int .i64 2,R.vv,R.vb,b])) (t.s.eo++ys) b:=
  p.fk (λl a=>gI _ g λe=>D.nu.2 (e▸a)) (by grind[gI]) (iZ _)
 refine⟨b,d,_,r,k.next,u,iZ _,⟨hc.next,by grind⟩,?_⟩
 exact {
  fl:=λl a=>c l (D.fl l a)
  gu:=fY _ g
  gk:=by rw[kC 1 iA (by decide) (by decide) (by decide) rfl];exact D.gk
  gb:=by rw[kC 2 jx (by decide) (by decide) (by decide) rfl];exact D.gb
  ov:=D.ov.fk kF (λl a=>kC 3 l (by decide) (by decide) (by decide) a) hc.next
  ob:=D.ob.fk kF (λl a=>kC 4 l (by decide) (by decide) (by decide) a) hc.next
  os:=hO
  ok:=D.ok.fk kF (λl a=>kC 6 l (by decide) (by decide) (by decide) a) hc.next
  oc:=D.oc.fk kF (λl a=>kC 7 l (by decide) (by decide) (by decide) a) hc.next
  nu:=⟨c _ D.nu.1,D.nu.2⟩
  nk:=⟨c _ D.nk.1,D.nk.2⟩
  nb:=⟨c _ D.nb.1,D.nb.2⟩
  sp:=D.sp.fk kF
  kc:=D.kc
  gx:=λl a=>⟨c l (D.gx l a).1,(D.gx l a).2.1,λi hi=>by
   match i,hi with
   |0,hi=>exact(D.gx l a).2.2 0 hi
   |1,hi=>exact(D.gx l a).2.2 1 hi
   |2,hi=>exact(D.gx l a).2.2 2 hi
   |3,hi=>exact(D.gx l a).2.2 3 hi
   |4,hi=>exact(D.gx l a).2.2 4 hi
   |5,hi=>exact(l1 l hi).elim ((D.gx l a).2.2 5) λe=>absurd e (TL (D.gx l a).1)
   |6,hi=>exact(D.gx l a).2.2 6 hi
   |7,hi=>exact(D.gx l a).2.2 7 hi⟩ }
theorem Dw.zdy(D:Dw F G h lu iA jx t R){ys:List Nat}{new:List V}{xv:V}(hx:kX h 1 xv=some (ys.length,new))(q:qX eN F h new ys)(a:new.length=ys.length*1) (m:gj new=true)(hk:0<ys.length)(hlen:t.s.known.length+ys.length<1000000) :
  ∃b d f,fi eR 1 8 R.vk xv h=some (.val b d)/\h.next<=d.next/\gq 1 (.ptr iA 0) b d=some (.val .undef f)/\d.next<=f.next/\Kp F G h f/\
   Dw F G f lu iA jx {t with s:={t.s with known:=t.s.known++ys} } {R with vk:=b}:=by
 let⟨b,d,r,p,k,l1⟩:=D.ok.append (jL:=8) hx q a m hk (by decide) D.fl (by omega) (by omega)
 have n:d.get iA=some (.cells iU 1 true false [R.vk]):=by
  rw[k.fk iA D.nk.1 λa=>nomatch D.Fj (i:=1) (j:=6) rfl a (by decide) (by decide)];exact D.gk
 have g:=Ep D.nk.1 k.next;have u:=o0 (o:=0) (qY:=[b]) n (by simp) p.one rfl;have hc:lP (λl=>comp lu iA jx R 1 l\/comp lu iA jx R 6 l) h (d.put iA (.cells iU 1 true false [b])):=Zl k (λ_ h=> .inr h) D.nk.1 (.inl rfl)
 let⟨kF,kG,kC⟩:=D.kept (by decide) (by decide) hc
 have c:∀l,l<h.next->l<(d.put iA (.cells iU 1 true false [b])).next:=λl a=>Ep a hc.next;have v:∀l,Loc b l->l≠iA:=λl a e=>by
  subst e;rcases l1 _ a with f|f
  ·exact absurd (D.Fj (i:=1) (j:=6) rfl f (by decide) (by decide)) (by decide)
  ·exact absurd f (TL D.nk.1)
 have hO:kV eN eR F (d.put iA (.cells iU 1 true false [b])) (t.s.known++ys) b:=
  p.fk (λl a=>gI _ g λe=>D.nk.2 (e▸a)) (by grind[gI]) (iZ _)
 refine⟨b,d,_,r,k.next,u,iZ _,⟨hc.next,by grind⟩,?_⟩
 exact {
  fl:=λl a=>c l (D.fl l a)
  gu:=by rw[kC 0 lu (by decide) (by decide) (by decide) rfl];exact D.gu
  gk:=fY _ g
  gb:=by rw[kC 2 jx (by decide) (by decide) (by decide) rfl];exact D.gb
  ov:=D.ov.fk kF (λl a=>kC 3 l (by decide) (by decide) (by decide) a) hc.next
  ob:=D.ob.fk kF (λl a=>kC 4 l (by decide) (by decide) (by decide) a) hc.next
  os:=D.os.fk kF (λl a=>kC 5 l (by decide) (by decide) (by decide) a) hc.next
  ok:=hO
  oc:=D.oc.fk kF (λl a=>kC 7 l (by decide) (by decide) (by decide) a) hc.next
  nu:=⟨c _ D.nu.1,D.nu.2⟩
  nk:=⟨c _ D.nk.1,D.nk.2⟩
  nb:=⟨c _ D.nb.1,D.nb.2⟩
  sp:=D.sp.fk kF
  kc:=λl a hc=>(l1 l a).elim (λf=>D.kc l f hc) λe=>absurd e (TL (D.oc.vV hc).2.1)
  gx:=λl a=>⟨c l (D.gx l a).1,(D.gx l a).2.1,λi hi=>by
   match i,hi with
   |0,hi=>exact(D.gx l a).2.2 0 hi
   |1,hi=>exact(D.gx l a).2.2 1 hi
   |2,hi=>exact(D.gx l a).2.2 2 hi
   |3,hi=>exact(D.gx l a).2.2 3 hi
   |4,hi=>exact(D.gx l a).2.2 4 hi
   |5,hi=>exact(D.gx l a).2.2 5 hi
   |6,hi=>exact(l1 l hi).elim ((D.gx l a).2.2 6) λe=>absurd e (TL (D.gx l a).1)
   |7,hi=>exact(D.gx l a).2.2 7 hi⟩ }
theorem Dw.zgl(D:Dw F G h lu iA jx t R){ys:List Nat}{new:List V}{xv:V}(hx:kX h 1 xv=some (ys.length,new))(q:qX eN F h new ys)(a:new.length=ys.length*1) (m:gj new=true)(hk:0<ys.length)(hlen:t.s.cur.length+ys.length<1000000) :
  ∃b d f,fi eR 1 8 R.vc xv h=some (.val b d)/\h.next<=d.next/\gq 1 (.ptr jx 0) b d=some (.val .undef f)/\d.next<=f.next/\Kp F G h f/\
   Dw F G f lu iA jx {t with s:={t.s with cur:=t.s.cur++ys} } {R with vc:=b,cc:=b}:=by
 let⟨b,d,r,p,k,l1⟩:=D.oc.append (jL:=8) hx q a m hk (by decide) D.fl (by omega) (by omega)
 have n:d.get jx=some (.cells fJ 1 true false [R.cc,.int .i64 0,.int .i64 0,.ei,R.vp,.int .i64 0]):=by
  rw[k.fk jx D.nb.1 λa=>nomatch D.Fj (i:=2) (j:=7) rfl a (by decide) (by decide)];exact D.gb
 have g:=Ep D.nb.1 k.next;have u:=o0 (o:=0) (qY:=[b,.int .i64 0,.int .i64 0,.ei,R.vp,.int .i64 0]) n (by simp) p.one rfl;have hc:lP (λl=>comp lu iA jx R 2 l\/comp lu iA jx R 7 l) h (d.put jx (.cells fJ 1 true false [b,.int .i64 0,.int .i64 0,.ei,R.vp,.int .i64 0])):=Zl k (λ_ h=> .inr h) D.nb.1 (.inl rfl)
 let⟨kF,kG,kC⟩:=D.kept (by decide) (by decide) hc
 have c:∀l,l<h.next->l<(d.put jx (.cells fJ 1 true false [b,.int .i64 0,.int .i64 0,.ei,R.vp,.int .i64 0])).next:=λl a=>Ep a hc.next;have v:∀l,Loc b l->l≠jx:=λl a e=>by
  subst e;rcases l1 _ a with f|f
  ·exact absurd (D.Fj (i:=2) (j:=7) rfl f (by decide) (by decide)) (by decide)
  ·exact absurd f (TL D.nb.1)
 have hO:kV eN eR F (d.put jx (.cells fJ 1 true false [b,.int .i64 0,.int .i64 0,.ei,R.vp,.int .i64 0])) (t.s.cur++ys) b:=
  p.fk (λl a=>gI _ g λe=>D.nb.2 (e▸a)) (by grind[gI]) (iZ _)
 refine⟨b,d,_,r,k.next,u,iZ _,⟨hc.next,by grind⟩,?_⟩
 exact {
  fl:=λl a=>c l (D.fl l a)
  gu:=by rw[kC 0 lu (by decide) (by decide) (by decide) rfl];exact D.gu
  gk:=by rw[kC 1 iA (by decide) (by decide) (by decide) rfl];exact D.gk
  gb:=fY _ g
  ov:=D.ov.fk kF (λl a=>kC 3 l (by decide) (by decide) (by decide) a) hc.next
  ob:=D.ob.fk kF (λl a=>kC 4 l (by decide) (by decide) (by decide) a) hc.next
  os:=D.os.fk kF (λl a=>kC 5 l (by decide) (by decide) (by decide) a) hc.next
  ok:=D.ok.fk kF (λl a=>kC 6 l (by decide) (by decide) (by decide) a) hc.next
  oc:=hO
  nu:=⟨c _ D.nu.1,D.nu.2⟩
  nk:=⟨c _ D.nk.1,D.nk.2⟩
  nb:=⟨c _ D.nb.1,D.nb.2⟩
  sp:=D.sp.fk kF
  kc:=λl a hc=>(l1 l hc).elim (λf=>D.kc l a f) λe=>absurd e (TL (D.ok.vV a).2.1)
  gx:=λl a=>⟨c l (D.gx l a).1,(D.gx l a).2.1,λi hi=>by
   match i,hi with
   |0,hi=>exact(D.gx l a).2.2 0 hi
   |1,hi=>exact(D.gx l a).2.2 1 hi
   |2,hi=>exact(D.gx l a).2.2 2 hi
   |3,hi=>exact(D.gx l a).2.2 3 hi
   |4,hi=>exact(D.gx l a).2.2 4 hi
   |5,hi=>exact(D.gx l a).2.2 5 hi
   |6,hi=>exact(D.gx l a).2.2 6 hi
   |7,hi=>exact(l1 l hi).elim ((D.gx l a).2.2 7) λe=>absurd e (TL (D.gx l a).1)⟩ }
theorem Dw.cell(D:Dw F G h lu iA jx t R){i:Nat}(hi:i<8)(hc:lP (λl=>comp lu iA jx R i l) h h') :
  (∀l,F l->h'.get l=h.get l)/\(∀l,G l->h'.get l=h.get l)/\∀k l,k<8->k≠i->comp lu iA jx R k l->h'.get l=h.get l:=by
 let⟨a,b,c⟩:=D.kept hi hi (hc.ZC λ_ _ h=> .inl h)
 grind
theorem Dw.zgC(D:Dw F G h lu iA jx t R){n:Nat}(e:n<=t.s.known.length) :
  ∃b c,iY 1 R.vk none (some (.int .i64 n)) h=some b/\gq 1 (.ptr iA 0) b h=some (.val .undef c)/\h.next<=c.next/\Kp F G h c/\Dw F G c lu iA jx {t with s:=Un.cut n t.s} {R with vk:=b}:=by
 let⟨b,f,d,l1⟩:=D.ok.cut e
 have g:=o0 (o:=0) (qY:=[b]) D.gk (by simp) d.one rfl;have hc:lP (λl=>comp lu iA jx R 1 l) h (h.put iA (.cells iU 1 true false [b])):=lP.put _ rfl D.nk.1
 let⟨kF,kG,kC⟩:=D.cell (by decide) hc
 refine⟨b,_,f,g,iZ _,⟨hc.next,by grind⟩,?_⟩
 exact {
  fl:=D.fl
  gu:=by rw[kC 0 lu (by decide) (by decide) rfl];exact D.gu
  gk:=fY _ D.nk.1
  gb:=by rw[kC 2 jx (by decide) (by decide) rfl];exact D.gb
  nu:=D.nu
  nk:=D.nk
  nb:=D.nb
  ov:=D.ov.fk kF (λl a=>kC 3 l (by decide) (by decide) a) hc.next
  ob:=D.ob.fk kF (λl a=>kC 4 l (by decide) (by decide) a) hc.next
  os:=D.os.fk kF (λl a=>kC 5 l (by decide) (by decide) a) hc.next
  ok:=d.fk kF (λl a=>kC 6 l (by decide) (by decide) (l1 l a)) hc.next
  oc:=D.oc.fk kF (λl a=>kC 7 l (by decide) (by decide) a) hc.next
  sp:=D.sp.fk kF
  kc:=λl a=>D.kc l (l1 l a)
  gx:=λl a=>⟨(D.gx l a).1,(D.gx l a).2.1,λi hi=>by
   match i,hi with
   |0,hi=>exact(D.gx l a).2.2 0 hi
   |1,hi=>exact(D.gx l a).2.2 1 hi
   |2,hi=>exact(D.gx l a).2.2 2 hi
   |3,hi=>exact(D.gx l a).2.2 3 hi
   |4,hi=>exact(D.gx l a).2.2 4 hi
   |5,hi=>exact(D.gx l a).2.2 5 hi
   |6,hi=>exact(D.gx l a).2.2 6 (l1 l hi)
   |7,hi=>exact(D.gx l a).2.2 7 hi⟩ }
theorem Dw.zc6(D:Dw F G h lu iA jx t R){c p:V}{b:List Nat}(hp:il eN F h b p):Kp F G h (h.put jx (.cells fJ 1 true false [c,.int .i64 0,.int .i64 0,.ei,p,.int .i64 0]))/\
  Dw F G (h.put jx (.cells fJ 1 true false [c,.int .i64 0,.int .i64 0,.ei,p,.int .i64 0])) lu iA jx {t with fh:=b} {R with vp:=p,cc:=c}:=by
 have hc:lP (λl=>comp lu iA jx R 2 l) h (h.put jx (.cells fJ 1 true false [c,.int .i64 0,.int .i64 0,.ei,p,.int .i64 0])):=lP.put _ rfl D.nb.1
 let⟨kF,kG,kC⟩:=D.cell (by decide) hc
 refine⟨⟨hc.next,by grind⟩,?_⟩
 exact {
  fl:=D.fl
  gu:=by rw[kC 0 lu (by decide) (by decide) rfl];exact D.gu
  gk:=by rw[kC 1 iA (by decide) (by decide) rfl];exact D.gk
  gb:=fY _ D.nb.1
  nu:=D.nu
  nk:=D.nk
  nb:=D.nb
  ov:=D.ov.fk kF (λl a=>kC 3 l (by decide) (by decide) a) hc.next
  ob:=D.ob.fk kF (λl a=>kC 4 l (by decide) (by decide) a) hc.next
  os:=D.os.fk kF (λl a=>kC 5 l (by decide) (by decide) a) hc.next
  ok:=D.ok.fk kF (λl a=>kC 6 l (by decide) (by decide) a) hc.next
  oc:=D.oc.fk kF (λl a=>kC 7 l (by decide) (by decide) a) hc.next
  sp:=hp.fk kF
  kc:=D.kc
  gx:=D.gx}
def fzc(F:Nat->Prop)(v:V):Nat->Prop:=λl=>F l\/Loc v l
theorem Dw.flush(D:Dw F G h lu iA jx t R):il eN (fzc F R.vc) h t.s.cur R.vc/\Dw (fzc F R.vc) G h lu iA jx {t with s:={t.s with cur:=[]} } {R with vc:= .ei}:=by
 refine⟨D.oc.slR (λ_ h=> .inl h) λ_ h=> .inr h,?_⟩
 have D':Dw F G h lu iA jx {t with s:={t.s with cur:=[]} } {R with vc:= .ei}:=
  { D with
    oc:= .nil
    kc:=by simp_all
    gx:=λl a=>⟨(D.gx l a).1,(D.gx l a).2.1,λi hi=>by
      match i,hi with
      |0,hi=>exact(D.gx l a).2.2 0 hi
      |1,hi=>exact(D.gx l a).2.2 1 hi
      |2,hi=>exact(D.gx l a).2.2 2 hi
      |3,hi=>exact(D.gx l a).2.2 3 hi
      |4,hi=>exact(D.gx l a).2.2 4 hi
      |5,hi=>exact(D.gx l a).2.2 5 hi
      |6,hi=>exact(D.gx l a).2.2 6 hi
      |n+7,hi=>exact(match n,hi with|0,hi=>hi)⟩ }
 refine D'.more (λ_ h=> .inl h) λl a=>a.imp id λhc=>⟨(D.oc.vV hc).2.1,λi hi=>?_,λb=>(D.gx l b).2.2 7 hc⟩
 match i,hi with
 |0,hi=>exact nomatch D.Fj (i:=0) (j:=7) hi hc (by decide) (by decide)
 |1,hi=>exact nomatch D.Fj (i:=1) (j:=7) hi hc (by decide) (by decide)
 |2,hi=>exact nomatch D.Fj (i:=2) (j:=7) hi hc (by decide) (by decide)
 |3,hi=>exact nomatch D.Fj (i:=3) (j:=7) hi hc (by decide) (by decide)
 |4,hi=>exact nomatch D.Fj (i:=4) (j:=7) hi hc (by decide) (by decide)
 |5,hi=>exact nomatch D.Fj (i:=5) (j:=7) hi hc (by decide) (by decide)
 |6,hi=>exact nomatch D.Fj (i:=6) (j:=7) hi hc (by decide) (by decide)
 |n+7,hi=>exact(match n,hi with|0,hi=>hi)
theorem Dw.zd0(D:Dw F G h lu iA jx t R){p:Nat}{xs:List Nat}{a:V}(hp:p<t.s.ej.length)(f:il eN F h xs a) :
  ∃l d,gB 6 R.vv (.int .i64 p)=some (.ptr l (p*6))/\gq 1 (.ptr l (p*6+4)) a h=some (.val .undef d)/\h.next<=d.next/\Kp F G h d/\Dw F G d lu iA jx {t with s:=setArgs t.s p xs} R:=by
 let⟨l,d,_,g,j,n,hc⟩:=D.ov.store (k:=4) (y:={t.s.ej[p]with args:=xs}) hp (by decide) f.one (λw ⟨x,m,_⟩=>by subst m;exact⟨a,rfl,f⟩)
 let⟨kF,kG,kC⟩:=D.cell (i:=3) (by decide) hc
 refine ⟨l,d,g,j,hc.next,⟨hc.next,by grind⟩,?_⟩;have c:∀l,l<h.next->l<d.next:=λl b=>Ep b hc.next;have em:(setArgs t.s p xs).ej=t.s.ej.set p {t.s.ej[p]with args:=xs}:=by
  show t.s.ej.modify p _=_;refine wBL λi=>?_;rw[ List.getElem?_set];by_cases e:p=i
  ·grind
  ·simp[e]
 exact {
  fl:=λl b=>c l (D.fl l b)
  gu:=by rw[kC 0 lu (by decide) (by decide) rfl];exact D.gu
  gk:=by rw[kC 1 iA (by decide) (by decide) rfl];exact D.gk
  gb:=by rw[kC 2 jx (by decide) (by decide) rfl];exact D.gb
  nu:=⟨c _ D.nu.1,D.nu.2⟩
  nk:=⟨c _ D.nk.1,D.nk.2⟩
  nb:=⟨c _ D.nb.1,D.nb.2⟩
  ov:=by simp_all
  ob:=D.ob.fk kF (λl b=>kC 4 l (by decide) (by decide) b) hc.next
  os:=D.os.fk kF (λl b=>kC 5 l (by decide) (by decide) b) hc.next
  ok:=D.ok.fk kF (λl b=>kC 6 l (by decide) (by decide) b) hc.next
  oc:=D.oc.fk kF (λl b=>kC 7 l (by decide) (by decide) b) hc.next
  sp:=D.sp.fk kF
  kc:=D.kc
  gx:=λl b=>⟨c l (D.gx l b).1,(D.gx l b).2⟩ }
end
