/- Parts. -/
import Derived.Test.YtpfjdlicdljhaaaDoorM09
import Derived.Test.YtpfjdlicdljhaaaDoorM13
set_option maxHeartbeats 4000000
namespace Go.Proofs.YtpfjdlicdljhaaaDoor.Hx
open Un
def eN:pG Nat where
 sz:=1
 rel _ _ n cs:=cs=[.int .i64 n]
 len h:=by subst h;rfl
 one h:=by subst h;rfl
 eR _ h:=h
 mono _ h:=h
def lT(x:Vl)(w:V):List V:=[.int .i64 x.op,.int .i64 x.a,.int .i64 x.b,.int .i64 x.n,w,.int .i64 x.state]
def eV:pG Vl where
 sz:=6
 rel F h x cs:=∃w,cs=lT x w/\iA eN F h x.args w
 len:=λ⟨_,h,_⟩=>by subst h;rfl
 one:=λ⟨_,h,hs⟩=>by subst h;simp only[lT,ev,hs.one];rfl
 eR:=λhk ⟨w,h,hs⟩=>⟨w,h,hs.eR hk⟩
 mono:=λa ⟨w,h,hs⟩=>⟨w,h,hs.mono a⟩
def lB(x:Bk)(v n p:V):List V:=[v,.int .i64 x.fin,.int .i64 x.cond,n,p,.int .i64 x.state]
def eK:pG Bk where
 sz:=6
 rel F h x cs:=∃v n p,cs=lB x v n p/\iA eN F h x.ef v/\iA eN F h x.next n/\iA eN F h x.ez p
 len:=λ⟨_,_,_,h,_⟩=>by subst h;rfl
 one:=λ⟨_,_,_,h,a,b,c⟩=>by subst h;simp only[lB,ev,a.one,b.one,c.one];rfl
 eR:=λhk ⟨v,n,p,h,a,b,c⟩=>⟨v,n,p,h,a.eR hk,b.eR hk,c.eR hk⟩
 mono:=λd ⟨v,n,p,h,a,b,c⟩=>⟨v,n,p,h,a.mono d,b.mono d,c.mono d⟩
def Ol(x:Fm)(l s:V):List V:=[.int .i64 x.func,.int .i64 x.pc,l,s]
def eF:pG Fm where
 sz:=4
 rel F h x cs:=∃l s,cs=Ol x l s/\iA eN F h x.locals l/\iA eN F h x.stack s
 len:=λ⟨_,_,h,_⟩=>by subst h;rfl
 one:=λ⟨_,_,h,a,b⟩=>by subst h;simp only[Ol,ev,a.one,b.one];rfl
 eR:=λhk ⟨l,s,h,a,b⟩=>⟨l,s,h,a.eR hk,b.eR hk⟩
 mono:=λc ⟨l,s,h,a,b⟩=>⟨l,s,h,a.mono c,b.mono c⟩
def eT:pG (List Fm):=eL eF
theorem tP(F:Nat->Prop)(h:Hp):∀(l:List Nat),oX eN F h (l.map λn=>V.int .i64 (n:Nat)) l
 |[]=>trivial
 |n::l=>⟨[.int .i64 n],_,rfl,rfl,tP F h l⟩
def Loc(v:V)(t:Nat):Prop:=match v with
 | .slice l _ _=>l=t
 |_=>False
@[simp] theorem zb7 (t:Nat):Loc .ee t=False:=rfl
@[simp] theorem zaV (l o n t:Nat):Loc (.slice l o n) t=(l=t):=rfl
def jZ{α:Type}(E:pG α)(ty:Nat)(F:Nat->Prop)(h:Hp)(xs:List α)(v:V):Prop:=(v = .ee/\xs=[])\/∃t cs,v = .slice t 0 xs.length/\t<h.next/\¬F t/\h.get t=some (.cells ty E.sz true false cs)/\oX E F h cs xs/\fW cs=true
section
variable{α:Type}{E:pG α}{ty:Nat}{F F':Nat->Prop}{h h':Hp}{xs:List α}{v:V}
theorem jZ.nil:jZ E ty F h [] .ee:= .inl ⟨rfl,rfl⟩
theorem jZ.len(a:jZ E ty F h xs v):fy v=some (.int .i64 xs.length):=by
 rcases a with⟨rfl,rfl⟩|⟨t,cs,rfl,_⟩ <;> rfl
theorem jZ.one(a:jZ E ty F h xs v):v.one=true:=by
 rcases a with⟨rfl,rfl⟩|⟨t,cs,rfl,_⟩ <;> rfl
noncomputable def VE(h:Hp) (l:Nat):Option (Nat×Nat):=match h.get l with
 |some (.cells e sz _ _ _)=>some (e,sz)
 |_=>none
theorem JU{l e sz:Nat}{a b:Bool}{cs:List V}(c:h.get l=some (.cells e sz a b cs)):VE h l=some (e,sz):=by unfold VE;rw[c]
theorem jZ.tZ(b:jZ E ty F h xs v){t:Nat}(a:Loc v t):VE h t=some (ty,E.sz)/\t<h.next/\¬F t:=by
 rcases b with⟨rfl,_⟩|⟨t',cs,rfl,c,d,e,_⟩
 ·exact a.elim
 ·obtain rfl:t' = t:=a;exact⟨JU e,c,d⟩
theorem jZ.eR(a:jZ E ty F h xs v)(hk:∀l,F l->h'.get l=h.get l)(b:∀l,Loc v l->h'.get l=h.get l)(c:h.next<=h'.next):jZ E ty F h' xs v:=by
 rcases a with a|⟨t,cs,rfl,d,e,f,g,i⟩
 ·exact .inl a
 ·exact .inr ⟨t,cs,rfl,Cc d c,e,by rw[b t rfl];exact f,g.eR hk,i⟩
theorem jZ.mono(a:jZ E ty F h xs v)(b:∀l,F l->F' l)(c:∀t,Loc v t->¬F' t):jZ E ty F' h xs v:=by
 rcases a with a|⟨t,cs,rfl,d,i,e,f,g⟩
 ·exact .inl a
 ·exact .inr ⟨t,cs,rfl,d,c t rfl,e,f.mono b,g⟩
theorem jZ.Xp(a:jZ E ty F h xs v)(b:∀l,F l->F' l)(c:∀t,Loc v t->F' t):iA E F' h xs v:=by
 rcases a with a|⟨t,cs,rfl,f,g,d,e,i⟩
 ·exact .inl a
 ·exact .inr ⟨t,0,ty,true,false,cs,rfl,c t rfl,d,.inr rfl,LK _,by simpa using e.mono b⟩
theorem jZ.read(a:jZ E ty F h xs v):iA E (λl=>F l\/Loc v l) h xs v:=a.Xp (λ_ h=> .inl h) λ_ h=> .inr h
theorem jZ.append{kE:Nat}{x:V}{new:List V}{ys:List α}(C:jZ E ty F h xs v)(c:kG h E.sz x=some (ys.length,new))(q:oX E F h new ys)(D:new.length=ys.length*E.sz)(i:fW new=true)(hk:0<ys.length)(I:0<E.sz)
  (o:∀l,F l->l<h.next) (z:(xs.length+ys.length)*kE<=70368744177664) (m:xs.length+ys.length<=70368744177664) :
  ∃r h',eQ ty E.sz kE v x h=some (.val r h')/\jZ E ty F h' (xs++ys) r/\kM (Loc v) h h'/\(∀t,Loc r t->Loc v t\/t=h.next):=by
 have f:Nat.beq ys.length 0=false:=by
  cases hq:ys.length with
  |zero=>omega
  |succ k=>rfl
 rcases C with⟨rfl,rfl⟩|⟨t,cs,rfl,j,s,A,u,g⟩
 ·refine⟨.slice h.next 0 ys.length,h.new (.cells ty E.sz true false new),?_,.inr ⟨h.next,new,by simp,MC _,λb=>Ym _ (o _ b),fg _ _,?_,i⟩,kM.new _ _,λt G=> .inr G.symm⟩
  ·unfold eQ;simp only[c,fe,f,i,rF];rw[lL _ (Ro (by simpa using z)),lL _ (Ro (by simpa using m))]
  ·exact q.eR λl b=>fm _ (o l b)
 ·have H:=u.length;have B:(xs.length+ys.length)*E.sz=xs.length*E.sz+ys.length*E.sz:=UQ _ _ _
  cases hroom:Nat.ble (Nat.add 0 (Nat.mul (Nat.add xs.length ys.length) E.sz)) cs.length with
  | true=>
    have J:(xs.length+ys.length)*E.sz<=cs.length:=by
      have:=Jd hroom;show _<=_;rw[show Nat.add 0 (Nat.mul (Nat.add xs.length ys.length) E.sz)=(xs.length+ys.length)*E.sz from wX _]at this;exact this
    refine ⟨.slice t 0 (xs.length+ys.length),h.put t (.cells ty E.sz true false (cs.take (xs.length*E.sz)++new++cs.drop (xs.length*E.sz+new.length))),?_,
      .inr ⟨t,_,by simp,j,s,fS _ j,?_,?_⟩,kM.put _ rfl j,λ_ h=> .inl h⟩
    ·unfold eQ jv
     have w:oC (Nat.add 0 (Nat.mul xs.length E.sz)) cs new=some (cs.take (xs.length*E.sz)++new++cs.drop (xs.length*E.sz+new.length)):=by
       rw[show Nat.add 0 (Nat.mul xs.length E.sz)=xs.length*E.sz from wX _];exact ym (by rw[D];omega)
     simp only[c,fe,f,i,rF,A,ZF,hroom,w];rw[lL _ (Tv _)];rfl
    ·refine oX.eR (h:=h) (λl b=>fZ _ j λe=>s (e▸b)) ?_
     rw[Jx];exact u.take.append (by rw[KN];omega) q.more
    ·rw[mE,mE,i]
     have p:∀(l:List V),fW l=l.all V.one:=λl=>by
       induction l with
       |nil=>rfl
       |cons a l y=>rw[ev,y];rfl
     rw[p]at g⊢;rw[p];rw[Oj]at g;simp only[Bool.and_true,ve,Oj]
     exact⟨λx c=>g x (wBZ c),λx c=>g x (List.mem_of_mem_drop c)⟩
  | false=>
    have p:∀(l:List V),fW l=l.all V.one:=λl=>by
      induction l with
      |nil=>rfl
      |cons a l y=>rw[ev,y];rfl
    have d:fW (cs.take (xs.length*E.sz))=true:=by
      rw[p]at g⊢;rw[Oj]at g⊢;exact λx c=>g x (wBZ c)
    refine ⟨.slice h.next 0 (xs.length+ys.length),(h.put t (.cells ty E.sz false false cs)).new (.cells ty E.sz true false (cs.take (xs.length*E.sz)++new)),?_,
      .inr ⟨h.next,_,by simp,MC _,λb=>Ym _ (o _ b),fg (h.put t _) _,?_,by rw[mE,d,i];rfl⟩,
      (kM.put (S:=Loc (.slice t 0 xs.length)) (.cells ty E.sz false false cs) rfl j).trans (kM.new _ _),λ_ h=> .inr h.symm⟩
    ·unfold eQ jv
     have n:sub cs 0 (Nat.mul xs.length E.sz)=some (cs.take (xs.length*E.sz)):=by
       show sub cs 0 (xs.length*E.sz)=_;rw[BY (show 0+xs.length*E.sz<=cs.length by omega),Xk]
     simp only[c,fe,f,i,rF,A,ZF,hroom,n,d];rw[lL _ (Tv _),lL _ (show Nat.ble (Nat.mul (Nat.add xs.length ys.length) kE) 70368744177664=true from Ro z),lL _ (show Nat.ble (Nat.add xs.length ys.length) 70368744177664=true from Ro m)];rfl
    ·refine oX.eR (h:=h) (λl b=>?_) ?_
     ·rw[fm _ (show l<(h.put t _).next from o l b),fZ _ j λe=>s (e▸b)]
     ·exact u.take.append (by rw[KN];omega) q
theorem jZ.cut(d:jZ E ty F h xs v){n:Nat}(a:n<=xs.length):∃b,iK E.sz v none (some (.int .i64 n)) h=some b/\jZ E ty F h (xs.take n) b/\∀t,Loc b t->Loc v t:=by
 rcases d with⟨rfl,rfl⟩|⟨t,cs,rfl,e,f,c,g,i⟩
 ·obtain rfl:n=0:=by simpa using a
  exact⟨.ee,rfl,.inl ⟨rfl,rfl⟩,λ_ h=>h⟩
 ·refine⟨.slice t 0 n,?_,.inr ⟨t,cs,by rw[KN,wBr a],e,f,c,g.taken n,i⟩,λ_ h=>h⟩;unfold iK jv;simp only[c,fe,DN,MN];rw[lL _ (Tv _),lL _ (Ro (LK _)),lL _ (by rw[Ro a];rfl)];simp
theorem jZ.store(n:jZ E ty F h xs v){i k:Nat}{y:α}{u:V}(hi:i<xs.length)(hk:k<E.sz)(f:u.one=true)(o:∀w,E.rel F h xs[i] w->E.rel F h y (w.set k u)) :
  ∃t h',Loc v t/\gI E.sz v (.int .i64 i)=some (.ptr t (i*E.sz))/\gG 1 (.ptr t (i*E.sz+k)) u h=some (.val .undef h')/\jZ E ty F h' (xs.set i y) v/\kM (Loc v) h h':=by
 rcases n with⟨rfl,rfl⟩|⟨t,cs,rfl,c,g,p,j,d⟩
 ·simp at hi
 ·obtain ⟨w,q,C,m⟩:=j.get (i:=i) (x:=xs[i]) (ig hi);have b:cs.set (i*E.sz+k) u=cs.take (i*E.sz)++w.set k u++cs.drop (i*E.sz+E.sz):=by
   have e0:cs=cs.take (i*E.sz)++(w++cs.drop (i*E.sz+E.sz)):=by
    rw[<-q]
    conv=>lhs;rw[<-WN (i*E.sz) cs]
    congr 1;rw[<-Yw,WN]
   have D:=E.len m
   conv=>lhs;rw[e0]
   rw[List.set_append_right _ _ (by rw[KN];omega),KN,wBr (by omega),wBb,List.set_append_left _ _ (by omega),Jx]
  refine⟨t,h.put t (.cells ty E.sz true false (cs.set (i*E.sz+k) u)),rfl,by rw[vU _ _ _ _ _ _ hi,wX],KR p (by omega) f,.inr ⟨t,_,by simp,c,g,fS _ c,?_,?_⟩,kM.put _ rfl c⟩
  ·refine oX.eR (h:=h) (λl r=>fZ _ c λe=>g (e▸r)) ?_;rw[b];exact j.set hi (o w m)
  ·have s:∀(l:List V),fW l=l.all V.one:=λl=>by
    induction l with
    |nil=>rfl
    |cons a l z=>rw[ev,z];rfl
   rw[s]at d⊢;rw[Oj]at d⊢;intro x A;rcases List.mem_or_eq_of_mem_set A with B|rfl
   ·exact d x B
   ·exact f
end
abbrev en:Nat:=3
abbrev jb:Nat:=4
abbrev iy:Nat:=22
abbrev gS:Nat:=29
abbrev gi:Nat:=38
abbrev fu:Nat:=41
abbrev kS:Nat:=50
abbrev JG:Nat:=47
abbrev Ox:Nat:=24
abbrev uL:Nat:=105
abbrev JN:Nat:=64
open Un
structure Pc where
 kX:Nat->Prop
 ok:(Nat->Prop)->Hp->Prop
 L0:∀{F:Nat->Prop} {h:Hp},ok F h->∀l,kX l->l<h.next/\¬F l
 eR:∀{F:Nat->Prop} {h h':Hp},ok F h->(∀l,F l->h'.get l=h.get l)->(∀l,kX l->h'.get l=h.get l)->h.next<=h'.next->ok F h'
 mono:∀{F F':Nat->Prop} {h:Hp},ok F h->(∀l,F l->F' l)->(∀l,kX l->¬F' l)->ok F' h
def emp:Pc:=⟨λ_=>False,λ_ _=>True,by simp_all,by simp_all,by simp_all⟩
def er(l ty:Nat)(vs:List V):Pc where
 kX:=λm=>m=l
 ok F h:=h.get l=some (.cells ty 1 true false vs)/\l<h.next/\¬F l
 L0:=by simp_all
 eR:=by grind
 mono:=by simp_all
def eJ{α:Type}(E:pG α)(ty:Nat)(xs:List α)(v:V):Pc where
 kX:=Loc v
 ok F h:=jZ E ty F h xs v
 L0:=λh _ a=>(h.tZ a).2
 eR:=by grind[jZ.eR]
 mono:=by grind[jZ.mono]
structure Sn (F:Nat->Prop) (h:Hp) (F':Nat->Prop) (h':Hp):Prop where
 next:h.next<=h'.next
 eR:∀l,F l->h'.get l=h.get l
 mono:∀l,F l->F' l
theorem Sn.refl(F:Nat->Prop)(h:Hp):Sn F h F h:=⟨iZ _,by simp_all,λ_ h=>h⟩
theorem Sn.trans{F F' c:Nat->Prop} {h h' d:Hp}(a:Sn F h F' h')(b:Sn F' h' c d):Sn F h c d:=
 ⟨Fe a.next b.next,λl e=>(b.eR l (a.mono l e)).trans (a.eR l e),λl e=>b.mono l (a.mono l e)⟩
structure ei (F:Nat->Prop) (h:Hp) (cs:List Pc):Prop where
 fl:∀l,F l->l<h.next
 ok:∀(i:Nat) (c:Pc),cs[i]? =some c->c.ok F h
 BS:∀(i j:Nat) (c d:Pc),cs[i]? =some c->cs[j]? =some d->i≠j->∀l,c.kX l->¬d.kX l
section
variable{F F':Nat->Prop}{h h':Hp}{cs:List Pc}{i j:Nat}{c d p:Pc}
theorem BJ{cs:List Pc}{i:Nat}{p:Pc}{j:Nat}{d:Pc}(a:(cs.set i p)[j]? =some d):(j=i/\d=p)\/(j≠i/\cs[j]? =some d):=by
 grind
theorem ei.nil(a:∀l,F l->l<h.next):ei F h []:=⟨a,by simp_all,by simp_all⟩
theorem ei.cons(H:ei F h cs)(f:p.ok F h)(g:∀(i:Nat) c,cs[i]? =some c->∀l,p.kX l->¬c.kX l):ei F h (p::cs) where
 fl:=H.fl
 ok:=λi c hc=>by
  cases i with
  |zero=>simp_all
  |succ i=>exact H.ok i c hc
 BS:=λi j c d hc b k l e a=>by
  cases i with
  | zero=>
    grind
  | succ i=>
    cases j with
    |zero=>grind
    |succ j=>exact H.BS i j c d hc b (by omega) l e a
theorem ei.tail(H:ei F h (p::cs)):ei F h cs where
 fl:=H.fl
 ok:=λi c hc=>H.ok (i+1) c hc
 BS:=λi j c d hc a b=>H.BS (i+1) (j+1) c d hc a (by omega)
theorem ei.add(H:ei F h cs)(a:p.ok F h)(b:∀l,¬p.kX l):ei F h (p::cs):=H.cons a (by simp_all)
theorem ei.swap(H:ei F h cs)(hi:cs[i]? =some c)(t:p.ok F h)(n:∀l,p.kX l->c.kX l):ei F h (cs.set i p) where
 fl:=H.fl
 ok:=λj d u=>by
  rcases BJ u with⟨_,rfl⟩|⟨_,f⟩
  ·exact t
  ·exact H.ok j d f
 BS:=λj k a b v o g l m e=>by
  rcases BJ v with⟨q,rfl⟩|⟨q,r⟩
  ·rcases BJ o with⟨s,_⟩|⟨_,f⟩
   ·omega
   ·subst q;exact H.BS j k c b hi f g l (n l m) e
  ·rcases BJ o with⟨s,rfl⟩|⟨_,f⟩
   ·subst s;exact H.BS j k a c r hi g l m (n l e)
   ·exact H.BS j k a b r f g l m e
theorem ei.forget(H:ei F h cs)(hi:cs[i]? =some c):ei F h (cs.set i emp):=H.swap hi trivial λ_ h=>h.elim
theorem ei.zaI(H:ei F h cs)(hi:cs[i]? =some c)(hc:kM c.kX h h')(s:∀l,F l->F' l)(n:∀l,F' l->F l\/c.kX l\/(h.next<=l/\l<h'.next))(A:p.ok F' h')(u:∀l,p.kX l->c.kX l\/h.next<=l):ei F' h' (cs.set i p)/\Sn F h F' h':=by
 have o:=H.ok i c hi;have t:∀l,F l->h'.get l=h.get l:=λl e=>hc.eR l (H.fl l e) λhs=>(c.L0 o l hs).2 e;have other:∀(j:Nat) (d:Pc),j≠i->cs[j]? =some d->d.ok F' h'/\∀l,d.kX l->¬p.kX l:=λj d v q=>by
  have m:=H.ok j d q;have r:∀l,d.kX l->¬c.kX l:=H.BS j i d c q hi v;refine⟨d.mono (d.eR m t (λl e=>hc.eR l (d.L0 m l e).1 (r l e)) hc.next) s λl e f=>?_,λl e f=>?_⟩
  ·rcases n l f with g|g|g
   ·exact(d.L0 m l e).2 g
   ·simp_all
   ·have:=(d.L0 m l e).1;omega
  ·rcases u l f with g|g
   ·simp_all
   ·have:=(d.L0 m l e).1;omega
 refine⟨⟨λl e=>?_,λj d q=>?_,λj k a b w x y l e f=>?_⟩,⟨hc.next,t,s⟩⟩
 ·rcases n l e with g|g|g
  ·exact Cc (H.fl l g) hc.next
  ·exact Cc (c.L0 o l g).1 hc.next
  omega
 ·grind
 ·rcases BJ w with⟨z,rfl⟩|⟨z,m⟩
  ·grind
  ·rcases BJ x with⟨B,rfl⟩|⟨_,r⟩
   ·grind
   ·exact H.BS j k a b m r y l e f
theorem ei.AS(H:ei F h cs)(hi:cs[i]? =some c)(hc:kM c.kX h h')(a:p.ok F h')(b:∀l,p.kX l->c.kX l\/h.next<=l):ei F h' (cs.set i p)/\Sn F h F h':=
 H.zaI hi hc (by simp_all) (by simp_all) a b
theorem ei.grow(H:ei F h cs)(a:He h h'):ei F h' cs/\Sn F h F h':=by
 have c:∀l,F l->h'.get l=h.get l:=λl b=>a.eR l (H.fl l b) id;exact⟨⟨λl b=>Cc (H.fl l b) a.next,λj d e=>d.eR (H.ok j d e) c (λl b=>a.eR l (d.L0 (H.ok j d e) l b).1 id) a.next,H.BS⟩,⟨a.next,c,λ_ h=>h⟩⟩
theorem ei.new(H:ei F h cs)(o:O)(b:p.ok F (h.new o))(g:∀l,p.kX l->l=h.next):ei F (h.new o) (p::cs)/\Sn F h F (h.new o):=by
 obtain⟨c,e⟩:=H.grow (kM.new h o);refine⟨c.cons b λj d f l i a=>?_,e⟩;have:=(d.L0 (H.ok j d f) l a).1
 grind
theorem ei.fresh(H:ei F h cs):¬F h.next:=λa=>Ym _ (H.fl _ a)
theorem ei.zt(H:ei F h cs)(ty:Nat)(vs:List V):ei F (h.new (.cells ty 1 true false vs)) (er h.next ty vs::cs)/\Sn F h F (h.new (.cells ty 1 true false vs)):=
 H.new _ ⟨fg _ _,MC _,H.fresh⟩ λ_ e=>e
theorem ei.XE(H:ei F h cs){α:Type}{E:pG α}(ty:Nat){xs:List α}{ws:List V}{n:Nat}(a:n=xs.length)(b:oX E F h ws xs)(c:fW ws=true) :
  ei F (h.new (.cells ty E.sz true false ws)) (eJ E ty xs (.slice h.next 0 n)::cs)/\Sn F h F (h.new (.cells ty E.sz true false ws)):=by
 subst a;exact H.new _ (.inr ⟨h.next,ws,rfl,MC _,H.fresh,fg _ _,b.eR λl d=>fm _ (H.fl l d),c⟩) λ_ e=>e.symm
theorem ei.U1(H:ei F h cs){α:Type}{E:pG α}(ty:Nat){xs:List α}{ws:List V}{n:Nat}(f:n=xs.length)(g:oX E F h ws xs)(ro:Bool) :
  ei (λl=>F l\/l=h.next) (h.new (.cells ty E.sz true ro ws)) cs/\Sn F h (λl=>F l\/l=h.next) (h.new (.cells ty E.sz true ro ws))/\iA E (λl=>F l\/l=h.next) (h.new (.cells ty E.sz true ro ws)) xs (.slice h.next 0 n):=by
 subst f;obtain⟨b,c⟩:=H.grow (kM.new h (.cells ty E.sz true ro ws));refine⟨⟨λl a=>?_,λj d e=>d.mono (b.ok j d e) (by simp_all) λl a i=>?_,b.BS⟩,⟨c.next,c.eR,by simp_all⟩,?_⟩
 ·rcases a with a|rfl
  ·exact b.fl l a
  simp_all
 ·have k:=d.L0 (H.ok j d e) l a
  simp_all
 ·exact .inr ⟨h.next,0,ty,true,ro,ws,rfl,.inr rfl,fg _ _,.inr rfl,LK _,by rw[Xk];exact(g.eR λl a=>fm _ (H.fl l a)).mono (by simp_all)⟩
theorem ei.get(H:ei F h cs)(i:Nat){l ty:Nat}{vs:List V}(hi:cs[i]? =some (er l ty vs)):h.get l=some (.cells ty 1 true false vs):=(H.ok i _ hi).1
theorem ei.ld(H:ei F h cs)(i:Nat){l ty o:Nat}{vs:List V}{u:V}(hi:cs[i]? =some (er l ty vs))(a:vs[o]? =some u):ey (.ptr l o) h=some u:=kr (H.get i hi) a
theorem ei.C9(H:ei F h cs)(i:Nat){l ty n:Nat}{vs:List V}(hi:cs[i]? =some (er l ty vs))(a:vs.length=n):gy n (.ptr l 0) h=some (.agg vs):=Bv (H.get i hi) a
theorem ei.st(H:ei F h cs)(i:Nat){l ty o:Nat}{vs:List V}{u:V}(hi:cs[i]? =some (er l ty vs))(b:o<vs.length)(c:u.one=true) :
  ∃h',gG 1 (.ptr l o) u h=some (.val .undef h')/\h.next<=h'.next/\ei F h' (cs.set i (er l ty (vs.set o u)))/\Sn F h F h':=by
 have a:=H.ok i _ hi;refine⟨_,KR a.1 b c,iZ _,H.AS hi (kM.put _ rfl a.2.1) ⟨fS _ a.2.1,a.2.1,a.2.2⟩ λ_ h=> .inl h⟩
theorem ei.stk(H:ei F h cs)(i:Nat){l ty o:Nat}{vs:List V}{u:V}(hi:cs[i]? =some (er l ty vs))(b:o<vs.length)(c:u.one=true) :
  ∃h',gG 1 (.ptr l o) u h=some (.val .undef h')/\h.next<=h'.next/\ei F h' (cs.set i (er l ty (vs.set o u)))/\Sn F h F h'/\∀m,m≠l->h'.get m=h.get m:=by
 have a:=H.ok i _ hi;obtain⟨d,e⟩:=H.AS (p:=er l ty (vs.set o u)) (h':=h.put l (.cells ty 1 true false (vs.set o u))) hi (kM.put _ rfl a.2.1) ⟨fS _ a.2.1,a.2.1,a.2.2⟩ λ_ h=> .inl h;exact⟨_,KR a.1 b c,iZ _,d,e,λm f=>fZ _ a.2.1 (by omega)⟩
theorem ei.Y0(H:ei F h cs)(i:Nat){l ty n:Nat}{vs ws:List V}(hi:cs[i]? =some (er l ty vs))(b:ws.length=n)(c:vs.length=n)(d:fW ws=true) :
  ∃h',gG n (.ptr l 0) (.agg ws) h=some (.val .undef h')/\h.next<=h'.next/\ei F h' (cs.set i (er l ty ws))/\Sn F h F h':=by
 have a:=H.ok i _ hi;refine⟨_,Ep a.1 b c d,iZ _,H.AS hi (kM.put _ rfl a.2.1) ⟨fS _ a.2.1,a.2.1,a.2.2⟩ λ_ h=> .inl h⟩
section
variable{α:Type}{E:pG α}{ty:Nat}{xs:List α}{v:V}
theorem ei.row(H:ei F h cs)(i:Nat)(hi:cs[i]? =some (eJ E ty xs v)):jZ E ty F h xs v:=H.ok i _ hi
theorem ei.len(H:ei F h cs)(i:Nat)(hi:cs[i]? =some (eJ E ty xs v)):fy v=some (.int .i64 xs.length):=(H.row i hi).len
theorem ei.one(H:ei F h cs)(i:Nat)(hi:cs[i]? =some (eJ E ty xs v)):v.one=true:=(H.row i hi).one
theorem ei.ix(H:ei F h cs)(i:Nat)(hi:cs[i]? =some (eJ E ty xs v)){k:Nat}(hk:k<xs.length)(kd:IntKind) :
  ∃l o w,gI E.sz v (.int kd k)=some (.ptr l o)/\gy E.sz (.ptr l o) h=some (.agg w)/\E.rel (λl=>F l\/Loc v l) h xs[k] w/\∀j u,w[j]? =some u->ey (.ptr l (o+j)) h=some u:=by
 obtain⟨l,o,w,_,a,b,c,d⟩:=(H.row i hi).read.ix hk kd
 grind
theorem ei.US(H:ei F h cs)(i:Nat)(hi:cs[i]? =some (eJ E ty xs v)){k:Nat}(hk:k<xs.length)(kd:IntKind)(a:E.sz=1) :
  ∃l o u,gI 1 v (.int kd k)=some (.ptr l o)/\ey (.ptr l o) h=some u/\E.rel (λl=>F l\/Loc v l) h xs[k] [u]:=by
 obtain⟨l,o,u,_,b,c,d⟩:=(H.row i hi).read.US hk kd a
 grind
theorem ei.Ir(H:ei F h cs)(i:Nat)(hi:cs[i]? =some (eJ E ty xs v)){k:Nat}(hk:k<xs.length)(a:E.sz=1){y:α}{u:V}(f:u.one=true)(g:E.rel F h y [u]) :
  ∃l o h',gI 1 v (.int .i64 k)=some (.ptr l o)/\gG 1 (.ptr l o) u h=some (.val .undef h')/\h.next<=h'.next/\ei F h' (cs.set i (eJ E ty (xs.set k y) v))/\Sn F h F h':=by
 obtain ⟨t,h',n,b,c,j,d⟩:=(H.row i hi).store (k:=0) (y:=y) (u:=u) hk (by omega) f (λw m=>by
  have e:=E.len m;rw[a]at e
  match w,e with
  |[x],_=>exact g)
 rw[a]at b c;exact⟨t,k*1,h',b,c,d.next,H.AS hi d j λ_ h=> .inl h⟩
end
end
open Un
section
variable{F F':Nat->Prop}{h h':Hp}{cs:List Pc}{α:Type}{E:pG α}{ty:Nat}{xs ys:List α}{v x:V}
theorem oX.one:∀{xs:List α}{ws:List V},oX E F h ws xs->ws.length=xs.length*E.sz->fW ws=true
 | [],ws,_,hl=>by
   simp_all
 | y::xs,ws,⟨w,r,b,a,c⟩,hl=>by
   subst b;have d:=E.len a;rw[mE,E.one a,oX.one c (by grind)];rfl
theorem oX.rep{y:α}{u:V}(a:E.rel F h y [u]):∀n,oX E F h (List.replicate n u) (List.replicate n y)
 |0=>trivial
 |n+1=>⟨[u],_,rfl,a,oX.rep a n⟩
theorem LB{u:V}(a:u.one=true):∀n,fW (List.replicate n u)=true
 |0=>rfl
 |n+1=>by rw[List.replicate_succ,ev,a,LB a n];rfl
theorem BU{l off n EI sz:Nat}{ro:Bool}{ds:List V}(b:h.get l=some (.cells EI sz true ro ds))(a:off+n*sz<=ds.length):∃new,kG h sz (.slice l off n)=some (n,new)/\new=(ds.drop off).take (n*sz):=by
 cases n with
 |zero=>exact⟨_,rfl,by simp⟩
 | succ n=>
   refine⟨_,?_,rfl⟩;unfold kG E2 jv;have:sub ds off (Nat.mul (Nat.succ n) sz)=some ((ds.drop off).take ((n+1)*sz)):=BY a
   simp_all
theorem iA.xc(hs:iA E F h ys x):∃new,kG h E.sz x=some (ys.length,new)/\oX E F h new ys/\new.length=ys.length*E.sz:=by
 rcases hs with⟨rfl,rfl⟩|⟨l,off,EI,live,ro,ds,rfl,g,b,c,i,a⟩
 ·exact⟨[],rfl,trivial,by simp⟩
 ·have d:=a.length;rw[wBz]at d;rcases c with rfl|rfl
  ·exact⟨[],rfl,trivial,by simp⟩
  ·obtain⟨new,e,f⟩:=BU (n:=ys.length) (off:=off) (sz:=E.sz) b (by omega);exact⟨new,e,by rw[f];exact a.take,by simp_all⟩
theorem jZ.xc(hs:jZ E ty F h ys x):∃new,kG h E.sz x=some (ys.length,new)/\oX E F h new ys/\new.length=ys.length*E.sz:=by
 rcases hs with⟨rfl,rfl⟩|⟨t,ds,rfl,e,f,b,a,g⟩
 ·exact⟨[],rfl,trivial,by simp⟩
 ·have i:=a.length;obtain⟨new,c,d⟩:=BU (n:=ys.length) (off:=0) (sz:=E.sz) b (by omega);refine⟨new,c,by rw[d,Xk];exact a.take,by simp_all⟩
theorem GN{e sz:Nat}{z:V}:ji e sz 0 z []=some (.cells e sz true false [],λl=> .slice l 0 0):=rfl
theorem ei.app(H:ei F h cs)(i:Nat)(hi:cs[i]? =some (eJ E ty xs v)){kE:Nat}{new:List V}(e:kG h E.sz x=some (ys.length,new))(f:oX E F h new ys)(b:new.length=ys.length*E.sz)
  (j:0<E.sz) (k:kE<=1000) (c:xs.length+ys.length<=10000000) :
  ∃a h',eQ ty E.sz kE v x h=some (.val a h')/\h.next<=h'.next/\ei F h' (cs.set i (eJ E ty (xs++ys) a))/\Sn F h F h':=by
 have d:=H.row i hi;by_cases hk:0<ys.length
 ·have m:(xs.length+ys.length)*kE<=10000000*1000:=Nat.mul_le_mul c k;obtain⟨a,h',n,o,g,l1⟩:=d.append (kE:=kE) e f b (f.one b) hk j H.fl (by omega) (by omega);obtain⟨q,r⟩:=H.AS (p:=eJ E ty (xs++ys) a) hi g o λl b=>(l1 l b).imp id (by omega);exact⟨a,h',n,g.next,q,r⟩
 ·have e0:ys=[]:=by simp_all
  subst e0;refine⟨v,h,?_,iZ _,by rw[GD];exact H.swap hi d λ_ h=>h,Sn.refl _ _⟩;unfold eQ;rw[e];rcases d with⟨rfl,_⟩|⟨t,ds,rfl,_⟩ <;> rfl
theorem ei.L5(H:ei F h cs)(i:Nat)(hi:cs[i]? =some (eJ E ty xs v)){kE:Nat}(hs:iA E F h ys x)(c:0<E.sz)(d:kE<=1000)(a:xs.length+ys.length<=10000000) :
  ∃b h',eQ ty E.sz kE v x h=some (.val b h')/\h.next<=h'.next/\ei F h' (cs.set i (eJ E ty (xs++ys) b))/\Sn F h F h':=by
 obtain⟨new,e,f,g⟩:=hs.xc;exact H.app i hi e f g c d a
theorem ei.zah(H:ei F h cs)(i j:Nat)(hi:cs[i]? =some (eJ E ty xs v)){c:Nat}(d:cs[j]? =some (eJ E c ys x)){kE:Nat}(e:0<E.sz)(f:kE<=1000)(a:xs.length+ys.length<=10000000) :
  ∃b h',eQ ty E.sz kE v x h=some (.val b h')/\h.next<=h'.next/\ei F h' (cs.set i (eJ E ty (xs++ys) b))/\Sn F h F h':=by
 obtain⟨new,g,k,l⟩:=(H.row j d).xc;exact H.app i hi g k l e f a
theorem ei.yI(H:ei F h cs)(i:Nat)(hi:cs[i]? =some (eJ E ty xs v)){kE EI:Nat}{y:α}{w:List V}{ro:Bool}(b:E.rel F h y w)(c:0<E.sz)(d:kE<=1000)(e:xs.length<1000000) :
  ∃a h',eQ ty E.sz kE v (.slice h.next 0 1) (h.new (.cells EI E.sz true ro w))=some (.val a h')/\h.next+1<=h'.next/\ei F h' (cs.set i (eJ E ty (xs++[y]) a))/\Sn F h F h':=by
 obtain⟨f,g⟩:=H.grow (kM.new h (.cells EI E.sz true ro w));have j:kG (h.new (.cells EI E.sz true ro w)) E.sz (.slice h.next 0 1)=some (1,w):=mJ (k:=0) (by rw[E.len b];simp);obtain⟨a,h',m,n,o,p⟩:=f.app (ys:=[y]) i hi j ⟨w,[],by simp,E.eR (λl q=>fm _ (H.fl l q)) b,trivial⟩ (by rw[E.len b];simp) c d (by simp;omega);exact⟨a,h',m,n,o,g.trans p⟩
theorem ei.zbp(H:ei F h cs)(i:Nat)(hi:cs[i]? =some (eJ E ty xs v)){n:Nat}(b:n<=xs.length) :
  ∃a,iK E.sz v none (some (.int .i64 n)) h=some a/\ei F h (cs.set i (eJ E ty (xs.take n) a)):=by
 obtain⟨a,c,d,e⟩:=(H.row i hi).cut b;exact⟨a,c,H.swap hi d e⟩
theorem ei.jQ(H:ei F h cs)(i:Nat)(hi:cs[i]? =some (eJ E ty xs v)):ei (λl=>F l\/Loc v l) h (cs.set i emp)/\Sn F h (λl=>F l\/Loc v l) h/\iA E (λl=>F l\/Loc v l) h xs v:=by
 obtain⟨a,b⟩:=H.zaI (p:=emp) (F':=λl=>F l\/Loc v l) hi (kM.refl _ _) (by simp_all) (λ_ h=>h.imp id .inl) trivial λ_ h=>h.elim;exact⟨a,b,(H.row i hi).read⟩
theorem ei.make(H:ei F h cs){y:α}{u:V}(n:Nat)(a:E.rel F h y [u])(c:E.sz=1):ei F (h.new (.cells ty 1 true false (List.replicate n u))) (eJ E ty (List.replicate n y) (.slice h.next 0 n)::cs)/\Sn F h F (h.new (.cells ty 1 true false (List.replicate n u))):=by
 have b:=E.one a;rw[ev,ve]at b;have:=H.XE (E:=E) ty (n:=n) (by simp) (oX.rep a n) (LB b.1 n)
 simp_all
theorem jY{e kE n:Nat}{z:V}(c:z.one=true)(a:kE<=100)(b:n<=1000000) :
  ie e 1 kE z (.int .i64 (n:Int)) (.int .i64 (n:Int))=some (O.cells e 1 true false (List.replicate n z),λl=>V.slice l 0 n):=by
 have:n*kE<=1000000*100:=Nat.mul_le_mul b a
 grind[LS,Ml,Vd]
theorem j5{l o:Nat}{u:V}(a:ey (.ptr l o) h=some u)(hk:h'.get l=h.get l):ey (.ptr l o) h' = some u:=by
 grind[ey,ld1,jv,vW]
theorem HW{l o n:Nat}{u:V}(a:gy n (.ptr l o) h=some u)(hk:h'.get l=h.get l):gy n (.ptr l o) h' = some u:=by
 grind[gy,E2,jv,vW]
end
open Un
def fG{ι:Type}(ty:Nat)(f:ι->Option (List Nat×V)):Pc where
 kX:=λl=>∃i xs v,f i=some (xs,v)/\Loc v l
 ok F h:=(∀i xs v,f i=some (xs,v)->jZ eN ty F h xs v)/\∀i j xs v ys w,f i=some (xs,v)->f j=some (ys,w)->i≠j->∀l,Loc v l->¬Loc w l
 L0:=λh l ⟨i,xs,v,a,b⟩=>((h.1 i xs v a).tZ b).2
 eR:=λh c b d=>⟨λi xs v a=>(h.1 i xs v a).eR c (by grind) d,h.2⟩
 mono:=λh c b=>⟨λi xs v a=>(h.1 i xs v a).mono c (by grind),h.2⟩
def up{ι α:Type}[DecidableEq ι] (f:ι->Option α)(i:ι)(x:Option α):ι->Option α:=λj=>if j=i then x else f j
@[simp] theorem ko {ι α:Type} [DecidableEq ι] (f:ι->Option α) (i:ι) (x:Option α):up f i x i=x:=if_pos rfl
theorem iT{ι α:Type}[DecidableEq ι] (f:ι->Option α){i j:ι}(x:Option α)(h:j≠i):up f i x j=f j:=if_neg h
section
variable{F:Nat->Prop}{h:Hp}{cs:List Pc}{p q:Pc}
theorem ei.sw(H:ei F h (p::q::cs)):ei F h (q::p::cs) where
 fl:=H.fl
 ok:=λi c hc=>by
  match i,hc with
  |0,hc=>exact H.ok 1 c hc
  |1,hc=>exact H.ok 0 c hc
  |i+2,hc=>exact H.ok (i+2) c hc
 BS:=λi j c d hc a b=>by
  match i,j,hc,a with
  |0,0,_,_=>omega
  |0,1,hc,a=>exact H.BS 1 0 c d hc a (by omega)
  |0,j+2,hc,a=>exact H.BS 1 (j+2) c d hc a (by omega)
  |1,0,hc,a=>exact H.BS 0 1 c d hc a (by omega)
  |1,1,_,_=>omega
  |1,j+2,hc,a=>exact H.BS 0 (j+2) c d hc a (by omega)
  |i+2,0,hc,a=>exact H.BS (i+2) 1 c d hc a (by omega)
  |i+2,1,hc,a=>exact H.BS (i+2) 0 c d hc a (by omega)
  |i+2,j+2,hc,a=>exact H.BS (i+2) (j+2) c d hc a b
theorem ei.GP(H:ei F h (p::q::cs)):ei F h (p::cs):=H.sw.tail
end
section
variable{F F':Nat->Prop}{h h':Hp}{cs:List Pc}{ι:Type}{ty:Nat}{f:ι->Option (List Nat×V)}{xs:List Nat}{v:V}
theorem ei.WY(H:ei F h cs):ei F h (fG (ι:=ι) ty (λ_=>Option.none)::cs):=
 H.add ⟨λ_ _ _ h=>(nomatch h),λ_ _ _ _ _ _ h=>(nomatch h)⟩ λ_ ⟨_,_,_,h,_⟩=>(nomatch h)
theorem ei.Ng [DecidableEq ι] (H:ei F h (eJ eN ty xs v::fG ty f::cs)){i:ι}(hi:f i=Option.none):ei F h (fG ty (up f i (some (xs,v)))::cs):=by
 have h0:=H.ok 0 _ rfl;have g:=H.ok 1 _ rfl;have m:∀l,Loc v l->¬(fG ty f).kX l:=λl b=>H.BS 0 1 _ _ rfl rfl (by omega) l b;refine H.tail.tail.cons ⟨λj ys w a=>?_,λj k ys w n x a hk p l b d=>?_⟩ λj c hc l b=>?_
 ·by_cases e:j=i
  ·subst e;rw[ko]at a;cases a;exact h0
  ·rw[iT _ _ e]at a;exact g.1 j ys w a
 ·by_cases e:j=i
  ·subst e;rw[ko]at a;cases a;rw[iT _ _ (by grind)]at hk;exact m l b ⟨k,n,x,hk,d⟩
  ·rw[iT _ _ e]at a;by_cases e':k=i
   ·subst e';rw[ko]at hk;cases hk;exact m l d ⟨j,ys,w,a,b⟩
   ·rw[iT _ _ e']at hk;exact g.2 j k ys w n x a hk p l b d
 ·obtain⟨k,ys,w,hk,o⟩:=b;by_cases e:k=i
  ·subst e;rw[ko]at hk;cases hk;exact H.BS 0 (j+2) _ c rfl hc (by omega) l o
  ·rw[iT _ _ e]at hk;exact H.BS 1 (j+2) _ c rfl hc (by omega) l ⟨k,ys,w,hk,o⟩
theorem ei.rows(H:ei F h cs)(n:Nat)(a:cs[n]? =some (fG ty f)){i:ι}(hi:f i=some (xs,v)):jZ eN ty F h xs v:=(H.ok n _ a).1 i xs v hi
theorem ei.Pl{κ:Type}(H:ei F h cs)(n:Nat)(a:cs[n]? =some (fG ty f))(g:κ->Option (List Nat×V))(m:κ->ι)(d:∀i p,g i=some p->f (m i)=some p)(b:∀i j p q,g i=some p->g j=some q->m i=m j->i=j):ei F h (cs.set n (fG ty g)):=by
 have c:=H.ok n _ a;refine H.swap a ⟨λi xs v hi=>c.1 (m i) xs v (by grind),λi j xs v ys w hi o e=>c.2 (m i) (m j) xs v ys w (by grind) (by grind) (by grind)⟩ λl ⟨i,xs,v,hi,k⟩=>⟨m i,xs,v,d i _ hi,k⟩
theorem ei.Wu [DecidableEq ι] (H:ei F h cs)(n:Nat)(B:cs[n]? =some (fG ty f)){i:ι}(hi:f i=some (xs,v)){k:Nat}(hk:k<xs.length)(y:Nat) :
  ∃l o h',gI 1 v (.int .i64 k)=some (.ptr l o)/\gG 1 (.ptr l o) (.int .i64 y) h=some (.val .undef h')/\h.next<=h'.next/\ei F h' (cs.set n (fG ty (up f i (some (xs.set k y,v)))))/\Sn F h F h':=by
 have m:=H.ok n _ B;obtain⟨t,h',K,C,D,L,p⟩:=(m.1 i xs v hi).store (k:=0) (y:=y) (u:=V.int .i64 y) hk Nat.one_pos rfl (λw E=>by
  have:w=[.int .i64 (xs[k]:Nat)]:=E;subst this;rfl)
 have hc:kM (fG ty f).kX h h':=p.Wv λl _ c=>⟨i,xs,v,hi,c⟩
 have d:∀{a:ι} {q:List Nat} {b:V},up f i (some (xs.set k y,v)) a=some (q,b)->∃cs,f a=some (cs,b):=by grind[ko,iT]
 have ok:(fG ty (up f i (some (xs.set k y,v)))).ok F h':=by
  refine⟨λj ys w g=>?_,λj G ys w q x g r s l c z=>?_⟩
  ·by_cases e:j=i
   ·simp_all
   ·rw[iT _ _ e]at g;have:=m.1 j ys w g;exact this.eR (λl c=>p.eR l (H.fl l c) λA=>((m.1 i xs v hi).tZ A).2.2 c) (λl c=>p.eR l (this.tZ c).2.1 λA=>m.2 j i ys w xs v g hi e l c A) p.next
  ·obtain⟨_,a1⟩:=d g;obtain⟨_,a2⟩:=d r;exact m.2 j G _ w _ x a1 a2 s l c z
 obtain⟨I,J⟩:=H.AS B hc ok λl ⟨j,ys,w,g,c⟩=> .inl (let⟨q,a1⟩:=d g;⟨j,q,w,a1,c⟩);exact⟨t,k*1,h',C,D,p.next,I,J⟩
end
open Un
structure Rw where
 vv:V
 vb:V
 vs:V
 vk:V
 vc:V
 vp:V
 cc:V
def comp(lu hO iU:Nat)(R:Rw):Nat->Nat->Prop
 |0,l=>l=lu
 |1,l=>l=hO
 |2,l=>l=iU
 |3,l=>Loc R.vv l
 |4,l=>Loc R.vb l
 |5,l=>Loc R.vs l
 |6,l=>Loc R.vk l
 |7,l=>Loc R.vc l
 |_,_=>False
def sig:Nat->Nat×Nat
 |0=>(gS,1)
 |1=>(iy,1)
 |2=>(fu,1)
 |3=>(gi,6)
 |4=>(fu,6)
 |5=>(kS,1)
 |_=>(en,1)
structure Dw (F G:Nat->Prop) (h:Hp) (lu hO iU:Nat) (t:Dt) (R:Rw):Prop where
 fl:∀l,F l->l<h.next
 gu:h.get lu=some (.cells gS 1 true false [.int .i64 1,.int .i64 2,R.vv,R.vb,R.vs])
 gk:h.get hO=some (.cells iy 1 true false [R.vk])
 gb:h.get iU=some (.cells fu 1 true false [R.cc,.int .i64 0,.int .i64 0,.ee,R.vp,.int .i64 0])
 nu:lu<h.next/\¬F lu
 nk:hO<h.next/\¬F hO
 nb:iU<h.next/\¬F iU
 ov:jZ eV gi F h t.s.ef R.vv
 ob:jZ eK fu F h t.blocks R.vb
 os:jZ eT kS F h t.s.eh R.vs
 ok:jZ eN en F h t.s.known R.vk
 oc:jZ eN en F h t.s.cur R.vc
 sp:iA eN F h t.ez R.vp
 kc:∀l,Loc R.vk l->¬Loc R.vc l
 gx:∀l,G l->l<h.next/\¬F l/\∀i,¬comp lu hO iU R i l
structure Kp (F G:Nat->Prop) (h h':Hp):Prop where
 next:h.next<=h'.next
 eR:∀l,F l\/G l->h'.get l=h.get l
theorem Kp.refl(F G:Nat->Prop)(h:Hp):Kp F G h h:=⟨iZ _,by simp_all⟩
theorem Kp.trans{F F' G:Nat->Prop} {h h' c:Hp}(a:Kp F G h h')(b:Kp F' G h' c)(e:∀l,F l->F' l):Kp F G h c:=
 ⟨Fe a.next b.next,λl d=>by rw[b.eR l (by grind),a.eR l d]⟩
section
variable{F G:Nat->Prop}{h h':Hp}{lu hO iU:Nat}{t:Dt}{R:Rw}
theorem Dw.sig(D:Dw F G h lu hO iU t R){l:Nat}:∀{i:Nat},comp lu hO iU R i l->VE h l=some (Hx.sig i)/\l<h.next/\¬F l
 |0,hl=>by have e:l=lu:=hl;subst e;exact⟨JU D.gu,D.nu⟩
 |1,hl=>by have e:l=hO:=hl;subst e;exact⟨JU D.gk,D.nk⟩
 |2,hl=>by have e:l=iU:=hl;subst e;exact⟨JU D.gb,D.nb⟩
 |3,hl=>D.ov.tZ hl
 |4,hl=>D.ob.tZ hl
 |5,hl=>D.os.tZ hl
 |6,hl=>D.ok.tZ hl
 |7,hl=>D.oc.tZ hl
 |_+8,hl=>hl.elim
theorem Dw.BS(D:Dw F G h lu hO iU t R){l i j:Nat}(hi:comp lu hO iU R i l)(a:comp lu hO iU R j l):Hx.sig i=Hx.sig j:=by
 have b:=(D.sig hi).1
 grind[Option.some.inj,sig,comp,comp,VE,sig]
theorem Dw.Cm(D:Dw F G h lu hO iU t R){l i j:Nat}(hi:comp lu hO iU R i l)(a:comp lu hO iU R j l)(c:i<8)(d:j<8):i=j:=by
 have e:=D.BS hi a;have b:∀i,i<8->∀j,j<8->Hx.sig i=Hx.sig j->i=j\/(i=6/\j=7)\/(i=7/\j=6):=by decide
 rcases b i c j d e with f|⟨rfl,rfl⟩|⟨rfl,rfl⟩
 ·exact f
 ·exact absurd a (D.kc l hi)
 ·exact absurd hi (D.kc l a)
theorem Dw.kept(D:Dw F G h lu hO iU t R){i j:Nat}(hi:i<8)(d:j<8)(hc:kM (λl=>comp lu hO iU R i l\/comp lu hO iU R j l) h h') :
  (∀l,F l->h'.get l=h.get l)/\(∀l,G l->h'.get l=h.get l)/\∀k l,k<8->k≠i->k≠j->comp lu hO iU R k l->h'.get l=h.get l:=by
 refine⟨λl a=>hc.eR l (D.fl l a) ?_,λl a=>hc.eR l (D.gx l a).1 ?_,λk l hk b e a=>hc.eR l (D.sig a).2.1 ?_⟩
 ·rintro(b|b)
  ·exact(D.sig b).2.2 a
  ·exact(D.sig b).2.2 a
 ·rintro(b|b)
  ·exact(D.gx l a).2.2 _ b
  ·exact(D.gx l a).2.2 _ b
 ·rintro(c|c)
  ·exact b (D.Cm a c hk hi)
  ·exact e (D.Cm a c hk d)
theorem Dw.other(D:Dw F G h lu hO iU t R){S:Nat->Prop}(b:kM S h h')(d:∀l,S l->¬F l/\¬G l/\∀i,¬comp lu hO iU R i l):Dw F G h' lu hO iU t R/\Kp F G h h':=by
 have c:∀l,F l->h'.get l=h.get l:=λl a=>b.eR l (D.fl l a) (by grind);have e:∀l,G l->h'.get l=h.get l:=λl a=>b.eR l (D.gx l a).1 (by grind);have k:∀i l,comp lu hO iU R i l->h'.get l=h.get l:=λi l a=>b.eR l (D.sig a).2.1 (by grind);have lt:∀l,l<h.next->l<h'.next:=λl a=>Cc a b.next
 exact ⟨{
  fl:=λl a=>lt l (D.fl l a)
  gu:=by rw[k 0 _ rfl];exact D.gu
  gk:=by rw[k 1 _ rfl];exact D.gk
  gb:=by rw[k 2 _ rfl];exact D.gb
  nu:=⟨lt _ D.nu.1,D.nu.2⟩
  nk:=⟨lt _ D.nk.1,D.nk.2⟩
  nb:=⟨lt _ D.nb.1,D.nb.2⟩
  ov:=D.ov.eR c (λl a=>k 3 l a) b.next
  ob:=D.ob.eR c (λl a=>k 4 l a) b.next
  os:=D.os.eR c (λl a=>k 5 l a) b.next
  ok:=D.ok.eR c (λl a=>k 6 l a) b.next
  oc:=D.oc.eR c (λl a=>k 7 l a) b.next
  sp:=D.sp.eR c
  kc:=D.kc
  gx:=λl a=>⟨lt l (D.gx l a).1,(D.gx l a).2⟩ },⟨b.next,by grind⟩⟩
theorem Dw.grow(D:Dw F G h lu hO iU t R)(a:He h h'):Dw F G h' lu hO iU t R:=(D.other a (by simp_all)).1
theorem Dw.more(D:Dw F G h lu hO iU t R) {F':Nat->Prop}(c:∀l,F l->F' l)(d:∀l,F' l->F l\/(l<h.next/\(∀i,¬comp lu hO iU R i l)/\¬G l)):Dw F' G h lu hO iU t R:=by
 have b:∀i l,comp lu hO iU R i l->¬F' l:=λi l a e=>by
  rcases d l e with f|⟨_,f,_⟩
  ·exact(D.sig a).2.2 f
  simp_all
 exact {
  fl:=λl a=>(d l a).elim (D.fl l) λh=>h.1
  gu:=D.gu
  gk:=D.gk
  gb:=D.gb
  nu:=⟨D.nu.1,b 0 _ rfl⟩
  nk:=⟨D.nk.1,b 1 _ rfl⟩
  nb:=⟨D.nb.1,b 2 _ rfl⟩
  ov:=D.ov.mono c λl a=>b 3 l a
  ob:=D.ob.mono c λl a=>b 4 l a
  os:=D.os.mono c λl a=>b 5 l a
  ok:=D.ok.mono c λl a=>b 6 l a
  oc:=D.oc.mono c λl a=>b 7 l a
  sp:=D.sp.mono c
  kc:=D.kc
  gx:=λl a=>⟨(D.gx l a).1,λe=>(d l e).elim (D.gx l a).2.1 (by simp_all),(D.gx l a).2.2⟩ }
def fz(F:Nat->Prop)(n:Nat):Nat->Prop:=λl=>F l\/l=n
theorem oK(F:Nat->Prop)(n:Nat):∀l,F l->fz F n l:=λ_ h=> .inl h
theorem Dw.new(D:Dw F G h lu hO iU t R)(o:O):Dw (fz F h.next) G (h.new o) lu hO iU t R:=
 (D.grow (kM.new h o)).more (oK _ _) λl a=>a.imp id λe=>by
  subst e;refine⟨MC _,λi hi=>Ym _ (D.sig hi).2.1,λb=>Ym _ (D.gx _ b).1⟩
theorem Kp.new(F G:Nat->Prop)(h:Hp)(o:O)(a:∀l,F l->l<h.next)(b:∀l,G l->l<h.next):Kp F G h (h.new o):=
 ⟨Qe _,by grind[fm]⟩
theorem Dw.xE(D:Dw F G h lu hO iU t R)(o:O):Kp F G h (h.new o):=Kp.new F G h o D.fl λl a=>(D.gx l a).1
theorem mU{l o e sz:Nat} {cs og:List V}{v:V}(a:h.get l=some (.cells e sz true false cs))(b:o<cs.length)(c:v.one=true)(hs:cs.set o v=og):gG 1 (.ptr l o) v h=some (.val .undef (h.put l (.cells e sz true false og))):=by
 grind[KR]
private theorem VQ {a:Nat->Prop} {l:Nat} {S:Nat->Prop} {b:Hp} {o:O} (hc:kM a h b) (d:∀l,a l->S l) (c:l<h.next) (hs:S l):kM S h (b.put l o):=
 (hc.Wv (by simp_all)).trans (kM.put o hs (Cc c hc.next))
theorem Dw.zcl(D:Dw F G h lu hO iU t R){ys:List Vl}{new:List V}{xv:V}(u:kG h 6 xv=some (ys.length,new))(w:oX eV F h new ys)(a:new.length=ys.length*6) (p:fW new=true)(hk:0<ys.length)(hlen:t.s.ef.length+ys.length<1000000) :
  ∃b c f,eQ gi 6 64 R.vv xv h=some (.val b c)/\h.next<=c.next/\gG 1 (.ptr lu 2) b c=some (.val .undef f)/\c.next<=f.next/\Kp F G h f/\
   Dw F G f lu hO iU {t with s:={t.s with ef:=t.s.ef++ys} } {R with vv:=b}:=by
 obtain ⟨b,c,x,r,n,l1⟩:=D.ov.append (kE:=64) (ys:=ys) u w a p hk (by decide) D.fl (by omega) (by omega);have q:c.get lu=some (.cells gS 1 true false [.int .i64 1,.int .i64 2,R.vv,R.vb,R.vs]):=by
  rw[n.eR lu D.nu.1 λa=>nomatch D.Cm (i:=0) (j:=3) rfl a (by decide) (by decide)];exact D.gu
 have k:lu<c.next:=Cc D.nu.1 n.next;have y:=mU (o:=2) (v:=b) (og:=[.int .i64 1,.int .i64 2,b,R.vb,R.vs]) q (by simp) r.one rfl;have hc:kM (λl=>comp lu hO iU R 0 l\/comp lu hO iU R 3 l) h (c.put lu (.cells gS 1 true false [.int .i64 1,.int .i64 2,b,R.vb,R.vs])):=VQ n (λ_ h=> .inr h) D.nu.1 (.inl rfl);obtain⟨m,A,g⟩:=D.kept (by decide) (by decide) hc;have d:∀l,l<h.next->l<(c.put lu (.cells gS 1 true false [.int .i64 1,.int .i64 2,b,R.vb,R.vs])).next:=λl a=>Cc a hc.next;have B:∀l,Loc b l->l≠lu:=λl a e=>by
  subst e;rcases l1 _ a with f|f
  ·exact absurd (D.Cm (i:=0) (j:=3) rfl f (by decide) (by decide)) (by decide)
  ·exact absurd f (O6 D.nu.1)
 have z:jZ eV gi F (c.put lu (.cells gS 1 true false [.int .i64 1,.int .i64 2,b,R.vb,R.vs])) (t.s.ef++ys) b:=
  r.eR (λl a=>fZ _ k λe=>D.nu.2 (e▸a)) (by grind[fZ]) (iZ _)
 refine⟨b,c,_,x,n.next,y,iZ _,⟨hc.next,by grind⟩,?_⟩
 exact {
  fl:=λl a=>d l (D.fl l a)
  gu:=fS _ k
  gk:=by rw[g 1 hO (by decide) (by decide) (by decide) rfl];exact D.gk
  gb:=by rw[g 2 iU (by decide) (by decide) (by decide) rfl];exact D.gb
  ov:=z
  ob:=D.ob.eR m (λl a=>g 4 l (by decide) (by decide) (by decide) a) hc.next
  os:=D.os.eR m (λl a=>g 5 l (by decide) (by decide) (by decide) a) hc.next
  ok:=D.ok.eR m (λl a=>g 6 l (by decide) (by decide) (by decide) a) hc.next
  oc:=D.oc.eR m (λl a=>g 7 l (by decide) (by decide) (by decide) a) hc.next
  nu:=⟨d _ D.nu.1,D.nu.2⟩
  nk:=⟨d _ D.nk.1,D.nk.2⟩
  nb:=⟨d _ D.nb.1,D.nb.2⟩
  sp:=D.sp.eR m
  kc:=D.kc
  gx:=λl a=>⟨d l (D.gx l a).1,(D.gx l a).2.1,λi hi=>by
   match i,hi with
   |0,hi=>exact(D.gx l a).2.2 0 hi
   |1,hi=>exact(D.gx l a).2.2 1 hi
   |2,hi=>exact(D.gx l a).2.2 2 hi
   |3,hi=>exact(l1 l hi).elim ((D.gx l a).2.2 3) λe=>absurd e (O6 (D.gx l a).1)
   |4,hi=>exact(D.gx l a).2.2 4 hi
   |5,hi=>exact(D.gx l a).2.2 5 hi
   |6,hi=>exact(D.gx l a).2.2 6 hi
   |7,hi=>exact(D.gx l a).2.2 7 hi⟩ }
theorem Dw.zcc(D:Dw F G h lu hO iU t R){ys:List Bk}{new:List V}{xv:V}(s:kG h 6 xv=some (ys.length,new))(u:oX eK F h new ys)(a:new.length=ys.length*6) (p:fW new=true)(hk:0<ys.length)(hlen:t.blocks.length+ys.length<1000000) :
  ∃b c f,eQ fu 6 96 R.vb xv h=some (.val b c)/\h.next<=c.next/\gG 1 (.ptr lu 3) b c=some (.val .undef f)/\c.next<=f.next/\Kp F G h f/\
   Dw F G f lu hO iU {t with blocks:=t.blocks++ys} {R with vb:=b}:=by
 obtain ⟨b,c,w,r,n,l1⟩:=D.ob.append (kE:=96) (ys:=ys) s u a p hk (by decide) D.fl (by omega) (by omega);have q:c.get lu=some (.cells gS 1 true false [.int .i64 1,.int .i64 2,R.vv,R.vb,R.vs]):=by
  rw[n.eR lu D.nu.1 λa=>nomatch D.Cm (i:=0) (j:=4) rfl a (by decide) (by decide)];exact D.gu
 have k:lu<c.next:=Cc D.nu.1 n.next;have x:=mU (o:=3) (v:=b) (og:=[.int .i64 1,.int .i64 2,R.vv,b,R.vs]) q (by simp) r.one rfl;have hc:kM (λl=>comp lu hO iU R 0 l\/comp lu hO iU R 4 l) h (c.put lu (.cells gS 1 true false [.int .i64 1,.int .i64 2,R.vv,b,R.vs])):=VQ n (λ_ h=> .inr h) D.nu.1 (.inl rfl);obtain⟨m,z,g⟩:=D.kept (by decide) (by decide) hc;have d:∀l,l<h.next->l<(c.put lu (.cells gS 1 true false [.int .i64 1,.int .i64 2,R.vv,b,R.vs])).next:=λl a=>Cc a hc.next;have A:∀l,Loc b l->l≠lu:=λl a e=>by
  subst e;rcases l1 _ a with f|f
  ·exact absurd (D.Cm (i:=0) (j:=4) rfl f (by decide) (by decide)) (by decide)
  ·exact absurd f (O6 D.nu.1)
 have y:jZ eK fu F (c.put lu (.cells gS 1 true false [.int .i64 1,.int .i64 2,R.vv,b,R.vs])) (t.blocks++ys) b:=
  r.eR (λl a=>fZ _ k λe=>D.nu.2 (e▸a)) (by grind[fZ]) (iZ _)
 refine⟨b,c,_,w,n.next,x,iZ _,⟨hc.next,by grind⟩,?_⟩
 exact {
  fl:=λl a=>d l (D.fl l a)
  gu:=fS _ k
  gk:=by rw[g 1 hO (by decide) (by decide) (by decide) rfl];exact D.gk
  gb:=by rw[g 2 iU (by decide) (by decide) (by decide) rfl];exact D.gb
  ov:=D.ov.eR m (λl a=>g 3 l (by decide) (by decide) (by decide) a) hc.next
  ob:=y
  os:=D.os.eR m (λl a=>g 5 l (by decide) (by decide) (by decide) a) hc.next
  ok:=D.ok.eR m (λl a=>g 6 l (by decide) (by decide) (by decide) a) hc.next
  oc:=D.oc.eR m (λl a=>g 7 l (by decide) (by decide) (by decide) a) hc.next
  nu:=⟨d _ D.nu.1,D.nu.2⟩
  nk:=⟨d _ D.nk.1,D.nk.2⟩
  nb:=⟨d _ D.nb.1,D.nb.2⟩
  sp:=D.sp.eR m
  kc:=D.kc
  gx:=λl a=>⟨d l (D.gx l a).1,(D.gx l a).2.1,λi hi=>by
   match i,hi with
   |0,hi=>exact(D.gx l a).2.2 0 hi
   |1,hi=>exact(D.gx l a).2.2 1 hi
   |2,hi=>exact(D.gx l a).2.2 2 hi
   |3,hi=>exact(D.gx l a).2.2 3 hi
   |4,hi=>exact(l1 l hi).elim ((D.gx l a).2.2 4) λe=>absurd e (O6 (D.gx l a).1)
   |5,hi=>exact(D.gx l a).2.2 5 hi
   |6,hi=>exact(D.gx l a).2.2 6 hi
   |7,hi=>exact(D.gx l a).2.2 7 hi⟩ }
theorem Dw.zck(D:Dw F G h lu hO iU t R){ys:List (List Fm)}{new:List V}{xv:V}(u:kG h 1 xv=some (ys.length,new))(w:oX eT F h new ys)(a:new.length=ys.length*1) (p:fW new=true)(hk:0<ys.length)(hlen:t.s.eh.length+ys.length<1000000) :
  ∃b c f,eQ kS 1 24 R.vs xv h=some (.val b c)/\h.next<=c.next/\gG 1 (.ptr lu 4) b c=some (.val .undef f)/\c.next<=f.next/\Kp F G h f/\
   Dw F G f lu hO iU {t with s:={t.s with eh:=t.s.eh++ys} } {R with vs:=b}:=by
 obtain ⟨b,c,x,r,n,l1⟩:=D.os.append (kE:=24) (ys:=ys) u w a p hk (by decide) D.fl (by omega) (by omega);have q:c.get lu=some (.cells gS 1 true false [.int .i64 1,.int .i64 2,R.vv,R.vb,R.vs]):=by
  rw[n.eR lu D.nu.1 λa=>nomatch D.Cm (i:=0) (j:=5) rfl a (by decide) (by decide)];exact D.gu
 have k:lu<c.next:=Cc D.nu.1 n.next;have y:=mU (o:=4) (v:=b) (og:=[.int .i64 1,.int .i64 2,R.vv,R.vb,b]) q (by simp) r.one rfl;have hc:kM (λl=>comp lu hO iU R 0 l\/comp lu hO iU R 5 l) h (c.put lu (.cells gS 1 true false [.int .i64 1,.int .i64 2,R.vv,R.vb,b])):=VQ n (λ_ h=> .inr h) D.nu.1 (.inl rfl);obtain⟨m,A,g⟩:=D.kept (by decide) (by decide) hc;have d:∀l,l<h.next->l<(c.put lu (.cells gS 1 true false [.int .i64 1,.int .i64 2,R.vv,R.vb,b])).next:=λl a=>Cc a hc.next;have B:∀l,Loc b l->l≠lu:=λl a e=>by
  subst e;rcases l1 _ a with f|f
  ·exact absurd (D.Cm (i:=0) (j:=5) rfl f (by decide) (by decide)) (by decide)
  ·exact absurd f (O6 D.nu.1)
 have z:jZ eT kS F (c.put lu (.cells gS 1 true false [.int .i64 1,.int .i64 2,R.vv,R.vb,b])) (t.s.eh++ys) b:=
  r.eR (λl a=>fZ _ k λe=>D.nu.2 (e▸a)) (by grind[fZ]) (iZ _)
 refine⟨b,c,_,x,n.next,y,iZ _,⟨hc.next,by grind⟩,?_⟩
 exact {
  fl:=λl a=>d l (D.fl l a)
  gu:=fS _ k
  gk:=by rw[g 1 hO (by decide) (by decide) (by decide) rfl];exact D.gk
  gb:=by rw[g 2 iU (by decide) (by decide) (by decide) rfl];exact D.gb
  ov:=D.ov.eR m (λl a=>g 3 l (by decide) (by decide) (by decide) a) hc.next
  ob:=D.ob.eR m (λl a=>g 4 l (by decide) (by decide) (by decide) a) hc.next
  os:=z
  ok:=D.ok.eR m (λl a=>g 6 l (by decide) (by decide) (by decide) a) hc.next
  oc:=D.oc.eR m (λl a=>g 7 l (by decide) (by decide) (by decide) a) hc.next
  nu:=⟨d _ D.nu.1,D.nu.2⟩
  nk:=⟨d _ D.nk.1,D.nk.2⟩
  nb:=⟨d _ D.nb.1,D.nb.2⟩
  sp:=D.sp.eR m
  kc:=D.kc
  gx:=λl a=>⟨d l (D.gx l a).1,(D.gx l a).2.1,λi hi=>by
   match i,hi with
   |0,hi=>exact(D.gx l a).2.2 0 hi
   |1,hi=>exact(D.gx l a).2.2 1 hi
   |2,hi=>exact(D.gx l a).2.2 2 hi
   |3,hi=>exact(D.gx l a).2.2 3 hi
   |4,hi=>exact(D.gx l a).2.2 4 hi
   |5,hi=>exact(l1 l hi).elim ((D.gx l a).2.2 5) λe=>absurd e (O6 (D.gx l a).1)
   |6,hi=>exact(D.gx l a).2.2 6 hi
   |7,hi=>exact(D.gx l a).2.2 7 hi⟩ }
theorem Dw.zaG(D:Dw F G h lu hO iU t R){ys:List Nat}{new:List V}{xv:V}(u:kG h 1 xv=some (ys.length,new))(w:oX eN F h new ys)(a:new.length=ys.length*1) (p:fW new=true)(hk:0<ys.length)(hlen:t.s.known.length+ys.length<1000000) :
  ∃b c f,eQ en 1 8 R.vk xv h=some (.val b c)/\h.next<=c.next/\gG 1 (.ptr hO 0) b c=some (.val .undef f)/\c.next<=f.next/\Kp F G h f/\
   Dw F G f lu hO iU {t with s:={t.s with known:=t.s.known++ys} } {R with vk:=b}:=by
 obtain ⟨b,c,x,r,n,l1⟩:=D.ok.append (kE:=8) (ys:=ys) u w a p hk (by decide) D.fl (by omega) (by omega);have q:c.get hO=some (.cells iy 1 true false [R.vk]):=by
  rw[n.eR hO D.nk.1 λa=>nomatch D.Cm (i:=1) (j:=6) rfl a (by decide) (by decide)];exact D.gk
 have k:hO<c.next:=Cc D.nk.1 n.next;have y:=mU (o:=0) (v:=b) (og:=[b]) q (by simp) r.one rfl;have hc:kM (λl=>comp lu hO iU R 1 l\/comp lu hO iU R 6 l) h (c.put hO (.cells iy 1 true false [b])):=VQ n (λ_ h=> .inr h) D.nk.1 (.inl rfl);obtain⟨m,A,g⟩:=D.kept (by decide) (by decide) hc;have d:∀l,l<h.next->l<(c.put hO (.cells iy 1 true false [b])).next:=λl a=>Cc a hc.next;have B:∀l,Loc b l->l≠hO:=λl a e=>by
  subst e;rcases l1 _ a with f|f
  ·exact absurd (D.Cm (i:=1) (j:=6) rfl f (by decide) (by decide)) (by decide)
  ·exact absurd f (O6 D.nk.1)
 have z:jZ eN en F (c.put hO (.cells iy 1 true false [b])) (t.s.known++ys) b:=
  r.eR (λl a=>fZ _ k λe=>D.nk.2 (e▸a)) (by grind[fZ]) (iZ _)
 refine⟨b,c,_,x,n.next,y,iZ _,⟨hc.next,by grind⟩,?_⟩
 exact {
  fl:=λl a=>d l (D.fl l a)
  gu:=by rw[g 0 lu (by decide) (by decide) (by decide) rfl];exact D.gu
  gk:=fS _ k
  gb:=by rw[g 2 iU (by decide) (by decide) (by decide) rfl];exact D.gb
  ov:=D.ov.eR m (λl a=>g 3 l (by decide) (by decide) (by decide) a) hc.next
  ob:=D.ob.eR m (λl a=>g 4 l (by decide) (by decide) (by decide) a) hc.next
  os:=D.os.eR m (λl a=>g 5 l (by decide) (by decide) (by decide) a) hc.next
  ok:=z
  oc:=D.oc.eR m (λl a=>g 7 l (by decide) (by decide) (by decide) a) hc.next
  nu:=⟨d _ D.nu.1,D.nu.2⟩
  nk:=⟨d _ D.nk.1,D.nk.2⟩
  nb:=⟨d _ D.nb.1,D.nb.2⟩
  sp:=D.sp.eR m
  kc:=λl a hc=>(l1 l a).elim (λf=>D.kc l f hc) λe=>absurd e (O6 (D.oc.tZ hc).2.1)
  gx:=λl a=>⟨d l (D.gx l a).1,(D.gx l a).2.1,λi hi=>by
   match i,hi with
   |0,hi=>exact(D.gx l a).2.2 0 hi
   |1,hi=>exact(D.gx l a).2.2 1 hi
   |2,hi=>exact(D.gx l a).2.2 2 hi
   |3,hi=>exact(D.gx l a).2.2 3 hi
   |4,hi=>exact(D.gx l a).2.2 4 hi
   |5,hi=>exact(D.gx l a).2.2 5 hi
   |6,hi=>exact(l1 l hi).elim ((D.gx l a).2.2 6) λe=>absurd e (O6 (D.gx l a).1)
   |7,hi=>exact(D.gx l a).2.2 7 hi⟩ }
theorem Dw.zcB(D:Dw F G h lu hO iU t R){ys:List Nat}{new:List V}{xv:V}(u:kG h 1 xv=some (ys.length,new))(w:oX eN F h new ys)(a:new.length=ys.length*1) (p:fW new=true)(hk:0<ys.length)(hlen:t.s.cur.length+ys.length<1000000) :
  ∃b c f,eQ en 1 8 R.vc xv h=some (.val b c)/\h.next<=c.next/\gG 1 (.ptr iU 0) b c=some (.val .undef f)/\c.next<=f.next/\Kp F G h f/\
   Dw F G f lu hO iU {t with s:={t.s with cur:=t.s.cur++ys} } {R with vc:=b,cc:=b}:=by
 obtain ⟨b,c,x,r,n,l1⟩:=D.oc.append (kE:=8) (ys:=ys) u w a p hk (by decide) D.fl (by omega) (by omega);have q:c.get iU=some (.cells fu 1 true false [R.cc,.int .i64 0,.int .i64 0,.ee,R.vp,.int .i64 0]):=by
  rw[n.eR iU D.nb.1 λa=>nomatch D.Cm (i:=2) (j:=7) rfl a (by decide) (by decide)];exact D.gb
 have k:iU<c.next:=Cc D.nb.1 n.next;have y:=mU (o:=0) (v:=b) (og:=[b,.int .i64 0,.int .i64 0,.ee,R.vp,.int .i64 0]) q (by simp) r.one rfl;have hc:kM (λl=>comp lu hO iU R 2 l\/comp lu hO iU R 7 l) h (c.put iU (.cells fu 1 true false [b,.int .i64 0,.int .i64 0,.ee,R.vp,.int .i64 0])):=VQ n (λ_ h=> .inr h) D.nb.1 (.inl rfl);obtain⟨m,A,g⟩:=D.kept (by decide) (by decide) hc;have d:∀l,l<h.next->l<(c.put iU (.cells fu 1 true false [b,.int .i64 0,.int .i64 0,.ee,R.vp,.int .i64 0])).next:=λl a=>Cc a hc.next;have B:∀l,Loc b l->l≠iU:=λl a e=>by
  subst e;rcases l1 _ a with f|f
  ·exact absurd (D.Cm (i:=2) (j:=7) rfl f (by decide) (by decide)) (by decide)
  ·exact absurd f (O6 D.nb.1)
 have z:jZ eN en F (c.put iU (.cells fu 1 true false [b,.int .i64 0,.int .i64 0,.ee,R.vp,.int .i64 0])) (t.s.cur++ys) b:=
  r.eR (λl a=>fZ _ k λe=>D.nb.2 (e▸a)) (by grind[fZ]) (iZ _)
 refine⟨b,c,_,x,n.next,y,iZ _,⟨hc.next,by grind⟩,?_⟩
 exact {
  fl:=λl a=>d l (D.fl l a)
  gu:=by rw[g 0 lu (by decide) (by decide) (by decide) rfl];exact D.gu
  gk:=by rw[g 1 hO (by decide) (by decide) (by decide) rfl];exact D.gk
  gb:=fS _ k
  ov:=D.ov.eR m (λl a=>g 3 l (by decide) (by decide) (by decide) a) hc.next
  ob:=D.ob.eR m (λl a=>g 4 l (by decide) (by decide) (by decide) a) hc.next
  os:=D.os.eR m (λl a=>g 5 l (by decide) (by decide) (by decide) a) hc.next
  ok:=D.ok.eR m (λl a=>g 6 l (by decide) (by decide) (by decide) a) hc.next
  oc:=z
  nu:=⟨d _ D.nu.1,D.nu.2⟩
  nk:=⟨d _ D.nk.1,D.nk.2⟩
  nb:=⟨d _ D.nb.1,D.nb.2⟩
  sp:=D.sp.eR m
  kc:=λl a hc=>(l1 l hc).elim (λf=>D.kc l a f) λe=>absurd e (O6 (D.ok.tZ a).2.1)
  gx:=λl a=>⟨d l (D.gx l a).1,(D.gx l a).2.1,λi hi=>by
   match i,hi with
   |0,hi=>exact(D.gx l a).2.2 0 hi
   |1,hi=>exact(D.gx l a).2.2 1 hi
   |2,hi=>exact(D.gx l a).2.2 2 hi
   |3,hi=>exact(D.gx l a).2.2 3 hi
   |4,hi=>exact(D.gx l a).2.2 4 hi
   |5,hi=>exact(D.gx l a).2.2 5 hi
   |6,hi=>exact(D.gx l a).2.2 6 hi
   |7,hi=>exact(l1 l hi).elim ((D.gx l a).2.2 7) λe=>absurd e (O6 (D.gx l a).1)⟩ }
theorem Dw.cell(D:Dw F G h lu hO iU t R){i:Nat}(hi:i<8)(hc:kM (λl=>comp lu hO iU R i l) h h') :
  (∀l,F l->h'.get l=h.get l)/\(∀l,G l->h'.get l=h.get l)/\∀k l,k<8->k≠i->comp lu hO iU R k l->h'.get l=h.get l:=by
 obtain⟨a,b,c⟩:=D.kept hi hi (hc.Wv (S':=λl=>comp lu hO iU R i l\/comp lu hO iU R i l) λ_ _ h=> .inl h)
 grind
theorem Dw.zch(D:Dw F G h lu hO iU t R){n:Nat}(g:n<=t.s.known.length) :
  ∃b e,iK 1 R.vk none (some (.int .i64 n)) h=some b/\gG 1 (.ptr hO 0) b h=some (.val .undef e)/\h.next<=e.next/\Kp F G h e/\Dw F G e lu hO iU {t with s:=Un.cut n t.s} {R with vk:=b}:=by
 obtain⟨b,j,f,l1⟩:=D.ok.cut g;have k:=mU (o:=0) (v:=b) (og:=[b]) D.gk (by simp) f.one rfl;have hc:kM (λl=>comp lu hO iU R 1 l) h (h.put hO (.cells iy 1 true false [b])):=kM.put _ rfl D.nk.1;obtain⟨d,m,c⟩:=D.cell (by decide) hc;refine⟨b,_,j,k,iZ _,⟨hc.next,by grind⟩,?_⟩
 exact {
  fl:=D.fl
  gu:=by rw[c 0 lu (by decide) (by decide) rfl];exact D.gu
  gk:=fS _ D.nk.1
  gb:=by rw[c 2 iU (by decide) (by decide) rfl];exact D.gb
  nu:=D.nu
  nk:=D.nk
  nb:=D.nb
  ov:=D.ov.eR d (λl a=>c 3 l (by decide) (by decide) a) hc.next
  ob:=D.ob.eR d (λl a=>c 4 l (by decide) (by decide) a) hc.next
  os:=D.os.eR d (λl a=>c 5 l (by decide) (by decide) a) hc.next
  ok:=f.eR d (λl a=>c 6 l (by decide) (by decide) (l1 l a)) hc.next
  oc:=D.oc.eR d (λl a=>c 7 l (by decide) (by decide) a) hc.next
  sp:=D.sp.eR d
  kc:=λl a=>D.kc l (l1 l a)
  gx:=λl a=>⟨(D.gx l a).1,(D.gx l a).2.1,λi hi=>by
   match i,hi with
   |0,hi=>exact(D.gx l a).2.2 0 hi
   |1,hi=>exact(D.gx l a).2.2 1 hi
   |2,hi=>exact(D.gx l a).2.2 2 hi
   |3,hi=>exact(D.gx l a).2.2 3 hi
   |4,hi=>exact(D.gx l a).2.2 4 hi
   |5,hi=>exact(D.gx l a).2.2 5 hi
   |6,hi=>exact(D.gx l a).2.2 6 (l1 l hi)
   |7,hi=>exact(D.gx l a).2.2 7 hi⟩ }
theorem Dw.ZE(D:Dw F G h lu hO iU t R){c p:V}{ps:List Nat}(e:iA eN F h ps p):Kp F G h (h.put iU (.cells fu 1 true false [c,.int .i64 0,.int .i64 0,.ee,p,.int .i64 0]))/\
  Dw F G (h.put iU (.cells fu 1 true false [c,.int .i64 0,.int .i64 0,.ee,p,.int .i64 0])) lu hO iU {t with ez:=ps} {R with vp:=p,cc:=c}:=by
 have hc:kM (λl=>comp lu hO iU R 2 l) h (h.put iU (.cells fu 1 true false [c,.int .i64 0,.int .i64 0,.ee,p,.int .i64 0])):=kM.put _ rfl D.nb.1;obtain⟨d,f,b⟩:=D.cell (by decide) hc;refine⟨⟨hc.next,by grind⟩,?_⟩
 exact {
  fl:=D.fl
  gu:=by rw[b 0 lu (by decide) (by decide) rfl];exact D.gu
  gk:=by rw[b 1 hO (by decide) (by decide) rfl];exact D.gk
  gb:=fS _ D.nb.1
  nu:=D.nu
  nk:=D.nk
  nb:=D.nb
  ov:=D.ov.eR d (λl a=>b 3 l (by decide) (by decide) a) hc.next
  ob:=D.ob.eR d (λl a=>b 4 l (by decide) (by decide) a) hc.next
  os:=D.os.eR d (λl a=>b 5 l (by decide) (by decide) a) hc.next
  ok:=D.ok.eR d (λl a=>b 6 l (by decide) (by decide) a) hc.next
  oc:=D.oc.eR d (λl a=>b 7 l (by decide) (by decide) a) hc.next
  sp:=e.eR d
  kc:=D.kc
  gx:=D.gx}
def fzc(F:Nat->Prop)(v:V):Nat->Prop:=λl=>F l\/Loc v l
theorem Dw.flush(D:Dw F G h lu hO iU t R):iA eN (fzc F R.vc) h t.s.cur R.vc/\Dw (fzc F R.vc) G h lu hO iU {t with s:={t.s with cur:=[]} } {R with vc:= .ee}:=by
 refine⟨D.oc.Xp (λ_ h=> .inl h) λ_ h=> .inr h,?_⟩
 have D':Dw F G h lu hO iU {t with s:={t.s with cur:=[]} } {R with vc:= .ee}:=
  { D with
    oc:= .nil
    kc:=by simp_all
    gx:=λl a=>⟨(D.gx l a).1,(D.gx l a).2.1,λi hi=>by
      match i,hi with
      |0,hi=>exact(D.gx l a).2.2 0 hi
      |1,hi=>exact(D.gx l a).2.2 1 hi
      |2,hi=>exact(D.gx l a).2.2 2 hi
      |3,hi=>exact(D.gx l a).2.2 3 hi
      |4,hi=>exact(D.gx l a).2.2 4 hi
      |5,hi=>exact(D.gx l a).2.2 5 hi
      |6,hi=>exact(D.gx l a).2.2 6 hi
      |n+7,hi=>exact(match n,hi with|0,hi=>hi)⟩ }
 refine D'.more (λ_ h=> .inl h) λl a=>a.imp id λhc=>⟨(D.oc.tZ hc).2.1,λi hi=>?_,λb=>(D.gx l b).2.2 7 hc⟩
 match i,hi with
 |0,hi=>exact nomatch D.Cm (i:=0) (j:=7) hi hc (by decide) (by decide)
 |1,hi=>exact nomatch D.Cm (i:=1) (j:=7) hi hc (by decide) (by decide)
 |2,hi=>exact nomatch D.Cm (i:=2) (j:=7) hi hc (by decide) (by decide)
 |3,hi=>exact nomatch D.Cm (i:=3) (j:=7) hi hc (by decide) (by decide)
 |4,hi=>exact nomatch D.Cm (i:=4) (j:=7) hi hc (by decide) (by decide)
 |5,hi=>exact nomatch D.Cm (i:=5) (j:=7) hi hc (by decide) (by decide)
 |6,hi=>exact nomatch D.Cm (i:=6) (j:=7) hi hc (by decide) (by decide)
 |n+7,hi=>exact(match n,hi with|0,hi=>hi)
theorem Dw.ZX(D:Dw F G h lu hO iU t R){p:Nat}{xs:List Nat}{a:V}(m:p<t.s.ef.length)(j:iA eN F h xs a) :
  ∃l d,gI 6 R.vv (.int .i64 p)=some (.ptr l (p*6))/\gG 1 (.ptr l (p*6+4)) a h=some (.val .undef d)/\h.next<=d.next/\Kp F G h d/\Dw F G d lu hO iU {t with s:=setArgs t.s p xs} R:=by
 obtain ⟨l,d,_,n,o,r,hc⟩:=D.ov.store (i:=p) (k:=4) (y:={t.s.ef[p]with args:=xs}) m (by decide) j.one (λw ⟨x,q,_⟩=>by subst q;exact⟨a,rfl,j⟩);obtain⟨g,u,f⟩:=D.cell (i:=3) (by decide) hc;refine⟨l,d,n,o,hc.next,⟨hc.next,by grind⟩,?_⟩;have c:∀l,l<h.next->l<d.next:=λl b=>Cc b hc.next;have em:(setArgs t.s p xs).ef=t.s.ef.set p {t.s.ef[p]with args:=xs}:=by
  unfold setArgs;show t.s.ef.modify p _=_;refine YI λi=>?_;rw[List.getElem?_modify,List.getElem?_set];by_cases e:p=i
  ·grind
  ·simp[e]
 exact {
  fl:=λl b=>c l (D.fl l b)
  gu:=by rw[f 0 lu (by decide) (by decide) rfl];exact D.gu
  gk:=by rw[f 1 hO (by decide) (by decide) rfl];exact D.gk
  gb:=by rw[f 2 iU (by decide) (by decide) rfl];exact D.gb
  nu:=⟨c _ D.nu.1,D.nu.2⟩
  nk:=⟨c _ D.nk.1,D.nk.2⟩
  nb:=⟨c _ D.nb.1,D.nb.2⟩
  ov:=by simp_all
  ob:=D.ob.eR g (λl b=>f 4 l (by decide) (by decide) b) hc.next
  os:=D.os.eR g (λl b=>f 5 l (by decide) (by decide) b) hc.next
  ok:=D.ok.eR g (λl b=>f 6 l (by decide) (by decide) b) hc.next
  oc:=D.oc.eR g (λl b=>f 7 l (by decide) (by decide) b) hc.next
  sp:=D.sp.eR g
  kc:=D.kc
  gx:=λl b=>⟨c l (D.gx l b).1,(D.gx l b).2⟩ }
end
