/- Parts. -/
import Derived.Test.YtpfjdlicdljhaaaDoorM09
import Derived.Test.YtpfjdlicdljhaaaDoorM13
set_option maxHeartbeats 4000000
namespace Go.Proofs.YtpfjdlicdljhaaaDoor.Hx
open Un
def eN:oY Nat where
 sz:=1
 rel _ _ n cs:=cs=[.int .i64 n]
 len h:=by subst h;rfl
 one h:=by subst h;rfl
 dO _ h:=h
 mono _ h:=h
def kN(x:Vl)(w:V):List V:=[.int .i64 x.op,.int .i64 x.a,.int .i64 x.b,.int .i64 x.n,w,.int .i64 x.state]
def eV:oY Vl where
 sz:=6
 rel F h x cs:=∃w,cs=kN x w/\fJ eN F h x.args w
 len:=λ⟨_,h,_⟩=>by subst h;rfl
 one:=λ⟨_,h,hs⟩=>by subst h;simp only[kN,cY,hs.one];rfl
 dO:=λhk ⟨w,h,hs⟩=>⟨w,h,hs.dO hk⟩
 mono:=λa ⟨w,h,hs⟩=>⟨w,h,hs.mono a⟩
def nV(x:Bk)(v n p:V):List V:=[v,.int .i64 x.fin,.int .i64 x.cond,n,p,.int .i64 x.state]
def eK:oY Bk where
 sz:=6
 rel F h x cs:=∃v n p,cs=nV x v n p/\fJ eN F h x.cR v/\fJ eN F h x.next n/\fJ eN F h x.c8 p
 len:=λ⟨_,_,_,h,_⟩=>by subst h;rfl
 one:=λ⟨_,_,_,h,a,b,c⟩=>by subst h;simp only[nV,cY,a.one,b.one,c.one];rfl
 dO:=λhk ⟨v,n,p,h,a,b,c⟩=>⟨v,n,p,h,a.dO hk,b.dO hk,c.dO hk⟩
 mono:=λd ⟨v,n,p,h,a,b,c⟩=>⟨v,n,p,h,a.mono d,b.mono d,c.mono d⟩
def Jo(x:Fm)(l s:V):List V:=[.int .i64 x.func,.int .i64 x.pc,l,s]
def eF:oY Fm where
 sz:=4
 rel F h x cs:=∃l s,cs=Jo x l s/\fJ eN F h x.locals l/\fJ eN F h x.stack s
 len:=λ⟨_,_,h,_⟩=>by subst h;rfl
 one:=λ⟨_,_,h,a,b⟩=>by subst h;simp only[Jo,cY,a.one,b.one];rfl
 dO:=λhk ⟨l,s,h,a,b⟩=>⟨l,s,h,a.dO hk,b.dO hk⟩
 mono:=λc ⟨l,s,h,a,b⟩=>⟨l,s,h,a.mono c,b.mono c⟩
def eT:oY (List Fm):=eL eF
theorem vw(F:Nat->Prop)(h:Hp):∀(l:List Nat),m7 eN F h (l.map λn=>V.int .i64 (n:Nat)) l
 |[]=>trivial
 |n::l=>⟨[.int .i64 n],_,rfl,rfl,vw F h l⟩
def Loc(v:V)(t:Nat):Prop:=match v with
 | .slice l _ _=>l=t
 |_=>False
@[simp] theorem Yn (t:Nat):Loc .cQ t=False:=rfl
@[simp] theorem Wm (l o n t:Nat):Loc (.slice l o n) t=(l=t):=rfl
def iY{α:Type}(E:oY α)(ty:Nat)(F:Nat->Prop)(h:Hp)(xs:List α)(v:V):Prop:=(v = .cQ/\xs=[])\/∃t cs,v = .slice t 0 xs.length/\t<h.next/\¬F t/\h.get t=some (.cells ty E.sz true false cs)/\m7 E F h cs xs/\dU cs=true
section
variable{α:Type}{E:oY α}{ty:Nat}{F F':Nat->Prop}{h h':Hp}{xs:List α}{v:V}
theorem iY.nil:iY E ty F h [] .cQ:= .inl ⟨rfl,rfl⟩
theorem iY.len(a:iY E ty F h xs v):dD v=some (.int .i64 xs.length):=by
 rcases a with⟨rfl,rfl⟩|⟨t,cs,rfl,_⟩ <;> rfl
theorem iY.one(a:iY E ty F h xs v):v.one=true:=by
 rcases a with⟨rfl,rfl⟩|⟨t,cs,rfl,_⟩ <;> rfl
noncomputable def VC(h:Hp) (l:Nat):Option (Nat×Nat):=match h.get l with
 |some (.cells e sz _ _ _)=>some (e,sz)
 |_=>none
theorem SD{l e sz:Nat}{a b:Bool}{cs:List V}(c:h.get l=some (.cells e sz a b cs)):VC h l=some (e,sz):=by unfold VC;rw[c]
theorem iY.JE(b:iY E ty F h xs v){t:Nat}(a:Loc v t):VC h t=some (ty,E.sz)/\t<h.next/\¬F t:=by
 rcases b with⟨rfl,_⟩|⟨t',cs,rfl,c,d,e,_⟩
 ·exact a.elim
 ·obtain rfl:t' = t:=a;exact⟨SD e,c,d⟩
theorem iY.dO(a:iY E ty F h xs v)(hk:∀l,F l->h'.get l=h.get l)(b:∀l,Loc v l->h'.get l=h.get l)(c:h.next<=h'.next):iY E ty F h' xs v:=by
 rcases a with a|⟨t,cs,rfl,d,e,f,g,i⟩
 ·exact .inl a
 ·exact .inr ⟨t,cs,rfl,EP d c,e,by rw[b t rfl];exact f,g.dO hk,i⟩
theorem iY.mono(a:iY E ty F h xs v)(b:∀l,F l->F' l)(c:∀t,Loc v t->¬F' t):iY E ty F' h xs v:=by
 rcases a with a|⟨t,cs,rfl,d,i,e,f,g⟩
 ·exact .inl a
 ·exact .inr ⟨t,cs,rfl,d,c t rfl,e,f.mono b,g⟩
theorem iY.Yg(a:iY E ty F h xs v)(b:∀l,F l->F' l)(c:∀t,Loc v t->F' t):fJ E F' h xs v:=by
 rcases a with a|⟨t,cs,rfl,f,g,d,e,i⟩
 ·exact .inl a
 ·exact .inr ⟨t,0,ty,true,false,cs,rfl,c t rfl,d,.inr rfl,J9 _,by simpa using e.mono b⟩
theorem iY.read(a:iY E ty F h xs v):fJ E (λl=>F l\/Loc v l) h xs v:=a.Yg (λ_ h=> .inl h) λ_ h=> .inr h
theorem iY.append{ic:Nat}{x:V}{new:List V}{ys:List α}(C:iY E ty F h xs v)(c:ri h E.sz x=some (ys.length,new))(q:m7 E F h new ys)(D:new.length=ys.length*E.sz)(i:dU new=true)(hk:0<ys.length)(I:0<E.sz)
  (o:∀l,F l->l<h.next) (z:(xs.length+ys.length)*ic<=70368744177664) (m:xs.length+ys.length<=70368744177664) :
  ∃r h',c9 ty E.sz ic v x h=some (.val r h')/\iY E ty F h' (xs++ys) r/\tm (Loc v) h h'/\(∀t,Loc r t->Loc v t\/t=h.next):=by
 have f:Nat.beq ys.length 0=false:=by
  cases hq:ys.length with
  |zero=>omega
  |succ k=>rfl
 rcases C with⟨rfl,rfl⟩|⟨t,cs,rfl,j,s,A,u,g⟩
 ·refine⟨.slice h.next 0 ys.length,h.new (.cells ty E.sz true false new),?_,.inr ⟨h.next,new,by simp,Ls _,λb=>Wi _ (o _ b),dL _ _,?_,i⟩,tm.new _ _,λt G=> .inr G.symm⟩
  ·unfold c9;simp only[c,c0,f,i,oI];rw[iO _ (Mh (by simpa using z)),iO _ (Mh (by simpa using m))]
  ·exact q.dO λl b=>ez _ (o l b)
 ·have H:=u.length;have B:(xs.length+ys.length)*E.sz=xs.length*E.sz+ys.length*E.sz:=PV _ _ _
  cases hroom:Nat.ble (Nat.add 0 (Nat.mul (Nat.add xs.length ys.length) E.sz)) cs.length with
  | true=>
    have J:(xs.length+ys.length)*E.sz<=cs.length:=by
      have:=EN hroom;show _<=_;rw[show Nat.add 0 (Nat.mul (Nat.add xs.length ys.length) E.sz)=(xs.length+ys.length)*E.sz from yD _]at this;exact this
    refine ⟨.slice t 0 (xs.length+ys.length),h.put t (.cells ty E.sz true false (cs.take (xs.length*E.sz)++new++cs.drop (xs.length*E.sz+new.length))),?_,
      .inr ⟨t,_,by simp,j,s,ie _ j,?_,?_⟩,tm.put _ rfl j,λ_ h=> .inl h⟩
    ·unfold c9 gG
     have w:kV (Nat.add 0 (Nat.mul xs.length E.sz)) cs new=some (cs.take (xs.length*E.sz)++new++cs.drop (xs.length*E.sz+new.length)):=by
       rw[show Nat.add 0 (Nat.mul xs.length E.sz)=xs.length*E.sz from yD _];exact uq (by rw[D];omega)
     simp only[c,c0,f,i,oI,A,UE,hroom,w];rw[iO _ (OW _)];rfl
    ·refine m7.dO (h:=h) (λl b=>kJ _ j λe=>s (e▸b)) ?_
     rw[Hq];exact u.take.append (by rw[JQ];omega) q.more
    ·rw[kS,kS,i]
     have p:∀(l:List V),dU l=l.all V.one:=λl=>by
       induction l with
       |nil=>rfl
       |cons a l y=>rw[cY,y];rfl
     rw[p]at g⊢;rw[p];rw[Kd]at g;simp only[Bool.and_true,rm,Kd]
     exact⟨λx c=>g x (Yy c),λx c=>g x (List.mem_of_mem_drop c)⟩
  | false=>
    have p:∀(l:List V),dU l=l.all V.one:=λl=>by
      induction l with
      |nil=>rfl
      |cons a l y=>rw[cY,y];rfl
    have d:dU (cs.take (xs.length*E.sz))=true:=by
      rw[p]at g⊢;rw[Kd]at g⊢;exact λx c=>g x (Yy c)
    refine ⟨.slice h.next 0 (xs.length+ys.length),(h.put t (.cells ty E.sz false false cs)).new (.cells ty E.sz true false (cs.take (xs.length*E.sz)++new)),?_,
      .inr ⟨h.next,_,by simp,Ls _,λb=>Wi _ (o _ b),dL (h.put t _) _,?_,by rw[kS,d,i];rfl⟩,
      (tm.put (S:=Loc (.slice t 0 xs.length)) (.cells ty E.sz false false cs) rfl j).trans (tm.new _ _),λ_ h=> .inr h.symm⟩
    ·unfold c9 gG
     have n:sub cs 0 (Nat.mul xs.length E.sz)=some (cs.take (xs.length*E.sz)):=by
       show sub cs 0 (xs.length*E.sz)=_;rw[yW (show 0+xs.length*E.sz<=cs.length by omega),UH]
     simp only[c,c0,f,i,oI,A,UE,hroom,n,d];rw[iO _ (OW _),iO _ (show Nat.ble (Nat.mul (Nat.add xs.length ys.length) ic) 70368744177664=true from Mh z),iO _ (show Nat.ble (Nat.add xs.length ys.length) 70368744177664=true from Mh m)];rfl
    ·refine m7.dO (h:=h) (λl b=>?_) ?_
     ·rw[ez _ (show l<(h.put t _).next from o l b),kJ _ j λe=>s (e▸b)]
     ·exact u.take.append (by rw[JQ];omega) q
theorem iY.cut(d:iY E ty F h xs v){n:Nat}(a:n<=xs.length):∃b,jl E.sz v none (some (.int .i64 n)) h=some b/\iY E ty F h (xs.take n) b/\∀t,Loc b t->Loc v t:=by
 rcases d with⟨rfl,rfl⟩|⟨t,cs,rfl,e,f,c,g,i⟩
 ·obtain rfl:n=0:=by simpa using a
  exact⟨.cQ,rfl,.inl ⟨rfl,rfl⟩,λ_ h=>h⟩
 ·refine⟨.slice t 0 n,?_,.inr ⟨t,cs,by rw[JQ,Wb a],e,f,c,g.taken n,i⟩,λ_ h=>h⟩;unfold jl gG;simp only[c,c0,Ar,IN];rw[iO _ (OW _),iO _ (Mh (J9 _)),iO _ (by rw[Mh a];rfl)];simp
theorem iY.store(n:iY E ty F h xs v){i k:Nat}{y:α}{u:V}(hi:i<xs.length)(hk:k<E.sz)(f:u.one=true)(o:∀w,E.rel F h xs[i] w->E.rel F h y (w.set k u)) :
  ∃t h',Loc v t/\eX E.sz v (.int .i64 i)=some (.ptr t (i*E.sz))/\fk 1 (.ptr t (i*E.sz+k)) u h=some (.val .undef h')/\iY E ty F h' (xs.set i y) v/\tm (Loc v) h h':=by
 rcases n with⟨rfl,rfl⟩|⟨t,cs,rfl,c,g,p,j,d⟩
 ·simp at hi
 ·obtain ⟨w,q,C,m⟩:=j.get (i:=i) (x:=xs[i]) (fg hi);have b:cs.set (i*E.sz+k) u=cs.take (i*E.sz)++w.set k u++cs.drop (i*E.sz+E.sz):=by
   have e0:cs=cs.take (i*E.sz)++(w++cs.drop (i*E.sz+E.sz)):=by
    rw[<-q]
    conv=>lhs;rw[<-Sj (i*E.sz) cs]
    congr 1;rw[<-UJ,Sj]
   have D:=E.len m
   conv=>lhs;rw[e0]
   rw[List.set_append_right _ _ (by rw[JQ];omega),JQ,Wb (by omega),ZA,List.set_append_left _ _ (by omega),Hq]
  refine⟨t,h.put t (.cells ty E.sz true false (cs.set (i*E.sz+k) u)),rfl,by rw[se _ _ _ _ _ _ hi,yD],JC p (by omega) f,.inr ⟨t,_,by simp,c,g,ie _ c,?_,?_⟩,tm.put _ rfl c⟩
  ·refine m7.dO (h:=h) (λl r=>kJ _ c λe=>g (e▸r)) ?_;rw[b];exact j.set hi (o w m)
  ·have s:∀(l:List V),dU l=l.all V.one:=λl=>by
    induction l with
    |nil=>rfl
    |cons a l z=>rw[cY,z];rfl
   rw[s]at d⊢;rw[Kd]at d⊢;intro x A;rcases List.mem_or_eq_of_mem_set A with B|rfl
   ·exact d x B
   ·exact f
end
abbrev cT:Nat:=3
abbrev fS:Nat:=4
abbrev fO:Nat:=22
abbrev fA:Nat:=29
abbrev dP:Nat:=38
abbrev dm:Nat:=41
abbrev jJ:Nat:=50
abbrev CB:Nat:=47
abbrev W0:Nat:=24
abbrev qK:Nat:=105
abbrev Ft:Nat:=64
open Un
structure Pc where
 ki:Nat->Prop
 ok:(Nat->Prop)->Hp->Prop
 IS:∀{F:Nat->Prop} {h:Hp},ok F h->∀l,ki l->l<h.next/\¬F l
 dO:∀{F:Nat->Prop} {h h':Hp},ok F h->(∀l,F l->h'.get l=h.get l)->(∀l,ki l->h'.get l=h.get l)->h.next<=h'.next->ok F h'
 mono:∀{F F':Nat->Prop} {h:Hp},ok F h->(∀l,F l->F' l)->(∀l,ki l->¬F' l)->ok F' h
def emp:Pc:=⟨λ_=>False,λ_ _=>True,by simp_all,by simp_all,by simp_all⟩
def cV(l ty:Nat)(vs:List V):Pc where
 ki:=λm=>m=l
 ok F h:=h.get l=some (.cells ty 1 true false vs)/\l<h.next/\¬F l
 IS:=by simp_all
 dO:=by grind
 mono:=by simp_all
def cW{α:Type}(E:oY α)(ty:Nat)(xs:List α)(v:V):Pc where
 ki:=Loc v
 ok F h:=iY E ty F h xs v
 IS:=λh _ a=>(h.JE a).2
 dO:=by grind[iY.dO]
 mono:=by grind[iY.mono]
structure Sn (F:Nat->Prop) (h:Hp) (F':Nat->Prop) (h':Hp):Prop where
 next:h.next<=h'.next
 dO:∀l,F l->h'.get l=h.get l
 mono:∀l,F l->F' l
theorem Sn.refl(F:Nat->Prop)(h:Hp):Sn F h F h:=⟨iC _,by simp_all,λ_ h=>h⟩
theorem Sn.trans{F F' c:Nat->Prop} {h h' d:Hp}(a:Sn F h F' h')(b:Sn F' h' c d):Sn F h c d:=
 ⟨EY a.next b.next,λl e=>(b.dO l (a.mono l e)).trans (a.dO l e),λl e=>b.mono l (a.mono l e)⟩
structure cS (F:Nat->Prop) (h:Hp) (cs:List Pc):Prop where
 fl:∀l,F l->l<h.next
 ok:∀(i:Nat) (c:Pc),cs[i]? =some c->c.ok F h
 zQ:∀(i j:Nat) (c d:Pc),cs[i]? =some c->cs[j]? =some d->i≠j->∀l,c.ki l->¬d.ki l
section
variable{F F':Nat->Prop}{h h':Hp}{cs:List Pc}{i j:Nat}{c d p:Pc}
theorem yE{cs:List Pc}{i:Nat}{p:Pc}{j:Nat}{d:Pc}(a:(cs.set i p)[j]? =some d):(j=i/\d=p)\/(j≠i/\cs[j]? =some d):=by
 grind
theorem cS.nil(a:∀l,F l->l<h.next):cS F h []:=⟨a,by simp_all,by simp_all⟩
theorem cS.cons(H:cS F h cs)(f:p.ok F h)(g:∀(i:Nat) c,cs[i]? =some c->∀l,p.ki l->¬c.ki l):cS F h (p::cs) where
 fl:=H.fl
 ok:=λi c hc=>by
  cases i with
  |zero=>simp_all
  |succ i=>exact H.ok i c hc
 zQ:=λi j c d hc b k l e a=>by
  cases i with
  | zero=>
    grind
  | succ i=>
    cases j with
    |zero=>grind
    |succ j=>exact H.zQ i j c d hc b (by omega) l e a
theorem cS.tail(H:cS F h (p::cs)):cS F h cs where
 fl:=H.fl
 ok:=λi c hc=>H.ok (i+1) c hc
 zQ:=λi j c d hc a b=>H.zQ (i+1) (j+1) c d hc a (by omega)
theorem cS.add(H:cS F h cs)(a:p.ok F h)(b:∀l,¬p.ki l):cS F h (p::cs):=H.cons a (by simp_all)
theorem cS.swap(H:cS F h cs)(hi:cs[i]? =some c)(t:p.ok F h)(n:∀l,p.ki l->c.ki l):cS F h (cs.set i p) where
 fl:=H.fl
 ok:=λj d u=>by
  rcases yE u with⟨_,rfl⟩|⟨_,f⟩
  ·exact t
  ·exact H.ok j d f
 zQ:=λj k a b v o g l m e=>by
  rcases yE v with⟨q,rfl⟩|⟨q,r⟩
  ·rcases yE o with⟨s,_⟩|⟨_,f⟩
   ·omega
   ·subst q;exact H.zQ j k c b hi f g l (n l m) e
  ·rcases yE o with⟨s,rfl⟩|⟨_,f⟩
   ·subst s;exact H.zQ j k a c r hi g l m (n l e)
   ·exact H.zQ j k a b r f g l m e
theorem cS.forget(H:cS F h cs)(hi:cs[i]? =some c):cS F h (cs.set i emp):=H.swap hi trivial λ_ h=>h.elim
theorem cS.VH(H:cS F h cs)(hi:cs[i]? =some c)(hc:tm c.ki h h')(t:∀l,F l->F' l)(n:∀l,F' l->F l\/c.ki l\/(h.next<=l/\l<h'.next))(B:p.ok F' h')(v:∀l,p.ki l->c.ki l\/h.next<=l):cS F' h' (cs.set i p)/\Sn F h F' h':=by
 have o:=H.ok i c hi;have u:∀l,F l->h'.get l=h.get l:=λl e=>hc.dO l (H.fl l e) λhs=>(c.IS o l hs).2 e;have q:∀(j:Nat) (d:Pc),j≠i->cs[j]? =some d->d.ok F' h'/\∀l,d.ki l->¬p.ki l:=λj d w r=>by
  have m:=H.ok j d r;have s:∀l,d.ki l->¬c.ki l:=H.zQ j i d c r hi w;refine⟨d.mono (d.dO m u (λl e=>hc.dO l (d.IS m l e).1 (s l e)) hc.next) t λl e f=>?_,λl e f=>?_⟩
  ·rcases n l f with g|g|g
   ·exact(d.IS m l e).2 g
   ·simp_all
   ·have:=(d.IS m l e).1;omega
  ·rcases v l f with g|g
   ·simp_all
   ·have:=(d.IS m l e).1;omega
 refine⟨⟨λl e=>?_,λj d r=>?_,λj k a b x y z l e f=>?_⟩,⟨hc.next,u,t⟩⟩
 ·rcases n l e with g|g|g
  ·exact EP (H.fl l g) hc.next
  ·exact EP (c.IS o l g).1 hc.next
  omega
 ·grind
 ·rcases yE x with⟨A,rfl⟩|⟨A,m⟩
  ·grind
  ·rcases yE y with⟨C,rfl⟩|⟨_,s⟩
   ·grind
   ·exact H.zQ j k a b m s z l e f
theorem cS.xS(H:cS F h cs)(hi:cs[i]? =some c)(hc:tm c.ki h h')(a:p.ok F h')(b:∀l,p.ki l->c.ki l\/h.next<=l):cS F h' (cs.set i p)/\Sn F h F h':=
 H.VH hi hc (by simp_all) (by simp_all) a b
theorem cS.grow(H:cS F h cs)(a:NN h h'):cS F h' cs/\Sn F h F h':=by
 have c:∀l,F l->h'.get l=h.get l:=λl b=>a.dO l (H.fl l b) id;exact⟨⟨λl b=>EP (H.fl l b) a.next,λj d e=>d.dO (H.ok j d e) c (λl b=>a.dO l (d.IS (H.ok j d e) l b).1 id) a.next,H.zQ⟩,⟨a.next,c,λ_ h=>h⟩⟩
theorem cS.new(H:cS F h cs)(o:O)(b:p.ok F (h.new o))(g:∀l,p.ki l->l=h.next):cS F (h.new o) (p::cs)/\Sn F h F (h.new o):=by
 obtain⟨c,e⟩:=H.grow (tm.new h o);refine⟨c.cons b λj d f l i a=>?_,e⟩;have:=(d.IS (H.ok j d f) l a).1
 grind
theorem cS.fresh(H:cS F h cs):¬F h.next:=λa=>Wi _ (H.fl _ a)
theorem cS.vW(H:cS F h cs)(ty:Nat)(vs:List V):cS F (h.new (.cells ty 1 true false vs)) (cV h.next ty vs::cs)/\Sn F h F (h.new (.cells ty 1 true false vs)):=
 H.new _ ⟨dL _ _,Ls _,H.fresh⟩ λ_ e=>e
theorem cS.TX(H:cS F h cs){α:Type}{E:oY α}(ty:Nat){xs:List α}{ws:List V}{n:Nat}(a:n=xs.length)(b:m7 E F h ws xs)(c:dU ws=true) :
  cS F (h.new (.cells ty E.sz true false ws)) (cW E ty xs (.slice h.next 0 n)::cs)/\Sn F h F (h.new (.cells ty E.sz true false ws)):=by
 subst a;exact H.new _ (.inr ⟨h.next,ws,rfl,Ls _,H.fresh,dL _ _,b.dO λl d=>ez _ (H.fl l d),c⟩) λ_ e=>e.symm
theorem cS.Ou(H:cS F h cs){α:Type}{E:oY α}(ty:Nat){xs:List α}{ws:List V}{n:Nat}(f:n=xs.length)(g:m7 E F h ws xs)(ro:Bool) :
  cS (λl=>F l\/l=h.next) (h.new (.cells ty E.sz true ro ws)) cs/\Sn F h (λl=>F l\/l=h.next) (h.new (.cells ty E.sz true ro ws))/\fJ E (λl=>F l\/l=h.next) (h.new (.cells ty E.sz true ro ws)) xs (.slice h.next 0 n):=by
 subst f;obtain⟨b,c⟩:=H.grow (tm.new h (.cells ty E.sz true ro ws));refine⟨⟨λl a=>?_,λj d e=>d.mono (b.ok j d e) (by simp_all) λl a i=>?_,b.zQ⟩,⟨c.next,c.dO,by simp_all⟩,?_⟩
 ·rcases a with a|rfl
  ·exact b.fl l a
  simp_all
 ·have k:=d.IS (H.ok j d e) l a
  simp_all
 ·exact .inr ⟨h.next,0,ty,true,ro,ws,rfl,.inr rfl,dL _ _,.inr rfl,J9 _,by rw[UH];exact(g.dO λl a=>ez _ (H.fl l a)).mono (by simp_all)⟩
theorem cS.get(H:cS F h cs)(i:Nat){l ty:Nat}{vs:List V}(hi:cs[i]? =some (cV l ty vs)):h.get l=some (.cells ty 1 true false vs):=(H.ok i _ hi).1
theorem cS.ld(H:cS F h cs)(i:Nat){l ty o:Nat}{vs:List V}{u:V}(hi:cs[i]? =some (cV l ty vs))(a:vs[o]? =some u):df (.ptr l o) h=some u:=JY (H.get i hi) a
theorem cS.zt(H:cS F h cs)(i:Nat){l ty n:Nat}{vs:List V}(hi:cs[i]? =some (cV l ty vs))(a:vs.length=n):eg n (.ptr l 0) h=some (.agg vs):=Qf (H.get i hi) a
theorem cS.st(H:cS F h cs)(i:Nat){l ty o:Nat}{vs:List V}{u:V}(hi:cs[i]? =some (cV l ty vs))(b:o<vs.length)(c:u.one=true) :
  ∃h',fk 1 (.ptr l o) u h=some (.val .undef h')/\h.next<=h'.next/\cS F h' (cs.set i (cV l ty (vs.set o u)))/\Sn F h F h':=by
 have a:=H.ok i _ hi;refine⟨_,JC a.1 b c,iC _,H.xS hi (tm.put _ rfl a.2.1) ⟨ie _ a.2.1,a.2.1,a.2.2⟩ λ_ h=> .inl h⟩
theorem cS.ZF(H:cS F h cs)(i:Nat){l ty o:Nat}{vs:List V}{u:V}(hi:cs[i]? =some (cV l ty vs))(b:o<vs.length)(c:u.one=true) :
  ∃h',fk 1 (.ptr l o) u h=some (.val .undef h')/\h.next<=h'.next/\cS F h' (cs.set i (cV l ty (vs.set o u)))/\Sn F h F h'/\∀m,m≠l->h'.get m=h.get m:=by
 have a:=H.ok i _ hi;obtain⟨d,e⟩:=H.xS (p:=cV l ty (vs.set o u)) (h':=h.put l (.cells ty 1 true false (vs.set o u))) hi (tm.put _ rfl a.2.1) ⟨ie _ a.2.1,a.2.1,a.2.2⟩ λ_ h=> .inl h;exact⟨_,JC a.1 b c,iC _,d,e,λm f=>kJ _ a.2.1 (by omega)⟩
theorem cS.T7(H:cS F h cs)(i:Nat){l ty n:Nat}{vs ws:List V}(hi:cs[i]? =some (cV l ty vs))(b:ws.length=n)(c:vs.length=n)(d:dU ws=true) :
  ∃h',fk n (.ptr l 0) (.agg ws) h=some (.val .undef h')/\h.next<=h'.next/\cS F h' (cs.set i (cV l ty ws))/\Sn F h F h':=by
 have a:=H.ok i _ hi;refine⟨_,Ty a.1 b c d,iC _,H.xS hi (tm.put _ rfl a.2.1) ⟨ie _ a.2.1,a.2.1,a.2.2⟩ λ_ h=> .inl h⟩
section
variable{α:Type}{E:oY α}{ty:Nat}{xs:List α}{v:V}
theorem cS.row(H:cS F h cs)(i:Nat)(hi:cs[i]? =some (cW E ty xs v)):iY E ty F h xs v:=H.ok i _ hi
theorem cS.len(H:cS F h cs)(i:Nat)(hi:cs[i]? =some (cW E ty xs v)):dD v=some (.int .i64 xs.length):=(H.row i hi).len
theorem cS.one(H:cS F h cs)(i:Nat)(hi:cs[i]? =some (cW E ty xs v)):v.one=true:=(H.row i hi).one
theorem cS.ix(H:cS F h cs)(i:Nat)(hi:cs[i]? =some (cW E ty xs v)){k:Nat}(hk:k<xs.length)(kd:IntKind) :
  ∃l o w,eX E.sz v (.int kd k)=some (.ptr l o)/\eg E.sz (.ptr l o) h=some (.agg w)/\E.rel (λl=>F l\/Loc v l) h xs[k] w/\∀j u,w[j]? =some u->df (.ptr l (o+j)) h=some u:=by
 obtain⟨l,o,w,_,a,b,c,d⟩:=(H.row i hi).read.ix hk kd
 grind
theorem cS.Np(H:cS F h cs)(i:Nat)(hi:cs[i]? =some (cW E ty xs v)){k:Nat}(hk:k<xs.length)(kd:IntKind)(a:E.sz=1) :
  ∃l o u,eX 1 v (.int kd k)=some (.ptr l o)/\df (.ptr l o) h=some u/\E.rel (λl=>F l\/Loc v l) h xs[k] [u]:=by
 obtain⟨l,o,u,_,b,c,d⟩:=(H.row i hi).read.Np hk kd a
 grind
theorem cS.D7(H:cS F h cs)(i:Nat)(hi:cs[i]? =some (cW E ty xs v)){k:Nat}(hk:k<xs.length)(a:E.sz=1){y:α}{u:V}(f:u.one=true)(g:E.rel F h y [u]) :
  ∃l o h',eX 1 v (.int .i64 k)=some (.ptr l o)/\fk 1 (.ptr l o) u h=some (.val .undef h')/\h.next<=h'.next/\cS F h' (cs.set i (cW E ty (xs.set k y) v))/\Sn F h F h':=by
 obtain ⟨t,h',n,b,c,j,d⟩:=(H.row i hi).store (k:=0) (y:=y) (u:=u) hk (by omega) f (λw m=>by
  have e:=E.len m;rw[a]at e
  match w,e with
  |[x],_=>exact g)
 rw[a]at b c;exact⟨t,k*1,h',b,c,d.next,H.xS hi d j λ_ h=> .inl h⟩
end
end
open Un
section
variable{F F':Nat->Prop}{h h':Hp}{cs:List Pc}{α:Type}{E:oY α}{ty:Nat}{xs ys:List α}{v x:V}
theorem m7.one:∀{xs:List α}{ws:List V},m7 E F h ws xs->ws.length=xs.length*E.sz->dU ws=true
 | [],ws,_,hl=>by
   simp_all
 | y::xs,ws,⟨w,r,b,a,c⟩,hl=>by
   subst b;have d:=E.len a;rw[kS,E.one a,m7.one c (by grind)];rfl
theorem m7.rep{y:α}{u:V}(a:E.rel F h y [u]):∀n,m7 E F h (List.replicate n u) (List.replicate n y)
 |0=>trivial
 |n+1=>⟨[u],_,rfl,a,m7.rep a n⟩
theorem FI{u:V}(a:u.one=true):∀n,dU (List.replicate n u)=true
 |0=>rfl
 |n+1=>by rw[List.replicate_succ,cY,a,FI a n];rfl
theorem CN{l off n wF sz:Nat}{ro:Bool}{ds:List V}(b:h.get l=some (.cells wF sz true ro ds))(a:off+n*sz<=ds.length):∃new,ri h sz (.slice l off n)=some (n,new)/\new=(ds.drop off).take (n*sz):=by
 cases n with
 |zero=>exact⟨_,rfl,by simp⟩
 | succ n=>
   refine⟨_,?_,rfl⟩;unfold ri Bg gG;have:sub ds off (Nat.mul (Nat.succ n) sz)=some ((ds.drop off).take ((n+1)*sz)):=yW a
   simp_all
theorem fJ.xc(hs:fJ E F h ys x):∃new,ri h E.sz x=some (ys.length,new)/\m7 E F h new ys/\new.length=ys.length*E.sz:=by
 rcases hs with⟨rfl,rfl⟩|⟨l,off,wF,live,ro,ds,rfl,g,b,c,i,a⟩
 ·exact⟨[],rfl,trivial,by simp⟩
 ·have d:=a.length;rw[V6]at d;rcases c with rfl|rfl
  ·exact⟨[],rfl,trivial,by simp⟩
  ·obtain⟨new,e,f⟩:=CN (n:=ys.length) (off:=off) (sz:=E.sz) b (by omega);exact⟨new,e,by rw[f];exact a.take,by simp_all⟩
theorem iY.xc(hs:iY E ty F h ys x):∃new,ri h E.sz x=some (ys.length,new)/\m7 E F h new ys/\new.length=ys.length*E.sz:=by
 rcases hs with⟨rfl,rfl⟩|⟨t,ds,rfl,e,f,b,a,g⟩
 ·exact⟨[],rfl,trivial,by simp⟩
 ·have i:=a.length;obtain⟨new,c,d⟩:=CN (n:=ys.length) (off:=0) (sz:=E.sz) b (by omega);refine⟨new,c,by rw[d,UH];exact a.take,by simp_all⟩
theorem NO{e:Nat}{z w:V}(a:z.one=true)(b:w.one=true):oX e 1 1 z [(0,w)]=some (.cells e 1 true false [w],λl=> .slice l 0 1):=by
 unfold oX;simp only[wB,c0,A5 a,A5 b,vP,GK];rw[iO _ (by rfl)];show oB (oB (some [w]) λcs=>some cs) _=_
 simp_all
theorem Cz{e sz:Nat}{z:V}:oX e sz 0 z []=some (.cells e sz true false [],λl=> .slice l 0 0):=rfl
theorem cS.app(H:cS F h cs)(i:Nat)(hi:cs[i]? =some (cW E ty xs v)){ic:Nat}{new:List V}(e:ri h E.sz x=some (ys.length,new))(f:m7 E F h new ys)(b:new.length=ys.length*E.sz)
  (j:0<E.sz) (k:ic<=1000) (c:xs.length+ys.length<=10000000) :
  ∃a h',c9 ty E.sz ic v x h=some (.val a h')/\h.next<=h'.next/\cS F h' (cs.set i (cW E ty (xs++ys) a))/\Sn F h F h':=by
 have d:=H.row i hi;by_cases hk:0<ys.length
 ·have m:(xs.length+ys.length)*ic<=10000000*1000:=Nat.mul_le_mul c k;obtain⟨a,h',n,o,g,l1⟩:=d.append (ic:=ic) e f b (f.one b) hk j H.fl (by omega) (by omega);obtain⟨q,r⟩:=H.xS (p:=cW E ty (xs++ys) a) hi g o λl b=>(l1 l b).imp id (by omega);exact⟨a,h',n,g.next,q,r⟩
 ·have e0:ys=[]:=by simp_all
  subst e0;refine⟨v,h,?_,iC _,by rw[GK];exact H.swap hi d λ_ h=>h,Sn.refl _ _⟩;unfold c9;rw[e];rcases d with⟨rfl,_⟩|⟨t,ds,rfl,_⟩ <;> rfl
theorem cS.Ig(H:cS F h cs)(i:Nat)(hi:cs[i]? =some (cW E ty xs v)){ic:Nat}(hs:fJ E F h ys x)(c:0<E.sz)(d:ic<=1000)(a:xs.length+ys.length<=10000000) :
  ∃b h',c9 ty E.sz ic v x h=some (.val b h')/\h.next<=h'.next/\cS F h' (cs.set i (cW E ty (xs++ys) b))/\Sn F h F h':=by
 obtain⟨new,e,f,g⟩:=hs.xc;exact H.app i hi e f g c d a
theorem cS.VS(H:cS F h cs)(i j:Nat)(hi:cs[i]? =some (cW E ty xs v)){c:Nat}(d:cs[j]? =some (cW E c ys x)){ic:Nat}(e:0<E.sz)(f:ic<=1000)(a:xs.length+ys.length<=10000000) :
  ∃b h',c9 ty E.sz ic v x h=some (.val b h')/\h.next<=h'.next/\cS F h' (cs.set i (cW E ty (xs++ys) b))/\Sn F h F h':=by
 obtain⟨new,g,k,l⟩:=(H.row j d).xc;exact H.app i hi g k l e f a
theorem cS.Cq(H:cS F h cs)(i:Nat)(hi:cs[i]? =some (cW E ty xs v)){ic wF:Nat}{y:α}{w:List V}{ro:Bool}(b:E.rel F h y w)(c:0<E.sz)(d:ic<=1000)(e:xs.length<1000000) :
  ∃a h',c9 ty E.sz ic v (.slice h.next 0 1) (h.new (.cells wF E.sz true ro w))=some (.val a h')/\h.next+1<=h'.next/\cS F h' (cs.set i (cW E ty (xs++[y]) a))/\Sn F h F h':=by
 obtain⟨f,g⟩:=H.grow (tm.new h (.cells wF E.sz true ro w));have j:ri (h.new (.cells wF E.sz true ro w)) E.sz (.slice h.next 0 1)=some (1,w):=BS (k:=0) (by rw[E.len b];simp);obtain⟨a,h',m,n,o,p⟩:=f.app (ys:=[y]) i hi j ⟨w,[],by simp,E.dO (λl q=>ez _ (H.fl l q)) b,trivial⟩ (by rw[E.len b];simp) c d (by simp;omega);exact⟨a,h',m,n,o,g.trans p⟩
theorem cS.XN(H:cS F h cs)(i:Nat)(hi:cs[i]? =some (cW E ty xs v)){n:Nat}(b:n<=xs.length) :
  ∃a,jl E.sz v none (some (.int .i64 n)) h=some a/\cS F h (cs.set i (cW E ty (xs.take n) a)):=by
 obtain⟨a,c,d,e⟩:=(H.row i hi).cut b;exact⟨a,c,H.swap hi d e⟩
theorem cS.gh(H:cS F h cs)(i:Nat)(hi:cs[i]? =some (cW E ty xs v)):cS (λl=>F l\/Loc v l) h (cs.set i emp)/\Sn F h (λl=>F l\/Loc v l) h/\fJ E (λl=>F l\/Loc v l) h xs v:=by
 obtain⟨a,b⟩:=H.VH (p:=emp) (F':=λl=>F l\/Loc v l) hi (tm.refl _ _) (by simp_all) (λ_ h=>h.imp id .inl) trivial λ_ h=>h.elim;exact⟨a,b,(H.row i hi).read⟩
theorem cS.make(H:cS F h cs){y:α}{u:V}(n:Nat)(a:E.rel F h y [u])(c:E.sz=1):cS F (h.new (.cells ty 1 true false (List.replicate n u))) (cW E ty (List.replicate n y) (.slice h.next 0 n)::cs)/\Sn F h F (h.new (.cells ty 1 true false (List.replicate n u))):=by
 have b:=E.one a;rw[cY,rm]at b;have:=H.TX (E:=E) ty (n:=n) (by simp) (m7.rep a n) (FI b.1 n)
 simp_all
theorem hV{e ic n:Nat}{z:V}(c:z.one=true)(a:ic<=100)(b:n<=1000000) :
  fc e 1 ic z (.int .i64 (n:Int)) (.int .i64 (n:Int))=some (O.cells e 1 true false (List.replicate n z),λl=>V.slice l 0 n):=by
 have:n*ic<=1000000*100:=Nat.mul_le_mul b a
 grind[HQ,A5,Qo]
theorem lV{l o:Nat}{u:V}(a:df (.ptr l o) h=some u)(hk:h'.get l=h.get l):df (.ptr l o) h' = some u:=by
 grind[df,We,gG,sk]
theorem DQ{l o n:Nat}{u:V}(a:eg n (.ptr l o) h=some u)(hk:h'.get l=h.get l):eg n (.ptr l o) h' = some u:=by
 grind[eg,Bg,gG,sk]
end
open Un
def dk{ι:Type}(ty:Nat)(f:ι->Option (List Nat×V)):Pc where
 ki:=λl=>∃i xs v,f i=some (xs,v)/\Loc v l
 ok F h:=(∀i xs v,f i=some (xs,v)->iY eN ty F h xs v)/\∀i j xs v ys w,f i=some (xs,v)->f j=some (ys,w)->i≠j->∀l,Loc v l->¬Loc w l
 IS:=λh l ⟨i,xs,v,a,b⟩=>((h.1 i xs v a).JE b).2
 dO:=λh c b d=>⟨λi xs v a=>(h.1 i xs v a).dO c (by grind) d,h.2⟩
 mono:=λh c b=>⟨λi xs v a=>(h.1 i xs v a).mono c (by grind),h.2⟩
def up{ι α:Type}[DecidableEq ι] (f:ι->Option α)(i:ι)(x:Option α):ι->Option α:=λj=>if j=i then x else f j
@[simp] theorem im {ι α:Type} [DecidableEq ι] (f:ι->Option α) (i:ι) (x:Option α):up f i x i=x:=if_pos rfl
theorem fL{ι α:Type}[DecidableEq ι] (f:ι->Option α){i j:ι}(x:Option α)(h:j≠i):up f i x j=f j:=if_neg h
section
variable{F:Nat->Prop}{h:Hp}{cs:List Pc}{p q:Pc}
theorem cS.sw(H:cS F h (p::q::cs)):cS F h (q::p::cs) where
 fl:=H.fl
 ok:=λi c hc=>by
  match i,hc with
  |0,hc=>exact H.ok 1 c hc
  |1,hc=>exact H.ok 0 c hc
  |i+2,hc=>exact H.ok (i+2) c hc
 zQ:=λi j c d hc a b=>by
  match i,j,hc,a with
  |0,0,_,_=>omega
  |0,1,hc,a=>exact H.zQ 1 0 c d hc a (by omega)
  |0,j+2,hc,a=>exact H.zQ 1 (j+2) c d hc a (by omega)
  |1,0,hc,a=>exact H.zQ 0 1 c d hc a (by omega)
  |1,1,_,_=>omega
  |1,j+2,hc,a=>exact H.zQ 0 (j+2) c d hc a (by omega)
  |i+2,0,hc,a=>exact H.zQ (i+2) 1 c d hc a (by omega)
  |i+2,1,hc,a=>exact H.zQ (i+2) 0 c d hc a (by omega)
  |i+2,j+2,hc,a=>exact H.zQ (i+2) (j+2) c d hc a b
theorem cS.CZ(H:cS F h (p::q::cs)):cS F h (p::cs):=H.sw.tail
end
section
variable{F F':Nat->Prop}{h h':Hp}{cs:List Pc}{ι:Type}{ty:Nat}{f:ι->Option (List Nat×V)}{xs:List Nat}{v:V}
theorem cS.Q3(H:cS F h cs):cS F h (dk (ι:=ι) ty (λ_=>Option.none)::cs):=
 H.add ⟨λ_ _ _ h=>(nomatch h),λ_ _ _ _ _ _ h=>(nomatch h)⟩ λ_ ⟨_,_,_,h,_⟩=>(nomatch h)
theorem cS.IV [DecidableEq ι] (H:cS F h (cW eN ty xs v::dk ty f::cs)){i:ι}(hi:f i=Option.none):cS F h (dk ty (up f i (some (xs,v)))::cs):=by
 have h0:=H.ok 0 _ rfl;have g:=H.ok 1 _ rfl;have m:∀l,Loc v l->¬(dk ty f).ki l:=λl b=>H.zQ 0 1 _ _ rfl rfl (by omega) l b;refine H.tail.tail.cons ⟨λj ys w a=>?_,λj k ys w n x a hk p l b d=>?_⟩ λj c hc l b=>?_
 ·by_cases e:j=i
  ·subst e;rw[im]at a;cases a;exact h0
  ·rw[fL _ _ e]at a;exact g.1 j ys w a
 ·by_cases e:j=i
  ·subst e;rw[im]at a;cases a;rw[fL _ _ (by grind)]at hk;exact m l b ⟨k,n,x,hk,d⟩
  ·rw[fL _ _ e]at a;by_cases e':k=i
   ·subst e';rw[im]at hk;cases hk;exact m l d ⟨j,ys,w,a,b⟩
   ·rw[fL _ _ e']at hk;exact g.2 j k ys w n x a hk p l b d
 ·obtain⟨k,ys,w,hk,o⟩:=b;by_cases e:k=i
  ·subst e;rw[im]at hk;cases hk;exact H.zQ 0 (j+2) _ c rfl hc (by omega) l o
  ·rw[fL _ _ e]at hk;exact H.zQ 1 (j+2) _ c rfl hc (by omega) l ⟨k,ys,w,hk,o⟩
theorem cS.rows(H:cS F h cs)(n:Nat)(a:cs[n]? =some (dk ty f)){i:ι}(hi:f i=some (xs,v)):iY eN ty F h xs v:=(H.ok n _ a).1 i xs v hi
theorem cS.Lt{κ:Type}(H:cS F h cs)(n:Nat)(a:cs[n]? =some (dk ty f))(g:κ->Option (List Nat×V))(m:κ->ι)(d:∀i p,g i=some p->f (m i)=some p)(b:∀i j p q,g i=some p->g j=some q->m i=m j->i=j):cS F h (cs.set n (dk ty g)):=by
 have c:=H.ok n _ a;refine H.swap a ⟨λi xs v hi=>c.1 (m i) xs v (by grind),λi j xs v ys w hi o e=>c.2 (m i) (m j) xs v ys w (by grind) (by grind) (by grind)⟩ λl ⟨i,xs,v,hi,k⟩=>⟨m i,xs,v,d i _ hi,k⟩
theorem cS.RU [DecidableEq ι] (H:cS F h cs)(n:Nat)(B:cs[n]? =some (dk ty f)){i:ι}(hi:f i=some (xs,v)){k:Nat}(hk:k<xs.length)(y:Nat) :
  ∃l o h',eX 1 v (.int .i64 k)=some (.ptr l o)/\fk 1 (.ptr l o) (.int .i64 y) h=some (.val .undef h')/\h.next<=h'.next/\cS F h' (cs.set n (dk ty (up f i (some (xs.set k y,v)))))/\Sn F h F h':=by
 have m:=H.ok n _ B;obtain⟨t,h',K,C,D,L,p⟩:=(m.1 i xs v hi).store (k:=0) (y:=y) (u:=V.int .i64 y) hk Nat.one_pos rfl (λw E=>by
  have:w=[.int .i64 (xs[k]:Nat)]:=E;subst this;rfl)
 have hc:tm (dk ty f).ki h h':=p.WD λl _ c=>⟨i,xs,v,hi,c⟩
 have d:∀{a:ι} {q:List Nat} {b:V},up f i (some (xs.set k y,v)) a=some (q,b)->∃cs,f a=some (cs,b):=by grind[im,fL]
 have ok:(dk ty (up f i (some (xs.set k y,v)))).ok F h':=by
  refine⟨λj ys w g=>?_,λj G ys w q x g r s l c z=>?_⟩
  ·by_cases e:j=i
   ·simp_all
   ·rw[fL _ _ e]at g;have:=m.1 j ys w g;exact this.dO (λl c=>p.dO l (H.fl l c) λA=>((m.1 i xs v hi).JE A).2.2 c) (λl c=>p.dO l (this.JE c).2.1 λA=>m.2 j i ys w xs v g hi e l c A) p.next
  ·obtain⟨_,a1⟩:=d g;obtain⟨_,a2⟩:=d r;exact m.2 j G _ w _ x a1 a2 s l c z
 obtain⟨I,J⟩:=H.xS B hc ok λl ⟨j,ys,w,g,c⟩=> .inl (let⟨q,a1⟩:=d g;⟨j,q,w,a1,c⟩);exact⟨t,k*1,h',C,D,p.next,I,J⟩
end
open Un
structure Rw where
 vv:V
 vb:V
 vs:V
 vk:V
 vc:V
 vp:V
 cc:V
def comp(lu PQ PS:Nat)(R:Rw):Nat->Nat->Prop
 |0,l=>l=lu
 |1,l=>l=PQ
 |2,l=>l=PS
 |3,l=>Loc R.vv l
 |4,l=>Loc R.vb l
 |5,l=>Loc R.vs l
 |6,l=>Loc R.vk l
 |7,l=>Loc R.vc l
 |_,_=>False
structure Dw (F G:Nat->Prop) (h:Hp) (lu PQ PS:Nat) (t:Dt) (R:Rw):Prop where
 fl:∀l,F l->l<h.next
 gu:h.get lu=some (.cells fA 1 true false [.int .i64 1,.int .i64 2,R.vv,R.vb,R.vs])
 gk:h.get PQ=some (.cells fO 1 true false [R.vk])
 gb:h.get PS=some (.cells dm 1 true false [R.cc,.int .i64 0,.int .i64 0,.cQ,R.vp,.int .i64 0])
 nu:lu<h.next/\¬F lu
 nk:PQ<h.next/\¬F PQ
 nb:PS<h.next/\¬F PS
 ov:iY eV dP F h t.s.cR R.vv
 ob:iY eK dm F h t.blocks R.vb
 os:iY eT jJ F h t.s.cZ R.vs
 ok:iY eN cT F h t.s.known R.vk
 oc:iY eN cT F h t.s.cur R.vc
 sp:fJ eN F h t.c8 R.vp
 kc:∀l,Loc R.vk l->¬Loc R.vc l
 gx:∀l,G l->l<h.next/\¬F l/\∀i,¬comp lu PQ PS R i l
structure Kp (F G:Nat->Prop) (h h':Hp):Prop where
 next:h.next<=h'.next
 dO:∀l,F l\/G l->h'.get l=h.get l
section
variable{F G:Nat->Prop}{h h':Hp}{lu PQ PS:Nat}{t:Dt}{R:Rw}
def fz(F:Nat->Prop)(n:Nat):Nat->Prop:=λl=>F l\/l=n
end
