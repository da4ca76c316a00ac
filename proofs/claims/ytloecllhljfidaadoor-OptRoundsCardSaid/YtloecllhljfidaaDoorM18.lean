/- Parts. -/
import Derived.Test.YtloecllhljfidaaDoorM09
import Derived.Test.YtloecllhljfidaaDoorM13
set_option maxHeartbeats 4000000
namespace Go.Proofs.YtloecllhljfidaaDoor.Hx
open Un
def eN:o0 Nat where
 sz:=1
 rel _ _ n cs:=cs=[.int .i64 n]
 len h:=by subst h;rfl
 one h:=by subst h;rfl
 fe _ h:=h
 mono _ h:=h
def lW(x:Vl)(w:V):List V:=[.int .i64 x.op,.int .i64 x.a,.int .i64 x.b,.int .i64 x.n,w,.int .i64 x.state]
def eV:o0 Vl where
 sz:=6
 rel F h x cs:=∃w,cs=lW x w/\iG eN F h x.args w
 len:=λ⟨_,h,_⟩=>by subst h;rfl
 one:=λ⟨_,h,hs⟩=>by subst h;simp only[lW,eo,hs.one];rfl
 fe:=λhk ⟨w,h,hs⟩=>⟨w,h,hs.fe hk⟩
 mono:=λhb ⟨w,h,hs⟩=>⟨w,h,hs.mono hb⟩
def kS(x:Bk)(v n p:V):List V:=[v,.int .i64 x.fin,.int .i64 x.cond,n,p,.int .i64 x.state]
def eK:o0 Bk where
 sz:=6
 rel F h x cs:=∃v n p,cs=kS x v n p/\iG eN F h x.ef v/\iG eN F h x.next n/\iG eN F h x.ez p
 len:=λ⟨_,_,_,h,_⟩=>by subst h;rfl
 one:=λ⟨_,_,_,h,a,b,c⟩=>by subst h;simp only[kS,eo,a.one,b.one,c.one];rfl
 fe:=λhk ⟨v,n,p,h,a,b,c⟩=>⟨v,n,p,h,a.fe hk,b.fe hk,c.fe hk⟩
 mono:=λhb ⟨v,n,p,h,a,b,c⟩=>⟨v,n,p,h,a.mono hb,b.mono hb,c.mono hb⟩
def Ji(x:Fm)(l s:V):List V:=[.int .i64 x.func,.int .i64 x.pc,l,s]
def eF:o0 Fm where
 sz:=4
 rel F h x cs:=∃l s,cs=Ji x l s/\iG eN F h x.locals l/\iG eN F h x.stack s
 len:=λ⟨_,_,h,_⟩=>by subst h;rfl
 one:=λ⟨_,_,h,a,b⟩=>by subst h;simp only[Ji,eo,a.one,b.one];rfl
 fe:=λhk ⟨l,s,h,a,b⟩=>⟨l,s,h,a.fe hk,b.fe hk⟩
 mono:=λhb ⟨l,s,h,a,b⟩=>⟨l,s,h,a.mono hb,b.mono hb⟩
def eT:o0 (List Fm):=eL eF
theorem wh(F:Nat->Prop)(h:Hp):∀(l:List Nat),pd eN F h (l.map λn=>V.int .i64 (n:Nat)) l
 |[]=>trivial
 |n::l=>⟨[.int .i64 n],_,rfl,rfl,wh F h l⟩
def Loc(v:V)(t:Nat):Prop:=match v with
 | .slice l _ _=>l=t
 |_=>False
@[simp] theorem zcP (t:Nat):Loc .ee t=False:=rfl
@[simp] theorem zbE (l o n t:Nat):Loc (.slice l o n) t=(l=t):=rfl
def jY{α:Type}(E:o0 α)(ty:Nat)(F:Nat->Prop)(h:Hp)(xs:List α)(v:V):Prop:=(v = .ee/\xs=[])\/∃t cs,v = .slice t 0 xs.length/\t<h.next/\¬F t/\h.get t=some (.cells ty E.sz true false cs)/\pd E F h cs xs/\fZ cs=true
section
variable{α:Type}{E:o0 α}{ty:Nat}{F F':Nat->Prop}{h h':Hp}{xs:List α}{v:V}
theorem jY.nil:jY E ty F h [] .ee:= .inl ⟨rfl,rfl⟩
theorem jY.len(a:jY E ty F h xs v):fD v=some (.int .i64 xs.length):=by
 rcases a with⟨rfl,rfl⟩|⟨t,cs,rfl,_⟩ <;> rfl
theorem jY.one(a:jY E ty F h xs v):v.one=true:=by
 rcases a with⟨rfl,rfl⟩|⟨t,cs,rfl,_⟩ <;> rfl
noncomputable def Wq(h:Hp) (l:Nat):Option (Nat×Nat):=match h.get l with
 |some (.cells e sz _ _ _)=>some (e,sz)
 |_=>none
theorem Ke{l e sz:Nat}{a b:Bool}{cs:List V}(c:h.get l=some (.cells e sz a b cs)):Wq h l=some (e,sz):=by unfold Wq;rw[c]
theorem jY.rI(a:jY E ty F h xs v){t:Nat}(ht:Loc v t):Wq h t=some (ty,E.sz)/\t<h.next/\¬F t:=by
 rcases a with⟨rfl,_⟩|⟨t',cs,rfl,b,c,d,_⟩
 ·exact ht.elim
 ·obtain rfl:t' = t:=ht;exact⟨Ke d,b,c⟩
theorem jY.fe(a:jY E ty F h xs v)(hk:∀l,F l->h'.get l=h.get l)(b:∀l,Loc v l->h'.get l=h.get l)(c:h.next<=h'.next):jY E ty F h' xs v:=by
 rcases a with a|⟨t,cs,rfl,d,e,f,g,i⟩
 ·exact .inl a
 ·exact .inr ⟨t,cs,rfl,BF d c,e,by rw[b t rfl];exact f,g.fe hk,i⟩
theorem jY.mono(a:jY E ty F h xs v)(b:∀l,F l->F' l)(c:∀t,Loc v t->¬F' t):jY E ty F' h xs v:=by
 rcases a with a|⟨t,cs,rfl,d,i,e,f,g⟩
 ·exact .inl a
 ·exact .inr ⟨t,cs,rfl,d,c t rfl,e,f.mono b,g⟩
theorem jY.Zm(a:jY E ty F h xs v)(b:∀l,F l->F' l)(c:∀t,Loc v t->F' t):iG E F' h xs v:=by
 rcases a with a|⟨t,cs,rfl,f,g,d,e,i⟩
 ·exact .inl a
 ·exact .inr ⟨t,0,ty,true,false,cs,rfl,c t rfl,d,.inr rfl,Jw _,by simpa using e.mono b⟩
theorem jY.read(a:jY E ty F h xs v):iG E (λl=>F l\/Loc v l) h xs v:=a.Zm (λ_ h=> .inl h) λ_ h=> .inr h
theorem jY.append{kj:Nat}{x:V}{new:List V}{ys:List α}(A:jY E ty F h xs v)(hx:kW h E.sz x=some (ys.length,new))(p:pd E F h new ys)(B:new.length=ys.length*E.sz)(g:fZ new=true)(hk:0<ys.length)(D:0<E.sz)
  (n:∀l,F l->l<h.next) (hb:(xs.length+ys.length)*kj<=70368744177664) (j:xs.length+ys.length<=70368744177664) :
  ∃q h',eR ty E.sz kj v x h=some (.val q h')/\jY E ty F h' (xs++ys) q/\lO (Loc v) h h'/\(∀t,Loc q t->Loc v t\/t=h.next):=by
 have d:Nat.beq ys.length 0=false:=by
  cases hq:ys.length with
  |zero=>omega
  |succ k=>rfl
 rcases A with⟨rfl,rfl⟩|⟨t,cs,rfl,i,r,y,s,f⟩
 ·refine⟨.slice h.next 0 ys.length,h.new (.cells ty E.sz true false new),?_,.inr ⟨h.next,new,by simp,Pd _,λb=>wB2 _ (n _ b),fi _ _,?_,g⟩,lO.new _ _,λt ht=> .inr ht.symm⟩
  ·unfold eR;simp only[hx,fy,d,g,nB];rw[yN _ (Xg (by simpa using hb)),yN _ (Xg (by simpa using j))]
  ·exact p.fe λl b=>fh _ (n l b)
 ·have C:=s.length;have z:(xs.length+ys.length)*E.sz=xs.length*E.sz+ys.length*E.sz:=VQ _ _ _
  cases hroom:Nat.ble (Nat.add 0 (Nat.mul (Nat.add xs.length ys.length) E.sz)) cs.length with
  | true=>
    have G:(xs.length+ys.length)*E.sz<=cs.length:=by
      have:=Jz hroom;show _<=_;rw[show Nat.add 0 (Nat.mul (Nat.add xs.length ys.length) E.sz)=(xs.length+ys.length)*E.sz from wO _]at this;exact this
    refine ⟨.slice t 0 (xs.length+ys.length),h.put t (.cells ty E.sz true false (cs.take (xs.length*E.sz)++new++cs.drop (xs.length*E.sz+new.length))),?_,
      .inr ⟨t,_,by simp,i,r,fP _ i,?_,?_⟩,lO.put _ rfl i,λ_ h=> .inl h⟩
    ·unfold eR kQ
     have u:pE (Nat.add 0 (Nat.mul xs.length E.sz)) cs new=some (cs.take (xs.length*E.sz)++new++cs.drop (xs.length*E.sz+new.length)):=by
       rw[show Nat.add 0 (Nat.mul xs.length E.sz)=xs.length*E.sz from wO _];exact AS (by rw[B];omega)
     simp only[hx,fy,d,g,nB,y,wBg,hroom,u];rw[yN _ (Yd _)];rfl
    ·refine pd.fe (h:=h) (λl b=>gf _ i λe=>r (e▸b)) ?_
     rw[Mb];exact s.take.append (by rw[JT];omega) p.more
    ·rw[oE,oE,g]
     have o:∀(l:List V),fZ l=l.all V.one:=λl=>by
       induction l with
       |nil=>rfl
       |cons a l w=>rw[eo,w];rfl
     rw[o]at f⊢;rw[o];rw[O4]at f;simp only[Bool.and_true,uF,O4]
     exact⟨λx hx=>f x (wBx hx),λx hx=>f x (List.mem_of_mem_drop hx)⟩
  | false=>
    have o:∀(l:List V),fZ l=l.all V.one:=λl=>by
      induction l with
      |nil=>rfl
      |cons a l w=>rw[eo,w];rfl
    have c:fZ (cs.take (xs.length*E.sz))=true:=by
      rw[o]at f⊢;rw[O4]at f⊢;exact λx hx=>f x (wBx hx)
    refine ⟨.slice h.next 0 (xs.length+ys.length),(h.put t (.cells ty E.sz false false cs)).new (.cells ty E.sz true false (cs.take (xs.length*E.sz)++new)),?_,
      .inr ⟨h.next,_,by simp,Pd _,λb=>wB2 _ (n _ b),fi (h.put t _) _,?_,by rw[oE,c,g];rfl⟩,
      (lO.put (S:=Loc (.slice t 0 xs.length)) (.cells ty E.sz false false cs) rfl i).trans (lO.new _ _),λ_ h=> .inr h.symm⟩
    ·unfold eR kQ
     have m:sub cs 0 (Nat.mul xs.length E.sz)=some (cs.take (xs.length*E.sz)):=by
       show sub cs 0 (xs.length*E.sz)=_;rw[DZ (show 0+xs.length*E.sz<=cs.length by omega),X9]
     simp only[hx,fy,d,g,nB,y,wBg,hroom,m,c];rw[yN _ (Yd _),yN _ (show Nat.ble (Nat.mul (Nat.add xs.length ys.length) kj) 70368744177664=true from Xg hb),yN _ (show Nat.ble (Nat.add xs.length ys.length) 70368744177664=true from Xg j)];rfl
    ·refine pd.fe (h:=h) (λl b=>?_) ?_
     ·rw[fh _ (show l<(h.put t _).next from n l b),gf _ i λe=>r (e▸b)]
     ·exact s.take.append (by rw[JT];omega) p
theorem jY.cut(d:jY E ty F h xs v){n:Nat}(a:n<=xs.length):∃b,jc E.sz v none (some (.int .i64 n)) h=some b/\jY E ty F h (xs.take n) b/\∀t,Loc b t->Loc v t:=by
 rcases d with⟨rfl,rfl⟩|⟨t,cs,rfl,e,f,c,g,i⟩
 ·obtain rfl:n=0:=by simpa using a
  exact⟨.ee,rfl,.inl ⟨rfl,rfl⟩,λ_ h=>h⟩
 ·refine⟨.slice t 0 n,?_,.inr ⟨t,cs,by rw[JT,wBy a],e,f,c,g.taken n,i⟩,λ_ h=>h⟩;unfold jc kQ;simp only[c,fy,I6,ML];rw[yN _ (Yd _),yN _ (Xg (Jw _)),yN _ (by rw[Xg a];rfl)];simp
theorem jY.store(n:jY E ty F h xs v){i k:Nat}{y:α}{u:V}(hi:i<xs.length)(hk:k<E.sz)(f:u.one=true)(o:∀w,E.rel F h xs[i] w->E.rel F h y (w.set k u)) :
  ∃t h',Loc v t/\hV E.sz v (.int .i64 i)=some (.ptr t (i*E.sz))/\gh 1 (.ptr t (i*E.sz+k)) u h=some (.val .undef h')/\jY E ty F h' (xs.set i y) v/\lO (Loc v) h h':=by
 rcases n with⟨rfl,rfl⟩|⟨t,cs,rfl,c,g,p,j,d⟩
 ·simp at hi
 ·obtain ⟨w,q,B,m⟩:=j.get (i:=i) (x:=xs[i]) (g0 hi);have b:cs.set (i*E.sz+k) u=cs.take (i*E.sz)++w.set k u++cs.drop (i*E.sz+E.sz):=by
   have e0:cs=cs.take (i*E.sz)++(w++cs.drop (i*E.sz+E.sz)):=by
    rw[<-q]
    conv=>lhs;rw[<-VY (i*E.sz) cs]
    congr 1;rw[<-wBv,VY]
   have C:=E.len m
   conv=>lhs;rw[e0]
   rw[List.set_append_right _ _ (by rw[JT];omega),JT,wBy (by omega),wBd,List.set_append_left _ _ (by omega),Mb]
  refine⟨t,h.put t (.cells ty E.sz true false (cs.set (i*E.sz+k) u)),rfl,by rw[vN _ _ _ _ _ _ hi,wO],LJ p (by omega) f,.inr ⟨t,_,by simp,c,g,fP _ c,?_,?_⟩,lO.put _ rfl c⟩
  ·refine pd.fe (h:=h) (λl r=>gf _ c λe=>g (e▸r)) ?_;rw[b];exact j.set hi (o w m)
  ·have s:∀(l:List V),fZ l=l.all V.one:=λl=>by
    induction l with
    |nil=>rfl
    |cons a l z=>rw[eo,z];rfl
   rw[s]at d⊢;rw[O4]at d⊢;intro x hx;rcases List.mem_or_eq_of_mem_set hx with A|rfl
   ·exact d x A
   ·exact f
end
abbrev en:Nat:=3
abbrev mg:Nat:=4
abbrev iP:Nat:=22
abbrev fT:Nat:=29
abbrev gi:Nat:=40
abbrev fo:Nat:=38
abbrev kJ:Nat:=47
abbrev JZ:Nat:=44
abbrev Q6:Nat:=24
abbrev tK:Nat:=114
open Un
structure Pc where
 lh:Nat->Prop
 ok:(Nat->Prop)->Hp->Prop
 LR:∀{F:Nat->Prop} {h:Hp},ok F h->∀l,lh l->l<h.next/\¬F l
 fe:∀{F:Nat->Prop} {h h':Hp},ok F h->(∀l,F l->h'.get l=h.get l)->(∀l,lh l->h'.get l=h.get l)->h.next<=h'.next->ok F h'
 mono:∀{F F':Nat->Prop} {h:Hp},ok F h->(∀l,F l->F' l)->(∀l,lh l->¬F' l)->ok F' h
def emp:Pc:=⟨λ_=>False,λ_ _=>True,by simp_all,by simp_all,by simp_all⟩
def er(l ty:Nat)(vs:List V):Pc where
 lh:=λm=>m=l
 ok F h:=h.get l=some (.cells ty 1 true false vs)/\l<h.next/\¬F l
 LR:=by simp_all
 fe:=by grind
 mono:=by simp_all
def ev{α:Type}(E:o0 α)(ty:Nat)(xs:List α)(v:V):Pc where
 lh:=Loc v
 ok F h:=jY E ty F h xs v
 LR:=λh _ a=>(h.rI a).2
 fe:=by grind[jY.fe]
 mono:=by grind[jY.mono]
def zcY(S:Nat->Prop)(h0:Hp):Pc where
 lh:=S
 ok F h:=∀l,S l->h.get l=h0.get l/\l<h.next/\¬F l
 LR:=by simp_all
 fe:=by grind
 mono:=by simp_all
structure Sn (F:Nat->Prop) (h:Hp) (F':Nat->Prop) (h':Hp):Prop where
 next:h.next<=h'.next
 fe:∀l,F l->h'.get l=h.get l
 mono:∀l,F l->F' l
theorem Sn.refl(F:Nat->Prop)(h:Hp):Sn F h F h:=⟨jb _,by simp_all,λ_ h=>h⟩
theorem Sn.trans{F F' c:Nat->Prop} {h h' d:Hp}(a:Sn F h F' h')(b:Sn F' h' c d):Sn F h c d:=
 ⟨BX a.next b.next,λl e=>(b.fe l (a.mono l e)).trans (a.fe l e),λl e=>b.mono l (a.mono l e)⟩
structure ej (F:Nat->Prop) (h:Hp) (cs:List Pc):Prop where
 fl:∀l,F l->l<h.next
 ok:∀(i:Nat) (c:Pc),cs[i]? =some c->c.ok F h
 A5:∀(i j:Nat) (c d:Pc),cs[i]? =some c->cs[j]? =some d->i≠j->∀l,c.lh l->¬d.lh l
section
variable{F F':Nat->Prop}{h h':Hp}{cs:List Pc}{i j:Nat}{c d p:Pc}
theorem Bn{cs:List Pc}{i:Nat}{p:Pc}{j:Nat}{d:Pc}(a:(cs.set i p)[j]? =some d):(j=i/\d=p)\/(j≠i/\cs[j]? =some d):=by
 grind
theorem ej.nil(a:∀l,F l->l<h.next):ej F h []:=⟨a,by simp_all,by simp_all⟩
theorem ej.cons(H:ej F h cs)(f:p.ok F h)(g:∀(i:Nat) c,cs[i]? =some c->∀l,p.lh l->¬c.lh l):ej F h (p::cs) where
 fl:=H.fl
 ok:=λi c hc=>by
  cases i with
  |zero=>simp_all
  |succ i=>exact H.ok i c hc
 A5:=λi j c d hc b k l e a=>by
  cases i with
  | zero=>
    grind
  | succ i=>
    cases j with
    |zero=>grind
    |succ j=>exact H.A5 i j c d hc b (by omega) l e a
theorem ej.tail(H:ej F h (p::cs)):ej F h cs where
 fl:=H.fl
 ok:=λi c hc=>H.ok (i+1) c hc
 A5:=λi j c d hc a b=>H.A5 (i+1) (j+1) c d hc a (by omega)
theorem ej.add(H:ej F h cs)(a:p.ok F h)(b:∀l,¬p.lh l):ej F h (p::cs):=H.cons a (by simp_all)
theorem ej.swap(H:ej F h cs)(hi:cs[i]? =some c)(s:p.ok F h)(n:∀l,p.lh l->c.lh l):ej F h (cs.set i p) where
 fl:=H.fl
 ok:=λj d t=>by
  rcases Bn t with⟨_,rfl⟩|⟨_,f⟩
  ·exact s
  ·exact H.ok j d f
 A5:=λj k a b u hb g l m e=>by
  rcases Bn u with⟨o,rfl⟩|⟨o,q⟩
  ·rcases Bn hb with⟨r,_⟩|⟨_,f⟩
   ·omega
   ·subst o;exact H.A5 j k c b hi f g l (n l m) e
  ·rcases Bn hb with⟨r,rfl⟩|⟨_,f⟩
   ·subst r;exact H.A5 j k a c q hi g l m (n l e)
   ·exact H.A5 j k a b q f g l m e
theorem ej.forget(H:ej F h cs)(hi:cs[i]? =some c):ej F h (cs.set i emp):=H.swap hi trivial λ_ h=>h.elim
theorem ej.zaA(H:ej F h cs)(hi:cs[i]? =some c)(hc:lO c.lh h h')(s:∀l,F l->F' l)(n:∀l,F' l->F l\/c.lh l\/(h.next<=l/\l<h'.next))(z:p.ok F' h')(u:∀l,p.lh l->c.lh l\/h.next<=l):ej F' h' (cs.set i p)/\Sn F h F' h':=by
 have o:=H.ok i c hi;have t:∀l,F l->h'.get l=h.get l:=λl e=>hc.fe l (H.fl l e) λhs=>(c.LR o l hs).2 e;have other:∀(j:Nat) (d:Pc),j≠i->cs[j]? =some d->d.ok F' h'/\∀l,d.lh l->¬p.lh l:=λj d v q=>by
  have m:=H.ok j d q;have r:∀l,d.lh l->¬c.lh l:=H.A5 j i d c q hi v;refine⟨d.mono (d.fe m t (λl e=>hc.fe l (d.LR m l e).1 (r l e)) hc.next) s λl e f=>?_,λl e f=>?_⟩
  ·rcases n l f with g|g|g
   ·exact(d.LR m l e).2 g
   ·simp_all
   ·have:=(d.LR m l e).1;omega
  ·rcases u l f with g|g
   ·simp_all
   ·have:=(d.LR m l e).1;omega
 refine⟨⟨λl e=>?_,λj d q=>?_,λj k a b w hb x l e f=>?_⟩,⟨hc.next,t,s⟩⟩
 ·rcases n l e with g|g|g
  ·exact BF (H.fl l g) hc.next
  ·exact BF (c.LR o l g).1 hc.next
  omega
 ·grind
 ·rcases Bn w with⟨y,rfl⟩|⟨y,m⟩
  ·grind
  ·rcases Bn hb with⟨A,rfl⟩|⟨_,r⟩
   ·grind
   ·exact H.A5 j k a b m r x l e f
theorem ej.zL(H:ej F h cs)(hi:cs[i]? =some c)(hc:lO c.lh h h')(a:p.ok F h')(b:∀l,p.lh l->c.lh l\/h.next<=l):ej F h' (cs.set i p)/\Sn F h F h':=
 H.zaA hi hc (by simp_all) (by simp_all) a b
theorem ej.grow(H:ej F h cs)(a:E7 h h'):ej F h' cs/\Sn F h F h':=by
 have c:∀l,F l->h'.get l=h.get l:=λl b=>a.fe l (H.fl l b) id;exact⟨⟨λl b=>BF (H.fl l b) a.next,λj d e=>d.fe (H.ok j d e) c (λl b=>a.fe l (d.LR (H.ok j d e) l b).1 id) a.next,H.A5⟩,⟨a.next,c,λ_ h=>h⟩⟩
theorem ej.new(H:ej F h cs)(o:O)(b:p.ok F (h.new o))(g:∀l,p.lh l->l=h.next):ej F (h.new o) (p::cs)/\Sn F h F (h.new o):=by
 obtain⟨c,e⟩:=H.grow (lO.new h o);refine⟨c.cons b λj d f l i a=>?_,e⟩;have:=(d.LR (H.ok j d f) l a).1
 grind
theorem ej.fresh(H:ej F h cs):¬F h.next:=λa=>wB2 _ (H.fl _ a)
theorem ej.yO(H:ej F h cs)(ty:Nat)(vs:List V):ej F (h.new (.cells ty 1 true false vs)) (er h.next ty vs::cs)/\Sn F h F (h.new (.cells ty 1 true false vs)):=
 H.new _ ⟨fi _ _,Pd _,H.fresh⟩ λ_ e=>e
theorem ej.Vz(H:ej F h cs){α:Type}{E:o0 α}(ty:Nat){xs:List α}{ws:List V}{n:Nat}(a:n=xs.length)(b:pd E F h ws xs)(c:fZ ws=true) :
  ej F (h.new (.cells ty E.sz true false ws)) (ev E ty xs (.slice h.next 0 n)::cs)/\Sn F h F (h.new (.cells ty E.sz true false ws)):=by
 subst a;exact H.new _ (.inr ⟨h.next,ws,rfl,Pd _,H.fresh,fi _ _,b.fe λl d=>fh _ (H.fl l d),c⟩) λ_ e=>e.symm
theorem ej.Y3(H:ej F h cs){α:Type}{E:o0 α}(ty:Nat){xs:List α}{ws:List V}{n:Nat}(f:n=xs.length)(g:pd E F h ws xs)(ro:Bool) :
  ej (λl=>F l\/l=h.next) (h.new (.cells ty E.sz true ro ws)) cs/\Sn F h (λl=>F l\/l=h.next) (h.new (.cells ty E.sz true ro ws))/\iG E (λl=>F l\/l=h.next) (h.new (.cells ty E.sz true ro ws)) xs (.slice h.next 0 n):=by
 subst f;obtain⟨b,c⟩:=H.grow (lO.new h (.cells ty E.sz true ro ws));refine⟨⟨λl a=>?_,λj d e=>d.mono (b.ok j d e) (by simp_all) λl a i=>?_,b.A5⟩,⟨c.next,c.fe,by simp_all⟩,?_⟩
 ·rcases a with a|rfl
  ·exact b.fl l a
  simp_all
 ·have k:=d.LR (H.ok j d e) l a
  simp_all
 ·exact .inr ⟨h.next,0,ty,true,ro,ws,rfl,.inr rfl,fi _ _,.inr rfl,Jw _,by rw[X9];exact(g.fe λl a=>fh _ (H.fl l a)).mono (by simp_all)⟩
theorem ej.get(H:ej F h cs)(i:Nat){l ty:Nat}{vs:List V}(hi:cs[i]? =some (er l ty vs)):h.get l=some (.cells ty 1 true false vs):=(H.ok i _ hi).1
theorem ej.ld(H:ej F h cs)(i:Nat){l ty o:Nat}{vs:List V}{u:V}(hi:cs[i]? =some (er l ty vs))(a:vs[o]? =some u):eQ (.ptr l o) h=some u:=kK (H.get i hi) a
theorem ej.oL(H:ej F h cs)(i:Nat){l ty n:Nat}{vs:List V}(hi:cs[i]? =some (er l ty vs))(a:vs.length=n):fM n (.ptr l 0) h=some (.agg vs):=Ar (H.get i hi) a
theorem ej.st(H:ej F h cs)(i:Nat){l ty o:Nat}{vs:List V}{u:V}(hi:cs[i]? =some (er l ty vs))(b:o<vs.length)(c:u.one=true) :
  ∃h',gh 1 (.ptr l o) u h=some (.val .undef h')/\h.next<=h'.next/\ej F h' (cs.set i (er l ty (vs.set o u)))/\Sn F h F h':=by
 have a:=H.ok i _ hi;refine⟨_,LJ a.1 b c,jb _,H.zL hi (lO.put _ rfl a.2.1) ⟨fP _ a.2.1,a.2.1,a.2.2⟩ λ_ h=> .inl h⟩
theorem ej.stk(H:ej F h cs)(i:Nat){l ty o:Nat}{vs:List V}{u:V}(hi:cs[i]? =some (er l ty vs))(b:o<vs.length)(c:u.one=true) :
  ∃h',gh 1 (.ptr l o) u h=some (.val .undef h')/\h.next<=h'.next/\ej F h' (cs.set i (er l ty (vs.set o u)))/\Sn F h F h'/\∀m,m≠l->h'.get m=h.get m:=by
 have a:=H.ok i _ hi;obtain⟨d,e⟩:=H.zL (p:=er l ty (vs.set o u)) (h':=h.put l (.cells ty 1 true false (vs.set o u))) hi (lO.put _ rfl a.2.1) ⟨fP _ a.2.1,a.2.1,a.2.2⟩ λ_ h=> .inl h;exact⟨_,LJ a.1 b c,jb _,d,e,λm f=>gf _ a.2.1 (by omega)⟩
theorem ej.Uf(H:ej F h cs)(i:Nat){l ty n:Nat}{vs ws:List V}(hi:cs[i]? =some (er l ty vs))(b:ws.length=n)(hv:vs.length=n)(c:fZ ws=true) :
  ∃h',gh n (.ptr l 0) (.agg ws) h=some (.val .undef h')/\h.next<=h'.next/\ej F h' (cs.set i (er l ty ws))/\Sn F h F h':=by
 have a:=H.ok i _ hi;refine⟨_,Eh a.1 b hv c,jb _,H.zL hi (lO.put _ rfl a.2.1) ⟨fP _ a.2.1,a.2.1,a.2.2⟩ λ_ h=> .inl h⟩
section
variable{α:Type}{E:o0 α}{ty:Nat}{xs:List α}{v:V}
theorem ej.row(H:ej F h cs)(i:Nat)(hi:cs[i]? =some (ev E ty xs v)):jY E ty F h xs v:=H.ok i _ hi
theorem ej.len(H:ej F h cs)(i:Nat)(hi:cs[i]? =some (ev E ty xs v)):fD v=some (.int .i64 xs.length):=(H.row i hi).len
theorem ej.one(H:ej F h cs)(i:Nat)(hi:cs[i]? =some (ev E ty xs v)):v.one=true:=(H.row i hi).one
theorem ej.ix(H:ej F h cs)(i:Nat)(hi:cs[i]? =some (ev E ty xs v)){k:Nat}(hk:k<xs.length)(kd:IntKind) :
  ∃l o w,hV E.sz v (.int kd k)=some (.ptr l o)/\fM E.sz (.ptr l o) h=some (.agg w)/\E.rel (λl=>F l\/Loc v l) h xs[k] w/\∀j u,w[j]? =some u->eQ (.ptr l (o+j)) h=some u:=by
 obtain⟨l,o,w,_,a,b,c,d⟩:=(H.row i hi).read.ix hk kd
 grind
theorem ej.Wj(H:ej F h cs)(i:Nat)(hi:cs[i]? =some (ev E ty xs v)){k:Nat}(hk:k<xs.length)(kd:IntKind)(a:E.sz=1) :
  ∃l o u,hV 1 v (.int kd k)=some (.ptr l o)/\eQ (.ptr l o) h=some u/\E.rel (λl=>F l\/Loc v l) h xs[k] [u]:=by
 obtain⟨l,o,u,_,b,c,d⟩:=(H.row i hi).read.Wj hk kd a
 grind
theorem ej.Ma(H:ej F h cs)(i:Nat)(hi:cs[i]? =some (ev E ty xs v)){k:Nat}(hk:k<xs.length)(a:E.sz=1){y:α}{u:V}(f:u.one=true)(g:E.rel F h y [u]) :
  ∃l o h',hV 1 v (.int .i64 k)=some (.ptr l o)/\gh 1 (.ptr l o) u h=some (.val .undef h')/\h.next<=h'.next/\ej F h' (cs.set i (ev E ty (xs.set k y) v))/\Sn F h F h':=by
 obtain ⟨t,h',n,b,c,j,d⟩:=(H.row i hi).store (k:=0) (y:=y) (u:=u) hk (by omega) f (λw m=>by
  have e:=E.len m;rw[a]at e
  match w,e with
  |[x],_=>exact g)
 rw[a]at b c;exact⟨t,k*1,h',b,c,d.next,H.zL hi d j λ_ h=> .inl h⟩
end
end
open Un
section
variable{F F':Nat->Prop}{h h':Hp}{cs:List Pc}{α:Type}{E:o0 α}{ty:Nat}{xs ys:List α}{v x:V}
theorem pd.one:∀{xs:List α}{ws:List V},pd E F h ws xs->ws.length=xs.length*E.sz->fZ ws=true
 | [],ws,_,hl=>by
   simp_all
 | y::xs,ws,⟨w,r,b,a,c⟩,hl=>by
   subst b;have d:=E.len a;rw[oE,E.one a,pd.one c (by grind)];rfl
theorem pd.rep{y:α}{u:V}(a:E.rel F h y [u]):∀n,pd E F h (List.replicate n u) (List.replicate n y)
 |0=>trivial
 |n+1=>⟨[u],_,rfl,a,pd.rep a n⟩
theorem KU{u:V}(a:u.one=true):∀n,fZ (List.replicate n u)=true
 |0=>rfl
 |n+1=>by rw[List.replicate_succ,eo,a,KU a n];rfl
theorem BP{l off n B2 sz:Nat}{ro:Bool}{ds:List V}(b:h.get l=some (.cells B2 sz true ro ds))(a:off+n*sz<=ds.length):∃new,kW h sz (.slice l off n)=some (n,new)/\new=(ds.drop off).take (n*sz):=by
 cases n with
 |zero=>exact⟨_,rfl,by simp⟩
 | succ n=>
   refine⟨_,?_,rfl⟩;unfold kW ET kQ;have:sub ds off (Nat.mul (Nat.succ n) sz)=some ((ds.drop off).take ((n+1)*sz)):=DZ a
   simp_all
theorem iG.xc(hs:iG E F h ys x):∃new,kW h E.sz x=some (ys.length,new)/\pd E F h new ys/\new.length=ys.length*E.sz:=by
 rcases hs with⟨rfl,rfl⟩|⟨l,off,B2,live,ro,ds,rfl,g,b,c,i,a⟩
 ·exact⟨[],rfl,trivial,by simp⟩
 ·have d:=a.length;rw[wB3]at d;rcases c with rfl|rfl
  ·exact⟨[],rfl,trivial,by simp⟩
  ·obtain⟨new,e,f⟩:=BP (n:=ys.length) (off:=off) (sz:=E.sz) b (by omega);exact⟨new,e,by rw[f];exact a.take,by simp_all⟩
theorem jY.xc(hs:jY E ty F h ys x):∃new,kW h E.sz x=some (ys.length,new)/\pd E F h new ys/\new.length=ys.length*E.sz:=by
 rcases hs with⟨rfl,rfl⟩|⟨t,ds,rfl,e,f,b,a,g⟩
 ·exact⟨[],rfl,trivial,by simp⟩
 ·have i:=a.length;obtain⟨new,c,d⟩:=BP (n:=ys.length) (off:=0) (sz:=E.sz) b (by omega);refine⟨new,c,by rw[d,X9];exact a.take,by simp_all⟩
theorem Di{e sz:Nat}{z:V}:jd e sz 0 z []=some (.cells e sz true false [],λl=> .slice l 0 0):=rfl
theorem ej.app(H:ej F h cs)(i:Nat)(hi:cs[i]? =some (ev E ty xs v)){kj:Nat}{new:List V}(hx:kW h E.sz x=some (ys.length,new))(d:pd E F h new ys)(b:new.length=ys.length*E.sz)
  (f:0<E.sz) (hb:kj<=1000) (c:xs.length+ys.length<=10000000) :
  ∃a h',eR ty E.sz kj v x h=some (.val a h')/\h.next<=h'.next/\ej F h' (cs.set i (ev E ty (xs++ys) a))/\Sn F h F h':=by
 have hO:=H.row i hi;by_cases hk:0<ys.length
 ·have g:(xs.length+ys.length)*kj<=10000000*1000:=Nat.mul_le_mul c hb;obtain⟨a,h',j,k,e,l1⟩:=hO.append (kj:=kj) hx d b (d.one b) hk f H.fl (by omega) (by omega);obtain⟨m,n⟩:=H.zL (p:=ev E ty (xs++ys) a) hi e k λl b=>(l1 l b).imp id (by omega);exact⟨a,h',j,e.next,m,n⟩
 ·have e0:ys=[]:=by simp_all
  subst e0;refine⟨v,h,?_,jb _,by rw[HU];exact H.swap hi hO λ_ h=>h,Sn.refl _ _⟩;unfold eR;rw[hx];rcases hO with⟨rfl,_⟩|⟨t,ds,rfl,_⟩ <;> rfl
theorem ej.NI(H:ej F h cs)(i:Nat)(hi:cs[i]? =some (ev E ty xs v)){kj:Nat}(hs:iG E F h ys x)(c:0<E.sz)(hb:kj<=1000)(a:xs.length+ys.length<=10000000) :
  ∃b h',eR ty E.sz kj v x h=some (.val b h')/\h.next<=h'.next/\ej F h' (cs.set i (ev E ty (xs++ys) b))/\Sn F h F h':=by
 obtain⟨new,d,e,f⟩:=hs.xc;exact H.app i hi d e f c hb a
theorem ej.zaQ(H:ej F h cs)(i j:Nat)(hi:cs[i]? =some (ev E ty xs v)){c:Nat}(d:cs[j]? =some (ev E c ys x)){kj:Nat}(e:0<E.sz)(hb:kj<=1000)(a:xs.length+ys.length<=10000000) :
  ∃b h',eR ty E.sz kj v x h=some (.val b h')/\h.next<=h'.next/\ej F h' (cs.set i (ev E ty (xs++ys) b))/\Sn F h F h':=by
 obtain⟨new,f,g,k⟩:=(H.row j d).xc;exact H.app i hi f g k e hb a
theorem ej.uI(H:ej F h cs)(i:Nat)(hi:cs[i]? =some (ev E ty xs v)){kj B2:Nat}{y:α}{w:List V}{ro:Bool}(b:E.rel F h y w)(c:0<E.sz)(hb:kj<=1000)(d:xs.length<1000000) :
  ∃a h',eR ty E.sz kj v (.slice h.next 0 1) (h.new (.cells B2 E.sz true ro w))=some (.val a h')/\h.next+1<=h'.next/\ej F h' (cs.set i (ev E ty (xs++[y]) a))/\Sn F h F h':=by
 obtain⟨e,f⟩:=H.grow (lO.new h (.cells B2 E.sz true ro w));have hx:kW (h.new (.cells B2 E.sz true ro w)) E.sz (.slice h.next 0 1)=some (1,w):=mS (k:=0) (by rw[E.len b];simp);obtain⟨a,h',g,j,m,n⟩:=e.app (ys:=[y]) i hi hx ⟨w,[],by simp,E.fe (λl o=>fh _ (H.fl l o)) b,trivial⟩ (by rw[E.len b];simp) c hb (by simp;omega);exact⟨a,h',g,j,m,f.trans n⟩
theorem ej.ZN(H:ej F h cs)(i:Nat)(hi:cs[i]? =some (ev E ty xs v)){n:Nat}(b:n<=xs.length) :
  ∃a,jc E.sz v none (some (.int .i64 n)) h=some a/\ej F h (cs.set i (ev E ty (xs.take n) a)):=by
 obtain⟨a,c,d,e⟩:=(H.row i hi).cut b;exact⟨a,c,H.swap hi d e⟩
theorem ej.lH(H:ej F h cs)(i:Nat)(hi:cs[i]? =some (ev E ty xs v)):ej (λl=>F l\/Loc v l) h (cs.set i emp)/\Sn F h (λl=>F l\/Loc v l) h/\iG E (λl=>F l\/Loc v l) h xs v:=by
 obtain⟨a,b⟩:=H.zaA (p:=emp) (F':=λl=>F l\/Loc v l) hi (lO.refl _ _) (by simp_all) (λ_ h=>h.imp id .inl) trivial λ_ h=>h.elim;exact⟨a,b,(H.row i hi).read⟩
theorem ej.make(H:ej F h cs){y:α}{u:V}(n:Nat)(a:E.rel F h y [u])(c:E.sz=1):ej F (h.new (.cells ty 1 true false (List.replicate n u))) (ev E ty (List.replicate n y) (.slice h.next 0 n)::cs)/\Sn F h F (h.new (.cells ty 1 true false (List.replicate n u))):=by
 have b:=E.one a;rw[eo,uF]at b;have:=H.Vz (E:=E) ty (n:=n) (by simp) (pd.rep a n) (KU b.1 n)
 simp_all
theorem oC{e kj n:Nat}{z:V}(b:z.one=true)(hb:kj<=100)(a:n<=1000000) :
  jm e 1 kj z (.int .i64 (n:Int)) (.int .i64 (n:Int))=some (O.cells e 1 true false (List.replicate n z),λl=>V.slice l 0 n):=by
 have:n*kj<=1000000*100:=Nat.mul_le_mul a hb
 grind[MD,MK,W5]
theorem qN{l o:Nat}{u:V}(a:eQ (.ptr l o) h=some u)(hk:h'.get l=h.get l):eQ (.ptr l o) h' = some u:=by
 grind[eQ,ld1,kQ,vJ]
theorem VM{l o n:Nat}{u:V}(a:fM n (.ptr l o) h=some u)(hk:h'.get l=h.get l):fM n (.ptr l o) h' = some u:=by
 grind[fM,ET,kQ,vJ]
end
open Un
def fH{ι:Type}(ty:Nat)(f:ι->Option (List Nat×V)):Pc where
 lh:=λl=>∃i xs v,f i=some (xs,v)/\Loc v l
 ok F h:=(∀i xs v,f i=some (xs,v)->jY eN ty F h xs v)/\∀i j xs v ys w,f i=some (xs,v)->f j=some (ys,w)->i≠j->∀l,Loc v l->¬Loc w l
 LR:=λh l ⟨i,xs,v,a,b⟩=>((h.1 i xs v a).rI b).2
 fe:=λh c b d=>⟨λi xs v a=>(h.1 i xs v a).fe c (by grind) d,h.2⟩
 mono:=λh c b=>⟨λi xs v a=>(h.1 i xs v a).mono c (by grind),h.2⟩
def up{ι α:Type}[DecidableEq ι] (f:ι->Option α)(i:ι)(x:Option α):ι->Option α:=λj=>if j=i then x else f j
@[simp] theorem jo {ι α:Type} [DecidableEq ι] (f:ι->Option α) (i:ι) (x:Option α):up f i x i=x:=if_pos rfl
theorem iI{ι α:Type}[DecidableEq ι] (f:ι->Option α){i j:ι}(x:Option α)(h:j≠i):up f i x j=f j:=if_neg h
section
variable{F:Nat->Prop}{h:Hp}{cs:List Pc}{p q:Pc}
theorem ej.sw(H:ej F h (p::q::cs)):ej F h (q::p::cs) where
 fl:=H.fl
 ok:=λi c hc=>by
  match i,hc with
  |0,hc=>exact H.ok 1 c hc
  |1,hc=>exact H.ok 0 c hc
  |i+2,hc=>exact H.ok (i+2) c hc
 A5:=λi j c d hc a b=>by
  match i,j,hc,a with
  |0,0,_,_=>omega
  |0,1,hc,a=>exact H.A5 1 0 c d hc a (by omega)
  |0,j+2,hc,a=>exact H.A5 1 (j+2) c d hc a (by omega)
  |1,0,hc,a=>exact H.A5 0 1 c d hc a (by omega)
  |1,1,_,_=>omega
  |1,j+2,hc,a=>exact H.A5 0 (j+2) c d hc a (by omega)
  |i+2,0,hc,a=>exact H.A5 (i+2) 1 c d hc a (by omega)
  |i+2,1,hc,a=>exact H.A5 (i+2) 0 c d hc a (by omega)
  |i+2,j+2,hc,a=>exact H.A5 (i+2) (j+2) c d hc a b
theorem ej.Hz(H:ej F h (p::q::cs)):ej F h (p::cs):=H.sw.tail
end
section
variable{F F':Nat->Prop}{h h':Hp}{cs:List Pc}{ι:Type}{ty:Nat}{f:ι->Option (List Nat×V)}{xs:List Nat}{v:V}
theorem ej.XG(H:ej F h cs):ej F h (fH (ι:=ι) ty (λ_=>Option.none)::cs):=
 H.add ⟨λ_ _ _ h=>(nomatch h),λ_ _ _ _ _ _ h=>(nomatch h)⟩ λ_ ⟨_,_,_,h,_⟩=>(nomatch h)
theorem ej.OQ [DecidableEq ι] (H:ej F h (ev eN ty xs v::fH ty f::cs)){i:ι}(hi:f i=Option.none):ej F h (fH ty (up f i (some (xs,v)))::cs):=by
 have h0:=H.ok 0 _ rfl;have g:=H.ok 1 _ rfl;have m:∀l,Loc v l->¬(fH ty f).lh l:=λl b=>H.A5 0 1 _ _ rfl rfl (by omega) l b;refine H.tail.tail.cons ⟨λj ys w a=>?_,λj k ys w n x a hk p l b d=>?_⟩ λj c hc l b=>?_
 ·by_cases e:j=i
  ·subst e;rw[jo]at a;cases a;exact h0
  ·rw[iI _ _ e]at a;exact g.1 j ys w a
 ·by_cases e:j=i
  ·subst e;rw[jo]at a;cases a;rw[iI _ _ (by grind)]at hk;exact m l b ⟨k,n,x,hk,d⟩
  ·rw[iI _ _ e]at a;by_cases e':k=i
   ·subst e';rw[jo]at hk;cases hk;exact m l d ⟨j,ys,w,a,b⟩
   ·rw[iI _ _ e']at hk;exact g.2 j k ys w n x a hk p l b d
 ·obtain⟨k,ys,w,hk,o⟩:=b;by_cases e:k=i
  ·subst e;rw[jo]at hk;cases hk;exact H.A5 0 (j+2) _ c rfl hc (by omega) l o
  ·rw[iI _ _ e]at hk;exact H.A5 1 (j+2) _ c rfl hc (by omega) l ⟨k,ys,w,hk,o⟩
theorem ej.rows(H:ej F h cs)(n:Nat)(a:cs[n]? =some (fH ty f)){i:ι}(hi:f i=some (xs,v)):jY eN ty F h xs v:=(H.ok n _ a).1 i xs v hi
theorem ej.Qg{κ:Type}(H:ej F h cs)(n:Nat)(a:cs[n]? =some (fH ty f))(g:κ->Option (List Nat×V))(m:κ->ι)(d:∀i p,g i=some p->f (m i)=some p)(b:∀i j p q,g i=some p->g j=some q->m i=m j->i=j):ej F h (cs.set n (fH ty g)):=by
 have c:=H.ok n _ a;refine H.swap a ⟨λi xs v hi=>c.1 (m i) xs v (by grind),λi j xs v ys w hi o e=>c.2 (m i) (m j) xs v ys w (by grind) (by grind) (by grind)⟩ λl ⟨i,xs,v,hi,k⟩=>⟨m i,xs,v,d i _ hi,k⟩
theorem ej.XM [DecidableEq ι] (H:ej F h cs)(n:Nat)(A:cs[n]? =some (fH ty f)){i:ι}(hi:f i=some (xs,v)){k:Nat}(hk:k<xs.length)(y:Nat) :
  ∃l o h',hV 1 v (.int .i64 k)=some (.ptr l o)/\gh 1 (.ptr l o) (.int .i64 y) h=some (.val .undef h')/\h.next<=h'.next/\ej F h' (cs.set n (fH ty (up f i (some (xs.set k y,v)))))/\Sn F h F h':=by
 have m:=H.ok n _ A;obtain⟨t,h',J,B,C,K,p⟩:=(m.1 i xs v hi).store (k:=0) (y:=y) (u:=V.int .i64 y) hk Nat.one_pos rfl (λw D=>by
  have:w=[.int .i64 (xs[k]:Nat)]:=D;subst this;rfl)
 have hc:lO (fH ty f).lh h h':=p.Xm λl _ c=>⟨i,xs,v,hi,c⟩
 have d:∀{a:ι} {q:List Nat} {b:V},up f i (some (xs.set k y,v)) a=some (q,b)->∃cs,f a=some (cs,b):=by grind[jo,iI]
 have ok:(fH ty (up f i (some (xs.set k y,v)))).ok F h':=by
  refine⟨λj ys w g=>?_,λj E ys w q x g r s l c z=>?_⟩
  ·by_cases e:j=i
   ·simp_all
   ·rw[iI _ _ e]at g;have:=m.1 j ys w g;exact this.fe (λl c=>p.fe l (H.fl l c) λhv=>((m.1 i xs v hi).rI hv).2.2 c) (λl c=>p.fe l (this.rI c).2.1 λhv=>m.2 j i ys w xs v g hi e l c hv) p.next
  ·obtain⟨_,a1⟩:=d g;obtain⟨_,a2⟩:=d r;exact m.2 j E _ w _ x a1 a2 s l c z
 obtain⟨G,I⟩:=H.zL A hc ok λl ⟨j,ys,w,g,c⟩=> .inl (let⟨q,a1⟩:=d g;⟨j,q,w,a1,c⟩);exact⟨t,k*1,h',B,C,p.next,G,I⟩
end
open Un
structure Rw where
 vv:V
 vb:V
 vs:V
 vk:V
 vc:V
 vp:V
 cc:V
def comp(lu hH je:Nat)(R:Rw):Nat->Nat->Prop
 |0,l=>l=lu
 |1,l=>l=hH
 |2,l=>l=je
 |3,l=>Loc R.vv l
 |4,l=>Loc R.vb l
 |5,l=>Loc R.vs l
 |6,l=>Loc R.vk l
 |7,l=>Loc R.vc l
 |_,_=>False
def sig:Nat->Nat×Nat
 |0=>(fT,1)
 |1=>(iP,1)
 |2=>(fo,1)
 |3=>(gi,6)
 |4=>(fo,6)
 |5=>(kJ,1)
 |_=>(en,1)
structure Dw (F G:Nat->Prop) (h:Hp) (lu hH je:Nat) (t:Dt) (R:Rw):Prop where
 fl:∀l,F l->l<h.next
 gu:h.get lu=some (.cells fT 1 true false [.int .i64 1,.int .i64 2,R.vv,R.vb,R.vs])
 gk:h.get hH=some (.cells iP 1 true false [R.vk])
 gb:h.get je=some (.cells fo 1 true false [R.cc,.int .i64 0,.int .i64 0,.ee,R.vp,.int .i64 0])
 nu:lu<h.next/\¬F lu
 nk:hH<h.next/\¬F hH
 nb:je<h.next/\¬F je
 ov:jY eV gi F h t.s.ef R.vv
 ob:jY eK fo F h t.blocks R.vb
 os:jY eT kJ F h t.s.eh R.vs
 ok:jY eN en F h t.s.known R.vk
 oc:jY eN en F h t.s.cur R.vc
 sp:iG eN F h t.ez R.vp
 kc:∀l,Loc R.vk l->¬Loc R.vc l
 gx:∀l,G l->l<h.next/\¬F l/\∀i,¬comp lu hH je R i l
structure Kp (F G:Nat->Prop) (h h':Hp):Prop where
 next:h.next<=h'.next
 fe:∀l,F l\/G l->h'.get l=h.get l
theorem Kp.refl(F G:Nat->Prop)(h:Hp):Kp F G h h:=⟨jb _,by simp_all⟩
theorem Kp.trans{F F' G:Nat->Prop} {h h' c:Hp}(a:Kp F G h h')(b:Kp F' G h' c)(e:∀l,F l->F' l):Kp F G h c:=
 ⟨BX a.next b.next,λl d=>by rw[b.fe l (by grind),a.fe l d]⟩
section
variable{F G:Nat->Prop}{h h':Hp}{lu hH je:Nat}{t:Dt}{R:Rw}
theorem Dw.sig(D:Dw F G h lu hH je t R){l:Nat}:∀{i:Nat},comp lu hH je R i l->Wq h l=some (Hx.sig i)/\l<h.next/\¬F l
 |0,hl=>by have e:l=lu:=hl;subst e;exact⟨Ke D.gu,D.nu⟩
 |1,hl=>by have e:l=hH:=hl;subst e;exact⟨Ke D.gk,D.nk⟩
 |2,hl=>by have e:l=je:=hl;subst e;exact⟨Ke D.gb,D.nb⟩
 |3,hl=>D.ov.rI hl
 |4,hl=>D.ob.rI hl
 |5,hl=>D.os.rI hl
 |6,hl=>D.ok.rI hl
 |7,hl=>D.oc.rI hl
 |_+8,hl=>hl.elim
theorem Dw.A5(D:Dw F G h lu hH je t R){l i j:Nat}(hi:comp lu hH je R i l)(a:comp lu hH je R j l):Hx.sig i=Hx.sig j:=by
 have b:=(D.sig hi).1
 grind[Option.some.inj,sig,comp,comp,Wq,sig]
theorem Dw.Bf(D:Dw F G h lu hH je t R){l i j:Nat}(hi:comp lu hH je R i l)(a:comp lu hH je R j l)(c:i<8)(d:j<8):i=j:=by
 have e:=D.A5 hi a;have b:∀i,i<8->∀j,j<8->Hx.sig i=Hx.sig j->i=j\/(i=6/\j=7)\/(i=7/\j=6):=by decide
 rcases b i c j d e with f|⟨rfl,rfl⟩|⟨rfl,rfl⟩
 ·exact f
 ·exact absurd a (D.kc l hi)
 ·exact absurd hi (D.kc l a)
theorem Dw.kept(D:Dw F G h lu hH je t R){i j:Nat}(hi:i<8)(d:j<8)(hc:lO (λl=>comp lu hH je R i l\/comp lu hH je R j l) h h') :
  (∀l,F l->h'.get l=h.get l)/\(∀l,G l->h'.get l=h.get l)/\∀k l,k<8->k≠i->k≠j->comp lu hH je R k l->h'.get l=h.get l:=by
 refine⟨λl a=>hc.fe l (D.fl l a) ?_,λl a=>hc.fe l (D.gx l a).1 ?_,λk l hk b e a=>hc.fe l (D.sig a).2.1 ?_⟩
 ·rintro(b|b)
  ·exact(D.sig b).2.2 a
  ·exact(D.sig b).2.2 a
 ·rintro(b|b)
  ·exact(D.gx l a).2.2 _ b
  ·exact(D.gx l a).2.2 _ b
 ·rintro(c|c)
  ·exact b (D.Bf a c hk hi)
  ·exact e (D.Bf a c hk d)
theorem Dw.other(D:Dw F G h lu hH je t R){S:Nat->Prop}(b:lO S h h')(d:∀l,S l->¬F l/\¬G l/\∀i,¬comp lu hH je R i l):Dw F G h' lu hH je t R/\Kp F G h h':=by
 have c:∀l,F l->h'.get l=h.get l:=λl a=>b.fe l (D.fl l a) (by grind);have e:∀l,G l->h'.get l=h.get l:=λl a=>b.fe l (D.gx l a).1 (by grind);have k:∀i l,comp lu hH je R i l->h'.get l=h.get l:=λi l a=>b.fe l (D.sig a).2.1 (by grind);have lt:∀l,l<h.next->l<h'.next:=λl a=>BF a b.next
 exact ⟨{
  fl:=λl a=>lt l (D.fl l a)
  gu:=by rw[k 0 _ rfl];exact D.gu
  gk:=by rw[k 1 _ rfl];exact D.gk
  gb:=by rw[k 2 _ rfl];exact D.gb
  nu:=⟨lt _ D.nu.1,D.nu.2⟩
  nk:=⟨lt _ D.nk.1,D.nk.2⟩
  nb:=⟨lt _ D.nb.1,D.nb.2⟩
  ov:=D.ov.fe c (λl a=>k 3 l a) b.next
  ob:=D.ob.fe c (λl a=>k 4 l a) b.next
  os:=D.os.fe c (λl a=>k 5 l a) b.next
  ok:=D.ok.fe c (λl a=>k 6 l a) b.next
  oc:=D.oc.fe c (λl a=>k 7 l a) b.next
  sp:=D.sp.fe c
  kc:=D.kc
  gx:=λl a=>⟨lt l (D.gx l a).1,(D.gx l a).2⟩ },⟨b.next,by grind⟩⟩
theorem Dw.grow(D:Dw F G h lu hH je t R)(a:E7 h h'):Dw F G h' lu hH je t R:=(D.other a (by simp_all)).1
theorem Dw.more(D:Dw F G h lu hH je t R) {F':Nat->Prop}(c:∀l,F l->F' l)(d:∀l,F' l->F l\/(l<h.next/\(∀i,¬comp lu hH je R i l)/\¬G l)):Dw F' G h lu hH je t R:=by
 have b:∀i l,comp lu hH je R i l->¬F' l:=λi l a e=>by
  rcases d l e with f|⟨_,f,_⟩
  ·exact(D.sig a).2.2 f
  simp_all
 exact {
  fl:=λl a=>(d l a).elim (D.fl l) λh=>h.1
  gu:=D.gu
  gk:=D.gk
  gb:=D.gb
  nu:=⟨D.nu.1,b 0 _ rfl⟩
  nk:=⟨D.nk.1,b 1 _ rfl⟩
  nb:=⟨D.nb.1,b 2 _ rfl⟩
  ov:=D.ov.mono c λl a=>b 3 l a
  ob:=D.ob.mono c λl a=>b 4 l a
  os:=D.os.mono c λl a=>b 5 l a
  ok:=D.ok.mono c λl a=>b 6 l a
  oc:=D.oc.mono c λl a=>b 7 l a
  sp:=D.sp.mono c
  kc:=D.kc
  gx:=λl a=>⟨(D.gx l a).1,λe=>(d l e).elim (D.gx l a).2.1 (by simp_all),(D.gx l a).2.2⟩ }
def fz(F:Nat->Prop)(n:Nat):Nat->Prop:=λl=>F l\/l=n
theorem oR(F:Nat->Prop)(n:Nat):∀l,F l->fz F n l:=λ_ h=> .inl h
theorem Dw.new(D:Dw F G h lu hH je t R)(o:O):Dw (fz F h.next) G (h.new o) lu hH je t R:=
 (D.grow (lO.new h o)).more (oR _ _) λl a=>a.imp id λe=>by
  subst e;refine⟨Pd _,λi hi=>wB2 _ (D.sig hi).2.1,λb=>wB2 _ (D.gx _ b).1⟩
theorem Kp.new(F G:Nat->Prop)(h:Hp)(o:O)(a:∀l,F l->l<h.next)(b:∀l,G l->l<h.next):Kp F G h (h.new o):=
 ⟨Qd _,by grind[fh]⟩
theorem Dw.xg(D:Dw F G h lu hH je t R)(o:O):Kp F G h (h.new o):=Kp.new F G h o D.fl λl a=>(D.gx l a).1
theorem nf{l o e sz:Nat} {cs ot:List V}{v:V}(a:h.get l=some (.cells e sz true false cs))(b:o<cs.length)(hv:v.one=true)(hs:cs.set o v=ot):gh 1 (.ptr l o) v h=some (.val .undef (h.put l (.cells e sz true false ot))):=by
 grind[LJ]
private theorem XH {a:Nat->Prop} {l:Nat} {S:Nat->Prop} {b:Hp} {o:O} (hc:lO a h b) (d:∀l,a l->S l) (c:l<h.next) (hs:S l):lO S h (b.put l o):=
 (hc.Xm (by simp_all)).trans (lO.put o hs (BF c hc.next))
theorem Dw.zcU(D:Dw F G h lu hH je t R){ys:List Vl}{new:List V}{xv:V}(hx:kW h 6 xv=some (ys.length,new))(u:pd eV F h new ys)(a:new.length=ys.length*6) (p:fZ new=true)(hk:0<ys.length)(hlen:t.s.ef.length+ys.length<1000000) :
  ∃b c f,eR gi 6 64 R.vv xv h=some (.val b c)/\h.next<=c.next/\gh 1 (.ptr lu 2) b c=some (.val .undef f)/\c.next<=f.next/\Kp F G h f/\
   Dw F G f lu hH je {t with s:={t.s with ef:=t.s.ef++ys} } {R with vv:=b}:=by
 obtain ⟨b,c,w,r,n,l1⟩:=D.ov.append (kj:=64) (ys:=ys) hx u a p hk (by decide) D.fl (by omega) (by omega);have q:c.get lu=some (.cells fT 1 true false [.int .i64 1,.int .i64 2,R.vv,R.vb,R.vs]):=by
  rw[n.fe lu D.nu.1 λa=>nomatch D.Bf (i:=0) (j:=3) rfl a (by decide) (by decide)];exact D.gu
 have k:lu<c.next:=BF D.nu.1 n.next;have x:=nf (o:=2) (v:=b) (ot:=[.int .i64 1,.int .i64 2,b,R.vb,R.vs]) q (by simp) r.one rfl;have hc:lO (λl=>comp lu hH je R 0 l\/comp lu hH je R 3 l) h (c.put lu (.cells fT 1 true false [.int .i64 1,.int .i64 2,b,R.vb,R.vs])):=XH n (λ_ h=> .inr h) D.nu.1 (.inl rfl);obtain⟨m,y,g⟩:=D.kept (by decide) (by decide) hc;have d:∀l,l<h.next->l<(c.put lu (.cells fT 1 true false [.int .i64 1,.int .i64 2,b,R.vb,R.vs])).next:=λl a=>BF a hc.next;have z:∀l,Loc b l->l≠lu:=λl a e=>by
  subst e;rcases l1 _ a with f|f
  ·exact absurd (D.Bf (i:=0) (j:=3) rfl f (by decide) (by decide)) (by decide)
  ·exact absurd f (Po D.nu.1)
 have hO:jY eV gi F (c.put lu (.cells fT 1 true false [.int .i64 1,.int .i64 2,b,R.vb,R.vs])) (t.s.ef++ys) b:=
  r.fe (λl a=>gf _ k λe=>D.nu.2 (e▸a)) (by grind[gf]) (jb _)
 refine⟨b,c,_,w,n.next,x,jb _,⟨hc.next,by grind⟩,?_⟩
 exact {
  fl:=λl a=>d l (D.fl l a)
  gu:=fP _ k
  gk:=by rw[g 1 hH (by decide) (by decide) (by decide) rfl];exact D.gk
  gb:=by rw[g 2 je (by decide) (by decide) (by decide) rfl];exact D.gb
  ov:=hO
  ob:=D.ob.fe m (λl a=>g 4 l (by decide) (by decide) (by decide) a) hc.next
  os:=D.os.fe m (λl a=>g 5 l (by decide) (by decide) (by decide) a) hc.next
  ok:=D.ok.fe m (λl a=>g 6 l (by decide) (by decide) (by decide) a) hc.next
  oc:=D.oc.fe m (λl a=>g 7 l (by decide) (by decide) (by decide) a) hc.next
  nu:=⟨d _ D.nu.1,D.nu.2⟩
  nk:=⟨d _ D.nk.1,D.nk.2⟩
  nb:=⟨d _ D.nb.1,D.nb.2⟩
  sp:=D.sp.fe m
  kc:=D.kc
  gx:=λl a=>⟨d l (D.gx l a).1,(D.gx l a).2.1,λi hi=>by
   match i,hi with
   |0,hi=>exact(D.gx l a).2.2 0 hi
   |1,hi=>exact(D.gx l a).2.2 1 hi
   |2,hi=>exact(D.gx l a).2.2 2 hi
   |3,hi=>exact(l1 l hi).elim ((D.gx l a).2.2 3) λe=>absurd e (Po (D.gx l a).1)
   |4,hi=>exact(D.gx l a).2.2 4 hi
   |5,hi=>exact(D.gx l a).2.2 5 hi
   |6,hi=>exact(D.gx l a).2.2 6 hi
   |7,hi=>exact(D.gx l a).2.2 7 hi⟩ }
theorem Dw.zcZ(D:Dw F G h lu hH je t R){ys:List Bk}{new:List V}{xv:V}(hx:kW h 6 xv=some (ys.length,new))(s:pd eK F h new ys)(a:new.length=ys.length*6) (p:fZ new=true)(hk:0<ys.length)(hlen:t.blocks.length+ys.length<1000000) :
  ∃b c f,eR fo 6 96 R.vb xv h=some (.val b c)/\h.next<=c.next/\gh 1 (.ptr lu 3) b c=some (.val .undef f)/\c.next<=f.next/\Kp F G h f/\
   Dw F G f lu hH je {t with blocks:=t.blocks++ys} {R with vb:=b}:=by
 obtain ⟨b,c,u,r,n,l1⟩:=D.ob.append (kj:=96) (ys:=ys) hx s a p hk (by decide) D.fl (by omega) (by omega);have q:c.get lu=some (.cells fT 1 true false [.int .i64 1,.int .i64 2,R.vv,R.vb,R.vs]):=by
  rw[n.fe lu D.nu.1 λa=>nomatch D.Bf (i:=0) (j:=4) rfl a (by decide) (by decide)];exact D.gu
 have k:lu<c.next:=BF D.nu.1 n.next;have w:=nf (o:=3) (v:=b) (ot:=[.int .i64 1,.int .i64 2,R.vv,b,R.vs]) q (by simp) r.one rfl;have hc:lO (λl=>comp lu hH je R 0 l\/comp lu hH je R 4 l) h (c.put lu (.cells fT 1 true false [.int .i64 1,.int .i64 2,R.vv,b,R.vs])):=XH n (λ_ h=> .inr h) D.nu.1 (.inl rfl);obtain⟨m,x,g⟩:=D.kept (by decide) (by decide) hc;have d:∀l,l<h.next->l<(c.put lu (.cells fT 1 true false [.int .i64 1,.int .i64 2,R.vv,b,R.vs])).next:=λl a=>BF a hc.next;have y:∀l,Loc b l->l≠lu:=λl a e=>by
  subst e;rcases l1 _ a with f|f
  ·exact absurd (D.Bf (i:=0) (j:=4) rfl f (by decide) (by decide)) (by decide)
  ·exact absurd f (Po D.nu.1)
 have hO:jY eK fo F (c.put lu (.cells fT 1 true false [.int .i64 1,.int .i64 2,R.vv,b,R.vs])) (t.blocks++ys) b:=
  r.fe (λl a=>gf _ k λe=>D.nu.2 (e▸a)) (by grind[gf]) (jb _)
 refine⟨b,c,_,u,n.next,w,jb _,⟨hc.next,by grind⟩,?_⟩
 exact {
  fl:=λl a=>d l (D.fl l a)
  gu:=fP _ k
  gk:=by rw[g 1 hH (by decide) (by decide) (by decide) rfl];exact D.gk
  gb:=by rw[g 2 je (by decide) (by decide) (by decide) rfl];exact D.gb
  ov:=D.ov.fe m (λl a=>g 3 l (by decide) (by decide) (by decide) a) hc.next
  ob:=hO
  os:=D.os.fe m (λl a=>g 5 l (by decide) (by decide) (by decide) a) hc.next
  ok:=D.ok.fe m (λl a=>g 6 l (by decide) (by decide) (by decide) a) hc.next
  oc:=D.oc.fe m (λl a=>g 7 l (by decide) (by decide) (by decide) a) hc.next
  nu:=⟨d _ D.nu.1,D.nu.2⟩
  nk:=⟨d _ D.nk.1,D.nk.2⟩
  nb:=⟨d _ D.nb.1,D.nb.2⟩
  sp:=D.sp.fe m
  kc:=D.kc
  gx:=λl a=>⟨d l (D.gx l a).1,(D.gx l a).2.1,λi hi=>by
   match i,hi with
   |0,hi=>exact(D.gx l a).2.2 0 hi
   |1,hi=>exact(D.gx l a).2.2 1 hi
   |2,hi=>exact(D.gx l a).2.2 2 hi
   |3,hi=>exact(D.gx l a).2.2 3 hi
   |4,hi=>exact(l1 l hi).elim ((D.gx l a).2.2 4) λe=>absurd e (Po (D.gx l a).1)
   |5,hi=>exact(D.gx l a).2.2 5 hi
   |6,hi=>exact(D.gx l a).2.2 6 hi
   |7,hi=>exact(D.gx l a).2.2 7 hi⟩ }
theorem Dw.zcT(D:Dw F G h lu hH je t R){ys:List (List Fm)}{new:List V}{xv:V}(hx:kW h 1 xv=some (ys.length,new))(u:pd eT F h new ys)(a:new.length=ys.length*1) (p:fZ new=true)(hk:0<ys.length)(hlen:t.s.eh.length+ys.length<1000000) :
  ∃b c f,eR kJ 1 24 R.vs xv h=some (.val b c)/\h.next<=c.next/\gh 1 (.ptr lu 4) b c=some (.val .undef f)/\c.next<=f.next/\Kp F G h f/\
   Dw F G f lu hH je {t with s:={t.s with eh:=t.s.eh++ys} } {R with vs:=b}:=by
 obtain ⟨b,c,w,r,n,l1⟩:=D.os.append (kj:=24) (ys:=ys) hx u a p hk (by decide) D.fl (by omega) (by omega);have q:c.get lu=some (.cells fT 1 true false [.int .i64 1,.int .i64 2,R.vv,R.vb,R.vs]):=by
  rw[n.fe lu D.nu.1 λa=>nomatch D.Bf (i:=0) (j:=5) rfl a (by decide) (by decide)];exact D.gu
 have k:lu<c.next:=BF D.nu.1 n.next;have x:=nf (o:=4) (v:=b) (ot:=[.int .i64 1,.int .i64 2,R.vv,R.vb,b]) q (by simp) r.one rfl;have hc:lO (λl=>comp lu hH je R 0 l\/comp lu hH je R 5 l) h (c.put lu (.cells fT 1 true false [.int .i64 1,.int .i64 2,R.vv,R.vb,b])):=XH n (λ_ h=> .inr h) D.nu.1 (.inl rfl);obtain⟨m,y,g⟩:=D.kept (by decide) (by decide) hc;have d:∀l,l<h.next->l<(c.put lu (.cells fT 1 true false [.int .i64 1,.int .i64 2,R.vv,R.vb,b])).next:=λl a=>BF a hc.next;have z:∀l,Loc b l->l≠lu:=λl a e=>by
  subst e;rcases l1 _ a with f|f
  ·exact absurd (D.Bf (i:=0) (j:=5) rfl f (by decide) (by decide)) (by decide)
  ·exact absurd f (Po D.nu.1)
 have hO:jY eT kJ F (c.put lu (.cells fT 1 true false [.int .i64 1,.int .i64 2,R.vv,R.vb,b])) (t.s.eh++ys) b:=
  r.fe (λl a=>gf _ k λe=>D.nu.2 (e▸a)) (by grind[gf]) (jb _)
 refine⟨b,c,_,w,n.next,x,jb _,⟨hc.next,by grind⟩,?_⟩
 exact {
  fl:=λl a=>d l (D.fl l a)
  gu:=fP _ k
  gk:=by rw[g 1 hH (by decide) (by decide) (by decide) rfl];exact D.gk
  gb:=by rw[g 2 je (by decide) (by decide) (by decide) rfl];exact D.gb
  ov:=D.ov.fe m (λl a=>g 3 l (by decide) (by decide) (by decide) a) hc.next
  ob:=D.ob.fe m (λl a=>g 4 l (by decide) (by decide) (by decide) a) hc.next
  os:=hO
  ok:=D.ok.fe m (λl a=>g 6 l (by decide) (by decide) (by decide) a) hc.next
  oc:=D.oc.fe m (λl a=>g 7 l (by decide) (by decide) (by decide) a) hc.next
  nu:=⟨d _ D.nu.1,D.nu.2⟩
  nk:=⟨d _ D.nk.1,D.nk.2⟩
  nb:=⟨d _ D.nb.1,D.nb.2⟩
  sp:=D.sp.fe m
  kc:=D.kc
  gx:=λl a=>⟨d l (D.gx l a).1,(D.gx l a).2.1,λi hi=>by
   match i,hi with
   |0,hi=>exact(D.gx l a).2.2 0 hi
   |1,hi=>exact(D.gx l a).2.2 1 hi
   |2,hi=>exact(D.gx l a).2.2 2 hi
   |3,hi=>exact(D.gx l a).2.2 3 hi
   |4,hi=>exact(D.gx l a).2.2 4 hi
   |5,hi=>exact(l1 l hi).elim ((D.gx l a).2.2 5) λe=>absurd e (Po (D.gx l a).1)
   |6,hi=>exact(D.gx l a).2.2 6 hi
   |7,hi=>exact(D.gx l a).2.2 7 hi⟩ }
theorem Dw.za9(D:Dw F G h lu hH je t R){ys:List Nat}{new:List V}{xv:V}(hx:kW h 1 xv=some (ys.length,new))(u:pd eN F h new ys)(a:new.length=ys.length*1) (p:fZ new=true)(hk:0<ys.length)(hlen:t.s.known.length+ys.length<1000000) :
  ∃b c f,eR en 1 8 R.vk xv h=some (.val b c)/\h.next<=c.next/\gh 1 (.ptr hH 0) b c=some (.val .undef f)/\c.next<=f.next/\Kp F G h f/\
   Dw F G f lu hH je {t with s:={t.s with known:=t.s.known++ys} } {R with vk:=b}:=by
 obtain ⟨b,c,w,r,n,l1⟩:=D.ok.append (kj:=8) (ys:=ys) hx u a p hk (by decide) D.fl (by omega) (by omega);have q:c.get hH=some (.cells iP 1 true false [R.vk]):=by
  rw[n.fe hH D.nk.1 λa=>nomatch D.Bf (i:=1) (j:=6) rfl a (by decide) (by decide)];exact D.gk
 have k:hH<c.next:=BF D.nk.1 n.next;have x:=nf (o:=0) (v:=b) (ot:=[b]) q (by simp) r.one rfl;have hc:lO (λl=>comp lu hH je R 1 l\/comp lu hH je R 6 l) h (c.put hH (.cells iP 1 true false [b])):=XH n (λ_ h=> .inr h) D.nk.1 (.inl rfl);obtain⟨m,y,g⟩:=D.kept (by decide) (by decide) hc;have d:∀l,l<h.next->l<(c.put hH (.cells iP 1 true false [b])).next:=λl a=>BF a hc.next;have z:∀l,Loc b l->l≠hH:=λl a e=>by
  subst e;rcases l1 _ a with f|f
  ·exact absurd (D.Bf (i:=1) (j:=6) rfl f (by decide) (by decide)) (by decide)
  ·exact absurd f (Po D.nk.1)
 have hO:jY eN en F (c.put hH (.cells iP 1 true false [b])) (t.s.known++ys) b:=
  r.fe (λl a=>gf _ k λe=>D.nk.2 (e▸a)) (by grind[gf]) (jb _)
 refine⟨b,c,_,w,n.next,x,jb _,⟨hc.next,by grind⟩,?_⟩
 exact {
  fl:=λl a=>d l (D.fl l a)
  gu:=by rw[g 0 lu (by decide) (by decide) (by decide) rfl];exact D.gu
  gk:=fP _ k
  gb:=by rw[g 2 je (by decide) (by decide) (by decide) rfl];exact D.gb
  ov:=D.ov.fe m (λl a=>g 3 l (by decide) (by decide) (by decide) a) hc.next
  ob:=D.ob.fe m (λl a=>g 4 l (by decide) (by decide) (by decide) a) hc.next
  os:=D.os.fe m (λl a=>g 5 l (by decide) (by decide) (by decide) a) hc.next
  ok:=hO
  oc:=D.oc.fe m (λl a=>g 7 l (by decide) (by decide) (by decide) a) hc.next
  nu:=⟨d _ D.nu.1,D.nu.2⟩
  nk:=⟨d _ D.nk.1,D.nk.2⟩
  nb:=⟨d _ D.nb.1,D.nb.2⟩
  sp:=D.sp.fe m
  kc:=λl a hc=>(l1 l a).elim (λf=>D.kc l f hc) λe=>absurd e (Po (D.oc.rI hc).2.1)
  gx:=λl a=>⟨d l (D.gx l a).1,(D.gx l a).2.1,λi hi=>by
   match i,hi with
   |0,hi=>exact(D.gx l a).2.2 0 hi
   |1,hi=>exact(D.gx l a).2.2 1 hi
   |2,hi=>exact(D.gx l a).2.2 2 hi
   |3,hi=>exact(D.gx l a).2.2 3 hi
   |4,hi=>exact(D.gx l a).2.2 4 hi
   |5,hi=>exact(D.gx l a).2.2 5 hi
   |6,hi=>exact(l1 l hi).elim ((D.gx l a).2.2 6) λe=>absurd e (Po (D.gx l a).1)
   |7,hi=>exact(D.gx l a).2.2 7 hi⟩ }
theorem Dw.zc6(D:Dw F G h lu hH je t R){ys:List Nat}{new:List V}{xv:V}(hx:kW h 1 xv=some (ys.length,new))(u:pd eN F h new ys)(a:new.length=ys.length*1) (p:fZ new=true)(hk:0<ys.length)(hlen:t.s.cur.length+ys.length<1000000) :
  ∃b c f,eR en 1 8 R.vc xv h=some (.val b c)/\h.next<=c.next/\gh 1 (.ptr je 0) b c=some (.val .undef f)/\c.next<=f.next/\Kp F G h f/\
   Dw F G f lu hH je {t with s:={t.s with cur:=t.s.cur++ys} } {R with vc:=b,cc:=b}:=by
 obtain ⟨b,c,w,r,n,l1⟩:=D.oc.append (kj:=8) (ys:=ys) hx u a p hk (by decide) D.fl (by omega) (by omega);have q:c.get je=some (.cells fo 1 true false [R.cc,.int .i64 0,.int .i64 0,.ee,R.vp,.int .i64 0]):=by
  rw[n.fe je D.nb.1 λa=>nomatch D.Bf (i:=2) (j:=7) rfl a (by decide) (by decide)];exact D.gb
 have k:je<c.next:=BF D.nb.1 n.next;have x:=nf (o:=0) (v:=b) (ot:=[b,.int .i64 0,.int .i64 0,.ee,R.vp,.int .i64 0]) q (by simp) r.one rfl;have hc:lO (λl=>comp lu hH je R 2 l\/comp lu hH je R 7 l) h (c.put je (.cells fo 1 true false [b,.int .i64 0,.int .i64 0,.ee,R.vp,.int .i64 0])):=XH n (λ_ h=> .inr h) D.nb.1 (.inl rfl);obtain⟨m,y,g⟩:=D.kept (by decide) (by decide) hc;have d:∀l,l<h.next->l<(c.put je (.cells fo 1 true false [b,.int .i64 0,.int .i64 0,.ee,R.vp,.int .i64 0])).next:=λl a=>BF a hc.next;have z:∀l,Loc b l->l≠je:=λl a e=>by
  subst e;rcases l1 _ a with f|f
  ·exact absurd (D.Bf (i:=2) (j:=7) rfl f (by decide) (by decide)) (by decide)
  ·exact absurd f (Po D.nb.1)
 have hO:jY eN en F (c.put je (.cells fo 1 true false [b,.int .i64 0,.int .i64 0,.ee,R.vp,.int .i64 0])) (t.s.cur++ys) b:=
  r.fe (λl a=>gf _ k λe=>D.nb.2 (e▸a)) (by grind[gf]) (jb _)
 refine⟨b,c,_,w,n.next,x,jb _,⟨hc.next,by grind⟩,?_⟩
 exact {
  fl:=λl a=>d l (D.fl l a)
  gu:=by rw[g 0 lu (by decide) (by decide) (by decide) rfl];exact D.gu
  gk:=by rw[g 1 hH (by decide) (by decide) (by decide) rfl];exact D.gk
  gb:=fP _ k
  ov:=D.ov.fe m (λl a=>g 3 l (by decide) (by decide) (by decide) a) hc.next
  ob:=D.ob.fe m (λl a=>g 4 l (by decide) (by decide) (by decide) a) hc.next
  os:=D.os.fe m (λl a=>g 5 l (by decide) (by decide) (by decide) a) hc.next
  ok:=D.ok.fe m (λl a=>g 6 l (by decide) (by decide) (by decide) a) hc.next
  oc:=hO
  nu:=⟨d _ D.nu.1,D.nu.2⟩
  nk:=⟨d _ D.nk.1,D.nk.2⟩
  nb:=⟨d _ D.nb.1,D.nb.2⟩
  sp:=D.sp.fe m
  kc:=λl a hc=>(l1 l hc).elim (λf=>D.kc l a f) λe=>absurd e (Po (D.ok.rI a).2.1)
  gx:=λl a=>⟨d l (D.gx l a).1,(D.gx l a).2.1,λi hi=>by
   match i,hi with
   |0,hi=>exact(D.gx l a).2.2 0 hi
   |1,hi=>exact(D.gx l a).2.2 1 hi
   |2,hi=>exact(D.gx l a).2.2 2 hi
   |3,hi=>exact(D.gx l a).2.2 3 hi
   |4,hi=>exact(D.gx l a).2.2 4 hi
   |5,hi=>exact(D.gx l a).2.2 5 hi
   |6,hi=>exact(D.gx l a).2.2 6 hi
   |7,hi=>exact(l1 l hi).elim ((D.gx l a).2.2 7) λe=>absurd e (Po (D.gx l a).1)⟩ }
theorem Dw.cell(D:Dw F G h lu hH je t R){i:Nat}(hi:i<8)(hc:lO (λl=>comp lu hH je R i l) h h') :
  (∀l,F l->h'.get l=h.get l)/\(∀l,G l->h'.get l=h.get l)/\∀k l,k<8->k≠i->comp lu hH je R k l->h'.get l=h.get l:=by
 obtain⟨a,b,c⟩:=D.kept hi hi (hc.Xm (S':=λl=>comp lu hH je R i l\/comp lu hH je R i l) λ_ _ h=> .inl h)
 grind
theorem Dw.zc4(D:Dw F G h lu hH je t R){n:Nat}(g:n<=t.s.known.length) :
  ∃b e,jc 1 R.vk none (some (.int .i64 n)) h=some b/\gh 1 (.ptr hH 0) b h=some (.val .undef e)/\h.next<=e.next/\Kp F G h e/\Dw F G e lu hH je {t with s:=Un.cut n t.s} {R with vk:=b}:=by
 obtain⟨b,j,f,l1⟩:=D.ok.cut g;have k:=nf (o:=0) (v:=b) (ot:=[b]) D.gk (by simp) f.one rfl;have hc:lO (λl=>comp lu hH je R 1 l) h (h.put hH (.cells iP 1 true false [b])):=lO.put _ rfl D.nk.1;obtain⟨d,m,c⟩:=D.cell (by decide) hc;refine⟨b,_,j,k,jb _,⟨hc.next,by grind⟩,?_⟩
 exact {
  fl:=D.fl
  gu:=by rw[c 0 lu (by decide) (by decide) rfl];exact D.gu
  gk:=fP _ D.nk.1
  gb:=by rw[c 2 je (by decide) (by decide) rfl];exact D.gb
  nu:=D.nu
  nk:=D.nk
  nb:=D.nb
  ov:=D.ov.fe d (λl a=>c 3 l (by decide) (by decide) a) hc.next
  ob:=D.ob.fe d (λl a=>c 4 l (by decide) (by decide) a) hc.next
  os:=D.os.fe d (λl a=>c 5 l (by decide) (by decide) a) hc.next
  ok:=f.fe d (λl a=>c 6 l (by decide) (by decide) (l1 l a)) hc.next
  oc:=D.oc.fe d (λl a=>c 7 l (by decide) (by decide) a) hc.next
  sp:=D.sp.fe d
  kc:=λl a=>D.kc l (l1 l a)
  gx:=λl a=>⟨(D.gx l a).1,(D.gx l a).2.1,λi hi=>by
   match i,hi with
   |0,hi=>exact(D.gx l a).2.2 0 hi
   |1,hi=>exact(D.gx l a).2.2 1 hi
   |2,hi=>exact(D.gx l a).2.2 2 hi
   |3,hi=>exact(D.gx l a).2.2 3 hi
   |4,hi=>exact(D.gx l a).2.2 4 hi
   |5,hi=>exact(D.gx l a).2.2 5 hi
   |6,hi=>exact(D.gx l a).2.2 6 (l1 l hi)
   |7,hi=>exact(D.gx l a).2.2 7 hi⟩ }
theorem Dw.zam(D:Dw F G h lu hH je t R){c p:V}{ps:List Nat}(e:iG eN F h ps p):Kp F G h (h.put je (.cells fo 1 true false [c,.int .i64 0,.int .i64 0,.ee,p,.int .i64 0]))/\
  Dw F G (h.put je (.cells fo 1 true false [c,.int .i64 0,.int .i64 0,.ee,p,.int .i64 0])) lu hH je {t with ez:=ps} {R with vp:=p,cc:=c}:=by
 have hc:lO (λl=>comp lu hH je R 2 l) h (h.put je (.cells fo 1 true false [c,.int .i64 0,.int .i64 0,.ee,p,.int .i64 0])):=lO.put _ rfl D.nb.1;obtain⟨d,f,b⟩:=D.cell (by decide) hc;refine⟨⟨hc.next,by grind⟩,?_⟩
 exact {
  fl:=D.fl
  gu:=by rw[b 0 lu (by decide) (by decide) rfl];exact D.gu
  gk:=by rw[b 1 hH (by decide) (by decide) rfl];exact D.gk
  gb:=fP _ D.nb.1
  nu:=D.nu
  nk:=D.nk
  nb:=D.nb
  ov:=D.ov.fe d (λl a=>b 3 l (by decide) (by decide) a) hc.next
  ob:=D.ob.fe d (λl a=>b 4 l (by decide) (by decide) a) hc.next
  os:=D.os.fe d (λl a=>b 5 l (by decide) (by decide) a) hc.next
  ok:=D.ok.fe d (λl a=>b 6 l (by decide) (by decide) a) hc.next
  oc:=D.oc.fe d (λl a=>b 7 l (by decide) (by decide) a) hc.next
  sp:=e.fe d
  kc:=D.kc
  gx:=D.gx}
def fzc(F:Nat->Prop)(v:V):Nat->Prop:=λl=>F l\/Loc v l
theorem Dw.flush(D:Dw F G h lu hH je t R):iG eN (fzc F R.vc) h t.s.cur R.vc/\Dw (fzc F R.vc) G h lu hH je {t with s:={t.s with cur:=[]} } {R with vc:= .ee}:=by
 refine⟨D.oc.Zm (λ_ h=> .inl h) λ_ h=> .inr h,?_⟩
 have D':Dw F G h lu hH je {t with s:={t.s with cur:=[]} } {R with vc:= .ee}:=
  { D with
    oc:= .nil
    kc:=by simp_all
    gx:=λl a=>⟨(D.gx l a).1,(D.gx l a).2.1,λi hi=>by
      match i,hi with
      |0,hi=>exact(D.gx l a).2.2 0 hi
      |1,hi=>exact(D.gx l a).2.2 1 hi
      |2,hi=>exact(D.gx l a).2.2 2 hi
      |3,hi=>exact(D.gx l a).2.2 3 hi
      |4,hi=>exact(D.gx l a).2.2 4 hi
      |5,hi=>exact(D.gx l a).2.2 5 hi
      |6,hi=>exact(D.gx l a).2.2 6 hi
      |n+7,hi=>exact(match n,hi with|0,hi=>hi)⟩ }
 refine D'.more (λ_ h=> .inl h) λl a=>a.imp id λhc=>⟨(D.oc.rI hc).2.1,λi hi=>?_,λb=>(D.gx l b).2.2 7 hc⟩
 match i,hi with
 |0,hi=>exact nomatch D.Bf (i:=0) (j:=7) hi hc (by decide) (by decide)
 |1,hi=>exact nomatch D.Bf (i:=1) (j:=7) hi hc (by decide) (by decide)
 |2,hi=>exact nomatch D.Bf (i:=2) (j:=7) hi hc (by decide) (by decide)
 |3,hi=>exact nomatch D.Bf (i:=3) (j:=7) hi hc (by decide) (by decide)
 |4,hi=>exact nomatch D.Bf (i:=4) (j:=7) hi hc (by decide) (by decide)
 |5,hi=>exact nomatch D.Bf (i:=5) (j:=7) hi hc (by decide) (by decide)
 |6,hi=>exact nomatch D.Bf (i:=6) (j:=7) hi hc (by decide) (by decide)
 |n+7,hi=>exact(match n,hi with|0,hi=>hi)
theorem Dw.zbv(D:Dw F G h lu hH je t R){p:Nat}{xs:List Nat}{a:V}(m:p<t.s.ef.length)(j:iG eN F h xs a) :
  ∃l d,hV 6 R.vv (.int .i64 p)=some (.ptr l (p*6))/\gh 1 (.ptr l (p*6+4)) a h=some (.val .undef d)/\h.next<=d.next/\Kp F G h d/\Dw F G d lu hH je {t with s:=setArgs t.s p xs} R:=by
 obtain ⟨l,d,_,n,o,r,hc⟩:=D.ov.store (i:=p) (k:=4) (y:={t.s.ef[p]with args:=xs}) m (by decide) j.one (λw ⟨x,q,_⟩=>by subst q;exact⟨a,rfl,j⟩);obtain⟨g,u,f⟩:=D.cell (i:=3) (by decide) hc;refine⟨l,d,n,o,hc.next,⟨hc.next,by grind⟩,?_⟩;have c:∀l,l<h.next->l<d.next:=λl b=>BF b hc.next;have em:(setArgs t.s p xs).ef=t.s.ef.set p {t.s.ef[p]with args:=xs}:=by
  unfold setArgs;show t.s.ef.modify p _=_;refine So λi=>?_;rw[List.getElem?_modify,List.getElem?_set];by_cases e:p=i
  ·grind
  ·simp[e]
 exact {
  fl:=λl b=>c l (D.fl l b)
  gu:=by rw[f 0 lu (by decide) (by decide) rfl];exact D.gu
  gk:=by rw[f 1 hH (by decide) (by decide) rfl];exact D.gk
  gb:=by rw[f 2 je (by decide) (by decide) rfl];exact D.gb
  nu:=⟨c _ D.nu.1,D.nu.2⟩
  nk:=⟨c _ D.nk.1,D.nk.2⟩
  nb:=⟨c _ D.nb.1,D.nb.2⟩
  ov:=by simp_all
  ob:=D.ob.fe g (λl b=>f 4 l (by decide) (by decide) b) hc.next
  os:=D.os.fe g (λl b=>f 5 l (by decide) (by decide) b) hc.next
  ok:=D.ok.fe g (λl b=>f 6 l (by decide) (by decide) b) hc.next
  oc:=D.oc.fe g (λl b=>f 7 l (by decide) (by decide) b) hc.next
  sp:=D.sp.fe g
  kc:=D.kc
  gx:=λl b=>⟨c l (D.gx l b).1,(D.gx l b).2⟩ }
end
