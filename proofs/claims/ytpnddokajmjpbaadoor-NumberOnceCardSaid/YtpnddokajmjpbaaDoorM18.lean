/- Parts. -/
import Derived.Test.YtpnddokajmjpbaaDoorM09
import Derived.Test.YtpnddokajmjpbaaDoorM13
namespace Go.Proofs.YtpnddokajmjpbaaDoor.Hx
open Go.Proofs.YtpnddokajmjpbaaDoor.Un
def eN:nQ Nat where
 sz:=1
 rel _ _ n cs:=cs=[.int .i64 n]
 len h:=by subst h;rfl
 one h:=by subst h;rfl
 fc _ h:=h
 mono _ h:=h
def ll (x:Vl)(w:V):List V:=[.int .i64 x.op,.int .i64 x.a,.int .i64 x.b,.int .i64 x.n,w,.int .i64 x.state]
def eV:nQ Vl where
 sz:=6
 rel F h x cs:=∃w,cs=ll x w/\ik eN F h x.args w
 len:=λ⟨_,h,_⟩=>by subst h;rfl
 one:=λ⟨_,h,hs⟩=>by subst h;simp only[ll,eJ,hs.one];rfl
 fc:=λa ⟨w,h,hs⟩=>⟨w,h,hs.fc a⟩
 mono:=λhb ⟨w,h,hs⟩=>⟨w,h,hs.mono hb⟩
def kM (x:Bk)(v n p:V):List V:=[v,.int .i64 x.fin,.int .i64 x.cond,n,p,.int .i64 x.state]
def eK:nQ Bk where
 sz:=6
 rel F h x cs:=∃v n p,cs=kM x v n p/\ik eN F h x.ee v/\ik eN F h x.next n/\ik eN F h x.fe p
 len:=λ⟨_,_,_,h,_⟩=>by subst h;rfl
 one:=λ⟨_,_,_,h,a,b,c⟩=>by subst h;simp only[kM,eJ,a.one,b.one,c.one];rfl
 fc:=λd ⟨v,n,p,h,a,b,c⟩=>⟨v,n,p,h,a.fc d,b.fc d,c.fc d⟩
 mono:=λhb ⟨v,n,p,h,a,b,c⟩=>⟨v,n,p,h,a.mono hb,b.mono hb,c.mono hb⟩
def Nr (x:Fm)(l s:V):List V:=[.int .i64 x.func,.int .i64 x.pc,l,s]
def eF:nQ Fm where
 sz:=4
 rel F h x cs:=∃l s,cs=Nr x l s/\ik eN F h x.locals l/\ik eN F h x.stack s
 len:=λ⟨_,_,h,_⟩=>by subst h;rfl
 one:=λ⟨_,_,h,a,b⟩=>by subst h;simp only[Nr,eJ,a.one,b.one];rfl
 fc:=λc ⟨l,s,h,a,b⟩=>⟨l,s,h,a.fc c,b.fc c⟩
 mono:=λhb ⟨l,s,h,a,b⟩=>⟨l,s,h,a.mono hb,b.mono hb⟩
def eT:nQ (List Fm):=eL eF
theorem wo (F:Nat->Prop)(h:Hp):∀(l:List Nat),oU eN F h (l.map λn=>V.int .i64 (n:Nat)) l
 |[]=>trivial
 |n::l=>⟨[.int .i64 n],_,rfl,rfl,wo F h l⟩
def Loc (v:V)(t:Nat):Prop:=match v with
 | .slice l _ _=>l=t
 |_=>False
@[simp] theorem za5 (t:Nat):Loc .ec t=False:=rfl
@[simp] theorem ZP (l o n t:Nat):Loc (.slice l o n) t=(l=t):=rfl
def jI {α:Type}(E:nQ α)(ty:Nat)(F:Nat->Prop)(h:Hp)(xs:List α)(v:V):Prop:=
 (v = .ec/\xs=[])\/∃t cs,v = .slice t 0 xs.length/\t<h.next/\¬F t/\h.get t=some (.cells ty E.sz true false cs)/\oU E F h cs xs/\fV cs=true
section
variable{α:Type}{E:nQ α}{ty:Nat}{F F':Nat->Prop}{h h':Hp}{xs:List α}{v:V}
theorem jI.nil:jI E ty F h [] .ec:= .inl ⟨rfl,rfl⟩
theorem jI.len (a:jI E ty F h xs v):fD v=some (.int .i64 xs.length):=by
 rcases a with⟨rfl,rfl⟩|⟨t,cs,rfl,_⟩ <;> rfl
theorem jI.one (a:jI E ty F h xs v):v.one=true:=by
 rcases a with⟨rfl,rfl⟩|⟨t,cs,rfl,_⟩ <;> rfl
noncomputable def Xd (h:Hp) (l:Nat):Option (Nat×Nat):=match h.get l with
 |some (.cells e sz _ _ _)=>some (e,sz)
 |_=>none
theorem Jk{l e sz:Nat}{a b:Bool}{cs:List V}(c:h.get l=some (.cells e sz a b cs)):Xd h l=some (e,sz):=by unfold Xd;rw[c]
theorem jI.sP (a:jI E ty F h xs v){t:Nat}(ht:Loc v t):Xd h t=some (ty,E.sz)/\t<h.next/\¬F t:=by
 rcases a with⟨rfl,_⟩|⟨t',cs,rfl,b,c,d,_⟩
 ·exact ht.elim
 ·obtain rfl:t' = t:=ht;exact⟨Jk d,b,c⟩
theorem jI.fc (a:jI E ty F h xs v)(b:∀l,F l->h'.get l=h.get l)(c:∀l,Loc v l->h'.get l=h.get l)(d:h.next<=h'.next):jI E ty F h' xs v:=by
 rcases a with a|⟨t,cs,rfl,e,f,g,i,j⟩
 ·exact .inl a
 ·exact .inr ⟨t,cs,rfl,Ac e d,f,by rw[c t rfl];exact g,i.fc b,j⟩
theorem jI.mono (a:jI E ty F h xs v)(b:∀l,F l->F' l)(c:∀t,Loc v t->¬F' t):jI E ty F' h xs v:=by
 rcases a with a|⟨t,cs,rfl,d,i,e,f,g⟩
 ·exact .inl a
 ·exact .inr ⟨t,cs,rfl,d,c t rfl,e,f.mono b,g⟩
theorem jI.VG (a:jI E ty F h xs v)(b:∀l,F l->F' l)(c:∀t,Loc v t->F' t):ik E F' h xs v:=by
 rcases a with a|⟨t,cs,rfl,f,g,d,e,i⟩
 ·exact .inl a
 ·exact .inr ⟨t,0,ty,true,false,cs,rfl,c t rfl,d,.inr rfl,Gl _,by simpa using e.mono b⟩
theorem jI.read (a:jI E ty F h xs v):ik E (λl=>F l\/Loc v l) h xs v:=a.VG (λ_ h=> .inl h) λ_ h=> .inr h
theorem jI.append {jr:Nat}{x:V}{new:List V}{ys:List α}(A:jI E ty F h xs v)(hx:jM h E.sz x=some (ys.length,new))(p:oU E F h new ys)(B:new.length=ys.length*E.sz)(g:fV new=true)(D:0<ys.length)(G:0<E.sz)
  (n:∀l,F l->l<h.next) (hb:(xs.length+ys.length)*jr<=70368744177664) (j:xs.length+ys.length<=70368744177664) :
  ∃q h',eR ty E.sz jr v x h=some (.val q h')/\jI E ty F h' (xs++ys) q/\jZ (Loc v) h h'/\(∀t,Loc q t->Loc v t\/t=h.next):=by
 have d:Nat.beq ys.length 0=false:=by
  cases hq:ys.length with
  |zero=>omega
  |succ k=>rfl
 rcases A with⟨rfl,rfl⟩|⟨t,cs,rfl,i,r,y,s,f⟩
 ·refine⟨.slice h.next 0 ys.length,h.new (.cells ty E.sz true false new),?_,.inr ⟨h.next,new,by simp,IS _,λb=>Pj _ (n _ b),fg _ _,?_,g⟩,jZ.new _ _,λt ht=> .inr ht.symm⟩
  ·unfold eR;simp only[hx,fh,d,g,kI];rw[jm _ (I8 (by simpa using hb)),jm _ (I8 (by simpa using j))]
  ·exact p.fc λl b=>fk _ (n l b)
 ·have C:=s.length;have z:(xs.length+ys.length)*E.sz=xs.length*E.sz+ys.length*E.sz:=JJ _ _ _
  cases hroom:Nat.ble (Nat.add 0 (Nat.mul (Nat.add xs.length ys.length) E.sz)) cs.length with
  | true=>
    have H:(xs.length+ys.length)*E.sz<=cs.length:=by
      have:=G9 hroom;show _<=_;rw[show Nat.add 0 (Nat.mul (Nat.add xs.length ys.length) E.sz)=(xs.length+ys.length)*E.sz from vI _]at this;exact this
    refine ⟨.slice t 0 (xs.length+ys.length),h.put t (.cells ty E.sz true false (cs.take (xs.length*E.sz)++new++cs.drop (xs.length*E.sz+new.length))),?_,
      .inr ⟨t,_,by simp,i,r,fP _ i,?_,?_⟩,jZ.put _ rfl i,λ_ h=> .inl h⟩
    ·unfold eR jq
     have u:pC (Nat.add 0 (Nat.mul xs.length E.sz)) cs new=some (cs.take (xs.length*E.sz)++new++cs.drop (xs.length*E.sz+new.length)):=by
       rw[show Nat.add 0 (Nat.mul xs.length E.sz)=xs.length*E.sz from vI _];exact yk (by rw[B];omega)
     simp only[hx,fh,d,g,kI,y,U0,hroom,u];rw[jm _ (MV _)];rfl
    ·refine oU.fc (h:=h) (λl b=>gf _ i λe=>r (e▸b)) ?_
     rw[Cy];exact s.take.append (by rw[FY];omega) p.more
    ·rw[mD,mD,g]
     have o:∀(l:List V),fV l=l.all V.one:=λl=>by
       induction l with
       |nil=>rfl
       |cons a l w=>rw[eJ,w];rfl
     rw[o]at f⊢;rw[o];rw[KQ]at f;simp only[Bool.and_true,tN,KQ]
     exact⟨λx hx=>f x (ZX hx),λx hx=>f x (List.mem_of_mem_drop hx)⟩
  | false=>
    have o:∀(l:List V),fV l=l.all V.one:=λl=>by
      induction l with
      |nil=>rfl
      |cons a l w=>rw[eJ,w];rfl
    have c:fV (cs.take (xs.length*E.sz))=true:=by
      rw[o]at f⊢;rw[KQ]at f⊢;exact λx hx=>f x (ZX hx)
    refine ⟨.slice h.next 0 (xs.length+ys.length),(h.put t (.cells ty E.sz false false cs)).new (.cells ty E.sz true false (cs.take (xs.length*E.sz)++new)),?_,
      .inr ⟨h.next,_,by simp,IS _,λb=>Pj _ (n _ b),fg (h.put t _) _,?_,by rw[mD,c,g];rfl⟩,
      (jZ.put (S:=Loc (.slice t 0 xs.length)) (.cells ty E.sz false false cs) rfl i).trans (jZ.new _ _),λ_ h=> .inr h.symm⟩
    ·unfold eR jq
     have m:sub cs 0 (Nat.mul xs.length E.sz)=some (cs.take (xs.length*E.sz)):=by
       show sub cs 0 (xs.length*E.sz)=_;rw[AE (show 0+xs.length*E.sz<=cs.length by omega),Ss]
     simp only[hx,fh,d,g,kI,y,U0,hroom,m,c];rw[jm _ (MV _),jm _ (show Nat.ble (Nat.mul (Nat.add xs.length ys.length) jr) 70368744177664=true from I8 hb),jm _ (show Nat.ble (Nat.add xs.length ys.length) 70368744177664=true from I8 j)];rfl
    ·refine oU.fc (h:=h) (λl b=>?_) ?_
     ·rw[fk _ (show l<(h.put t _).next from n l b),gf _ i λe=>r (e▸b)]
     ·exact s.take.append (by rw[FY];omega) p
theorem jI.cut (d:jI E ty F h xs v){n:Nat}(a:n<=xs.length):∃b,iJ E.sz v none (some (.int .i64 n)) h=some b/\jI E ty F h (xs.take n) b/\∀t,Loc b t->Loc v t:=by
 rcases d with⟨rfl,rfl⟩|⟨t,cs,rfl,e,f,c,g,i⟩
 ·obtain rfl:n=0:=by simpa using a
  exact⟨.ec,rfl,.inl ⟨rfl,rfl⟩,λ_ h=>h⟩
 ·refine⟨.slice t 0 n,?_,.inr ⟨t,cs,by rw[FY,ZF a],e,f,c,g.taken n,i⟩,λ_ h=>h⟩;unfold iJ jq;simp only[c,fh,CU,Eg];rw[jm _ (MV _),jm _ (I8 (Gl _)),jm _ (by rw[I8 a];rfl)];simp
theorem jI.store (n:jI E ty F h xs v){i k:Nat}{y:α}{u:V}(hi:i<xs.length)(B:k<E.sz)(f:u.one=true)(o:∀w,E.rel F h xs[i] w->E.rel F h y (w.set k u)) :
  ∃t h',Loc v t/\gD E.sz v (.int .i64 i)=some (.ptr t (i*E.sz))/\gB 1 (.ptr t (i*E.sz+k)) u h=some (.val .undef h')/\jI E ty F h' (xs.set i y) v/\jZ (Loc v) h h':=by
 rcases n with⟨rfl,rfl⟩|⟨t,cs,rfl,c,g,p,j,d⟩
 ·simp at hi
 ·obtain ⟨w,q,C,m⟩:=j.get (i:=i) (x:=xs[i]) (gQ hi);have b:cs.set (i*E.sz+k) u=cs.take (i*E.sz)++w.set k u++cs.drop (i*E.sz+E.sz):=by
   have e0:cs=cs.take (i*E.sz)++(w++cs.drop (i*E.sz+E.sz)):=by
    rw[<-q]
    conv=>lhs;rw[<-VM (i*E.sz) cs]
    congr 1;rw[<-V7,VM]
   have D:=E.len m
   conv=>lhs;rw[e0]
   rw[List.set_append_right _ _ (by rw[FY];omega),FY,ZF (by omega),wCF,List.set_append_left _ _ (by omega),Cy]
  refine⟨t,h.put t (.cells ty E.sz true false (cs.set (i*E.sz+k) u)),rfl,by rw[vL _ _ _ _ _ _ hi,vI],Ku p (by omega) f,.inr ⟨t,_,by simp,c,g,fP _ c,?_,?_⟩,jZ.put _ rfl c⟩
  ·refine oU.fc (h:=h) (λl r=>gf _ c λe=>g (e▸r)) ?_;rw[b];exact j.set hi (o w m)
  ·have s:∀(l:List V),fV l=l.all V.one:=λl=>by
    induction l with
    |nil=>rfl
    |cons a l z=>rw[eJ,z];rfl
   rw[s]at d⊢;rw[KQ]at d⊢;intro x hx;rcases List.mem_or_eq_of_mem_set hx with A|rfl
   ·exact d x A
   ·exact f
end
abbrev en:Nat:=3
abbrev jf:Nat:=4
abbrev hZ:Nat:=23
abbrev gj:Nat:=30
abbrev gy:Nat:=42
abbrev fE:Nat:=44
abbrev kQ:Nat:=38
abbrev Jc:Nat:=40
abbrev N0:Nat:=25
abbrev ur:Nat:=144
abbrev I1:Nat:=34
open Go.Proofs.YtpnddokajmjpbaaDoor.Un
structure Pc where
 j5:Nat->Prop
 ok:(Nat->Prop)->Hp->Prop
 IP:∀{F:Nat->Prop} {h:Hp},ok F h->∀l,j5 l->l<h.next/\¬F l
 fc:∀{F:Nat->Prop} {h h':Hp},ok F h->(∀l,F l->h'.get l=h.get l)->(∀l,j5 l->h'.get l=h.get l)->h.next<=h'.next->ok F h'
 mono:∀{F F':Nat->Prop} {h:Hp},ok F h->(∀l,F l->F' l)->(∀l,j5 l->¬F' l)->ok F' h
def emp:Pc:=⟨λ_=>False,λ_ _=>True,λ_ _ h=>h.elim,λ_ _ _ _=>trivial,λ_ _ _=>trivial⟩
def eo (l ty:Nat)(vs:List V):Pc where
 j5:=λm=>m=l
 ok F h:=h.get l=some (.cells ty 1 true false vs)/\l<h.next/\¬F l
 IP:=λh _ e=>by subst e;exact h.2
 fc:=λh _ a b=>⟨(a l rfl).trans h.1,Ac h.2.1 b,h.2.2⟩
 mono:=λh _ a=>⟨h.1,h.2.1,a l rfl⟩
def eQ {α:Type}(E:nQ α)(ty:Nat)(xs:List α)(v:V):Pc where
 j5:=Loc v
 ok F h:=jI E ty F h xs v
 IP:=λh _ a=>(h.sP a).2
 fc:=λh b a c=>jI.fc h b a c
 mono:=λh b a=>jI.mono h b a
def Yn {α:Type}(E:nQ α)(xs:List α)(v:V):Pc where
 j5:=λ_=>False
 ok F h:=ik E F h xs v
 IP:=λ_ _ h=>h.elim
 fc:=λh a _ _=>ik.fc a h
 mono:=λh a _=>ik.mono a h
def zaM {α:Type}(E:nQ α)(x:α)(w:List V):Pc where
 j5:=λ_=>False
 ok F h:=E.rel F h x w
 IP:=λ_ _ h=>h.elim
 fc:=λh a _ _=>E.fc a h
 mono:=λh a _=>E.mono a h
def zbm (S:Nat->Prop)(h0:Hp):Pc where
 j5:=S
 ok F h:=∀l,S l->h.get l=h0.get l/\l<h.next/\¬F l
 IP:=λh l a=>(h l a).2
 fc:=λh _ a b l hs=>⟨(a l hs).trans (h l hs).1,Ac (h l hs).2.1 b,(h l hs).2.2⟩
 mono:=λh _ a l hs=>⟨(h l hs).1,(h l hs).2.1,a l hs⟩
structure Sn (F:Nat->Prop) (h:Hp) (F':Nat->Prop) (h':Hp):Prop where
 next:h.next<=h'.next
 fc:∀l,F l->h'.get l=h.get l
 mono:∀l,F l->F' l
theorem Sn.refl (F:Nat->Prop)(h:Hp):Sn F h F h:=⟨iW _,λ_ _=>rfl,λ_ h=>h⟩
theorem Sn.trans {F F' c:Nat->Prop} {h h' d:Hp}(a:Sn F h F' h')(b:Sn F' h' c d):Sn F h c d:=
 ⟨Ez a.next b.next,λl e=>(b.fc l (a.mono l e)).trans (a.fc l e),λl e=>b.mono l (a.mono l e)⟩
structure ei (F:Nat->Prop) (h:Hp) (cs:List Pc):Prop where
 fl:∀l,F l->l<h.next
 ok:∀(i:Nat) (c:Pc),cs[i]? =some c->c.ok F h
 Bs:∀(i j:Nat) (c d:Pc),cs[i]? =some c->cs[j]? =some d->i≠j->∀l,c.j5 l->¬d.j5 l
section
variable{F F':Nat->Prop}{h h':Hp}{cs:List Pc}{i j:Nat}{c d p:Pc}
theorem wT {cs:List Pc}{i:Nat}{p:Pc}{j:Nat}{d:Pc}(a:(cs.set i p)[j]? =some d):(j=i/\d=p)\/(j≠i/\cs[j]? =some d):=by
 by_cases e:i=j
 ·subst e;have b:i<cs.length:=by
   have:=(iB.1 a).1;simpa using this
  rw[Ct b]at a;exact .inl ⟨rfl,(Option.some.inj a).symm⟩
 ·rw[AR e]at a;exact .inr ⟨λc=>e c.symm,a⟩
theorem ei.nil (a:∀l,F l->l<h.next):ei F h []:=⟨a,λ_ _ h=>by simp at h,λ_ _ _ _ h=>by simp at h⟩
theorem ei.cons (H:ei F h cs)(m:p.ok F h)(g:∀(i:Nat) c,cs[i]? =some c->∀l,p.j5 l->¬c.j5 l):ei F h (p::cs) where
 fl:=H.fl
 ok:=λi c hc=>by
  cases i with
  |zero=>cases hc;exact m
  |succ i=>exact H.ok i c hc
 Bs:=λi j c d hc b k l f a=>by
  cases i with
  | zero=>
    cases hc
    cases j with
    |zero=>exact k rfl
    |succ j=>exact g j d b l f a
  | succ i=>
    cases j with
    |zero=>cases b;exact g i c hc l a f
    |succ j=>exact H.Bs i j c d hc b (λe=>k (by rw[e])) l f a
theorem ei.tail (H:ei F h (p::cs)):ei F h cs where
 fl:=H.fl
 ok:=λi c hc=>H.ok (i+1) c hc
 Bs:=λi j c d hc a b=>H.Bs (i+1) (j+1) c d hc a (λe=>b (by omega))
theorem ei.add (H:ei F h cs)(a:p.ok F h)(b:∀l,¬p.j5 l):ei F h (p::cs):=H.cons a λ_ _ _ l c=>(b l c).elim
theorem ei.read (H:ei F h cs){α:Type}{E:nQ α}{xs:List α}{v:V}(hs:ik E F h xs v):ei F h (Yn E xs v::cs):=H.add hs λ_ h=>h
theorem ei.val (H:ei F h cs){α:Type}{E:nQ α}{x:α}{w:List V}(hs:E.rel F h x w):ei F h (zaM E x w::cs):=H.add hs λ_ h=>h
theorem ei.swap (H:ei F h cs)(hi:cs[i]? =some c)(s:p.ok F h)(q:∀l,p.j5 l->c.j5 l):ei F h (cs.set i p) where
 fl:=H.fl
 ok:=λj d t=>by
  rcases wT t with⟨_,rfl⟩|⟨_,f⟩
  ·exact s
  ·exact H.ok j d f
 Bs:=λj k a b u hb g l m e=>by
  rcases wT u with⟨n,rfl⟩|⟨n,r⟩
  ·rcases wT hb with⟨o,_⟩|⟨_,f⟩
   ·exact g (n.trans o.symm)
   ·subst n;exact H.Bs j k c b hi f g l (q l m) e
  ·rcases wT hb with⟨o,rfl⟩|⟨_,f⟩
   ·subst o;exact H.Bs j k a c r hi g l m (q l e)
   ·exact H.Bs j k a b r f g l m e
theorem ei.forget (H:ei F h cs)(hi:cs[i]? =some c):ei F h (cs.set i emp):=H.swap hi trivial λ_ h=>h.elim
theorem ei.Zb (H:ei F h cs)(hi:cs[i]? =some c)(hc:jZ c.j5 h h')(u:∀l,F l->F' l)(o:∀l,F' l->F l\/c.j5 l\/(h.next<=l/\l<h'.next))(x:p.ok F' h')(y:∀l,p.j5 l->c.j5 l\/h.next<=l):ei F' h' (cs.set i p)/\Sn F h F' h':=by
 have q:=H.ok i c hi;have v:∀l,F l->h'.get l=h.get l:=λl e=>hc.fc l (H.fl l e) λhs=>(c.IP q l hs).2 e;have other:∀(j:Nat) (d:Pc),j≠i->cs[j]? =some d->d.ok F' h'/\∀l,d.j5 l->¬p.j5 l:=λj d z r=>by
  have m:=H.ok j d r;have n:∀l,d.j5 l->¬c.j5 l:=H.Bs j i d c r hi z;refine⟨d.mono (d.fc m v (λl e=>hc.fc l (d.IP m l e).1 (n l e)) hc.next) u λl e f=>?_,λl e f=>?_⟩
  ·rcases o l f with g|g|g
   ·exact(d.IP m l e).2 g
   ·exact n l e g
   ·have:=(d.IP m l e).1;omega
  ·rcases y l f with g|g
   ·exact n l e g
   ·have:=(d.IP m l e).1;omega
 refine⟨⟨λl e=>?_,λj d r=>?_,λj k a b A hb w l e f=>?_⟩,⟨hc.next,v,u⟩⟩
 ·rcases o l e with g|g|g
  ·exact Ac (H.fl l g) hc.next
  ·exact Ac (c.IP q l g).1 hc.next
  ·exact g.2
 ·rcases wT r with⟨_,rfl⟩|⟨m,n⟩
  ·exact x
  ·exact(other j d m n).1
 ·rcases wT A with⟨t,rfl⟩|⟨t,m⟩
  ·rcases wT hb with⟨s,_⟩|⟨s,n⟩
   ·exact w (t.trans s.symm)
   ·exact(other k b s n).2 l f e
  ·rcases wT hb with⟨s,rfl⟩|⟨_,n⟩
   ·exact(other j a t m).2 l e f
   ·exact H.Bs j k a b m n w l e f
theorem ei.Ad (H:ei F h cs)(hi:cs[i]? =some c)(hc:jZ c.j5 h h')(a:p.ok F h')(b:∀l,p.j5 l->c.j5 l\/h.next<=l):ei F h' (cs.set i p)/\Sn F h F h':=
 H.Zb hi hc (λ_ h=>h) (λ_ h=> .inl h) a b
theorem ei.grow (H:ei F h cs)(a:Cq h h'):ei F h' cs/\Sn F h F h':=by
 have c:∀l,F l->h'.get l=h.get l:=λl b=>a.fc l (H.fl l b) id;exact⟨⟨λl b=>Ac (H.fl l b) a.next,λj d e=>d.fc (H.ok j d e) c (λl b=>a.fc l (d.IP (H.ok j d e) l b).1 id) a.next,H.Bs⟩,⟨a.next,c,λ_ h=>h⟩⟩
theorem ei.new (H:ei F h cs)(o:O)(b:p.ok F (h.new o))(c:∀l,p.j5 l->l=h.next):ei F (h.new o) (p::cs)/\Sn F h F (h.new o):=by
 obtain⟨e,f⟩:=H.grow (jZ.new h o);refine⟨e.cons b λj d g l i a=>?_,f⟩;have:=(d.IP (H.ok j d g) l a).1;have:=c l i;omega
theorem ei.fresh (H:ei F h cs):¬F h.next:=λa=>Pj _ (H.fl _ a)
theorem ei.yP (H:ei F h cs)(ty:Nat)(vs:List V):ei F (h.new (.cells ty 1 true false vs)) (eo h.next ty vs::cs)/\Sn F h F (h.new (.cells ty 1 true false vs)):=
 H.new _ ⟨fg _ _,IS _,H.fresh⟩ λ_ e=>e
theorem ei.SE (H:ei F h cs){α:Type}{E:nQ α}(ty:Nat){xs:List α}{ws:List V}{n:Nat}(a:n=xs.length)(b:oU E F h ws xs)(c:fV ws=true) :
  ei F (h.new (.cells ty E.sz true false ws)) (eQ E ty xs (.slice h.next 0 n)::cs)/\Sn F h F (h.new (.cells ty E.sz true false ws)):=by
 subst a;exact H.new _ (.inr ⟨h.next,ws,rfl,IS _,H.fresh,fg _ _,b.fc λl d=>fk _ (H.fl l d),c⟩) λ_ e=>e.symm
theorem ei.Wz (H:ei F h cs){α:Type}{E:nQ α}(ty:Nat){xs:List α}{ws:List V}{n:Nat}(i:n=xs.length)(k:oU E F h ws xs)(ro:Bool) :
  ei (λl=>F l\/l=h.next) (h.new (.cells ty E.sz true ro ws)) cs/\Sn F h (λl=>F l\/l=h.next) (h.new (.cells ty E.sz true ro ws))/\ik E (λl=>F l\/l=h.next) (h.new (.cells ty E.sz true ro ws)) xs (.slice h.next 0 n):=by
 subst i;obtain⟨b,e⟩:=H.grow (jZ.new h (.cells ty E.sz true ro ws));refine⟨⟨λl a=>?_,λj d f=>d.mono (b.ok j d f) (λ_ h=> .inl h) λl a c=>?_,b.Bs⟩,⟨e.next,e.fc,λ_ h=> .inl h⟩,?_⟩
 ·rcases a with a|rfl
  ·exact b.fl l a
  ·exact IS _
 ·have g:=d.IP (H.ok j d f) l a;rcases c with m|rfl
  ·exact g.2 m
  ·exact Pj _ g.1
 ·exact .inr ⟨h.next,0,ty,true,ro,ws,rfl,.inr rfl,fg _ _,.inr rfl,Gl _,by rw[Ss];exact(k.fc λl a=>fk _ (H.fl l a)).mono λ_ h=> .inl h⟩
theorem ei.get (H:ei F h cs)(i:Nat){l ty:Nat}{vs:List V}(hi:cs[i]? =some (eo l ty vs)):h.get l=some (.cells ty 1 true false vs):=(H.ok i _ hi).1
theorem ei.ld (H:ei F h cs)(i:Nat){l ty o:Nat}{vs:List V}{u:V}(hi:cs[i]? =some (eo l ty vs))(a:vs[o]? =some u):ev (.ptr l o) h=some u:=jR (H.get i hi) a
theorem ei.wH (H:ei F h cs)(i:Nat){l ty n:Nat}{vs:List V}(hi:cs[i]? =some (eo l ty vs))(a:vs.length=n):gg n (.ptr l 0) h=some (.agg vs):=Bg (H.get i hi) a
theorem ei.st (H:ei F h cs)(i:Nat){l ty o:Nat}{vs:List V}{u:V}(hi:cs[i]? =some (eo l ty vs))(b:o<vs.length)(c:u.one=true) :
  ∃h',gB 1 (.ptr l o) u h=some (.val .undef h')/\h.next<=h'.next/\ei F h' (cs.set i (eo l ty (vs.set o u)))/\Sn F h F h':=by
 have a:=H.ok i _ hi;refine⟨_,Ku a.1 b c,iW _,H.Ad hi (jZ.put _ rfl a.2.1) ⟨fP _ a.2.1,a.2.1,a.2.2⟩ λ_ h=> .inl h⟩
theorem ei.stk (H:ei F h cs)(i:Nat){l ty o:Nat}{vs:List V}{u:V}(hi:cs[i]? =some (eo l ty vs))(b:o<vs.length)(c:u.one=true) :
  ∃h',gB 1 (.ptr l o) u h=some (.val .undef h')/\h.next<=h'.next/\ei F h' (cs.set i (eo l ty (vs.set o u)))/\Sn F h F h'/\∀m,m≠l->h'.get m=h.get m:=by
 have a:=H.ok i _ hi;obtain⟨d,f⟩:=H.Ad (p:=eo l ty (vs.set o u)) (h':=h.put l (.cells ty 1 true false (vs.set o u))) hi (jZ.put _ rfl a.2.1) ⟨fP _ a.2.1,a.2.1,a.2.2⟩ λ_ h=> .inl h;exact⟨_,Ku a.1 b c,iW _,d,f,λm g=>gf _ a.2.1 λe=>g e.symm⟩
theorem ei.VI (H:ei F h cs)(i:Nat){l ty n:Nat}{vs ws:List V}(hi:cs[i]? =some (eo l ty vs))(b:ws.length=n)(hv:vs.length=n)(c:fV ws=true) :
  ∃h',gB n (.ptr l 0) (.agg ws) h=some (.val .undef h')/\h.next<=h'.next/\ei F h' (cs.set i (eo l ty ws))/\Sn F h F h':=by
 have a:=H.ok i _ hi;refine⟨_,D0 a.1 b hv c,iW _,H.Ad hi (jZ.put _ rfl a.2.1) ⟨fP _ a.2.1,a.2.1,a.2.2⟩ λ_ h=> .inl h⟩
section
variable{α:Type}{E:nQ α}{ty:Nat}{xs:List α}{v:V}
theorem ei.row (H:ei F h cs)(i:Nat)(hi:cs[i]? =some (eQ E ty xs v)):jI E ty F h xs v:=H.ok i _ hi
theorem ei.len (H:ei F h cs)(i:Nat)(hi:cs[i]? =some (eQ E ty xs v)):fD v=some (.int .i64 xs.length):=(H.row i hi).len
theorem ei.one (H:ei F h cs)(i:Nat)(hi:cs[i]? =some (eQ E ty xs v)):v.one=true:=(H.row i hi).one
theorem ei.ix (H:ei F h cs)(i:Nat)(hi:cs[i]? =some (eQ E ty xs v)){k:Nat}(a:k<xs.length)(kd:IntKind) :
  ∃l o w,gD E.sz v (.int kd k)=some (.ptr l o)/\gg E.sz (.ptr l o) h=some (.agg w)/\E.rel (λl=>F l\/Loc v l) h xs[k] w/\∀j u,w[j]? =some u->ev (.ptr l (o+j)) h=some u:=by
 obtain⟨l,o,w,_,b,c,d,e⟩:=(H.row i hi).read.ix a kd;exact⟨l,o,w,b,c,d,e⟩
theorem ei.Ts (H:ei F h cs)(i:Nat)(hi:cs[i]? =some (eQ E ty xs v)){k:Nat}(a:k<xs.length)(kd:IntKind)(b:E.sz=1) :
  ∃l o u,gD 1 v (.int kd k)=some (.ptr l o)/\ev (.ptr l o) h=some u/\E.rel (λl=>F l\/Loc v l) h xs[k] [u]:=by
 obtain⟨l,o,u,_,c,d,e⟩:=(H.row i hi).read.Ts a kd b;exact⟨l,o,u,c,d,e⟩
theorem ei.G7 (H:ei F h cs)(i:Nat)(hi:cs[i]? =some (eQ E ty xs v)){k:Nat}(f:k<xs.length)(a:E.sz=1){y:α}{u:V}(g:u.one=true)(j:E.rel F h y [u]) :
  ∃l o h',gD 1 v (.int .i64 k)=some (.ptr l o)/\gB 1 (.ptr l o) u h=some (.val .undef h')/\h.next<=h'.next/\ei F h' (cs.set i (eQ E ty (xs.set k y) v))/\Sn F h F h':=by
 obtain ⟨t,h',p,b,c,m,d⟩:=(H.row i hi).store (k:=0) (y:=y) (u:=u) f (by omega) g (λw n=>by
  have e:=E.len n;rw[a]at e
  match w,e with
  |[x],_=>exact j)
 rw[a]at b c;exact⟨t,k*1,h',b,c,d.next,H.Ad hi d m λ_ h=> .inl h⟩
end
end
open Go.Proofs.YtpnddokajmjpbaaDoor.Un
section
variable{F F':Nat->Prop}{h h':Hp}{cs:List Pc}{α:Type}{E:nQ α}{ty:Nat}{xs ys:List α}{v x:V}
theorem oU.one:∀{xs:List α}{ws:List V},oU E F h ws xs->ws.length=xs.length*E.sz->fV ws=true
 | [],ws,_,hl=>by
   have:ws=[]:=Rf (by simpa using hl)
   subst this;rfl
 | y::xs,ws,⟨w,r,b,a,c⟩,hl=>by
   subst b;have d:=E.len a;rw[mD,E.one a,oU.one c (by simp only[zL,CM,JJ,Xr]at hl;omega)];rfl
theorem oU.rep {y:α}{u:V}(a:E.rel F h y [u]):∀n,oU E F h (List.replicate n u) (List.replicate n y)
 |0=>trivial
 |n+1=>⟨[u],_,rfl,a,oU.rep a n⟩
theorem Kq {u:V}(a:u.one=true):∀n,fV (List.replicate n u)=true
 |0=>rfl
 |n+1=>by rw[List.replicate_succ,eJ,a,Kq a n];rfl
theorem B5 {l off n zF sz:Nat}{ro:Bool}{ds:List V}(a:h.get l=some (.cells zF sz true ro ds))(b:off+n*sz<=ds.length):∃new,jM h sz (.slice l off n)=some (n,new)/\new=(ds.drop off).take (n*sz):=by
 cases n with
 |zero=>exact⟨_,rfl,by simp⟩
 | succ n=>
   refine⟨_,?_,rfl⟩;unfold jM Ey jq;have:sub ds off (Nat.mul (Nat.succ n) sz)=some ((ds.drop off).take ((n+1)*sz)):=AE b;simp only[a,fh,kI,this]
theorem ik.xc (hs:ik E F h ys x):∃new,jM h E.sz x=some (ys.length,new)/\oU E F h new ys/\new.length=ys.length*E.sz:=by
 rcases hs with⟨rfl,rfl⟩|⟨l,off,zF,live,ro,ds,rfl,g,c,d,i,a⟩
 ·exact⟨[],rfl,trivial,by simp⟩
 ·have e:=a.length;rw[YD]at e;rcases d with rfl|rfl
  ·exact⟨[],rfl,trivial,by simp⟩
  ·obtain⟨new,f,b⟩:=B5 (n:=ys.length) (off:=off) (sz:=E.sz) c (by omega);exact⟨new,f,by rw[b];exact a.take,by rw[b,FY,YD];omega⟩
theorem jI.xc (hs:jI E ty F h ys x):∃new,jM h E.sz x=some (ys.length,new)/\oU E F h new ys/\new.length=ys.length*E.sz:=by
 rcases hs with⟨rfl,rfl⟩|⟨t,ds,rfl,e,f,c,a,g⟩
 ·exact⟨[],rfl,trivial,by simp⟩
 ·have i:=a.length;obtain⟨new,d,b⟩:=B5 (n:=ys.length) (off:=0) (sz:=E.sz) c (by omega);refine⟨new,d,by rw[b,Ss];exact a.take,by rw[b,FY,YD];omega⟩
theorem DA{e sz:Nat}{z:V}:iZ e sz 0 z []=some (.cells e sz true false [],λl=> .slice l 0 0):=rfl
theorem ei.app (H:ei F h cs)(i:Nat)(hi:cs[i]? =some (eQ E ty xs v)){jr:Nat}{new:List V}(hx:jM h E.sz x=some (ys.length,new))(d:oU E F h new ys)(b:new.length=ys.length*E.sz)
  (g:0<E.sz) (hb:jr<=1000) (c:xs.length+ys.length<=10000000) :
  ∃a h',eR ty E.sz jr v x h=some (.val a h')/\h.next<=h'.next/\ei F h' (cs.set i (eQ E ty (xs++ys) a))/\Sn F h F h':=by
 have hO:=H.row i hi;by_cases hk:0<ys.length
 ·have j:(xs.length+ys.length)*jr<=10000000*1000:=Nat.mul_le_mul c hb;obtain⟨a,h',k,m,f,l1⟩:=hO.append (jr:=jr) hx d b (d.one b) hk g H.fl (by omega) (by omega);obtain⟨n,o⟩:=H.Ad (p:=eQ E ty (xs++ys) a) hi f m λl b=>(l1 l b).imp id λe=>by omega
  exact⟨a,h',k,f.next,n,o⟩
 ·have e0:ys=[]:=Rf (by omega);subst e0;refine⟨v,h,?_,iW _,by rw[Co];exact H.swap hi hO λ_ h=>h,Sn.refl _ _⟩;unfold eR;rw[hx];rcases hO with⟨rfl,_⟩|⟨t,ds,rfl,_⟩ <;> rfl
theorem ei.J8 (H:ei F h cs)(i:Nat)(hi:cs[i]? =some (eQ E ty xs v)){jr:Nat}(hs:ik E F h ys x)(c:0<E.sz)(hb:jr<=1000)(a:xs.length+ys.length<=10000000) :
  ∃b h',eR ty E.sz jr v x h=some (.val b h')/\h.next<=h'.next/\ei F h' (cs.set i (eQ E ty (xs++ys) b))/\Sn F h F h':=by
 obtain⟨new,d,e,f⟩:=hs.xc;exact H.app i hi d e f c hb a
theorem ei.Zy (H:ei F h cs)(i j:Nat)(hi:cs[i]? =some (eQ E ty xs v)){c:Nat}(d:cs[j]? =some (eQ E c ys x)){jr:Nat}(e:0<E.sz)(hb:jr<=1000)(a:xs.length+ys.length<=10000000) :
  ∃b h',eR ty E.sz jr v x h=some (.val b h')/\h.next<=h'.next/\ei F h' (cs.set i (eQ E ty (xs++ys) b))/\Sn F h F h':=by
 obtain⟨new,f,g,k⟩:=(H.row j d).xc;exact H.app i hi f g k e hb a
theorem ei.vF (H:ei F h cs)(i:Nat)(hi:cs[i]? =some (eQ E ty xs v)){jr zF:Nat}{y:α}{w:List V}{ro:Bool}(b:E.rel F h y w)(c:0<E.sz)(hb:jr<=1000)(d:xs.length<1000000) :
  ∃a h',eR ty E.sz jr v (.slice h.next 0 1) (h.new (.cells zF E.sz true ro w))=some (.val a h')/\h.next+1<=h'.next/\ei F h' (cs.set i (eQ E ty (xs++[y]) a))/\Sn F h F h':=by
 obtain⟨e,f⟩:=H.grow (jZ.new h (.cells zF E.sz true ro w));have hx:jM (h.new (.cells zF E.sz true ro w)) E.sz (.slice h.next 0 1)=some (1,w):=lP (k:=0) (by rw[E.len b];simp);obtain⟨a,h',g,j,m,n⟩:=e.app (ys:=[y]) i hi hx ⟨w,[],by simp,E.fc (λl o=>fk _ (H.fl l o)) b,trivial⟩ (by rw[E.len b];simp) c hb (by simp;omega);exact⟨a,h',g,j,m,f.trans n⟩
theorem ei.YQ (H:ei F h cs)(i:Nat)(hi:cs[i]? =some (eQ E ty xs v)){n:Nat}(b:n<=xs.length) :
  ∃a,iJ E.sz v none (some (.int .i64 n)) h=some a/\ei F h (cs.set i (eQ E ty (xs.take n) a)):=by
 obtain⟨a,c,d,e⟩:=(H.row i hi).cut b;exact⟨a,c,H.swap hi d e⟩
theorem ei.kE (H:ei F h cs)(i:Nat)(hi:cs[i]? =some (eQ E ty xs v)):ei (λl=>F l\/Loc v l) h (cs.set i emp)/\Sn F h (λl=>F l\/Loc v l) h/\ik E (λl=>F l\/Loc v l) h xs v:=by
 obtain⟨a,b⟩:=H.Zb (p:=emp) (F':=λl=>F l\/Loc v l) hi (jZ.refl _ _) (λ_ h=> .inl h) (λ_ h=>h.imp id .inl) trivial λ_ h=>h.elim;exact⟨a,b,(H.row i hi).read⟩
theorem ei.make (H:ei F h cs){y:α}{u:V}(n:Nat)(a:E.rel F h y [u])(c:E.sz=1):ei F (h.new (.cells ty 1 true false (List.replicate n u))) (eQ E ty (List.replicate n y) (.slice h.next 0 n)::cs)/\Sn F h F (h.new (.cells ty 1 true false (List.replicate n u))):=by
 have b:=E.one a;rw[eJ,tN]at b;have:=H.SE (E:=E) ty (n:=n) (by simp) (oU.rep a n) (Kq b.1 n)
 rwa [c]at this
theorem jk {e jr n:Nat}{z:V}(a:z.one=true)(hb:jr<=100)(b:n<=1000000) :
  gR e 1 jr z (.int .i64 (n:Int)) (.int .i64 (n:Int))=some (O.cells e 1 true false (List.replicate n z),λl=>V.slice l 0 n):=by
 have:n*jr<=1000000*100:=Nat.mul_le_mul b hb;rw[Lp (by omega) (by omega),Lw a,U4]
theorem jj {l o:Nat}{u:V}(a:ev (.ptr l o) h=some u)(b:h'.get l=h.get l):ev (.ptr l o) h' = some u:=by
 rw[<-a];unfold ev ZR jq;simp only[vT,b]
theorem HT {l o n:Nat}{u:V}(a:gg n (.ptr l o) h=some u)(b:h'.get l=h.get l):gg n (.ptr l o) h' = some u:=by
 rw[<-a];unfold gg Ey jq;simp only[vT,b]
end
open Go.Proofs.YtpnddokajmjpbaaDoor.Un
def fJ {ι:Type}(ty:Nat)(f:ι->Option (List Nat×V)):Pc where
 j5:=λl=>∃i xs v,f i=some (xs,v)/\Loc v l
 ok F h:=(∀i xs v,f i=some (xs,v)->jI eN ty F h xs v)/\∀i j xs v ys w,f i=some (xs,v)->f j=some (ys,w)->i≠j->∀l,Loc v l->¬Loc w l
 IP:=λh l ⟨i,xs,v,a,b⟩=>((h.1 i xs v a).sP b).2
 fc:=λh c b d=>⟨λi xs v a=>(h.1 i xs v a).fc c (λl hv=>b l ⟨i,xs,v,a,hv⟩) d,h.2⟩
 mono:=λh c b=>⟨λi xs v a=>(h.1 i xs v a).mono c λl hv=>b l ⟨i,xs,v,a,hv⟩,h.2⟩
def up{ι α:Type}[DecidableEq ι] (f:ι->Option α)(i:ι)(x:Option α):ι->Option α:=λj=>if j=i then x else f j
@[simp] theorem im {ι α:Type} [DecidableEq ι] (f:ι->Option α) (i:ι) (x:Option α):up f i x i=x:=if_pos rfl
theorem iz{ι α:Type}[DecidableEq ι] (f:ι->Option α){i j:ι}(x:Option α)(h:j≠i):up f i x j=f j:=if_neg h
section
variable{F:Nat->Prop}{h:Hp}{cs:List Pc}{p q:Pc}
theorem ei.sw (H:ei F h (p::q::cs)):ei F h (q::p::cs) where
 fl:=H.fl
 ok:=λi c hc=>by
  match i,hc with
  |0,hc=>exact H.ok 1 c hc
  |1,hc=>exact H.ok 0 c hc
  |i+2,hc=>exact H.ok (i+2) c hc
 Bs:=λi j c d hc a b=>by
  match i,j,hc,a with
  |0,0,_,_=>exact absurd rfl b
  |0,1,hc,a=>exact H.Bs 1 0 c d hc a (by omega)
  |0,j+2,hc,a=>exact H.Bs 1 (j+2) c d hc a (by omega)
  |1,0,hc,a=>exact H.Bs 0 1 c d hc a (by omega)
  |1,1,_,_=>exact absurd rfl b
  |1,j+2,hc,a=>exact H.Bs 0 (j+2) c d hc a (by omega)
  |i+2,0,hc,a=>exact H.Bs (i+2) 1 c d hc a (by omega)
  |i+2,1,hc,a=>exact H.Bs (i+2) 0 c d hc a (by omega)
  |i+2,j+2,hc,a=>exact H.Bs (i+2) (j+2) c d hc a b
theorem ei.GI (H:ei F h (p::q::cs)):ei F h (p::cs):=H.sw.tail
end
section
variable{F F':Nat->Prop}{h h':Hp}{cs:List Pc}{ι:Type}{ty:Nat}{f:ι->Option (List Nat×V)}{xs:List Nat}{v:V}
theorem ei.Uv (H:ei F h cs):ei F h (fJ (ι:=ι) ty (λ_=>Option.none)::cs):=
 H.add ⟨λ_ _ _ h=>(nomatch h),λ_ _ _ _ _ _ h=>(nomatch h)⟩ λ_ ⟨_,_,_,h,_⟩=>(nomatch h)
theorem ei.MM [DecidableEq ι] (H:ei F h (eQ eN ty xs v::fJ ty f::cs)){i:ι}(hi:f i=Option.none):ei F h (fJ ty (up f i (some (xs,v)))::cs):=by
 have h0:=H.ok 0 _ rfl;have m:=H.ok 1 _ rfl;have n:∀l,Loc v l->¬(fJ ty f).j5 l:=λl d=>H.Bs 0 1 _ _ rfl rfl (by omega) l d;refine H.tail.tail.cons ⟨λj ys w b=>?_,λj k ys w o x b a p l d g=>?_⟩ λj c hc l d=>?_
 ·by_cases e:j=i
  ·subst e;rw[im]at b;cases b;exact h0
  ·rw[iz _ _ e]at b;exact m.1 j ys w b
 ·by_cases e:j=i
  ·subst e;rw[im]at b;cases b;rw[iz _ _ λe=>p e.symm]at a;exact n l d ⟨k,o,x,a,g⟩
  ·rw[iz _ _ e]at b;by_cases e':k=i
   ·subst e';rw[im]at a;cases a;exact n l g ⟨j,ys,w,b,d⟩
   ·rw[iz _ _ e']at a;exact m.2 j k ys w o x b a p l d g
 ·obtain⟨k,ys,w,a,q⟩:=d;by_cases e:k=i
  ·subst e;rw[im]at a;cases a;exact H.Bs 0 (j+2) _ c rfl hc (by omega) l q
  ·rw[iz _ _ e]at a;exact H.Bs 1 (j+2) _ c rfl hc (by omega) l ⟨k,ys,w,a,q⟩
theorem ei.rows (H:ei F h cs)(n:Nat)(a:cs[n]? =some (fJ ty f)){i:ι}(hi:f i=some (xs,v)):jI eN ty F h xs v:=(H.ok n _ a).1 i xs v hi
theorem ei.OE {κ:Type}(H:ei F h cs)(n:Nat)(d:cs[n]? =some (fJ ty f))(g:κ->Option (List Nat×V))(m:κ->ι)(b:∀i p,g i=some p->f (m i)=some p)(a:∀i j p q,g i=some p->g j=some q->m i=m j->i=j):ei F h (cs.set n (fJ ty g)):=by
 have k:=H.ok n _ d;refine H.swap d ⟨λi xs v hi=>k.1 (m i) xs v (b i _ hi),λi j xs v ys w hi o c=>k.2 (m i) (m j) xs v ys w (b i _ hi) (b j _ o) λe=>c (a i j _ _ hi o e)⟩ λl ⟨i,xs,v,hi,r⟩=>⟨m i,xs,v,b i _ hi,r⟩
theorem ei.VC [DecidableEq ι] (H:ei F h cs)(n:Nat)(B:cs[n]? =some (fJ ty f)){i:ι}(hi:f i=some (xs,v)){k:Nat}(C:k<xs.length)(y:Nat) :
  ∃l o h',gD 1 v (.int .i64 k)=some (.ptr l o)/\gB 1 (.ptr l o) (.int .i64 y) h=some (.val .undef h')/\h.next<=h'.next/\ei F h' (cs.set n (fJ ty (up f i (some (xs.set k y,v)))))/\Sn F h F h':=by
 have p:=H.ok n _ B;obtain⟨t,h',M,D,E,G,q⟩:=(p.1 i xs v hi).store (k:=0) (y:=y) (u:=V.int .i64 y) C Nat.one_pos rfl (λw I=>by
  have:w=[.int .i64 (xs[k]:Nat)]:=I;subst this;exact(rfl:eN.rel F h y [V.int .i64 y]))
 have hc:jZ (fJ ty f).j5 h h':=q.N2 λl _ c=>⟨i,xs,v,hi,c⟩
 have g:∀{a:ι} {m:List Nat} {b:V},up f i (some (xs.set k y,v)) a=some (m,b)->∃cs,f a=some (cs,b):=λ{a m b} r=>by
  by_cases e:a=i
  ·subst e;rw[im]at r;cases r;exact⟨xs,hi⟩
  ·rw[iz _ _ e]at r;exact⟨m,r⟩
 have ok:(fJ ty (up f i (some (xs.set k y,v)))).ok F h':=by
  refine⟨λj ys w d=>?_,λj J ys w m x d s z l c A=>?_⟩
  ·by_cases e:j=i
   ·subst e;rw[im]at d;cases d;exact G
   ·rw[iz _ _ e]at d;have:=p.1 j ys w d;exact this.fc (λl c=>q.fc l (H.fl l c) λhv=>((p.1 i xs v hi).sP hv).2.2 c) (λl c=>q.fc l (this.sP c).2.1 λhv=>p.2 j i ys w xs v d hi e l c hv) q.next
  ·obtain⟨_,a1⟩:=g d;obtain⟨_,a2⟩:=g s;exact p.2 j J _ w _ x a1 a2 z l c A
 obtain⟨K,L⟩:=H.Ad B hc ok λl ⟨j,ys,w,d,c⟩=> .inl (let⟨m,a1⟩:=g d;⟨j,m,w,a1,c⟩);exact⟨t,k*1,h',D,E,q.next,K,L⟩
end
open Go.Proofs.YtpnddokajmjpbaaDoor.Un
structure Rw where
 vv:V
 vb:V
 vs:V
 vk:V
 vc:V
 vp:V
 cc:V
def comp (lu hX iX:Nat)(R:Rw):Nat->Nat->Prop
 |0,l=>l=lu
 |1,l=>l=hX
 |2,l=>l=iX
 |3,l=>Loc R.vv l
 |4,l=>Loc R.vb l
 |5,l=>Loc R.vs l
 |6,l=>Loc R.vk l
 |7,l=>Loc R.vc l
 |_,_=>False
def sig:Nat->Nat×Nat
 |0=>(gj,1)
 |1=>(hZ,1)
 |2=>(fE,1)
 |3=>(gy,6)
 |4=>(fE,6)
 |5=>(kQ,1)
 |_=>(en,1)
structure Dw (F G:Nat->Prop) (h:Hp) (lu hX iX:Nat) (t:Dt) (R:Rw):Prop where
 fl:∀l,F l->l<h.next
 gu:h.get lu=some (.cells gj 1 true false [.int .i64 1,.int .i64 2,R.vv,R.vb,R.vs])
 gk:h.get hX=some (.cells hZ 1 true false [R.vk])
 gb:h.get iX=some (.cells fE 1 true false [R.cc,.int .i64 0,.int .i64 0,.ec,R.vp,.int .i64 0])
 nu:lu<h.next/\¬F lu
 nk:hX<h.next/\¬F hX
 nb:iX<h.next/\¬F iX
 ov:jI eV gy F h t.s.ee R.vv
 ob:jI eK fE F h t.blocks R.vb
 os:jI eT kQ F h t.s.eh R.vs
 ok:jI eN en F h t.s.known R.vk
 oc:jI eN en F h t.s.cur R.vc
 sp:ik eN F h t.fe R.vp
 kc:∀l,Loc R.vk l->¬Loc R.vc l
 gx:∀l,G l->l<h.next/\¬F l/\∀i,¬comp lu hX iX R i l
structure Kp (F G:Nat->Prop) (h h':Hp):Prop where
 next:h.next<=h'.next
 fc:∀l,F l\/G l->h'.get l=h.get l
theorem Kp.refl (F G:Nat->Prop)(h:Hp):Kp F G h h:=⟨iW _,λ_ _=>rfl⟩
theorem Kp.trans {F F' G:Nat->Prop} {h h' c:Hp}(a:Kp F G h h')(b:Kp F' G h' c)(e:∀l,F l->F' l):Kp F G h c:=
 ⟨Ez a.next b.next,λl d=>by rw[b.fc l (d.imp (e l) id),a.fc l d]⟩
section
variable{F G:Nat->Prop}{h h':Hp}{lu hX iX:Nat}{t:Dt}{R:Rw}
theorem Dw.sig (D:Dw F G h lu hX iX t R){l:Nat}:∀{i:Nat},comp lu hX iX R i l->Xd h l=some (Hx.sig i)/\l<h.next/\¬F l
 |0,hl=>by have e:l=lu:=hl;subst e;exact⟨Jk D.gu,D.nu⟩
 |1,hl=>by have e:l=hX:=hl;subst e;exact⟨Jk D.gk,D.nk⟩
 |2,hl=>by have e:l=iX:=hl;subst e;exact⟨Jk D.gb,D.nb⟩
 |3,hl=>D.ov.sP hl
 |4,hl=>D.ob.sP hl
 |5,hl=>D.os.sP hl
 |6,hl=>D.ok.sP hl
 |7,hl=>D.oc.sP hl
 |_+8,hl=>hl.elim
theorem Dw.Bs (D:Dw F G h lu hX iX t R){l i j:Nat}(hi:comp lu hX iX R i l)(b:comp lu hX iX R j l):Hx.sig i=Hx.sig j:=by
 have a:=(D.sig hi).1;rw[(D.sig b).1]at a;exact(Option.some.inj a).symm
theorem Dw.BH (D:Dw F G h lu hX iX t R){l i j:Nat}(hi:comp lu hX iX R i l)(a:comp lu hX iX R j l)(c:i<8)(d:j<8):i=j:=by
 have e:=D.Bs hi a;have b:∀i,i<8->∀j,j<8->Hx.sig i=Hx.sig j->i=j\/(i=6/\j=7)\/(i=7/\j=6):=by decide
 rcases b i c j d e with f|⟨rfl,rfl⟩|⟨rfl,rfl⟩
 ·exact f
 ·exact absurd a (D.kc l hi)
 ·exact absurd hi (D.kc l a)
theorem Dw.kept (D:Dw F G h lu hX iX t R){i j:Nat}(hi:i<8)(e:j<8)(hc:jZ (λl=>comp lu hX iX R i l\/comp lu hX iX R j l) h h') :
  (∀l,F l->h'.get l=h.get l)/\(∀l,G l->h'.get l=h.get l)/\∀k l,k<8->k≠i->k≠j->comp lu hX iX R k l->h'.get l=h.get l:=by
 refine⟨λl a=>hc.fc l (D.fl l a) ?_,λl a=>hc.fc l (D.gx l a).1 ?_,λk l d b f a=>hc.fc l (D.sig a).2.1 ?_⟩
 ·rintro(b|b)
  ·exact(D.sig b).2.2 a
  ·exact(D.sig b).2.2 a
 ·rintro(b|b)
  ·exact(D.gx l a).2.2 _ b
  ·exact(D.gx l a).2.2 _ b
 ·rintro(c|c)
  ·exact b (D.BH a c d hi)
  ·exact f (D.BH a c d e)
theorem Dw.other (D:Dw F G h lu hX iX t R){S:Nat->Prop}(b:jZ S h h')(d:∀l,S l->¬F l/\¬G l/\∀i,¬comp lu hX iX R i l):Dw F G h' lu hX iX t R/\Kp F G h h':=by
 have c:∀l,F l->h'.get l=h.get l:=λl a=>b.fc l (D.fl l a) λhs=>(d l hs).1 a;have e:∀l,G l->h'.get l=h.get l:=λl a=>b.fc l (D.gx l a).1 λhs=>(d l hs).2.1 a;have k:∀i l,comp lu hX iX R i l->h'.get l=h.get l:=λi l a=>b.fc l (D.sig a).2.1 λhs=>(d l hs).2.2 i a;have lt:∀l,l<h.next->l<h'.next:=λl a=>Ac a b.next
 exact ⟨{
  fl:=λl a=>lt l (D.fl l a)
  gu:=by rw[k 0 _ rfl];exact D.gu
  gk:=by rw[k 1 _ rfl];exact D.gk
  gb:=by rw[k 2 _ rfl];exact D.gb
  nu:=⟨lt _ D.nu.1,D.nu.2⟩
  nk:=⟨lt _ D.nk.1,D.nk.2⟩
  nb:=⟨lt _ D.nb.1,D.nb.2⟩
  ov:=D.ov.fc c (λl a=>k 3 l a) b.next
  ob:=D.ob.fc c (λl a=>k 4 l a) b.next
  os:=D.os.fc c (λl a=>k 5 l a) b.next
  ok:=D.ok.fc c (λl a=>k 6 l a) b.next
  oc:=D.oc.fc c (λl a=>k 7 l a) b.next
  sp:=D.sp.fc c
  kc:=D.kc
  gx:=λl a=>⟨lt l (D.gx l a).1,(D.gx l a).2⟩ },⟨b.next,λl a=>a.elim (c l) (e l)⟩⟩
theorem Dw.grow (D:Dw F G h lu hX iX t R)(a:Cq h h'):Dw F G h' lu hX iX t R:=(D.other a λ_ h=>h.elim).1
theorem Dw.more (D:Dw F G h lu hX iX t R) {F':Nat->Prop}(c:∀l,F l->F' l)(d:∀l,F' l->F l\/(l<h.next/\(∀i,¬comp lu hX iX R i l)/\¬G l)):Dw F' G h lu hX iX t R:=by
 have b:∀i l,comp lu hX iX R i l->¬F' l:=λi l a e=>by
  rcases d l e with f|⟨_,f,_⟩
  ·exact(D.sig a).2.2 f
  ·exact f i a
 exact {
  fl:=λl a=>(d l a).elim (D.fl l) λh=>h.1
  gu:=D.gu
  gk:=D.gk
  gb:=D.gb
  nu:=⟨D.nu.1,b 0 _ rfl⟩
  nk:=⟨D.nk.1,b 1 _ rfl⟩
  nb:=⟨D.nb.1,b 2 _ rfl⟩
  ov:=D.ov.mono c λl a=>b 3 l a
  ob:=D.ob.mono c λl a=>b 4 l a
  os:=D.os.mono c λl a=>b 5 l a
  ok:=D.ok.mono c λl a=>b 6 l a
  oc:=D.oc.mono c λl a=>b 7 l a
  sp:=D.sp.mono c
  kc:=D.kc
  gx:=λl a=>⟨(D.gx l a).1,λe=>(d l e).elim (D.gx l a).2.1 λh=>h.2.2 a,(D.gx l a).2.2⟩ }
def fz (F:Nat->Prop)(n:Nat):Nat->Prop:=λl=>F l\/l=n
theorem oT (F:Nat->Prop)(n:Nat):∀l,F l->fz F n l:=λ_ h=> .inl h
theorem Dw.new (D:Dw F G h lu hX iX t R)(o:O):Dw (fz F h.next) G (h.new o) lu hX iX t R:=
 (D.grow (jZ.new h o)).more (oT _ _) λl a=>a.imp id λe=>by
  subst e;refine⟨IS _,λi hi=>Pj _ (D.sig hi).2.1,λb=>Pj _ (D.gx _ b).1⟩
theorem Kp.new (F G:Nat->Prop)(h:Hp)(o:O)(a:∀l,F l->l<h.next)(b:∀l,G l->l<h.next):Kp F G h (h.new o):=
 ⟨Nv _,λl c=>fk o (c.elim (a l) (b l))⟩
theorem Dw.xG (D:Dw F G h lu hX iX t R)(o:O):Kp F G h (h.new o):=Kp.new F G h o D.fl λl a=>(D.gx l a).1
theorem mV {l o e sz:Nat} {cs mR:List V}{v:V}(a:h.get l=some (.cells e sz true false cs))(b:o<cs.length)(hv:v.one=true)(hs:cs.set o v=mR):gB 1 (.ptr l o) v h=some (.val .undef (h.put l (.cells e sz true false mR))):=by
 subst hs;exact Ku a b hv
private theorem UX {a:Nat->Prop} {l:Nat} {S:Nat->Prop} {b:Hp} {o:O} (hc:jZ a h b) (c:∀l,a l->S l) (d:l<h.next) (hs:S l):jZ S h (b.put l o):=
 (hc.N2 λl _ h=>c l h).trans (jZ.put o hs (Ac d hc.next))
theorem Dw.zbz (D:Dw F G h lu hX iX t R){ys:List Vl}{new:List V}{xv:V}(hx:jM h 6 xv=some (ys.length,new))(u:oU eV F h new ys)(a:new.length=ys.length*6) (p:fV new=true)(w:0<ys.length)(hlen:t.s.ee.length+ys.length<1000000) :
  ∃b c f,eR gy 6 64 R.vv xv h=some (.val b c)/\h.next<=c.next/\gB 1 (.ptr lu 2) b c=some (.val .undef f)/\c.next<=f.next/\Kp F G h f/\
   Dw F G f lu hX iX {t with s:={t.s with ee:=t.s.ee++ys} } {R with vv:=b}:=by
 obtain ⟨b,c,x,r,n,l1⟩:=D.ov.append (jr:=64) (ys:=ys) hx u a p w (by decide) D.fl (by omega) (by omega);have q:c.get lu=some (.cells gj 1 true false [.int .i64 1,.int .i64 2,R.vv,R.vb,R.vs]):=by
  rw[n.fc lu D.nu.1 λa=>nomatch D.BH (i:=0) (j:=3) rfl a (by decide) (by decide)];exact D.gu
 have g:lu<c.next:=Ac D.nu.1 n.next;have y:=mV (o:=2) (v:=b) (mR:=[.int .i64 1,.int .i64 2,b,R.vb,R.vs]) q (by simp) r.one rfl;have hc:jZ (λl=>comp lu hX iX R 0 l\/comp lu hX iX R 3 l) h (c.put lu (.cells gj 1 true false [.int .i64 1,.int .i64 2,b,R.vb,R.vs])):=UX n (λ_ h=> .inr h) D.nu.1 (.inl rfl);obtain⟨k,z,m⟩:=D.kept (by decide) (by decide) hc;have d:∀l,l<h.next->l<(c.put lu (.cells gj 1 true false [.int .i64 1,.int .i64 2,b,R.vb,R.vs])).next:=λl a=>Ac a hc.next;have A:∀l,Loc b l->l≠lu:=λl a e=>by
  subst e;rcases l1 _ a with f|f
  ·exact absurd (D.BH (i:=0) (j:=3) rfl f (by decide) (by decide)) (by decide)
  ·exact absurd f (O6 D.nu.1)
 have hO:jI eV gy F (c.put lu (.cells gj 1 true false [.int .i64 1,.int .i64 2,b,R.vb,R.vs])) (t.s.ee++ys) b:=
  r.fc (λl a=>gf _ g λe=>D.nu.2 (e▸a)) (λl a=>gf _ g λe=>A l a e.symm) (iW _)
 refine⟨b,c,_,x,n.next,y,iW _,⟨hc.next,λl a=>a.elim (k l) (z l)⟩,?_⟩
 exact {
  fl:=λl a=>d l (D.fl l a)
  gu:=fP _ g
  gk:=by rw[m 1 hX (by decide) (by decide) (by decide) rfl];exact D.gk
  gb:=by rw[m 2 iX (by decide) (by decide) (by decide) rfl];exact D.gb
  ov:=hO
  ob:=D.ob.fc k (λl a=>m 4 l (by decide) (by decide) (by decide) a) hc.next
  os:=D.os.fc k (λl a=>m 5 l (by decide) (by decide) (by decide) a) hc.next
  ok:=D.ok.fc k (λl a=>m 6 l (by decide) (by decide) (by decide) a) hc.next
  oc:=D.oc.fc k (λl a=>m 7 l (by decide) (by decide) (by decide) a) hc.next
  nu:=⟨d _ D.nu.1,D.nu.2⟩
  nk:=⟨d _ D.nk.1,D.nk.2⟩
  nb:=⟨d _ D.nb.1,D.nb.2⟩
  sp:=D.sp.fc k
  kc:=D.kc
  gx:=λl a=>⟨d l (D.gx l a).1,(D.gx l a).2.1,λi hi=>by
   match i,hi with
   |0,hi=>exact(D.gx l a).2.2 0 hi
   |1,hi=>exact(D.gx l a).2.2 1 hi
   |2,hi=>exact(D.gx l a).2.2 2 hi
   |3,hi=>exact(l1 l hi).elim ((D.gx l a).2.2 3) λe=>absurd e (O6 (D.gx l a).1)
   |4,hi=>exact(D.gx l a).2.2 4 hi
   |5,hi=>exact(D.gx l a).2.2 5 hi
   |6,hi=>exact(D.gx l a).2.2 6 hi
   |7,hi=>exact(D.gx l a).2.2 7 hi⟩ }
theorem Dw.zbw (D:Dw F G h lu hX iX t R){ys:List Bk}{new:List V}{xv:V}(hx:jM h 6 xv=some (ys.length,new))(s:oU eK F h new ys)(a:new.length=ys.length*6) (p:fV new=true)(u:0<ys.length)(hlen:t.blocks.length+ys.length<1000000) :
  ∃b c f,eR fE 6 96 R.vb xv h=some (.val b c)/\h.next<=c.next/\gB 1 (.ptr lu 3) b c=some (.val .undef f)/\c.next<=f.next/\Kp F G h f/\
   Dw F G f lu hX iX {t with blocks:=t.blocks++ys} {R with vb:=b}:=by
 obtain ⟨b,c,w,r,n,l1⟩:=D.ob.append (jr:=96) (ys:=ys) hx s a p u (by decide) D.fl (by omega) (by omega);have q:c.get lu=some (.cells gj 1 true false [.int .i64 1,.int .i64 2,R.vv,R.vb,R.vs]):=by
  rw[n.fc lu D.nu.1 λa=>nomatch D.BH (i:=0) (j:=4) rfl a (by decide) (by decide)];exact D.gu
 have g:lu<c.next:=Ac D.nu.1 n.next;have x:=mV (o:=3) (v:=b) (mR:=[.int .i64 1,.int .i64 2,R.vv,b,R.vs]) q (by simp) r.one rfl;have hc:jZ (λl=>comp lu hX iX R 0 l\/comp lu hX iX R 4 l) h (c.put lu (.cells gj 1 true false [.int .i64 1,.int .i64 2,R.vv,b,R.vs])):=UX n (λ_ h=> .inr h) D.nu.1 (.inl rfl);obtain⟨k,y,m⟩:=D.kept (by decide) (by decide) hc;have d:∀l,l<h.next->l<(c.put lu (.cells gj 1 true false [.int .i64 1,.int .i64 2,R.vv,b,R.vs])).next:=λl a=>Ac a hc.next;have z:∀l,Loc b l->l≠lu:=λl a e=>by
  subst e;rcases l1 _ a with f|f
  ·exact absurd (D.BH (i:=0) (j:=4) rfl f (by decide) (by decide)) (by decide)
  ·exact absurd f (O6 D.nu.1)
 have hO:jI eK fE F (c.put lu (.cells gj 1 true false [.int .i64 1,.int .i64 2,R.vv,b,R.vs])) (t.blocks++ys) b:=
  r.fc (λl a=>gf _ g λe=>D.nu.2 (e▸a)) (λl a=>gf _ g λe=>z l a e.symm) (iW _)
 refine⟨b,c,_,w,n.next,x,iW _,⟨hc.next,λl a=>a.elim (k l) (y l)⟩,?_⟩
 exact {
  fl:=λl a=>d l (D.fl l a)
  gu:=fP _ g
  gk:=by rw[m 1 hX (by decide) (by decide) (by decide) rfl];exact D.gk
  gb:=by rw[m 2 iX (by decide) (by decide) (by decide) rfl];exact D.gb
  ov:=D.ov.fc k (λl a=>m 3 l (by decide) (by decide) (by decide) a) hc.next
  ob:=hO
  os:=D.os.fc k (λl a=>m 5 l (by decide) (by decide) (by decide) a) hc.next
  ok:=D.ok.fc k (λl a=>m 6 l (by decide) (by decide) (by decide) a) hc.next
  oc:=D.oc.fc k (λl a=>m 7 l (by decide) (by decide) (by decide) a) hc.next
  nu:=⟨d _ D.nu.1,D.nu.2⟩
  nk:=⟨d _ D.nk.1,D.nk.2⟩
  nb:=⟨d _ D.nb.1,D.nb.2⟩
  sp:=D.sp.fc k
  kc:=D.kc
  gx:=λl a=>⟨d l (D.gx l a).1,(D.gx l a).2.1,λi hi=>by
   match i,hi with
   |0,hi=>exact(D.gx l a).2.2 0 hi
   |1,hi=>exact(D.gx l a).2.2 1 hi
   |2,hi=>exact(D.gx l a).2.2 2 hi
   |3,hi=>exact(D.gx l a).2.2 3 hi
   |4,hi=>exact(l1 l hi).elim ((D.gx l a).2.2 4) λe=>absurd e (O6 (D.gx l a).1)
   |5,hi=>exact(D.gx l a).2.2 5 hi
   |6,hi=>exact(D.gx l a).2.2 6 hi
   |7,hi=>exact(D.gx l a).2.2 7 hi⟩ }
theorem Dw.zbA (D:Dw F G h lu hX iX t R){ys:List (List Fm)}{new:List V}{xv:V}(hx:jM h 1 xv=some (ys.length,new))(u:oU eT F h new ys)(a:new.length=ys.length*1) (p:fV new=true)(w:0<ys.length)(hlen:t.s.eh.length+ys.length<1000000) :
  ∃b c f,eR kQ 1 24 R.vs xv h=some (.val b c)/\h.next<=c.next/\gB 1 (.ptr lu 4) b c=some (.val .undef f)/\c.next<=f.next/\Kp F G h f/\
   Dw F G f lu hX iX {t with s:={t.s with eh:=t.s.eh++ys} } {R with vs:=b}:=by
 obtain ⟨b,c,x,r,n,l1⟩:=D.os.append (jr:=24) (ys:=ys) hx u a p w (by decide) D.fl (by omega) (by omega);have q:c.get lu=some (.cells gj 1 true false [.int .i64 1,.int .i64 2,R.vv,R.vb,R.vs]):=by
  rw[n.fc lu D.nu.1 λa=>nomatch D.BH (i:=0) (j:=5) rfl a (by decide) (by decide)];exact D.gu
 have g:lu<c.next:=Ac D.nu.1 n.next;have y:=mV (o:=4) (v:=b) (mR:=[.int .i64 1,.int .i64 2,R.vv,R.vb,b]) q (by simp) r.one rfl;have hc:jZ (λl=>comp lu hX iX R 0 l\/comp lu hX iX R 5 l) h (c.put lu (.cells gj 1 true false [.int .i64 1,.int .i64 2,R.vv,R.vb,b])):=UX n (λ_ h=> .inr h) D.nu.1 (.inl rfl);obtain⟨k,z,m⟩:=D.kept (by decide) (by decide) hc;have d:∀l,l<h.next->l<(c.put lu (.cells gj 1 true false [.int .i64 1,.int .i64 2,R.vv,R.vb,b])).next:=λl a=>Ac a hc.next;have A:∀l,Loc b l->l≠lu:=λl a e=>by
  subst e;rcases l1 _ a with f|f
  ·exact absurd (D.BH (i:=0) (j:=5) rfl f (by decide) (by decide)) (by decide)
  ·exact absurd f (O6 D.nu.1)
 have hO:jI eT kQ F (c.put lu (.cells gj 1 true false [.int .i64 1,.int .i64 2,R.vv,R.vb,b])) (t.s.eh++ys) b:=
  r.fc (λl a=>gf _ g λe=>D.nu.2 (e▸a)) (λl a=>gf _ g λe=>A l a e.symm) (iW _)
 refine⟨b,c,_,x,n.next,y,iW _,⟨hc.next,λl a=>a.elim (k l) (z l)⟩,?_⟩
 exact {
  fl:=λl a=>d l (D.fl l a)
  gu:=fP _ g
  gk:=by rw[m 1 hX (by decide) (by decide) (by decide) rfl];exact D.gk
  gb:=by rw[m 2 iX (by decide) (by decide) (by decide) rfl];exact D.gb
  ov:=D.ov.fc k (λl a=>m 3 l (by decide) (by decide) (by decide) a) hc.next
  ob:=D.ob.fc k (λl a=>m 4 l (by decide) (by decide) (by decide) a) hc.next
  os:=hO
  ok:=D.ok.fc k (λl a=>m 6 l (by decide) (by decide) (by decide) a) hc.next
  oc:=D.oc.fc k (λl a=>m 7 l (by decide) (by decide) (by decide) a) hc.next
  nu:=⟨d _ D.nu.1,D.nu.2⟩
  nk:=⟨d _ D.nk.1,D.nk.2⟩
  nb:=⟨d _ D.nb.1,D.nb.2⟩
  sp:=D.sp.fc k
  kc:=D.kc
  gx:=λl a=>⟨d l (D.gx l a).1,(D.gx l a).2.1,λi hi=>by
   match i,hi with
   |0,hi=>exact(D.gx l a).2.2 0 hi
   |1,hi=>exact(D.gx l a).2.2 1 hi
   |2,hi=>exact(D.gx l a).2.2 2 hi
   |3,hi=>exact(D.gx l a).2.2 3 hi
   |4,hi=>exact(D.gx l a).2.2 4 hi
   |5,hi=>exact(l1 l hi).elim ((D.gx l a).2.2 5) λe=>absurd e (O6 (D.gx l a).1)
   |6,hi=>exact(D.gx l a).2.2 6 hi
   |7,hi=>exact(D.gx l a).2.2 7 hi⟩ }
theorem Dw.Y6 (D:Dw F G h lu hX iX t R){ys:List Nat}{new:List V}{xv:V}(hx:jM h 1 xv=some (ys.length,new))(u:oU eN F h new ys)(a:new.length=ys.length*1) (p:fV new=true)(w:0<ys.length)(hlen:t.s.known.length+ys.length<1000000) :
  ∃b c f,eR en 1 8 R.vk xv h=some (.val b c)/\h.next<=c.next/\gB 1 (.ptr hX 0) b c=some (.val .undef f)/\c.next<=f.next/\Kp F G h f/\
   Dw F G f lu hX iX {t with s:={t.s with known:=t.s.known++ys} } {R with vk:=b}:=by
 obtain ⟨b,c,x,r,n,l1⟩:=D.ok.append (jr:=8) (ys:=ys) hx u a p w (by decide) D.fl (by omega) (by omega);have q:c.get hX=some (.cells hZ 1 true false [R.vk]):=by
  rw[n.fc hX D.nk.1 λa=>nomatch D.BH (i:=1) (j:=6) rfl a (by decide) (by decide)];exact D.gk
 have g:hX<c.next:=Ac D.nk.1 n.next;have y:=mV (o:=0) (v:=b) (mR:=[b]) q (by simp) r.one rfl;have hc:jZ (λl=>comp lu hX iX R 1 l\/comp lu hX iX R 6 l) h (c.put hX (.cells hZ 1 true false [b])):=UX n (λ_ h=> .inr h) D.nk.1 (.inl rfl);obtain⟨k,z,m⟩:=D.kept (by decide) (by decide) hc;have d:∀l,l<h.next->l<(c.put hX (.cells hZ 1 true false [b])).next:=λl a=>Ac a hc.next;have A:∀l,Loc b l->l≠hX:=λl a e=>by
  subst e;rcases l1 _ a with f|f
  ·exact absurd (D.BH (i:=1) (j:=6) rfl f (by decide) (by decide)) (by decide)
  ·exact absurd f (O6 D.nk.1)
 have hO:jI eN en F (c.put hX (.cells hZ 1 true false [b])) (t.s.known++ys) b:=
  r.fc (λl a=>gf _ g λe=>D.nk.2 (e▸a)) (λl a=>gf _ g λe=>A l a e.symm) (iW _)
 refine⟨b,c,_,x,n.next,y,iW _,⟨hc.next,λl a=>a.elim (k l) (z l)⟩,?_⟩
 exact {
  fl:=λl a=>d l (D.fl l a)
  gu:=by rw[m 0 lu (by decide) (by decide) (by decide) rfl];exact D.gu
  gk:=fP _ g
  gb:=by rw[m 2 iX (by decide) (by decide) (by decide) rfl];exact D.gb
  ov:=D.ov.fc k (λl a=>m 3 l (by decide) (by decide) (by decide) a) hc.next
  ob:=D.ob.fc k (λl a=>m 4 l (by decide) (by decide) (by decide) a) hc.next
  os:=D.os.fc k (λl a=>m 5 l (by decide) (by decide) (by decide) a) hc.next
  ok:=hO
  oc:=D.oc.fc k (λl a=>m 7 l (by decide) (by decide) (by decide) a) hc.next
  nu:=⟨d _ D.nu.1,D.nu.2⟩
  nk:=⟨d _ D.nk.1,D.nk.2⟩
  nb:=⟨d _ D.nb.1,D.nb.2⟩
  sp:=D.sp.fc k
  kc:=λl a hc=>(l1 l a).elim (λf=>D.kc l f hc) λe=>absurd e (O6 (D.oc.sP hc).2.1)
  gx:=λl a=>⟨d l (D.gx l a).1,(D.gx l a).2.1,λi hi=>by
   match i,hi with
   |0,hi=>exact(D.gx l a).2.2 0 hi
   |1,hi=>exact(D.gx l a).2.2 1 hi
   |2,hi=>exact(D.gx l a).2.2 2 hi
   |3,hi=>exact(D.gx l a).2.2 3 hi
   |4,hi=>exact(D.gx l a).2.2 4 hi
   |5,hi=>exact(D.gx l a).2.2 5 hi
   |6,hi=>exact(l1 l hi).elim ((D.gx l a).2.2 6) λe=>absurd e (O6 (D.gx l a).1)
   |7,hi=>exact(D.gx l a).2.2 7 hi⟩ }
theorem Dw.zbh (D:Dw F G h lu hX iX t R){ys:List Nat}{new:List V}{xv:V}(hx:jM h 1 xv=some (ys.length,new))(u:oU eN F h new ys)(a:new.length=ys.length*1) (p:fV new=true)(w:0<ys.length)(hlen:t.s.cur.length+ys.length<1000000) :
  ∃b c f,eR en 1 8 R.vc xv h=some (.val b c)/\h.next<=c.next/\gB 1 (.ptr iX 0) b c=some (.val .undef f)/\c.next<=f.next/\Kp F G h f/\
   Dw F G f lu hX iX {t with s:={t.s with cur:=t.s.cur++ys} } {R with vc:=b,cc:=b}:=by
 obtain ⟨b,c,x,r,n,l1⟩:=D.oc.append (jr:=8) (ys:=ys) hx u a p w (by decide) D.fl (by omega) (by omega);have q:c.get iX=some (.cells fE 1 true false [R.cc,.int .i64 0,.int .i64 0,.ec,R.vp,.int .i64 0]):=by
  rw[n.fc iX D.nb.1 λa=>nomatch D.BH (i:=2) (j:=7) rfl a (by decide) (by decide)];exact D.gb
 have g:iX<c.next:=Ac D.nb.1 n.next;have y:=mV (o:=0) (v:=b) (mR:=[b,.int .i64 0,.int .i64 0,.ec,R.vp,.int .i64 0]) q (by simp) r.one rfl;have hc:jZ (λl=>comp lu hX iX R 2 l\/comp lu hX iX R 7 l) h (c.put iX (.cells fE 1 true false [b,.int .i64 0,.int .i64 0,.ec,R.vp,.int .i64 0])):=UX n (λ_ h=> .inr h) D.nb.1 (.inl rfl);obtain⟨k,z,m⟩:=D.kept (by decide) (by decide) hc;have d:∀l,l<h.next->l<(c.put iX (.cells fE 1 true false [b,.int .i64 0,.int .i64 0,.ec,R.vp,.int .i64 0])).next:=λl a=>Ac a hc.next;have A:∀l,Loc b l->l≠iX:=λl a e=>by
  subst e;rcases l1 _ a with f|f
  ·exact absurd (D.BH (i:=2) (j:=7) rfl f (by decide) (by decide)) (by decide)
  ·exact absurd f (O6 D.nb.1)
 have hO:jI eN en F (c.put iX (.cells fE 1 true false [b,.int .i64 0,.int .i64 0,.ec,R.vp,.int .i64 0])) (t.s.cur++ys) b:=
  r.fc (λl a=>gf _ g λe=>D.nb.2 (e▸a)) (λl a=>gf _ g λe=>A l a e.symm) (iW _)
 refine⟨b,c,_,x,n.next,y,iW _,⟨hc.next,λl a=>a.elim (k l) (z l)⟩,?_⟩
 exact {
  fl:=λl a=>d l (D.fl l a)
  gu:=by rw[m 0 lu (by decide) (by decide) (by decide) rfl];exact D.gu
  gk:=by rw[m 1 hX (by decide) (by decide) (by decide) rfl];exact D.gk
  gb:=fP _ g
  ov:=D.ov.fc k (λl a=>m 3 l (by decide) (by decide) (by decide) a) hc.next
  ob:=D.ob.fc k (λl a=>m 4 l (by decide) (by decide) (by decide) a) hc.next
  os:=D.os.fc k (λl a=>m 5 l (by decide) (by decide) (by decide) a) hc.next
  ok:=D.ok.fc k (λl a=>m 6 l (by decide) (by decide) (by decide) a) hc.next
  oc:=hO
  nu:=⟨d _ D.nu.1,D.nu.2⟩
  nk:=⟨d _ D.nk.1,D.nk.2⟩
  nb:=⟨d _ D.nb.1,D.nb.2⟩
  sp:=D.sp.fc k
  kc:=λl a hc=>(l1 l hc).elim (λf=>D.kc l a f) λe=>absurd e (O6 (D.ok.sP a).2.1)
  gx:=λl a=>⟨d l (D.gx l a).1,(D.gx l a).2.1,λi hi=>by
   match i,hi with
   |0,hi=>exact(D.gx l a).2.2 0 hi
   |1,hi=>exact(D.gx l a).2.2 1 hi
   |2,hi=>exact(D.gx l a).2.2 2 hi
   |3,hi=>exact(D.gx l a).2.2 3 hi
   |4,hi=>exact(D.gx l a).2.2 4 hi
   |5,hi=>exact(D.gx l a).2.2 5 hi
   |6,hi=>exact(D.gx l a).2.2 6 hi
   |7,hi=>exact(l1 l hi).elim ((D.gx l a).2.2 7) λe=>absurd e (O6 (D.gx l a).1)⟩ }
theorem Dw.cell (D:Dw F G h lu hX iX t R){i:Nat}(hi:i<8)(hc:jZ (λl=>comp lu hX iX R i l) h h') :
  (∀l,F l->h'.get l=h.get l)/\(∀l,G l->h'.get l=h.get l)/\∀k l,k<8->k≠i->comp lu hX iX R k l->h'.get l=h.get l:=by
 obtain⟨c,d,e⟩:=D.kept hi hi (hc.N2 (S':=λl=>comp lu hX iX R i l\/comp lu hX iX R i l) λ_ _ h=> .inl h);exact⟨c,d,λk l a b=>e k l a b b⟩
theorem Dw.zbp (D:Dw F G h lu hX iX t R){n:Nat}(g:n<=t.s.known.length) :
  ∃b e,iJ 1 R.vk none (some (.int .i64 n)) h=some b/\gB 1 (.ptr hX 0) b h=some (.val .undef e)/\h.next<=e.next/\Kp F G h e/\Dw F G e lu hX iX {t with s:=Un.cut n t.s} {R with vk:=b}:=by
 obtain⟨b,j,f,l1⟩:=D.ok.cut g;have k:=mV (o:=0) (v:=b) (mR:=[b]) D.gk (by simp) f.one rfl;have hc:jZ (λl=>comp lu hX iX R 1 l) h (h.put hX (.cells hZ 1 true false [b])):=jZ.put _ rfl D.nk.1;obtain⟨c,m,d⟩:=D.cell (by decide) hc;refine⟨b,_,j,k,iW _,⟨hc.next,λl a=>a.elim (c l) (m l)⟩,?_⟩
 exact {
  fl:=D.fl
  gu:=by rw[d 0 lu (by decide) (by decide) rfl];exact D.gu
  gk:=fP _ D.nk.1
  gb:=by rw[d 2 iX (by decide) (by decide) rfl];exact D.gb
  nu:=D.nu
  nk:=D.nk
  nb:=D.nb
  ov:=D.ov.fc c (λl a=>d 3 l (by decide) (by decide) a) hc.next
  ob:=D.ob.fc c (λl a=>d 4 l (by decide) (by decide) a) hc.next
  os:=D.os.fc c (λl a=>d 5 l (by decide) (by decide) a) hc.next
  ok:=f.fc c (λl a=>d 6 l (by decide) (by decide) (l1 l a)) hc.next
  oc:=D.oc.fc c (λl a=>d 7 l (by decide) (by decide) a) hc.next
  sp:=D.sp.fc c
  kc:=λl a=>D.kc l (l1 l a)
  gx:=λl a=>⟨(D.gx l a).1,(D.gx l a).2.1,λi hi=>by
   match i,hi with
   |0,hi=>exact(D.gx l a).2.2 0 hi
   |1,hi=>exact(D.gx l a).2.2 1 hi
   |2,hi=>exact(D.gx l a).2.2 2 hi
   |3,hi=>exact(D.gx l a).2.2 3 hi
   |4,hi=>exact(D.gx l a).2.2 4 hi
   |5,hi=>exact(D.gx l a).2.2 5 hi
   |6,hi=>exact(D.gx l a).2.2 6 (l1 l hi)
   |7,hi=>exact(D.gx l a).2.2 7 hi⟩ }
theorem Dw.X8 (D:Dw F G h lu hX iX t R){c p:V}{ps:List Nat}(e:ik eN F h ps p):Kp F G h (h.put iX (.cells fE 1 true false [c,.int .i64 0,.int .i64 0,.ec,p,.int .i64 0]))/\
  Dw F G (h.put iX (.cells fE 1 true false [c,.int .i64 0,.int .i64 0,.ec,p,.int .i64 0])) lu hX iX {t with fe:=ps} {R with vp:=p,cc:=c}:=by
 have hc:jZ (λl=>comp lu hX iX R 2 l) h (h.put iX (.cells fE 1 true false [c,.int .i64 0,.int .i64 0,.ec,p,.int .i64 0])):=jZ.put _ rfl D.nb.1;obtain⟨b,f,d⟩:=D.cell (by decide) hc;refine⟨⟨hc.next,λl a=>a.elim (b l) (f l)⟩,?_⟩
 exact {
  fl:=D.fl
  gu:=by rw[d 0 lu (by decide) (by decide) rfl];exact D.gu
  gk:=by rw[d 1 hX (by decide) (by decide) rfl];exact D.gk
  gb:=fP _ D.nb.1
  nu:=D.nu
  nk:=D.nk
  nb:=D.nb
  ov:=D.ov.fc b (λl a=>d 3 l (by decide) (by decide) a) hc.next
  ob:=D.ob.fc b (λl a=>d 4 l (by decide) (by decide) a) hc.next
  os:=D.os.fc b (λl a=>d 5 l (by decide) (by decide) a) hc.next
  ok:=D.ok.fc b (λl a=>d 6 l (by decide) (by decide) a) hc.next
  oc:=D.oc.fc b (λl a=>d 7 l (by decide) (by decide) a) hc.next
  sp:=e.fc b
  kc:=D.kc
  gx:=D.gx}
def ZI (F:Nat->Prop)(v:V):Nat->Prop:=λl=>F l\/Loc v l
theorem Dw.flush (D:Dw F G h lu hX iX t R):ik eN (ZI F R.vc) h t.s.cur R.vc/\Dw (ZI F R.vc) G h lu hX iX {t with s:={t.s with cur:=[]} } {R with vc:= .ec}:=by
 refine⟨D.oc.VG (λ_ h=> .inl h) λ_ h=> .inr h,?_⟩
 have D':Dw F G h lu hX iX {t with s:={t.s with cur:=[]} } {R with vc:= .ec}:=
  { D with
    oc:= .nil
    kc:=λ_ _ h=>h
    gx:=λl a=>⟨(D.gx l a).1,(D.gx l a).2.1,λi hi=>by
      match i,hi with
      |0,hi=>exact(D.gx l a).2.2 0 hi
      |1,hi=>exact(D.gx l a).2.2 1 hi
      |2,hi=>exact(D.gx l a).2.2 2 hi
      |3,hi=>exact(D.gx l a).2.2 3 hi
      |4,hi=>exact(D.gx l a).2.2 4 hi
      |5,hi=>exact(D.gx l a).2.2 5 hi
      |6,hi=>exact(D.gx l a).2.2 6 hi
      |n+7,hi=>exact(match n,hi with|0,hi=>hi)⟩ }
 refine D'.more (λ_ h=> .inl h) λl a=>a.imp id λhc=>⟨(D.oc.sP hc).2.1,λi hi=>?_,λb=>(D.gx l b).2.2 7 hc⟩
 match i,hi with
 |0,hi=>exact nomatch D.BH (i:=0) (j:=7) hi hc (by decide) (by decide)
 |1,hi=>exact nomatch D.BH (i:=1) (j:=7) hi hc (by decide) (by decide)
 |2,hi=>exact nomatch D.BH (i:=2) (j:=7) hi hc (by decide) (by decide)
 |3,hi=>exact nomatch D.BH (i:=3) (j:=7) hi hc (by decide) (by decide)
 |4,hi=>exact nomatch D.BH (i:=4) (j:=7) hi hc (by decide) (by decide)
 |5,hi=>exact nomatch D.BH (i:=5) (j:=7) hi hc (by decide) (by decide)
 |6,hi=>exact nomatch D.BH (i:=6) (j:=7) hi hc (by decide) (by decide)
 |n+7,hi=>exact(match n,hi with|0,hi=>hi)
theorem Dw.Zc (D:Dw F G h lu hX iX t R){p:Nat}{xs:List Nat}{a:V}(j:p<t.s.ee.length)(m:ik eN F h xs a) :
  ∃l d,gD 6 R.vv (.int .i64 p)=some (.ptr l (p*6))/\gB 1 (.ptr l (p*6+4)) a h=some (.val .undef d)/\h.next<=d.next/\Kp F G h d/\Dw F G d lu hX iX {t with s:=setArgs t.s p xs} R:=by
 obtain ⟨l,d,_,n,o,q,hc⟩:=D.ov.store (i:=p) (k:=4) (y:={t.s.ee[p]with args:=xs}) j (by decide) m.one (λw ⟨x,r,_⟩=>by subst r;exact⟨a,rfl,m⟩);obtain⟨g,u,f⟩:=D.cell (i:=3) (by decide) hc;refine⟨l,d,n,o,hc.next,⟨hc.next,λl b=>b.elim (g l) (u l)⟩,?_⟩;have c:∀l,l<h.next->l<d.next:=λl b=>Ac b hc.next;have em:(setArgs t.s p xs).ee=t.s.ee.set p {t.s.ee[p]with args:=xs}:=by
  unfold setArgs;show t.s.ee.modify p _=_;refine Wv λi=>?_;rw[wB7,List.getElem?_set];by_cases e:p=i
  ·subst e;simp[j]
  ·simp[e]
 exact {
  fl:=λl b=>c l (D.fl l b)
  gu:=by rw[f 0 lu (by decide) (by decide) rfl];exact D.gu
  gk:=by rw[f 1 hX (by decide) (by decide) rfl];exact D.gk
  gb:=by rw[f 2 iX (by decide) (by decide) rfl];exact D.gb
  nu:=⟨c _ D.nu.1,D.nu.2⟩
  nk:=⟨c _ D.nk.1,D.nk.2⟩
  nb:=⟨c _ D.nb.1,D.nb.2⟩
  ov:=by show jI eV gy F d (setArgs t.s p xs).ee R.vv;rw[em];exact q
  ob:=D.ob.fc g (λl b=>f 4 l (by decide) (by decide) b) hc.next
  os:=D.os.fc g (λl b=>f 5 l (by decide) (by decide) b) hc.next
  ok:=D.ok.fc g (λl b=>f 6 l (by decide) (by decide) b) hc.next
  oc:=D.oc.fc g (λl b=>f 7 l (by decide) (by decide) b) hc.next
  sp:=D.sp.fc g
  kc:=D.kc
  gx:=λl b=>⟨c l (D.gx l b).1,(D.gx l b).2⟩ }
end
