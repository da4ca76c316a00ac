/- Parts. -/
import Derived.Test.YtkpicojjjifmgabGreatDoorM11
set_option maxHeartbeats 4000000
namespace Go.Proofs.YtkpicojjjifmgabGreatDoor.Un
open Dm
def Ow(t:Dt)(v b:Nat):Prop:=(∃B,t.blocks[b]? =some B/\v∈B.ej)\/(b=t.blocks.length/\v∈t.s.cur)
def Kn(D:Nat->Nat)(t:Dt)(a w:Nat):Prop:=∃(b:Nat) (x:Vl),Ow t w b/\qo D b a/\t.s.ej[w]? =some x/\IM x.op=true
structure Le (t t':Dt):Prop where
 ow:∀(w b:Nat),Ow t w b->Ow t' w b
 back:∀(w b:Nat),w<t.s.ej.length->Ow t' w b->Ow t w b
 val:∀(w:Nat) (x:Vl),t.s.ej[w]? =some x->∃y,t'.s.ej[w]? =some y/\y.op=x.op
 st:∀(s:Nat) (fs:List Fm),t.s.ev[s]? =some fs->t'.s.ev[s]? =some fs
theorem Le.refl(t:Dt):Le t t:=⟨λ_ _ h=>h,λ_ _ _ h=>h,λ_ x h=>⟨x,h,rfl⟩,λ_ _ h=>h⟩
theorem Kn.mono{D:Nat->Nat} {t t':Dt} {a w:Nat} (h:Kn D t a w) (c:Le t t'):Kn D t' a w:=by
 obtain⟨b,x,d,e,f,g⟩:=h;obtain⟨y,i,j⟩:=c.val w x f;exact⟨b,y,c.ow w b d,e,i,by rw[j];exact g⟩
theorem Kn.up{D:Nat->Nat} {t:Dt} {a c w:Nat} (h:Kn D t a w) (d:qo D a c):Kn D t c w:=by
 obtain⟨b,x,e,f,g⟩:=h;exact⟨b,x,e,f.trans d,g⟩
theorem Kn.lt{D:Nat->Nat} {t:Dt} {a w:Nat} (h:Kn D t a w):w<t.s.ej.length:=by
 obtain⟨b,x,_,_,c,_⟩:=h;exact(ki.1 c).1
structure Vok (D:Nat->Nat) (t:Dt) (v:Nat) (x:Vl):Prop where
 op:1<=x.op/\x.op<=23
 putAt:x.op=20->x.args.length=1
 par:x.op=1->Ow t v 0/\x.n=(v:Nat)/\v<5
 own:∃b,Ow t v b/\(x.op≠21->∀w∈hK x,w<v/\Kn D t b w)/\(leaves x.op=true->∃fs,t.s.ev[x.state]? =some fs/\∀w∈ik fs,w<v/\Kn D t b w)/\
  (iO x.op=true->∀w,Ow t w b->w<v->∃y,t.s.ej[w]? =some y/\iO y.op=true)
theorem Vok.mono{D:Nat->Nat} {t t':Dt} {v:Nat} {x:Vl} (h:Vok D t v x) (a:Le t t') (hv:v<t.s.ej.length):Vok D t' v x:=by
 obtain⟨b,d,i,k,l⟩:=h.own;refine⟨h.op,h.putAt,λd=>⟨a.ow _ _ (h.par d).1,(h.par d).2⟩,b,a.ow _ _ d,λj w c=>⟨(i j w c).1,(i j w c).2.mono a⟩,λm=>?_,λn w c f=>?_⟩
 ·obtain⟨fs,g,e⟩:=k m;exact⟨fs,a.st _ _ g,λw c=>⟨(e w c).1,(e w c).2.mono a⟩⟩
 ·obtain⟨y,g,e⟩:=l n w (a.back w b (by omega) c) f;obtain⟨z,o,p⟩:=a.val w y g;exact⟨z,o,by rw[p];exact e⟩
def zdd(D:Nat->Nat)(t:Dt)(ps:List Nat)(x:Vl):Prop:=x.args.length=ps.length/\∀(j w q:Nat),x.args[j]? =some w->ps[j]? =some q->Kn D t q w
def Fin(D:Nat->Nat)(t:Dt)(b:Nat)(B:Bk):Prop:=(B.fin=1/\B.next.length=1)\/(B.fin=2/\B.next.length=2/\Kn D t b B.cond)\/(B.fin=3/\B.next=[]/\∃fs,t.s.ev[B.state]? =some fs/\∀w∈ik fs,Kn D t b w)
theorem Fin.mono{D:Nat->Nat} {t t':Dt} {b:Nat} {B:Bk} (h:Fin D t b B) (a:Le t t'):Fin D t' b B:=by
 rcases h with h|⟨c,d,e⟩|⟨c,d,fs,e,f⟩
 ·exact .inl h
 ·exact .inr (.inl ⟨c,d,e.mono a⟩)
 ·exact .inr (.inr ⟨c,d,fs,a.st _ _ e,λw g=>(f w g).mono a⟩)
structure qa (D:Nat->Nat) (pr nx:Nat->List Nat) (E:Nat->Prop) (t:Dt):Prop where
 cat:t.blocks.flatMap (·.ej)++t.s.cur=List.range t.s.ej.length
 Mn:∀(v:Nat) (x:Vl),t.s.ej[v]? =some x->Vok D t v x
 ph:∀(v:Nat) (x:Vl),t.s.ej[v]? =some x->x.op=21->∃b,Ow t v b/\b≠0/\(¬E v->zdd D t (pr b) x)
 bk:∀(b:Nat) (B:Bk),t.blocks[b]? =some B->B.next=nx b/\B.fi=pr b/\Fin D t b B
 st:∀(s:Nat) (fs:List Fm),t.s.ev[s]? =some fs->fs.length=1/\∀f∈fs,f.locals.length<=3/\f.stack.length=1/\(∀w∈f.locals,∃a,Kn D t a w)/\∀w∈f.stack,∃a,Kn D t a w
 pc:t.fi=pr t.blocks.length
 ne:t.s.known≠[]
 kn:∀w∈t.s.known,Kn D t t.blocks.length w
section
variable{D:Nat->Nat}{pr nx:Nat->List Nat}{E:Nat->Prop}{t:Dt}
def Uj(t:Dt)(x:Vl):Dt:={t with s:=put t.s x}
theorem Q3(t:Dt) (x:Vl):Le t (Uj t x) where
 ow w b h:=by
  rcases h with h|⟨c,d⟩
  ·exact .inl h
  ·exact .inr ⟨c,by show w∈t.s.cur++_;exact SN _ d⟩
 back w b hw h:=by
  rcases h with h|⟨c,d⟩
  ·exact .inl h
  ·refine .inr ⟨c,?_⟩;have a:w∈t.s.cur++[t.s.ej.length]:=d;rcases He.1 a with a|a
   ·exact a
   ·simp at a;omega
 val w y h:=⟨y,by show(t.s.ej++[x])[w]? =some y;rw[Rk (ki.1 h).1];exact h,rfl⟩
 st s fs h:=h
theorem qa.put(l:qa D pr nx E t) {x:Vl} (N:1<=x.op/\x.op<=23) (C:x.op=20->x.args.length=1) (p:x.op=1->t.blocks.length=0/\x.n=(t.s.ej.length:Nat)/\t.s.ej.length<5)
  (L:x.op≠21->∀w∈hK x,Kn D t t.blocks.length w) (O:leaves x.op=true->∃fs,t.s.ev[x.state]? =some fs/\∀w∈ik fs,Kn D t t.blocks.length w)
  (P:iO x.op=true->∀w∈t.s.cur,∃y,t.s.ej[w]? =some y/\iO y.op=true) (F:x.op=21->t.blocks.length≠0/\(¬E t.s.ej.length->zdd D t (pr t.blocks.length) x)) :
  qa D pr nx E (Uj t x)/\(IM x.op=true->Kn D (Uj t x) t.blocks.length t.s.ej.length):=by
 have c:=Q3 t x;have d:Ow (Uj t x) t.s.ej.length t.blocks.length:= .inr ⟨rfl,by show t.s.ej.length∈t.s.cur++[t.s.ej.length];simp⟩;have r:(Uj t x).s.ej[t.s.ej.length]? =some x:=by show(t.s.ej++[x])[t.s.ej.length]? =some x;simp
 have i:∀(v:Nat) (y:Vl),(Uj t x).s.ej[v]? =some y->t.s.ej[v]? =some y\/v=t.s.ej.length/\y=x:=λv y h=>by
  have h':(t.s.ej++[x])[v]? =some y:=h;by_cases hv:v<t.s.ej.length
  ·rw[Rk hv]at h';exact .inl h'
  ·have:v<(t.s.ej++[x]).length:=(ki.1 h').1;simp at this;have G:v=t.s.ej.length:=by omega
   subst G;simp at h';exact .inr ⟨rfl,h'.symm⟩
 refine⟨⟨?_,λv y h=>?_,λv y h u=>?_,λb B h=>⟨(l.bk b B h).1,(l.bk b B h).2.1,(l.bk b B h).2.2.mono c⟩,λs fs h=>?_,l.pc,l.ne,λw e=>(l.kn w e).mono c⟩,λQ=>⟨_,x,d,.refl _,r,Q⟩⟩
 ·show t.blocks.flatMap (·.ej)++(t.s.cur++[t.s.ej.length])=List.range (t.s.ej++[x]).length;rw[<-Lb,l.cat,KC,List.length_singleton,Yl]
 ·rcases i v y h with h|⟨rfl,rfl⟩
  ·exact(l.Mn v y h).mono c (ki.1 h).1
  ·refine ⟨N,C,λm=>?_,t.blocks.length,d,λM w e=>⟨(L M w e).lt,(L M w e).mono c⟩,λm=>?_,λm w e H=>?_⟩
   ·obtain⟨k,g⟩:=p m;rw[k]at d;exact⟨d,g⟩
   ·obtain⟨fs,k,g⟩:=O m;exact⟨fs,k,λw e=>⟨(g w e).lt,(g w e).mono c⟩⟩
   ·have R:=c.back w _ H e;rcases R with⟨B,I,_⟩|⟨_,I⟩
    ·have:=(ki.1 I).1;omega
    ·obtain⟨z,k,g⟩:=P m w I;obtain⟨S,o,J⟩:=c.val w z k;exact⟨S,o,by rw[J];exact g⟩
 ·rcases i v y h with h|⟨rfl,rfl⟩
  ·obtain⟨b,k,g,o⟩:=l.ph v y h u;refine⟨b,c.ow _ _ k,g,λA=>⟨(o A).1,λj w q m K=>((o A).2 j w q m K).mono c⟩⟩
  ·obtain⟨k,g⟩:=F u;exact⟨_,d,k,λA=>⟨(g A).1,λj w q m K=>((g A).2 j w q m K).mono c⟩⟩
 ·obtain⟨k,g⟩:=l.st s fs h;refine⟨k,λf T=>?_⟩;obtain⟨o,J,U,V⟩:=g f T;exact⟨o,J,λw e=>(U w e).imp λa h=>h.mono c,λw e=>(V w e).imp λa h=>h.mono c⟩
theorem qa.SP(a:qa D pr nx E t) {l:List Nat} (c:∀w∈l,Kn D t t.blocks.length w) (b:l≠[]):qa D pr nx E {t with s:={t.s with known:=l} }:=
 ⟨a.cat,λv x h=>⟨(a.Mn v x h).op,(a.Mn v x h).putAt,(a.Mn v x h).par,(a.Mn v x h).own⟩,a.ph,a.bk,a.st,a.pc,b,c⟩
theorem qa.at_(a:qa D pr nx E t) (p:Nat):qa D pr nx E {t with s:={t.s with pos:=p} }:=
 ⟨a.cat,λv x h=>⟨(a.Mn v x h).op,(a.Mn v x h).putAt,(a.Mn v x h).par,(a.Mn v x h).own⟩,a.ph,a.bk,a.st,a.pc,a.ne,a.kn⟩
end
def on(t:Dt)(s:Ds):Dt:={t with s:=s}
structure Gw (t t':Dt):Prop where
 blocks:t'.blocks=t.blocks
 fi:t'.fi=t.fi
 known:∃k,t'.s.known=t.s.known++k
 ej:∃e,t'.s.ej=t.s.ej++e
 le:Le t t'
theorem Le.trans{t t' a:Dt} (c:Le t t') (d:Le t' a) (j:t.s.ej.length<=t'.s.ej.length):Le t a where
 ow w b h:=d.ow w b (c.ow w b h)
 back w b hw h:=c.back w b hw (d.back w b (by omega) h)
 val w x h:=by
  obtain⟨y,e,f⟩:=c.val w x h;obtain⟨z,g,i⟩:=d.val w y e;exact⟨z,g,by rw[i,f]⟩
 st s fs h:=d.st s fs (c.st s fs h)
theorem Gw.refl(t:Dt):Gw t t:=⟨rfl,rfl,⟨[],by simp⟩,⟨[],by simp⟩,.refl t⟩
theorem Gw.len{t t':Dt} (h:Gw t t'):t.s.ej.length<=t'.s.ej.length:=by
 obtain⟨e,a⟩:=h.ej;rw[a];simp
theorem Gw.trans{t t' b:Dt} (a:Gw t t') (c:Gw t' b):Gw t b:=by
 obtain⟨k,g⟩:=a.known;obtain⟨k',d⟩:=c.known;obtain⟨e,h⟩:=a.ej;obtain⟨i,f⟩:=c.ej;exact⟨c.blocks.trans a.blocks,c.fi.trans a.fi,⟨k++k',by rw[d,g,Lb]⟩,⟨e++i,by rw[f,h,Lb]⟩,a.le.trans c.le a.len⟩
theorem Gw.pos(t:Dt)(p:Nat):Gw t (on t {t.s with pos:=p}):=⟨rfl,rfl,⟨[],(JL _).symm⟩,⟨[],(JL _).symm⟩,⟨λ_ _ h=>h,λ_ _ _ h=>h,λ_ x h=>⟨x,h,rfl⟩,λ_ _ h=>h⟩⟩
theorem Zh{l:List Nat} {i:Nat} (h:i<l.length):l.getD i 0∈l:=by
 rw[Je,iy h];simp
theorem Cs(ops:List Int){s:Ds}(h:s.known≠[]):(fO ops s).1∈s.known:=Zh (zf ops s.pos (List.length_pos_iff.2 h))
theorem Kg{l:List Nat} (h:l≠[]):l.getLastD 0∈l:=by
 cases l with
 |nil=>exact absurd rfl h
 | cons a l=>
   rw[List.getLastD_cons]
   cases l with
   |nil=>simp
   | cons b l=>
     refine .tail _ ?_;rw[List.getLastD_eq_getLast?]
     cases hg:(b::l).getLast? with
     |none=>simp at hg
     |some z=>exact List.mem_of_getLast? hg
theorem PB(ops:List Int):∀(i:Nat) (s:Ds) (l:List Nat),s.known≠[]->(∃p,(some_ ops i s l).2 = {s with pos:=p})/\(some_ ops i s l).1.length=l.length+i/\∀w∈(some_ ops i s l).1,w∈l\/w∈s.known
 |0,s,l,_=>⟨⟨s.pos,rfl⟩,rfl,λw h=> .inl h⟩
 | i + 1,s,l,h=>by
   obtain⟨⟨p,b⟩,c,a⟩:=PB ops i (fO ops s).2 (l++[(fO ops s).1]) h;refine⟨⟨p,b⟩,by unfold some_;rw[c];simp;omega,λw d=>?_⟩;rcases a w d with a|a
   ·rcases He.1 a with a|a
    ·exact .inl a
    ·simp at a;subst a;exact .inr (Cs ops h)
   ·exact .inr a
section
variable{D:Nat->Nat}{pr nx:Nat->List Nat}{E:Nat->Prop}{t:Dt}
theorem qa.le1(t:Dt) (fs:List Fm) (p:Nat):Le t (on t {t.s with ev:=t.s.ev++[fs],pos:=p}):=
 ⟨λ_ _ h=>h,λ_ _ _ h=>h,λ_ x h=>⟨x,h,rfl⟩,λs g h=>by show(t.s.ev++[fs])[s]? =some g;rw[Rk (ki.1 h).1];exact h⟩
theorem qa.state(e:qa D pr nx E t) (ops:List Int):qa D pr nx E (on t (fK ops t.s).2)/\Gw t (on t (fK ops t.s).2)/\(fK ops t.s).2.known=t.s.known/\(fK ops t.s).2.ej=t.s.ej/\(fK ops t.s).2.cur=t.s.cur/\
  ∃fs,(fK ops t.s).2.ev[(fK ops t.s).1]? =some fs/\∀w∈ik fs,w∈t.s.known:=by
 obtain ⟨⟨p,z⟩,A,C⟩:=PB ops (num ops t.s 4).1 (num ops t.s 4).2 [] e.ne;have L:(num ops t.s 4).1<4:=zf _ _ (by omega);have hs:(fK ops t.s).2 = {t.s with ev:=t.s.ev++[[⟨1,(t.s.ev.length:Nat),(some_ ops (num ops t.s 4).1 (num ops t.s 4).2 []).1,[t.s.known.getLastD 0]⟩]],pos:=p}:=by
  unfold fK;simp only;rw[z];rfl
 rw[hs];generalize (some_ ops (num ops t.s 4).1 (num ops t.s 4).2 []).1=l at*;have c:=qa.le1 t [⟨1,(t.s.ev.length:Nat),l,[t.s.known.getLastD 0]⟩] p;have r:∀w∈l,w∈t.s.known:=λw d=>(C w d).elim (λh=>by cases h) id;have g:=Kg e.ne
 refine ⟨⟨e.cat,λv x h=>(e.Mn v x h).mono c (ki.1 h).1,λv x h F=>?_,λb B h=>⟨(e.bk b B h).1,(e.bk b B h).2.1,(e.bk b B h).2.2.mono c⟩,λs fs h=>?_,e.pc,e.ne,λw d=>(e.kn w d).mono c⟩,
  ⟨rfl,rfl,⟨[],(JL _).symm⟩,⟨[],(JL _).symm⟩,c⟩,rfl,rfl,rfl,[⟨1,(t.s.ev.length:Nat),l,[t.s.known.getLastD 0]⟩],wBW,λw d=>?_⟩
 ·obtain⟨b,m,n,i⟩:=e.ph v x h F;exact⟨b,c.ow _ _ m,n,λu=>⟨(i u).1,λj w q G H=>((i u).2 j w q G H).mono c⟩⟩
 ·have h':(t.s.ev++[[⟨1,(t.s.ev.length:Nat),l,[t.s.known.getLastD 0]⟩]])[s]? =some fs:=h;by_cases OY:s<t.s.ev.length
  ·rw[Rk OY]at h';obtain⟨m,n⟩:=e.st s fs h';refine⟨m,λf k=>?_⟩;obtain⟨i,I,J,K⟩:=n f k;exact⟨i,I,λw d=>(J w d).imp λa h=>h.mono c,λw d=>(K w d).imp λa h=>h.mono c⟩
  ·rw[VG (by omega)]at h';have y:=DG h';simp at y;subst y;refine⟨rfl,λf k=>?_⟩;simp at k;subst k;refine⟨by show l.length<=3;rw[A];simp;omega,rfl,λw d=>⟨_,(e.kn w (r w d)).mono c⟩,λw d=>?_⟩;have o:w=t.s.known.getLastD 0:=by simpa using d
   subst o;exact⟨_,(e.kn _ g).mono c⟩
 ·simp only[ik,List.flatMap_cons,List.flatMap_nil,JL,He,QJ]at d;rcases d with d|rfl
  ·exact r w d
  ·exact g
theorem qa.T5(a:qa D pr nx E t) {x:Vl} (e:2<=x.op/\x.op<=23/\x.op≠21) (b:x.op=20->x.args.length=1) (f:∀w∈hK x,w∈t.s.known) (g:leaves x.op=true->∃fs,t.s.ev[x.state]? =some fs/\∀w∈ik fs,w∈t.s.known) :
  qa D pr nx E (on t (Un.put t.s x))/\Gw t (on t (Un.put t.s x))/\(IM x.op=true->Kn D (on t (Un.put t.s x)) t.blocks.length t.s.ej.length):=by
 have c:iO x.op=true->False:=λh=>by
  simp[iO]at h;omega
 obtain⟨i,j⟩:=a.put (x:=x) ⟨by omega,e.2.1⟩ b (λh=>by omega) (λ_ w d=>a.kn w (f w d)) (λh=>by obtain⟨fs,k,l⟩:=g h;exact⟨fs,k,λw d=>a.kn w (l w d)⟩) (λh=>(c h).elim) (λh=>absurd h e.2.2);exact⟨i,⟨rfl,rfl,⟨[],(JL _).symm⟩,⟨[x],rfl⟩,Q3 t x⟩,j⟩
theorem qa.Si(c:qa D pr nx E t) {x:Vl} (d:2<=x.op/\x.op<19) (e:∀w∈hK x,w∈t.s.known):qa D pr nx E (on t (jd t.s x))/\Gw t (on t (jd t.s x)):=by
 obtain ⟨f,b,g⟩:=c.T5 (x:=x) ⟨d.1,by omega,by omega⟩ (λh=>by omega) e (λh=>by simp[leaves]at h;omega);have i:=g (by simp[IM];omega);have j:=f.SP (l:=t.s.known++[t.s.ej.length]) (λw a=>by
  rcases He.1 a with a|a
  ·exact(c.kn w a).mono b.le
  ·simp at a;subst a;exact i) (by simp)
 exact⟨j,⟨rfl,rfl,⟨[t.s.ej.length],rfl⟩,⟨[x],rfl⟩,⟨b.le.ow,b.le.back,b.le.val,b.le.st⟩⟩⟩
end
theorem SX(x:Vl):∀w∈hK x,w=x.a\/w=x.b\/w∈x.args:=by
 intro w c;unfold hK at c;split at c
 ·exact .inr (.inr c)
 split at c
 ·rcases IS.1 c with h|c
  ·exact .inl h
  ·rcases IS.1 c with h|c
   ·exact .inr (.inl h)
   ·exact .inr (.inr (wBb c))
 split at c
 ·simp at c;rcases c with h|h
  ·exact .inl h
  ·exact .inr (.inl h)
 split at c
 ·simp at c;exact .inl c
 ·cases c
section
variable{D:Nat->Nat}{pr nx:Nat->List Nat}{E:Nat->Prop}{t:Dt}
theorem qa.kind(o:qa D pr nx E t) (ops:List Int) {k a b:Nat} (q:a∈t.s.known) (hb:b∈t.s.known):qa D pr nx E (on t (tS ops t.s k a b))/\Gw t (on t (tS ops t.s k a b)):=by
 have p:∀x:Vl,x.a=a->x.b=b->x.args=[]->∀w∈hK x,w∈t.s.known:=λx d f g w c=>by
  rcases SX x w c with h|h|h
  ·rw[h,d];exact q
  ·rw[h,f];exact hb
  ·rw[g]at h;cases h
 have j:∀m,qa D pr nx E (on t (num ops t.s m).2)/\Gw t (on t (num ops t.s m).2):=λm=>⟨o.at_ _,Gw.pos t _⟩
 have l:∀(op:Nat) (n:Int),nq op=true->two op=false->op≠20->op≠21->∀w∈hK (vl op a 0 n [] 0),w=a:=λop n d f g i w c=>by
  simp[hK,vl,d,f,g,i]at c;exact c
 unfold tS;split
 ·rename_i r;exact o.Si (x:=vl (3+k) a b 0 [] 0) (by simp only[vl];omega) (p _ rfl rfl rfl)
 split
 ·obtain⟨d,f⟩:=j 1048576;obtain⟨g,i⟩:=d.Si (x:=vl 2 0 0 (((num ops t.s 1048576).1:Int)-9) [] 0) (by simp only[vl];omega) (λw c=>by simp[hK,vl,two,nq]at c);exact⟨g,f.trans i⟩
 split
 ·obtain⟨d,f⟩:=j 5;obtain⟨g,i⟩:=d.Si (x:=vl 17 a 0 ((num ops t.s 5).1:Nat) [] 0) (by simp only[vl];omega) (λw c=>by rw[l 17 _ rfl rfl (by omega) (by omega) w c];exact q);exact⟨g,f.trans i⟩
 split
 ·exact o.Si (x:=vl 18 a b 0 [] 0) (by simp only[vl];omega) (p _ rfl rfl rfl)
 split
 ·obtain⟨d,f⟩:=j 5;obtain⟨g,i,_⟩:=d.T5 (x:=vl 19 a b ((num ops t.s 5).1:Nat) [] 0) (by simp only[vl];omega) (λh=>by simp only[vl]at h;omega) (p _ rfl rfl rfl) (λh=>by simp[vl,leaves]at h);exact⟨g,f.trans i⟩
 split
 ·have d:qa D pr nx E (on t (fO ops t.s).2):=o.at_ _;have f:Gw t (on t (fO ops t.s).2):=Gw.pos t _;obtain⟨g,i,_⟩:=d.T5 (x:=vl 20 a b 0 [(fO ops t.s).1] 0) (by simp only[vl];omega) (λ_=>rfl) (λw c=>by
   rcases SX _ w c with h|h|h
   ·rw[h];exact q
   ·rw[h];exact hb
   ·have h':w=(fO ops t.s).1:=by simpa[vl]using h
    rw[h'];exact Cs ops o.ne) (λh=>by simp[vl,leaves]at h)
  exact⟨g,f.trans i⟩
 split
 ·obtain ⟨d,f,r,_,_,fs,u,v⟩:=o.state ops;obtain⟨g,i,_⟩:=d.T5 (x:=vl 22 a 0 0 [] (fK ops t.s).1) (by simp only[vl];omega) (λh=>by simp only[vl]at h;omega) (λw c=>by
   have e:w=a:=by simpa[hK,vl,two,nq]using c
   show w∈(fK ops t.s).2.known;rw[r,e];exact q) (λ_=>⟨fs,u,λw c=>by show w∈(fK ops t.s).2.known;rw[r];exact v w c⟩)
  exact⟨g,f.trans i⟩
 split
 ·obtain⟨d,f,r,_,_,fs,u,v⟩:=o.state ops;obtain⟨g,i,_⟩:=d.T5 (x:=vl 23 0 0 0 [] (fK ops t.s).1) (by simp only[vl];omega) (λh=>by simp only[vl]at h;omega) (λw c=>by simp[hK,vl,two,nq]at c) (λ_=>⟨fs,u,λw c=>by show w∈(fK ops t.s).2.known;rw[r];exact v w c⟩);exact⟨g,f.trans i⟩
 ·obtain ⟨d,f⟩:=j 2;have z:(num ops t.s 2).1<2:=zf _ _ (by omega);have y:(num ops t.s 2).1=0\/(num ops t.s 2).1=1:=by omega
  obtain ⟨g,i⟩:=d.Si (x:=vl (15+(num ops t.s 2).1) a 0 0 [] 0) (by simp only[vl];omega) (λw c=>by
   have e:w=a:=by
    rcases y with e|e
    ·rw[e]at c;exact l 15 _ rfl rfl (by omega) (by omega) w c
    ·rw[e]at c;exact l 16 _ rfl rfl (by omega) (by omega) w c
   rw[e];exact q)
  exact⟨g,f.trans i⟩
theorem qa.vf(c:qa D pr nx E t) (ops:List Int):qa D pr nx E (on t (vf ops t.s))/\Gw t (on t (vf ops t.s)):=by
 have d:=Cs ops c.ne;have e:qa D pr nx E (on t (fO ops t.s).2):=c.at_ _;have hb:=Cs ops e.ne;have f:qa D pr nx E (on t (num ops (fO ops (fO ops t.s).2).2 20).2):=c.at_ _;obtain⟨g,h⟩:=f.kind ops (k:=(num ops (fO ops (fO ops t.s).2).2 20).1) (a:=(fO ops t.s).1) (b:=(fO ops (fO ops t.s).2).1) d hb;exact⟨g,(Gw.pos t _).trans h⟩
theorem qa.rows(ops:List Int):∀(i:Nat) {t:Dt},qa D pr nx E t->qa D pr nx E (on t (rows ops i t.s))/\Gw t (on t (rows ops i t.s))
 |0,t,hM=>⟨hM,Gw.refl t⟩
 | i + 1,t,hM=>by
   unfold Un.rows;split
   ·obtain⟨a,b⟩:=hM.vf ops
    obtain⟨c,d⟩:=qa.rows ops i a;exact⟨c,b.trans d⟩
   ·exact⟨hM,Gw.refl t⟩
theorem qa.row(a:qa D pr nx E t) (ops:List Int):qa D pr nx E (on t (row ops t.s))/\Gw t (on t (row ops t.s)):=by
 have b:qa D pr nx E (on t (num ops t.s 6).2):=a.at_ _;obtain⟨c,d⟩:=qa.rows ops (1+(num ops t.s 6).1) b;exact⟨c,(Gw.pos t _).trans d⟩
end
open Dm
def Lx(t t':Dt):Prop:=Le t t'/\t.s.ej.length<=t'.s.ej.length
theorem Lx.trans{t t' a:Dt}(b:Lx t t')(c:Lx t' a):Lx t a:=⟨b.1.trans c.1 b.2,KG b.2 c.2⟩
theorem Gw.lx{t t':Dt}(h:Gw t t'):Lx t t':=⟨h.le,h.len⟩
section
variable{D:Nat->Nat}{pr nx:Nat->List Nat}{E E':Nat->Prop}{t:Dt}
theorem qa.weaken(a:qa D pr nx E t) (h:∀v,E v->E' v):qa D pr nx E' t:=
 ⟨a.cat,a.Mn,λv x hv c=>let⟨b,d,e,f⟩:=a.ph v x hv c;(by grind),a.bk,a.st,a.pc,a.ne,a.kn⟩
theorem Jw(t:Dt) (fin cond:Nat) (n:List Nat) (state:Nat) (fi:List Nat):Lx t (end_ t fin cond n state fi):=by
 refine⟨⟨λw b h=>?_,λw b _ h=>?_,λw x h=>⟨x,h,rfl⟩,λs fs h=>h⟩,jO _⟩
 ·rcases h with⟨B,f,c⟩|⟨rfl,c⟩
  ·exact .inl ⟨B,by show(t.blocks++[_])[b]? =_;grind,c⟩
  ·exact .inl ⟨⟨t.s.cur,fin,cond,n,t.fi,state⟩,wBW,c⟩
 ·rcases h with⟨B,f,c⟩|⟨_,c⟩
  ·have a:(t.blocks++[⟨t.s.cur,fin,cond,n,t.fi,state⟩])[b]? =some B:=f;by_cases hb:b<t.blocks.length
   ·rw[Rk hb]at a;exact .inl ⟨B,a,c⟩
   ·have d:=(ki.1 a).1;simp at d;have e:b=t.blocks.length:=by omega
    subst e;rw[wBW]at a;obtain rfl:=Option.some.inj a;exact .inr ⟨rfl,c⟩
  ·cases c
theorem qa.end_(e:qa D pr nx E t) {fin cond:Nat} {n:List Nat} {state:Nat} {fi:List Nat} (u:n=nx t.blocks.length) (hp:fi=pr (t.blocks.length+1)) (k:Fin D t t.blocks.length ⟨t.s.cur,fin,cond,n,t.fi,state⟩) (y:∀w∈t.s.known,Kn D t (t.blocks.length+1) w) :
  qa D pr nx E (end_ t fin cond n state fi)/\(Un.end_ t fin cond n state fi).blocks.length=t.blocks.length+1:=by
 have c:=Jw t fin cond n state fi;have hlen:(Un.end_ t fin cond n state fi).blocks.length=t.blocks.length+1:=by simp[Un.end_]
 refine⟨⟨?_,λv x h=>(e.Mn v x h).mono c.1 (ki.1 h).1,λv x h z=>?_,λb B h=>?_,λs fs h=>?_,?_,e.ne,λw g=>?_⟩,hlen⟩
 ·show(t.blocks++[(⟨t.s.cur,fin,cond,n,t.fi,state⟩:Bk)]).flatMap (·.ej)++[]=List.range t.s.ej.length;rw[JL,List.flatMap_append,<-e.cat];simp
 ·obtain⟨b,l,m,i⟩:=e.ph v x h z;exact⟨b,c.1.ow _ _ l,m,λr=>⟨(i r).1,λj w q A C=>((i r).2 j w q A C).mono c.1⟩⟩
 ·have d:(t.blocks++[⟨t.s.cur,fin,cond,n,t.fi,state⟩])[b]? =some B:=h;by_cases hb:b<t.blocks.length
  ·rw[Rk hb]at d;exact⟨(e.bk b B d).1,(e.bk b B d).2.1,(e.bk b B d).2.2.mono c.1⟩
  ·have o:=(ki.1 d).1;simp at o;have p:b=t.blocks.length:=by omega
   subst p;rw[wBW]at d;obtain rfl:=Option.some.inj d;exact⟨u,e.pc,k.mono c.1⟩
 ·obtain⟨l,m⟩:=e.st s fs h;refine⟨l,λf k=>?_⟩;obtain⟨i,F,G,H⟩:=m f k;exact⟨i,F,λw g=>(G w g).imp λa h=>h.mono c.1,λw g=>(H w g).imp λa h=>h.mono c.1⟩
 ·rw[hlen];exact hp
 ·rw[hlen];exact(y w g).mono c.1
theorem qa.cut(c:qa D pr nx E t) {l:List Nat} (a:l≠[]) (b:∃k,t.s.known=l++k):qa D pr nx E (on t (cut l.length t.s))/\(on t (Un.cut l.length t.s)).s.known=l/\Lx t (on t (Un.cut l.length t.s)):=by
 obtain⟨k,b⟩:=b;have e:t.s.known.take l.length=l:=by rw[b];simp
 have d:=c.SP (l:=l) (λw g=>c.kn w (by simp_all)) a;have f:on t (Un.cut l.length t.s) = {t with s:={t.s with known:=l} }:=by
  unfold on Un.cut;rw[e]
 rw[f];exact⟨d,rfl,⟨⟨λ_ _ h=>h,λ_ _ _ h=>h,by simp_all,by simp_all⟩,jO _⟩⟩
theorem Kb{D:Nat->Nat}{a b:Nat}(h0:b≠0)(h:D b=a):qo D a b:= .up h0 (by rw[h];exact .refl _)
theorem UP(a:qa D pr nx E t) {args:List Nat} (hc:t.s.cur=[]\/∀w∈t.s.cur,∃y,t.s.ej[w]? =some y/\iO y.op=true) (h0:t.blocks.length≠0) (hp:¬E t.s.ej.length->zdd D t (pr t.blocks.length) (vl 21 0 0 0 args 0)) :
  qa D pr nx E (on t (put t.s (vl 21 0 0 0 args 0)))/\Lx t (on t (put t.s (vl 21 0 0 0 args 0)))/\Kn D (on t (put t.s (vl 21 0 0 0 args 0))) t.blocks.length t.s.ej.length/\Ow (on t (put t.s (vl 21 0 0 0 args 0))) t.s.ej.length t.blocks.length:=by
 obtain⟨b,c⟩:=a.put (x:=vl 21 0 0 0 args 0) (by simp[vl]) (by grind[vl]) (by grind[vl]) (λh=>absurd rfl h) (by grind[vl,leaves]) (by grind) (by simp_all);exact⟨b,⟨Q3 t _,by show _<=(t.s.ej++[_]).length;simp⟩,c rfl,.inr ⟨rfl,by show t.s.ej.length∈t.s.cur++[t.s.ej.length];simp⟩⟩
theorem zav(d:qa D pr nx E t) (ops:List Int) (n0:nx t.blocks.length=[t.blocks.length+1,t.blocks.length+2]) (n1:nx (t.blocks.length+1)=[t.blocks.length+3]) (n2:nx (t.blocks.length+2)=[t.blocks.length+3])
  (p1:pr (t.blocks.length+1)=[t.blocks.length]) (p2:pr (t.blocks.length+2)=[t.blocks.length]) (p3:pr (t.blocks.length+3)=[t.blocks.length+1,t.blocks.length+2])
  (d1:D (t.blocks.length+1)=t.blocks.length) (d2:D (t.blocks.length+2)=t.blocks.length) (d3:D (t.blocks.length+3)=t.blocks.length) :
  qa D pr nx E (fork ops t)/\(fork ops t).blocks.length=t.blocks.length+3:=by
 generalize h:t.blocks.length=a at*;have hc:=Cs ops d.ne;have A:qa D pr nx E (on t (fO ops t.s).2):=d.at_ _;have B:Lx t (on t (fO ops t.s).2):=(Gw.pos t _).lx;have C:(on t (fO ops t.s).2).s.known=t.s.known:=rfl;unfold fork;simp only;rw[h];generalize F:(fO ops t.s).1=cond at*;generalize (fO ops t.s).2=e at*;have e0:{t with s:=e} = on t e:=rfl;rw[e0];have f:(on t e).blocks.length=a:=h
 obtain ⟨m1,b1⟩:=A.end_ (fin:=2) (cond:=cond) (n:=[a+1,a+2]) (state:=0) (fi:=[a]) (by simp_all) (by simp_all) (.inr (.inl ⟨rfl,rfl,by rw[f,<-h];exact(d.kn cond hc).mono B.1⟩))
  (λw c=>by rw[f];exact((by rw[<-h];exact(d.kn w (by simp_all)).mono B.1:Kn D (on t e) a w)).up (Kb (by omega) d1))
 rw[f]at b1;have x1:=B.trans (Jw (on t e) 2 cond [a+1,a+2] 0 [a]);have G:(Un.end_ (on t e) 2 cond [a+1,a+2] 0 [a]).s.known=t.s.known:=C;generalize Un.end_ (on t e) 2 cond [a+1,a+2] 0 [a]=b at*;obtain⟨H,I⟩:=m1.row ops;have x2:=x1.trans I.lx;have b2:(on b (row ops b.s)).blocks.length=a+1:=by rw[I.blocks];exact b1
 have kx:=H.kn _ (Kg H.ne);obtain⟨k2,k⟩:=I.known;rw[G]at k;have eX:(row ops b.s).known.getLastD 0=(on b (row ops b.s)).s.known.getLastD 0:=rfl;rw[eX];generalize (on b (row ops b.s)).s.known.getLastD 0=x at*;obtain⟨m3,J,m⟩:=H.cut d.ne ⟨k2,k⟩;have U:=x2.trans m;have o:=kx.mono m.1;rw[b2]at o;have e3:{b with s:=Un.cut t.s.known.length (row ops b.s)} = on (on b (row ops b.s)) (Un.cut t.s.known.length (on b (row ops b.s)).s):=rfl;rw[e3];have b3:(on (on b (row ops b.s)) (Un.cut t.s.known.length (on b (row ops b.s)).s)).blocks.length=a+1:=b2;generalize on (on b (row ops b.s)) (Un.cut t.s.known.length (on b (row ops b.s)).s)=t3 at*
 obtain ⟨m4,V⟩:=m3.end_ (fin:=1) (cond:=0) (n:=[a+3]) (state:=0) (fi:=[a]) (by rw[b3,n1]) (by simp_all) (.inl ⟨rfl,rfl⟩)
  (λw c=>by rw[b3];exact((by rw[<-h];exact(d.kn w (by simp_all)).mono U.1:Kn D t3 a w)).up (Kb (by omega) d2))
 rw[b3]at V;have W:=Jw t3 1 0 [a+3] 0 [a];have x4:=U.trans W;have K:=o.mono W.1;have L:(Un.end_ t3 1 0 [a+3] 0 [a]).s.known=t.s.known:=J;generalize Un.end_ t3 1 0 [a+3] 0 [a]=t4 at*;obtain⟨M,u⟩:=m4.row ops;have x5:=x4.trans u.lx;have N:=K.mono u.le;have X:(on t4 (row ops t4.s)).blocks.length=a+2:=by rw[u.blocks];exact V
 have ky:=M.kn _ (Kg M.ne);obtain⟨k5,p⟩:=u.known;rw[L]at p;have eY:(row ops t4.s).known.getLastD 0=(on t4 (row ops t4.s)).s.known.getLastD 0:=rfl;rw[eY];generalize (on t4 (row ops t4.s)).s.known.getLastD 0=y at*;obtain⟨m6,aa,g⟩:=M.cut d.ne ⟨k5,p⟩;have x6:=x5.trans g;have O:=N.mono g.1;have r:=ky.mono g.1;rw[X]at r;have e6:{t4 with s:=Un.cut t.s.known.length (row ops t4.s)} = on (on t4 (row ops t4.s)) (Un.cut t.s.known.length (on t4 (row ops t4.s)).s):=rfl;rw[e6];have P:(on (on t4 (row ops t4.s)) (Un.cut t.s.known.length (on t4 (row ops t4.s)).s)).blocks.length=a+2:=X;generalize on (on t4 (row ops t4.s)) (Un.cut t.s.known.length (on t4 (row ops t4.s)).s)=v at*
 obtain ⟨m7,Q⟩:=m6.end_ (fin:=1) (cond:=0) (n:=[a+3]) (state:=0) (fi:=[a+1,a+2]) (by rw[P,n2]) (by simp_all) (.inl ⟨rfl,rfl⟩)
  (λw c=>by rw[P];exact((by rw[<-h];exact(d.kn w (by simp_all)).mono x6.1:Kn D v a w)).up (Kb (by omega) d3))
 rw [P]at Q;have Y:=Jw v 1 0 [a+3] 0 [a+1,a+2];have ab:=O.mono Y.1;have ac:=r.mono Y.1;have R:(Un.end_ v 1 0 [a+3] 0 [a+1,a+2]).s.cur=[]:=rfl;generalize Un.end_ v 1 0 [a+3] 0 [a+1,a+2]=t7 at*;obtain⟨Z,y8,S,_⟩:=UP m7 (args:=[x,y]) (.inl R) (by omega) (λ_=>by
  rw[Q,p3];refine⟨rfl,λj w q i z=>?_⟩
  match j,i,z with
  | 0,i,z=>
    obtain rfl:x=w:=by simpa[vl]using i
    simp_all
  | 1,i,z=>
    obtain rfl:y=w:=by simpa[vl]using i
    simp_all
  |j+2,i,z=>simp_all)
 have m9:=Z.SP (l:=t7.s.known++[t7.s.ej.length]) (λw c=>by
  rcases He.1 c with c|c
  ·exact Z.kn w c
  ·simp at c;subst c;exact S) (by simp)
 obtain⟨T,_⟩:=m9.row ops;exact⟨T,Q⟩
theorem zbm(e:qa D pr nx E t) (ops:List Int) (n0:nx t.blocks.length=[t.blocks.length+1,t.blocks.length+2]) (S:nx (t.blocks.length+1)=[])
  (p1:pr (t.blocks.length+1)=[t.blocks.length]) (p2:pr (t.blocks.length+2)=[t.blocks.length]) (d1:D (t.blocks.length+1)=t.blocks.length) (d2:D (t.blocks.length+2)=t.blocks.length) :
  qa D pr nx E (zl ops t)/\(zl ops t).blocks.length=t.blocks.length+2:=by
 generalize g:t.blocks.length=a at*;have hc:=Cs ops e.ne;have o:qa D pr nx E (on t (fO ops t.s).2):=e.at_ _;have p:Lx t (on t (fO ops t.s).2):=(Gw.pos t _).lx;have q:(on t (fO ops t.s).2).s.known=t.s.known:=rfl;unfold zl;simp only;rw[g];generalize r:(fO ops t.s).1=cond at*;generalize (fO ops t.s).2=c at*;have e0:{t with s:=c} = on t c:=rfl;rw[e0];have d:(on t c).blocks.length=a:=g
 obtain ⟨F,b1⟩:=o.end_ (fin:=2) (cond:=cond) (n:=[a+1,a+2]) (state:=0) (fi:=[a]) (by simp_all) (by simp_all) (.inr (.inl ⟨rfl,rfl,by rw[d,<-g];exact(e.kn cond hc).mono p.1⟩))
  (λw f=>by rw[d];exact((by rw[<-g];exact(e.kn w (by simp_all)).mono p.1:Kn D (on t c) a w)).up (by grind[Kb]))
 rw[d]at b1;have G:=p.trans (Jw (on t c) 2 cond [a+1,a+2] 0 [a]);have u:(Un.end_ (on t c) 2 cond [a+1,a+2] 0 [a]).s.known=t.s.known:=q;generalize Un.end_ (on t c) 2 cond [a+1,a+2] 0 [a]=b at*;obtain⟨H,v⟩:=F.row ops;have I:=G.trans v.lx;have b2:(on b (row ops b.s)).blocks.length=a+1:=by rw[v.blocks];exact b1
 obtain ⟨A,h⟩:=v.known;rw[u]at h;obtain⟨B,J,x,_,_,fs,y,K⟩:=H.state ops;have L:=I.trans J.lx;have b3:(on (on b (row ops b.s)) (fK ops (on b (row ops b.s)).s).2).blocks.length=a+1:=b2;have eS:fK ops (row ops b.s)=fK ops (on b (row ops b.s)).s:=rfl;rw[eS];have i:(on (on b (row ops b.s)) (fK ops (on b (row ops b.s)).s).2).s.known=t.s.known++A:=by
  show(fK ops (on b (row ops b.s)).s).2.known=_;rw[x,h]
 have j:∀w∈ik fs,Kn D (on (on b (row ops b.s)) (fK ops (on b (row ops b.s)).s).2) (a+1) w:=λw f=>by
  rw[<-b3];refine B.kn w ?_
  simp_all
 obtain⟨M,N,k⟩:=B.cut e.ne ⟨A,i⟩;have O:=L.trans k;generalize (fK ops (on b (row ops b.s)).s).1=st at*;have P:{b with s:=Un.cut t.s.known.length (fK ops (on b (row ops b.s)).s).2} = on (on (on b (row ops b.s)) (fK ops (on b (row ops b.s)).s).2) (Un.cut t.s.known.length (on (on b (row ops b.s)) (fK ops (on b (row ops b.s)).s).2).s):=rfl;rw[P];have l:(on (on (on b (row ops b.s)) (fK ops (on b (row ops b.s)).s).2) (Un.cut t.s.known.length (on (on b (row ops b.s)) (fK ops (on b (row ops b.s)).s).2).s)).s.ev[st]? =some fs:=y;have m:=λw f=>(j w f).mono k.1;have z:(on (on (on b (row ops b.s)) (fK ops (on b (row ops b.s)).s).2) (Un.cut t.s.known.length (on (on b (row ops b.s)) (fK ops (on b (row ops b.s)).s).2).s)).blocks.length=a+1:=b2;generalize on (on (on b (row ops b.s)) (fK ops (on b (row ops b.s)).s).2) (Un.cut t.s.known.length (on (on b (row ops b.s)) (fK ops (on b (row ops b.s)).s).2).s)=t4 at*
 obtain ⟨Q,C⟩:=M.end_ (fin:=3) (cond:=0) (n:=[]) (state:=st) (fi:=[a]) (by simp_all) (by simp_all) (.inr (.inr ⟨rfl,rfl,fs,l,λw f=>by rw[z];exact m w f⟩))
  (λw f=>by rw[z];exact((by rw[<-g];exact(e.kn w (by simp_all)).mono O.1:Kn D t4 a w)).up (by grind[Kb]))
 rw[z]at C;generalize Un.end_ t4 3 0 [] st [a]=t5 at*;obtain⟨R,_⟩:=Q.row ops;exact⟨R,C⟩
theorem zcD(t:Dt) (v:Nat) (args:List Nat):Lx t (on t (setArgs t.s v args)):=by
 refine⟨⟨λ_ _ h=>h,λ_ _ _ h=>h,λw x h=>?_,λ_ _ h=>h⟩,by show _<=(t.s.ej.modify v _).length;simp_all⟩;show ∃y,(t.s.ej.modify v λx=>{x with args:=args})[w]? =some y/\y.op=x.op
 grind
theorem JA(e:qa D pr nx E t) {v b:Nat} {x:Vl} {args:List Nat} (hv:t.s.ej[v]? =some x) (J:x.op=21) (hb:Ow t v b) (h0:b≠0) (hp:args.length=(pr b).length/\∀(j w q:Nat),args[j]? =some w->(pr b)[j]? =some q->Kn D t q w) (K:∀w,w≠v->¬E' w->¬E w) :
  qa D pr nx E' (on t (setArgs t.s v args))/\Lx t (on t (setArgs t.s v args)):=by
 have d:=zcD t v args;refine⟨?_,d⟩;have g:∀(w:Nat) (y:Vl),(on t (setArgs t.s v args)).s.ej[w]? =some y->(w≠v/\t.s.ej[w]? =some y)\/(w=v/\y = {x with args:=args}):=λw y h=>by
  have h':(t.s.ej.modify v λx=>{x with args:=args})[w]? =some y:=h
  grind
 have i:=(ki.1 hv).1;refine⟨by show t.blocks.flatMap (λB:Bk=>B.ej)++t.s.cur=List.range (t.s.ej.modify v _).length;rw[List.length_modify];exact e.cat,λw y h=>?_,λw y h n=>?_,λc B h=>⟨(e.bk c B h).1,(e.bk c B h).2.1,(e.bk c B h).2.2.mono d.1⟩,λs fs h=>?_,e.pc,e.ne,λw k=>(e.kn w k).mono d.1⟩
 ·rcases g w y h with⟨_,h⟩|⟨rfl,rfl⟩
  ·exact(e.Mn w y h).mono d.1 (by grind)
  ·have A:=(e.Mn w x hv).mono d.1 i;obtain⟨c,l,_,_,o⟩:=A.own;refine⟨A.op,λh=>?_,λh=>?_,c,l,by simp_all,λh=>?_,o⟩
   ·simp_all
   ·simp_all
   simp_all
 ·rcases g w y h with⟨C,h⟩|⟨rfl,rfl⟩
  ·obtain⟨c,l,p,m⟩:=e.ph w y h n;exact⟨c,l,p,λF=>⟨(m (by simp_all)).1,λj u q r z=>((m (by simp_all)).2 j u q r z).mono d.1⟩⟩
  ·exact⟨b,hb,h0,λ_=>⟨hp.1,λj u q r z=>(hp.2 j u q r z).mono d.1⟩⟩
 ·obtain⟨l,p⟩:=e.st s fs h;refine⟨l,λf G=>?_⟩;obtain⟨m,o,H,I⟩:=p f G;exact⟨m,o,λw k=>(H w k).imp λa h=>h.mono d.1,λw k=>(I w k).imp λa h=>h.mono d.1⟩
theorem KZ{P:Nat->Nat->Prop} {x y q r:Nat} (a:P q x) (b:P r y):([x,y]:List Nat).length=([q,r]:List Nat).length/\∀(j w p:Nat),([x,y]:List Nat)[j]? =some w->([q,r]:List Nat)[j]? =some p->P p w:=by
 grind
structure Hd (D:Nat->Nat) (t b:Dt) (p f g less a:Nat):Prop where
 lx:Lx t b
 blocks:b.blocks.length=a+2
 kf:Kn D b a f
 kg:Kn D b a g
 kl:Kn D b (a+1) less
 op:Ow b p (a+1)
 oq:Ow b (p+1) (a+1)
 vp:∃x,b.s.ej[p]? =some x/\x.op=21
 vq:∃x,b.s.ej[p+1]? =some x/\x.op=21
 kn:∀w∈b.s.known,Kn D b (a+1) w
end
open Dm
section
variable{D:Nat->Nat}{pr nx:Nat->List Nat}{E E':Nat->Prop}{t:Dt}
set_option maxHeartbeats 2000000 in
theorem zaf (hM:qa D pr nx E t) (ops:List Int) (n0:nx t.blocks.length=[t.blocks.length+1]) (n1:nx (t.blocks.length+1)=[t.blocks.length+2,t.blocks.length+3]) (n2:nx (t.blocks.length+2)=[t.blocks.length+1])
  (p1:pr (t.blocks.length+1)=[t.blocks.length,t.blocks.length+2]) (p2:pr (t.blocks.length+2)=[t.blocks.length+1]) (p3:pr (t.blocks.length+3)=[t.blocks.length+1])
  (d1:D (t.blocks.length+1)=t.blocks.length) (d2:D (t.blocks.length+2)=t.blocks.length+1) (d3:D (t.blocks.length+3)=t.blocks.length+1) :
  qa D pr nx E (loop ops t)/\(loop ops t).blocks.length=t.blocks.length+3:=by
 generalize ha:t.blocks.length=a at*;have hf:=Cs ops hM.ne;have br:qa D pr nx E (on t (fO ops t.s).2):=hM.at_ _;have x0:Lx t (on t (fO ops t.s).2):=(Gw.pos t _).lx;have aJ:(on t (fO ops t.s).2).s.known=t.s.known:=rfl;unfold loop;simp only;rw[ha];generalize bS:(fO ops t.s).1=f at*;generalize (fO ops t.s).2=s0 at*;have e0:{t with s:=s0} = on t s0:=rfl;rw[e0];have V:(on t s0).blocks.length=a:=ha
 obtain ⟨bt,b1⟩:=br.end_ (fin:=1) (cond:=0) (n:=[a+1]) (state:=0) (fi:=[a,a+2]) (by rw[V,n0]) (by rw[V,p1]) (.inl ⟨rfl,rfl⟩)
  (λw i=>by rw[V];exact((by rw[<-ha];exact(hM.kn w (by rw[<-aJ];exact i)).mono x0.1:Kn D (on t s0) a w)).up (Kb (by omega) d1))
 rw[V]at b1;have x1:=x0.trans (Jw (on t s0) 1 0 [a+1] 0 [a,a+2]);have aK:(Un.end_ (on t s0) 1 0 [a+1] 0 [a,a+2]).s.known=t.s.known:=aJ;have aL:(Un.end_ (on t s0) 1 0 [a+1] 0 [a,a+2]).s.cur=[]:=rfl;generalize Un.end_ (on t s0) 1 0 [a+1] 0 [a,a+2]=c at*;generalize hp:c.s.ej.length=p at*;have m1:=bt.weaken (E':=λv=>E v\/v=p\/v=p+1) λv h=> .inl h;obtain⟨m2,y2,_,ah⟩:=UP m1 (args:=[f,0]) (.inl aL) (by omega) (λh=>absurd (.inr (.inl hp)) h);rw[hp,b1]at ah;have v2:(on c (put c.s (vl 21 0 0 0 [f,0] 0))).s.ej.length=p+1:=by show(c.s.ej++[_]).length=_;simp[hp]
 have aM:∃x,(on c (put c.s (vl 21 0 0 0 [f,0] 0))).s.ej[p]? =some x/\x.op=21:=⟨vl 21 0 0 0 [f,0] 0,by show(c.s.ej++[_])[p]? =_;rw[<-hp];simp,rfl⟩
 have bu:(on c (put c.s (vl 21 0 0 0 [f,0] 0))).s.known=t.s.known:=aK;have ai:(on c (put c.s (vl 21 0 0 0 [f,0] 0))).s.cur=[p]:=by show c.s.cur++[c.s.ej.length]=_;rw[aL,hp];rfl
 have b2:(on c (put c.s (vl 21 0 0 0 [f,0] 0))).blocks.length=a+1:=b1;have x2:=x1.trans y2;have hg:=Cs ops m2.ne;rw[bu]at hg;have eG:fO ops (put c.s (vl 21 0 0 0 [f,0] 0))=fO ops (on c (put c.s (vl 21 0 0 0 [f,0] 0))).s:=rfl;rw[eG];have m3:qa D pr nx (λv=>E v\/v=p\/v=p+1) (on (on c (put c.s (vl 21 0 0 0 [f,0] 0))) (fO ops (on c (put c.s (vl 21 0 0 0 [f,0] 0))).s).2):=m2.at_ _;have g3:Gw (on c (put c.s (vl 21 0 0 0 [f,0] 0))) (on (on c (put c.s (vl 21 0 0 0 [f,0] 0))) (fO ops (on c (put c.s (vl 21 0 0 0 [f,0] 0))).s).2):=Gw.pos _ _;have v3:(fO ops (on c (put c.s (vl 21 0 0 0 [f,0] 0))).s).2.ej.length=p+1:=v2;have aN:(fO ops (on c (put c.s (vl 21 0 0 0 [f,0] 0))).s).2.known=t.s.known:=aK;have aj:(fO ops (on c (put c.s (vl 21 0 0 0 [f,0] 0))).s).2.cur=[p]:=ai;have ak:∃x,(fO ops (on c (put c.s (vl 21 0 0 0 [f,0] 0))).s).2.ej[p]? =some x/\x.op=21:=aM;generalize (fO ops (on c (put c.s (vl 21 0 0 0 [f,0] 0))).s).1=g at*;generalize (fO ops (on c (put c.s (vl 21 0 0 0 [f,0] 0))).s).2=j at*;have x3:Lx t (on c j):=x2.trans g3.lx;have aO:Ow (on c j) p (a+1):=g3.le.ow _ _ ah;have m3:qa D pr nx (λv=>E v\/v=p\/v=p+1) (on c j):=m3;have b3:(on c j).blocks.length=a+1:=b1;obtain⟨m4,y4,al,am⟩:=UP m3 (args:=[g,p]) (.inr λw i=>by
  have M:w∈j.cur:=i;rw[aj]at M;simp at M;subst M;obtain⟨x,H,I⟩:=ak;exact⟨x,H,by rw[I];rfl⟩) (by omega) (λh=>absurd (.inr (.inr v3)) h)
 have bw:(on c j).s.ej.length=p+1:=v3;rw[bw,b3]at al am;have x4:=x3.trans y4;have an:=y4.1.ow _ _ aO;have ao:∃x,(on (on c j) (put (on c j).s (vl 21 0 0 0 [g,p] 0))).s.ej[p]? =some x/\x.op=21:=by
  obtain⟨x,H,I⟩:=ak;obtain⟨y,W,X⟩:=y4.1.val p x H;exact⟨y,W,by rw[X,I]⟩
 have aP:∃x,(on (on c j) (put (on c j).s (vl 21 0 0 0 [g,p] 0))).s.ej[p+1]? =some x/\x.op=21:=⟨vl 21 0 0 0 [g,p] 0,by show(j.ej++[_])[p+1]? =_;rw[<-v3];simp,rfl⟩
 have aQ:Kn D (on (on c j) (put (on c j).s (vl 21 0 0 0 [g,p] 0))) (a+1) p:=by
  obtain⟨x,H,I⟩:=ao;exact⟨_,x,an,.refl _,H,by rw[I];rfl⟩
 have m5:=m4.SP (l:=t.s.known++[p,p+1]) (λw i=>by
  rcases He.1 i with i|i
  ·exact m4.kn w (by show w∈j.known;rw[aN];exact i)
  ·have b4:(on (on c j) (put (on c j).s (vl 21 0 0 0 [g,p] 0))).blocks.length=a+1:=b1;rw[b4];simp at i;rcases i with rfl|rfl
   ·exact aQ
   ·exact al) (by simp)
 have e5:{put j (vl 21 0 0 0 [g,p] 0)with known:=(put j (vl 21 0 0 0 [g,p] 0)).known++[p,p+1]} = {put j (vl 21 0 0 0 [g,p] 0)with known:=t.s.known++[p,p+1]}:=by
  have:(put j (vl 21 0 0 0 [g,p] 0)).known=t.s.known:=aN;rw[this]
 rw[e5];have m5:qa D pr nx (λv=>E v\/v=p\/v=p+1) (on c {put j (vl 21 0 0 0 [g,p] 0)with known:=t.s.known++[p,p+1]}):=m5;have x5:Lx t (on c {put j (vl 21 0 0 0 [g,p] 0)with known:=t.s.known++[p,p+1]}):=⟨⟨x4.1.ow,x4.1.back,x4.1.val,x4.1.st⟩,x4.2⟩
 have aR:Ow (on c {put j (vl 21 0 0 0 [g,p] 0)with known:=t.s.known++[p,p+1]}) p (a+1):=an;have aS:Ow (on c {put j (vl 21 0 0 0 [g,p] 0)with known:=t.s.known++[p,p+1]}) (p+1) (a+1):=am;have aT:∃x,(on c {put j (vl 21 0 0 0 [g,p] 0)with known:=t.s.known++[p,p+1]}).s.ej[p]? =some x/\x.op=21:=ao;have aU:∃x,(on c {put j (vl 21 0 0 0 [g,p] 0)with known:=t.s.known++[p,p+1]}).s.ej[p+1]? =some x/\x.op=21:=aP;have bx:(on c {put j (vl 21 0 0 0 [g,p] 0)with known:=t.s.known++[p,p+1]}).s.known=t.s.known++[p,p+1]:=rfl;clear m4 y4 x4 an am ao aP al aQ m3 m2 y2 g3 ah aO aM ak e5;generalize bU:({put j (vl 21 0 0 0 [g,p] 0)with known:=t.s.known++[p,p+1]}:Ds)=G at*;obtain⟨m6,g6,aV,_,_,fs,h5,h6⟩:=m5.state ops;have eS:fK ops G=fK ops (on c G).s:=rfl;rw[eS];obtain⟨m7,g7,_⟩:=m6.T5 (x:=vl 23 0 0 0 [] (fK ops (on c G).s).1) (by simp only[vl];omega) (λh=>by simp only[vl]at h;omega) (λw i=>by simp[hK,vl,two,nq]at i) (λ_=>⟨fs,h5,λw i=>by show w∈(fK ops (on c G).s).2.known;rw[aV];exact h6 w i⟩);have Y:=g6.trans g7;have m7:qa D pr nx (λv=>E v\/v=p\/v=p+1) (on c (put (fK ops (on c G).s).2 (vl 23 0 0 0 [] (fK ops (on c G).s).1))):=m7;have Y:Gw (on c G) (on c (put (fK ops (on c G).s).2 (vl 23 0 0 0 [] (fK ops (on c G).s).1))):=Y;have bz:(put (fK ops (on c G).s).2 (vl 23 0 0 0 [] (fK ops (on c G).s).1)).known=t.s.known++[p,p+1]:=by show(fK ops (on c G).s).2.known=_;rw[aV];exact bx
 generalize put (fK ops (on c G).s).2 (vl 23 0 0 0 [] (fK ops (on c G).s).1)=N at*;obtain⟨m8,g8,o⟩:=m7.T5 (x:=vl 2 0 0 1 [] 0) (by simp only[vl];omega) (λh=>by simp only[vl]at h;omega) (λw i=>by simp[hK,vl,two,nq]at i) (λh=>by simp[vl,leaves]at h);have b8:(on c N).blocks.length=a+1:=b1;have o:=o rfl;rw[b8]at o;have m8:qa D pr nx (λv=>E v\/v=p\/v=p+1) (on c (put N (vl 2 0 0 1 [] 0))):=m8;have g8:Gw (on c N) (on c (put N (vl 2 0 0 1 [] 0))):=g8;have o:Kn D (on c (put N (vl 2 0 0 1 [] 0))) (a+1) N.ej.length:=o;have v8:(put N (vl 2 0 0 1 [] 0)).ej.length=N.ej.length+1:=by simp[put]
 have aW:(put N (vl 2 0 0 1 [] 0)).known=t.s.known++[p,p+1]:=bz;generalize bR:N.ej.length=one at*;generalize put N (vl 2 0 0 1 [] 0)=A at*;have b8:(on c A).blocks.length=a+1:=b1;have ap:p∈(on c A).s.known:=by show p∈A.known;rw[aW];simp
 obtain ⟨m9,k⟩:=m8.put (x:=vl 4 p one 0 [] 0) (by simp[vl]) (λh=>by simp[vl]at h) (λh=>by simp[vl]at h) (λ_ w i=>by
  have M:w=p\/w=one:=by simpa[hK,vl,two]using i
  rcases M with rfl|rfl
  ·exact m8.kn _ ap
  ·rw[b8];exact o) (λh=>by simp[vl,leaves]at h) (λh=>by simp[vl,iO]at h) (λh=>by simp[vl]at h)
 have y9:Lx (on c A) (Uj (on c A) (vl 4 p one 0 [] 0)):=⟨Q3 _ _,by show _<=(A.ej++[_]).length;simp[on]⟩
 have k:=k rfl;have O:=m9.SP (l:=A.known++[A.ej.length]) (λw i=>by
  rcases He.1 i with i|i
  ·exact m9.kn w i
  ·simp at i;subst i;exact k) (by simp)
 have O:qa D pr nx (λv=>E v\/v=p\/v=p+1) (on c (jd A (vl 4 p one 0 [] 0))):=O;have k:Kn D (on c (jd A (vl 4 p one 0 [] 0))) (a+1) (one+1):=by
  rw[<-v8,<-b8];exact k
 have y9:Lx (on c A) (on c (jd A (vl 4 p one 0 [] 0))):=⟨⟨y9.1.ow,y9.1.back,y9.1.val,y9.1.st⟩,y9.2⟩
 have aX:(jd A (vl 4 p one 0 [] 0)).known=t.s.known++[p,p+1]++[A.ej.length]:=by show A.known++_=_;rw[aW]
 have Q:=((Y.lx.trans g8.lx).trans y9)
 have bA:=x5.trans Q;generalize jd A (vl 4 p one 0 [] 0)=d at*;have aY:=Q.1.ow _ _ aR;have aZ:=Q.1.ow _ _ aS;have a4:∃x,(on c d).s.ej[p]? =some x/\x.op=21:=by
  obtain⟨x,H,I⟩:=aT;obtain⟨y,W,X⟩:=Q.1.val p x H;exact⟨y,W,by rw[X,I]⟩
 have a5:∃x,(on c d).s.ej[p+1]? =some x/\x.op=21:=by
  obtain⟨x,H,I⟩:=aU;obtain⟨y,W,X⟩:=Q.1.val (p+1) x H;exact⟨y,W,by rw[X,I]⟩
 clear m9 m8 m7 m6 m5 Y g6 g7 g8 y9 o h5 h6 x5 aR aS aT aU;have bC:{c with s:=d} = on c d:=rfl;rw[bC];have J:(on c d).blocks.length=a+1:=b1;have R:∀w∈d.known,Kn D (on c d) (a+1) w:=λw i=>by rw[<-J];exact O.kn w i
 have ap:p∈d.known:=by rw[aX];simp
 obtain ⟨bD,aq⟩:=O.end_ (fin:=2) (cond:=p) (n:=[a+2,a+3]) (state:=0) (fi:=[a+1]) (by rw[J,n1]) (by rw[J];exact p2.symm) (.inr (.inl ⟨rfl,rfl,by rw[J];exact R p ap⟩))
  (λw i=>by rw[J];exact(R w i).up (Kb (by omega) d2))
 rw[J]at aq;have bE:=Jw (on c d) 2 p [a+2,a+3] 0 [a+1];have a6:(Un.end_ (on c d) 2 p [a+2,a+3] 0 [a+1]).s.known=d.known:=rfl;generalize Un.end_ (on c d) 2 p [a+2,a+3] 0 [a+1]=e at*;obtain⟨ar,au⟩:=bD.row ops;have B:=bE.trans au.lx;have a7:=bA.trans B;have bG:(on e (row ops e.s)).blocks.length=a+2:=by rw[au.blocks];exact aq
 have kz:=ar.kn _ (Kg ar.ne);rw[bG]at kz;obtain⟨K,aa⟩:=au.known;rw[a6]at aa;have kz:Kn D (on e (row ops e.s)) (a+2) ((row ops e.s).known.getLastD 0):=kz;have ab:=B.1.ow _ _ aY;have a8:=B.1.ow _ _ aZ;have a9:∃x,(on e (row ops e.s)).s.ej[p]? =some x/\x.op=21:=by
  obtain⟨x,H,I⟩:=a4;obtain⟨y,W,X⟩:=B.1.val p x H;exact⟨y,W,by rw[X,I]⟩
 have ba:∃x,(on e (row ops e.s)).s.ej[p+1]? =some x/\x.op=21:=by
  obtain⟨x,H,I⟩:=a5;obtain⟨y,W,X⟩:=B.1.val (p+1) x H;exact⟨y,W,by rw[X,I]⟩
 have S:=(k.mono B.1).up (Kb (D:=D) (a:=a+1) (b:=a+2) (by omega) d2);have bb:∀w∈d.known,Kn D (on e (row ops e.s)) (a+1) w:=λw i=>(R w i).mono B.1;have ac:Kn D (on e (row ops e.s)) a f:=by rw[<-ha];exact(hM.kn f hf).mono a7.1
 have bc:Kn D (on e (row ops e.s)) a g:=by rw[<-ha];exact(hM.kn g hg).mono a7.1
 have aw:(row ops e.s).known=d.known++K:=aa;generalize (row ops e.s).known.getLastD 0=z at*;generalize row ops e.s=r at*;obtain⟨xp,bd,ae⟩:=a9;obtain⟨ax,ay⟩:=JA (E':=λv=>E v\/v=p+1) ar bd ae ab (by omega) (args:=[f,one+1]) (by rw[p1];exact KZ (P:=λq w=>Kn D (on e r) q w) ac S) (λw aA hE=>by
  rintro(h|h|h)
  ·exact hE (.inl h)
  ·exact aA h
  ·exact hE (.inr h))
 have ax:qa D pr nx (λv=>E v\/v=p+1) (on e (setArgs r p [f,one+1])):=ax;have ay:Lx (on e r) (on e (setArgs r p [f,one+1])):=ay;have be:(setArgs r p [f,one+1]).known=d.known++K:=aw;generalize setArgs r p [f,one+1]=C at*;have bf:qa D pr nx (λv=>E v\/v=p+1) (on e (num ops C 3).2):=ax.at_ _;have L:Lx (on e r) (on e (num ops C 3).2):=ay.trans (Gw.pos (on e C) (draw ops C.pos 3).2).lx;have ag:(num ops C 3).2.known=d.known++K:=be;generalize (num ops C 3).1=dd at*;generalize (num ops C 3).2=aB at*;have aC:∃u,(if dd=0 then setArgs aB p [f,z] else aB)=u/\qa D pr nx (λv=>E v\/v=p+1) (on e u)/\Lx (on e r) (on e u)/\u.known=d.known++K:=by
  by_cases hd:dd=0
  ·rw[if_pos hd];obtain⟨bV,bg,aD⟩:=L.1.val p xp bd;obtain⟨m,y⟩:=JA (E':=λv=>E v\/v=p+1) bf bg (by rw[aD,ae]) (L.1.ow _ _ ab) (by omega) (args:=[f,z]) (by rw[p1];exact KZ (P:=λq w=>Kn D (on e aB) q w) (ac.mono L.1) (kz.mono L.1)) (λw _ hE=>hE);exact⟨_,rfl,m,L.trans y,ag⟩
  ·rw[if_neg hd];exact⟨_,rfl,bf,L,ag⟩
 obtain ⟨u,bH,bI,T,bh⟩:=aC;rw[bH];obtain⟨xq,bJ,bi⟩:=ba;obtain⟨bW,bj,aE⟩:=T.1.val (p+1) xq bJ;obtain⟨aF,aG⟩:=JA (E':=E) bI bj (by rw[aE,bi]) (T.1.ow _ _ a8) (by omega) (args:=[g,z]) (by rw[p1];exact KZ (P:=λq w=>Kn D (on e u) q w) (bc.mono T.1) (kz.mono T.1)) (λw aA hE=>by
  rintro(h|h)
  ·exact hE h
  ·exact aA h)
 have aF:qa D pr nx E (on e (setArgs u (p+1) [g,z])):=aF;have aG:Lx (on e r) (on e (setArgs u (p+1) [g,z])):=T.trans aG;have bm:(setArgs u (p+1) [g,z]).known=d.known++K:=bh;generalize setArgs u (p+1) [g,z]=F at*;obtain⟨aH,U,aI⟩:=aF.cut O.ne ⟨K,bm⟩;have aH:qa D pr nx E (on e (Un.cut d.known.length F)):=aH;have aI:Lx (on e r) (on e (Un.cut d.known.length F)):=aG.trans aI;have U:(on e (Un.cut d.known.length F)).s.known=d.known:=U;have bK:{e with s:=Un.cut d.known.length F} = on e (Un.cut d.known.length F):=rfl;rw[bK];have Z:(on e (Un.cut d.known.length F)).blocks.length=a+2:=aq;generalize on e (Un.cut d.known.length F)=t3 at*
 obtain ⟨bL,bo⟩:=aH.end_ (fin:=1) (cond:=0) (n:=[a+1]) (state:=0) (fi:=[a+1]) (by rw[Z,n2]) (by rw[Z];exact p3.symm) (.inl ⟨rfl,rfl⟩)
  (λw i=>by rw[Z];rw[U]at i;exact((bb w i).mono aI.1).up (Kb (by omega) d3))
 rw[Z]at bo;generalize Un.end_ t3 1 0 [a+1] 0 [a+1]=t4 at*;obtain⟨bQ,_⟩:=bL.row ops;exact⟨bQ,bo⟩
end
