/- Parts. -/
import Derived.Test.YtpnddokajmjpbaaDoorM11
namespace Go.Proofs.YtpnddokajmjpbaaDoor.Un
open Go.Proofs.YtpnddokajmjpbaaDoor.Dm
def Ow (t:Dt)(v b:Nat):Prop:=(∃B,t.blocks[b]? =some B/\v∈B.ee)\/(b=t.blocks.length/\v∈t.s.cur)
def Kn (D:Nat->Nat)(t:Dt)(a w:Nat):Prop:=∃(b:Nat) (x:Vl),Ow t w b/\ot D b a/\t.s.ee[w]? =some x/\EM x.op=true
structure Le (t t':Dt):Prop where
 ow:∀(w b:Nat),Ow t w b->Ow t' w b
 back:∀(w b:Nat),w<t.s.ee.length->Ow t' w b->Ow t w b
 val:∀(w:Nat) (x:Vl),t.s.ee[w]? =some x->∃y,t'.s.ee[w]? =some y/\y.op=x.op
 st:∀(s:Nat) (fs:List Fm),t.s.eh[s]? =some fs->t'.s.eh[s]? =some fs
theorem Le.refl (t:Dt):Le t t:=⟨λ_ _ h=>h,λ_ _ _ h=>h,λ_ x h=>⟨x,h,rfl⟩,λ_ _ h=>h⟩
theorem Kn.mono {D:Nat->Nat} {t t':Dt} {a w:Nat} (h:Kn D t a w) (c:Le t t'):Kn D t' a w:=by
 obtain⟨b,x,d,e,f,g⟩:=h;obtain⟨y,i,j⟩:=c.val w x f;exact⟨b,y,c.ow w b d,e,i,by rw[j];exact g⟩
theorem Kn.up {D:Nat->Nat} {t:Dt} {a c w:Nat} (h:Kn D t a w) (d:ot D a c):Kn D t c w:=by
 obtain⟨b,x,e,f,g⟩:=h;exact⟨b,x,e,f.trans d,g⟩
theorem Kn.lt {D:Nat->Nat} {t:Dt} {a w:Nat} (h:Kn D t a w):w<t.s.ee.length:=by
 obtain⟨b,x,_,_,c,_⟩:=h;exact(iB.1 c).1
structure Vok (D:Nat->Nat) (t:Dt) (v:Nat) (x:Vl):Prop where
 op:1<=x.op/\x.op<=23
 putAt:x.op=20->x.args.length=1
 par:x.op=1->Ow t v 0/\x.n=(v:Nat)/\v<5
 own:∃b,Ow t v b/\(x.op≠21->∀w∈gJ x,w<v/\Kn D t b w)/\(leaves x.op=true->∃fs,t.s.eh[x.state]? =some fs/\∀w∈ie fs,w<v/\Kn D t b w)/\
  (iG x.op=true->∀w,Ow t w b->w<v->∃y,t.s.ee[w]? =some y/\iG y.op=true)
theorem Vok.mono {D:Nat->Nat} {t t':Dt} {v:Nat} {x:Vl} (h:Vok D t v x) (a:Le t t') (hv:v<t.s.ee.length):Vok D t' v x:=by
 obtain⟨b,d,i,k,l⟩:=h.own;refine⟨h.op,h.putAt,λd=>⟨a.ow _ _ (h.par d).1,(h.par d).2⟩,b,a.ow _ _ d,λj w c=>⟨(i j w c).1,(i j w c).2.mono a⟩,λm=>?_,λn w c f=>?_⟩
 ·obtain⟨fs,g,e⟩:=k m;exact⟨fs,a.st _ _ g,λw c=>⟨(e w c).1,(e w c).2.mono a⟩⟩
 ·obtain⟨y,g,e⟩:=l n w (a.back w b (by omega) c) f;obtain⟨z,o,p⟩:=a.val w y g;exact⟨z,o,by rw[p];exact e⟩
def Y8 (D:Nat->Nat)(t:Dt)(ps:List Nat)(x:Vl):Prop:=x.args.length=ps.length/\∀(j w q:Nat),x.args[j]? =some w->ps[j]? =some q->Kn D t q w
def Fin (D:Nat->Nat)(t:Dt)(b:Nat)(B:Bk):Prop:=(B.fin=1/\B.next.length=1)\/(B.fin=2/\B.next.length=2/\Kn D t b B.cond)\/(B.fin=3/\B.next=[]/\∃fs,t.s.eh[B.state]? =some fs/\∀w∈ie fs,Kn D t b w)
theorem Fin.mono {D:Nat->Nat} {t t':Dt} {b:Nat} {B:Bk} (h:Fin D t b B) (a:Le t t'):Fin D t' b B:=by
 rcases h with h|⟨c,d,e⟩|⟨c,d,fs,e,f⟩
 ·exact .inl h
 ·exact .inr (.inl ⟨c,d,e.mono a⟩)
 ·exact .inr (.inr ⟨c,d,fs,a.st _ _ e,λw g=>(f w g).mono a⟩)
structure nV (D:Nat->Nat) (pr nx:Nat->List Nat) (E:Nat->Prop) (t:Dt):Prop where
 cat:t.blocks.flatMap (·.ee)++t.s.cur=List.range t.s.ee.length
 IX:∀(v:Nat) (x:Vl),t.s.ee[v]? =some x->Vok D t v x
 ph:∀(v:Nat) (x:Vl),t.s.ee[v]? =some x->x.op=21->∃b,Ow t v b/\b≠0/\(¬E v->Y8 D t (pr b) x)
 bk:∀(b:Nat) (B:Bk),t.blocks[b]? =some B->B.next=nx b/\B.fe=pr b/\Fin D t b B
 st:∀(s:Nat) (fs:List Fm),t.s.eh[s]? =some fs->fs.length=1/\∀f∈fs,f.locals.length<=3/\f.stack.length=1/\(∀w∈f.locals,∃a,Kn D t a w)/\∀w∈f.stack,∃a,Kn D t a w
 pc:t.fe=pr t.blocks.length
 ne:t.s.known≠[]
 kn:∀w∈t.s.known,Kn D t t.blocks.length w
section
variable{D:Nat->Nat}{pr nx:Nat->List Nat}{E:Nat->Prop}{t:Dt}
def QH (t:Dt)(x:Vl):Dt:={t with s:=put t.s x}
theorem MA (t:Dt) (x:Vl):Le t (QH t x) where
 ow w b h:=by
  rcases h with h|⟨c,d⟩
  ·exact .inl h
  ·exact .inr ⟨c,by show w∈t.s.cur++_;exact LC _ d⟩
 back w b hw h:=by
  rcases h with h|⟨c,d⟩
  ·exact .inl h
  ·refine .inr ⟨c,?_⟩;have a:w∈t.s.cur++[t.s.ee.length]:=d;rcases xX.1 a with a|a
   ·exact a
   ·simp at a;omega
 val w y h:=⟨y,by show(t.s.ee++[x])[w]? =some y;rw[Ns (iB.1 h).1];exact h,rfl⟩
 st s fs h:=h
theorem nV.put (l:nV D pr nx E t) {x:Vl} (N:1<=x.op/\x.op<=23) (C:x.op=20->x.args.length=1) (p:x.op=1->t.blocks.length=0/\x.n=(t.s.ee.length:Nat)/\t.s.ee.length<5)
  (L:x.op≠21->∀w∈gJ x,Kn D t t.blocks.length w) (O:leaves x.op=true->∃fs,t.s.eh[x.state]? =some fs/\∀w∈ie fs,Kn D t t.blocks.length w)
  (P:iG x.op=true->∀w∈t.s.cur,∃y,t.s.ee[w]? =some y/\iG y.op=true) (F:x.op=21->t.blocks.length≠0/\(¬E t.s.ee.length->Y8 D t (pr t.blocks.length) x)) :
  nV D pr nx E (QH t x)/\(EM x.op=true->Kn D (QH t x) t.blocks.length t.s.ee.length):=by
 have c:=MA t x;have d:Ow (QH t x) t.s.ee.length t.blocks.length:= .inr ⟨rfl,by show t.s.ee.length∈t.s.cur++[t.s.ee.length];simp⟩;have r:(QH t x).s.ee[t.s.ee.length]? =some x:=by show(t.s.ee++[x])[t.s.ee.length]? =some x;simp
 have i:∀(v:Nat) (y:Vl),(QH t x).s.ee[v]? =some y->t.s.ee[v]? =some y\/v=t.s.ee.length/\y=x:=λv y h=>by
  have h':(t.s.ee++[x])[v]? =some y:=h;by_cases hv:v<t.s.ee.length
  ·rw[Ns hv]at h';exact .inl h'
  ·have:v<(t.s.ee++[x]).length:=(iB.1 h').1;simp at this;have G:v=t.s.ee.length:=by omega
   subst G;simp at h';exact .inr ⟨rfl,h'.symm⟩
 refine⟨⟨?_,λv y h=>?_,λv y h u=>?_,λb B h=>⟨(l.bk b B h).1,(l.bk b B h).2.1,(l.bk b B h).2.2.mono c⟩,λs fs h=>?_,l.pc,l.ne,λw e=>(l.kn w e).mono c⟩,λQ=>⟨_,x,d,.refl _,r,Q⟩⟩
 ·show t.blocks.flatMap (·.ee)++(t.s.cur++[t.s.ee.length])=List.range (t.s.ee++[x]).length;rw[<-Cy,l.cat,zL,ZO,UD]
 ·rcases i v y h with h|⟨rfl,rfl⟩
  ·exact(l.IX v y h).mono c (iB.1 h).1
  ·refine ⟨N,C,λm=>?_,t.blocks.length,d,λM w e=>⟨(L M w e).lt,(L M w e).mono c⟩,λm=>?_,λm w e H=>?_⟩
   ·obtain⟨k,g⟩:=p m;rw[k]at d;exact⟨d,g⟩
   ·obtain⟨fs,k,g⟩:=O m;exact⟨fs,k,λw e=>⟨(g w e).lt,(g w e).mono c⟩⟩
   ·have R:=c.back w _ H e;rcases R with⟨B,I,_⟩|⟨_,I⟩
    ·have:=(iB.1 I).1;omega
    ·obtain⟨z,k,g⟩:=P m w I;obtain⟨S,o,J⟩:=c.val w z k;exact⟨S,o,by rw[J];exact g⟩
 ·rcases i v y h with h|⟨rfl,rfl⟩
  ·obtain⟨b,k,g,o⟩:=l.ph v y h u;refine⟨b,c.ow _ _ k,g,λA=>⟨(o A).1,λj w q m K=>((o A).2 j w q m K).mono c⟩⟩
  ·obtain⟨k,g⟩:=F u;exact⟨_,d,k,λA=>⟨(g A).1,λj w q m K=>((g A).2 j w q m K).mono c⟩⟩
 ·obtain⟨k,g⟩:=l.st s fs h;refine⟨k,λf T=>?_⟩;obtain⟨o,J,U,V⟩:=g f T;exact⟨o,J,λw e=>(U w e).imp λa h=>h.mono c,λw e=>(V w e).imp λa h=>h.mono c⟩
theorem nV.Ot (a:nV D pr nx E t) {l:List Nat} (c:∀w∈l,Kn D t t.blocks.length w) (b:l≠[]):nV D pr nx E {t with s:={t.s with known:=l} }:=
 ⟨a.cat,λv x h=>⟨(a.IX v x h).op,(a.IX v x h).putAt,(a.IX v x h).par,(a.IX v x h).own⟩,a.ph,a.bk,a.st,a.pc,b,c⟩
theorem nV.at_ (a:nV D pr nx E t) (p:Nat):nV D pr nx E {t with s:={t.s with pos:=p} }:=
 ⟨a.cat,λv x h=>⟨(a.IX v x h).op,(a.IX v x h).putAt,(a.IX v x h).par,(a.IX v x h).own⟩,a.ph,a.bk,a.st,a.pc,a.ne,a.kn⟩
end
def on (t:Dt)(s:Ds):Dt:={t with s:=s}
structure Gw (t t':Dt):Prop where
 blocks:t'.blocks=t.blocks
 fe:t'.fe=t.fe
 known:∃k,t'.s.known=t.s.known++k
 ee:∃e,t'.s.ee=t.s.ee++e
 le:Le t t'
theorem Le.trans {t t' a:Dt} (c:Le t t') (d:Le t' a) (j:t.s.ee.length<=t'.s.ee.length):Le t a where
 ow w b h:=d.ow w b (c.ow w b h)
 back w b hw h:=c.back w b hw (d.back w b (by omega) h)
 val w x h:=by
  obtain⟨y,e,f⟩:=c.val w x h;obtain⟨z,g,i⟩:=d.val w y e;exact⟨z,g,by rw[i,f]⟩
 st s fs h:=d.st s fs (c.st s fs h)
theorem Gw.refl (t:Dt):Gw t t:=⟨rfl,rfl,⟨[],by simp⟩,⟨[],by simp⟩,.refl t⟩
theorem Gw.len {t t':Dt} (h:Gw t t'):t.s.ee.length<=t'.s.ee.length:=by
 obtain⟨e,a⟩:=h.ee;rw[a];simp
theorem Gw.trans {t t' b:Dt} (a:Gw t t') (c:Gw t' b):Gw t b:=by
 obtain⟨k,g⟩:=a.known;obtain⟨k',d⟩:=c.known;obtain⟨e,h⟩:=a.ee;obtain⟨i,f⟩:=c.ee;exact⟨c.blocks.trans a.blocks,c.fe.trans a.fe,⟨k++k',by rw[d,g,Cy]⟩,⟨e++i,by rw[f,h,Cy]⟩,a.le.trans c.le a.len⟩
theorem Gw.pos (t:Dt)(p:Nat):Gw t (on t {t.s with pos:=p}):=⟨rfl,rfl,⟨[],(Co _).symm⟩,⟨[],(Co _).symm⟩,⟨λ_ _ h=>h,λ_ _ _ h=>h,λ_ x h=>⟨x,h,rfl⟩,λ_ _ h=>h⟩⟩
theorem Vp {l:List Nat} {i:Nat} (h:i<l.length):l.getD i 0∈l:=by
 rw[E3,gQ h];simp
theorem zY (ops:List Int){s:Ds}(h:s.known≠[]):(fy ops s).1∈s.known:=Vp (vY ops s.pos (List.length_pos_iff.2 h))
theorem G0 {l:List Nat} (h:l≠[]):l.getLastD 0∈l:=by
 cases l with
 |nil=>exact absurd rfl h
 | cons a l=>
   rw[List.getLastD_cons]
   cases l with
   |nil=>simp
   | cons b l=>
     refine .tail _ ?_;rw[List.getLastD_eq_getLast?]
     cases hg:(b::l).getLast? with
     |none=>simp at hg
     |some z=>exact List.mem_of_getLast? hg
theorem L1 (ops:List Int):∀(i:Nat) (s:Ds) (l:List Nat),s.known≠[]->(∃p,(some_ ops i s l).2 = {s with pos:=p})/\(some_ ops i s l).1.length=l.length+i/\∀w∈(some_ ops i s l).1,w∈l\/w∈s.known
 |0,s,l,_=>⟨⟨s.pos,rfl⟩,rfl,λw h=> .inl h⟩
 | i + 1,s,l,h=>by
   obtain⟨⟨p,b⟩,c,a⟩:=L1 ops i (fy ops s).2 (l++[(fy ops s).1]) h;refine⟨⟨p,b⟩,by unfold some_;rw[c];simp;omega,λw d=>?_⟩;rcases a w d with a|a
   ·rcases xX.1 a with a|a
    ·exact .inl a
    ·simp at a;subst a;exact .inr (zY ops h)
   ·exact .inr a
section
variable{D:Nat->Nat}{pr nx:Nat->List Nat}{E:Nat->Prop}{t:Dt}
theorem nV.le1 (t:Dt) (fs:List Fm) (p:Nat):Le t (on t {t.s with eh:=t.s.eh++[fs],pos:=p}):=
 ⟨λ_ _ h=>h,λ_ _ _ h=>h,λ_ x h=>⟨x,h,rfl⟩,λs g h=>by show(t.s.eh++[fs])[s]? =some g;rw[Ns (iB.1 h).1];exact h⟩
theorem nV.state (e:nV D pr nx E t) (ops:List Int):nV D pr nx E (on t (fw ops t.s).2)/\Gw t (on t (fw ops t.s).2)/\(fw ops t.s).2.known=t.s.known/\(fw ops t.s).2.ee=t.s.ee/\(fw ops t.s).2.cur=t.s.cur/\
  ∃fs,(fw ops t.s).2.eh[(fw ops t.s).1]? =some fs/\∀w∈ie fs,w∈t.s.known:=by
 obtain ⟨⟨p,z⟩,A,C⟩:=L1 ops (num ops t.s 4).1 (num ops t.s 4).2 [] e.ne;have L:(num ops t.s 4).1<4:=vY _ _ (by omega);have hs:(fw ops t.s).2 = {t.s with eh:=t.s.eh++[[⟨1,(t.s.eh.length:Nat),(some_ ops (num ops t.s 4).1 (num ops t.s 4).2 []).1,[t.s.known.getLastD 0]⟩]],pos:=p}:=by
  unfold fw;simp only;rw[z];rfl
 rw[hs];generalize (some_ ops (num ops t.s 4).1 (num ops t.s 4).2 []).1=l at*;have c:=nV.le1 t [⟨1,(t.s.eh.length:Nat),l,[t.s.known.getLastD 0]⟩] p;have r:∀w∈l,w∈t.s.known:=λw d=>(C w d).elim (λh=>by cases h) id;have g:=G0 e.ne
 refine ⟨⟨e.cat,λv x h=>(e.IX v x h).mono c (iB.1 h).1,λv x h F=>?_,λb B h=>⟨(e.bk b B h).1,(e.bk b B h).2.1,(e.bk b B h).2.2.mono c⟩,λs fs h=>?_,e.pc,e.ne,λw d=>(e.kn w d).mono c⟩,
  ⟨rfl,rfl,⟨[],(Co _).symm⟩,⟨[],(Co _).symm⟩,c⟩,rfl,rfl,rfl,[⟨1,(t.s.eh.length:Nat),l,[t.s.known.getLastD 0]⟩],ZC,λw d=>?_⟩
 ·obtain⟨b,m,n,i⟩:=e.ph v x h F;exact⟨b,c.ow _ _ m,n,λu=>⟨(i u).1,λj w q G H=>((i u).2 j w q G H).mono c⟩⟩
 ·have h':(t.s.eh++[[⟨1,(t.s.eh.length:Nat),l,[t.s.known.getLastD 0]⟩]])[s]? =some fs:=h;by_cases IH:s<t.s.eh.length
  ·rw[Ns IH]at h';obtain⟨m,n⟩:=e.st s fs h';refine⟨m,λf k=>?_⟩;obtain⟨i,I,J,K⟩:=n f k;exact⟨i,I,λw d=>(J w d).imp λa h=>h.mono c,λw d=>(K w d).imp λa h=>h.mono c⟩
  ·rw[Rr (by omega)]at h';have y:=xQ h';simp at y;subst y;refine⟨rfl,λf k=>?_⟩;simp at k;subst k;refine⟨by show l.length<=3;rw[A];simp;omega,rfl,λw d=>⟨_,(e.kn w (r w d)).mono c⟩,λw d=>?_⟩;have o:w=t.s.known.getLastD 0:=by simpa using d
   subst o;exact⟨_,(e.kn _ g).mono c⟩
 ·simp only[ie,Za,List.flatMap_nil,Co,xX,EB]at d;rcases d with d|rfl
  ·exact r w d
  ·exact g
theorem nV.PK (a:nV D pr nx E t) {x:Vl} (e:2<=x.op/\x.op<=23/\x.op≠21) (b:x.op=20->x.args.length=1) (f:∀w∈gJ x,w∈t.s.known) (g:leaves x.op=true->∃fs,t.s.eh[x.state]? =some fs/\∀w∈ie fs,w∈t.s.known) :
  nV D pr nx E (on t (Un.put t.s x))/\Gw t (on t (Un.put t.s x))/\(EM x.op=true->Kn D (on t (Un.put t.s x)) t.blocks.length t.s.ee.length):=by
 have c:iG x.op=true->False:=λh=>by
  simp[iG]at h;omega
 obtain⟨i,j⟩:=a.put (x:=x) ⟨by omega,e.2.1⟩ b (λh=>by omega) (λ_ w d=>a.kn w (f w d)) (λh=>by obtain⟨fs,k,l⟩:=g h;exact⟨fs,k,λw d=>a.kn w (l w d)⟩) (λh=>(c h).elim) (λh=>absurd h e.2.2);exact⟨i,⟨rfl,rfl,⟨[],(Co _).symm⟩,⟨[x],rfl⟩,MA t x⟩,j⟩
theorem nV.OA (c:nV D pr nx E t) {x:Vl} (d:2<=x.op/\x.op<19) (e:∀w∈gJ x,w∈t.s.known):nV D pr nx E (on t (il t.s x))/\Gw t (on t (il t.s x)):=by
 obtain ⟨f,b,g⟩:=c.PK (x:=x) ⟨d.1,by omega,by omega⟩ (λh=>by omega) e (λh=>by simp[leaves]at h;omega);have i:=g (by simp[EM];omega);have j:=f.Ot (l:=t.s.known++[t.s.ee.length]) (λw a=>by
  rcases xX.1 a with a|a
  ·exact(c.kn w a).mono b.le
  ·simp at a;subst a;exact i) (by simp)
 exact⟨j,⟨rfl,rfl,⟨[t.s.ee.length],rfl⟩,⟨[x],rfl⟩,⟨b.le.ow,b.le.back,b.le.val,b.le.st⟩⟩⟩
end
theorem O5 (x:Vl):∀w∈gJ x,w=x.a\/w=x.b\/w∈x.args:=by
 intro w c;unfold gJ at c;split at c
 ·exact .inr (.inr c)
 split at c
 ·rcases CL.1 c with h|c
  ·exact .inl h
  ·rcases CL.1 c with h|c
   ·exact .inr (.inl h)
   ·exact .inr (.inr (ZX c))
 split at c
 ·simp at c;rcases c with h|h
  ·exact .inl h
  ·exact .inr (.inl h)
 split at c
 ·simp at c;exact .inl c
 ·cases c
section
variable{D:Nat->Nat}{pr nx:Nat->List Nat}{E:Nat->Prop}{t:Dt}
theorem nV.kind (o:nV D pr nx E t) (ops:List Int) {k a b:Nat} (q:a∈t.s.known) (hb:b∈t.s.known):nV D pr nx E (on t (qK ops t.s k a b))/\Gw t (on t (qK ops t.s k a b)):=by
 have p:∀x:Vl,x.a=a->x.b=b->x.args=[]->∀w∈gJ x,w∈t.s.known:=λx d f g w c=>by
  rcases O5 x w c with h|h|h
  ·rw[h,d];exact q
  ·rw[h,f];exact hb
  ·rw[g]at h;cases h
 have j:∀m,nV D pr nx E (on t (num ops t.s m).2)/\Gw t (on t (num ops t.s m).2):=λm=>⟨o.at_ _,Gw.pos t _⟩
 have l:∀(op:Nat) (n:Int),uD op=true->two op=false->op≠20->op≠21->∀w∈gJ (vl op a 0 n [] 0),w=a:=λop n d f g i w c=>by
  simp[gJ,vl,d,f,g,i]at c;exact c
 unfold qK;split
 ·rename_i r;exact o.OA (x:=vl (3+k) a b 0 [] 0) (by simp only[vl];omega) (p _ rfl rfl rfl)
 split
 ·obtain⟨d,f⟩:=j 1048576;obtain⟨g,i⟩:=d.OA (x:=vl 2 0 0 (((num ops t.s 1048576).1:Int)-9) [] 0) (by simp only[vl];omega) (λw c=>by simp[gJ,vl,two,uD]at c);exact⟨g,f.trans i⟩
 split
 ·obtain⟨d,f⟩:=j 5;obtain⟨g,i⟩:=d.OA (x:=vl 17 a 0 ((num ops t.s 5).1:Nat) [] 0) (by simp only[vl];omega) (λw c=>by rw[l 17 _ rfl rfl (by omega) (by omega) w c];exact q);exact⟨g,f.trans i⟩
 split
 ·exact o.OA (x:=vl 18 a b 0 [] 0) (by simp only[vl];omega) (p _ rfl rfl rfl)
 split
 ·obtain⟨d,f⟩:=j 5;obtain⟨g,i,_⟩:=d.PK (x:=vl 19 a b ((num ops t.s 5).1:Nat) [] 0) (by simp only[vl];omega) (λh=>by simp only[vl]at h;omega) (p _ rfl rfl rfl) (λh=>by simp[vl,leaves]at h);exact⟨g,f.trans i⟩
 split
 ·have d:nV D pr nx E (on t (fy ops t.s).2):=o.at_ _;have f:Gw t (on t (fy ops t.s).2):=Gw.pos t _;obtain⟨g,i,_⟩:=d.PK (x:=vl 20 a b 0 [(fy ops t.s).1] 0) (by simp only[vl];omega) (λ_=>rfl) (λw c=>by
   rcases O5 _ w c with h|h|h
   ·rw[h];exact q
   ·rw[h];exact hb
   ·have h':w=(fy ops t.s).1:=by simpa[vl]using h
    rw[h'];exact zY ops o.ne) (λh=>by simp[vl,leaves]at h)
  exact⟨g,f.trans i⟩
 split
 ·obtain ⟨d,f,r,_,_,fs,u,v⟩:=o.state ops;obtain⟨g,i,_⟩:=d.PK (x:=vl 22 a 0 0 [] (fw ops t.s).1) (by simp only[vl];omega) (λh=>by simp only[vl]at h;omega) (λw c=>by
   have e:w=a:=by simpa[gJ,vl,two,uD]using c
   show w∈(fw ops t.s).2.known;rw[r,e];exact q) (λ_=>⟨fs,u,λw c=>by show w∈(fw ops t.s).2.known;rw[r];exact v w c⟩)
  exact⟨g,f.trans i⟩
 split
 ·obtain⟨d,f,r,_,_,fs,u,v⟩:=o.state ops;obtain⟨g,i,_⟩:=d.PK (x:=vl 23 0 0 0 [] (fw ops t.s).1) (by simp only[vl];omega) (λh=>by simp only[vl]at h;omega) (λw c=>by simp[gJ,vl,two,uD]at c) (λ_=>⟨fs,u,λw c=>by show w∈(fw ops t.s).2.known;rw[r];exact v w c⟩);exact⟨g,f.trans i⟩
 ·obtain ⟨d,f⟩:=j 2;have z:(num ops t.s 2).1<2:=vY _ _ (by omega);have y:(num ops t.s 2).1=0\/(num ops t.s 2).1=1:=by omega
  obtain ⟨g,i⟩:=d.OA (x:=vl (15+(num ops t.s 2).1) a 0 0 [] 0) (by simp only[vl];omega) (λw c=>by
   have e:w=a:=by
    rcases y with e|e
    ·rw[e]at c;exact l 15 _ rfl rfl (by omega) (by omega) w c
    ·rw[e]at c;exact l 16 _ rfl rfl (by omega) (by omega) w c
   rw[e];exact q)
  exact⟨g,f.trans i⟩
theorem nV.su (c:nV D pr nx E t) (ops:List Int):nV D pr nx E (on t (su ops t.s))/\Gw t (on t (su ops t.s)):=by
 have d:=zY ops c.ne;have e:nV D pr nx E (on t (fy ops t.s).2):=c.at_ _;have hb:=zY ops e.ne;have f:nV D pr nx E (on t (num ops (fy ops (fy ops t.s).2).2 20).2):=c.at_ _;obtain⟨g,h⟩:=f.kind ops (k:=(num ops (fy ops (fy ops t.s).2).2 20).1) (a:=(fy ops t.s).1) (b:=(fy ops (fy ops t.s).2).1) d hb;exact⟨g,(Gw.pos t _).trans h⟩
theorem nV.rows (ops:List Int):∀(i:Nat) {t:Dt},nV D pr nx E t->nV D pr nx E (on t (rows ops i t.s))/\Gw t (on t (rows ops i t.s))
 |0,t,hM=>⟨hM,Gw.refl t⟩
 | i + 1,t,hM=>by
   unfold Un.rows;split
   ·obtain⟨a,b⟩:=hM.su ops
    obtain⟨c,d⟩:=nV.rows ops i a;exact⟨c,b.trans d⟩
   ·exact⟨hM,Gw.refl t⟩
theorem nV.row (a:nV D pr nx E t) (ops:List Int):nV D pr nx E (on t (row ops t.s))/\Gw t (on t (row ops t.s)):=by
 have b:nV D pr nx E (on t (num ops t.s 6).2):=a.at_ _;obtain⟨c,d⟩:=nV.rows ops (1+(num ops t.s 6).1) b;exact⟨c,(Gw.pos t _).trans d⟩
end
open Go.Proofs.YtpnddokajmjpbaaDoor.Dm
def Lx (t t':Dt):Prop:=Le t t'/\t.s.ee.length<=t'.s.ee.length
theorem Lx.trans{t t' a:Dt}(b:Lx t t')(c:Lx t' a):Lx t a:=⟨b.1.trans c.1 b.2,Ez b.2 c.2⟩
theorem Gw.lx{t t':Dt}(h:Gw t t'):Lx t t':=⟨h.le,h.len⟩
section
variable{D:Nat->Nat}{pr nx:Nat->List Nat}{E E':Nat->Prop}{t:Dt}
theorem nV.weaken (a:nV D pr nx E t) (h:∀v,E v->E' v):nV D pr nx E' t:=
 ⟨a.cat,a.IX,λv x hv c=>let⟨b,d,f,g⟩:=a.ph v x hv c;⟨b,d,f,λi=>g λe=>i (h v e)⟩,a.bk,a.st,a.pc,a.ne,a.kn⟩
theorem FE (t:Dt) (fin cond:Nat) (n:List Nat) (state:Nat) (fe:List Nat):Lx t (end_ t fin cond n state fe):=by
 refine⟨⟨λw b h=>?_,λw b _ h=>?_,λw x h=>⟨x,h,rfl⟩,λs fs h=>h⟩,iW _⟩
 ·rcases h with⟨B,d,c⟩|⟨rfl,c⟩
  ·exact .inl ⟨B,by show(t.blocks++[_])[b]? =_;rw[Ns (iB.1 d).1];exact d,c⟩
  ·exact .inl ⟨⟨t.s.cur,fin,cond,n,t.fe,state⟩,ZC,c⟩
 ·rcases h with⟨B,d,c⟩|⟨_,c⟩
  ·have a:(t.blocks++[⟨t.s.cur,fin,cond,n,t.fe,state⟩])[b]? =some B:=d;by_cases hb:b<t.blocks.length
   ·rw[Ns hb]at a;exact .inl ⟨B,a,c⟩
   ·have e:=(iB.1 a).1;simp at e;have f:b=t.blocks.length:=by omega
    subst f;rw[ZC]at a;obtain rfl:=Option.some.inj a;exact .inr ⟨rfl,c⟩
  ·cases c
theorem nV.end_ (e:nV D pr nx E t) {fin cond:Nat} {n:List Nat} {state:Nat} {fe:List Nat} (u:n=nx t.blocks.length) (y:fe=pr (t.blocks.length+1)) (k:Fin D t t.blocks.length ⟨t.s.cur,fin,cond,n,t.fe,state⟩) (z:∀w∈t.s.known,Kn D t (t.blocks.length+1) w) :
  nV D pr nx E (end_ t fin cond n state fe)/\(Un.end_ t fin cond n state fe).blocks.length=t.blocks.length+1:=by
 have c:=FE t fin cond n state fe;have hlen:(Un.end_ t fin cond n state fe).blocks.length=t.blocks.length+1:=by simp[Un.end_]
 refine⟨⟨?_,λv x h=>(e.IX v x h).mono c.1 (iB.1 h).1,λv x h A=>?_,λb B h=>?_,λs fs h=>?_,?_,e.ne,λw g=>?_⟩,hlen⟩
 ·show(t.blocks++[(⟨t.s.cur,fin,cond,n,t.fe,state⟩:Bk)]).flatMap (·.ee)++[]=List.range t.s.ee.length;rw[Co,X1,<-e.cat];simp
 ·obtain⟨b,l,m,i⟩:=e.ph v x h A;exact⟨b,c.1.ow _ _ l,m,λr=>⟨(i r).1,λj w q C F=>((i r).2 j w q C F).mono c.1⟩⟩
 ·have d:(t.blocks++[⟨t.s.cur,fin,cond,n,t.fe,state⟩])[b]? =some B:=h;by_cases hb:b<t.blocks.length
  ·rw[Ns hb]at d;exact⟨(e.bk b B d).1,(e.bk b B d).2.1,(e.bk b B d).2.2.mono c.1⟩
  ·have o:=(iB.1 d).1;simp at o;have p:b=t.blocks.length:=by omega
   subst p;rw[ZC]at d;obtain rfl:=Option.some.inj d;exact⟨u,e.pc,k.mono c.1⟩
 ·obtain⟨l,m⟩:=e.st s fs h;refine⟨l,λf k=>?_⟩;obtain⟨i,G,H,I⟩:=m f k;exact⟨i,G,λw g=>(H w g).imp λa h=>h.mono c.1,λw g=>(I w g).imp λa h=>h.mono c.1⟩
 ·rw[hlen];exact y
 ·rw[hlen];exact(z w g).mono c.1
theorem nV.cut (c:nV D pr nx E t) {l:List Nat} (b:l≠[]) (a:∃k,t.s.known=l++k):nV D pr nx E (on t (cut l.length t.s))/\(on t (Un.cut l.length t.s)).s.known=l/\Lx t (on t (Un.cut l.length t.s)):=by
 obtain⟨k,a⟩:=a;have e:t.s.known.take l.length=l:=by rw[a];simp
 have d:=c.Ot (l:=l) (λw f=>c.kn w (by rw[a];exact LC _ f)) b;have g:on t (Un.cut l.length t.s) = {t with s:={t.s with known:=l} }:=by
  unfold on Un.cut;rw[e]
 rw[g];exact⟨d,rfl,⟨⟨λ_ _ h=>h,λ_ _ _ h=>h,λ_ x h=>⟨x,h,rfl⟩,λ_ _ h=>h⟩,iW _⟩⟩
theorem Gy{D:Nat->Nat}{a b:Nat}(h0:b≠0)(h:D b=a):ot D a b:= .up h0 (by rw[h];exact .refl _)
theorem QL (b:nV D pr nx E t) {args:List Nat} (hc:t.s.cur=[]\/∀w∈t.s.cur,∃y,t.s.ee[w]? =some y/\iG y.op=true) (h0:t.blocks.length≠0) (c:¬E t.s.ee.length->Y8 D t (pr t.blocks.length) (vl 21 0 0 0 args 0)) :
  nV D pr nx E (on t (put t.s (vl 21 0 0 0 args 0)))/\Lx t (on t (put t.s (vl 21 0 0 0 args 0)))/\Kn D (on t (put t.s (vl 21 0 0 0 args 0))) t.blocks.length t.s.ee.length/\Ow (on t (put t.s (vl 21 0 0 0 args 0))) t.s.ee.length t.blocks.length:=by
 obtain ⟨d,e⟩:=b.put (x:=vl 21 0 0 0 args 0) (by simp[vl]) (λh=>by simp[vl]at h) (λh=>by simp[vl]at h) (λh=>absurd rfl h) (λh=>by simp[vl,leaves]at h) (λ_ w a=>by
  rcases hc with hc|hc
  ·rw[hc]at a;cases a
  ·exact hc w a) (λ_=>⟨h0,c⟩)
 exact⟨d,⟨MA t _,by show _<=(t.s.ee++[_]).length;simp⟩,e rfl,.inr ⟨rfl,by show t.s.ee.length∈t.s.cur++[t.s.ee.length];simp⟩⟩
theorem Xg (f:nV D pr nx E t) (ops:List Int) (n0:nx t.blocks.length=[t.blocks.length+1,t.blocks.length+2]) (n1:nx (t.blocks.length+1)=[t.blocks.length+3]) (n2:nx (t.blocks.length+2)=[t.blocks.length+3])
  (p1:pr (t.blocks.length+1)=[t.blocks.length]) (p2:pr (t.blocks.length+2)=[t.blocks.length]) (Z:pr (t.blocks.length+3)=[t.blocks.length+1,t.blocks.length+2])
  (d1:D (t.blocks.length+1)=t.blocks.length) (d2:D (t.blocks.length+2)=t.blocks.length) (d3:D (t.blocks.length+3)=t.blocks.length) :
  nV D pr nx E (fork ops t)/\(fork ops t).blocks.length=t.blocks.length+3:=by
 generalize k:t.blocks.length=a at*;have hc:=zY ops f.ne;have H:nV D pr nx E (on t (fy ops t.s).2):=f.at_ _;have I:Lx t (on t (fy ops t.s).2):=(Gw.pos t _).lx;have o:(on t (fy ops t.s).2).s.known=t.s.known:=rfl;unfold fork;simp only;rw[k];generalize J:(fy ops t.s).1=cond at*;generalize (fy ops t.s).2=g at*;have e0:{t with s:=g} = on t g:=rfl;rw[e0];have e:(on t g).blocks.length=a:=k
 obtain ⟨m1,b1⟩:=H.end_ (fin:=2) (cond:=cond) (n:=[a+1,a+2]) (state:=0) (fe:=[a]) (by rw[e,n0]) (by rw[e,p1]) (.inr (.inl ⟨rfl,rfl,by rw[e,<-k];exact(f.kn cond hc).mono I.1⟩))
  (λw d=>by rw[e];exact((by rw[<-k];exact(f.kn w (by rw[<-o];exact d)).mono I.1:Kn D (on t g) a w)).up (Gy (by omega) d1))
 rw[e]at b1;have x1:=I.trans (FE (on t g) 2 cond [a+1,a+2] 0 [a]);have K:(Un.end_ (on t g) 2 cond [a+1,a+2] 0 [a]).s.known=t.s.known:=o;generalize Un.end_ (on t g) 2 cond [a+1,a+2] 0 [a]=b at*;obtain⟨L,M⟩:=m1.row ops;have x2:=x1.trans M.lx;have b2:(on b (row ops b.s)).blocks.length=a+1:=by rw[M.blocks];exact b1
 have kx:=L.kn _ (G0 L.ne);obtain⟨k2,p⟩:=M.known;rw[K]at p;have eX:(row ops b.s).known.getLastD 0=(on b (row ops b.s)).s.known.getLastD 0:=rfl;rw[eX];generalize (on b (row ops b.s)).s.known.getLastD 0=x at*;obtain⟨m3,r,u⟩:=L.cut f.ne ⟨k2,p⟩;have x3:=x2.trans u;have v:=kx.mono u.1;rw[b2]at v;have e3:{b with s:=Un.cut t.s.known.length (row ops b.s)} = on (on b (row ops b.s)) (Un.cut t.s.known.length (on b (row ops b.s)).s):=rfl;rw[e3];have b3:(on (on b (row ops b.s)) (Un.cut t.s.known.length (on b (row ops b.s)).s)).blocks.length=a+1:=b2;generalize on (on b (row ops b.s)) (Un.cut t.s.known.length (on b (row ops b.s)).s)=B at*
 obtain ⟨m4,b4⟩:=m3.end_ (fin:=1) (cond:=0) (n:=[a+3]) (state:=0) (fe:=[a]) (by rw[b3,n1]) (by rw[b3];exact p2.symm) (.inl ⟨rfl,rfl⟩)
  (λw d=>by rw[b3];exact((by rw[<-k];exact(f.kn w (by rw[<-r];exact d)).mono x3.1:Kn D B a w)).up (Gy (by omega) d2))
 rw[b3]at b4;have y4:=FE B 1 0 [a+3] 0 [a];have x4:=x3.trans y4;have N:=v.mono y4.1;have O:(Un.end_ B 1 0 [a+3] 0 [a]).s.known=t.s.known:=r;generalize Un.end_ B 1 0 [a+3] 0 [a]=c at*;obtain⟨P,C⟩:=m4.row ops;have x5:=x4.trans C.lx;have Q:=N.mono C.le;have b5:(on c (row ops c.s)).blocks.length=a+2:=by rw[C.blocks];exact b4
 have ky:=P.kn _ (G0 P.ne);obtain⟨k5,z⟩:=C.known;rw[O]at z;have eY:(row ops c.s).known.getLastD 0=(on c (row ops c.s)).s.known.getLastD 0:=rfl;rw[eY];generalize (on c (row ops c.s)).s.known.getLastD 0=y at*;obtain⟨m6,R,h⟩:=P.cut f.ne ⟨k5,z⟩;have x6:=x5.trans h;have S:=Q.mono h.1;have A:=ky.mono h.1;rw[b5]at A;have e6:{c with s:=Un.cut t.s.known.length (row ops c.s)} = on (on c (row ops c.s)) (Un.cut t.s.known.length (on c (row ops c.s)).s):=rfl;rw[e6];have F:(on (on c (row ops c.s)) (Un.cut t.s.known.length (on c (row ops c.s)).s)).blocks.length=a+2:=b5;generalize on (on c (row ops c.s)) (Un.cut t.s.known.length (on c (row ops c.s)).s)=G at*
 obtain ⟨m7,T⟩:=m6.end_ (fin:=1) (cond:=0) (n:=[a+3]) (state:=0) (fe:=[a+1,a+2]) (by rw[F,n2]) (by rw[F];exact Z.symm) (.inl ⟨rfl,rfl⟩)
  (λw d=>by rw[F];exact((by rw[<-k];exact(f.kn w (by rw[<-R];exact d)).mono x6.1:Kn D G a w)).up (Gy (by omega) d3))
 rw [F]at T;have y7:=FE G 1 0 [a+3] 0 [a+1,a+2];have U:=S.mono y7.1;have V:=A.mono y7.1;have W:(Un.end_ G 1 0 [a+3] 0 [a+1,a+2]).s.cur=[]:=rfl;generalize Un.end_ G 1 0 [a+3] 0 [a+1,a+2]=t7 at*;obtain⟨m8,y8,X,_⟩:=QL m7 (args:=[x,y]) (.inl W) (by omega) (λ_=>by
  rw[T,Z];refine⟨rfl,λj w q i m=>?_⟩
  match j,i,m with
  | 0,i,m=>
    obtain rfl:x=w:=by simpa[vl]using i
    obtain rfl:a+1=q:=by simpa using m
    exact U
  | 1,i,m=>
    obtain rfl:y=w:=by simpa[vl]using i
    obtain rfl:a+2=q:=by simpa using m
    exact V
  |j+2,i,m=>simp[vl]at i)
 have m9:=m8.Ot (l:=t7.s.known++[t7.s.ee.length]) (λw d=>by
  rcases xX.1 d with d|d
  ·exact m8.kn w d
  ·simp at d;subst d;exact X) (by simp)
 obtain⟨Y,_⟩:=m9.row ops;exact⟨Y,T⟩
theorem VZ (h:nV D pr nx E t) (ops:List Int) (n0:nx t.blocks.length=[t.blocks.length+1,t.blocks.length+2]) (I:nx (t.blocks.length+1)=[])
  (J:pr (t.blocks.length+1)=[t.blocks.length]) (K:pr (t.blocks.length+2)=[t.blocks.length]) (L:D (t.blocks.length+1)=t.blocks.length) (M:D (t.blocks.length+2)=t.blocks.length) :
  nV D pr nx E (we ops t)/\(we ops t).blocks.length=t.blocks.length+2:=by
 generalize i:t.blocks.length=a at*;have hc:=zY ops h.ne;have q:nV D pr nx E (on t (fy ops t.s).2):=h.at_ _;have r:Lx t (on t (fy ops t.s).2):=(Gw.pos t _).lx;have j:(on t (fy ops t.s).2).s.known=t.s.known:=rfl;unfold we;simp only;rw[i];generalize u:(fy ops t.s).1=cond at*;generalize (fy ops t.s).2=f at*;have e0:{t with s:=f} = on t f:=rfl;rw[e0];have c:(on t f).blocks.length=a:=i
 obtain ⟨N,b1⟩:=q.end_ (fin:=2) (cond:=cond) (n:=[a+1,a+2]) (state:=0) (fe:=[a]) (by rw[c,n0]) (by rw[c,J]) (.inr (.inl ⟨rfl,rfl,by rw[c,<-i];exact(h.kn cond hc).mono r.1⟩))
  (λw d=>by rw[c];exact((by rw[<-i];exact(h.kn w (by rw[<-j];exact d)).mono r.1:Kn D (on t f) a w)).up (Gy (by omega) L))
 rw[c]at b1;have O:=r.trans (FE (on t f) 2 cond [a+1,a+2] 0 [a]);have v:(Un.end_ (on t f) 2 cond [a+1,a+2] 0 [a]).s.known=t.s.known:=j;generalize Un.end_ (on t f) 2 cond [a+1,a+2] 0 [a]=b at*;obtain⟨P,x⟩:=N.row ops;have Q:=O.trans x.lx;have b2:(on b (row ops b.s)).blocks.length=a+1:=by rw[x.blocks];exact b1
 obtain ⟨C,g⟩:=x.known;rw[v]at g;obtain⟨F,R,y,_,_,fs,z,A⟩:=P.state ops;have S:=Q.trans R.lx;have b3:(on (on b (row ops b.s)) (fw ops (on b (row ops b.s)).s).2).blocks.length=a+1:=b2;have eS:fw ops (row ops b.s)=fw ops (on b (row ops b.s)).s:=rfl;rw[eS];have e:(on (on b (row ops b.s)) (fw ops (on b (row ops b.s)).s).2).s.known=t.s.known++C:=by
  show(fw ops (on b (row ops b.s)).s).2.known=_;rw[y,g]
 have k:∀w∈ie fs,Kn D (on (on b (row ops b.s)) (fw ops (on b (row ops b.s)).s).2) (a+1) w:=λw d=>by
  rw[<-b3];refine F.kn w ?_;rw[e,<-g];exact A w d
 obtain⟨T,B,l⟩:=F.cut h.ne ⟨C,e⟩;have U:=S.trans l;generalize (fw ops (on b (row ops b.s)).s).1=st at*;have V:{b with s:=Un.cut t.s.known.length (fw ops (on b (row ops b.s)).s).2} = on (on (on b (row ops b.s)) (fw ops (on b (row ops b.s)).s).2) (Un.cut t.s.known.length (on (on b (row ops b.s)) (fw ops (on b (row ops b.s)).s).2).s):=rfl;rw[V];have m:(on (on (on b (row ops b.s)) (fw ops (on b (row ops b.s)).s).2) (Un.cut t.s.known.length (on (on b (row ops b.s)) (fw ops (on b (row ops b.s)).s).2).s)).s.eh[st]? =some fs:=z;have o:=λw d=>(k w d).mono l.1;have p:(on (on (on b (row ops b.s)) (fw ops (on b (row ops b.s)).s).2) (Un.cut t.s.known.length (on (on b (row ops b.s)) (fw ops (on b (row ops b.s)).s).2).s)).blocks.length=a+1:=b2;generalize on (on (on b (row ops b.s)) (fw ops (on b (row ops b.s)).s).2) (Un.cut t.s.known.length (on (on b (row ops b.s)) (fw ops (on b (row ops b.s)).s).2).s)=G at*
 obtain ⟨W,H⟩:=T.end_ (fin:=3) (cond:=0) (n:=[]) (state:=st) (fe:=[a]) (by rw[p,I]) (by rw[p];exact K.symm) (.inr (.inr ⟨rfl,rfl,fs,m,λw d=>by rw[p];exact o w d⟩))
  (λw d=>by rw[p];exact((by rw[<-i];exact(h.kn w (by rw[<-B];exact d)).mono U.1:Kn D G a w)).up (Gy (by omega) M))
 rw[p]at H;generalize Un.end_ G 3 0 [] st [a]=Y at*;obtain⟨X,_⟩:=W.row ops;exact⟨X,H⟩
theorem Ze (t:Dt) (v:Nat) (args:List Nat):Lx t (on t (setArgs t.s v args)):=by
 refine⟨⟨λ_ _ h=>h,λ_ _ _ h=>h,λw x h=>?_,λ_ _ h=>h⟩,by show _<=(t.s.ee.modify v _).length;rw[List.length_modify];exact iW _⟩;show ∃y,(t.s.ee.modify v λx=>{x with args:=args})[w]? =some y/\y.op=x.op;rw[wB7,h];refine⟨_,rfl,?_⟩;split <;> rfl
theorem FD (g:nV D pr nx E t) {v b:Nat} {x:Vl} {args:List Nat} (hv:t.s.ee[v]? =some x) (H:x.op=21) (hb:Ow t v b) (h0:b≠0) (I:args.length=(pr b).length/\∀(j w q:Nat),args[j]? =some w->(pr b)[j]? =some q->Kn D t q w) (J:∀w,w≠v->¬E' w->¬E w) :
  nV D pr nx E' (on t (setArgs t.s v args))/\Lx t (on t (setArgs t.s v args)):=by
 have d:=Ze t v args;refine⟨?_,d⟩;have i:∀(w:Nat) (y:Vl),(on t (setArgs t.s v args)).s.ee[w]? =some y->(w≠v/\t.s.ee[w]? =some y)\/(w=v/\y = {x with args:=args}):=λw y h=>by
  have h':(t.s.ee.modify v λx=>{x with args:=args})[w]? =some y:=h;rw[wB7]at h';by_cases k:v=w
  ·subst k;rw[hv]at h';simp at h';exact .inr ⟨rfl,h'.symm⟩
  ·cases hx:t.s.ee[w]? with
   |none=>rw[hx]at h';simp at h'
   | some z=>
     rw[hx]at h';simp[k]at h';exact .inl ⟨λe=>k e.symm,by rw[h']⟩
 have l:=(iB.1 hv).1;refine⟨by show t.blocks.flatMap (λB:Bk=>B.ee)++t.s.cur=List.range (t.s.ee.modify v _).length;rw[List.length_modify];exact g.cat,λw y h=>?_,λw y h r=>?_,λc B h=>⟨(g.bk c B h).1,(g.bk c B h).2.1,(g.bk c B h).2.2.mono d.1⟩,λs fs h=>?_,g.pc,g.ne,λw k=>(g.kn w k).mono d.1⟩
 ·rcases i w y h with⟨_,h⟩|⟨rfl,rfl⟩
  ·exact(g.IX w y h).mono d.1 (iB.1 h).1
  ·have K:=(g.IX w x hv).mono d.1 l;obtain⟨c,m,_,_,A⟩:=K.own;refine⟨K.op,λh=>?_,λh=>?_,c,m,λh=>absurd H h,λh=>?_,A⟩
   ·have h':x.op=20:=h;omega
   ·have h':x.op=1:=h;omega
   ·have h':leaves x.op=true:=h;rw[H]at h';cases h'
 ·rcases i w y h with⟨n,h⟩|⟨rfl,rfl⟩
  ·obtain⟨c,m,C,p⟩:=g.ph w y h r;exact⟨c,m,C,λo=>⟨(p (J w n o)).1,λj u q F G=>((p (J w n o)).2 j u q F G).mono d.1⟩⟩
  ·exact⟨b,hb,h0,λ_=>⟨I.1,λj u q F G=>(I.2 j u q F G).mono d.1⟩⟩
 ·obtain⟨m,C⟩:=g.st s fs h;refine⟨m,λf L=>?_⟩;obtain⟨p,A,M,N⟩:=C f L;exact⟨p,A,λw k=>(M w k).imp λa h=>h.mono d.1,λw k=>(N w k).imp λa h=>h.mono d.1⟩
theorem Hr {P:Nat->Nat->Prop} {x y q r:Nat} (c:P q x) (d:P r y):([x,y]:List Nat).length=([q,r]:List Nat).length/\∀(j w p:Nat),([x,y]:List Nat)[j]? =some w->([q,r]:List Nat)[j]? =some p->P p w:=by
 refine⟨rfl,λj w p a b=>?_⟩
 match j,a,b with
 | 0,a,b=>
   obtain rfl:x=w:=by simpa using a
   obtain rfl:q=p:=by simpa using b
   exact c
 | 1,a,b=>
   obtain rfl:y=w:=by simpa using a
   obtain rfl:r=p:=by simpa using b
   exact d
 |j+2,a,b=>simp at a
structure Hd (D:Nat->Nat) (t b:Dt) (p f g less a:Nat):Prop where
 lx:Lx t b
 blocks:b.blocks.length=a+2
 kf:Kn D b a f
 kg:Kn D b a g
 kl:Kn D b (a+1) less
 op:Ow b p (a+1)
 oq:Ow b (p+1) (a+1)
 vp:∃x,b.s.ee[p]? =some x/\x.op=21
 vq:∃x,b.s.ee[p+1]? =some x/\x.op=21
 kn:∀w∈b.s.known,Kn D b (a+1) w
end
open Go.Proofs.YtpnddokajmjpbaaDoor.Dm
section
variable{D:Nat->Nat}{pr nx:Nat->List Nat}{E E':Nat->Prop}{t:Dt}
set_option maxHeartbeats 2000000 in
theorem Wt (hM:nV D pr nx E t) (ops:List Int) (n0:nx t.blocks.length=[t.blocks.length+1]) (n1:nx (t.blocks.length+1)=[t.blocks.length+2,t.blocks.length+3]) (n2:nx (t.blocks.length+2)=[t.blocks.length+1])
  (p1:pr (t.blocks.length+1)=[t.blocks.length,t.blocks.length+2]) (p2:pr (t.blocks.length+2)=[t.blocks.length+1]) (p3:pr (t.blocks.length+3)=[t.blocks.length+1])
  (d1:D (t.blocks.length+1)=t.blocks.length) (d2:D (t.blocks.length+2)=t.blocks.length+1) (d3:D (t.blocks.length+3)=t.blocks.length+1) :
  nV D pr nx E (loop ops t)/\(loop ops t).blocks.length=t.blocks.length+3:=by
 generalize ha:t.blocks.length=a at*;have hf:=zY ops hM.ne;have bo:nV D pr nx E (on t (fy ops t.s).2):=hM.at_ _;have x0:Lx t (on t (fy ops t.s).2):=(Gw.pos t _).lx;have aJ:(on t (fy ops t.s).2).s.known=t.s.known:=rfl;unfold loop;simp only;rw[ha];generalize bK:(fy ops t.s).1=f at*;generalize (fy ops t.s).2=s0 at*;have e0:{t with s:=s0} = on t s0:=rfl;rw[e0];have V:(on t s0).blocks.length=a:=ha
 obtain ⟨bp,b1⟩:=bo.end_ (fin:=1) (cond:=0) (n:=[a+1]) (state:=0) (fe:=[a,a+2]) (by rw[V,n0]) (by rw[V,p1]) (.inl ⟨rfl,rfl⟩)
  (λw i=>by rw[V];exact((by rw[<-ha];exact(hM.kn w (by rw[<-aJ];exact i)).mono x0.1:Kn D (on t s0) a w)).up (Gy (by omega) d1))
 rw[V]at b1;have x1:=x0.trans (FE (on t s0) 1 0 [a+1] 0 [a,a+2]);have aK:(Un.end_ (on t s0) 1 0 [a+1] 0 [a,a+2]).s.known=t.s.known:=aJ;have aL:(Un.end_ (on t s0) 1 0 [a+1] 0 [a,a+2]).s.cur=[]:=rfl;generalize Un.end_ (on t s0) 1 0 [a+1] 0 [a,a+2]=c at*;generalize hp:c.s.ee.length=p at*;have m1:=bp.weaken (E':=λv=>E v\/v=p\/v=p+1) λv h=> .inl h;obtain⟨m2,y2,_,ah⟩:=QL m1 (args:=[f,0]) (.inl aL) (by omega) (λh=>absurd (.inr (.inl hp)) h);rw[hp,b1]at ah;have v2:(on c (put c.s (vl 21 0 0 0 [f,0] 0))).s.ee.length=p+1:=by show(c.s.ee++[_]).length=_;simp[hp]
 have aM:∃x,(on c (put c.s (vl 21 0 0 0 [f,0] 0))).s.ee[p]? =some x/\x.op=21:=⟨vl 21 0 0 0 [f,0] 0,by show(c.s.ee++[_])[p]? =_;rw[<-hp];simp,rfl⟩
 have bq:(on c (put c.s (vl 21 0 0 0 [f,0] 0))).s.known=t.s.known:=aK;have ai:(on c (put c.s (vl 21 0 0 0 [f,0] 0))).s.cur=[p]:=by show c.s.cur++[c.s.ee.length]=_;rw[aL,hp];rfl
 have b2:(on c (put c.s (vl 21 0 0 0 [f,0] 0))).blocks.length=a+1:=b1;have x2:=x1.trans y2;have hg:=zY ops m2.ne;rw[bq]at hg;have eG:fy ops (put c.s (vl 21 0 0 0 [f,0] 0))=fy ops (on c (put c.s (vl 21 0 0 0 [f,0] 0))).s:=rfl;rw[eG];have m3:nV D pr nx (λv=>E v\/v=p\/v=p+1) (on (on c (put c.s (vl 21 0 0 0 [f,0] 0))) (fy ops (on c (put c.s (vl 21 0 0 0 [f,0] 0))).s).2):=m2.at_ _;have g3:Gw (on c (put c.s (vl 21 0 0 0 [f,0] 0))) (on (on c (put c.s (vl 21 0 0 0 [f,0] 0))) (fy ops (on c (put c.s (vl 21 0 0 0 [f,0] 0))).s).2):=Gw.pos _ _;have v3:(fy ops (on c (put c.s (vl 21 0 0 0 [f,0] 0))).s).2.ee.length=p+1:=v2;have aN:(fy ops (on c (put c.s (vl 21 0 0 0 [f,0] 0))).s).2.known=t.s.known:=aK;have aj:(fy ops (on c (put c.s (vl 21 0 0 0 [f,0] 0))).s).2.cur=[p]:=ai;have ak:∃x,(fy ops (on c (put c.s (vl 21 0 0 0 [f,0] 0))).s).2.ee[p]? =some x/\x.op=21:=aM;generalize (fy ops (on c (put c.s (vl 21 0 0 0 [f,0] 0))).s).1=g at*;generalize (fy ops (on c (put c.s (vl 21 0 0 0 [f,0] 0))).s).2=j at*;have x3:Lx t (on c j):=x2.trans g3.lx;have aO:Ow (on c j) p (a+1):=g3.le.ow _ _ ah;have m3:nV D pr nx (λv=>E v\/v=p\/v=p+1) (on c j):=m3;have b3:(on c j).blocks.length=a+1:=b1;obtain⟨m4,y4,al,am⟩:=QL m3 (args:=[g,p]) (.inr λw i=>by
  have M:w∈j.cur:=i;rw[aj]at M;simp at M;subst M;obtain⟨x,H,I⟩:=ak;exact⟨x,H,by rw[I];rfl⟩) (by omega) (λh=>absurd (.inr (.inr v3)) h)
 have br:(on c j).s.ee.length=p+1:=v3;rw[br,b3]at al am;have x4:=x3.trans y4;have an:=y4.1.ow _ _ aO;have ao:∃x,(on (on c j) (put (on c j).s (vl 21 0 0 0 [g,p] 0))).s.ee[p]? =some x/\x.op=21:=by
  obtain⟨x,H,I⟩:=ak;obtain⟨y,W,X⟩:=y4.1.val p x H;exact⟨y,W,by rw[X,I]⟩
 have aP:∃x,(on (on c j) (put (on c j).s (vl 21 0 0 0 [g,p] 0))).s.ee[p+1]? =some x/\x.op=21:=⟨vl 21 0 0 0 [g,p] 0,by show(j.ee++[_])[p+1]? =_;rw[<-v3];simp,rfl⟩
 have aQ:Kn D (on (on c j) (put (on c j).s (vl 21 0 0 0 [g,p] 0))) (a+1) p:=by
  obtain⟨x,H,I⟩:=ao;exact⟨_,x,an,.refl _,H,by rw[I];rfl⟩
 have m5:=m4.Ot (l:=t.s.known++[p,p+1]) (λw i=>by
  rcases xX.1 i with i|i
  ·exact m4.kn w (by show w∈j.known;rw[aN];exact i)
  ·have b4:(on (on c j) (put (on c j).s (vl 21 0 0 0 [g,p] 0))).blocks.length=a+1:=b1;rw[b4];simp at i;rcases i with rfl|rfl
   ·exact aQ
   ·exact al) (by simp)
 have e5:{put j (vl 21 0 0 0 [g,p] 0)with known:=(put j (vl 21 0 0 0 [g,p] 0)).known++[p,p+1]} = {put j (vl 21 0 0 0 [g,p] 0)with known:=t.s.known++[p,p+1]}:=by
  have:(put j (vl 21 0 0 0 [g,p] 0)).known=t.s.known:=aN;rw[this]
 rw[e5];have m5:nV D pr nx (λv=>E v\/v=p\/v=p+1) (on c {put j (vl 21 0 0 0 [g,p] 0)with known:=t.s.known++[p,p+1]}):=m5;have x5:Lx t (on c {put j (vl 21 0 0 0 [g,p] 0)with known:=t.s.known++[p,p+1]}):=⟨⟨x4.1.ow,x4.1.back,x4.1.val,x4.1.st⟩,x4.2⟩
 have aR:Ow (on c {put j (vl 21 0 0 0 [g,p] 0)with known:=t.s.known++[p,p+1]}) p (a+1):=an;have aS:Ow (on c {put j (vl 21 0 0 0 [g,p] 0)with known:=t.s.known++[p,p+1]}) (p+1) (a+1):=am;have aT:∃x,(on c {put j (vl 21 0 0 0 [g,p] 0)with known:=t.s.known++[p,p+1]}).s.ee[p]? =some x/\x.op=21:=ao;have aU:∃x,(on c {put j (vl 21 0 0 0 [g,p] 0)with known:=t.s.known++[p,p+1]}).s.ee[p+1]? =some x/\x.op=21:=aP;have bt:(on c {put j (vl 21 0 0 0 [g,p] 0)with known:=t.s.known++[p,p+1]}).s.known=t.s.known++[p,p+1]:=rfl;clear m4 y4 x4 an am ao aP al aQ m3 m2 y2 g3 ah aO aM ak e5;generalize bL:({put j (vl 21 0 0 0 [g,p] 0)with known:=t.s.known++[p,p+1]}:Ds)=G at*;obtain⟨m6,g6,aV,_,_,fs,h5,h6⟩:=m5.state ops;have eS:fw ops G=fw ops (on c G).s:=rfl;rw[eS];obtain⟨m7,g7,_⟩:=m6.PK (x:=vl 23 0 0 0 [] (fw ops (on c G).s).1) (by simp only[vl];omega) (λh=>by simp only[vl]at h;omega) (λw i=>by simp[gJ,vl,two,uD]at i) (λ_=>⟨fs,h5,λw i=>by show w∈(fw ops (on c G).s).2.known;rw[aV];exact h6 w i⟩);have Y:=g6.trans g7;have m7:nV D pr nx (λv=>E v\/v=p\/v=p+1) (on c (put (fw ops (on c G).s).2 (vl 23 0 0 0 [] (fw ops (on c G).s).1))):=m7;have Y:Gw (on c G) (on c (put (fw ops (on c G).s).2 (vl 23 0 0 0 [] (fw ops (on c G).s).1))):=Y;have bu:(put (fw ops (on c G).s).2 (vl 23 0 0 0 [] (fw ops (on c G).s).1)).known=t.s.known++[p,p+1]:=by show(fw ops (on c G).s).2.known=_;rw[aV];exact bt
 generalize put (fw ops (on c G).s).2 (vl 23 0 0 0 [] (fw ops (on c G).s).1)=N at*;obtain⟨m8,g8,o⟩:=m7.PK (x:=vl 2 0 0 1 [] 0) (by simp only[vl];omega) (λh=>by simp only[vl]at h;omega) (λw i=>by simp[gJ,vl,two,uD]at i) (λh=>by simp[vl,leaves]at h);have b8:(on c N).blocks.length=a+1:=b1;have o:=o rfl;rw[b8]at o;have m8:nV D pr nx (λv=>E v\/v=p\/v=p+1) (on c (put N (vl 2 0 0 1 [] 0))):=m8;have g8:Gw (on c N) (on c (put N (vl 2 0 0 1 [] 0))):=g8;have o:Kn D (on c (put N (vl 2 0 0 1 [] 0))) (a+1) N.ee.length:=o;have v8:(put N (vl 2 0 0 1 [] 0)).ee.length=N.ee.length+1:=by simp[put]
 have aW:(put N (vl 2 0 0 1 [] 0)).known=t.s.known++[p,p+1]:=bu;generalize bJ:N.ee.length=one at*;generalize put N (vl 2 0 0 1 [] 0)=A at*;have b8:(on c A).blocks.length=a+1:=b1;have ap:p∈(on c A).s.known:=by show p∈A.known;rw[aW];simp
 obtain ⟨m9,k⟩:=m8.put (x:=vl 4 p one 0 [] 0) (by simp[vl]) (λh=>by simp[vl]at h) (λh=>by simp[vl]at h) (λ_ w i=>by
  have M:w=p\/w=one:=by simpa[gJ,vl,two]using i
  rcases M with rfl|rfl
  ·exact m8.kn _ ap
  ·rw[b8];exact o) (λh=>by simp[vl,leaves]at h) (λh=>by simp[vl,iG]at h) (λh=>by simp[vl]at h)
 have y9:Lx (on c A) (QH (on c A) (vl 4 p one 0 [] 0)):=⟨MA _ _,by show _<=(A.ee++[_]).length;simp[on]⟩
 have k:=k rfl;have O:=m9.Ot (l:=A.known++[A.ee.length]) (λw i=>by
  rcases xX.1 i with i|i
  ·exact m9.kn w i
  ·simp at i;subst i;exact k) (by simp)
 have O:nV D pr nx (λv=>E v\/v=p\/v=p+1) (on c (il A (vl 4 p one 0 [] 0))):=O;have k:Kn D (on c (il A (vl 4 p one 0 [] 0))) (a+1) (one+1):=by
  rw[<-v8,<-b8];exact k
 have y9:Lx (on c A) (on c (il A (vl 4 p one 0 [] 0))):=⟨⟨y9.1.ow,y9.1.back,y9.1.val,y9.1.st⟩,y9.2⟩
 have aX:(il A (vl 4 p one 0 [] 0)).known=t.s.known++[p,p+1]++[A.ee.length]:=by show A.known++_=_;rw[aW]
 have Q:=((Y.lx.trans g8.lx).trans y9)
 have bv:=x5.trans Q;generalize il A (vl 4 p one 0 [] 0)=d at*;have aY:=Q.1.ow _ _ aR;have aZ:=Q.1.ow _ _ aS;have a4:∃x,(on c d).s.ee[p]? =some x/\x.op=21:=by
  obtain⟨x,H,I⟩:=aT;obtain⟨y,W,X⟩:=Q.1.val p x H;exact⟨y,W,by rw[X,I]⟩
 have a5:∃x,(on c d).s.ee[p+1]? =some x/\x.op=21:=by
  obtain⟨x,H,I⟩:=aU;obtain⟨y,W,X⟩:=Q.1.val (p+1) x H;exact⟨y,W,by rw[X,I]⟩
 clear m9 m8 m7 m6 m5 Y g6 g7 g8 y9 o h5 h6 x5 aR aS aT aU;have bw:{c with s:=d} = on c d:=rfl;rw[bw];have J:(on c d).blocks.length=a+1:=b1;have R:∀w∈d.known,Kn D (on c d) (a+1) w:=λw i=>by rw[<-J];exact O.kn w i
 have ap:p∈d.known:=by rw[aX];simp
 obtain ⟨bx,aq⟩:=O.end_ (fin:=2) (cond:=p) (n:=[a+2,a+3]) (state:=0) (fe:=[a+1]) (by rw[J,n1]) (by rw[J];exact p2.symm) (.inr (.inl ⟨rfl,rfl,by rw[J];exact R p ap⟩))
  (λw i=>by rw[J];exact(R w i).up (Gy (by omega) d2))
 rw[J]at aq;have bz:=FE (on c d) 2 p [a+2,a+3] 0 [a+1];have a6:(Un.end_ (on c d) 2 p [a+2,a+3] 0 [a+1]).s.known=d.known:=rfl;generalize Un.end_ (on c d) 2 p [a+2,a+3] 0 [a+1]=e at*;obtain⟨ar,au⟩:=bx.row ops;have B:=bz.trans au.lx;have a7:=bv.trans B;have bA:(on e (row ops e.s)).blocks.length=a+2:=by rw[au.blocks];exact aq
 have kz:=ar.kn _ (G0 ar.ne);rw[bA]at kz;obtain⟨K,aa⟩:=au.known;rw[a6]at aa;have kz:Kn D (on e (row ops e.s)) (a+2) ((row ops e.s).known.getLastD 0):=kz;have ab:=B.1.ow _ _ aY;have a8:=B.1.ow _ _ aZ;have a9:∃x,(on e (row ops e.s)).s.ee[p]? =some x/\x.op=21:=by
  obtain⟨x,H,I⟩:=a4;obtain⟨y,W,X⟩:=B.1.val p x H;exact⟨y,W,by rw[X,I]⟩
 have ba:∃x,(on e (row ops e.s)).s.ee[p+1]? =some x/\x.op=21:=by
  obtain⟨x,H,I⟩:=a5;obtain⟨y,W,X⟩:=B.1.val (p+1) x H;exact⟨y,W,by rw[X,I]⟩
 have S:=(k.mono B.1).up (Gy (D:=D) (a:=a+1) (b:=a+2) (by omega) d2);have bb:∀w∈d.known,Kn D (on e (row ops e.s)) (a+1) w:=λw i=>(R w i).mono B.1;have ac:Kn D (on e (row ops e.s)) a f:=by rw[<-ha];exact(hM.kn f hf).mono a7.1
 have bc:Kn D (on e (row ops e.s)) a g:=by rw[<-ha];exact(hM.kn g hg).mono a7.1
 have aw:(row ops e.s).known=d.known++K:=aa;generalize (row ops e.s).known.getLastD 0=z at*;generalize row ops e.s=r at*;obtain⟨xp,bd,ae⟩:=a9;obtain⟨ax,ay⟩:=FD (E':=λv=>E v\/v=p+1) ar bd ae ab (by omega) (args:=[f,one+1]) (by rw[p1];exact Hr (P:=λq w=>Kn D (on e r) q w) ac S) (λw aA hE=>by
  rintro(h|h|h)
  ·exact hE (.inl h)
  ·exact aA h
  ·exact hE (.inr h))
 have ax:nV D pr nx (λv=>E v\/v=p+1) (on e (setArgs r p [f,one+1])):=ax;have ay:Lx (on e r) (on e (setArgs r p [f,one+1])):=ay;have be:(setArgs r p [f,one+1]).known=d.known++K:=aw;generalize setArgs r p [f,one+1]=C at*;have bf:nV D pr nx (λv=>E v\/v=p+1) (on e (num ops C 3).2):=ax.at_ _;have L:Lx (on e r) (on e (num ops C 3).2):=ay.trans (Gw.pos (on e C) (draw ops C.pos 3).2).lx;have ag:(num ops C 3).2.known=d.known++K:=be;generalize (num ops C 3).1=dd at*;generalize (num ops C 3).2=aB at*;have aC:∃u,(if dd=0 then setArgs aB p [f,z] else aB)=u/\nV D pr nx (λv=>E v\/v=p+1) (on e u)/\Lx (on e r) (on e u)/\u.known=d.known++K:=by
  by_cases hd:dd=0
  ·rw[if_pos hd];obtain⟨bQ,bg,aD⟩:=L.1.val p xp bd;obtain⟨m,y⟩:=FD (E':=λv=>E v\/v=p+1) bf bg (by rw[aD,ae]) (L.1.ow _ _ ab) (by omega) (args:=[f,z]) (by rw[p1];exact Hr (P:=λq w=>Kn D (on e aB) q w) (ac.mono L.1) (kz.mono L.1)) (λw _ hE=>hE);exact⟨_,rfl,m,L.trans y,ag⟩
  ·rw[if_neg hd];exact⟨_,rfl,bf,L,ag⟩
 obtain ⟨u,bC,bD,T,bh⟩:=aC;rw[bC];obtain⟨xq,bE,bi⟩:=ba;obtain⟨bR,bj,aE⟩:=T.1.val (p+1) xq bE;obtain⟨aF,aG⟩:=FD (E':=E) bD bj (by rw[aE,bi]) (T.1.ow _ _ a8) (by omega) (args:=[g,z]) (by rw[p1];exact Hr (P:=λq w=>Kn D (on e u) q w) (bc.mono T.1) (kz.mono T.1)) (λw aA hE=>by
  rintro(h|h)
  ·exact hE h
  ·exact aA h)
 have aF:nV D pr nx E (on e (setArgs u (p+1) [g,z])):=aF;have aG:Lx (on e r) (on e (setArgs u (p+1) [g,z])):=T.trans aG;have bm:(setArgs u (p+1) [g,z]).known=d.known++K:=bh;generalize setArgs u (p+1) [g,z]=F at*;obtain⟨aH,U,aI⟩:=aF.cut O.ne ⟨K,bm⟩;have aH:nV D pr nx E (on e (Un.cut d.known.length F)):=aH;have aI:Lx (on e r) (on e (Un.cut d.known.length F)):=aG.trans aI;have U:(on e (Un.cut d.known.length F)).s.known=d.known:=U;have bG:{e with s:=Un.cut d.known.length F} = on e (Un.cut d.known.length F):=rfl;rw[bG];have Z:(on e (Un.cut d.known.length F)).blocks.length=a+2:=aq;generalize on e (Un.cut d.known.length F)=t3 at*
 obtain ⟨bH,bn⟩:=aH.end_ (fin:=1) (cond:=0) (n:=[a+1]) (state:=0) (fe:=[a+1]) (by rw[Z,n2]) (by rw[Z];exact p3.symm) (.inl ⟨rfl,rfl⟩)
  (λw i=>by rw[Z];rw[U]at i;exact((bb w i).mono aI.1).up (Gy (by omega) d3))
 rw[Z]at bn;generalize Un.end_ t3 1 0 [a+1] 0 [a+1]=t4 at*;obtain⟨bI,_⟩:=bH.row ops;exact⟨bI,bn⟩
end
