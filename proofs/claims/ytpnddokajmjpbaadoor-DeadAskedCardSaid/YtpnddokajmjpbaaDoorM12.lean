/- Parts. -/
import Derived.Test.YtpnddokajmjpbaaDoorM11
namespace Go.Proofs.YtpnddokajmjpbaaDoor.Un
open Go.Proofs.YtpnddokajmjpbaaDoor.Dm
def Ow (t:Dt)(v b:Nat):Prop:=(∃B,t.blocks[b]? =some B/\v∈B.vals)\/(b=t.blocks.length/\v∈t.s.cur)
def Kn (D:Nat->Nat)(t:Dt)(a w:Nat):Prop:=∃(b:Nat) (x:Vl),Ow t w b/\Anc D b a/\t.s.vals[w]? =some x/\gives x.op=true
structure Le (t t':Dt):Prop where
 ow:∀(w b:Nat),Ow t w b->Ow t' w b
 back:∀(w b:Nat),w<t.s.vals.length->Ow t' w b->Ow t w b
 val:∀(w:Nat) (x:Vl),t.s.vals[w]? =some x->∃y,t'.s.vals[w]? =some y/\y.op=x.op
 st:∀(s:Nat) (fs:List Fm),t.s.states[s]? =some fs->t'.s.states[s]? =some fs
theorem Le.refl (t:Dt):Le t t:=⟨λ_ _ h=>h,λ_ _ _ h=>h,λ_ x h=>⟨x,h,rfl⟩,λ_ _ h=>h⟩
theorem Kn.mono {D:Nat->Nat} {t t':Dt} {a w:Nat} (h:Kn D t a w) (c:Le t t'):Kn D t' a w:=by
 obtain⟨b,x,d,e,f,g⟩:=h;obtain⟨y,i,j⟩:=c.val w x f;exact⟨b,y,c.ow w b d,e,i,by rw[j];exact g⟩
theorem Kn.up {D:Nat->Nat} {t:Dt} {a c w:Nat} (h:Kn D t a w) (d:Anc D a c):Kn D t c w:=by
 obtain⟨b,x,e,f,g⟩:=h;exact⟨b,x,e,f.trans d,g⟩
theorem Kn.lt {D:Nat->Nat} {t:Dt} {a w:Nat} (h:Kn D t a w):w<t.s.vals.length:=by
 obtain⟨b,x,_,_,c,_⟩:=h;exact(wAB.1 c).1
structure Vok (D:Nat->Nat) (t:Dt) (v:Nat) (x:Vl):Prop where
 op:1<=x.op/\x.op<=23
 putAt:x.op=20->x.args.length=1
 par:x.op=1->Ow t v 0/\x.n=(v:Nat)/\v<5
 own:∃b,Ow t v b/\(x.op≠21->∀w∈uses x,w<v/\Kn D t b w)/\(leaves x.op=true->∃fs,t.s.states[x.state]? =some fs/\∀w∈frames fs,w<v/\Kn D t b w)/\
  (isHead x.op=true->∀w,Ow t w b->w<v->∃y,t.s.vals[w]? =some y/\isHead y.op=true)
theorem Vok.mono {D:Nat->Nat} {t t':Dt} {v:Nat} {x:Vl} (h:Vok D t v x) (a:Le t t') (q:v<t.s.vals.length):Vok D t' v x:=by
 obtain⟨b,d,i,k,l⟩:=h.own;refine⟨h.op,h.putAt,λd=>⟨a.ow _ _ (h.par d).1,(h.par d).2⟩,b,a.ow _ _ d,λj w c=>⟨(i j w c).1,(i j w c).2.mono a⟩,λm=>?_,λn w c f=>?_⟩
 ·obtain⟨fs,g,e⟩:=k m;exact⟨fs,a.st _ _ g,λw c=>⟨(e w c).1,(e w c).2.mono a⟩⟩
 ·obtain⟨y,g,e⟩:=l n w (a.back w b (by omega) c) f;obtain⟨z,o,p⟩:=a.val w y g;exact⟨z,o,by rw[p];exact e⟩
def Phok (D:Nat->Nat)(t:Dt)(ps:List Nat)(x:Vl):Prop:=x.args.length=ps.length/\∀(j w q:Nat),x.args[j]? =some w->ps[j]? =some q->Kn D t q w
def Fin (D:Nat->Nat)(t:Dt)(b:Nat)(B:Bk):Prop:=(B.fin=1/\B.next.length=1)\/(B.fin=2/\B.next.length=2/\Kn D t b B.cond)\/(B.fin=3/\B.next=[]/\∃fs,t.s.states[B.state]? =some fs/\∀w∈frames fs,Kn D t b w)
theorem Fin.mono {D:Nat->Nat} {t t':Dt} {b:Nat} {B:Bk} (h:Fin D t b B) (a:Le t t'):Fin D t' b B:=by
 rcases h with h|⟨c,d,e⟩|⟨c,d,fs,e,f⟩
 ·exact .inl h
 ·exact .inr (.inl ⟨c,d,e.mono a⟩)
 ·exact .inr (.inr ⟨c,d,fs,a.st _ _ e,λw g=>(f w g).mono a⟩)
structure Mid (D:Nat->Nat) (pr nx:Nat->List Nat) (E:Nat->Prop) (t:Dt):Prop where
 cat:t.blocks.flatMap (·.vals)++t.s.cur=List.range t.s.vals.length
 vok:∀(v:Nat) (x:Vl),t.s.vals[v]? =some x->Vok D t v x
 ph:∀(v:Nat) (x:Vl),t.s.vals[v]? =some x->x.op=21->∃b,Ow t v b/\b≠0/\(¬E v->Phok D t (pr b) x)
 bk:∀(b:Nat) (B:Bk),t.blocks[b]? =some B->B.next=nx b/\B.preds=pr b/\Fin D t b B
 st:∀(s:Nat) (fs:List Fm),t.s.states[s]? =some fs->fs.length=1/\∀f∈fs,f.locals.length<=3/\f.stack.length=1/\(∀w∈f.locals,∃a,Kn D t a w)/\∀w∈f.stack,∃a,Kn D t a w
 pc:t.preds=pr t.blocks.length
 ne:t.s.known≠[]
 kn:∀w∈t.s.known,Kn D t t.blocks.length w
section
variable{D:Nat->Nat}{pr nx:Nat->List Nat}{E:Nat->Prop}{t:Dt}
def putT (t:Dt)(x:Vl):Dt:={t with s:=put t.s x}
theorem Dh (t:Dt) (x:Vl):Le t (putT t x) where
 ow w b h:=by
  rcases h with h|⟨c,d⟩
  ·exact .inl h
  ·exact .inr ⟨c,by show w∈t.s.cur++_;exact wAu _ d⟩
 back w b hw h:=by
  rcases h with h|⟨c,d⟩
  ·exact .inl h
  ·refine .inr ⟨c,?_⟩;have a:w∈t.s.cur++[t.s.vals.length]:=d;rcases wAV.1 a with a|a
   ·exact a
   ·simp at a;omega
 val w y h:=⟨y,by show(t.s.vals++[x])[w]? =some y;rw[wAd (wAB.1 h).1];exact h,rfl⟩
 st s fs h:=h
theorem Mid.put (l:Mid D pr nx E t) {x:Vl} (N:1<=x.op/\x.op<=23) (C:x.op=20->x.args.length=1) (p:x.op=1->t.blocks.length=0/\x.n=(t.s.vals.length:Nat)/\t.s.vals.length<5)
  (L:x.op≠21->∀w∈uses x,Kn D t t.blocks.length w) (O:leaves x.op=true->∃fs,t.s.states[x.state]? =some fs/\∀w∈frames fs,Kn D t t.blocks.length w)
  (P:isHead x.op=true->∀w∈t.s.cur,∃y,t.s.vals[w]? =some y/\isHead y.op=true) (F:x.op=21->t.blocks.length≠0/\(¬E t.s.vals.length->Phok D t (pr t.blocks.length) x)) :
  Mid D pr nx E (putT t x)/\(gives x.op=true->Kn D (putT t x) t.blocks.length t.s.vals.length):=by
 have c:=Dh t x;have d:Ow (putT t x) t.s.vals.length t.blocks.length:= .inr ⟨rfl,by show t.s.vals.length∈t.s.cur++[t.s.vals.length];simp⟩;have r:(putT t x).s.vals[t.s.vals.length]? =some x:=by show(t.s.vals++[x])[t.s.vals.length]? =some x;simp
 have i:∀(v:Nat) (y:Vl),(putT t x).s.vals[v]? =some y->t.s.vals[v]? =some y\/v=t.s.vals.length/\y=x:=λv y h=>by
  have h':(t.s.vals++[x])[v]? =some y:=h;by_cases hv:v<t.s.vals.length
  ·rw[wAd hv]at h';exact .inl h'
  ·have:v<(t.s.vals++[x]).length:=(wAB.1 h').1;simp at this;have G:v=t.s.vals.length:=by omega
   subst G;simp at h';exact .inr ⟨rfl,h'.symm⟩
 refine⟨⟨?_,λv y h=>?_,λv y h u=>?_,λb B h=>⟨(l.bk b B h).1,(l.bk b B h).2.1,(l.bk b B h).2.2.mono c⟩,λs fs h=>?_,l.pc,l.ne,λw e=>(l.kn w e).mono c⟩,λQ=>⟨_,x,d,.refl _,r,Q⟩⟩
 ·show t.blocks.flatMap (·.vals)++(t.s.cur++[t.s.vals.length])=List.range (t.s.vals++[x]).length;rw[<-wAU,l.cat,wAM,wBP,wBg]
 ·rcases i v y h with h|⟨rfl,rfl⟩
  ·exact(l.vok v y h).mono c (wAB.1 h).1
  ·refine ⟨N,C,λm=>?_,t.blocks.length,d,λM w e=>⟨(L M w e).lt,(L M w e).mono c⟩,λm=>?_,λm w e H=>?_⟩
   ·obtain⟨k,g⟩:=p m;rw[k]at d;exact⟨d,g⟩
   ·obtain⟨fs,k,g⟩:=O m;exact⟨fs,k,λw e=>⟨(g w e).lt,(g w e).mono c⟩⟩
   ·have R:=c.back w _ H e;rcases R with⟨B,I,_⟩|⟨_,I⟩
    ·have:=(wAB.1 I).1;omega
    ·obtain⟨z,k,g⟩:=P m w I;obtain⟨S,o,J⟩:=c.val w z k;exact⟨S,o,by rw[J];exact g⟩
 ·rcases i v y h with h|⟨rfl,rfl⟩
  ·obtain⟨b,k,g,o⟩:=l.ph v y h u;refine⟨b,c.ow _ _ k,g,λA=>⟨(o A).1,λj w q m K=>((o A).2 j w q m K).mono c⟩⟩
  ·obtain⟨k,g⟩:=F u;exact⟨_,d,k,λA=>⟨(g A).1,λj w q m K=>((g A).2 j w q m K).mono c⟩⟩
 ·obtain⟨k,g⟩:=l.st s fs h;refine⟨k,λf T=>?_⟩;obtain⟨o,J,U,V⟩:=g f T;exact⟨o,J,λw e=>(U w e).imp λa h=>h.mono c,λw e=>(V w e).imp λa h=>h.mono c⟩
theorem Mid.knows (a:Mid D pr nx E t) {l:List Nat} (c:∀w∈l,Kn D t t.blocks.length w) (b:l≠[]):Mid D pr nx E {t with s:={t.s with known:=l} }:=
 ⟨a.cat,λv x h=>⟨(a.vok v x h).op,(a.vok v x h).putAt,(a.vok v x h).par,(a.vok v x h).own⟩,a.ph,a.bk,a.st,a.pc,b,c⟩
theorem Mid.at_ (a:Mid D pr nx E t) (p:Nat):Mid D pr nx E {t with s:={t.s with pos:=p} }:=
 ⟨a.cat,λv x h=>⟨(a.vok v x h).op,(a.vok v x h).putAt,(a.vok v x h).par,(a.vok v x h).own⟩,a.ph,a.bk,a.st,a.pc,a.ne,a.kn⟩
end
def on (t:Dt)(s:Ds):Dt:={t with s:=s}
structure Gw (t t':Dt):Prop where
 blocks:t'.blocks=t.blocks
 preds:t'.preds=t.preds
 known:∃k,t'.s.known=t.s.known++k
 vals:∃e,t'.s.vals=t.s.vals++e
 le:Le t t'
theorem Le.trans {t t' a:Dt} (c:Le t t') (d:Le t' a) (j:t.s.vals.length<=t'.s.vals.length):Le t a where
 ow w b h:=d.ow w b (c.ow w b h)
 back w b hw h:=c.back w b hw (d.back w b (by omega) h)
 val w x h:=by
  obtain⟨y,e,f⟩:=c.val w x h;obtain⟨z,g,i⟩:=d.val w y e;exact⟨z,g,by rw[i,f]⟩
 st s fs h:=d.st s fs (c.st s fs h)
theorem Gw.refl (t:Dt):Gw t t:=⟨rfl,rfl,⟨[],by simp⟩,⟨[],by simp⟩,.refl t⟩
theorem Gw.len {t t':Dt} (h:Gw t t'):t.s.vals.length<=t'.s.vals.length:=by
 obtain⟨e,a⟩:=h.vals;rw[a];simp
theorem Gw.trans {t t' b:Dt} (a:Gw t t') (c:Gw t' b):Gw t b:=by
 obtain⟨k,g⟩:=a.known;obtain⟨k',d⟩:=c.known;obtain⟨e,h⟩:=a.vals;obtain⟨i,f⟩:=c.vals;exact⟨c.blocks.trans a.blocks,c.preds.trans a.preds,⟨k++k',by rw[d,g,wAU]⟩,⟨e++i,by rw[f,h,wAU]⟩,a.le.trans c.le a.len⟩
theorem Gw.pos (t:Dt)(p:Nat):Gw t (on t {t.s with pos:=p}):=⟨rfl,rfl,⟨[],(wAa _).symm⟩,⟨[],(wAa _).symm⟩,⟨λ_ _ h=>h,λ_ _ _ h=>h,λ_ x h=>⟨x,h,rfl⟩,λ_ _ h=>h⟩⟩
theorem HS {l:List Nat} {i:Nat} (h:i<l.length):l.getD i 0∈l:=by
 rw[wAL,wAA h];simp
theorem tV (ops:List Int){s:Ds}(h:s.known≠[]):(one_ ops s).1∈s.known:=HS (qq ops s.pos (List.length_pos_iff.2 h))
theorem yW {l:List Nat} (h:l≠[]):l.getLastD 0∈l:=by
 cases l with
 |nil=>exact absurd rfl h
 | cons a l=>
   rw[List.getLastD_cons]
   cases l with
   |nil=>simp
   | cons b l=>
     refine .tail _ ?_;rw[List.getLastD_eq_getLast?]
     cases hg:(b::l).getLast? with
     |none=>simp at hg
     |some z=>exact List.mem_of_getLast? hg
theorem Cm (ops:List Int):∀(i:Nat) (s:Ds) (l:List Nat),s.known≠[]->(∃p,(m0 ops i s l).2 = {s with pos:=p})/\(m0 ops i s l).1.length=l.length+i/\∀w∈(m0 ops i s l).1,w∈l\/w∈s.known
 |0,s,l,_=>⟨⟨s.pos,rfl⟩,rfl,λw h=> .inl h⟩
 | i + 1,s,l,h=>by
   obtain⟨⟨p,b⟩,c,a⟩:=Cm ops i (one_ ops s).2 (l++[(one_ ops s).1]) h;refine⟨⟨p,b⟩,by unfold m0;rw[c];simp;omega,λw d=>?_⟩;rcases a w d with a|a
   ·rcases wAV.1 a with a|a
    ·exact .inl a
    ·simp at a;subst a;exact .inr (tV ops h)
   ·exact .inr a
section
variable{D:Nat->Nat}{pr nx:Nat->List Nat}{E:Nat->Prop}{t:Dt}
theorem Mid.le1 (t:Dt) (fs:List Fm) (p:Nat):Le t (on t {t.s with states:=t.s.states++[fs],pos:=p}):=
 ⟨λ_ _ h=>h,λ_ _ _ h=>h,λ_ x h=>⟨x,h,rfl⟩,λs g h=>by show(t.s.states++[fs])[s]? =some g;rw[wAd (wAB.1 h).1];exact h⟩
theorem Mid.state (e:Mid D pr nx E t) (ops:List Int):Mid D pr nx E (on t (stateM ops t.s).2)/\Gw t (on t (stateM ops t.s).2)/\(stateM ops t.s).2.known=t.s.known/\(stateM ops t.s).2.vals=t.s.vals/\(stateM ops t.s).2.cur=t.s.cur/\
  ∃fs,(stateM ops t.s).2.states[(stateM ops t.s).1]? =some fs/\∀w∈frames fs,w∈t.s.known:=by
 obtain ⟨⟨p,z⟩,A,C⟩:=Cm ops (num ops t.s 4).1 (num ops t.s 4).2 [] e.ne;have L:(num ops t.s 4).1<4:=qq _ _ (by omega);have hs:(stateM ops t.s).2 = {t.s with states:=t.s.states++[[⟨1,(t.s.states.length:Nat),(m0 ops (num ops t.s 4).1 (num ops t.s 4).2 []).1,[t.s.known.getLastD 0]⟩]],pos:=p}:=by
  unfold stateM;simp only;rw[z];rfl
 rw[hs];generalize (m0 ops (num ops t.s 4).1 (num ops t.s 4).2 []).1=l at*;have c:=Mid.le1 t [⟨1,(t.s.states.length:Nat),l,[t.s.known.getLastD 0]⟩] p;have r:∀w∈l,w∈t.s.known:=λw d=>(C w d).elim (λh=>by cases h) id;have g:=yW e.ne
 refine ⟨⟨e.cat,λv x h=>(e.vok v x h).mono c (wAB.1 h).1,λv x h F=>?_,λb B h=>⟨(e.bk b B h).1,(e.bk b B h).2.1,(e.bk b B h).2.2.mono c⟩,λs fs h=>?_,e.pc,e.ne,λw d=>(e.kn w d).mono c⟩,
  ⟨rfl,rfl,⟨[],(wAa _).symm⟩,⟨[],(wAa _).symm⟩,c⟩,rfl,rfl,rfl,[⟨1,(t.s.states.length:Nat),l,[t.s.known.getLastD 0]⟩],wBQ,λw d=>?_⟩
 ·obtain⟨b,m,n,i⟩:=e.ph v x h F;exact⟨b,c.ow _ _ m,n,λu=>⟨(i u).1,λj w q G H=>((i u).2 j w q G H).mono c⟩⟩
 ·have h':(t.s.states++[[⟨1,(t.s.states.length:Nat),l,[t.s.known.getLastD 0]⟩]])[s]? =some fs:=h;by_cases hlt:s<t.s.states.length
  ·rw[wAd hlt]at h';obtain⟨m,n⟩:=e.st s fs h';refine⟨m,λf k=>?_⟩;obtain⟨i,I,J,K⟩:=n f k;exact⟨i,I,λw d=>(J w d).imp λa h=>h.mono c,λw d=>(K w d).imp λa h=>h.mono c⟩
  ·rw[wAn (by omega)]at h';have y:=wAI h';simp at y;subst y;refine⟨rfl,λf k=>?_⟩;simp at k;subst k;refine⟨by show l.length<=3;rw[A];simp;omega,rfl,λw d=>⟨_,(e.kn w (r w d)).mono c⟩,λw d=>?_⟩;have o:w=t.s.known.getLastD 0:=by simpa using d
   subst o;exact⟨_,(e.kn _ g).mono c⟩
 ·simp only[frames,wBr,List.flatMap_nil,wAa,wAV,wAW]at d;rcases d with d|rfl
  ·exact r w d
  ·exact g
theorem Mid.put1 (a:Mid D pr nx E t) {x:Vl} (e:2<=x.op/\x.op<=23/\x.op≠21) (b:x.op=20->x.args.length=1) (f:∀w∈uses x,w∈t.s.known) (g:leaves x.op=true->∃fs,t.s.states[x.state]? =some fs/\∀w∈frames fs,w∈t.s.known) :
  Mid D pr nx E (on t (Un.put t.s x))/\Gw t (on t (Un.put t.s x))/\(gives x.op=true->Kn D (on t (Un.put t.s x)) t.blocks.length t.s.vals.length):=by
 have c:isHead x.op=true->False:=λh=>by
  simp[isHead]at h;omega
 obtain⟨i,j⟩:=a.put (x:=x) ⟨by omega,e.2.1⟩ b (λh=>by omega) (λ_ w d=>a.kn w (f w d)) (λh=>by obtain⟨fs,k,l⟩:=g h;exact⟨fs,k,λw d=>a.kn w (l w d)⟩) (λh=>(c h).elim) (λh=>absurd h e.2.2);exact⟨i,⟨rfl,rfl,⟨[],(wAa _).symm⟩,⟨[x],rfl⟩,Dh t x⟩,j⟩
theorem Mid.putK1 (c:Mid D pr nx E t) {x:Vl} (d:2<=x.op/\x.op<19) (e:∀w∈uses x,w∈t.s.known):Mid D pr nx E (on t (putK t.s x))/\Gw t (on t (putK t.s x)):=by
 obtain ⟨f,b,g⟩:=c.put1 (x:=x) ⟨d.1,by omega,by omega⟩ (λh=>by omega) e (λh=>by simp[leaves]at h;omega);have i:=g (by simp[gives];omega);have j:=f.knows (l:=t.s.known++[t.s.vals.length]) (λw a=>by
  rcases wAV.1 a with a|a
  ·exact(c.kn w a).mono b.le
  ·simp at a;subst a;exact i) (by simp)
 exact⟨j,⟨rfl,rfl,⟨[t.s.vals.length],rfl⟩,⟨[x],rfl⟩,⟨b.le.ow,b.le.back,b.le.val,b.le.st⟩⟩⟩
end
theorem Eh (x:Vl):∀w∈uses x,w=x.a\/w=x.b\/w∈x.args:=by
 intro w c;unfold uses at c;split at c
 ·exact .inr (.inr c)
 split at c
 ·rcases wAr.1 c with h|c
  ·exact .inl h
  ·rcases wAr.1 c with h|c
   ·exact .inr (.inl h)
   ·exact .inr (.inr (wB4 c))
 split at c
 ·simp at c;rcases c with h|h
  ·exact .inl h
  ·exact .inr (.inl h)
 split at c
 ·simp at c;exact .inl c
 ·cases c
section
variable{D:Nat->Nat}{pr nx:Nat->List Nat}{E:Nat->Prop}{t:Dt}
theorem Mid.kind (o:Mid D pr nx E t) (ops:List Int) {k a b:Nat} (q:a∈t.s.known) (z:b∈t.s.known):Mid D pr nx E (on t (kindM ops t.s k a b))/\Gw t (on t (kindM ops t.s k a b)):=by
 have p:∀x:Vl,x.a=a->x.b=b->x.args=[]->∀w∈uses x,w∈t.s.known:=λx d f g w c=>by
  rcases Eh x w c with h|h|h
  ·rw[h,d];exact q
  ·rw[h,f];exact z
  ·rw[g]at h;cases h
 have j:∀m,Mid D pr nx E (on t (num ops t.s m).2)/\Gw t (on t (num ops t.s m).2):=λm=>⟨o.at_ _,Gw.pos t _⟩
 have l:∀(op:Nat) (n:Int),oneP op=true->two op=false->op≠20->op≠21->∀w∈uses (vl op a 0 n [] 0),w=a:=λop n d f g i w c=>by
  simp[uses,vl,d,f,g,i]at c;exact c
 unfold kindM;split
 ·rename_i r;exact o.putK1 (x:=vl (3+k) a b 0 [] 0) (by simp only[vl];omega) (p _ rfl rfl rfl)
 split
 ·obtain⟨d,f⟩:=j 1048576;obtain⟨g,i⟩:=d.putK1 (x:=vl 2 0 0 (((num ops t.s 1048576).1:Int)-9) [] 0) (by simp only[vl];omega) (λw c=>by simp[uses,vl,two,oneP]at c);exact⟨g,f.trans i⟩
 split
 ·obtain⟨d,f⟩:=j 5;obtain⟨g,i⟩:=d.putK1 (x:=vl 17 a 0 ((num ops t.s 5).1:Nat) [] 0) (by simp only[vl];omega) (λw c=>by rw[l 17 _ rfl rfl (by omega) (by omega) w c];exact q);exact⟨g,f.trans i⟩
 split
 ·exact o.putK1 (x:=vl 18 a b 0 [] 0) (by simp only[vl];omega) (p _ rfl rfl rfl)
 split
 ·obtain⟨d,f⟩:=j 5;obtain⟨g,i,_⟩:=d.put1 (x:=vl 19 a b ((num ops t.s 5).1:Nat) [] 0) (by simp only[vl];omega) (λh=>by simp only[vl]at h;omega) (p _ rfl rfl rfl) (λh=>by simp[vl,leaves]at h);exact⟨g,f.trans i⟩
 split
 ·have d:Mid D pr nx E (on t (one_ ops t.s).2):=o.at_ _;have f:Gw t (on t (one_ ops t.s).2):=Gw.pos t _;obtain⟨g,i,_⟩:=d.put1 (x:=vl 20 a b 0 [(one_ ops t.s).1] 0) (by simp only[vl];omega) (λ_=>rfl) (λw c=>by
   rcases Eh _ w c with h|h|h
   ·rw[h];exact q
   ·rw[h];exact z
   ·have h':w=(one_ ops t.s).1:=by simpa[vl]using h
    rw[h'];exact tV ops o.ne) (λh=>by simp[vl,leaves]at h)
  exact⟨g,f.trans i⟩
 split
 ·obtain ⟨d,f,r,_,_,fs,u,v⟩:=o.state ops;obtain⟨g,i,_⟩:=d.put1 (x:=vl 22 a 0 0 [] (stateM ops t.s).1) (by simp only[vl];omega) (λh=>by simp only[vl]at h;omega) (λw c=>by
   have e:w=a:=by simpa[uses,vl,two,oneP]using c
   show w∈(stateM ops t.s).2.known;rw[r,e];exact q) (λ_=>⟨fs,u,λw c=>by show w∈(stateM ops t.s).2.known;rw[r];exact v w c⟩)
  exact⟨g,f.trans i⟩
 split
 ·obtain⟨d,f,r,_,_,fs,u,v⟩:=o.state ops;obtain⟨g,i,_⟩:=d.put1 (x:=vl 23 0 0 0 [] (stateM ops t.s).1) (by simp only[vl];omega) (λh=>by simp only[vl]at h;omega) (λw c=>by simp[uses,vl,two,oneP]at c) (λ_=>⟨fs,u,λw c=>by show w∈(stateM ops t.s).2.known;rw[r];exact v w c⟩);exact⟨g,f.trans i⟩
 ·obtain ⟨d,f⟩:=j 2;have A:(num ops t.s 2).1<2:=qq _ _ (by omega);have y:(num ops t.s 2).1=0\/(num ops t.s 2).1=1:=by omega
  obtain ⟨g,i⟩:=d.putK1 (x:=vl (15+(num ops t.s 2).1) a 0 0 [] 0) (by simp only[vl];omega) (λw c=>by
   have e:w=a:=by
    rcases y with e|e
    ·rw[e]at c;exact l 15 _ rfl rfl (by omega) (by omega) w c
    ·rw[e]at c;exact l 16 _ rfl rfl (by omega) (by omega) w c
   rw[e];exact q)
  exact⟨g,f.trans i⟩
theorem Mid.rowStep (c:Mid D pr nx E t) (ops:List Int):Mid D pr nx E (on t (rowStep ops t.s))/\Gw t (on t (rowStep ops t.s)):=by
 have d:=tV ops c.ne;have e:Mid D pr nx E (on t (one_ ops t.s).2):=c.at_ _;have f:=tV ops e.ne;have g:Mid D pr nx E (on t (num ops (one_ ops (one_ ops t.s).2).2 20).2):=c.at_ _;obtain⟨h,i⟩:=g.kind ops (k:=(num ops (one_ ops (one_ ops t.s).2).2 20).1) (a:=(one_ ops t.s).1) (b:=(one_ ops (one_ ops t.s).2).1) d f;exact⟨h,(Gw.pos t _).trans i⟩
theorem Mid.rows (ops:List Int):∀(i:Nat) {t:Dt},Mid D pr nx E t->Mid D pr nx E (on t (rows ops i t.s))/\Gw t (on t (rows ops i t.s))
 |0,t,hM=>⟨hM,Gw.refl t⟩
 | i + 1,t,hM=>by
   unfold Un.rows;split
   ·obtain⟨a,b⟩:=hM.rowStep ops
    obtain⟨c,d⟩:=Mid.rows ops i a;exact⟨c,b.trans d⟩
   ·exact⟨hM,Gw.refl t⟩
theorem Mid.row (a:Mid D pr nx E t) (ops:List Int):Mid D pr nx E (on t (row ops t.s))/\Gw t (on t (row ops t.s)):=by
 have b:Mid D pr nx E (on t (num ops t.s 6).2):=a.at_ _;obtain⟨c,d⟩:=Mid.rows ops (1+(num ops t.s 6).1) b;exact⟨c,(Gw.pos t _).trans d⟩
end
open Go.Proofs.YtpnddokajmjpbaaDoor.Dm
def Lx (t t':Dt):Prop:=Le t t'/\t.s.vals.length<=t'.s.vals.length
theorem Lx.trans{t t' a:Dt}(b:Lx t t')(c:Lx t' a):Lx t a:=⟨b.1.trans c.1 b.2,wAq b.2 c.2⟩
theorem Gw.lx{t t':Dt}(h:Gw t t'):Lx t t':=⟨h.le,h.len⟩
section
variable{D:Nat->Nat}{pr nx:Nat->List Nat}{E E':Nat->Prop}{t:Dt}
theorem Mid.weaken (a:Mid D pr nx E t) (h:∀v,E v->E' v):Mid D pr nx E' t:=
 ⟨a.cat,a.vok,λv x c d=>let⟨b,f,g,i⟩:=a.ph v x c d;⟨b,f,g,λj=>i λe=>j (h v e)⟩,a.bk,a.st,a.pc,a.ne,a.kn⟩
theorem yE (t:Dt) (fin cond:Nat) (n:List Nat) (state:Nat) (preds:List Nat):Lx t (end_ t fin cond n state preds):=by
 refine⟨⟨λw b h=>?_,λw b _ h=>?_,λw x h=>⟨x,h,rfl⟩,λs fs h=>h⟩,wAF _⟩
 ·rcases h with⟨B,d,c⟩|⟨rfl,c⟩
  ·exact .inl ⟨B,by show(t.blocks++[_])[b]? =_;rw[wAd (wAB.1 d).1];exact d,c⟩
  ·exact .inl ⟨⟨t.s.cur,fin,cond,n,t.preds,state⟩,wBQ,c⟩
 ·rcases h with⟨B,d,c⟩|⟨_,c⟩
  ·have a:(t.blocks++[⟨t.s.cur,fin,cond,n,t.preds,state⟩])[b]? =some B:=d;by_cases hb:b<t.blocks.length
   ·rw[wAd hb]at a;exact .inl ⟨B,a,c⟩
   ·have e:=(wAB.1 a).1;simp at e;have f:b=t.blocks.length:=by omega
    subst f;rw[wBQ]at a;obtain rfl:=Option.some.inj a;exact .inr ⟨rfl,c⟩
  ·cases c
theorem Mid.end_ (e:Mid D pr nx E t) {fin cond:Nat} {n:List Nat} {state:Nat} {preds:List Nat} (u:n=nx t.blocks.length) (y:preds=pr (t.blocks.length+1)) (k:Fin D t t.blocks.length ⟨t.s.cur,fin,cond,n,t.preds,state⟩) (z:∀w∈t.s.known,Kn D t (t.blocks.length+1) w) :
  Mid D pr nx E (end_ t fin cond n state preds)/\(Un.end_ t fin cond n state preds).blocks.length=t.blocks.length+1:=by
 have c:=yE t fin cond n state preds;have hlen:(Un.end_ t fin cond n state preds).blocks.length=t.blocks.length+1:=by simp[Un.end_]
 refine⟨⟨?_,λv x h=>(e.vok v x h).mono c.1 (wAB.1 h).1,λv x h A=>?_,λb B h=>?_,λs fs h=>?_,?_,e.ne,λw g=>?_⟩,hlen⟩
 ·show(t.blocks++[(⟨t.s.cur,fin,cond,n,t.preds,state⟩:Bk)]).flatMap (·.vals)++[]=List.range t.s.vals.length;rw[wAa,wBR,<-e.cat];simp
 ·obtain⟨b,l,m,i⟩:=e.ph v x h A;exact⟨b,c.1.ow _ _ l,m,λr=>⟨(i r).1,λj w q C F=>((i r).2 j w q C F).mono c.1⟩⟩
 ·have d:(t.blocks++[⟨t.s.cur,fin,cond,n,t.preds,state⟩])[b]? =some B:=h;by_cases hb:b<t.blocks.length
  ·rw[wAd hb]at d;exact⟨(e.bk b B d).1,(e.bk b B d).2.1,(e.bk b B d).2.2.mono c.1⟩
  ·have o:=(wAB.1 d).1;simp at o;have p:b=t.blocks.length:=by omega
   subst p;rw[wBQ]at d;obtain rfl:=Option.some.inj d;exact⟨u,e.pc,k.mono c.1⟩
 ·obtain⟨l,m⟩:=e.st s fs h;refine⟨l,λf k=>?_⟩;obtain⟨i,G,H,I⟩:=m f k;exact⟨i,G,λw g=>(H w g).imp λa h=>h.mono c.1,λw g=>(I w g).imp λa h=>h.mono c.1⟩
 ·rw[hlen];exact y
 ·rw[hlen];exact(z w g).mono c.1
theorem Mid.cut (c:Mid D pr nx E t) {l:List Nat} (b:l≠[]) (a:∃k,t.s.known=l++k):Mid D pr nx E (on t (cut l.length t.s))/\(on t (Un.cut l.length t.s)).s.known=l/\Lx t (on t (Un.cut l.length t.s)):=by
 obtain⟨k,a⟩:=a;have e:t.s.known.take l.length=l:=by rw[a];simp
 have d:=c.knows (l:=l) (λw f=>c.kn w (by rw[a];exact wAu _ f)) b;have g:on t (Un.cut l.length t.s) = {t with s:={t.s with known:=l} }:=by
  unfold on Un.cut;rw[e]
 rw[g];exact⟨d,rfl,⟨⟨λ_ _ h=>h,λ_ _ _ h=>h,λ_ x h=>⟨x,h,rfl⟩,λ_ _ h=>h⟩,wAF _⟩⟩
theorem anc1{D:Nat->Nat}{a b:Nat}(h0:b≠0)(h:D b=a):Anc D a b:= .up h0 (by rw[h];exact .refl _)
theorem Ff (b:Mid D pr nx E t) {args:List Nat} (hc:t.s.cur=[]\/∀w∈t.s.cur,∃y,t.s.vals[w]? =some y/\isHead y.op=true) (h0:t.blocks.length≠0) (c:¬E t.s.vals.length->Phok D t (pr t.blocks.length) (vl 21 0 0 0 args 0)) :
  Mid D pr nx E (on t (put t.s (vl 21 0 0 0 args 0)))/\Lx t (on t (put t.s (vl 21 0 0 0 args 0)))/\Kn D (on t (put t.s (vl 21 0 0 0 args 0))) t.blocks.length t.s.vals.length/\Ow (on t (put t.s (vl 21 0 0 0 args 0))) t.s.vals.length t.blocks.length:=by
 obtain ⟨d,e⟩:=b.put (x:=vl 21 0 0 0 args 0) (by simp[vl]) (λh=>by simp[vl]at h) (λh=>by simp[vl]at h) (λh=>absurd rfl h) (λh=>by simp[vl,leaves]at h) (λ_ w a=>by
  rcases hc with hc|hc
  ·rw[hc]at a;cases a
  ·exact hc w a) (λ_=>⟨h0,c⟩)
 exact⟨d,⟨Dh t _,by show _<=(t.s.vals++[_]).length;simp⟩,e rfl,.inr ⟨rfl,by show t.s.vals.length∈t.s.cur++[t.s.vals.length];simp⟩⟩
theorem Jm (e:Mid D pr nx E t) (ops:List Int) (n0:nx t.blocks.length=[t.blocks.length+1,t.blocks.length+2]) (n1:nx (t.blocks.length+1)=[t.blocks.length+3]) (n2:nx (t.blocks.length+2)=[t.blocks.length+3])
  (p1:pr (t.blocks.length+1)=[t.blocks.length]) (p2:pr (t.blocks.length+2)=[t.blocks.length]) (Y:pr (t.blocks.length+3)=[t.blocks.length+1,t.blocks.length+2])
  (d1:D (t.blocks.length+1)=t.blocks.length) (d2:D (t.blocks.length+2)=t.blocks.length) (d3:D (t.blocks.length+3)=t.blocks.length) :
  Mid D pr nx E (fork ops t)/\(fork ops t).blocks.length=t.blocks.length+3:=by
 generalize i:t.blocks.length=a at*;have hc:=tV ops e.ne;have G:Mid D pr nx E (on t (one_ ops t.s).2):=e.at_ _;have H:Lx t (on t (one_ ops t.s).2):=(Gw.pos t _).lx;have m:(on t (one_ ops t.s).2).s.known=t.s.known:=rfl;unfold fork;simp only;rw[i];generalize I:(one_ ops t.s).1=cond at*;generalize (one_ ops t.s).2=f at*;have e0:{t with s:=f} = on t f:=rfl;rw[e0];have d:(on t f).blocks.length=a:=i
 obtain ⟨m1,b1⟩:=G.end_ (fin:=2) (cond:=cond) (n:=[a+1,a+2]) (state:=0) (preds:=[a]) (by rw[d,n0]) (by rw[d,p1]) (.inr (.inl ⟨rfl,rfl,by rw[d,<-i];exact(e.kn cond hc).mono H.1⟩))
  (λw c=>by rw[d];exact((by rw[<-i];exact(e.kn w (by rw[<-m];exact c)).mono H.1:Kn D (on t f) a w)).up (anc1 (by omega) d1))
 rw[d]at b1;have x1:=H.trans (yE (on t f) 2 cond [a+1,a+2] 0 [a]);have J:(Un.end_ (on t f) 2 cond [a+1,a+2] 0 [a]).s.known=t.s.known:=m;generalize Un.end_ (on t f) 2 cond [a+1,a+2] 0 [a]=b at*;obtain⟨K,L⟩:=m1.row ops;have x2:=x1.trans L.lx;have b2:(on b (row ops b.s)).blocks.length=a+1:=by rw[L.blocks];exact b1
 have kx:=K.kn _ (yW K.ne);obtain⟨k2,o⟩:=L.known;rw[J]at o;have eX:(row ops b.s).known.getLastD 0=(on b (row ops b.s)).s.known.getLastD 0:=rfl;rw[eX];generalize (on b (row ops b.s)).s.known.getLastD 0=x at*;obtain⟨m3,p,r⟩:=K.cut e.ne ⟨k2,o⟩;have Z:=x2.trans r;have u:=kx.mono r.1;rw[b2]at u;have e3:{b with s:=Un.cut t.s.known.length (row ops b.s)} = on (on b (row ops b.s)) (Un.cut t.s.known.length (on b (row ops b.s)).s):=rfl;rw[e3];have b3:(on (on b (row ops b.s)) (Un.cut t.s.known.length (on b (row ops b.s)).s)).blocks.length=a+1:=b2;generalize on (on b (row ops b.s)) (Un.cut t.s.known.length (on b (row ops b.s)).s)=A at*
 obtain ⟨m4,b4⟩:=m3.end_ (fin:=1) (cond:=0) (n:=[a+3]) (state:=0) (preds:=[a]) (by rw[b3,n1]) (by rw[b3];exact p2.symm) (.inl ⟨rfl,rfl⟩)
  (λw c=>by rw[b3];exact((by rw[<-i];exact(e.kn w (by rw[<-p];exact c)).mono Z.1:Kn D A a w)).up (anc1 (by omega) d2))
 rw[b3]at b4;have y4:=yE A 1 0 [a+3] 0 [a];have x4:=Z.trans y4;have M:=u.mono y4.1;have N:(Un.end_ A 1 0 [a+3] 0 [a]).s.known=t.s.known:=p;generalize Un.end_ A 1 0 [a+3] 0 [a]=t4 at*;obtain⟨O,B⟩:=m4.row ops;have x5:=x4.trans B.lx;have P:=M.mono B.le;have b5:(on t4 (row ops t4.s)).blocks.length=a+2:=by rw[B.blocks];exact b4
 have ky:=O.kn _ (yW O.ne);obtain⟨k5,v⟩:=B.known;rw[N]at v;have eY:(row ops t4.s).known.getLastD 0=(on t4 (row ops t4.s)).s.known.getLastD 0:=rfl;rw[eY];generalize (on t4 (row ops t4.s)).s.known.getLastD 0=y at*;obtain⟨m6,Q,g⟩:=O.cut e.ne ⟨k5,v⟩;have x6:=x5.trans g;have R:=P.mono g.1;have z:=ky.mono g.1;rw[b5]at z;have e6:{t4 with s:=Un.cut t.s.known.length (row ops t4.s)} = on (on t4 (row ops t4.s)) (Un.cut t.s.known.length (on t4 (row ops t4.s)).s):=rfl;rw[e6];have C:(on (on t4 (row ops t4.s)) (Un.cut t.s.known.length (on t4 (row ops t4.s)).s)).blocks.length=a+2:=b5;generalize on (on t4 (row ops t4.s)) (Un.cut t.s.known.length (on t4 (row ops t4.s)).s)=F at*
 obtain ⟨m7,S⟩:=m6.end_ (fin:=1) (cond:=0) (n:=[a+3]) (state:=0) (preds:=[a+1,a+2]) (by rw[C,n2]) (by rw[C];exact Y.symm) (.inl ⟨rfl,rfl⟩)
  (λw c=>by rw[C];exact((by rw[<-i];exact(e.kn w (by rw[<-Q];exact c)).mono x6.1:Kn D F a w)).up (anc1 (by omega) d3))
 rw [C]at S;have y7:=yE F 1 0 [a+3] 0 [a+1,a+2];have T:=R.mono y7.1;have U:=z.mono y7.1;have V:(Un.end_ F 1 0 [a+3] 0 [a+1,a+2]).s.cur=[]:=rfl;generalize Un.end_ F 1 0 [a+3] 0 [a+1,a+2]=t7 at*;obtain⟨m8,y8,W,_⟩:=Ff m7 (args:=[x,y]) (.inl V) (by omega) (λ_=>by
  rw[S,Y];refine⟨rfl,λj w q h k=>?_⟩
  match j,h,k with
  | 0,h,k=>
    obtain rfl:x=w:=by simpa[vl]using h
    obtain rfl:a+1=q:=by simpa using k
    exact T
  | 1,h,k=>
    obtain rfl:y=w:=by simpa[vl]using h
    obtain rfl:a+2=q:=by simpa using k
    exact U
  |j+2,h,k=>simp[vl]at h)
 have m9:=m8.knows (l:=t7.s.known++[t7.s.vals.length]) (λw c=>by
  rcases wAV.1 c with c|c
  ·exact m8.kn w c
  ·simp at c;subst c;exact W) (by simp)
 obtain⟨X,_⟩:=m9.row ops;exact⟨X,S⟩
theorem IL (h:Mid D pr nx E t) (ops:List Int) (n0:nx t.blocks.length=[t.blocks.length+1,t.blocks.length+2]) (H:nx (t.blocks.length+1)=[])
  (I:pr (t.blocks.length+1)=[t.blocks.length]) (J:pr (t.blocks.length+2)=[t.blocks.length]) (K:D (t.blocks.length+1)=t.blocks.length) (L:D (t.blocks.length+2)=t.blocks.length) :
  Mid D pr nx E (qJ ops t)/\(qJ ops t).blocks.length=t.blocks.length+2:=by
 generalize i:t.blocks.length=a at*;have hc:=tV ops h.ne;have q:Mid D pr nx E (on t (one_ ops t.s).2):=h.at_ _;have r:Lx t (on t (one_ ops t.s).2):=(Gw.pos t _).lx;have j:(on t (one_ ops t.s).2).s.known=t.s.known:=rfl;unfold qJ;simp only;rw[i];generalize u:(one_ ops t.s).1=cond at*;generalize (one_ ops t.s).2=f at*;have e0:{t with s:=f} = on t f:=rfl;rw[e0];have c:(on t f).blocks.length=a:=i
 obtain ⟨M,b1⟩:=q.end_ (fin:=2) (cond:=cond) (n:=[a+1,a+2]) (state:=0) (preds:=[a]) (by rw[c,n0]) (by rw[c,I]) (.inr (.inl ⟨rfl,rfl,by rw[c,<-i];exact(h.kn cond hc).mono r.1⟩))
  (λw d=>by rw[c];exact((by rw[<-i];exact(h.kn w (by rw[<-j];exact d)).mono r.1:Kn D (on t f) a w)).up (anc1 (by omega) K))
 rw[c]at b1;have N:=r.trans (yE (on t f) 2 cond [a+1,a+2] 0 [a]);have v:(Un.end_ (on t f) 2 cond [a+1,a+2] 0 [a]).s.known=t.s.known:=j;generalize Un.end_ (on t f) 2 cond [a+1,a+2] 0 [a]=b at*;obtain⟨O,x⟩:=M.row ops;have P:=N.trans x.lx;have b2:(on b (row ops b.s)).blocks.length=a+1:=by rw[x.blocks];exact b1
 obtain ⟨C,g⟩:=x.known;rw[v]at g;obtain⟨F,Q,y,_,_,fs,z,A⟩:=O.state ops;have R:=P.trans Q.lx;have b3:(on (on b (row ops b.s)) (stateM ops (on b (row ops b.s)).s).2).blocks.length=a+1:=b2;have eS:stateM ops (row ops b.s)=stateM ops (on b (row ops b.s)).s:=rfl;rw[eS];have e:(on (on b (row ops b.s)) (stateM ops (on b (row ops b.s)).s).2).s.known=t.s.known++C:=by
  show(stateM ops (on b (row ops b.s)).s).2.known=_;rw[y,g]
 have k:∀w∈frames fs,Kn D (on (on b (row ops b.s)) (stateM ops (on b (row ops b.s)).s).2) (a+1) w:=λw d=>by
  rw[<-b3];refine F.kn w ?_;rw[e,<-g];exact A w d
 obtain⟨S,B,l⟩:=F.cut h.ne ⟨C,e⟩;have T:=R.trans l;generalize (stateM ops (on b (row ops b.s)).s).1=st at*;have U:{b with s:=Un.cut t.s.known.length (stateM ops (on b (row ops b.s)).s).2} = on (on (on b (row ops b.s)) (stateM ops (on b (row ops b.s)).s).2) (Un.cut t.s.known.length (on (on b (row ops b.s)) (stateM ops (on b (row ops b.s)).s).2).s):=rfl;rw[U];have m:(on (on (on b (row ops b.s)) (stateM ops (on b (row ops b.s)).s).2) (Un.cut t.s.known.length (on (on b (row ops b.s)) (stateM ops (on b (row ops b.s)).s).2).s)).s.states[st]? =some fs:=z;have o:=λw d=>(k w d).mono l.1;have p:(on (on (on b (row ops b.s)) (stateM ops (on b (row ops b.s)).s).2) (Un.cut t.s.known.length (on (on b (row ops b.s)) (stateM ops (on b (row ops b.s)).s).2).s)).blocks.length=a+1:=b2;generalize on (on (on b (row ops b.s)) (stateM ops (on b (row ops b.s)).s).2) (Un.cut t.s.known.length (on (on b (row ops b.s)) (stateM ops (on b (row ops b.s)).s).2).s)=t4 at*
 obtain ⟨V,G⟩:=S.end_ (fin:=3) (cond:=0) (n:=[]) (state:=st) (preds:=[a]) (by rw[p,H]) (by rw[p];exact J.symm) (.inr (.inr ⟨rfl,rfl,fs,m,λw d=>by rw[p];exact o w d⟩))
  (λw d=>by rw[p];exact((by rw[<-i];exact(h.kn w (by rw[<-B];exact d)).mono T.1:Kn D t4 a w)).up (anc1 (by omega) L))
 rw[p]at G;generalize Un.end_ t4 3 0 [] st [a]=X at*;obtain⟨W,_⟩:=V.row ops;exact⟨W,G⟩
theorem JM (t:Dt) (v:Nat) (args:List Nat):Lx t (on t (setArgs t.s v args)):=by
 refine⟨⟨λ_ _ h=>h,λ_ _ _ h=>h,λw x h=>?_,λ_ _ h=>h⟩,by show _<=(t.s.vals.modify v _).length;rw[List.length_modify];exact wAF _⟩;show ∃y,(t.s.vals.modify v λx=>{x with args:=args})[w]? =some y/\y.op=x.op;rw[wB5,h];refine⟨_,rfl,?_⟩;split <;> rfl
theorem yP (g:Mid D pr nx E t) {v b:Nat} {x:Vl} {args:List Nat} (r:t.s.vals[v]? =some x) (I:x.op=21) (M:Ow t v b) (h0:b≠0) (J:args.length=(pr b).length/\∀(j w q:Nat),args[j]? =some w->(pr b)[j]? =some q->Kn D t q w) (K:∀w,w≠v->¬E' w->¬E w) :
  Mid D pr nx E' (on t (setArgs t.s v args))/\Lx t (on t (setArgs t.s v args)):=by
 have d:=JM t v args;refine⟨?_,d⟩;have i:∀(w:Nat) (y:Vl),(on t (setArgs t.s v args)).s.vals[w]? =some y->(w≠v/\t.s.vals[w]? =some y)\/(w=v/\y = {x with args:=args}):=λw y h=>by
  have h':(t.s.vals.modify v λx=>{x with args:=args})[w]? =some y:=h;rw[wB5]at h';by_cases k:v=w
  ·subst k;rw[r]at h';simp at h';exact .inr ⟨rfl,h'.symm⟩
  ·cases hx:t.s.vals[w]? with
   |none=>rw[hx]at h';simp at h'
   | some z=>
     rw[hx]at h';simp[k]at h';exact .inl ⟨λe=>k e.symm,by rw[h']⟩
 have l:=(wAB.1 r).1;refine⟨by show t.blocks.flatMap (λB:Bk=>B.vals)++t.s.cur=List.range (t.s.vals.modify v _).length;rw[List.length_modify];exact g.cat,λw y h=>?_,λw y h A=>?_,λc B h=>⟨(g.bk c B h).1,(g.bk c B h).2.1,(g.bk c B h).2.2.mono d.1⟩,λs fs h=>?_,g.pc,g.ne,λw k=>(g.kn w k).mono d.1⟩
 ·rcases i w y h with⟨_,h⟩|⟨rfl,rfl⟩
  ·exact(g.vok w y h).mono d.1 (wAB.1 h).1
  ·have L:=(g.vok w x r).mono d.1 l;obtain⟨c,m,_,_,C⟩:=L.own;refine⟨L.op,λh=>?_,λh=>?_,c,m,λh=>absurd I h,λh=>?_,C⟩
   ·have h':x.op=20:=h;omega
   ·have h':x.op=1:=h;omega
   ·have h':leaves x.op=true:=h;rw[I]at h';cases h'
 ·rcases i w y h with⟨n,h⟩|⟨rfl,rfl⟩
  ·obtain⟨c,m,F,p⟩:=g.ph w y h A;exact⟨c,m,F,λo=>⟨(p (K w n o)).1,λj u q G H=>((p (K w n o)).2 j u q G H).mono d.1⟩⟩
  ·exact⟨b,M,h0,λ_=>⟨J.1,λj u q G H=>(J.2 j u q G H).mono d.1⟩⟩
 ·obtain⟨m,F⟩:=g.st s fs h;refine⟨m,λf N=>?_⟩;obtain⟨p,C,O,P⟩:=F f N;exact⟨p,C,λw k=>(O w k).imp λa h=>h.mono d.1,λw k=>(P w k).imp λa h=>h.mono d.1⟩
theorem zE {P:Nat->Nat->Prop} {x y q r:Nat} (c:P q x) (d:P r y):([x,y]:List Nat).length=([q,r]:List Nat).length/\∀(j w p:Nat),([x,y]:List Nat)[j]? =some w->([q,r]:List Nat)[j]? =some p->P p w:=by
 refine⟨rfl,λj w p a b=>?_⟩
 match j,a,b with
 | 0,a,b=>
   obtain rfl:x=w:=by simpa using a
   obtain rfl:q=p:=by simpa using b
   exact c
 | 1,a,b=>
   obtain rfl:y=w:=by simpa using a
   obtain rfl:r=p:=by simpa using b
   exact d
 |j+2,a,b=>simp at a
structure Hd (D:Nat->Nat) (t b:Dt) (p f g less a:Nat):Prop where
 lx:Lx t b
 blocks:b.blocks.length=a+2
 kf:Kn D b a f
 kg:Kn D b a g
 kl:Kn D b (a+1) less
 op:Ow b p (a+1)
 oq:Ow b (p+1) (a+1)
 vp:∃x,b.s.vals[p]? =some x/\x.op=21
 vq:∃x,b.s.vals[p+1]? =some x/\x.op=21
 kn:∀w∈b.s.known,Kn D b (a+1) w
end
open Go.Proofs.YtpnddokajmjpbaaDoor.Dm
section
variable{D:Nat->Nat}{pr nx:Nat->List Nat}{E E':Nat->Prop}{t:Dt}
set_option maxHeartbeats 2000000 in
theorem IS (hM:Mid D pr nx E t) (ops:List Int) (n0:nx t.blocks.length=[t.blocks.length+1]) (n1:nx (t.blocks.length+1)=[t.blocks.length+2,t.blocks.length+3]) (n2:nx (t.blocks.length+2)=[t.blocks.length+1])
  (p1:pr (t.blocks.length+1)=[t.blocks.length,t.blocks.length+2]) (p2:pr (t.blocks.length+2)=[t.blocks.length+1]) (p3:pr (t.blocks.length+3)=[t.blocks.length+1])
  (d1:D (t.blocks.length+1)=t.blocks.length) (d2:D (t.blocks.length+2)=t.blocks.length+1) (d3:D (t.blocks.length+3)=t.blocks.length+1) :
  Mid D pr nx E (loop ops t)/\(loop ops t).blocks.length=t.blocks.length+3:=by
 generalize ha:t.blocks.length=a at*;have hf:=tV ops hM.ne;have bq:Mid D pr nx E (on t (one_ ops t.s).2):=hM.at_ _;have x0:Lx t (on t (one_ ops t.s).2):=(Gw.pos t _).lx;have aK:(on t (one_ ops t.s).2).s.known=t.s.known:=rfl;unfold loop;simp only;rw[ha];generalize bQ:(one_ ops t.s).1=f at*;generalize (one_ ops t.s).2=s0 at*;have e0:{t with s:=s0} = on t s0:=rfl;rw[e0];have V:(on t s0).blocks.length=a:=ha
 obtain ⟨br,b1⟩:=bq.end_ (fin:=1) (cond:=0) (n:=[a+1]) (state:=0) (preds:=[a,a+2]) (by rw[V,n0]) (by rw[V,p1]) (.inl ⟨rfl,rfl⟩)
  (λw i=>by rw[V];exact((by rw[<-ha];exact(hM.kn w (by rw[<-aK];exact i)).mono x0.1:Kn D (on t s0) a w)).up (anc1 (by omega) d1))
 rw[V]at b1;have x1:=x0.trans (yE (on t s0) 1 0 [a+1] 0 [a,a+2]);have aL:(Un.end_ (on t s0) 1 0 [a+1] 0 [a,a+2]).s.known=t.s.known:=aK;have aM:(Un.end_ (on t s0) 1 0 [a+1] 0 [a,a+2]).s.cur=[]:=rfl;generalize Un.end_ (on t s0) 1 0 [a+1] 0 [a,a+2]=c at*;generalize hp:c.s.vals.length=p at*;have m1:=br.weaken (E':=λv=>E v\/v=p\/v=p+1) λv h=> .inl h;obtain⟨m2,y2,_,ah⟩:=Ff m1 (args:=[f,0]) (.inl aM) (by omega) (λh=>absurd (.inr (.inl hp)) h);rw[hp,b1]at ah;have v2:(on c (put c.s (vl 21 0 0 0 [f,0] 0))).s.vals.length=p+1:=by show(c.s.vals++[_]).length=_;simp[hp]
 have aN:∃x,(on c (put c.s (vl 21 0 0 0 [f,0] 0))).s.vals[p]? =some x/\x.op=21:=⟨vl 21 0 0 0 [f,0] 0,by show(c.s.vals++[_])[p]? =_;rw[<-hp];simp,rfl⟩
 have bt:(on c (put c.s (vl 21 0 0 0 [f,0] 0))).s.known=t.s.known:=aL;have ai:(on c (put c.s (vl 21 0 0 0 [f,0] 0))).s.cur=[p]:=by show c.s.cur++[c.s.vals.length]=_;rw[aM,hp];rfl
 have b2:(on c (put c.s (vl 21 0 0 0 [f,0] 0))).blocks.length=a+1:=b1;have x2:=x1.trans y2;have hg:=tV ops m2.ne;rw[bt]at hg;have eG:one_ ops (put c.s (vl 21 0 0 0 [f,0] 0))=one_ ops (on c (put c.s (vl 21 0 0 0 [f,0] 0))).s:=rfl;rw[eG];have m3:Mid D pr nx (λv=>E v\/v=p\/v=p+1) (on (on c (put c.s (vl 21 0 0 0 [f,0] 0))) (one_ ops (on c (put c.s (vl 21 0 0 0 [f,0] 0))).s).2):=m2.at_ _;have g3:Gw (on c (put c.s (vl 21 0 0 0 [f,0] 0))) (on (on c (put c.s (vl 21 0 0 0 [f,0] 0))) (one_ ops (on c (put c.s (vl 21 0 0 0 [f,0] 0))).s).2):=Gw.pos _ _;have v3:(one_ ops (on c (put c.s (vl 21 0 0 0 [f,0] 0))).s).2.vals.length=p+1:=v2;have aO:(one_ ops (on c (put c.s (vl 21 0 0 0 [f,0] 0))).s).2.known=t.s.known:=aL;have aj:(one_ ops (on c (put c.s (vl 21 0 0 0 [f,0] 0))).s).2.cur=[p]:=ai;have al:∃x,(one_ ops (on c (put c.s (vl 21 0 0 0 [f,0] 0))).s).2.vals[p]? =some x/\x.op=21:=aN;generalize (one_ ops (on c (put c.s (vl 21 0 0 0 [f,0] 0))).s).1=g at*;generalize (one_ ops (on c (put c.s (vl 21 0 0 0 [f,0] 0))).s).2=j at*;have x3:Lx t (on c j):=x2.trans g3.lx;have aP:Ow (on c j) p (a+1):=g3.le.ow _ _ ah;have m3:Mid D pr nx (λv=>E v\/v=p\/v=p+1) (on c j):=m3;have b3:(on c j).blocks.length=a+1:=b1;obtain⟨m4,y4,am,an⟩:=Ff m3 (args:=[g,p]) (.inr λw i=>by
  have M:w∈j.cur:=i;rw[aj]at M;simp at M;subst M;obtain⟨x,H,I⟩:=al;exact⟨x,H,by rw[I];rfl⟩) (by omega) (λh=>absurd (.inr (.inr v3)) h)
 have bu:(on c j).s.vals.length=p+1:=v3;rw[bu,b3]at am an;have x4:=x3.trans y4;have ao:=y4.1.ow _ _ aP;have ap:∃x,(on (on c j) (put (on c j).s (vl 21 0 0 0 [g,p] 0))).s.vals[p]? =some x/\x.op=21:=by
  obtain⟨x,H,I⟩:=al;obtain⟨y,W,X⟩:=y4.1.val p x H;exact⟨y,W,by rw[X,I]⟩
 have aQ:∃x,(on (on c j) (put (on c j).s (vl 21 0 0 0 [g,p] 0))).s.vals[p+1]? =some x/\x.op=21:=⟨vl 21 0 0 0 [g,p] 0,by show(j.vals++[_])[p+1]? =_;rw[<-v3];simp,rfl⟩
 have aR:Kn D (on (on c j) (put (on c j).s (vl 21 0 0 0 [g,p] 0))) (a+1) p:=by
  obtain⟨x,H,I⟩:=ap;exact⟨_,x,ao,.refl _,H,by rw[I];rfl⟩
 have m5:=m4.knows (l:=t.s.known++[p,p+1]) (λw i=>by
  rcases wAV.1 i with i|i
  ·exact m4.kn w (by show w∈j.known;rw[aO];exact i)
  ·have b4:(on (on c j) (put (on c j).s (vl 21 0 0 0 [g,p] 0))).blocks.length=a+1:=b1;rw[b4];simp at i;rcases i with rfl|rfl
   ·exact aR
   ·exact am) (by simp)
 have e5:{put j (vl 21 0 0 0 [g,p] 0)with known:=(put j (vl 21 0 0 0 [g,p] 0)).known++[p,p+1]} = {put j (vl 21 0 0 0 [g,p] 0)with known:=t.s.known++[p,p+1]}:=by
  have:(put j (vl 21 0 0 0 [g,p] 0)).known=t.s.known:=aO;rw[this]
 rw[e5];have m5:Mid D pr nx (λv=>E v\/v=p\/v=p+1) (on c {put j (vl 21 0 0 0 [g,p] 0)with known:=t.s.known++[p,p+1]}):=m5;have x5:Lx t (on c {put j (vl 21 0 0 0 [g,p] 0)with known:=t.s.known++[p,p+1]}):=⟨⟨x4.1.ow,x4.1.back,x4.1.val,x4.1.st⟩,x4.2⟩
 have aS:Ow (on c {put j (vl 21 0 0 0 [g,p] 0)with known:=t.s.known++[p,p+1]}) p (a+1):=ao;have aT:Ow (on c {put j (vl 21 0 0 0 [g,p] 0)with known:=t.s.known++[p,p+1]}) (p+1) (a+1):=an;have aU:∃x,(on c {put j (vl 21 0 0 0 [g,p] 0)with known:=t.s.known++[p,p+1]}).s.vals[p]? =some x/\x.op=21:=ap;have aV:∃x,(on c {put j (vl 21 0 0 0 [g,p] 0)with known:=t.s.known++[p,p+1]}).s.vals[p+1]? =some x/\x.op=21:=aQ;have bv:(on c {put j (vl 21 0 0 0 [g,p] 0)with known:=t.s.known++[p,p+1]}).s.known=t.s.known++[p,p+1]:=rfl;clear m4 y4 x4 ao an ap aQ am aR m3 m2 y2 g3 ah aP aN al e5;generalize bR:({put j (vl 21 0 0 0 [g,p] 0)with known:=t.s.known++[p,p+1]}:Ds)=G at*;obtain⟨m6,g6,aW,_,_,fs,h5,h6⟩:=m5.state ops;have eS:stateM ops G=stateM ops (on c G).s:=rfl;rw[eS];obtain⟨m7,g7,_⟩:=m6.put1 (x:=vl 23 0 0 0 [] (stateM ops (on c G).s).1) (by simp only[vl];omega) (λh=>by simp only[vl]at h;omega) (λw i=>by simp[uses,vl,two,oneP]at i) (λ_=>⟨fs,h5,λw i=>by show w∈(stateM ops (on c G).s).2.known;rw[aW];exact h6 w i⟩);have Y:=g6.trans g7;have m7:Mid D pr nx (λv=>E v\/v=p\/v=p+1) (on c (put (stateM ops (on c G).s).2 (vl 23 0 0 0 [] (stateM ops (on c G).s).1))):=m7;have Y:Gw (on c G) (on c (put (stateM ops (on c G).s).2 (vl 23 0 0 0 [] (stateM ops (on c G).s).1))):=Y;have bw:(put (stateM ops (on c G).s).2 (vl 23 0 0 0 [] (stateM ops (on c G).s).1)).known=t.s.known++[p,p+1]:=by show(stateM ops (on c G).s).2.known=_;rw[aW];exact bv
 generalize put (stateM ops (on c G).s).2 (vl 23 0 0 0 [] (stateM ops (on c G).s).1)=N at*;obtain⟨m8,g8,o⟩:=m7.put1 (x:=vl 2 0 0 1 [] 0) (by simp only[vl];omega) (λh=>by simp only[vl]at h;omega) (λw i=>by simp[uses,vl,two,oneP]at i) (λh=>by simp[vl,leaves]at h);have b8:(on c N).blocks.length=a+1:=b1;have o:=o rfl;rw[b8]at o;have m8:Mid D pr nx (λv=>E v\/v=p\/v=p+1) (on c (put N (vl 2 0 0 1 [] 0))):=m8;have g8:Gw (on c N) (on c (put N (vl 2 0 0 1 [] 0))):=g8;have o:Kn D (on c (put N (vl 2 0 0 1 [] 0))) (a+1) N.vals.length:=o;have v8:(put N (vl 2 0 0 1 [] 0)).vals.length=N.vals.length+1:=by simp[put]
 have aX:(put N (vl 2 0 0 1 [] 0)).known=t.s.known++[p,p+1]:=bw;generalize bL:N.vals.length=one at*;generalize put N (vl 2 0 0 1 [] 0)=A at*;have b8:(on c A).blocks.length=a+1:=b1;have aq:p∈(on c A).s.known:=by show p∈A.known;rw[aX];simp
 obtain ⟨m9,k⟩:=m8.put (x:=vl 4 p one 0 [] 0) (by simp[vl]) (λh=>by simp[vl]at h) (λh=>by simp[vl]at h) (λ_ w i=>by
  have M:w=p\/w=one:=by simpa[uses,vl,two]using i
  rcases M with rfl|rfl
  ·exact m8.kn _ aq
  ·rw[b8];exact o) (λh=>by simp[vl,leaves]at h) (λh=>by simp[vl,isHead]at h) (λh=>by simp[vl]at h)
 have y9:Lx (on c A) (putT (on c A) (vl 4 p one 0 [] 0)):=⟨Dh _ _,by show _<=(A.vals++[_]).length;simp[on]⟩
 have k:=k rfl;have O:=m9.knows (l:=A.known++[A.vals.length]) (λw i=>by
  rcases wAV.1 i with i|i
  ·exact m9.kn w i
  ·simp at i;subst i;exact k) (by simp)
 have O:Mid D pr nx (λv=>E v\/v=p\/v=p+1) (on c (putK A (vl 4 p one 0 [] 0))):=O;have k:Kn D (on c (putK A (vl 4 p one 0 [] 0))) (a+1) (one+1):=by
  rw[<-v8,<-b8];exact k
 have y9:Lx (on c A) (on c (putK A (vl 4 p one 0 [] 0))):=⟨⟨y9.1.ow,y9.1.back,y9.1.val,y9.1.st⟩,y9.2⟩
 have aY:(putK A (vl 4 p one 0 [] 0)).known=t.s.known++[p,p+1]++[A.vals.length]:=by show A.known++_=_;rw[aX]
 have Q:=((Y.lx.trans g8.lx).trans y9)
 have bx:=x5.trans Q;generalize putK A (vl 4 p one 0 [] 0)=d at*;have aZ:=Q.1.ow _ _ aS;have a5:=Q.1.ow _ _ aT;have a6:∃x,(on c d).s.vals[p]? =some x/\x.op=21:=by
  obtain⟨x,H,I⟩:=aU;obtain⟨y,W,X⟩:=Q.1.val p x H;exact⟨y,W,by rw[X,I]⟩
 have a7:∃x,(on c d).s.vals[p+1]? =some x/\x.op=21:=by
  obtain⟨x,H,I⟩:=aV;obtain⟨y,W,X⟩:=Q.1.val (p+1) x H;exact⟨y,W,by rw[X,I]⟩
 clear m9 m8 m7 m6 m5 Y g6 g7 g8 y9 o h5 h6 x5 aS aT aU aV;have bz:{c with s:=d} = on c d:=rfl;rw[bz];have J:(on c d).blocks.length=a+1:=b1;have R:∀w∈d.known,Kn D (on c d) (a+1) w:=λw i=>by rw[<-J];exact O.kn w i
 have aq:p∈d.known:=by rw[aY];simp
 obtain ⟨bA,ar⟩:=O.end_ (fin:=2) (cond:=p) (n:=[a+2,a+3]) (state:=0) (preds:=[a+1]) (by rw[J,n1]) (by rw[J];exact p2.symm) (.inr (.inl ⟨rfl,rfl,by rw[J];exact R p aq⟩))
  (λw i=>by rw[J];exact(R w i).up (anc1 (by omega) d2))
 rw[J]at ar;have bC:=yE (on c d) 2 p [a+2,a+3] 0 [a+1];have a8:(Un.end_ (on c d) 2 p [a+2,a+3] 0 [a+1]).s.known=d.known:=rfl;generalize Un.end_ (on c d) 2 p [a+2,a+3] 0 [a+1]=e at*;obtain⟨au,aw⟩:=bA.row ops;have B:=bC.trans aw.lx;have a9:=bx.trans B;have bD:(on e (row ops e.s)).blocks.length=a+2:=by rw[aw.blocks];exact ar
 have kz:=au.kn _ (yW au.ne);rw[bD]at kz;obtain⟨K,aa⟩:=aw.known;rw[a8]at aa;have kz:Kn D (on e (row ops e.s)) (a+2) ((row ops e.s).known.getLastD 0):=kz;have ab:=B.1.ow _ _ aZ;have ba:=B.1.ow _ _ a5;have bb:∃x,(on e (row ops e.s)).s.vals[p]? =some x/\x.op=21:=by
  obtain⟨x,H,I⟩:=a6;obtain⟨y,W,X⟩:=B.1.val p x H;exact⟨y,W,by rw[X,I]⟩
 have bc:∃x,(on e (row ops e.s)).s.vals[p+1]? =some x/\x.op=21:=by
  obtain⟨x,H,I⟩:=a7;obtain⟨y,W,X⟩:=B.1.val (p+1) x H;exact⟨y,W,by rw[X,I]⟩
 have S:=(k.mono B.1).up (anc1 (D:=D) (a:=a+1) (b:=a+2) (by omega) d2);have bd:∀w∈d.known,Kn D (on e (row ops e.s)) (a+1) w:=λw i=>(R w i).mono B.1;have ac:Kn D (on e (row ops e.s)) a f:=by rw[<-ha];exact(hM.kn f hf).mono a9.1
 have be:Kn D (on e (row ops e.s)) a g:=by rw[<-ha];exact(hM.kn g hg).mono a9.1
 have ax:(row ops e.s).known=d.known++K:=aa;generalize (row ops e.s).known.getLastD 0=z at*;generalize row ops e.s=r at*;obtain⟨xp,bf,ae⟩:=bb;obtain⟨ay,aA⟩:=yP (E':=λv=>E v\/v=p+1) au bf ae ab (by omega) (args:=[f,one+1]) (by rw[p1];exact zE (P:=λq w=>Kn D (on e r) q w) ac S) (λw aB hE=>by
  rintro(h|h|h)
  ·exact hE (.inl h)
  ·exact aB h
  ·exact hE (.inr h))
 have ay:Mid D pr nx (λv=>E v\/v=p+1) (on e (setArgs r p [f,one+1])):=ay;have aA:Lx (on e r) (on e (setArgs r p [f,one+1])):=aA;have bg:(setArgs r p [f,one+1]).known=d.known++K:=ax;generalize setArgs r p [f,one+1]=C at*;have bh:Mid D pr nx (λv=>E v\/v=p+1) (on e (num ops C 3).2):=ay.at_ _;have L:Lx (on e r) (on e (num ops C 3).2):=aA.trans (Gw.pos (on e C) (draw ops C.pos 3).2).lx;have ag:(num ops C 3).2.known=d.known++K:=bg;generalize (num ops C 3).1=dd at*;generalize (num ops C 3).2=aC at*;have aD:∃u,(if dd=0 then setArgs aC p [f,z] else aC)=u/\Mid D pr nx (λv=>E v\/v=p+1) (on e u)/\Lx (on e r) (on e u)/\u.known=d.known++K:=by
  by_cases hd:dd=0
  ·rw[if_pos hd];obtain⟨bS,bi,aE⟩:=L.1.val p xp bf;obtain⟨m,y⟩:=yP (E':=λv=>E v\/v=p+1) bh bi (by rw[aE,ae]) (L.1.ow _ _ ab) (by omega) (args:=[f,z]) (by rw[p1];exact zE (P:=λq w=>Kn D (on e aC) q w) (ac.mono L.1) (kz.mono L.1)) (λw _ hE=>hE);exact⟨_,rfl,m,L.trans y,ag⟩
  ·rw[if_neg hd];exact⟨_,rfl,bh,L,ag⟩
 obtain ⟨u,bE,bG,T,bj⟩:=aD;rw[bE];obtain⟨xq,bH,bm⟩:=bc;obtain⟨bU,bn,aF⟩:=T.1.val (p+1) xq bH;obtain⟨aG,aH⟩:=yP (E':=E) bG bn (by rw[aF,bm]) (T.1.ow _ _ ba) (by omega) (args:=[g,z]) (by rw[p1];exact zE (P:=λq w=>Kn D (on e u) q w) (be.mono T.1) (kz.mono T.1)) (λw aB hE=>by
  rintro(h|h)
  ·exact hE h
  ·exact aB h)
 have aG:Mid D pr nx E (on e (setArgs u (p+1) [g,z])):=aG;have aH:Lx (on e r) (on e (setArgs u (p+1) [g,z])):=T.trans aH;have bo:(setArgs u (p+1) [g,z]).known=d.known++K:=bj;generalize setArgs u (p+1) [g,z]=F at*;obtain⟨aI,U,aJ⟩:=aG.cut O.ne ⟨K,bo⟩;have aI:Mid D pr nx E (on e (Un.cut d.known.length F)):=aI;have aJ:Lx (on e r) (on e (Un.cut d.known.length F)):=aH.trans aJ;have U:(on e (Un.cut d.known.length F)).s.known=d.known:=U;have bI:{e with s:=Un.cut d.known.length F} = on e (Un.cut d.known.length F):=rfl;rw[bI];have Z:(on e (Un.cut d.known.length F)).blocks.length=a+2:=ar;generalize on e (Un.cut d.known.length F)=t3 at*
 obtain ⟨bJ,bp⟩:=aI.end_ (fin:=1) (cond:=0) (n:=[a+1]) (state:=0) (preds:=[a+1]) (by rw[Z,n2]) (by rw[Z];exact p3.symm) (.inl ⟨rfl,rfl⟩)
  (λw i=>by rw[Z];rw[U]at i;exact((bd w i).mono aJ.1).up (anc1 (by omega) d3))
 rw[Z]at bp;generalize Un.end_ t3 1 0 [a+1] 0 [a+1]=t4 at*;obtain⟨bK,_⟩:=bJ.row ops;exact⟨bK,bp⟩
end
