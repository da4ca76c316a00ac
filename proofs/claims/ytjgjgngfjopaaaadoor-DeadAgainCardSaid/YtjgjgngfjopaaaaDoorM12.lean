/- Parts. -/
import Derived.Test.YtjgjgngfjopaaaaDoorM11
namespace Go.Proofs.YtjgjgngfjopaaaaDoor.Un
open Dm
def Ow(t:Dt)(v b:Nat):Prop:=(∃B,t.blocks[b]? =some B/\v∈B.ef)\/(b=t.blocks.length/\v∈t.s.cur)
def Kn(D:Nat->Nat)(t:Dt)(a w:Nat):Prop:=∃(b:Nat) (x:Vl),Ow t w b/\pQ D b a/\t.s.ef[w]? =some x/\Ii x.op=true
structure Le (t t':Dt):Prop where
 ow:∀(w b:Nat),Ow t w b->Ow t' w b
 back:∀(w b:Nat),w<t.s.ef.length->Ow t' w b->Ow t w b
 val:∀(w:Nat) (x:Vl),t.s.ef[w]? =some x->∃y,t'.s.ef[w]? =some y/\y.op=x.op
 st:∀(s:Nat) (fs:List Fm),t.s.eh[s]? =some fs->t'.s.eh[s]? =some fs
theorem Le.refl(t:Dt):Le t t:=⟨λ_ _ h=>h,λ_ _ _ h=>h,λ_ x h=>⟨x,h,rfl⟩,λ_ _ h=>h⟩
theorem Kn.mono{D:Nat->Nat} {t t':Dt} {a w:Nat} (h:Kn D t a w) (c:Le t t'):Kn D t' a w:=by
 obtain⟨b,x,d,e,f,g⟩:=h;obtain⟨y,i,j⟩:=c.val w x f;exact⟨b,y,c.ow w b d,e,i,by rw[j];exact g⟩
theorem Kn.up{D:Nat->Nat} {t:Dt} {a c w:Nat} (h:Kn D t a w) (d:pQ D a c):Kn D t c w:=by
 obtain⟨b,x,e,f,g⟩:=h;exact⟨b,x,e,f.trans d,g⟩
theorem Kn.lt{D:Nat->Nat} {t:Dt} {a w:Nat} (h:Kn D t a w):w<t.s.ef.length:=by
 obtain⟨b,x,_,_,c,_⟩:=h;exact(iR.1 c).1
structure Vok (D:Nat->Nat) (t:Dt) (v:Nat) (x:Vl):Prop where
 op:1<=x.op/\x.op<=23
 putAt:x.op=20->x.args.length=1
 par:x.op=1->Ow t v 0/\x.n=(v:Nat)/\v<5
 own:∃b,Ow t v b/\(x.op≠21->∀w∈je x,w<v/\Kn D t b w)/\(leaves x.op=true->∃fs,t.s.eh[x.state]? =some fs/\∀w∈gJ fs,w<v/\Kn D t b w)/\
  (iH x.op=true->∀w,Ow t w b->w<v->∃y,t.s.ef[w]? =some y/\iH y.op=true)
theorem Vok.mono{D:Nat->Nat} {t t':Dt} {v:Nat} {x:Vl} (h:Vok D t v x) (a:Le t t') (hv:v<t.s.ef.length):Vok D t' v x:=by
 obtain⟨b,d,i,k,l⟩:=h.own;refine⟨h.op,h.putAt,λd=>⟨a.ow _ _ (h.par d).1,(h.par d).2⟩,b,a.ow _ _ d,λj w c=>⟨(i j w c).1,(i j w c).2.mono a⟩,λm=>?_,λn w c f=>?_⟩
 ·obtain⟨fs,g,e⟩:=k m;exact⟨fs,a.st _ _ g,λw c=>⟨(e w c).1,(e w c).2.mono a⟩⟩
 ·obtain⟨y,g,e⟩:=l n w (a.back w b (by omega) c) f;obtain⟨z,g3,o⟩:=a.val w y g;exact⟨z,g3,by rw[o];exact e⟩
def zby(D:Nat->Nat)(t:Dt)(ps:List Nat)(x:Vl):Prop:=x.args.length=ps.length/\∀(j w q:Nat),x.args[j]? =some w->ps[j]? =some q->Kn D t q w
def Fin(D:Nat->Nat)(t:Dt)(b:Nat)(B:Bk):Prop:=(B.fin=1/\B.next.length=1)\/(B.fin=2/\B.next.length=2/\Kn D t b B.cond)\/(B.fin=3/\B.next=[]/\∃fs,t.s.eh[B.state]? =some fs/\∀w∈gJ fs,Kn D t b w)
theorem Fin.mono{D:Nat->Nat} {t t':Dt} {b:Nat} {B:Bk} (h:Fin D t b B) (a:Le t t'):Fin D t' b B:=by
 rcases h with h|⟨c,d,e⟩|⟨c,d,fs,e,f⟩
 ·exact .inl h
 ·exact .inr (.inl ⟨c,d,e.mono a⟩)
 ·exact .inr (.inr ⟨c,d,fs,a.st _ _ e,λw g=>(f w g).mono a⟩)
structure oL (D:Nat->Nat) (pr nx:Nat->List Nat) (E:Nat->Prop) (t:Dt):Prop where
 cat:t.blocks.flatMap (·.ef)++t.s.cur=List.range t.s.ef.length
 KD:∀(v:Nat) (x:Vl),t.s.ef[v]? =some x->Vok D t v x
 ph:∀(v:Nat) (x:Vl),t.s.ef[v]? =some x->x.op=21->∃b,Ow t v b/\b≠0/\(¬E v->zby D t (pr b) x)
 bk:∀(b:Nat) (B:Bk),t.blocks[b]? =some B->B.next=nx b/\B.fg=pr b/\Fin D t b B
 st:∀(s:Nat) (fs:List Fm),t.s.eh[s]? =some fs->fs.length=1/\∀f∈fs,f.locals.length<=3/\f.stack.length=1/\(∀w∈f.locals,∃a,Kn D t a w)/\∀w∈f.stack,∃a,Kn D t a w
 pc:t.fg=pr t.blocks.length
 ne:t.s.known≠[]
 kn:∀w∈t.s.known,Kn D t t.blocks.length w
section
variable{D:Nat->Nat}{pr nx:Nat->List Nat}{E:Nat->Prop}{t:Dt}
def Rl(t:Dt)(x:Vl):Dt:={t with s:=put t.s x}
theorem O5(t:Dt) (x:Vl):Le t (Rl t x) where
 ow w b h:=by
  rcases h with h|⟨c,d⟩
  ·exact .inl h
  ·exact .inr ⟨c,by show w∈t.s.cur++_;exact Rh _ d⟩
 back w b hw h:=by
  rcases h with h|⟨c,d⟩
  ·exact .inl h
  ·refine .inr ⟨c,?_⟩;have a:w∈t.s.cur++[t.s.ef.length]:=d;rcases BK.1 a with a|a
   ·exact a
   ·simp at a;omega
 val w y h:=⟨y,by show(t.s.ef++[x])[w]? =some y;rw[Ot (iR.1 h).1];exact h,rfl⟩
 st s fs h:=h
theorem oL.put(l:oL D pr nx E t) {x:Vl} (M:1<=x.op/\x.op<=23) (A:x.op=20->x.args.length=1) (o:x.op=1->t.blocks.length=0/\x.n=(t.s.ef.length:Nat)/\t.s.ef.length<5)
  (K:x.op≠21->∀w∈je x,Kn D t t.blocks.length w) (N:leaves x.op=true->∃fs,t.s.eh[x.state]? =some fs/\∀w∈gJ fs,Kn D t t.blocks.length w)
  (O:iH x.op=true->∀w∈t.s.cur,∃y,t.s.ef[w]? =some y/\iH y.op=true) (C:x.op=21->t.blocks.length≠0/\(¬E t.s.ef.length->zby D t (pr t.blocks.length) x)) :
  oL D pr nx E (Rl t x)/\(Ii x.op=true->Kn D (Rl t x) t.blocks.length t.s.ef.length):=by
 have c:=O5 t x;have d:Ow (Rl t x) t.s.ef.length t.blocks.length:= .inr ⟨rfl,by show t.s.ef.length∈t.s.cur++[t.s.ef.length];simp⟩;have p:(Rl t x).s.ef[t.s.ef.length]? =some x:=by show(t.s.ef++[x])[t.s.ef.length]? =some x;simp
 have i:∀(v:Nat) (y:Vl),(Rl t x).s.ef[v]? =some y->t.s.ef[v]? =some y\/v=t.s.ef.length/\y=x:=λv y h=>by
  have h':(t.s.ef++[x])[v]? =some y:=h;by_cases hv:v<t.s.ef.length
  ·rw[Ot hv]at h';exact .inl h'
  ·have:v<(t.s.ef++[x]).length:=(iR.1 h').1;simp at this;have F:v=t.s.ef.length:=by omega
   subst F;simp at h';exact .inr ⟨rfl,h'.symm⟩
 refine⟨⟨?_,λv y h=>?_,λv y h r=>?_,λb B h=>⟨(l.bk b B h).1,(l.bk b B h).2.1,(l.bk b B h).2.2.mono c⟩,λs fs h=>?_,l.pc,l.ne,λw e=>(l.kn w e).mono c⟩,λP=>⟨_,x,d,.refl _,p,P⟩⟩
 ·show t.blocks.flatMap (·.ef)++(t.s.cur++[t.s.ef.length])=List.range (t.s.ef++[x]).length;rw[<-Ek,l.cat,y6,X4,XY]
 ·rcases i v y h with h|⟨rfl,rfl⟩
  ·exact(l.KD v y h).mono c (iR.1 h).1
  ·refine ⟨M,A,λm=>?_,t.blocks.length,d,λL w e=>⟨(K L w e).lt,(K L w e).mono c⟩,λm=>?_,λm w e G=>?_⟩
   ·obtain⟨k,g⟩:=o m;rw[k]at d;exact⟨d,g⟩
   ·obtain⟨fs,k,g⟩:=N m;exact⟨fs,k,λw e=>⟨(g w e).lt,(g w e).mono c⟩⟩
   ·have Q:=c.back w _ G e;rcases Q with⟨B,H,_⟩|⟨_,H⟩
    ·have:=(iR.1 H).1;omega
    ·obtain⟨z,k,g⟩:=O m w H;obtain⟨R,g3,I⟩:=c.val w z k;exact⟨R,g3,by rw[I];exact g⟩
 ·rcases i v y h with h|⟨rfl,rfl⟩
  ·obtain⟨b,k,g,g3⟩:=l.ph v y h r;refine⟨b,c.ow _ _ k,g,λu=>⟨(g3 u).1,λj w q m J=>((g3 u).2 j w q m J).mono c⟩⟩
  ·obtain⟨k,g⟩:=C r;exact⟨_,d,k,λu=>⟨(g u).1,λj w q m J=>((g u).2 j w q m J).mono c⟩⟩
 ·obtain⟨k,g⟩:=l.st s fs h;refine⟨k,λf S=>?_⟩;obtain⟨g3,I,T,U⟩:=g f S;exact⟨g3,I,λw e=>(T w e).imp λa h=>h.mono c,λw e=>(U w e).imp λa h=>h.mono c⟩
theorem oL.Q1(a:oL D pr nx E t) {l:List Nat} (c:∀w∈l,Kn D t t.blocks.length w) (b:l≠[]):oL D pr nx E {t with s:={t.s with known:=l} }:=
 ⟨a.cat,λv x h=>⟨(a.KD v x h).op,(a.KD v x h).putAt,(a.KD v x h).par,(a.KD v x h).own⟩,a.ph,a.bk,a.st,a.pc,b,c⟩
theorem oL.at_(a:oL D pr nx E t) (p:Nat):oL D pr nx E {t with s:={t.s with pos:=p} }:=
 ⟨a.cat,λv x h=>⟨(a.KD v x h).op,(a.KD v x h).putAt,(a.KD v x h).par,(a.KD v x h).own⟩,a.ph,a.bk,a.st,a.pc,a.ne,a.kn⟩
end
def on(t:Dt)(s:Ds):Dt:={t with s:=s}
structure Gw (t t':Dt):Prop where
 blocks:t'.blocks=t.blocks
 fg:t'.fg=t.fg
 known:∃k,t'.s.known=t.s.known++k
 ef:∃e,t'.s.ef=t.s.ef++e
 le:Le t t'
theorem Le.trans{t t' a:Dt} (c:Le t t') (d:Le t' a) (i:t.s.ef.length<=t'.s.ef.length):Le t a where
 ow w b h:=d.ow w b (c.ow w b h)
 back w b hw h:=c.back w b hw (d.back w b (by omega) h)
 val w x h:=by
  obtain⟨y,e,f⟩:=c.val w x h;obtain⟨z,g3,g⟩:=d.val w y e;exact⟨z,g3,by rw[g,f]⟩
 st s fs h:=d.st s fs (c.st s fs h)
theorem Gw.refl(t:Dt):Gw t t:=⟨rfl,rfl,⟨[],by simp⟩,⟨[],by simp⟩,.refl t⟩
theorem Gw.len{t t':Dt} (h:Gw t t'):t.s.ef.length<=t'.s.ef.length:=by
 obtain⟨e,a⟩:=h.ef;rw[a];simp
theorem Gw.trans{t t' b:Dt} (a:Gw t t') (c:Gw t' b):Gw t b:=by
 obtain⟨k,g⟩:=a.known;obtain⟨k',d⟩:=c.known;obtain⟨e,h⟩:=a.ef;obtain⟨i,f⟩:=c.ef;exact⟨c.blocks.trans a.blocks,c.fg.trans a.fg,⟨k++k',by rw[d,g,Ek]⟩,⟨e++i,by rw[f,h,Ek]⟩,a.le.trans c.le a.len⟩
theorem Gw.pos(t:Dt)(p:Nat):Gw t (on t {t.s with pos:=p}):=⟨rfl,rfl,⟨[],(Eo _).symm⟩,⟨[],(Eo _).symm⟩,⟨λ_ _ h=>h,λ_ _ _ h=>h,λ_ x h=>⟨x,h,rfl⟩,λ_ _ h=>h⟩⟩
theorem WL{l:List Nat} {i:Nat} (h:i<l.length):l.getD i 0∈l:=by
 rw[BO,gP h];simp
theorem Bf(ops:List Int){s:Ds}(h:s.known≠[]):(fK ops s).1∈s.known:=WL (xF ops s.pos (List.length_pos_iff.2 h))
theorem IL{l:List Nat} (h:l≠[]):l.getLastD 0∈l:=by
 cases l with
 |nil=>exact absurd rfl h
 | cons a l=>
   rw[List.getLastD_cons]
   cases l with
   |nil=>simp
   | cons b l=>
     refine .tail _ ?_;rw[List.getLastD_eq_getLast?]
     cases hg:(b::l).getLast? with
     |none=>simp at hg
     |some z=>exact List.mem_of_getLast? hg
theorem Nu(ops:List Int):∀(i:Nat) (s:Ds) (l:List Nat),s.known≠[]->(∃p,(some_ ops i s l).2 = {s with pos:=p})/\(some_ ops i s l).1.length=l.length+i/\∀w∈(some_ ops i s l).1,w∈l\/w∈s.known
 |0,s,l,_=>⟨⟨s.pos,rfl⟩,rfl,λw h=> .inl h⟩
 | i + 1,s,l,h=>by
   obtain⟨⟨p,b⟩,c,a⟩:=Nu ops i (fK ops s).2 (l++[(fK ops s).1]) h;refine⟨⟨p,b⟩,by unfold some_;rw[c];simp;omega,λw d=>?_⟩;rcases a w d with a|a
   ·rcases BK.1 a with a|a
    ·exact .inl a
    ·simp at a;subst a;exact .inr (Bf ops h)
   ·exact .inr a
section
variable{D:Nat->Nat}{pr nx:Nat->List Nat}{E:Nat->Prop}{t:Dt}
theorem oL.le1(t:Dt) (fs:List Fm) (p:Nat):Le t (on t {t.s with eh:=t.s.eh++[fs],pos:=p}):=
 ⟨λ_ _ h=>h,λ_ _ _ h=>h,λ_ x h=>⟨x,h,rfl⟩,λs g h=>by show(t.s.eh++[fs])[s]? =some g;rw[Ot (iR.1 h).1];exact h⟩
theorem oL.state(e:oL D pr nx E t) (ops:List Int):oL D pr nx E (on t (fJ ops t.s).2)/\Gw t (on t (fJ ops t.s).2)/\(fJ ops t.s).2.known=t.s.known/\(fJ ops t.s).2.ef=t.s.ef/\(fJ ops t.s).2.cur=t.s.cur/\
  ∃fs,(fJ ops t.s).2.eh[(fJ ops t.s).1]? =some fs/\∀w∈gJ fs,w∈t.s.known:=by
 obtain ⟨⟨p,y⟩,z,A⟩:=Nu ops (num ops t.s 4).1 (num ops t.s 4).2 [] e.ne;have K:(num ops t.s 4).1<4:=xF _ _ (by omega);have hs:(fJ ops t.s).2 = {t.s with eh:=t.s.eh++[[⟨1,(t.s.eh.length:Nat),(some_ ops (num ops t.s 4).1 (num ops t.s 4).2 []).1,[t.s.known.getLastD 0]⟩]],pos:=p}:=by
  unfold fJ;simp only;rw[y];rfl
 rw[hs];generalize (some_ ops (num ops t.s 4).1 (num ops t.s 4).2 []).1=l at*;have c:=oL.le1 t [⟨1,(t.s.eh.length:Nat),l,[t.s.known.getLastD 0]⟩] p;have o:∀w∈l,w∈t.s.known:=λw d=>(A w d).elim (λh=>by cases h) id;have g:=IL e.ne
 refine ⟨⟨e.cat,λv x h=>(e.KD v x h).mono c (iR.1 h).1,λv x h C=>?_,λb B h=>⟨(e.bk b B h).1,(e.bk b B h).2.1,(e.bk b B h).2.2.mono c⟩,λs fs h=>?_,e.pc,e.ne,λw d=>(e.kn w d).mono c⟩,
  ⟨rfl,rfl,⟨[],(Eo _).symm⟩,⟨[],(Eo _).symm⟩,c⟩,rfl,rfl,rfl,[⟨1,(t.s.eh.length:Nat),l,[t.s.known.getLastD 0]⟩],wBY,λw d=>?_⟩
 ·obtain⟨b,k,m,g3⟩:=e.ph v x h C;exact⟨b,c.ow _ _ k,m,λr=>⟨(g3 r).1,λj w q F G=>((g3 r).2 j w q F G).mono c⟩⟩
 ·have h':(t.s.eh++[[⟨1,(t.s.eh.length:Nat),l,[t.s.known.getLastD 0]⟩]])[s]? =some fs:=h;by_cases Kh:s<t.s.eh.length
  ·rw[Ot Kh]at h';obtain⟨k,m⟩:=e.st s fs h';refine⟨k,λf i=>?_⟩;obtain⟨g3,H,I,J⟩:=m f i;exact⟨g3,H,λw d=>(I w d).imp λa h=>h.mono c,λw d=>(J w d).imp λa h=>h.mono c⟩
  ·rw[Rf (by omega)]at h';have u:=A7 h';simp at u;subst u;refine⟨rfl,λf i=>?_⟩;simp at i;subst i;refine⟨by show l.length<=3;rw[z];simp;omega,rfl,λw d=>⟨_,(e.kn w (o w d)).mono c⟩,λw d=>?_⟩;have n:w=t.s.known.getLastD 0:=by simpa using d
   subst n;exact⟨_,(e.kn _ g).mono c⟩
 ·simp only[gJ,wBu,List.flatMap_nil,Eo,BK,Jd]at d;rcases d with d|rfl
  ·exact o w d
  ·exact g
theorem oL.Sa(a:oL D pr nx E t) {x:Vl} (e:2<=x.op/\x.op<=23/\x.op≠21) (b:x.op=20->x.args.length=1) (f:∀w∈je x,w∈t.s.known) (g:leaves x.op=true->∃fs,t.s.eh[x.state]? =some fs/\∀w∈gJ fs,w∈t.s.known) :
  oL D pr nx E (on t (Un.put t.s x))/\Gw t (on t (Un.put t.s x))/\(Ii x.op=true->Kn D (on t (Un.put t.s x)) t.blocks.length t.s.ef.length):=by
 have c:iH x.op=true->False:=λh=>by
  simp[iH]at h;omega
 obtain⟨i,j⟩:=a.put (x:=x) ⟨by omega,e.2.1⟩ b (λh=>by omega) (λ_ w d=>a.kn w (f w d)) (λh=>by obtain⟨fs,k,l⟩:=g h;exact⟨fs,k,λw d=>a.kn w (l w d)⟩) (λh=>(c h).elim) (λh=>absurd h e.2.2);exact⟨i,⟨rfl,rfl,⟨[],(Eo _).symm⟩,⟨[x],rfl⟩,O5 t x⟩,j⟩
theorem oL.Qh(c:oL D pr nx E t) {x:Vl} (d:2<=x.op/\x.op<19) (e:∀w∈je x,w∈t.s.known):oL D pr nx E (on t (iJ t.s x))/\Gw t (on t (iJ t.s x)):=by
 obtain ⟨f,b,g⟩:=c.Sa (x:=x) ⟨d.1,by omega,by omega⟩ (λh=>by omega) e (λh=>by simp[leaves]at h;omega);have i:=g (by simp[Ii];omega);have j:=f.Q1 (l:=t.s.known++[t.s.ef.length]) (λw a=>by
  rcases BK.1 a with a|a
  ·exact(c.kn w a).mono b.le
  ·simp at a;subst a;exact i) (by simp)
 exact⟨j,⟨rfl,rfl,⟨[t.s.ef.length],rfl⟩,⟨[x],rfl⟩,⟨b.le.ow,b.le.back,b.le.val,b.le.st⟩⟩⟩
end
theorem QY(x:Vl):∀w∈je x,w=x.a\/w=x.b\/w∈x.args:=by
 intro w c;unfold je at c;split at c
 ·exact .inr (.inr c)
 split at c
 ·rcases Jq.1 c with h|c
  ·exact .inl h
  ·rcases Jq.1 c with h|c
   ·exact .inr (.inl h)
   ·exact .inr (.inr (wB9 c))
 split at c
 ·simp at c;rcases c with h|h
  ·exact .inl h
  ·exact .inr (.inl h)
 split at c
 ·simp at c;exact .inl c
 ·cases c
section
variable{D:Nat->Nat}{pr nx:Nat->List Nat}{E:Nat->Prop}{t:Dt}
theorem oL.kind(o:oL D pr nx E t) (ops:List Int) {k a b:Nat} (q:a∈t.s.known) (z:b∈t.s.known):oL D pr nx E (on t (sq ops t.s k a b))/\Gw t (on t (sq ops t.s k a b)):=by
 have p:∀x:Vl,x.a=a->x.b=b->x.args=[]->∀w∈je x,w∈t.s.known:=λx d f g w c=>by
  rcases QY x w c with h|h|h
  ·rw[h,d];exact q
  ·rw[h,f];exact z
  ·rw[g]at h;cases h
 have j:∀m,oL D pr nx E (on t (num ops t.s m).2)/\Gw t (on t (num ops t.s m).2):=λm=>⟨o.at_ _,Gw.pos t _⟩
 have l:∀(op:Nat) (n:Int),pg op=true->two op=false->op≠20->op≠21->∀w∈je (vl op a 0 n [] 0),w=a:=λop n d f g i w c=>by
  simp[je,vl,d,f,g,i]at c;exact c
 unfold sq;split
 ·rename_i r;exact o.Qh (x:=vl (3+k) a b 0 [] 0) (by simp only[vl];omega) (p _ rfl rfl rfl)
 split
 ·obtain⟨d,f⟩:=j 1048576;obtain⟨g,i⟩:=d.Qh (x:=vl 2 0 0 (((num ops t.s 1048576).1:Int)-9) [] 0) (by simp only[vl];omega) (λw c=>by simp[je,vl,two,pg]at c);exact⟨g,f.trans i⟩
 split
 ·obtain⟨d,f⟩:=j 5;obtain⟨g,i⟩:=d.Qh (x:=vl 17 a 0 ((num ops t.s 5).1:Nat) [] 0) (by simp only[vl];omega) (λw c=>by rw[l 17 _ rfl rfl (by omega) (by omega) w c];exact q);exact⟨g,f.trans i⟩
 split
 ·exact o.Qh (x:=vl 18 a b 0 [] 0) (by simp only[vl];omega) (p _ rfl rfl rfl)
 split
 ·obtain⟨d,f⟩:=j 5;obtain⟨g,i,_⟩:=d.Sa (x:=vl 19 a b ((num ops t.s 5).1:Nat) [] 0) (by simp only[vl];omega) (λh=>by simp only[vl]at h;omega) (p _ rfl rfl rfl) (λh=>by simp[vl,leaves]at h);exact⟨g,f.trans i⟩
 split
 ·have d:oL D pr nx E (on t (fK ops t.s).2):=o.at_ _;have f:Gw t (on t (fK ops t.s).2):=Gw.pos t _;obtain⟨g,i,_⟩:=d.Sa (x:=vl 20 a b 0 [(fK ops t.s).1] 0) (by simp only[vl];omega) (λ_=>rfl) (λw c=>by
   rcases QY _ w c with h|h|h
   ·rw[h];exact q
   ·rw[h];exact z
   ·have h':w=(fK ops t.s).1:=by simpa[vl]using h
    rw[h'];exact Bf ops o.ne) (λh=>by simp[vl,leaves]at h)
  exact⟨g,f.trans i⟩
 split
 ·obtain ⟨d,f,r,_,_,fs,u,v⟩:=o.state ops;obtain⟨g,i,_⟩:=d.Sa (x:=vl 22 a 0 0 [] (fJ ops t.s).1) (by simp only[vl];omega) (λh=>by simp only[vl]at h;omega) (λw c=>by
   have e:w=a:=by simpa[je,vl,two,pg]using c
   show w∈(fJ ops t.s).2.known;rw[r,e];exact q) (λ_=>⟨fs,u,λw c=>by show w∈(fJ ops t.s).2.known;rw[r];exact v w c⟩)
  exact⟨g,f.trans i⟩
 split
 ·obtain⟨d,f,r,_,_,fs,u,v⟩:=o.state ops;obtain⟨g,i,_⟩:=d.Sa (x:=vl 23 0 0 0 [] (fJ ops t.s).1) (by simp only[vl];omega) (λh=>by simp only[vl]at h;omega) (λw c=>by simp[je,vl,two,pg]at c) (λ_=>⟨fs,u,λw c=>by show w∈(fJ ops t.s).2.known;rw[r];exact v w c⟩);exact⟨g,f.trans i⟩
 ·obtain ⟨d,f⟩:=j 2;have A:(num ops t.s 2).1<2:=xF _ _ (by omega);have y:(num ops t.s 2).1=0\/(num ops t.s 2).1=1:=by omega
  obtain ⟨g,i⟩:=d.Qh (x:=vl (15+(num ops t.s 2).1) a 0 0 [] 0) (by simp only[vl];omega) (λw c=>by
   have e:w=a:=by
    rcases y with e|e
    ·rw[e]at c;exact l 15 _ rfl rfl (by omega) (by omega) w c
    ·rw[e]at c;exact l 16 _ rfl rfl (by omega) (by omega) w c
   rw[e];exact q)
  exact⟨g,f.trans i⟩
theorem oL.tM(c:oL D pr nx E t) (ops:List Int):oL D pr nx E (on t (tM ops t.s))/\Gw t (on t (tM ops t.s)):=by
 have d:=Bf ops c.ne;have e:oL D pr nx E (on t (fK ops t.s).2):=c.at_ _;have f:=Bf ops e.ne;have g:oL D pr nx E (on t (num ops (fK ops (fK ops t.s).2).2 20).2):=c.at_ _;obtain⟨h,i⟩:=g.kind ops (k:=(num ops (fK ops (fK ops t.s).2).2 20).1) (a:=(fK ops t.s).1) (b:=(fK ops (fK ops t.s).2).1) d f;exact⟨h,(Gw.pos t _).trans i⟩
theorem oL.rows(ops:List Int):∀(i:Nat) {t:Dt},oL D pr nx E t->oL D pr nx E (on t (rows ops i t.s))/\Gw t (on t (rows ops i t.s))
 |0,t,hM=>⟨hM,Gw.refl t⟩
 | i + 1,t,hM=>by
   unfold Un.rows;split
   ·obtain⟨a,b⟩:=hM.tM ops
    obtain⟨c,d⟩:=oL.rows ops i a;exact⟨c,b.trans d⟩
   ·exact⟨hM,Gw.refl t⟩
theorem oL.row(a:oL D pr nx E t) (ops:List Int):oL D pr nx E (on t (row ops t.s))/\Gw t (on t (row ops t.s)):=by
 have b:oL D pr nx E (on t (num ops t.s 6).2):=a.at_ _;obtain⟨c,d⟩:=oL.rows ops (1+(num ops t.s 6).1) b;exact⟨c,(Gw.pos t _).trans d⟩
end
open Dm
def Lx(t t':Dt):Prop:=Le t t'/\t.s.ef.length<=t'.s.ef.length
theorem Lx.trans{t t' a:Dt}(b:Lx t t')(c:Lx t' a):Lx t a:=⟨b.1.trans c.1 b.2,Gt b.2 c.2⟩
theorem Gw.lx{t t':Dt}(h:Gw t t'):Lx t t':=⟨h.le,h.len⟩
section
variable{D:Nat->Nat}{pr nx:Nat->List Nat}{E E':Nat->Prop}{t:Dt}
theorem oL.weaken(a:oL D pr nx E t) (h:∀v,E v->E' v):oL D pr nx E' t:=
 ⟨a.cat,a.KD,λv x hv c=>let⟨b,d,f,g3⟩:=a.ph v x hv c;⟨b,d,f,λg=>g3 λe=>g (h v e)⟩,a.bk,a.st,a.pc,a.ne,a.kn⟩
theorem Hv(t:Dt) (fin cond:Nat) (n:List Nat) (state:Nat) (fg:List Nat):Lx t (end_ t fin cond n state fg):=by
 refine⟨⟨λw b h=>?_,λw b _ h=>?_,λw x h=>⟨x,h,rfl⟩,λs fs h=>h⟩,jj _⟩
 ·rcases h with⟨B,d,c⟩|⟨rfl,c⟩
  ·exact .inl ⟨B,by show(t.blocks++[_])[b]? =_;rw[Ot (iR.1 d).1];exact d,c⟩
  ·exact .inl ⟨⟨t.s.cur,fin,cond,n,t.fg,state⟩,wBY,c⟩
 ·rcases h with⟨B,d,c⟩|⟨_,c⟩
  ·have a:(t.blocks++[⟨t.s.cur,fin,cond,n,t.fg,state⟩])[b]? =some B:=d;by_cases hb:b<t.blocks.length
   ·rw[Ot hb]at a;exact .inl ⟨B,a,c⟩
   ·have e:=(iR.1 a).1;simp at e;have f:b=t.blocks.length:=by omega
    subst f;rw[wBY]at a;obtain rfl:=Option.some.inj a;exact .inr ⟨rfl,c⟩
  ·cases c
theorem oL.end_(e:oL D pr nx E t) {fin cond:Nat} {n:List Nat} {state:Nat} {fg:List Nat} (r:n=nx t.blocks.length) (hp:fg=pr (t.blocks.length+1)) (i:Fin D t t.blocks.length ⟨t.s.cur,fin,cond,n,t.fg,state⟩) (u:∀w∈t.s.known,Kn D t (t.blocks.length+1) w) :
  oL D pr nx E (end_ t fin cond n state fg)/\(Un.end_ t fin cond n state fg).blocks.length=t.blocks.length+1:=by
 have c:=Hv t fin cond n state fg;have hlen:(Un.end_ t fin cond n state fg).blocks.length=t.blocks.length+1:=by simp[Un.end_]
 refine⟨⟨?_,λv x h=>(e.KD v x h).mono c.1 (iR.1 h).1,λv x h y=>?_,λb B h=>?_,λs fs h=>?_,?_,e.ne,λw g=>?_⟩,hlen⟩
 ·show(t.blocks++[(⟨t.s.cur,fin,cond,n,t.fg,state⟩:Bk)]).flatMap (·.ef)++[]=List.range t.s.ef.length;rw[Eo,Zz,<-e.cat];simp
 ·obtain⟨b,k,l,g3⟩:=e.ph v x h y;exact⟨b,c.1.ow _ _ k,l,λp=>⟨(g3 p).1,λj w q z A=>((g3 p).2 j w q z A).mono c.1⟩⟩
 ·have d:(t.blocks++[⟨t.s.cur,fin,cond,n,t.fg,state⟩])[b]? =some B:=h;by_cases hb:b<t.blocks.length
  ·rw[Ot hb]at d;exact⟨(e.bk b B d).1,(e.bk b B d).2.1,(e.bk b B d).2.2.mono c.1⟩
  ·have m:=(iR.1 d).1;simp at m;have o:b=t.blocks.length:=by omega
   subst o;rw[wBY]at d;obtain rfl:=Option.some.inj d;exact⟨r,e.pc,i.mono c.1⟩
 ·obtain⟨k,l⟩:=e.st s fs h;refine⟨k,λf i=>?_⟩;obtain⟨g3,C,F,G⟩:=l f i;exact⟨g3,C,λw g=>(F w g).imp λa h=>h.mono c.1,λw g=>(G w g).imp λa h=>h.mono c.1⟩
 ·rw[hlen];exact hp
 ·rw[hlen];exact(u w g).mono c.1
theorem oL.cut(c:oL D pr nx E t) {l:List Nat} (b:l≠[]) (a:∃k,t.s.known=l++k):oL D pr nx E (on t (cut l.length t.s))/\(on t (Un.cut l.length t.s)).s.known=l/\Lx t (on t (Un.cut l.length t.s)):=by
 obtain⟨k,a⟩:=a;have e:t.s.known.take l.length=l:=by rw[a];simp
 have d:=c.Q1 (l:=l) (λw f=>c.kn w (by rw[a];exact Rh _ f)) b;have g:on t (Un.cut l.length t.s) = {t with s:={t.s with known:=l} }:=by
  unfold on Un.cut;rw[e]
 rw[g];exact⟨d,rfl,⟨⟨λ_ _ h=>h,λ_ _ _ h=>h,λ_ x h=>⟨x,h,rfl⟩,λ_ _ h=>h⟩,jj _⟩⟩
theorem Iq{D:Nat->Nat}{a b:Nat}(h0:b≠0)(h:D b=a):pQ D a b:= .up h0 (by rw[h];exact .refl _)
theorem Ss(b:oL D pr nx E t) {args:List Nat} (hc:t.s.cur=[]\/∀w∈t.s.cur,∃y,t.s.ef[w]? =some y/\iH y.op=true) (h0:t.blocks.length≠0) (hp:¬E t.s.ef.length->zby D t (pr t.blocks.length) (vl 21 0 0 0 args 0)) :
  oL D pr nx E (on t (put t.s (vl 21 0 0 0 args 0)))/\Lx t (on t (put t.s (vl 21 0 0 0 args 0)))/\Kn D (on t (put t.s (vl 21 0 0 0 args 0))) t.blocks.length t.s.ef.length/\Ow (on t (put t.s (vl 21 0 0 0 args 0))) t.s.ef.length t.blocks.length:=by
 obtain ⟨c,d⟩:=b.put (x:=vl 21 0 0 0 args 0) (by simp[vl]) (λh=>by simp[vl]at h) (λh=>by simp[vl]at h) (λh=>absurd rfl h) (λh=>by simp[vl,leaves]at h) (λ_ w a=>by
  rcases hc with hc|hc
  ·rw[hc]at a;cases a
  ·exact hc w a) (λ_=>⟨h0,hp⟩)
 exact⟨c,⟨O5 t _,by show _<=(t.s.ef++[_]).length;simp⟩,d rfl,.inr ⟨rfl,by show t.s.ef.length∈t.s.cur++[t.s.ef.length];simp⟩⟩
theorem Yy(e:oL D pr nx E t) (ops:List Int) (n0:nx t.blocks.length=[t.blocks.length+1,t.blocks.length+2]) (n1:nx (t.blocks.length+1)=[t.blocks.length+3]) (n2:nx (t.blocks.length+2)=[t.blocks.length+3])
  (p1:pr (t.blocks.length+1)=[t.blocks.length]) (p2:pr (t.blocks.length+2)=[t.blocks.length]) (p3:pr (t.blocks.length+3)=[t.blocks.length+1,t.blocks.length+2])
  (d1:D (t.blocks.length+1)=t.blocks.length) (d2:D (t.blocks.length+2)=t.blocks.length) (d3:D (t.blocks.length+3)=t.blocks.length) :
  oL D pr nx E (fork ops t)/\(fork ops t).blocks.length=t.blocks.length+3:=by
 generalize i:t.blocks.length=a at*;have hc:=Bf ops e.ne;have G:oL D pr nx E (on t (fK ops t.s).2):=e.at_ _;have H:Lx t (on t (fK ops t.s).2):=(Gw.pos t _).lx;have m:(on t (fK ops t.s).2).s.known=t.s.known:=rfl;unfold fork;simp only;rw[i];generalize I:(fK ops t.s).1=cond at*;generalize (fK ops t.s).2=f at*;have e0:{t with s:=f} = on t f:=rfl;rw[e0];have d:(on t f).blocks.length=a:=i
 obtain ⟨m1,b1⟩:=G.end_ (fin:=2) (cond:=cond) (n:=[a+1,a+2]) (state:=0) (fg:=[a]) (by rw[d,n0]) (by rw[d,p1]) (.inr (.inl ⟨rfl,rfl,by rw[d,<-i];exact(e.kn cond hc).mono H.1⟩))
  (λw c=>by rw[d];exact((by rw[<-i];exact(e.kn w (by rw[<-m];exact c)).mono H.1:Kn D (on t f) a w)).up (Iq (by omega) d1))
 rw[d]at b1;have x1:=H.trans (Hv (on t f) 2 cond [a+1,a+2] 0 [a]);have J:(Un.end_ (on t f) 2 cond [a+1,a+2] 0 [a]).s.known=t.s.known:=m;generalize Un.end_ (on t f) 2 cond [a+1,a+2] 0 [a]=b at*;obtain⟨K,L⟩:=m1.row ops;have x2:=x1.trans L.lx;have b2:(on b (row ops b.s)).blocks.length=a+1:=by rw[L.blocks];exact b1
 have kx:=K.kn _ (IL K.ne);obtain⟨k2,o⟩:=L.known;rw[J]at o;have eX:(row ops b.s).known.getLastD 0=(on b (row ops b.s)).s.known.getLastD 0:=rfl;rw[eX];generalize (on b (row ops b.s)).s.known.getLastD 0=x at*;obtain⟨m3,p,r⟩:=K.cut e.ne ⟨k2,o⟩;have Y:=x2.trans r;have u:=kx.mono r.1;rw[b2]at u;have e3:{b with s:=Un.cut t.s.known.length (row ops b.s)} = on (on b (row ops b.s)) (Un.cut t.s.known.length (on b (row ops b.s)).s):=rfl;rw[e3];have b3:(on (on b (row ops b.s)) (Un.cut t.s.known.length (on b (row ops b.s)).s)).blocks.length=a+1:=b2;generalize on (on b (row ops b.s)) (Un.cut t.s.known.length (on b (row ops b.s)).s)=A at*
 obtain ⟨m4,Z⟩:=m3.end_ (fin:=1) (cond:=0) (n:=[a+3]) (state:=0) (fg:=[a]) (by rw[b3,n1]) (by rw[b3];exact p2.symm) (.inl ⟨rfl,rfl⟩)
  (λw c=>by rw[b3];exact((by rw[<-i];exact(e.kn w (by rw[<-p];exact c)).mono Y.1:Kn D A a w)).up (Iq (by omega) d2))
 rw[b3]at Z;have y4:=Hv A 1 0 [a+3] 0 [a];have x4:=Y.trans y4;have M:=u.mono y4.1;have N:(Un.end_ A 1 0 [a+3] 0 [a]).s.known=t.s.known:=p;generalize Un.end_ A 1 0 [a+3] 0 [a]=t4 at*;obtain⟨O,B⟩:=m4.row ops;have x5:=x4.trans B.lx;have P:=M.mono B.le;have b5:(on t4 (row ops t4.s)).blocks.length=a+2:=by rw[B.blocks];exact Z
 have ky:=O.kn _ (IL O.ne);obtain⟨k5,v⟩:=B.known;rw[N]at v;have eY:(row ops t4.s).known.getLastD 0=(on t4 (row ops t4.s)).s.known.getLastD 0:=rfl;rw[eY];generalize (on t4 (row ops t4.s)).s.known.getLastD 0=y at*;obtain⟨m6,Q,g⟩:=O.cut e.ne ⟨k5,v⟩;have x6:=x5.trans g;have R:=P.mono g.1;have z:=ky.mono g.1;rw[b5]at z;have e6:{t4 with s:=Un.cut t.s.known.length (row ops t4.s)} = on (on t4 (row ops t4.s)) (Un.cut t.s.known.length (on t4 (row ops t4.s)).s):=rfl;rw[e6];have C:(on (on t4 (row ops t4.s)) (Un.cut t.s.known.length (on t4 (row ops t4.s)).s)).blocks.length=a+2:=b5;generalize on (on t4 (row ops t4.s)) (Un.cut t.s.known.length (on t4 (row ops t4.s)).s)=F at*
 obtain ⟨m7,S⟩:=m6.end_ (fin:=1) (cond:=0) (n:=[a+3]) (state:=0) (fg:=[a+1,a+2]) (by rw[C,n2]) (by rw[C];exact p3.symm) (.inl ⟨rfl,rfl⟩)
  (λw c=>by rw[C];exact((by rw[<-i];exact(e.kn w (by rw[<-Q];exact c)).mono x6.1:Kn D F a w)).up (Iq (by omega) d3))
 rw [C]at S;have y7:=Hv F 1 0 [a+3] 0 [a+1,a+2];have T:=R.mono y7.1;have U:=z.mono y7.1;have V:(Un.end_ F 1 0 [a+3] 0 [a+1,a+2]).s.cur=[]:=rfl;generalize Un.end_ F 1 0 [a+3] 0 [a+1,a+2]=t7 at*;obtain⟨m8,y8,W,_⟩:=Ss m7 (args:=[x,y]) (.inl V) (by omega) (λ_=>by
  rw[S,p3];refine⟨rfl,λj w q h k=>?_⟩
  match j,h,k with
  | 0,h,k=>
    obtain rfl:x=w:=by simpa[vl]using h
    obtain rfl:a+1=q:=by simpa using k
    exact T
  | 1,h,k=>
    obtain rfl:y=w:=by simpa[vl]using h
    obtain rfl:a+2=q:=by simpa using k
    exact U
  |j+2,h,k=>simp[vl]at h)
 have m9:=m8.Q1 (l:=t7.s.known++[t7.s.ef.length]) (λw c=>by
  rcases BK.1 c with c|c
  ·exact m8.kn w c
  ·simp at c;subst c;exact W) (by simp)
 obtain⟨X,_⟩:=m9.row ops;exact⟨X,S⟩
theorem Y1(h:oL D pr nx E t) (ops:List Int) (n0:nx t.blocks.length=[t.blocks.length+1,t.blocks.length+2]) (H:nx (t.blocks.length+1)=[])
  (p1:pr (t.blocks.length+1)=[t.blocks.length]) (p2:pr (t.blocks.length+2)=[t.blocks.length]) (d1:D (t.blocks.length+1)=t.blocks.length) (d2:D (t.blocks.length+2)=t.blocks.length) :
  oL D pr nx E (yo ops t)/\(yo ops t).blocks.length=t.blocks.length+2:=by
 generalize i:t.blocks.length=a at*;have hc:=Bf ops h.ne;have q:oL D pr nx E (on t (fK ops t.s).2):=h.at_ _;have r:Lx t (on t (fK ops t.s).2):=(Gw.pos t _).lx;have j:(on t (fK ops t.s).2).s.known=t.s.known:=rfl;unfold yo;simp only;rw[i];generalize u:(fK ops t.s).1=cond at*;generalize (fK ops t.s).2=f at*;have e0:{t with s:=f} = on t f:=rfl;rw[e0];have c:(on t f).blocks.length=a:=i
 obtain ⟨I,b1⟩:=q.end_ (fin:=2) (cond:=cond) (n:=[a+1,a+2]) (state:=0) (fg:=[a]) (by rw[c,n0]) (by rw[c,p1]) (.inr (.inl ⟨rfl,rfl,by rw[c,<-i];exact(h.kn cond hc).mono r.1⟩))
  (λw d=>by rw[c];exact((by rw[<-i];exact(h.kn w (by rw[<-j];exact d)).mono r.1:Kn D (on t f) a w)).up (Iq (by omega) d1))
 rw[c]at b1;have J:=r.trans (Hv (on t f) 2 cond [a+1,a+2] 0 [a]);have v:(Un.end_ (on t f) 2 cond [a+1,a+2] 0 [a]).s.known=t.s.known:=j;generalize Un.end_ (on t f) 2 cond [a+1,a+2] 0 [a]=b at*;obtain⟨K,x⟩:=I.row ops;have L:=J.trans x.lx;have b2:(on b (row ops b.s)).blocks.length=a+1:=by rw[x.blocks];exact b1
 obtain ⟨C,g⟩:=x.known;rw[v]at g;obtain⟨F,g3,y,_,_,fs,z,A⟩:=K.state ops;have M:=L.trans g3.lx;have b3:(on (on b (row ops b.s)) (fJ ops (on b (row ops b.s)).s).2).blocks.length=a+1:=b2;have eS:fJ ops (row ops b.s)=fJ ops (on b (row ops b.s)).s:=rfl;rw[eS];have e:(on (on b (row ops b.s)) (fJ ops (on b (row ops b.s)).s).2).s.known=t.s.known++C:=by
  show(fJ ops (on b (row ops b.s)).s).2.known=_;rw[y,g]
 have k:∀w∈gJ fs,Kn D (on (on b (row ops b.s)) (fJ ops (on b (row ops b.s)).s).2) (a+1) w:=λw d=>by
  rw[<-b3];refine F.kn w ?_;rw[e,<-g];exact A w d
 obtain⟨N,B,l⟩:=F.cut h.ne ⟨C,e⟩;have O:=M.trans l;generalize (fJ ops (on b (row ops b.s)).s).1=st at*;have P:{b with s:=Un.cut t.s.known.length (fJ ops (on b (row ops b.s)).s).2} = on (on (on b (row ops b.s)) (fJ ops (on b (row ops b.s)).s).2) (Un.cut t.s.known.length (on (on b (row ops b.s)) (fJ ops (on b (row ops b.s)).s).2).s):=rfl;rw[P];have m:(on (on (on b (row ops b.s)) (fJ ops (on b (row ops b.s)).s).2) (Un.cut t.s.known.length (on (on b (row ops b.s)) (fJ ops (on b (row ops b.s)).s).2).s)).s.eh[st]? =some fs:=z;have o:=λw d=>(k w d).mono l.1;have p:(on (on (on b (row ops b.s)) (fJ ops (on b (row ops b.s)).s).2) (Un.cut t.s.known.length (on (on b (row ops b.s)) (fJ ops (on b (row ops b.s)).s).2).s)).blocks.length=a+1:=b2;generalize on (on (on b (row ops b.s)) (fJ ops (on b (row ops b.s)).s).2) (Un.cut t.s.known.length (on (on b (row ops b.s)) (fJ ops (on b (row ops b.s)).s).2).s)=t4 at*
 obtain ⟨Q,G⟩:=N.end_ (fin:=3) (cond:=0) (n:=[]) (state:=st) (fg:=[a]) (by rw[p,H]) (by rw[p];exact p2.symm) (.inr (.inr ⟨rfl,rfl,fs,m,λw d=>by rw[p];exact o w d⟩))
  (λw d=>by rw[p];exact((by rw[<-i];exact(h.kn w (by rw[<-B];exact d)).mono O.1:Kn D t4 a w)).up (Iq (by omega) d2))
 rw[p]at G;generalize Un.end_ t4 3 0 [] st [a]=t5 at*;obtain⟨R,_⟩:=Q.row ops;exact⟨R,G⟩
theorem zaM(t:Dt) (v:Nat) (args:List Nat):Lx t (on t (setArgs t.s v args)):=by
 refine⟨⟨λ_ _ h=>h,λ_ _ _ h=>h,λw x h=>?_,λ_ _ h=>h⟩,by show _<=(t.s.ef.modify v _).length;rw[List.length_modify];exact jj _⟩;show ∃y,(t.s.ef.modify v λx=>{x with args:=args})[w]? =some y/\y.op=x.op;rw[wCA,h];refine⟨_,rfl,?_⟩;split <;> rfl
theorem HS(g:oL D pr nx E t) {v b:Nat} {x:Vl} {args:List Nat} (hv:t.s.ef[v]? =some x) (G:x.op=21) (J:Ow t v b) (h0:b≠0) (hp:args.length=(pr b).length/\∀(j w q:Nat),args[j]? =some w->(pr b)[j]? =some q->Kn D t q w) (H:∀w,w≠v->¬E' w->¬E w) :
  oL D pr nx E' (on t (setArgs t.s v args))/\Lx t (on t (setArgs t.s v args)):=by
 have d:=zaM t v args;refine⟨?_,d⟩;have i:∀(w:Nat) (y:Vl),(on t (setArgs t.s v args)).s.ef[w]? =some y->(w≠v/\t.s.ef[w]? =some y)\/(w=v/\y = {x with args:=args}):=λw y h=>by
  have h':(t.s.ef.modify v λx=>{x with args:=args})[w]? =some y:=h;rw[wCA]at h';by_cases k:v=w
  ·subst k;rw[hv]at h';simp at h';exact .inr ⟨rfl,h'.symm⟩
  ·cases hx:t.s.ef[w]? with
   |none=>rw[hx]at h';simp at h'
   | some z=>
     rw[hx]at h';simp[k]at h';exact .inl ⟨λe=>k e.symm,by rw[h']⟩
 have l:=(iR.1 hv).1;refine⟨by show t.blocks.flatMap (λB:Bk=>B.ef)++t.s.cur=List.range (t.s.ef.modify v _).length;rw[List.length_modify];exact g.cat,λw y h=>?_,λw y h p=>?_,λc B h=>⟨(g.bk c B h).1,(g.bk c B h).2.1,(g.bk c B h).2.2.mono d.1⟩,λs fs h=>?_,g.pc,g.ne,λw k=>(g.kn w k).mono d.1⟩
 ·rcases i w y h with⟨_,h⟩|⟨rfl,rfl⟩
  ·exact(g.KD w y h).mono d.1 (iR.1 h).1
  ·have I:=(g.KD w x hv).mono d.1 l;obtain⟨c,m,_,_,r⟩:=I.own;refine⟨I.op,λh=>?_,λh=>?_,c,m,λh=>absurd G h,λh=>?_,r⟩
   ·have h':x.op=20:=h;omega
   ·have h':x.op=1:=h;omega
   ·have h':leaves x.op=true:=h;rw[G]at h';cases h'
 ·rcases i w y h with⟨n,h⟩|⟨rfl,rfl⟩
  ·obtain⟨c,m,A,g3⟩:=g.ph w y h p;exact⟨c,m,A,λo=>⟨(g3 (H w n o)).1,λj u q C F=>((g3 (H w n o)).2 j u q C F).mono d.1⟩⟩
  ·exact⟨b,J,h0,λ_=>⟨hp.1,λj u q C F=>(hp.2 j u q C F).mono d.1⟩⟩
 ·obtain⟨m,A⟩:=g.st s fs h;refine⟨m,λf K=>?_⟩;obtain⟨g3,r,L,M⟩:=A f K;exact⟨g3,r,λw k=>(L w k).imp λa h=>h.mono d.1,λw k=>(M w k).imp λa h=>h.mono d.1⟩
theorem Jv{P:Nat->Nat->Prop} {x y q r:Nat} (c:P q x) (d:P r y):([x,y]:List Nat).length=([q,r]:List Nat).length/\∀(j w p:Nat),([x,y]:List Nat)[j]? =some w->([q,r]:List Nat)[j]? =some p->P p w:=by
 refine⟨rfl,λj w p a b=>?_⟩
 match j,a,b with
 | 0,a,b=>
   obtain rfl:x=w:=by simpa using a
   obtain rfl:q=p:=by simpa using b
   exact c
 | 1,a,b=>
   obtain rfl:y=w:=by simpa using a
   obtain rfl:r=p:=by simpa using b
   exact d
 |j+2,a,b=>simp at a
structure Hd (D:Nat->Nat) (t b:Dt) (p f g less a:Nat):Prop where
 lx:Lx t b
 blocks:b.blocks.length=a+2
 kf:Kn D b a f
 kg:Kn D b a g
 kl:Kn D b (a+1) less
 op:Ow b p (a+1)
 oq:Ow b (p+1) (a+1)
 vp:∃x,b.s.ef[p]? =some x/\x.op=21
 vq:∃x,b.s.ef[p+1]? =some x/\x.op=21
 kn:∀w∈b.s.known,Kn D b (a+1) w
end
open Dm
section
variable{D:Nat->Nat}{pr nx:Nat->List Nat}{E E':Nat->Prop}{t:Dt}
set_option maxHeartbeats 2000000 in
theorem Yb (hM:oL D pr nx E t) (ops:List Int) (n0:nx t.blocks.length=[t.blocks.length+1]) (n1:nx (t.blocks.length+1)=[t.blocks.length+2,t.blocks.length+3]) (n2:nx (t.blocks.length+2)=[t.blocks.length+1])
  (p1:pr (t.blocks.length+1)=[t.blocks.length,t.blocks.length+2]) (p2:pr (t.blocks.length+2)=[t.blocks.length+1]) (p3:pr (t.blocks.length+3)=[t.blocks.length+1])
  (d1:D (t.blocks.length+1)=t.blocks.length) (d2:D (t.blocks.length+2)=t.blocks.length+1) (d3:D (t.blocks.length+3)=t.blocks.length+1) :
  oL D pr nx E (loop ops t)/\(loop ops t).blocks.length=t.blocks.length+3:=by
 generalize ha:t.blocks.length=a at*;have hf:=Bf ops hM.ne;have br:oL D pr nx E (on t (fK ops t.s).2):=hM.at_ _;have x0:Lx t (on t (fK ops t.s).2):=(Gw.pos t _).lx;have aJ:(on t (fK ops t.s).2).s.known=t.s.known:=rfl;unfold loop;simp only;rw[ha];generalize bS:(fK ops t.s).1=f at*;generalize (fK ops t.s).2=s0 at*;have e0:{t with s:=s0} = on t s0:=rfl;rw[e0];have V:(on t s0).blocks.length=a:=ha
 obtain ⟨bt,b1⟩:=br.end_ (fin:=1) (cond:=0) (n:=[a+1]) (state:=0) (fg:=[a,a+2]) (by rw[V,n0]) (by rw[V,p1]) (.inl ⟨rfl,rfl⟩)
  (λw i=>by rw[V];exact((by rw[<-ha];exact(hM.kn w (by rw[<-aJ];exact i)).mono x0.1:Kn D (on t s0) a w)).up (Iq (by omega) d1))
 rw[V]at b1;have x1:=x0.trans (Hv (on t s0) 1 0 [a+1] 0 [a,a+2]);have aK:(Un.end_ (on t s0) 1 0 [a+1] 0 [a,a+2]).s.known=t.s.known:=aJ;have aL:(Un.end_ (on t s0) 1 0 [a+1] 0 [a,a+2]).s.cur=[]:=rfl;generalize Un.end_ (on t s0) 1 0 [a+1] 0 [a,a+2]=c at*;generalize hp:c.s.ef.length=p at*;have m1:=bt.weaken (E':=λv=>E v\/v=p\/v=p+1) λv h=> .inl h;obtain⟨m2,y2,_,ah⟩:=Ss m1 (args:=[f,0]) (.inl aL) (by omega) (λh=>absurd (.inr (.inl hp)) h);rw[hp,b1]at ah;have v2:(on c (put c.s (vl 21 0 0 0 [f,0] 0))).s.ef.length=p+1:=by show(c.s.ef++[_]).length=_;simp[hp]
 have aM:∃x,(on c (put c.s (vl 21 0 0 0 [f,0] 0))).s.ef[p]? =some x/\x.op=21:=⟨vl 21 0 0 0 [f,0] 0,by show(c.s.ef++[_])[p]? =_;rw[<-hp];simp,rfl⟩
 have bu:(on c (put c.s (vl 21 0 0 0 [f,0] 0))).s.known=t.s.known:=aK;have ai:(on c (put c.s (vl 21 0 0 0 [f,0] 0))).s.cur=[p]:=by show c.s.cur++[c.s.ef.length]=_;rw[aL,hp];rfl
 have b2:(on c (put c.s (vl 21 0 0 0 [f,0] 0))).blocks.length=a+1:=b1;have x2:=x1.trans y2;have hg:=Bf ops m2.ne;rw[bu]at hg;have eG:fK ops (put c.s (vl 21 0 0 0 [f,0] 0))=fK ops (on c (put c.s (vl 21 0 0 0 [f,0] 0))).s:=rfl;rw[eG];have m3:oL D pr nx (λv=>E v\/v=p\/v=p+1) (on (on c (put c.s (vl 21 0 0 0 [f,0] 0))) (fK ops (on c (put c.s (vl 21 0 0 0 [f,0] 0))).s).2):=m2.at_ _;have g3:Gw (on c (put c.s (vl 21 0 0 0 [f,0] 0))) (on (on c (put c.s (vl 21 0 0 0 [f,0] 0))) (fK ops (on c (put c.s (vl 21 0 0 0 [f,0] 0))).s).2):=Gw.pos _ _;have v3:(fK ops (on c (put c.s (vl 21 0 0 0 [f,0] 0))).s).2.ef.length=p+1:=v2;have aN:(fK ops (on c (put c.s (vl 21 0 0 0 [f,0] 0))).s).2.known=t.s.known:=aK;have aj:(fK ops (on c (put c.s (vl 21 0 0 0 [f,0] 0))).s).2.cur=[p]:=ai;have ak:∃x,(fK ops (on c (put c.s (vl 21 0 0 0 [f,0] 0))).s).2.ef[p]? =some x/\x.op=21:=aM;generalize (fK ops (on c (put c.s (vl 21 0 0 0 [f,0] 0))).s).1=g at*;generalize (fK ops (on c (put c.s (vl 21 0 0 0 [f,0] 0))).s).2=j at*;have x3:Lx t (on c j):=x2.trans g3.lx;have aO:Ow (on c j) p (a+1):=g3.le.ow _ _ ah;have m3:oL D pr nx (λv=>E v\/v=p\/v=p+1) (on c j):=m3;have b3:(on c j).blocks.length=a+1:=b1;obtain⟨m4,y4,al,am⟩:=Ss m3 (args:=[g,p]) (.inr λw i=>by
  have M:w∈j.cur:=i;rw[aj]at M;simp at M;subst M;obtain⟨x,H,I⟩:=ak;exact⟨x,H,by rw[I];rfl⟩) (by omega) (λh=>absurd (.inr (.inr v3)) h)
 have bw:(on c j).s.ef.length=p+1:=v3;rw[bw,b3]at al am;have x4:=x3.trans y4;have an:=y4.1.ow _ _ aO;have ao:∃x,(on (on c j) (put (on c j).s (vl 21 0 0 0 [g,p] 0))).s.ef[p]? =some x/\x.op=21:=by
  obtain⟨x,H,I⟩:=ak;obtain⟨y,W,X⟩:=y4.1.val p x H;exact⟨y,W,by rw[X,I]⟩
 have aP:∃x,(on (on c j) (put (on c j).s (vl 21 0 0 0 [g,p] 0))).s.ef[p+1]? =some x/\x.op=21:=⟨vl 21 0 0 0 [g,p] 0,by show(j.ef++[_])[p+1]? =_;rw[<-v3];simp,rfl⟩
 have aQ:Kn D (on (on c j) (put (on c j).s (vl 21 0 0 0 [g,p] 0))) (a+1) p:=by
  obtain⟨x,H,I⟩:=ao;exact⟨_,x,an,.refl _,H,by rw[I];rfl⟩
 have m5:=m4.Q1 (l:=t.s.known++[p,p+1]) (λw i=>by
  rcases BK.1 i with i|i
  ·exact m4.kn w (by show w∈j.known;rw[aN];exact i)
  ·have b4:(on (on c j) (put (on c j).s (vl 21 0 0 0 [g,p] 0))).blocks.length=a+1:=b1;rw[b4];simp at i;rcases i with rfl|rfl
   ·exact aQ
   ·exact al) (by simp)
 have e5:{put j (vl 21 0 0 0 [g,p] 0)with known:=(put j (vl 21 0 0 0 [g,p] 0)).known++[p,p+1]} = {put j (vl 21 0 0 0 [g,p] 0)with known:=t.s.known++[p,p+1]}:=by
  have:(put j (vl 21 0 0 0 [g,p] 0)).known=t.s.known:=aN;rw[this]
 rw[e5];have m5:oL D pr nx (λv=>E v\/v=p\/v=p+1) (on c {put j (vl 21 0 0 0 [g,p] 0)with known:=t.s.known++[p,p+1]}):=m5;have x5:Lx t (on c {put j (vl 21 0 0 0 [g,p] 0)with known:=t.s.known++[p,p+1]}):=⟨⟨x4.1.ow,x4.1.back,x4.1.val,x4.1.st⟩,x4.2⟩
 have aR:Ow (on c {put j (vl 21 0 0 0 [g,p] 0)with known:=t.s.known++[p,p+1]}) p (a+1):=an;have aS:Ow (on c {put j (vl 21 0 0 0 [g,p] 0)with known:=t.s.known++[p,p+1]}) (p+1) (a+1):=am;have aT:∃x,(on c {put j (vl 21 0 0 0 [g,p] 0)with known:=t.s.known++[p,p+1]}).s.ef[p]? =some x/\x.op=21:=ao;have aU:∃x,(on c {put j (vl 21 0 0 0 [g,p] 0)with known:=t.s.known++[p,p+1]}).s.ef[p+1]? =some x/\x.op=21:=aP;have bx:(on c {put j (vl 21 0 0 0 [g,p] 0)with known:=t.s.known++[p,p+1]}).s.known=t.s.known++[p,p+1]:=rfl;clear m4 y4 x4 an am ao aP al aQ m3 m2 y2 g3 ah aO aM ak e5;generalize bU:({put j (vl 21 0 0 0 [g,p] 0)with known:=t.s.known++[p,p+1]}:Ds)=G at*;obtain⟨m6,g6,aV,_,_,fs,h5,h6⟩:=m5.state ops;have eS:fJ ops G=fJ ops (on c G).s:=rfl;rw[eS];obtain⟨m7,g7,_⟩:=m6.Sa (x:=vl 23 0 0 0 [] (fJ ops (on c G).s).1) (by simp only[vl];omega) (λh=>by simp only[vl]at h;omega) (λw i=>by simp[je,vl,two,pg]at i) (λ_=>⟨fs,h5,λw i=>by show w∈(fJ ops (on c G).s).2.known;rw[aV];exact h6 w i⟩);have Y:=g6.trans g7;have m7:oL D pr nx (λv=>E v\/v=p\/v=p+1) (on c (put (fJ ops (on c G).s).2 (vl 23 0 0 0 [] (fJ ops (on c G).s).1))):=m7;have Y:Gw (on c G) (on c (put (fJ ops (on c G).s).2 (vl 23 0 0 0 [] (fJ ops (on c G).s).1))):=Y;have bz:(put (fJ ops (on c G).s).2 (vl 23 0 0 0 [] (fJ ops (on c G).s).1)).known=t.s.known++[p,p+1]:=by show(fJ ops (on c G).s).2.known=_;rw[aV];exact bx
 generalize put (fJ ops (on c G).s).2 (vl 23 0 0 0 [] (fJ ops (on c G).s).1)=N at*;obtain⟨m8,g8,o⟩:=m7.Sa (x:=vl 2 0 0 1 [] 0) (by simp only[vl];omega) (λh=>by simp only[vl]at h;omega) (λw i=>by simp[je,vl,two,pg]at i) (λh=>by simp[vl,leaves]at h);have b8:(on c N).blocks.length=a+1:=b1;have o:=o rfl;rw[b8]at o;have m8:oL D pr nx (λv=>E v\/v=p\/v=p+1) (on c (put N (vl 2 0 0 1 [] 0))):=m8;have g8:Gw (on c N) (on c (put N (vl 2 0 0 1 [] 0))):=g8;have o:Kn D (on c (put N (vl 2 0 0 1 [] 0))) (a+1) N.ef.length:=o;have v8:(put N (vl 2 0 0 1 [] 0)).ef.length=N.ef.length+1:=by simp[put]
 have aW:(put N (vl 2 0 0 1 [] 0)).known=t.s.known++[p,p+1]:=bz;generalize bR:N.ef.length=one at*;generalize put N (vl 2 0 0 1 [] 0)=A at*;have b8:(on c A).blocks.length=a+1:=b1;have ap:p∈(on c A).s.known:=by show p∈A.known;rw[aW];simp
 obtain ⟨m9,k⟩:=m8.put (x:=vl 4 p one 0 [] 0) (by simp[vl]) (λh=>by simp[vl]at h) (λh=>by simp[vl]at h) (λ_ w i=>by
  have M:w=p\/w=one:=by simpa[je,vl,two]using i
  rcases M with rfl|rfl
  ·exact m8.kn _ ap
  ·rw[b8];exact o) (λh=>by simp[vl,leaves]at h) (λh=>by simp[vl,iH]at h) (λh=>by simp[vl]at h)
 have y9:Lx (on c A) (Rl (on c A) (vl 4 p one 0 [] 0)):=⟨O5 _ _,by show _<=(A.ef++[_]).length;simp[on]⟩
 have k:=k rfl;have O:=m9.Q1 (l:=A.known++[A.ef.length]) (λw i=>by
  rcases BK.1 i with i|i
  ·exact m9.kn w i
  ·simp at i;subst i;exact k) (by simp)
 have O:oL D pr nx (λv=>E v\/v=p\/v=p+1) (on c (iJ A (vl 4 p one 0 [] 0))):=O;have k:Kn D (on c (iJ A (vl 4 p one 0 [] 0))) (a+1) (one+1):=by
  rw[<-v8,<-b8];exact k
 have y9:Lx (on c A) (on c (iJ A (vl 4 p one 0 [] 0))):=⟨⟨y9.1.ow,y9.1.back,y9.1.val,y9.1.st⟩,y9.2⟩
 have aX:(iJ A (vl 4 p one 0 [] 0)).known=t.s.known++[p,p+1]++[A.ef.length]:=by show A.known++_=_;rw[aW]
 have Q:=((Y.lx.trans g8.lx).trans y9)
 have bA:=x5.trans Q;generalize iJ A (vl 4 p one 0 [] 0)=d at*;have aY:=Q.1.ow _ _ aR;have aZ:=Q.1.ow _ _ aS;have a5:∃x,(on c d).s.ef[p]? =some x/\x.op=21:=by
  obtain⟨x,H,I⟩:=aT;obtain⟨y,W,X⟩:=Q.1.val p x H;exact⟨y,W,by rw[X,I]⟩
 have a6:∃x,(on c d).s.ef[p+1]? =some x/\x.op=21:=by
  obtain⟨x,H,I⟩:=aU;obtain⟨y,W,X⟩:=Q.1.val (p+1) x H;exact⟨y,W,by rw[X,I]⟩
 clear m9 m8 m7 m6 m5 Y g6 g7 g8 y9 o h5 h6 x5 aR aS aT aU;have bC:{c with s:=d} = on c d:=rfl;rw[bC];have J:(on c d).blocks.length=a+1:=b1;have R:∀w∈d.known,Kn D (on c d) (a+1) w:=λw i=>by rw[<-J];exact O.kn w i
 have ap:p∈d.known:=by rw[aX];simp
 obtain ⟨bD,aq⟩:=O.end_ (fin:=2) (cond:=p) (n:=[a+2,a+3]) (state:=0) (fg:=[a+1]) (by rw[J,n1]) (by rw[J];exact p2.symm) (.inr (.inl ⟨rfl,rfl,by rw[J];exact R p ap⟩))
  (λw i=>by rw[J];exact(R w i).up (Iq (by omega) d2))
 rw[J]at aq;have bE:=Hv (on c d) 2 p [a+2,a+3] 0 [a+1];have a7:(Un.end_ (on c d) 2 p [a+2,a+3] 0 [a+1]).s.known=d.known:=rfl;generalize Un.end_ (on c d) 2 p [a+2,a+3] 0 [a+1]=e at*;obtain⟨ar,au⟩:=bD.row ops;have B:=bE.trans au.lx;have a8:=bA.trans B;have bG:(on e (row ops e.s)).blocks.length=a+2:=by rw[au.blocks];exact aq
 have kz:=ar.kn _ (IL ar.ne);rw[bG]at kz;obtain⟨K,aa⟩:=au.known;rw[a7]at aa;have kz:Kn D (on e (row ops e.s)) (a+2) ((row ops e.s).known.getLastD 0):=kz;have ab:=B.1.ow _ _ aY;have a9:=B.1.ow _ _ aZ;have ba:∃x,(on e (row ops e.s)).s.ef[p]? =some x/\x.op=21:=by
  obtain⟨x,H,I⟩:=a5;obtain⟨y,W,X⟩:=B.1.val p x H;exact⟨y,W,by rw[X,I]⟩
 have bb:∃x,(on e (row ops e.s)).s.ef[p+1]? =some x/\x.op=21:=by
  obtain⟨x,H,I⟩:=a6;obtain⟨y,W,X⟩:=B.1.val (p+1) x H;exact⟨y,W,by rw[X,I]⟩
 have S:=(k.mono B.1).up (Iq (D:=D) (a:=a+1) (b:=a+2) (by omega) d2);have bc:∀w∈d.known,Kn D (on e (row ops e.s)) (a+1) w:=λw i=>(R w i).mono B.1;have ac:Kn D (on e (row ops e.s)) a f:=by rw[<-ha];exact(hM.kn f hf).mono a8.1
 have bd:Kn D (on e (row ops e.s)) a g:=by rw[<-ha];exact(hM.kn g hg).mono a8.1
 have aw:(row ops e.s).known=d.known++K:=aa;generalize (row ops e.s).known.getLastD 0=z at*;generalize row ops e.s=r at*;obtain⟨xp,be,ae⟩:=ba;obtain⟨ax,ay⟩:=HS (E':=λv=>E v\/v=p+1) ar be ae ab (by omega) (args:=[f,one+1]) (by rw[p1];exact Jv (P:=λq w=>Kn D (on e r) q w) ac S) (λw aA hE=>by
  rintro(h|h|h)
  ·exact hE (.inl h)
  ·exact aA h
  ·exact hE (.inr h))
 have ax:oL D pr nx (λv=>E v\/v=p+1) (on e (setArgs r p [f,one+1])):=ax;have ay:Lx (on e r) (on e (setArgs r p [f,one+1])):=ay;have bf:(setArgs r p [f,one+1]).known=d.known++K:=aw;generalize setArgs r p [f,one+1]=C at*;have bg:oL D pr nx (λv=>E v\/v=p+1) (on e (num ops C 3).2):=ax.at_ _;have L:Lx (on e r) (on e (num ops C 3).2):=ay.trans (Gw.pos (on e C) (draw ops C.pos 3).2).lx;have ag:(num ops C 3).2.known=d.known++K:=bf;generalize (num ops C 3).1=dd at*;generalize (num ops C 3).2=aB at*;have aC:∃u,(if dd=0 then setArgs aB p [f,z] else aB)=u/\oL D pr nx (λv=>E v\/v=p+1) (on e u)/\Lx (on e r) (on e u)/\u.known=d.known++K:=by
  by_cases hd:dd=0
  ·rw[if_pos hd];obtain⟨bV,bh,aD⟩:=L.1.val p xp be;obtain⟨m,y⟩:=HS (E':=λv=>E v\/v=p+1) bg bh (by rw[aD,ae]) (L.1.ow _ _ ab) (by omega) (args:=[f,z]) (by rw[p1];exact Jv (P:=λq w=>Kn D (on e aB) q w) (ac.mono L.1) (kz.mono L.1)) (λw _ hE=>hE);exact⟨_,rfl,m,L.trans y,ag⟩
  ·rw[if_neg hd];exact⟨_,rfl,bg,L,ag⟩
 obtain ⟨u,bH,bI,T,bi⟩:=aC;rw[bH];obtain⟨xq,bJ,bj⟩:=bb;obtain⟨bW,bm,aE⟩:=T.1.val (p+1) xq bJ;obtain⟨aF,aG⟩:=HS (E':=E) bI bm (by rw[aE,bj]) (T.1.ow _ _ a9) (by omega) (args:=[g,z]) (by rw[p1];exact Jv (P:=λq w=>Kn D (on e u) q w) (bd.mono T.1) (kz.mono T.1)) (λw aA hE=>by
  rintro(h|h)
  ·exact hE h
  ·exact aA h)
 have aF:oL D pr nx E (on e (setArgs u (p+1) [g,z])):=aF;have aG:Lx (on e r) (on e (setArgs u (p+1) [g,z])):=T.trans aG;have bo:(setArgs u (p+1) [g,z]).known=d.known++K:=bi;generalize setArgs u (p+1) [g,z]=F at*;obtain⟨aH,U,aI⟩:=aF.cut O.ne ⟨K,bo⟩;have aH:oL D pr nx E (on e (Un.cut d.known.length F)):=aH;have aI:Lx (on e r) (on e (Un.cut d.known.length F)):=aG.trans aI;have U:(on e (Un.cut d.known.length F)).s.known=d.known:=U;have bK:{e with s:=Un.cut d.known.length F} = on e (Un.cut d.known.length F):=rfl;rw[bK];have Z:(on e (Un.cut d.known.length F)).blocks.length=a+2:=aq;generalize on e (Un.cut d.known.length F)=t3 at*
 obtain ⟨bL,bq⟩:=aH.end_ (fin:=1) (cond:=0) (n:=[a+1]) (state:=0) (fg:=[a+1]) (by rw[Z,n2]) (by rw[Z];exact p3.symm) (.inl ⟨rfl,rfl⟩)
  (λw i=>by rw[Z];rw[U]at i;exact((bc w i).mono aI.1).up (Iq (by omega) d3))
 rw[Z]at bq;generalize Un.end_ t3 1 0 [a+1] 0 [a+1]=t4 at*;obtain⟨bQ,_⟩:=bL.row ops;exact⟨bQ,bq⟩
end
