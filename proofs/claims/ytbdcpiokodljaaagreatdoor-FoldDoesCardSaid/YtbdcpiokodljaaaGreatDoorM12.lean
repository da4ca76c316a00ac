/- Parts. -/
import Derived.Test.YtbdcpiokodljaaaGreatDoorM11
set_option maxHeartbeats 4000000
namespace Go.Proofs.YtbdcpiokodljaaaGreatDoor.Un
open Dm
def Ow(t:Dt)(v b:Nat):Prop:=(∃B,t.blocks[b]? =some B/\v∈B.ef)\/(b=t.blocks.length/\v∈t.s.cur)
def Kn(D:Nat->Nat)(t:Dt)(a w:Nat):Prop:=∃(b:Nat) (x:Vl),Ow t w b/\qO D b a/\t.s.ef[w]? =some x/\KG x.op=true
structure Le (t t':Dt):Prop where
 ow:∀(w b:Nat),Ow t w b->Ow t' w b
 back:∀(w b:Nat),w<t.s.ef.length->Ow t' w b->Ow t w b
 val:∀(w:Nat) (x:Vl),t.s.ef[w]? =some x->∃y,t'.s.ef[w]? =some y/\y.op=x.op
 st:∀(s:Nat) (fs:List Fm),t.s.eh[s]? =some fs->t'.s.eh[s]? =some fs
theorem Le.refl(t:Dt):Le t t:=⟨by simp_all,by simp_all,by simp_all,by simp_all⟩
theorem Kn.mono{D:Nat->Nat} {t t':Dt} {a w:Nat} (h:Kn D t a w) (c:Le t t'):Kn D t' a w:=by
 obtain⟨b,x,d,e,f,i⟩:=h;obtain⟨y,g,j⟩:=c.val w x f;exact⟨b,y,c.ow w b d,e,g,by simp_all⟩
theorem Kn.up{D:Nat->Nat} {t:Dt} {a a' w:Nat} (h:Kn D t a w) (c:qO D a a'):Kn D t a' w:=by
 obtain⟨b,x,d,e,f⟩:=h;exact⟨b,x,d,e.trans c,f⟩
theorem Kn.lt{D:Nat->Nat} {t:Dt} {a w:Nat} (h:Kn D t a w):w<t.s.ef.length:=by
 obtain⟨b,x,_,_,c,_⟩:=h
 grind
structure Vok (D:Nat->Nat) (t:Dt) (v:Nat) (x:Vl):Prop where
 op:1<=x.op/\x.op<=23
 putAt:x.op=20->x.args.length=1
 par:x.op=1->Ow t v 0/\x.n=(v:Nat)/\v<5
 own:∃b,Ow t v b/\(x.op≠21->∀w∈iP x,w<v/\Kn D t b w)/\(leaves x.op=true->∃fs,t.s.eh[x.state]? =some fs/\∀w∈iq fs,w<v/\Kn D t b w)/\
  (ir x.op=true->∀w,Ow t w b->w<v->∃y,t.s.ef[w]? =some y/\ir y.op=true)
theorem Vok.mono{D:Nat->Nat} {t t':Dt} {v:Nat} {x:Vl} (h:Vok D t v x) (a:Le t t') (hv:v<t.s.ef.length):Vok D t' v x:=by
 obtain⟨b,d,i,j,k⟩:=h.own;refine⟨h.op,h.putAt,λd=>⟨a.ow _ _ (h.par d).1,(h.par d).2⟩,b,a.ow _ _ d,λl w c=>⟨by simp_all,(i l w c).2.mono a⟩,λm=>?_,λn w c e=>?_⟩
 ·obtain⟨fs,f,g⟩:=j m;exact⟨fs,a.st _ _ f,λw c=>⟨by simp_all,(g w c).2.mono a⟩⟩
 ·obtain⟨y,f,g⟩:=k n w (a.back w b (by omega) c) e;obtain⟨z,o,p⟩:=a.val w y f
  simp_all
def zdB(D:Nat->Nat)(t:Dt)(ps:List Nat)(x:Vl):Prop:=x.args.length=ps.length/\∀(j w q:Nat),x.args[j]? =some w->ps[j]? =some q->Kn D t q w
def Fin(D:Nat->Nat)(t:Dt)(b:Nat)(B:Bk):Prop:=(B.fin=1/\B.next.length=1)\/(B.fin=2/\B.next.length=2/\Kn D t b B.cond)\/(B.fin=3/\B.next=[]/\∃fs,t.s.eh[B.state]? =some fs/\∀w∈iq fs,Kn D t b w)
theorem Fin.mono{D:Nat->Nat} {t t':Dt} {b:Nat} {B:Bk} (h:Fin D t b B) (a:Le t t'):Fin D t' b B:=by
 rcases h with h|⟨c,d,e⟩|⟨c,d,fs,e,f⟩
 ·exact .inl h
 ·exact .inr (.inl ⟨c,d,e.mono a⟩)
 ·exact .inr (.inr ⟨c,d,fs,a.st _ _ e,λw g=>(f w g).mono a⟩)
structure p8 (D:Nat->Nat) (pr nx:Nat->List Nat) (E:Nat->Prop) (t:Dt):Prop where
 cat:t.blocks.flatMap (·.ef)++t.s.cur=List.range t.s.ef.length
 MI:∀(v:Nat) (x:Vl),t.s.ef[v]? =some x->Vok D t v x
 ph:∀(v:Nat) (x:Vl),t.s.ef[v]? =some x->x.op=21->∃b,Ow t v b/\b≠0/\(¬E v->zdB D t (pr b) x)
 bk:∀(b:Nat) (B:Bk),t.blocks[b]? =some B->B.next=nx b/\B.eQ=pr b/\Fin D t b B
 st:∀(s:Nat) (fs:List Fm),t.s.eh[s]? =some fs->fs.length=1/\∀f∈fs,f.locals.length<=3/\f.stack.length=1/\(∀w∈f.locals,∃a,Kn D t a w)/\∀w∈f.stack,∃a,Kn D t a w
 pc:t.eQ=pr t.blocks.length
 ne:t.s.known≠[]
 kn:∀w∈t.s.known,Kn D t t.blocks.length w
section
variable{D:Nat->Nat}{pr nx:Nat->List Nat}{E:Nat->Prop}{t:Dt}
def Vq(t:Dt)(x:Vl):Dt:={t with s:=put t.s x}
theorem Rt(t:Dt) (x:Vl):Le t (Vq t x) where
 ow w b h:=by
  rcases h with h|⟨a,c⟩
  ·exact .inl h
  ·exact .inr ⟨a,by show w∈t.s.cur++_;simp_all⟩
 back w b hw h:=by
  rcases h with h|⟨a,c⟩
  ·exact .inl h
  ·refine .inr ⟨a,?_⟩;have d:w∈t.s.cur++[t.s.ef.length]:=c
   grind
 val w y h:=⟨y,by show(t.s.ef++[x])[w]? =some y;grind,rfl⟩
 st s fs h:=h
theorem p8.put(i:p8 D pr nx E t) {x:Vl} (J:1<=x.op/\x.op<=23) (z:x.op=20->x.args.length=1) (G:x.op=1->t.blocks.length=0/\x.n=(t.s.ef.length:Nat)/\t.s.ef.length<5)
  (H:x.op≠21->∀w∈iP x,Kn D t t.blocks.length w) (K:leaves x.op=true->∃fs,t.s.eh[x.state]? =some fs/\∀w∈iq fs,Kn D t t.blocks.length w)
  (S:ir x.op=true->∀w∈t.s.cur,∃y,t.s.ef[w]? =some y/\ir y.op=true) (A:x.op=21->t.blocks.length≠0/\(¬E t.s.ef.length->zdB D t (pr t.blocks.length) x)) :
  p8 D pr nx E (Vq t x)/\(KG x.op=true->Kn D (Vq t x) t.blocks.length t.s.ef.length):=by
 have c:=Rt t x;have e:Ow (Vq t x) t.s.ef.length t.blocks.length:= .inr ⟨rfl,by show t.s.ef.length∈t.s.cur++[t.s.ef.length];simp⟩;have o:(Vq t x).s.ef[t.s.ef.length]? =some x:=by show(t.s.ef++[x])[t.s.ef.length]? =some x;simp
 have g:∀(v:Nat) (y:Vl),(Vq t x).s.ef[v]? =some y->t.s.ef[v]? =some y\/v=t.s.ef.length/\y=x:=λv y h=>by
  have h':(t.s.ef++[x])[v]? =some y:=h
  grind
 refine⟨⟨?_,λv y h=>?_,λv y h p=>?_,λb B h=>⟨(i.bk b B h).1,(i.bk b B h).2.1,(i.bk b B h).2.2.mono c⟩,λs fs h=>?_,i.pc,i.ne,λw d=>(i.kn w d).mono c⟩,λL=>⟨_,x,e,.refl _,o,L⟩⟩
 ·show t.blocks.flatMap (·.ef)++(t.s.cur++[t.s.ef.length])=List.range (t.s.ef++[x]).length;rw[<-M6,i.cat,K8,List.length_singleton,wBO]
 ·rcases g v y h with h|⟨rfl,rfl⟩
  ·exact(i.MI v y h).mono c (by grind)
  ·refine ⟨J,z,λl=>?_,t.blocks.length,e,λI w d=>⟨(H I w d).lt,(H I w d).mono c⟩,λl=>?_,λl w d C=>?_⟩
   ·simp_all
   ·obtain⟨fs,m,k⟩:=K l;exact⟨fs,m,λw d=>⟨(k w d).lt,(k w d).mono c⟩⟩
   ·have M:=c.back w _ C d;rcases M with⟨B,N,_⟩|⟨_,N⟩
    ·simp_all
    grind
 ·rcases g v y h with h|⟨rfl,rfl⟩
  ·obtain⟨b,m,k,u⟩:=i.ph v y h p;refine⟨b,c.ow _ _ m,k,λr=>⟨(u r).1,λj w q l F=>((u r).2 j w q l F).mono c⟩⟩
  ·obtain⟨m,k⟩:=A p;exact⟨_,e,m,λr=>⟨(k r).1,λj w q l F=>((k r).2 j w q l F).mono c⟩⟩
 ·obtain⟨m,k⟩:=i.st s fs h;refine⟨m,λf O=>?_⟩;obtain⟨u,P,Q,R⟩:=k f O;exact⟨u,P,λw d=>(Q w d).imp λa h=>h.mono c,λw d=>(R w d).imp λa h=>h.mono c⟩
theorem p8.SX(a:p8 D pr nx E t) {l:List Nat} (c:∀w∈l,Kn D t t.blocks.length w) (b:l≠[]):p8 D pr nx E {t with s:={t.s with known:=l} }:=
 ⟨a.cat,λv x h=>⟨(a.MI v x h).op,(a.MI v x h).putAt,(a.MI v x h).par,(a.MI v x h).own⟩,a.ph,a.bk,a.st,a.pc,b,c⟩
theorem p8.at_(a:p8 D pr nx E t) (p:Nat):p8 D pr nx E {t with s:={t.s with pos:=p} }:=
 ⟨a.cat,λv x h=>⟨(a.MI v x h).op,(a.MI v x h).putAt,(a.MI v x h).par,(a.MI v x h).own⟩,a.ph,a.bk,a.st,a.pc,a.ne,a.kn⟩
end
def on(t:Dt)(s:Ds):Dt:={t with s:=s}
structure Gw (t t':Dt):Prop where
 blocks:t'.blocks=t.blocks
 eQ:t'.eQ=t.eQ
 known:∃k,t'.s.known=t.s.known++k
 ef:∃e,t'.s.ef=t.s.ef++e
 le:Le t t'
theorem Le.trans{t t' a:Dt} (c:Le t t') (d:Le t' a) (f:t.s.ef.length<=t'.s.ef.length):Le t a where
 ow w b h:=d.ow w b (c.ow w b h)
 back w b hw h:=c.back w b hw (d.back w b (by omega) h)
 val w x h:=by
  obtain⟨y,e,g⟩:=c.val w x h;obtain⟨z,i,j⟩:=d.val w y e
  simp_all
 st s fs h:=d.st s fs (c.st s fs h)
theorem Gw.refl(t:Dt):Gw t t:=⟨rfl,rfl,by simp_all,by simp_all,.refl t⟩
theorem Gw.len{t t':Dt} (h:Gw t t'):t.s.ef.length<=t'.s.ef.length:=by
 obtain⟨e,a⟩:=h.ef
 simp_all
theorem Gw.trans{t t' b:Dt} (a:Gw t t') (c:Gw t' b):Gw t b:=by
 obtain⟨k,hk⟩:=a.known;obtain⟨k',d⟩:=c.known;obtain⟨e,g⟩:=a.ef;obtain⟨e',f⟩:=c.ef;exact⟨c.blocks.trans a.blocks,c.eQ.trans a.eQ,by simp_all,by simp_all,a.le.trans c.le a.len⟩
theorem Gw.pos(t:Dt)(p:Nat):Gw t (on t {t.s with pos:=p}):=⟨rfl,rfl,⟨[],(JY _).symm⟩,⟨[],(JY _).symm⟩,⟨λ_ _ h=>h,λ_ _ _ h=>h,λ_ x h=>⟨x,h,rfl⟩,λ_ _ h=>h⟩⟩
theorem zap{l:List Nat} {i:Nat} (h:i<l.length):l.getD i 0∈l:=by
 simp_all
theorem Cr(ops:List Int){s:Ds}(h:s.known≠[]):(fL ops s).1∈s.known:=zap (zg ops s.pos (List.length_pos_iff.2 h))
theorem Ke{l:List Nat} (h:l≠[]):l.getLastD 0∈l:=by
 cases l <;> grind
theorem Qk(ops:List Int):∀(i:Nat) (s:Ds) (l:List Nat),s.known≠[]->(∃p,(some_ ops i s l).2 = {s with pos:=p})/\(some_ ops i s l).1.length=l.length+i/\∀w∈(some_ ops i s l).1,w∈l\/w∈s.known
 |0,s,l,_=>⟨⟨s.pos,rfl⟩,rfl,λw h=> .inl h⟩
 | i+1,s,l,h=>by
   obtain⟨⟨p,b⟩,d,a⟩:=Qk ops i (fL ops s).2 (l++[(fL ops s).1]) h;refine⟨⟨p,b⟩,by grind[some_],λw c=>?_⟩;rcases a w c with a|a
   ·grind[Cr]
   ·exact .inr a
section
variable{D:Nat->Nat}{pr nx:Nat->List Nat}{E:Nat->Prop}{t:Dt}
theorem p8.le1(t:Dt) (fs:List Fm) (p:Nat):Le t (on t {t.s with eh:=t.s.eh++[fs],pos:=p}):=
 ⟨λ_ _ h=>h,λ_ _ _ h=>h,λ_ x h=>⟨x,h,rfl⟩,λs g h=>by show(t.s.eh++[fs])[s]? =some g;grind⟩
theorem p8.state(d:p8 D pr nx E t) (ops:List Int):p8 D pr nx E (on t (fH ops t.s).2)/\Gw t (on t (fH ops t.s).2)/\(fH ops t.s).2.known=t.s.known/\(fH ops t.s).2.ef=t.s.ef/\(fH ops t.s).2.cur=t.s.cur/\
  ∃fs,(fH ops t.s).2.eh[(fH ops t.s).1]? =some fs/\∀w∈iq fs,w∈t.s.known:=by
 obtain ⟨⟨p,y⟩,K,z⟩:=Qk ops (num ops t.s 4).1 (num ops t.s 4).2 [] d.ne;have L:(num ops t.s 4).1<4:=zg _ _ (by omega);have hs:(fH ops t.s).2 = {t.s with eh:=t.s.eh++[[⟨1,(t.s.eh.length:Nat),(some_ ops (num ops t.s 4).1 (num ops t.s 4).2 []).1,[t.s.known.getLastD 0]⟩]],pos:=p}:=by
  unfold fH;simp only;rw[y];rfl
 rw[hs];generalize (some_ ops (num ops t.s 4).1 (num ops t.s 4).2 []).1=l at*;have c:=p8.le1 t [⟨1,(t.s.eh.length:Nat),l,[t.s.known.getLastD 0]⟩] p;have A:∀w∈l,w∈t.s.known:=λw e=>(z w e).elim (by simp_all) id;have k:=Ke d.ne
 refine ⟨⟨d.cat,λv x h=>(d.MI v x h).mono c (kj.1 h).1,λv x h C=>?_,λb B h=>⟨(d.bk b B h).1,(d.bk b B h).2.1,(d.bk b B h).2.2.mono c⟩,λs fs h=>?_,d.pc,d.ne,λw e=>(d.kn w e).mono c⟩,
  ⟨rfl,rfl,⟨[],(JY _).symm⟩,⟨[],(JY _).symm⟩,c⟩,rfl,rfl,rfl,[⟨1,(t.s.eh.length:Nat),l,[t.s.known.getLastD 0]⟩],wBU,λw e=>?_⟩
 ·obtain⟨b,m,n,g⟩:=d.ph v x h C;exact⟨b,c.ow _ _ m,n,λr=>⟨(g r).1,λj w q F G=>((g r).2 j w q F G).mono c⟩⟩
 ·have h':(t.s.eh++[[⟨1,(t.s.eh.length:Nat),l,[t.s.known.getLastD 0]⟩]])[s]? =some fs:=h;by_cases Pu:s<t.s.eh.length
  ·rw[Wx Pu]at h';obtain⟨m,n⟩:=d.st s fs h';refine⟨m,λf i=>?_⟩;obtain⟨g,H,I,J⟩:=n f i;exact⟨g,H,λw e=>(I w e).imp λa h=>h.mono c,λw e=>(J w e).imp λa h=>h.mono c⟩
  ·rw[Zo (by omega)]at h';have u:=DQ h';simp at u;subst u;refine⟨rfl,λf i=>?_⟩;simp at i;subst i;refine⟨by grind,rfl,λw e=>⟨_,(d.kn w (A w e)).mono c⟩,λw e=>?_⟩;have o:w=t.s.known.getLastD 0:=by simpa using e
   subst o;exact⟨_,(d.kn _ k).mono c⟩
 ·simp only[iq,List.flatMap_cons,List.flatMap_nil,JY,JT,wBX]at e
  grind
theorem p8.UQ(a:p8 D pr nx E t) {x:Vl} (l:2<=x.op/\x.op<=23/\x.op≠21) (b:x.op=20->x.args.length=1) (d:∀w∈iP x,w∈t.s.known) (e:leaves x.op=true->∃fs,t.s.eh[x.state]? =some fs/\∀w∈iq fs,w∈t.s.known) :
  p8 D pr nx E (on t (Un.put t.s x))/\Gw t (on t (Un.put t.s x))/\(KG x.op=true->Kn D (on t (Un.put t.s x)) t.blocks.length t.s.ef.length):=by
 have f:ir x.op=true->False:=by grind[ir]
 obtain⟨g,i⟩:=a.put (x:=x) (by omega) b (by omega) (λ_ w c=>a.kn w (d w c)) (λh=>by obtain⟨fs,j,k⟩:=e h;exact⟨fs,j,λw c=>a.kn w (k w c)⟩) (by simp_all) (by omega);exact⟨g,⟨rfl,rfl,⟨[],(JY _).symm⟩,⟨[x],rfl⟩,Rt t x⟩,i⟩
theorem p8.TZ(c:p8 D pr nx E t) {x:Vl} (h:2<=x.op/\x.op<19) (d:∀w∈iP x,w∈t.s.known):p8 D pr nx E (on t (jh t.s x))/\Gw t (on t (jh t.s x)):=by
 obtain ⟨e,b,f⟩:=c.UQ (x:=x) (by omega) (by omega) d (by grind[leaves]);have hk:=f (by simp[KG];omega);have g:=e.SX (l:=t.s.known++[t.s.ef.length]) (λw a=>by
  rcases JT.1 a with a|a
  ·exact(c.kn w a).mono b.le
  ·simp at a;subst a;exact hk) (by simp)
 exact⟨g,⟨rfl,rfl,⟨[t.s.ef.length],rfl⟩,⟨[x],rfl⟩,⟨b.le.ow,b.le.back,b.le.val,b.le.st⟩⟩⟩
end
theorem SE(x:Vl):∀w∈iP x,w=x.a\/w=x.b\/w∈x.args:=by
 grind[iP,wBa]
section
variable{D:Nat->Nat}{pr nx:Nat->List Nat}{E:Nat->Prop}{t:Dt}
theorem p8.kind(o:p8 D pr nx E t) (ops:List Int) {k a b:Nat} (q:a∈t.s.known) (v:b∈t.s.known):p8 D pr nx E (on t (tq ops t.s k a b))/\Gw t (on t (tq ops t.s k a b)):=by
 have p:∀x:Vl,x.a=a->x.b=b->x.args=[]->∀w∈iP x,w∈t.s.known:=λx c d f w g=>by
  rcases SE x w g with h|h|h
  ·simp_all
  ·simp_all
  simp_all
 have i:∀m,p8 D pr nx E (on t (num ops t.s m).2)/\Gw t (on t (num ops t.s m).2):=λm=>⟨o.at_ _,Gw.pos t _⟩
 have l:∀(op:Nat) (n:Int),nW op=true->two op=false->op≠20->op≠21->∀w∈iP (vl op a 0 n [] 0),w=a:=by grind[iP,vl]
 unfold tq;split
 ·rename_i hk;exact o.TZ (x:=vl (3+k) a b 0 [] 0) (by grind[vl]) (p _ rfl rfl rfl)
 split
 ·obtain⟨c,d⟩:=i 1048576;obtain⟨f,j⟩:=c.TZ (x:=vl 2 0 0 (((num ops t.s 1048576).1:Int)-9) [] 0) (by grind[vl]) (by grind[iP,vl,two,nW]);exact⟨f,d.trans j⟩
 split
 ·obtain⟨c,d⟩:=i 5;obtain⟨f,j⟩:=c.TZ (x:=vl 17 a 0 ((num ops t.s 5).1:Nat) [] 0) (by grind[vl]) (λw g=>by rw[l 17 _ rfl rfl (by omega) (by omega) w g];exact q);exact⟨f,d.trans j⟩
 split
 ·exact o.TZ (x:=vl 18 a b 0 [] 0) (by grind[vl]) (p _ rfl rfl rfl)
 split
 ·obtain⟨c,d⟩:=i 5;obtain⟨f,j,_⟩:=c.UQ (x:=vl 19 a b ((num ops t.s 5).1:Nat) [] 0) (by grind[vl]) (by grind[vl]) (p _ rfl rfl rfl) (by grind[vl,leaves]);exact⟨f,d.trans j⟩
 split
 ·have c:p8 D pr nx E (on t (fL ops t.s).2):=o.at_ _;have d:Gw t (on t (fL ops t.s).2):=Gw.pos t _;obtain⟨f,j,_⟩:=c.UQ (x:=vl 20 a b 0 [(fL ops t.s).1] 0) (by grind[vl]) (λ_=>rfl) (λw g=>by
   rcases SE _ w g with h|h|h
   ·rw[h];exact q
   ·rw[h];exact v
   ·have h':w=(fL ops t.s).1:=by simpa[vl]using h
    rw[h'];exact Cr ops o.ne) (by grind[vl,leaves])
  exact⟨f,d.trans j⟩
 split
 ·obtain ⟨c,d,hk,_,_,fs,r,y⟩:=o.state ops;obtain⟨f,j,_⟩:=c.UQ (x:=vl 22 a 0 0 [] (fH ops t.s).1) (by grind[vl]) (by grind[vl]) (λw g=>by
   have e:w=a:=by simpa[iP,vl,two,nW]using g
   show w∈(fH ops t.s).2.known
   simp_all) (λ_=>⟨fs,r,λw g=>by show w∈(fH ops t.s).2.known;simp_all⟩)
  exact⟨f,d.trans j⟩
 split
 ·obtain⟨c,d,hk,_,_,fs,r,y⟩:=o.state ops;obtain⟨f,j,_⟩:=c.UQ (x:=vl 23 0 0 0 [] (fH ops t.s).1) (by grind[vl]) (by grind[vl]) (by grind[iP,vl,two,nW]) (λ_=>⟨fs,r,λw g=>by show w∈(fH ops t.s).2.known;simp_all⟩);exact⟨f,d.trans j⟩
 ·obtain ⟨c,d⟩:=i 2;have z:(num ops t.s 2).1<2:=zg _ _ (by omega);have u:(num ops t.s 2).1=0\/(num ops t.s 2).1=1:=by omega
  obtain ⟨f,j⟩:=c.TZ (x:=vl (15+(num ops t.s 2).1) a 0 0 [] 0) (by grind[vl]) (λw g=>by
   have e:w=a:=by
    rcases u with e|e
    ·rw[e]at g;exact l 15 _ rfl rfl (by omega) (by omega) w g
    ·rw[e]at g;exact l 16 _ rfl rfl (by omega) (by omega) w g
   rw[e];exact q)
  exact⟨f,d.trans j⟩
theorem p8.vf(c:p8 D pr nx E t) (ops:List Int):p8 D pr nx E (on t (vf ops t.s))/\Gw t (on t (vf ops t.s)):=by
 have d:=Cr ops c.ne;have e:p8 D pr nx E (on t (fL ops t.s).2):=c.at_ _;have f:=Cr ops e.ne;have g:p8 D pr nx E (on t (num ops (fL ops (fL ops t.s).2).2 20).2):=c.at_ _;obtain⟨h,i⟩:=g.kind ops (k:=(num ops (fL ops (fL ops t.s).2).2 20).1) (a:=(fL ops t.s).1) (b:=(fL ops (fL ops t.s).2).1) d f;exact⟨h,(Gw.pos t _).trans i⟩
theorem p8.rows(ops:List Int):∀(i:Nat) {t:Dt},p8 D pr nx E t->p8 D pr nx E (on t (rows ops i t.s))/\Gw t (on t (rows ops i t.s))
 |0,t,hM=>⟨hM,Gw.refl t⟩
 | i + 1,t,hM=>by
   unfold Un.rows;split
   ·obtain⟨a,b⟩:=hM.vf ops
    obtain⟨c,d⟩:=p8.rows ops i a;exact⟨c,b.trans d⟩
   ·exact⟨hM,Gw.refl t⟩
theorem p8.row(a:p8 D pr nx E t) (ops:List Int):p8 D pr nx E (on t (row ops t.s))/\Gw t (on t (row ops t.s)):=by
 have b:p8 D pr nx E (on t (num ops t.s 6).2):=a.at_ _;obtain⟨c,d⟩:=p8.rows ops (1+(num ops t.s 6).1) b;exact⟨c,(Gw.pos t _).trans d⟩
end
open Dm
def Lx(t t':Dt):Prop:=Le t t'/\t.s.ef.length<=t'.s.ef.length
theorem Lx.trans{t t' a:Dt}(b:Lx t t')(c:Lx t' a):Lx t a:=⟨b.1.trans c.1 b.2,Ix b.2 c.2⟩
theorem Gw.lx{t t':Dt}(h:Gw t t'):Lx t t':=⟨h.le,h.len⟩
section
variable{D:Nat->Nat}{pr nx:Nat->List Nat}{E E':Nat->Prop}{t:Dt}
theorem p8.weaken(a:p8 D pr nx E t) (h:∀v,E v->E' v):p8 D pr nx E' t:=
 ⟨a.cat,a.MI,λv x hv c=>let⟨b,d,e,f⟩:=a.ph v x hv c;(by grind),a.bk,a.st,a.pc,a.ne,a.kn⟩
theorem JK(t:Dt) (fin cond:Nat) (n:List Nat) (state:Nat) (eQ:List Nat):Lx t (end_ t fin cond n state eQ):=by
 refine⟨⟨λw b h=>?_,λw b _ h=>?_,λw x h=>⟨x,h,rfl⟩,λs fs h=>h⟩,ju _⟩
 ·rcases h with⟨B,f,c⟩|⟨rfl,c⟩
  ·exact .inl ⟨B,by show(t.blocks++[_])[b]? =_;grind,c⟩
  ·exact .inl ⟨⟨t.s.cur,fin,cond,n,t.eQ,state⟩,wBU,c⟩
 ·rcases h with⟨B,f,c⟩|⟨_,c⟩
  ·have a:(t.blocks++[⟨t.s.cur,fin,cond,n,t.eQ,state⟩])[b]? =some B:=f;by_cases hb:b<t.blocks.length
   ·rw[Wx hb]at a;exact .inl ⟨B,a,c⟩
   ·have d:=(kj.1 a).1;simp at d;have e:b=t.blocks.length:=by omega
    subst e;rw[wBU]at a;obtain rfl:=Option.some.inj a;exact .inr ⟨rfl,c⟩
  ·cases c
theorem p8.end_(e:p8 D pr nx E t) {fin cond:Nat} {n:List Nat} {state:Nat} {eQ:List Nat} (u:n=nx t.blocks.length) (hp:eQ=pr (t.blocks.length+1)) (k:Fin D t t.blocks.length ⟨t.s.cur,fin,cond,n,t.eQ,state⟩) (hk:∀w∈t.s.known,Kn D t (t.blocks.length+1) w) :
  p8 D pr nx E (end_ t fin cond n state eQ)/\(Un.end_ t fin cond n state eQ).blocks.length=t.blocks.length+1:=by
 have c:=JK t fin cond n state eQ;have hlen:(Un.end_ t fin cond n state eQ).blocks.length=t.blocks.length+1:=by simp[Un.end_]
 refine⟨⟨?_,λv x h=>(e.MI v x h).mono c.1 (kj.1 h).1,λv x h y=>?_,λb B h=>?_,λs fs h=>?_,?_,e.ne,λw g=>?_⟩,hlen⟩
 ·show(t.blocks++[(⟨t.s.cur,fin,cond,n,t.eQ,state⟩:Bk)]).flatMap (·.ef)++[]=List.range t.s.ef.length;rw[JY,List.flatMap_append,<-e.cat];simp
 ·obtain⟨b,l,m,i⟩:=e.ph v x h y;exact⟨b,c.1.ow _ _ l,m,λr=>⟨(i r).1,λj w q z A=>((i r).2 j w q z A).mono c.1⟩⟩
 ·have d:(t.blocks++[⟨t.s.cur,fin,cond,n,t.eQ,state⟩])[b]? =some B:=h;by_cases hb:b<t.blocks.length
  ·rw[Wx hb]at d;exact⟨(e.bk b B d).1,(e.bk b B d).2.1,(e.bk b B d).2.2.mono c.1⟩
  ·have o:=(kj.1 d).1;simp at o;have p:b=t.blocks.length:=by omega
   subst p;rw[wBU]at d;obtain rfl:=Option.some.inj d;exact⟨u,e.pc,k.mono c.1⟩
 ·obtain⟨l,m⟩:=e.st s fs h;refine⟨l,λf k=>?_⟩;obtain⟨i,C,F,G⟩:=m f k;exact⟨i,C,λw g=>(F w g).imp λa h=>h.mono c.1,λw g=>(G w g).imp λa h=>h.mono c.1⟩
 ·rw[hlen];exact hp
 ·rw[hlen];exact(hk w g).mono c.1
theorem p8.cut(b:p8 D pr nx E t) {l:List Nat} (a:l≠[]) (hk:∃k,t.s.known=l++k):p8 D pr nx E (on t (cut l.length t.s))/\(on t (Un.cut l.length t.s)).s.known=l/\Lx t (on t (Un.cut l.length t.s)):=by
 obtain⟨k,hk⟩:=hk;have e:t.s.known.take l.length=l:=by rw[hk];simp
 have c:=b.SX (l:=l) (λw f=>b.kn w (by simp_all)) a;have d:on t (Un.cut l.length t.s) = {t with s:={t.s with known:=l} }:=by
  unfold on Un.cut;rw[e]
 rw[d];exact⟨c,rfl,⟨⟨λ_ _ h=>h,λ_ _ _ h=>h,by simp_all,by simp_all⟩,ju _⟩⟩
theorem Ks{D:Nat->Nat}{a b:Nat}(h0:b≠0)(h:D b=a):qO D a b:= .up h0 (by rw[h];exact .refl _)
theorem Vy(a:p8 D pr nx E t) {args:List Nat} (hc:t.s.cur=[]\/∀w∈t.s.cur,∃y,t.s.ef[w]? =some y/\ir y.op=true) (h0:t.blocks.length≠0) (hp:¬E t.s.ef.length->zdB D t (pr t.blocks.length) (vl 21 0 0 0 args 0)) :
  p8 D pr nx E (on t (put t.s (vl 21 0 0 0 args 0)))/\Lx t (on t (put t.s (vl 21 0 0 0 args 0)))/\Kn D (on t (put t.s (vl 21 0 0 0 args 0))) t.blocks.length t.s.ef.length/\Ow (on t (put t.s (vl 21 0 0 0 args 0))) t.s.ef.length t.blocks.length:=by
 obtain⟨b,c⟩:=a.put (x:=vl 21 0 0 0 args 0) (by simp[vl]) (by grind[vl]) (by grind[vl]) (λh=>absurd rfl h) (by grind[vl,leaves]) (by grind) (by simp_all);exact⟨b,⟨Rt t _,by show _<=(t.s.ef++[_]).length;simp⟩,c rfl,.inr ⟨rfl,by show t.s.ef.length∈t.s.cur++[t.s.ef.length];simp⟩⟩
theorem za5(d:p8 D pr nx E t) (ops:List Int) (n0:nx t.blocks.length=[t.blocks.length+1,t.blocks.length+2]) (n1:nx (t.blocks.length+1)=[t.blocks.length+3]) (n2:nx (t.blocks.length+2)=[t.blocks.length+3])
  (p1:pr (t.blocks.length+1)=[t.blocks.length]) (p2:pr (t.blocks.length+2)=[t.blocks.length]) (p3:pr (t.blocks.length+3)=[t.blocks.length+1,t.blocks.length+2])
  (d1:D (t.blocks.length+1)=t.blocks.length) (d2:D (t.blocks.length+2)=t.blocks.length) (d3:D (t.blocks.length+3)=t.blocks.length) :
  p8 D pr nx E (fork ops t)/\(fork ops t).blocks.length=t.blocks.length+3:=by
 generalize h:t.blocks.length=a at*;have hc:=Cr ops d.ne;have z:p8 D pr nx E (on t (fL ops t.s).2):=d.at_ _;have A:Lx t (on t (fL ops t.s).2):=(Gw.pos t _).lx;have B:(on t (fL ops t.s).2).s.known=t.s.known:=rfl;unfold fork;simp only;rw[h];generalize C:(fL ops t.s).1=cond at*;generalize (fL ops t.s).2=e at*;have e0:{t with s:=e} = on t e:=rfl;rw[e0];have f:(on t e).blocks.length=a:=h
 obtain ⟨m1,b1⟩:=z.end_ (fin:=2) (cond:=cond) (n:=[a+1,a+2]) (state:=0) (eQ:=[a]) (by simp_all) (by simp_all) (.inr (.inl ⟨rfl,rfl,by rw[f,<-h];exact(d.kn cond hc).mono A.1⟩))
  (λw c=>by rw[f];exact((by rw[<-h];exact(d.kn w (by simp_all)).mono A.1:Kn D (on t e) a w)).up (Ks (by omega) d1))
 rw[f]at b1;have x1:=A.trans (JK (on t e) 2 cond [a+1,a+2] 0 [a]);have F:(Un.end_ (on t e) 2 cond [a+1,a+2] 0 [a]).s.known=t.s.known:=B;generalize Un.end_ (on t e) 2 cond [a+1,a+2] 0 [a]=b at*;obtain⟨G,H⟩:=m1.row ops;have x2:=x1.trans H.lx;have b2:(on b (row ops b.s)).blocks.length=a+1:=by rw[H.blocks];exact b1
 have kx:=G.kn _ (Ke G.ne);obtain⟨k2,k⟩:=H.known;rw[F]at k;have eX:(row ops b.s).known.getLastD 0=(on b (row ops b.s)).s.known.getLastD 0:=rfl;rw[eX];generalize (on b (row ops b.s)).s.known.getLastD 0=x at*;obtain⟨m3,I,m⟩:=G.cut d.ne ⟨k2,k⟩;have T:=x2.trans m;have o:=kx.mono m.1;rw[b2]at o;have e3:{b with s:=Un.cut t.s.known.length (row ops b.s)} = on (on b (row ops b.s)) (Un.cut t.s.known.length (on b (row ops b.s)).s):=rfl;rw[e3];have b3:(on (on b (row ops b.s)) (Un.cut t.s.known.length (on b (row ops b.s)).s)).blocks.length=a+1:=b2;generalize on (on b (row ops b.s)) (Un.cut t.s.known.length (on b (row ops b.s)).s)=t3 at*
 obtain ⟨m4,U⟩:=m3.end_ (fin:=1) (cond:=0) (n:=[a+3]) (state:=0) (eQ:=[a]) (by rw[b3,n1]) (by simp_all) (.inl ⟨rfl,rfl⟩)
  (λw c=>by rw[b3];exact((by rw[<-h];exact(d.kn w (by simp_all)).mono T.1:Kn D t3 a w)).up (Ks (by omega) d2))
 rw[b3]at U;have V:=JK t3 1 0 [a+3] 0 [a];have x4:=T.trans V;have J:=o.mono V.1;have K:(Un.end_ t3 1 0 [a+3] 0 [a]).s.known=t.s.known:=I;generalize Un.end_ t3 1 0 [a+3] 0 [a]=t4 at*;obtain⟨L,u⟩:=m4.row ops;have x5:=x4.trans u.lx;have M:=J.mono u.le;have W:(on t4 (row ops t4.s)).blocks.length=a+2:=by rw[u.blocks];exact U
 have ky:=L.kn _ (Ke L.ne);obtain⟨k5,p⟩:=u.known;rw[K]at p;have eY:(row ops t4.s).known.getLastD 0=(on t4 (row ops t4.s)).s.known.getLastD 0:=rfl;rw[eY];generalize (on t4 (row ops t4.s)).s.known.getLastD 0=y at*;obtain⟨m6,aa,g⟩:=L.cut d.ne ⟨k5,p⟩;have x6:=x5.trans g;have N:=M.mono g.1;have r:=ky.mono g.1;rw[W]at r;have e6:{t4 with s:=Un.cut t.s.known.length (row ops t4.s)} = on (on t4 (row ops t4.s)) (Un.cut t.s.known.length (on t4 (row ops t4.s)).s):=rfl;rw[e6];have O:(on (on t4 (row ops t4.s)) (Un.cut t.s.known.length (on t4 (row ops t4.s)).s)).blocks.length=a+2:=W;generalize on (on t4 (row ops t4.s)) (Un.cut t.s.known.length (on t4 (row ops t4.s)).s)=t6 at*
 obtain ⟨m7,P⟩:=m6.end_ (fin:=1) (cond:=0) (n:=[a+3]) (state:=0) (eQ:=[a+1,a+2]) (by rw[O,n2]) (by simp_all) (.inl ⟨rfl,rfl⟩)
  (λw c=>by rw[O];exact((by rw[<-h];exact(d.kn w (by simp_all)).mono x6.1:Kn D t6 a w)).up (Ks (by omega) d3))
 rw [O]at P;have X:=JK t6 1 0 [a+3] 0 [a+1,a+2];have ab:=N.mono X.1;have ac:=r.mono X.1;have Q:(Un.end_ t6 1 0 [a+3] 0 [a+1,a+2]).s.cur=[]:=rfl;generalize Un.end_ t6 1 0 [a+3] 0 [a+1,a+2]=Y at*;obtain⟨Z,y8,R,_⟩:=Vy m7 (args:=[x,y]) (.inl Q) (by omega) (λ_=>by
  rw[P,p3];refine⟨rfl,λj w q i v=>?_⟩
  match j,i,v with
  | 0,i,v=>
    obtain rfl:x=w:=by simpa[vl]using i
    simp_all
  | 1,i,v=>
    obtain rfl:y=w:=by simpa[vl]using i
    simp_all
  |j+2,i,v=>simp_all)
 have m9:=Z.SX (l:=Y.s.known++[Y.s.ef.length]) (λw c=>by
  rcases JT.1 c with c|c
  ·exact Z.kn w c
  ·simp at c;subst c;exact R) (by simp)
 obtain⟨S,_⟩:=m9.row ops;exact⟨S,P⟩
theorem zbm(e:p8 D pr nx E t) (ops:List Int) (n0:nx t.blocks.length=[t.blocks.length+1,t.blocks.length+2]) (S:nx (t.blocks.length+1)=[])
  (p1:pr (t.blocks.length+1)=[t.blocks.length]) (p2:pr (t.blocks.length+2)=[t.blocks.length]) (d1:D (t.blocks.length+1)=t.blocks.length) (d2:D (t.blocks.length+2)=t.blocks.length) :
  p8 D pr nx E (zo ops t)/\(zo ops t).blocks.length=t.blocks.length+2:=by
 generalize g:t.blocks.length=a at*;have hc:=Cr ops e.ne;have o:p8 D pr nx E (on t (fL ops t.s).2):=e.at_ _;have p:Lx t (on t (fL ops t.s).2):=(Gw.pos t _).lx;have q:(on t (fL ops t.s).2).s.known=t.s.known:=rfl;unfold zo;simp only;rw[g];generalize r:(fL ops t.s).1=cond at*;generalize (fL ops t.s).2=c at*;have e0:{t with s:=c} = on t c:=rfl;rw[e0];have d:(on t c).blocks.length=a:=g
 obtain ⟨F,b1⟩:=o.end_ (fin:=2) (cond:=cond) (n:=[a+1,a+2]) (state:=0) (eQ:=[a]) (by simp_all) (by simp_all) (.inr (.inl ⟨rfl,rfl,by rw[d,<-g];exact(e.kn cond hc).mono p.1⟩))
  (λw f=>by rw[d];exact((by rw[<-g];exact(e.kn w (by simp_all)).mono p.1:Kn D (on t c) a w)).up (by grind[Ks]))
 rw[d]at b1;have G:=p.trans (JK (on t c) 2 cond [a+1,a+2] 0 [a]);have u:(Un.end_ (on t c) 2 cond [a+1,a+2] 0 [a]).s.known=t.s.known:=q;generalize Un.end_ (on t c) 2 cond [a+1,a+2] 0 [a]=b at*;obtain⟨H,v⟩:=F.row ops;have I:=G.trans v.lx;have b2:(on b (row ops b.s)).blocks.length=a+1:=by rw[v.blocks];exact b1
 obtain ⟨A,h⟩:=v.known;rw[u]at h;obtain⟨B,J,x,_,_,fs,y,K⟩:=H.state ops;have L:=I.trans J.lx;have b3:(on (on b (row ops b.s)) (fH ops (on b (row ops b.s)).s).2).blocks.length=a+1:=b2;have eS:fH ops (row ops b.s)=fH ops (on b (row ops b.s)).s:=rfl;rw[eS];have i:(on (on b (row ops b.s)) (fH ops (on b (row ops b.s)).s).2).s.known=t.s.known++A:=by
  show(fH ops (on b (row ops b.s)).s).2.known=_;rw[x,h]
 have j:∀w∈iq fs,Kn D (on (on b (row ops b.s)) (fH ops (on b (row ops b.s)).s).2) (a+1) w:=λw f=>by
  rw[<-b3];refine B.kn w ?_
  simp_all
 obtain⟨M,N,k⟩:=B.cut e.ne ⟨A,i⟩;have O:=L.trans k;generalize (fH ops (on b (row ops b.s)).s).1=st at*;have P:{b with s:=Un.cut t.s.known.length (fH ops (on b (row ops b.s)).s).2} = on (on (on b (row ops b.s)) (fH ops (on b (row ops b.s)).s).2) (Un.cut t.s.known.length (on (on b (row ops b.s)) (fH ops (on b (row ops b.s)).s).2).s):=rfl;rw[P];have l:(on (on (on b (row ops b.s)) (fH ops (on b (row ops b.s)).s).2) (Un.cut t.s.known.length (on (on b (row ops b.s)) (fH ops (on b (row ops b.s)).s).2).s)).s.eh[st]? =some fs:=y;have m:=λw f=>(j w f).mono k.1;have z:(on (on (on b (row ops b.s)) (fH ops (on b (row ops b.s)).s).2) (Un.cut t.s.known.length (on (on b (row ops b.s)) (fH ops (on b (row ops b.s)).s).2).s)).blocks.length=a+1:=b2;generalize on (on (on b (row ops b.s)) (fH ops (on b (row ops b.s)).s).2) (Un.cut t.s.known.length (on (on b (row ops b.s)) (fH ops (on b (row ops b.s)).s).2).s)=t4 at*
 obtain ⟨Q,C⟩:=M.end_ (fin:=3) (cond:=0) (n:=[]) (state:=st) (eQ:=[a]) (by simp_all) (by simp_all) (.inr (.inr ⟨rfl,rfl,fs,l,λw f=>by rw[z];exact m w f⟩))
  (λw f=>by rw[z];exact((by rw[<-g];exact(e.kn w (by simp_all)).mono O.1:Kn D t4 a w)).up (by grind[Ks]))
 rw[z]at C;generalize Un.end_ t4 3 0 [] st [a]=t5 at*;obtain⟨R,_⟩:=Q.row ops;exact⟨R,C⟩
theorem zdR(t:Dt) (v:Nat) (args:List Nat):Lx t (on t (setArgs t.s v args)):=by
 refine⟨⟨λ_ _ h=>h,λ_ _ _ h=>h,λw x h=>?_,λ_ _ h=>h⟩,by show _<=(t.s.ef.modify v _).length;simp_all⟩;show ∃y,(t.s.ef.modify v λx=>{x with args:=args})[w]? =some y/\y.op=x.op
 grind
theorem Jv(e:p8 D pr nx E t) {v b:Nat} {x:Vl} {args:List Nat} (hv:t.s.ef[v]? =some x) (K:x.op=21) (C:Ow t v b) (h0:b≠0) (hp:args.length=(pr b).length/\∀(j w q:Nat),args[j]? =some w->(pr b)[j]? =some q->Kn D t q w) (L:∀w,w≠v->¬E' w->¬E w) :
  p8 D pr nx E' (on t (setArgs t.s v args))/\Lx t (on t (setArgs t.s v args)):=by
 have d:=zdR t v args;refine⟨?_,d⟩;have g:∀(w:Nat) (y:Vl),(on t (setArgs t.s v args)).s.ef[w]? =some y->(w≠v/\t.s.ef[w]? =some y)\/(w=v/\y = {x with args:=args}):=λw y h=>by
  have h':(t.s.ef.modify v λx=>{x with args:=args})[w]? =some y:=h
  grind
 have i:=(kj.1 hv).1;refine⟨by show t.blocks.flatMap (λB:Bk=>B.ef)++t.s.cur=List.range (t.s.ef.modify v _).length;rw[List.length_modify];exact e.cat,λw y h=>?_,λw y h n=>?_,λc B h=>⟨(e.bk c B h).1,(e.bk c B h).2.1,(e.bk c B h).2.2.mono d.1⟩,λs fs h=>?_,e.pc,e.ne,λw k=>(e.kn w k).mono d.1⟩
 ·rcases g w y h with⟨_,h⟩|⟨rfl,rfl⟩
  ·exact(e.MI w y h).mono d.1 (by grind)
  ·have A:=(e.MI w x hv).mono d.1 i;obtain⟨c,l,_,_,o⟩:=A.own;refine⟨A.op,λh=>?_,λh=>?_,c,l,by simp_all,λh=>?_,o⟩
   ·simp_all
   ·simp_all
   simp_all
 ·rcases g w y h with⟨F,h⟩|⟨rfl,rfl⟩
  ·obtain⟨c,l,p,m⟩:=e.ph w y h n;exact⟨c,l,p,λG=>⟨(m (by simp_all)).1,λj u q r z=>((m (by simp_all)).2 j u q r z).mono d.1⟩⟩
  ·exact⟨b,C,h0,λ_=>⟨hp.1,λj u q r z=>(hp.2 j u q r z).mono d.1⟩⟩
 ·obtain⟨l,p⟩:=e.st s fs h;refine⟨l,λf H=>?_⟩;obtain⟨m,o,I,J⟩:=p f H;exact⟨m,o,λw k=>(I w k).imp λa h=>h.mono d.1,λw k=>(J w k).imp λa h=>h.mono d.1⟩
theorem LV{P:Nat->Nat->Prop} {x y q r:Nat} (a:P q x) (b:P r y):([x,y]:List Nat).length=([q,r]:List Nat).length/\∀(j w p:Nat),([x,y]:List Nat)[j]? =some w->([q,r]:List Nat)[j]? =some p->P p w:=by
 grind
structure Hd (D:Nat->Nat) (t b:Dt) (p f g less a:Nat):Prop where
 lx:Lx t b
 blocks:b.blocks.length=a+2
 kf:Kn D b a f
 kg:Kn D b a g
 kl:Kn D b (a+1) less
 op:Ow b p (a+1)
 oq:Ow b (p+1) (a+1)
 vp:∃x,b.s.ef[p]? =some x/\x.op=21
 vq:∃x,b.s.ef[p+1]? =some x/\x.op=21
 kn:∀w∈b.s.known,Kn D b (a+1) w
end
open Dm
section
variable{D:Nat->Nat}{pr nx:Nat->List Nat}{E E':Nat->Prop}{t:Dt}
set_option maxHeartbeats 2000000 in
theorem zbk (hM:p8 D pr nx E t) (ops:List Int) (n0:nx t.blocks.length=[t.blocks.length+1]) (n1:nx (t.blocks.length+1)=[t.blocks.length+2,t.blocks.length+3]) (n2:nx (t.blocks.length+2)=[t.blocks.length+1])
  (p1:pr (t.blocks.length+1)=[t.blocks.length,t.blocks.length+2]) (p2:pr (t.blocks.length+2)=[t.blocks.length+1]) (p3:pr (t.blocks.length+3)=[t.blocks.length+1])
  (d1:D (t.blocks.length+1)=t.blocks.length) (d2:D (t.blocks.length+2)=t.blocks.length+1) (d3:D (t.blocks.length+3)=t.blocks.length+1) :
  p8 D pr nx E (loop ops t)/\(loop ops t).blocks.length=t.blocks.length+3:=by
 generalize ha:t.blocks.length=a at*;have hf:=Cr ops hM.ne;have br:p8 D pr nx E (on t (fL ops t.s).2):=hM.at_ _;have x0:Lx t (on t (fL ops t.s).2):=(Gw.pos t _).lx;have aJ:(on t (fL ops t.s).2).s.known=t.s.known:=rfl;unfold loop;simp only;rw[ha];generalize bR:(fL ops t.s).1=f at*;generalize (fL ops t.s).2=s0 at*;have e0:{t with s:=s0} = on t s0:=rfl;rw[e0];have V:(on t s0).blocks.length=a:=ha
 obtain ⟨bt,b1⟩:=br.end_ (fin:=1) (cond:=0) (n:=[a+1]) (state:=0) (eQ:=[a,a+2]) (by rw[V,n0]) (by rw[V,p1]) (.inl ⟨rfl,rfl⟩)
  (λw i=>by rw[V];exact((by rw[<-ha];exact(hM.kn w (by rw[<-aJ];exact i)).mono x0.1:Kn D (on t s0) a w)).up (Ks (by omega) d1))
 rw[V]at b1;have x1:=x0.trans (JK (on t s0) 1 0 [a+1] 0 [a,a+2]);have aK:(Un.end_ (on t s0) 1 0 [a+1] 0 [a,a+2]).s.known=t.s.known:=aJ;have aL:(Un.end_ (on t s0) 1 0 [a+1] 0 [a,a+2]).s.cur=[]:=rfl;generalize Un.end_ (on t s0) 1 0 [a+1] 0 [a,a+2]=c at*;generalize hp:c.s.ef.length=p at*;have m1:=bt.weaken (E':=λv=>E v\/v=p\/v=p+1) λv h=> .inl h;obtain⟨m2,y2,_,ah⟩:=Vy m1 (args:=[f,0]) (.inl aL) (by omega) (λh=>absurd (.inr (.inl hp)) h);rw[hp,b1]at ah;have v2:(on c (put c.s (vl 21 0 0 0 [f,0] 0))).s.ef.length=p+1:=by show(c.s.ef++[_]).length=_;simp[hp]
 have aM:∃x,(on c (put c.s (vl 21 0 0 0 [f,0] 0))).s.ef[p]? =some x/\x.op=21:=⟨vl 21 0 0 0 [f,0] 0,by show(c.s.ef++[_])[p]? =_;rw[<-hp];simp,rfl⟩
 have bu:(on c (put c.s (vl 21 0 0 0 [f,0] 0))).s.known=t.s.known:=aK;have ai:(on c (put c.s (vl 21 0 0 0 [f,0] 0))).s.cur=[p]:=by show c.s.cur++[c.s.ef.length]=_;rw[aL,hp];rfl
 have b2:(on c (put c.s (vl 21 0 0 0 [f,0] 0))).blocks.length=a+1:=b1;have x2:=x1.trans y2;have hg:=Cr ops m2.ne;rw[bu]at hg;have eG:fL ops (put c.s (vl 21 0 0 0 [f,0] 0))=fL ops (on c (put c.s (vl 21 0 0 0 [f,0] 0))).s:=rfl;rw[eG];have m3:p8 D pr nx (λv=>E v\/v=p\/v=p+1) (on (on c (put c.s (vl 21 0 0 0 [f,0] 0))) (fL ops (on c (put c.s (vl 21 0 0 0 [f,0] 0))).s).2):=m2.at_ _;have g3:Gw (on c (put c.s (vl 21 0 0 0 [f,0] 0))) (on (on c (put c.s (vl 21 0 0 0 [f,0] 0))) (fL ops (on c (put c.s (vl 21 0 0 0 [f,0] 0))).s).2):=Gw.pos _ _;have v3:(fL ops (on c (put c.s (vl 21 0 0 0 [f,0] 0))).s).2.ef.length=p+1:=v2;have aN:(fL ops (on c (put c.s (vl 21 0 0 0 [f,0] 0))).s).2.known=t.s.known:=aK;have aj:(fL ops (on c (put c.s (vl 21 0 0 0 [f,0] 0))).s).2.cur=[p]:=ai;have ak:∃x,(fL ops (on c (put c.s (vl 21 0 0 0 [f,0] 0))).s).2.ef[p]? =some x/\x.op=21:=aM;generalize (fL ops (on c (put c.s (vl 21 0 0 0 [f,0] 0))).s).1=g at*;generalize (fL ops (on c (put c.s (vl 21 0 0 0 [f,0] 0))).s).2=j at*;have x3:Lx t (on c j):=x2.trans g3.lx;have aO:Ow (on c j) p (a+1):=g3.le.ow _ _ ah;have m3:p8 D pr nx (λv=>E v\/v=p\/v=p+1) (on c j):=m3;have b3:(on c j).blocks.length=a+1:=b1;obtain⟨m4,y4,al,am⟩:=Vy m3 (args:=[g,p]) (.inr λw i=>by
  have M:w∈j.cur:=i;rw[aj]at M;simp at M;subst M;obtain⟨x,H,I⟩:=ak;exact⟨x,H,by rw[I];rfl⟩) (by omega) (λh=>absurd (.inr (.inr v3)) h)
 have bw:(on c j).s.ef.length=p+1:=v3;rw[bw,b3]at al am;have x4:=x3.trans y4;have an:=y4.1.ow _ _ aO;have ao:∃x,(on (on c j) (put (on c j).s (vl 21 0 0 0 [g,p] 0))).s.ef[p]? =some x/\x.op=21:=by
  obtain⟨x,H,I⟩:=ak;obtain⟨y,W,X⟩:=y4.1.val p x H;exact⟨y,W,by rw[X,I]⟩
 have aP:∃x,(on (on c j) (put (on c j).s (vl 21 0 0 0 [g,p] 0))).s.ef[p+1]? =some x/\x.op=21:=⟨vl 21 0 0 0 [g,p] 0,by show(j.ef++[_])[p+1]? =_;rw[<-v3];simp,rfl⟩
 have aQ:Kn D (on (on c j) (put (on c j).s (vl 21 0 0 0 [g,p] 0))) (a+1) p:=by
  obtain⟨x,H,I⟩:=ao;exact⟨_,x,an,.refl _,H,by rw[I];rfl⟩
 have m5:=m4.SX (l:=t.s.known++[p,p+1]) (λw i=>by
  rcases JT.1 i with i|i
  ·exact m4.kn w (by show w∈j.known;rw[aN];exact i)
  ·have b4:(on (on c j) (put (on c j).s (vl 21 0 0 0 [g,p] 0))).blocks.length=a+1:=b1;rw[b4];simp at i;rcases i with rfl|rfl
   ·exact aQ
   ·exact al) (by simp)
 have e5:{put j (vl 21 0 0 0 [g,p] 0)with known:=(put j (vl 21 0 0 0 [g,p] 0)).known++[p,p+1]} = {put j (vl 21 0 0 0 [g,p] 0)with known:=t.s.known++[p,p+1]}:=by
  have:(put j (vl 21 0 0 0 [g,p] 0)).known=t.s.known:=aN;rw[this]
 rw[e5];have m5:p8 D pr nx (λv=>E v\/v=p\/v=p+1) (on c {put j (vl 21 0 0 0 [g,p] 0)with known:=t.s.known++[p,p+1]}):=m5;have x5:Lx t (on c {put j (vl 21 0 0 0 [g,p] 0)with known:=t.s.known++[p,p+1]}):=⟨⟨x4.1.ow,x4.1.back,x4.1.val,x4.1.st⟩,x4.2⟩
 have aR:Ow (on c {put j (vl 21 0 0 0 [g,p] 0)with known:=t.s.known++[p,p+1]}) p (a+1):=an;have aS:Ow (on c {put j (vl 21 0 0 0 [g,p] 0)with known:=t.s.known++[p,p+1]}) (p+1) (a+1):=am;have aT:∃x,(on c {put j (vl 21 0 0 0 [g,p] 0)with known:=t.s.known++[p,p+1]}).s.ef[p]? =some x/\x.op=21:=ao;have aU:∃x,(on c {put j (vl 21 0 0 0 [g,p] 0)with known:=t.s.known++[p,p+1]}).s.ef[p+1]? =some x/\x.op=21:=aP;have bx:(on c {put j (vl 21 0 0 0 [g,p] 0)with known:=t.s.known++[p,p+1]}).s.known=t.s.known++[p,p+1]:=rfl;clear m4 y4 x4 an am ao aP al aQ m3 m2 y2 g3 ah aO aM ak e5;generalize bS:({put j (vl 21 0 0 0 [g,p] 0)with known:=t.s.known++[p,p+1]}:Ds)=G at*;obtain⟨m6,g6,aV,_,_,fs,h5,h6⟩:=m5.state ops;have eS:fH ops G=fH ops (on c G).s:=rfl;rw[eS];obtain⟨m7,g7,_⟩:=m6.UQ (x:=vl 23 0 0 0 [] (fH ops (on c G).s).1) (by simp only[vl];omega) (λh=>by simp only[vl]at h;omega) (λw i=>by simp[iP,vl,two,nW]at i) (λ_=>⟨fs,h5,λw i=>by show w∈(fH ops (on c G).s).2.known;rw[aV];exact h6 w i⟩);have Y:=g6.trans g7;have m7:p8 D pr nx (λv=>E v\/v=p\/v=p+1) (on c (put (fH ops (on c G).s).2 (vl 23 0 0 0 [] (fH ops (on c G).s).1))):=m7;have Y:Gw (on c G) (on c (put (fH ops (on c G).s).2 (vl 23 0 0 0 [] (fH ops (on c G).s).1))):=Y;have bz:(put (fH ops (on c G).s).2 (vl 23 0 0 0 [] (fH ops (on c G).s).1)).known=t.s.known++[p,p+1]:=by show(fH ops (on c G).s).2.known=_;rw[aV];exact bx
 generalize put (fH ops (on c G).s).2 (vl 23 0 0 0 [] (fH ops (on c G).s).1)=N at*;obtain⟨m8,g8,o⟩:=m7.UQ (x:=vl 2 0 0 1 [] 0) (by simp only[vl];omega) (λh=>by simp only[vl]at h;omega) (λw i=>by simp[iP,vl,two,nW]at i) (λh=>by simp[vl,leaves]at h);have b8:(on c N).blocks.length=a+1:=b1;have o:=o rfl;rw[b8]at o;have m8:p8 D pr nx (λv=>E v\/v=p\/v=p+1) (on c (put N (vl 2 0 0 1 [] 0))):=m8;have g8:Gw (on c N) (on c (put N (vl 2 0 0 1 [] 0))):=g8;have o:Kn D (on c (put N (vl 2 0 0 1 [] 0))) (a+1) N.ef.length:=o;have v8:(put N (vl 2 0 0 1 [] 0)).ef.length=N.ef.length+1:=by simp[put]
 have aW:(put N (vl 2 0 0 1 [] 0)).known=t.s.known++[p,p+1]:=bz;generalize bQ:N.ef.length=one at*;generalize put N (vl 2 0 0 1 [] 0)=A at*;have b8:(on c A).blocks.length=a+1:=b1;have ap:p∈(on c A).s.known:=by show p∈A.known;rw[aW];simp
 obtain ⟨m9,k⟩:=m8.put (x:=vl 4 p one 0 [] 0) (by simp[vl]) (λh=>by simp[vl]at h) (λh=>by simp[vl]at h) (λ_ w i=>by
  have M:w=p\/w=one:=by simpa[iP,vl,two]using i
  rcases M with rfl|rfl
  ·exact m8.kn _ ap
  ·rw[b8];exact o) (λh=>by simp[vl,leaves]at h) (λh=>by simp[vl,ir]at h) (λh=>by simp[vl]at h)
 have y9:Lx (on c A) (Vq (on c A) (vl 4 p one 0 [] 0)):=⟨Rt _ _,by show _<=(A.ef++[_]).length;simp[on]⟩
 have k:=k rfl;have O:=m9.SX (l:=A.known++[A.ef.length]) (λw i=>by
  rcases JT.1 i with i|i
  ·exact m9.kn w i
  ·simp at i;subst i;exact k) (by simp)
 have O:p8 D pr nx (λv=>E v\/v=p\/v=p+1) (on c (jh A (vl 4 p one 0 [] 0))):=O;have k:Kn D (on c (jh A (vl 4 p one 0 [] 0))) (a+1) (one+1):=by
  rw[<-v8,<-b8];exact k
 have y9:Lx (on c A) (on c (jh A (vl 4 p one 0 [] 0))):=⟨⟨y9.1.ow,y9.1.back,y9.1.val,y9.1.st⟩,y9.2⟩
 have aX:(jh A (vl 4 p one 0 [] 0)).known=t.s.known++[p,p+1]++[A.ef.length]:=by show A.known++_=_;rw[aW]
 have Q:=((Y.lx.trans g8.lx).trans y9)
 have bA:=x5.trans Q;generalize jh A (vl 4 p one 0 [] 0)=d at*;have aY:=Q.1.ow _ _ aR;have aZ:=Q.1.ow _ _ aS;have a4:∃x,(on c d).s.ef[p]? =some x/\x.op=21:=by
  obtain⟨x,H,I⟩:=aT;obtain⟨y,W,X⟩:=Q.1.val p x H;exact⟨y,W,by rw[X,I]⟩
 have a5:∃x,(on c d).s.ef[p+1]? =some x/\x.op=21:=by
  obtain⟨x,H,I⟩:=aU;obtain⟨y,W,X⟩:=Q.1.val (p+1) x H;exact⟨y,W,by rw[X,I]⟩
 clear m9 m8 m7 m6 m5 Y g6 g7 g8 y9 o h5 h6 x5 aR aS aT aU;have Nj:{c with s:=d} = on c d:=rfl;rw[Nj];have J:(on c d).blocks.length=a+1:=b1;have R:∀w∈d.known,Kn D (on c d) (a+1) w:=λw i=>by rw[<-J];exact O.kn w i
 have ap:p∈d.known:=by rw[aX];simp
 obtain ⟨bC,aq⟩:=O.end_ (fin:=2) (cond:=p) (n:=[a+2,a+3]) (state:=0) (eQ:=[a+1]) (by rw[J,n1]) (by rw[J];exact p2.symm) (.inr (.inl ⟨rfl,rfl,by rw[J];exact R p ap⟩))
  (λw i=>by rw[J];exact(R w i).up (Ks (by omega) d2))
 rw[J]at aq;have bD:=JK (on c d) 2 p [a+2,a+3] 0 [a+1];have a6:(Un.end_ (on c d) 2 p [a+2,a+3] 0 [a+1]).s.known=d.known:=rfl;generalize Un.end_ (on c d) 2 p [a+2,a+3] 0 [a+1]=e at*;obtain⟨ar,au⟩:=bC.row ops;have B:=bD.trans au.lx;have a7:=bA.trans B;have bE:(on e (row ops e.s)).blocks.length=a+2:=by rw[au.blocks];exact aq
 have kz:=ar.kn _ (Ke ar.ne);rw[bE]at kz;obtain⟨K,aa⟩:=au.known;rw[a6]at aa;have kz:Kn D (on e (row ops e.s)) (a+2) ((row ops e.s).known.getLastD 0):=kz;have ab:=B.1.ow _ _ aY;have a8:=B.1.ow _ _ aZ;have a9:∃x,(on e (row ops e.s)).s.ef[p]? =some x/\x.op=21:=by
  obtain⟨x,H,I⟩:=a4;obtain⟨y,W,X⟩:=B.1.val p x H;exact⟨y,W,by rw[X,I]⟩
 have ba:∃x,(on e (row ops e.s)).s.ef[p+1]? =some x/\x.op=21:=by
  obtain⟨x,H,I⟩:=a5;obtain⟨y,W,X⟩:=B.1.val (p+1) x H;exact⟨y,W,by rw[X,I]⟩
 have S:=(k.mono B.1).up (Ks (D:=D) (a:=a+1) (b:=a+2) (by omega) d2);have bb:∀w∈d.known,Kn D (on e (row ops e.s)) (a+1) w:=λw i=>(R w i).mono B.1;have ac:Kn D (on e (row ops e.s)) a f:=by rw[<-ha];exact(hM.kn f hf).mono a7.1
 have bc:Kn D (on e (row ops e.s)) a g:=by rw[<-ha];exact(hM.kn g hg).mono a7.1
 have aw:(row ops e.s).known=d.known++K:=aa;generalize (row ops e.s).known.getLastD 0=z at*;generalize row ops e.s=r at*;obtain⟨xp,bd,ae⟩:=a9;obtain⟨ax,ay⟩:=Jv (E':=λv=>E v\/v=p+1) ar bd ae ab (by omega) (args:=[f,one+1]) (by rw[p1];exact LV (P:=λq w=>Kn D (on e r) q w) ac S) (λw aA hE=>by
  rintro(h|h|h)
  ·exact hE (.inl h)
  ·exact aA h
  ·exact hE (.inr h))
 have ax:p8 D pr nx (λv=>E v\/v=p+1) (on e (setArgs r p [f,one+1])):=ax;have ay:Lx (on e r) (on e (setArgs r p [f,one+1])):=ay;have be:(setArgs r p [f,one+1]).known=d.known++K:=aw;generalize setArgs r p [f,one+1]=C at*;have bf:p8 D pr nx (λv=>E v\/v=p+1) (on e (num ops C 3).2):=ax.at_ _;have L:Lx (on e r) (on e (num ops C 3).2):=ay.trans (Gw.pos (on e C) (draw ops C.pos 3).2).lx;have ag:(num ops C 3).2.known=d.known++K:=be;generalize (num ops C 3).1=dd at*;generalize (num ops C 3).2=aB at*;have aC:∃u,(if dd=0 then setArgs aB p [f,z] else aB)=u/\p8 D pr nx (λv=>E v\/v=p+1) (on e u)/\Lx (on e r) (on e u)/\u.known=d.known++K:=by
  by_cases hd:dd=0
  ·rw[if_pos hd];obtain⟨bU,bg,aD⟩:=L.1.val p xp bd;obtain⟨m,y⟩:=Jv (E':=λv=>E v\/v=p+1) bf bg (by rw[aD,ae]) (L.1.ow _ _ ab) (by omega) (args:=[f,z]) (by rw[p1];exact LV (P:=λq w=>Kn D (on e aB) q w) (ac.mono L.1) (kz.mono L.1)) (λw _ hE=>hE);exact⟨_,rfl,m,L.trans y,ag⟩
  ·rw[if_neg hd];exact⟨_,rfl,bf,L,ag⟩
 obtain ⟨u,bG,bH,T,bh⟩:=aC;rw[bG];obtain⟨xq,bI,bi⟩:=ba;obtain⟨bV,bj,aE⟩:=T.1.val (p+1) xq bI;obtain⟨aF,aG⟩:=Jv (E':=E) bH bj (by rw[aE,bi]) (T.1.ow _ _ a8) (by omega) (args:=[g,z]) (by rw[p1];exact LV (P:=λq w=>Kn D (on e u) q w) (bc.mono T.1) (kz.mono T.1)) (λw aA hE=>by
  rintro(h|h)
  ·exact hE h
  ·exact aA h)
 have aF:p8 D pr nx E (on e (setArgs u (p+1) [g,z])):=aF;have aG:Lx (on e r) (on e (setArgs u (p+1) [g,z])):=T.trans aG;have bm:(setArgs u (p+1) [g,z]).known=d.known++K:=bh;generalize setArgs u (p+1) [g,z]=F at*;obtain⟨aH,U,aI⟩:=aF.cut O.ne ⟨K,bm⟩;have aH:p8 D pr nx E (on e (Un.cut d.known.length F)):=aH;have aI:Lx (on e r) (on e (Un.cut d.known.length F)):=aG.trans aI;have U:(on e (Un.cut d.known.length F)).s.known=d.known:=U;have bJ:{e with s:=Un.cut d.known.length F} = on e (Un.cut d.known.length F):=rfl;rw[bJ];have Z:(on e (Un.cut d.known.length F)).blocks.length=a+2:=aq;generalize on e (Un.cut d.known.length F)=t3 at*
 obtain ⟨bK,bo⟩:=aH.end_ (fin:=1) (cond:=0) (n:=[a+1]) (state:=0) (eQ:=[a+1]) (by rw[Z,n2]) (by rw[Z];exact p3.symm) (.inl ⟨rfl,rfl⟩)
  (λw i=>by rw[Z];rw[U]at i;exact((bb w i).mono aI.1).up (Ks (by omega) d3))
 rw[Z]at bo;generalize Un.end_ t3 1 0 [a+1] 0 [a+1]=t4 at*;obtain⟨bL,_⟩:=bK.row ops;exact⟨bL,bo⟩
end
