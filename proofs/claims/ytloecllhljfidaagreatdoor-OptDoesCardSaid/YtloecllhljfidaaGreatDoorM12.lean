/- Parts. -/
import Derived.Test.YtloecllhljfidaaGreatDoorM11
set_option maxHeartbeats 4000000
namespace Go.Proofs.YtloecllhljfidaaGreatDoor.Un
open Dm
variable{t t':Dt}{w:Nat}
def Ow(t:Dt)(v b:Nat):Prop:=(∃B,t.blocks[b]? =some B/\v∈B.ej)\/(b=t.blocks.length/\v∈t.s.cur)
def Kn(D:Nat->Nat)(t:Dt)(a w:Nat):Prop:=∃b x,Ow t w b/\qD D b a/\t.s.ej[w]? =some x/\Jk x.op=true
structure Le (t t':Dt):Prop where
 ow:∀w b,Ow t w b->Ow t' w b
 back:∀w b,w<t.s.ej.length->Ow t' w b->Ow t w b
 val:∀(w:Nat) x,t.s.ej[w]? =some x->∃y,t'.s.ej[w]? =some y/\y.op=x.op
 st:∀(s:Nat) fs,t.s.eo[s]? =some fs->t'.s.eo[s]? =some fs
theorem Le.refl(t:Dt):Le t t:=⟨by simp_all,by simp_all,by simp_all,by simp_all⟩
theorem Kn.mono{D:Nat->Nat}  {a:Nat} (h:Kn D t a w) (c:Le t t'):Kn D t' a w:=by
 let⟨b,x,d,e,f,i⟩:=h
 let⟨y,g,j⟩:=c.val w x f
 exact⟨b,y,c.ow w b d,e,g,by simp_all⟩
theorem Kn.up{D:Nat->Nat}  {a a':Nat} (h:Kn D t a w) (c:qD D a a'):Kn D t a' w:=by
 let⟨b,x,d,e,f⟩:=h
 exact⟨b,x,d,e.trans c,f⟩
theorem Kn.lt{D:Nat->Nat}  {a:Nat} (h:Kn D t a w):w<t.s.ej.length:=by
 let⟨b,x,_,_,c,_⟩:=h
 grind
structure Vok (D:Nat->Nat) (t:Dt) (v:Nat) (x:Vl):Prop where
 op:1<=x.op/\x.op<=23
 putAt:x.op=20->x.args.length=1
 par:x.op=1->Ow t v 0/\x.n=(v:Nat)/\v<5
 own:∃b,Ow t v b/\(x.op≠21->∀w∈gG x,w<v/\Kn D t b w)/\(leaves x.op=true->∃fs,t.s.eo[x.state]? =some fs/\∀w∈gL fs,w<v/\Kn D t b w)/\
  (hZ x.op=true->∀w,Ow t w b->w<v->∃y,t.s.ej[w]? =some y/\hZ y.op=true)
theorem Vok.mono{D:Nat->Nat}  {v:Nat} {x:Vl} (h:Vok D t v x) (a:Le t t') (hv:v<t.s.ej.length):Vok D t' v x:=by
 let⟨b,d,i,j,k⟩:=h.own
 refine⟨h.op,h.putAt,λd=>⟨a.ow _ _ (h.par d).1,(h.par d).2⟩,b,a.ow _ _ d,λl w c=>⟨by simp_all,(i l w c).2.mono a⟩,λm=>?_,λn w c e=>?_⟩
 ·let⟨fs,f,g⟩:=j m
  exact⟨fs,a.st _ _ f,λw c=>⟨by simp_all,(g w c).2.mono a⟩⟩
 ·let⟨y,f,g⟩:=k n w (a.back w b (by omega) c) e
  let⟨z,o,p⟩:=a.val w y f
  simp_all
def zef(D:Nat->Nat)(t:Dt)(a:List Nat)(x:Vl):Prop:=x.args.length=a.length/\∀(j w q:Nat),x.args[j]? =some w->a[j]? =some q->Kn D t q w
def Fin(D:Nat->Nat)(t:Dt)(b:Nat)(B:Bk):Prop:=(B.fin=1/\B.next.length=1)\/(B.fin=2/\B.next.length=2/\Kn D t b B.cond)\/(B.fin=3/\B.next=[]/\∃fs,t.s.eo[B.state]? =some fs/\∀w∈gL fs,Kn D t b w)
theorem Fin.mono{D:Nat->Nat}  {b:Nat} {B:Bk} (h:Fin D t b B) (a:Le t t'):Fin D t' b B:=by
 rcases h with h|⟨c,d,e⟩|⟨c,d,fs,e,f⟩
 ·exact .inl h
 ·exact .inr (.inl ⟨c,d,e.mono a⟩)
 ·exact .inr (.inr ⟨c,d,fs,a.st _ _ e,λw g=>(f w g).mono a⟩)
structure p8 (D:Nat->Nat) (pr nx:Nat->List Nat) (E:Nat->Prop) (t:Dt):Prop where
 cat:t.blocks.flatMap (·.ej)++t.s.cur=List.range t.s.ej.length
 MP:∀v x,t.s.ej[v]? =some x->Vok D t v x
 ph:∀v x,t.s.ej[v]? =some x->x.op=21->∃b,Ow t v b/\b≠0/\(¬E v->zef D t (pr b) x)
 bk:∀b B,t.blocks[b]? =some B->B.next=nx b/\B.fh=pr b/\Fin D t b B
 st:∀(s:Nat) fs,t.s.eo[s]? =some fs->fs.length=1/\∀f∈fs,f.locals.length<=3/\f.stack.length=1/\(∀w∈f.locals,∃a,Kn D t a w)/\∀w∈f.stack,∃a,Kn D t a w
 pc:t.fh=pr t.blocks.length
 ne:t.s.known≠[]
 kn:∀w∈t.s.known,Kn D t t.blocks.length w
section
variable{D:Nat->Nat}{pr nx:Nat->List Nat}{E:Nat->Prop}{t:Dt}
def VN(t:Dt)(x:Vl):Dt:={t with s:=put t.s x}
theorem RH(t:Dt) (x:Vl):Le t (VN t x) where
 ow w b h:=by
  rcases h with h|⟨a,c⟩
  ·exact .inl h
  ·exact .inr ⟨a,by show w∈t.s.cur++_;simp_all⟩
 back w b hw h:=by
  rcases h with h|⟨a,c⟩
  ·exact .inl h
  ·refine .inr ⟨a,?_⟩;have d:w∈t.s.cur++[t.s.ej.length]:=c
   grind
 val w y h:=⟨y,by show(t.s.ej++[x])[w]? =some y;grind,rfl⟩
 st s fs h:=h
theorem p8.put(i:p8 D pr nx E t) {x:Vl} (J:1<=x.op/\x.op<=23) (z:x.op=20->x.args.length=1) (G:x.op=1->t.blocks.length=0/\x.n=(t.s.ej.length:Nat)/\t.s.ej.length<5)
  (H:x.op≠21->∀w∈gG x,Kn D t t.blocks.length w) (K:leaves x.op=true->∃fs,t.s.eo[x.state]? =some fs/\∀w∈gL fs,Kn D t t.blocks.length w)
  (S:hZ x.op=true->∀w∈t.s.cur,∃y,t.s.ej[w]? =some y/\hZ y.op=true) (A:x.op=21->t.blocks.length≠0/\(¬E t.s.ej.length->zef D t (pr t.blocks.length) x)) :
  p8 D pr nx E (VN t x)/\(Jk x.op=true->Kn D (VN t x) t.blocks.length t.s.ej.length):=by
 have c:=RH t x;have e:Ow (VN t x) t.s.ej.length t.blocks.length:= .inr ⟨rfl,by show t.s.ej.length∈t.s.cur++[t.s.ej.length];simp⟩;have o:(VN t x).s.ej[t.s.ej.length]? =some x:=by show(t.s.ej++[x])[t.s.ej.length]? =some x;simp
 have g:∀v y,(VN t x).s.ej[v]? =some y->t.s.ej[v]? =some y\/v=t.s.ej.length/\y=x:=λv y h=>by
  have h':(t.s.ej++[x])[v]? =some y:=h
  grind
 refine⟨⟨?_,λv y h=>?_,λv y h p=>?_,λb B h=>⟨(i.bk b B h).1,(i.bk b B h).2.1,(i.bk b B h).2.2.mono c⟩,λs fs h=>?_,i.pc,i.ne,λw d=>(i.kn w d).mono c⟩,λL=>⟨_,x,e,.refl _,o,L⟩⟩
 ·show t.blocks.flatMap (·.ej)++(t.s.cur++[t.s.ej.length])=List.range (t.s.ej++[x]).length;rw[<-Pr,i.cat,Lw,wBo,YN]
 ·rcases g v y h with h|⟨rfl,rfl⟩
  ·exact(i.MP v y h).mono c (by grind)
  ·refine ⟨J,z,λl=>?_,t.blocks.length,e,λI w d=>⟨(H I w d).lt,(H I w d).mono c⟩,λl=>?_,λl w d C=>?_⟩
   ·simp_all
   ·let⟨fs,m,k⟩:=K l
    exact⟨fs,m,λw d=>⟨(k w d).lt,(k w d).mono c⟩⟩
   ·have M:=c.back w _ C d;rcases M with⟨B,N,_⟩|⟨_,N⟩
    ·simp_all
    grind
 ·rcases g v y h with h|⟨rfl,rfl⟩
  ·let⟨b,m,k,u⟩:=i.ph v y h p
   refine⟨b,c.ow _ _ m,k,λr=>⟨(u r).1,λj w q l F=>((u r).2 j w q l F).mono c⟩⟩
  ·let⟨m,k⟩:=A p
   exact⟨_,e,m,λr=>⟨(k r).1,λj w q l F=>((k r).2 j w q l F).mono c⟩⟩
 ·let⟨m,k⟩:=i.st s fs h
  refine⟨m,λf O=>?_⟩
  let⟨u,P,Q,R⟩:=k f O
  exact⟨u,P,λw d=>(Q w d).imp λa h=>h.mono c,λw d=>(R w d).imp λa h=>h.mono c⟩
theorem p8.TH(a:p8 D pr nx E t) {l:List Nat} (c:∀w∈l,Kn D t t.blocks.length w) (b:l≠[]):p8 D pr nx E {t with s:={t.s with known:=l} }:=
 ⟨a.cat,λv x h=>⟨(a.MP v x h).op,(a.MP v x h).putAt,(a.MP v x h).par,(a.MP v x h).own⟩,a.ph,a.bk,a.st,a.pc,b,c⟩
theorem p8.at_(a:p8 D pr nx E t) (p:Nat):p8 D pr nx E {t with s:={t.s with pos:=p} }:=
 ⟨a.cat,λv x h=>⟨(a.MP v x h).op,(a.MP v x h).putAt,(a.MP v x h).par,(a.MP v x h).own⟩,a.ph,a.bk,a.st,a.pc,a.ne,a.kn⟩
end
def on(t:Dt)(s:Ds):Dt:={t with s:=s}
structure Gw (t t':Dt):Prop where
 blocks:t'.blocks=t.blocks
 fh:t'.fh=t.fh
 known:∃k,t'.s.known=t.s.known++k
 ej:∃e,t'.s.ej=t.s.ej++e
 le:Le t t'
theorem Le.trans{a:Dt} (c:Le t t') (d:Le t' a) (f:t.s.ej.length<=t'.s.ej.length):Le t a where
 ow w b h:=d.ow w b (c.ow w b h)
 back w b hw h:=c.back w b hw (d.back w b (by omega) h)
 val w x h:=by
  let⟨y,e,g⟩:=c.val w x h
  let⟨z,i,j⟩:=d.val w y e
  simp_all
 st s fs h:=d.st s fs (c.st s fs h)
theorem Gw.refl(t:Dt):Gw t t:=⟨rfl,rfl,by simp_all,by simp_all,.refl t⟩
theorem Gw.len (h:Gw t t'):t.s.ej.length<=t'.s.ej.length:=by
 let⟨e,he⟩:=h.ej
 simp_all
theorem Gw.trans{b:Dt} (a:Gw t t') (c:Gw t' b):Gw t b:=by
 let⟨k,hk⟩:=a.known
 let⟨k',hk'⟩:=c.known
 let⟨e,he⟩:=a.ej
 let⟨e',he'⟩:=c.ej
 exact⟨c.blocks.trans a.blocks,c.fh.trans a.fh,by simp_all,by simp_all,a.le.trans c.le a.len⟩
theorem Gw.pos(t:Dt)(p:Nat):Gw t (on t {t.s with pos:=p}):=⟨rfl,rfl,⟨[],(Lg _).symm⟩,⟨[],(Lg _).symm⟩,⟨λ_ _ h=>h,λ_ _ _ h=>h,λ_ x h=>⟨x,h,rfl⟩,λ_ _ h=>h⟩⟩
theorem zap{l:List Nat} {i:Nat} (h:i<l.length):l.getD i 0∈l:=by
 simp_all
theorem B8(ops:List Int){s:Ds}(h:s.known≠[]):(fQ ops s).1∈s.known:=zap (yS ops s.pos (List.length_pos_iff.2 h))
theorem Ks{l:List Nat} (h:l≠[]):l.getLastD 0∈l:=by
 cases l <;> grind
theorem PY(ops:List Int):∀i s l,s.known≠[]->(∃p,(some_ ops i s l).2 = {s with pos:=p})/\(some_ ops i s l).1.length=l.length+i/\∀w∈(some_ ops i s l).1,w∈l\/w∈s.known
 |0,s,l,_=>⟨⟨s.pos,rfl⟩,rfl,λw h=> .inl h⟩
 | i+1,s,l,h=>by
   let⟨⟨p,b⟩,d,a⟩:=PY ops i (fQ ops s).2 (l++[(fQ ops s).1]) h
   refine⟨⟨p,b⟩,by grind[some_],λw c=>?_⟩;rcases a w c with a|a
   ·grind[B8]
   ·exact .inr a
section
variable{D:Nat->Nat}{pr nx:Nat->List Nat}{E:Nat->Prop}{t:Dt}
theorem p8.le1(t:Dt) (fs:List Fm) (p:Nat):Le t (on t {t.s with eo:=t.s.eo++[fs],pos:=p}):=
 ⟨λ_ _ h=>h,λ_ _ _ h=>h,λ_ x h=>⟨x,h,rfl⟩,λs g h=>by show(t.s.eo++[fs])[s]? =some g;grind⟩
theorem p8.state(d:p8 D pr nx E t) (ops:List Int):p8 D pr nx E (on t (fN ops t.s).2)/\Gw t (on t (fN ops t.s).2)/\(fN ops t.s).2.known=t.s.known/\(fN ops t.s).2.ej=t.s.ej/\(fN ops t.s).2.cur=t.s.cur/\
  ∃fs,(fN ops t.s).2.eo[(fN ops t.s).1]? =some fs/\∀w∈gL fs,w∈t.s.known:=by
 let⟨⟨p,y⟩,K,z⟩:=PY ops (num ops t.s 4).1 (num ops t.s 4).2 [] d.ne
 have L:(num ops t.s 4).1<4:=yS _ _ (by omega);have hs:(fN ops t.s).2 = {t.s with eo:=t.s.eo++[[⟨1,(t.s.eo.length:Nat),(some_ ops (num ops t.s 4).1 (num ops t.s 4).2 []).1,[t.s.known.getLastD 0]⟩]],pos:=p}:=by
  unfold fN;simp only;rw[y];rfl
 rw[hs];generalize (some_ ops (num ops t.s 4).1 (num ops t.s 4).2 []).1=l at*;have c:=p8.le1 t [⟨1,(t.s.eo.length:Nat),l,[t.s.known.getLastD 0]⟩] p;have A:∀w∈l,w∈t.s.known:=λw e=>(z w e).elim (by simp_all) id;have k:=Ks d.ne
 refine ⟨⟨d.cat,λv x h=>(d.MP v x h).mono c (jo.1 h).1,λv x h C=>?_,λb B h=>⟨(d.bk b B h).1,(d.bk b B h).2.1,(d.bk b B h).2.2.mono c⟩,λs fs h=>?_,d.pc,d.ne,λw e=>(d.kn w e).mono c⟩,
  ⟨rfl,rfl,⟨[],(Lg _).symm⟩,⟨[],(Lg _).symm⟩,c⟩,rfl,rfl,rfl,[⟨1,(t.s.eo.length:Nat),l,[t.s.known.getLastD 0]⟩],wBR,λw e=>?_⟩
 ·let⟨b,m,n,g⟩:=d.ph v x h C
  exact⟨b,c.ow _ _ m,n,λr=>⟨(g r).1,λj w q F G=>((g r).2 j w q F G).mono c⟩⟩
 ·have h':(t.s.eo++[[⟨1,(t.s.eo.length:Nat),l,[t.s.known.getLastD 0]⟩]])[s]? =some fs:=h;by_cases Nr:s<t.s.eo.length
  ·rw[VU Nr]at h'
   let⟨m,n⟩:=d.st s fs h'
   refine⟨m,λf i=>?_⟩
   let⟨g,H,I,J⟩:=n f i
   exact⟨g,H,λw e=>(I w e).imp λa h=>h.mono c,λw e=>(J w e).imp λa h=>h.mono c⟩
  ·rw[wAy (by omega)]at h';have u:=zD h';simp at u;subst u;refine⟨rfl,λf i=>?_⟩;simp at i;subst i;refine⟨by grind,rfl,λw e=>⟨_,(d.kn w (A w e)).mono c⟩,λw e=>?_⟩;have o:w=t.s.known.getLastD 0:=by simpa using e
   subst o;exact⟨_,(d.kn _ k).mono c⟩
 ·simp[gL,List.flatMap_cons]at e
  grind
theorem p8.VQ(a:p8 D pr nx E t) {x:Vl} (l:2<=x.op/\x.op<=23/\x.op≠21) (b:x.op=20->x.args.length=1) (d:∀w∈gG x,w∈t.s.known) (e:leaves x.op=true->∃fs,t.s.eo[x.state]? =some fs/\∀w∈gL fs,w∈t.s.known) :
  p8 D pr nx E (on t (Un.put t.s x))/\Gw t (on t (Un.put t.s x))/\(Jk x.op=true->Kn D (on t (Un.put t.s x)) t.blocks.length t.s.ej.length):=by
 have f:hZ x.op=true->False:=by grind[hZ]
 let⟨g,i⟩:=a.put (by omega) b (by omega) (λ_ w c=>a.kn w (d w c)) (λh=>by let⟨fs,j,k⟩:=e h;exact⟨fs,j,λw c=>a.kn w (k w c)⟩) (by simp_all) (by omega)
 exact⟨g,⟨rfl,rfl,⟨[],(Lg _).symm⟩,⟨[x],rfl⟩,RH t x⟩,i⟩
theorem p8.SD(c:p8 D pr nx E t) {x:Vl} (h:2<=x.op/\x.op<19) (d:∀w∈gG x,w∈t.s.known):p8 D pr nx E (on t (iO t.s x))/\Gw t (on t (iO t.s x)):=by
 let⟨e,b,f⟩:=c.VQ (by omega) (by omega) d (by grind[leaves])
 have hk:=f (by simp[Jk];omega);have g:=e.TH (l:=t.s.known++[t.s.ej.length]) (λw a=>by
  rcases EG.1 a with a|a
  ·exact(c.kn w a).mono b.le
  ·simp at a;subst a;exact hk) (by simp)
 exact⟨g,⟨rfl,rfl,⟨[t.s.ej.length],rfl⟩,⟨[x],rfl⟩,⟨b.le.ow,b.le.back,b.le.val,b.le.st⟩⟩⟩
end
theorem SG(x:Vl):∀w∈gG x,w=x.a\/w=x.b\/w∈x.args:=by
 grind[gG,wBt]
section
variable{D:Nat->Nat}{pr nx:Nat->List Nat}{E:Nat->Prop}{t:Dt}
theorem p8.kind(o:p8 D pr nx E t) (ops:List Int) {k a b:Nat} (q:a∈t.s.known) (hb:b∈t.s.known):p8 D pr nx E (on t (tp ops t.s k a b))/\Gw t (on t (tp ops t.s k a b)):=by
 have p:∀x,x.a=a->x.b=b->x.args=[]->∀w∈gG x,w∈t.s.known:=λx c d f w g=>by
  rcases SG x w g with h|h|h
  ·simp_all
  ·simp_all
  simp_all
 have i:∀m,p8 D pr nx E (on t (num ops t.s m).2)/\Gw t (on t (num ops t.s m).2):=λm=>⟨o.at_ _,Gw.pos t _⟩
 have l:∀op n,ml op=true->two op=false->op≠20->op≠21->∀w∈gG (vl op a 0 n [] 0),w=a:=by grind[gG,vl]
 unfold tp;split
 ·rename_i hk;exact o.SD (by grind[vl]) (p _ rfl rfl rfl)
 split
 ·let⟨c,d⟩:=i 1048576
  let⟨f,j⟩:=c.SD (x:=vl 2 0 0 (((num ops t.s 1048576).1:Int)-9) [] 0) (by grind[vl]) (by grind[gG,vl,two,ml])
  exact⟨f,d.trans j⟩
 split
 ·let⟨c,d⟩:=i 5
  let⟨f,j⟩:=c.SD (x:=vl 17 a 0 ((num ops t.s 5).1:Nat) [] 0) (by grind[vl]) (λw g=>by rw[l 17 _ rfl rfl (by omega) (by omega) w g];exact q)
  exact⟨f,d.trans j⟩
 split
 ·exact o.SD (by grind[vl]) (p _ rfl rfl rfl)
 split
 ·let⟨c,d⟩:=i 5
  let⟨f,j,_⟩:=c.VQ (x:=vl 19 a b ((num ops t.s 5).1:Nat) [] 0) (by grind[vl]) (by grind[vl]) (p _ rfl rfl rfl) (by grind[vl,leaves])
  exact⟨f,d.trans j⟩
 split
 ·have c:p8 D pr nx E (on t (fQ ops t.s).2):=o.at_ _;have d:Gw t (on t (fQ ops t.s).2):=Gw.pos t _
  let ⟨f,j,_⟩:=c.VQ (x:=vl 20 a b 0 [(fQ ops t.s).1] 0) (by grind[vl]) (λ_=>rfl) (λw g=>by
   rcases SG _ w g with h|h|h
   ·rw[h];exact q
   ·rw[h];exact hb
   ·have h':w=(fQ ops t.s).1:=by simpa[vl]using h
    rw[h'];exact B8 ops o.ne) (by grind[vl,leaves])
  exact⟨f,d.trans j⟩
 split
 ·let ⟨c,d,hk,_,_,fs,r,v⟩:=o.state ops
  let ⟨f,j,_⟩:=c.VQ (x:=vl 22 a 0 0 [] (fN ops t.s).1) (by grind[vl]) (by grind[vl]) (λw g=>by
   have e:w=a:=by simpa[gG,vl,two,ml]using g
   show w∈(fN ops t.s).2.known
   simp_all) (λ_=>⟨fs,r,λw g=>by show w∈(fN ops t.s).2.known;simp_all⟩)
  exact⟨f,d.trans j⟩
 split
 ·let⟨c,d,hk,_,_,fs,r,v⟩:=o.state ops
  let⟨f,j,_⟩:=c.VQ (x:=vl 23 0 0 0 [] (fN ops t.s).1) (by grind[vl]) (by grind[vl]) (by grind[gG,vl,two,ml]) (λ_=>⟨fs,r,λw g=>by show w∈(fN ops t.s).2.known;simp_all⟩)
  exact⟨f,d.trans j⟩
 ·let ⟨c,d⟩:=i 2
  have y:(num ops t.s 2).1<2:=yS _ _ (by omega);have u:(num ops t.s 2).1=0\/(num ops t.s 2).1=1:=by omega
  let ⟨f,j⟩:=c.SD (x:=vl (15+(num ops t.s 2).1) a 0 0 [] 0) (by grind[vl]) (λw g=>by
   have e:w=a:=by
    rcases u with e|e
    ·rw[e]at g;exact l 15 _ rfl rfl (by omega) (by omega) w g
    ·rw[e]at g;exact l 16 _ rfl rfl (by omega) (by omega) w g
   rw[e];exact q)
  exact⟨f,d.trans j⟩
theorem p8.vL(a:p8 D pr nx E t) (ops:List Int):p8 D pr nx E (on t (vL ops t.s))/\Gw t (on t (vL ops t.s)):=by
 have b:=B8 ops a.ne;have c:p8 D pr nx E (on t (fQ ops t.s).2):=a.at_ _;have hb:=B8 ops c.ne;have d:p8 D pr nx E (on t (num ops (fQ ops (fQ ops t.s).2).2 20).2):=a.at_ _
 let⟨e,f⟩:=d.kind ops (k:=(num ops (fQ ops (fQ ops t.s).2).2 20).1) b hb
 exact⟨e,(Gw.pos t _).trans f⟩
theorem p8.rows(ops:List Int):∀i {t:Dt},p8 D pr nx E t->p8 D pr nx E (on t (rows ops i t.s))/\Gw t (on t (rows ops i t.s))
 |0,t,hM=>⟨hM,Gw.refl t⟩
 | i + 1,t,hM=>by
   unfold Un.rows;split
   ·let⟨a,b⟩:=hM.vL ops
    let⟨c,d⟩:=p8.rows ops i a
    exact⟨c,b.trans d⟩
   ·exact⟨hM,Gw.refl t⟩
theorem p8.row(a:p8 D pr nx E t) (ops:List Int):p8 D pr nx E (on t (row ops t.s))/\Gw t (on t (row ops t.s)):=by
 have b:p8 D pr nx E (on t (num ops t.s 6).2):=a.at_ _
 let⟨c,d⟩:=p8.rows ops (1+(num ops t.s 6).1) b
 exact⟨c,(Gw.pos t _).trans d⟩
end
open Dm
def Lx(t t':Dt):Prop:=Le t t'/\t.s.ej.length<=t'.s.ej.length
theorem Lx.trans{a:Dt}(b:Lx t t')(c:Lx t' a):Lx t a:=⟨b.1.trans c.1 b.2,Gq b.2 c.2⟩
theorem Gw.lx(h:Gw t t'):Lx t t':=⟨h.le,h.len⟩
section
variable{D:Nat->Nat}{pr nx:Nat->List Nat}{E E':Nat->Prop}{t:Dt}
theorem p8.weaken(a:p8 D pr nx E t) (h:∀v,E v->E' v):p8 D pr nx E' t:=
 ⟨a.cat,a.MP,λv x hv c=>let⟨b,d,e,f⟩:=a.ph v x hv c;(by grind),a.bk,a.st,a.pc,a.ne,a.kn⟩
theorem J4(t:Dt) (fin cond:Nat) (n:List Nat) (state:Nat) (fh:List Nat):Lx t (end_ t fin cond n state fh):=by
 refine⟨⟨λw b h=>?_,λw b _ h=>?_,λw x h=>⟨x,h,rfl⟩,λs fs h=>h⟩,iZ _⟩
 ·rcases h with⟨B,f,c⟩|⟨rfl,c⟩
  ·exact .inl ⟨B,by show(t.blocks++[_])[b]? =_;grind,c⟩
  ·exact .inl ⟨⟨t.s.cur,fin,cond,n,t.fh,state⟩,wBR,c⟩
 ·rcases h with⟨B,f,c⟩|⟨_,c⟩
  ·have a:(t.blocks++[⟨t.s.cur,fin,cond,n,t.fh,state⟩])[b]? =some B:=f;by_cases hb:b<t.blocks.length
   ·rw[VU hb]at a;exact .inl ⟨B,a,c⟩
   ·have d:=(jo.1 a).1;simp at d;have e:b=t.blocks.length:=by omega
    subst e;rw[wBR]at a;obtain rfl:=Option.some.inj a;exact .inr ⟨rfl,c⟩
  ·cases c
theorem p8.end_(e:p8 D pr nx E t) {fin cond:Nat} {n:List Nat} {state:Nat} {fh:List Nat} (u:n=nx t.blocks.length) (hp:fh=pr (t.blocks.length+1)) (k:Fin D t t.blocks.length ⟨t.s.cur,fin,cond,n,t.fh,state⟩) (hk:∀w∈t.s.known,Kn D t (t.blocks.length+1) w) :
  p8 D pr nx E (end_ t fin cond n state fh)/\(Un.end_ t fin cond n state fh).blocks.length=t.blocks.length+1:=by
 have c:=J4 t fin cond n state fh;have hlen:(Un.end_ t fin cond n state fh).blocks.length=t.blocks.length+1:=by simp[Un.end_]
 refine⟨⟨?_,λv x h=>(e.MP v x h).mono c.1 (jo.1 h).1,λv x h y=>?_,λb B h=>?_,λs fs h=>?_,?_,e.ne,λw g=>?_⟩,hlen⟩
 ·show(t.blocks++[(⟨t.s.cur,fin,cond,n,t.fh,state⟩:Bk)]).flatMap (·.ej)++[]=List.range t.s.ej.length;rw[ List.flatMap_append,<-e.cat];simp
 ·let⟨b,l,m,i⟩:=e.ph v x h y
  exact⟨b,c.1.ow _ _ l,m,λr=>⟨(i r).1,λj w q z A=>((i r).2 j w q z A).mono c.1⟩⟩
 ·have d:(t.blocks++[⟨t.s.cur,fin,cond,n,t.fh,state⟩])[b]? =some B:=h;by_cases hb:b<t.blocks.length
  ·rw[VU hb]at d;exact⟨(e.bk b B d).1,(e.bk b B d).2.1,(e.bk b B d).2.2.mono c.1⟩
  ·have o:=(jo.1 d).1;simp at o;have p:b=t.blocks.length:=by omega
   subst p;rw[wBR]at d;obtain rfl:=Option.some.inj d;exact⟨u,e.pc,k.mono c.1⟩
 ·let⟨l,m⟩:=e.st s fs h
  refine⟨l,λf k=>?_⟩
  let⟨i,C,F,G⟩:=m f k
  exact⟨i,C,λw g=>(F w g).imp λa h=>h.mono c.1,λw g=>(G w g).imp λa h=>h.mono c.1⟩
 ·rw[hlen];exact hp
 ·rw[hlen];exact(hk w g).mono c.1
theorem p8.cut(b:p8 D pr nx E t) {l:List Nat} (a:l≠[]) (hk:∃k,t.s.known=l++k):p8 D pr nx E (on t (cut l.length t.s))/\(on t (Un.cut l.length t.s)).s.known=l/\Lx t (on t (Un.cut l.length t.s)):=by
 let⟨k,hk⟩:=hk
 have e:t.s.known.take l.length=l:=by rw[hk];simp
 have c:=b.TH (λw f=>b.kn w (by simp_all)) a;have d:on t (Un.cut l.length t.s) = {t with s:={t.s with known:=l} }:=by
  unfold on Un.cut;rw[e]
 rw[d];exact⟨c,rfl,⟨⟨λ_ _ h=>h,λ_ _ _ h=>h,by simp_all,by simp_all⟩,iZ _⟩⟩
theorem K7{D:Nat->Nat}{a b:Nat}(h0:b≠0)(h:D b=a):qD D a b:= .up h0 (by rw[h];exact .refl _)
theorem V0(a:p8 D pr nx E t) {args:List Nat} (hc:t.s.cur=[]\/∀w∈t.s.cur,∃y,t.s.ej[w]? =some y/\hZ y.op=true) (h0:t.blocks.length≠0) (hp:¬E t.s.ej.length->zef D t (pr t.blocks.length) (vl 21 0 0 0 args 0)) :
  p8 D pr nx E (on t (put t.s (vl 21 0 0 0 args 0)))/\Lx t (on t (put t.s (vl 21 0 0 0 args 0)))/\Kn D (on t (put t.s (vl 21 0 0 0 args 0))) t.blocks.length t.s.ej.length/\Ow (on t (put t.s (vl 21 0 0 0 args 0))) t.s.ej.length t.blocks.length:=by
 let⟨b,c⟩:=a.put (x:=vl 21 0 0 0 args 0) (by simp[vl]) (by grind[vl]) (by grind[vl]) (λh=>absurd rfl h) (by grind[vl,leaves]) (by grind) (by simp_all)
 exact⟨b,⟨RH t _,by show _<=(t.s.ej++[_]).length;simp⟩,c rfl,.inr ⟨rfl,by show t.s.ej.length∈t.s.cur++[t.s.ej.length];simp⟩⟩
theorem zbe(d:p8 D pr nx E t) (ops:List Int) (n0:nx t.blocks.length=[t.blocks.length+1,t.blocks.length+2]) (W:nx (t.blocks.length+1)=[t.blocks.length+3]) (X:nx (t.blocks.length+2)=[t.blocks.length+3])
  (p1:pr (t.blocks.length+1)=[t.blocks.length]) (p2:pr (t.blocks.length+2)=[t.blocks.length]) (p3:pr (t.blocks.length+3)=[t.blocks.length+1,t.blocks.length+2])
  (d1:D (t.blocks.length+1)=t.blocks.length) (d2:D (t.blocks.length+2)=t.blocks.length) (d3:D (t.blocks.length+3)=t.blocks.length) :
  p8 D pr nx E (fork ops t)/\(fork ops t).blocks.length=t.blocks.length+3:=by
 generalize g:t.blocks.length=a at*;have hc:=B8 ops d.ne;have v:p8 D pr nx E (on t (fQ ops t.s).2):=d.at_ _;have z:Lx t (on t (fQ ops t.s).2):=(Gw.pos t _).lx;have A:(on t (fQ ops t.s).2).s.known=t.s.known:=rfl;unfold fork;simp only;rw[g];generalize B:(fQ ops t.s).1=cond at*;generalize (fQ ops t.s).2=e at*;have Y:{t with s:=e} = on t e:=rfl;rw[Y];have i:(on t e).blocks.length=a:=g
 let ⟨Z,b1⟩:=v.end_ (cond:=cond) (n:=[a+1,a+2]) (state:=0) (fh:=[a]) (by simp_all) (by simp_all) (.inr (.inl ⟨rfl,rfl,by rw[ <-g];exact(d.kn cond hc).mono z.1⟩))
  (λw c=>by rw[i];exact((by rw[<-g];exact(d.kn w (by simp_all)).mono z.1:Kn D (on t e) a w)).up (K7 (by omega) d1))
 rw[i]at b1;have x1:=z.trans (J4 (on t e) 2 cond [a+1,a+2] 0 [a]);have C:(Un.end_ (on t e) 2 cond [a+1,a+2] 0 [a]).s.known=t.s.known:=A;generalize Un.end_ (on t e) 2 cond [a+1,a+2] 0 [a]=b at*
 let⟨F,G⟩:=Z.row ops
 have x2:=x1.trans G.lx;have b2:(on b (row ops b.s)).blocks.length=a+1:=by rw[G.blocks];exact b1
 have kx:=F.kn _ (Ks F.ne)
 let⟨k2,hk2⟩:=G.known
 rw[C]at hk2;have eX:(row ops b.s).known.getLastD 0=(on b (row ops b.s)).s.known.getLastD 0:=rfl;rw[eX];generalize (on b (row ops b.s)).s.known.getLastD 0=x at*
 let⟨m3,hk3,k⟩:=F.cut d.ne ⟨k2,hk2⟩
 have Q:=x2.trans k;have m:=kx.mono k.1;rw[b2]at m;have e3:{b with s:=Un.cut t.s.known.length (row ops b.s)} = on (on b (row ops b.s)) (Un.cut t.s.known.length (on b (row ops b.s)).s):=rfl;rw[e3];have b3:(on (on b (row ops b.s)) (Un.cut t.s.known.length (on b (row ops b.s)).s)).blocks.length=a+1:=b2;generalize on (on b (row ops b.s)) (Un.cut t.s.known.length (on b (row ops b.s)).s)=p at*
 let ⟨m4,R⟩:=m3.end_ (cond:=0) (n:=[a+3]) (state:=0) (fh:=[a]) (by rw[b3,W]) (by simp_all) (.inl ⟨rfl,rfl⟩)
  (λw c=>by rw[b3];exact((by rw[<-g];exact(d.kn w (by simp_all)).mono Q.1:Kn D p a w)).up (K7 (by omega) d2))
 rw[b3]at R;have S:=J4 p 1 0 [a+3] 0 [a];have x4:=Q.trans S;have H:=m.mono S.1;have I:(Un.end_ p 1 0 [a+3] 0 [a]).s.known=t.s.known:=hk3;generalize Un.end_ p 1 0 [a+3] 0 [a]=t4 at*
 let⟨J,r⟩:=m4.row ops
 have x5:=x4.trans r.lx;have K:=H.mono r.le;have T:(on t4 (row ops t4.s)).blocks.length=a+2:=by rw[r.blocks];exact R
 have ky:=J.kn _ (Ks J.ne)
 let⟨k5,hk5⟩:=r.known
 rw[I]at hk5;have eY:(row ops t4.s).known.getLastD 0=(on t4 (row ops t4.s)).s.known.getLastD 0:=rfl;rw[eY];generalize (on t4 (row ops t4.s)).s.known.getLastD 0=y at*
 let⟨m6,hk6,f⟩:=J.cut d.ne ⟨k5,hk5⟩
 have x6:=x5.trans f;have L:=K.mono f.1;have o:=ky.mono f.1;rw[T]at o;have e6:{t4 with s:=Un.cut t.s.known.length (row ops t4.s)} = on (on t4 (row ops t4.s)) (Un.cut t.s.known.length (on t4 (row ops t4.s)).s):=rfl;rw[e6];have M:(on (on t4 (row ops t4.s)) (Un.cut t.s.known.length (on t4 (row ops t4.s)).s)).blocks.length=a+2:=T;generalize on (on t4 (row ops t4.s)) (Un.cut t.s.known.length (on t4 (row ops t4.s)).s)=t6 at*
 let ⟨m7,N⟩:=m6.end_ (cond:=0) (n:=[a+3]) (state:=0) (fh:=[a+1,a+2]) (by rw[M,X]) (by simp_all) (.inl ⟨rfl,rfl⟩)
  (λw c=>by rw[M];exact((by rw[<-g];exact(d.kn w (by simp_all)).mono x6.1:Kn D t6 a w)).up (K7 (by omega) d3))
 rw[M]at N;have U:=J4 t6 1 0 [a+3] 0 [a+1,a+2];have aa:=L.mono U.1;have ab:=o.mono U.1;have O:(Un.end_ t6 1 0 [a+3] 0 [a+1,a+2]).s.cur=[]:=rfl;generalize Un.end_ t6 1 0 [a+3] 0 [a+1,a+2]=t7 at*
 let ⟨V,y8,kn8,_⟩:=V0 m7 (args:=[x,y]) (.inl O) (by omega) (λ_=>by
  rw[N,p3];refine⟨rfl,λj w q h u=>?_⟩
  match j,h,u with
  | 0,h,u=>
    obtain rfl:x=w:=by simpa[vl]using h
    simp_all
  | 1,h,u=>
    obtain rfl:y=w:=by simpa[vl]using h
    simp_all
  |j+2,h,u=>simp_all)
 have m9:=V.TH (l:=t7.s.known++[t7.s.ej.length]) (λw c=>by
  rcases EG.1 c with c|c
  ·exact V.kn w c
  ·simp at c;subst c;exact kn8) (by simp)
 let⟨P,_⟩:=m9.row ops
 exact⟨P,N⟩
theorem zca(d:p8 D pr nx E t) (ops:List Int) (n0:nx t.blocks.length=[t.blocks.length+1,t.blocks.length+2]) (O:nx (t.blocks.length+1)=[])
  (p1:pr (t.blocks.length+1)=[t.blocks.length]) (p2:pr (t.blocks.length+2)=[t.blocks.length]) (d1:D (t.blocks.length+1)=t.blocks.length) (d2:D (t.blocks.length+2)=t.blocks.length) :
  p8 D pr nx E (zj ops t)/\(zj ops t).blocks.length=t.blocks.length+2:=by
 generalize f:t.blocks.length=a at*;have hc:=B8 ops d.ne;have m:p8 D pr nx E (on t (fQ ops t.s).2):=d.at_ _;have o:Lx t (on t (fQ ops t.s).2):=(Gw.pos t _).lx;have p:(on t (fQ ops t.s).2).s.known=t.s.known:=rfl;unfold zj;simp only;rw[f];generalize q:(fQ ops t.s).1=cond at*;generalize (fQ ops t.s).2=c at*;have A:{t with s:=c} = on t c:=rfl;rw[A];have g:(on t c).blocks.length=a:=f
 let ⟨B,b1⟩:=m.end_ (cond:=cond) (n:=[a+1,a+2]) (state:=0) (fh:=[a]) (by simp_all) (by simp_all) (.inr (.inl ⟨rfl,rfl,by rw[ <-f];exact(d.kn cond hc).mono o.1⟩))
  (λw e=>by rw[g];exact((by rw[<-f];exact(d.kn w (by simp_all)).mono o.1:Kn D (on t c) a w)).up (by grind[K7]))
 rw[g]at b1;have C:=o.trans (J4 (on t c) 2 cond [a+1,a+2] 0 [a]);have r:(Un.end_ (on t c) 2 cond [a+1,a+2] 0 [a]).s.known=t.s.known:=p;generalize Un.end_ (on t c) 2 cond [a+1,a+2] 0 [a]=b at*
 let⟨F,u⟩:=B.row ops
 have G:=C.trans u.lx;have b2:(on b (row ops b.s)).blocks.length=a+1:=by rw[u.blocks];exact b1
 let⟨x,hk2⟩:=u.known
 rw[r]at hk2
 let⟨y,H,hk3,_,_,fs,hfs,hin⟩:=F.state ops
 have I:=G.trans H.lx;have b3:(on (on b (row ops b.s)) (fN ops (on b (row ops b.s)).s).2).blocks.length=a+1:=b2;have eS:fN ops (row ops b.s)=fN ops (on b (row ops b.s)).s:=rfl;rw[eS];have h:(on (on b (row ops b.s)) (fN ops (on b (row ops b.s)).s).2).s.known=t.s.known++x:=by
  show(fN ops (on b (row ops b.s)).s).2.known=_;rw[hk3,hk2]
 have i:∀w∈gL fs,Kn D (on (on b (row ops b.s)) (fN ops (on b (row ops b.s)).s).2) (a+1) w:=λw e=>by
  rw[<-b3];refine y.kn w ?_
  simp_all
 let⟨J,hk4,j⟩:=y.cut d.ne ⟨x,h⟩
 have K:=I.trans j;generalize (fN ops (on b (row ops b.s)).s).1=st at*;have L:{b with s:=Un.cut t.s.known.length (fN ops (on b (row ops b.s)).s).2} = on (on (on b (row ops b.s)) (fN ops (on b (row ops b.s)).s).2) (Un.cut t.s.known.length (on (on b (row ops b.s)) (fN ops (on b (row ops b.s)).s).2).s):=rfl;rw[L];have k:(on (on (on b (row ops b.s)) (fN ops (on b (row ops b.s)).s).2) (Un.cut t.s.known.length (on (on b (row ops b.s)) (fN ops (on b (row ops b.s)).s).2).s)).s.eo[st]? =some fs:=hfs;have l:=λw e=>(i w e).mono j.1;have v:(on (on (on b (row ops b.s)) (fN ops (on b (row ops b.s)).s).2) (Un.cut t.s.known.length (on (on b (row ops b.s)) (fN ops (on b (row ops b.s)).s).2).s)).blocks.length=a+1:=b2;generalize on (on (on b (row ops b.s)) (fN ops (on b (row ops b.s)).s).2) (Un.cut t.s.known.length (on (on b (row ops b.s)) (fN ops (on b (row ops b.s)).s).2).s)=t4 at*
 let ⟨M,z⟩:=J.end_ (cond:=0) (fh:=[a]) (by simp_all) (by simp_all) (.inr (.inr ⟨rfl,rfl,fs,k,λw e=>by rw[v];exact l w e⟩))
  (λw e=>by rw[v];exact((by rw[<-f];exact(d.kn w (by simp_all)).mono K.1:Kn D t4 a w)).up (by grind[K7]))
 rw[v]at z;generalize Un.end_ t4 3 0 [] st [a]=t5 at*
 let⟨N,_⟩:=M.row ops
 exact⟨N,z⟩
theorem zd4(t:Dt) (v:Nat) (args:List Nat):Lx t (on t (setArgs t.s v args)):=by
 refine⟨⟨λ_ _ h=>h,λ_ _ _ h=>h,λw x h=>?_,λ_ _ h=>h⟩,by show _<=(t.s.ej.modify v _).length;simp_all⟩;show ∃y,(t.s.ej.modify v λx=>{x with args:=args})[w]? =some y/\y.op=x.op
 grind
theorem JS(e:p8 D pr nx E t) {v b:Nat} {x:Vl} {args:List Nat} (hv:t.s.ej[v]? =some x) (J:x.op=21) (hb:Ow t v b) (h0:b≠0) (hp:args.length=(pr b).length/\∀(j w q:Nat),args[j]? =some w->(pr b)[j]? =some q->Kn D t q w) (K:∀w,w≠v->¬E' w->¬E w) :
  p8 D pr nx E' (on t (setArgs t.s v args))/\Lx t (on t (setArgs t.s v args)):=by
 have d:=zd4 t v args;refine⟨?_,d⟩;have g:∀w y,(on t (setArgs t.s v args)).s.ej[w]? =some y->(w≠v/\t.s.ej[w]? =some y)\/(w=v/\y = {x with args:=args}):=λw y h=>by
  have h':(t.s.ej.modify v λx=>{x with args:=args})[w]? =some y:=h
  grind
 have i:=(jo.1 hv).1;refine⟨by show t.blocks.flatMap (λB:Bk=>B.ej)++t.s.cur=List.range (t.s.ej.modify v _).length;rw[List.length_modify];exact e.cat,λw y h=>?_,λw y h n=>?_,λc B h=>⟨(e.bk c B h).1,(e.bk c B h).2.1,(e.bk c B h).2.2.mono d.1⟩,λs fs h=>?_,e.pc,e.ne,λw k=>(e.kn w k).mono d.1⟩
 ·rcases g w y h with⟨_,h⟩|⟨rfl,rfl⟩
  ·exact(e.MP w y h).mono d.1 (by grind)
  ·have A:=(e.MP w x hv).mono d.1 i
   let⟨c,l,_,_,o⟩:=A.own
   refine⟨A.op,λh=>?_,λh=>?_,c,l,by simp_all,λh=>?_,o⟩
   ·simp_all
   ·simp_all
   simp_all
 ·rcases g w y h with⟨C,h⟩|⟨rfl,rfl⟩
  ·let⟨c,l,p,m⟩:=e.ph w y h n
   exact⟨c,l,p,λF=>⟨(m (by simp_all)).1,λj u q r z=>((m (by simp_all)).2 j u q r z).mono d.1⟩⟩
  ·exact⟨b,hb,h0,λ_=>⟨hp.1,λj u q r z=>(hp.2 j u q r z).mono d.1⟩⟩
 ·let⟨l,p⟩:=e.st s fs h
  refine⟨l,λf G=>?_⟩
  let⟨m,o,H,I⟩:=p f G
  exact⟨m,o,λw k=>(H w k).imp λa h=>h.mono d.1,λw k=>(I w k).imp λa h=>h.mono d.1⟩
theorem LK{P:Nat->Nat->Prop} {x y q r:Nat} (a:P q x) (b:P r y):([x,y]:List Nat).length=([q,r]:List Nat).length/\∀(j w p:Nat),([x,y]:List Nat)[j]? =some w->([q,r]:List Nat)[j]? =some p->P p w:=by
 grind
structure Hd (D:Nat->Nat) (t b:Dt) (p f g less a:Nat):Prop where
 lx:Lx t b
 blocks:b.blocks.length=a+2
 kf:Kn D b a f
 kg:Kn D b a g
 kl:Kn D b (a+1) less
 op:Ow b p (a+1)
 oq:Ow b (p+1) (a+1)
 vp:∃x,b.s.ej[p]? =some x/\x.op=21
 vq:∃x,b.s.ej[p+1]? =some x/\x.op=21
 kn:∀w∈b.s.known,Kn D b (a+1) w
end
open Dm
section
variable{D:Nat->Nat}{pr nx:Nat->List Nat}{E E':Nat->Prop}{t:Dt}
set_option maxHeartbeats 2000000 in
theorem zaW (hM:p8 D pr nx E t) (ops:List Int) (n0:nx t.blocks.length=[t.blocks.length+1]) (n1:nx (t.blocks.length+1)=[t.blocks.length+2,t.blocks.length+3]) (n2:nx (t.blocks.length+2)=[t.blocks.length+1])
  (p1:pr (t.blocks.length+1)=[t.blocks.length,t.blocks.length+2]) (p2:pr (t.blocks.length+2)=[t.blocks.length+1]) (p3:pr (t.blocks.length+3)=[t.blocks.length+1])
  (d1:D (t.blocks.length+1)=t.blocks.length) (d2:D (t.blocks.length+2)=t.blocks.length+1) (d3:D (t.blocks.length+3)=t.blocks.length+1) :
  p8 D pr nx E (loop ops t)/\(loop ops t).blocks.length=t.blocks.length+3:=by
 generalize ha:t.blocks.length=a at*;have hf:=B8 ops hM.ne;have br:p8 D pr nx E (on t (fQ ops t.s).2):=hM.at_ _;have x0:Lx t (on t (fQ ops t.s).2):=(Gw.pos t _).lx;have aI:(on t (fQ ops t.s).2).s.known=t.s.known:=rfl;unfold loop;simp only;rw[ha];generalize bS:(fQ ops t.s).1=f at*;generalize (fQ ops t.s).2=s0 at*;have e0:{t with s:=s0} = on t s0:=rfl;rw[e0];have V:(on t s0).blocks.length=a:=ha
 obtain ⟨bt,b1⟩:=br.end_ (fin:=1) (cond:=0) (n:=[a+1]) (state:=0) (fh:=[a,a+2]) (by rw[V,n0]) (by rw[V,p1]) (.inl ⟨rfl,rfl⟩)
  (λw i=>by rw[V];exact((by rw[<-ha];exact(hM.kn w (by rw[<-aI];exact i)).mono x0.1:Kn D (on t s0) a w)).up (K7 (by omega) d1))
 rw[V]at b1;have x1:=x0.trans (J4 (on t s0) 1 0 [a+1] 0 [a,a+2]);have aJ:(Un.end_ (on t s0) 1 0 [a+1] 0 [a,a+2]).s.known=t.s.known:=aI;have aK:(Un.end_ (on t s0) 1 0 [a+1] 0 [a,a+2]).s.cur=[]:=rfl;generalize Un.end_ (on t s0) 1 0 [a+1] 0 [a,a+2]=c at*;generalize hp:c.s.ej.length=p at*;have m1:=bt.weaken (E':=λv=>E v\/v=p\/v=p+1) λv h=> .inl h;obtain⟨m2,y2,_,ag⟩:=V0 m1 (args:=[f,0]) (.inl aK) (by omega) (λh=>absurd (.inr (.inl hp)) h);rw[hp,b1]at ag;have v2:(on c (put c.s (vl 21 0 0 0 [f,0] 0))).s.ej.length=p+1:=by show(c.s.ej++[_]).length=_;simp[hp]
 have aL:∃x,(on c (put c.s (vl 21 0 0 0 [f,0] 0))).s.ej[p]? =some x/\x.op=21:=⟨vl 21 0 0 0 [f,0] 0,by show(c.s.ej++[_])[p]? =_;rw[<-hp];simp,rfl⟩
 have bu:(on c (put c.s (vl 21 0 0 0 [f,0] 0))).s.known=t.s.known:=aJ;have ah:(on c (put c.s (vl 21 0 0 0 [f,0] 0))).s.cur=[p]:=by show c.s.cur++[c.s.ej.length]=_;rw[aK,hp];rfl
 have b2:(on c (put c.s (vl 21 0 0 0 [f,0] 0))).blocks.length=a+1:=b1;have x2:=x1.trans y2;have hg:=B8 ops m2.ne;rw[bu]at hg;have eG:fQ ops (put c.s (vl 21 0 0 0 [f,0] 0))=fQ ops (on c (put c.s (vl 21 0 0 0 [f,0] 0))).s:=rfl;rw[eG];have m3:p8 D pr nx (λv=>E v\/v=p\/v=p+1) (on (on c (put c.s (vl 21 0 0 0 [f,0] 0))) (fQ ops (on c (put c.s (vl 21 0 0 0 [f,0] 0))).s).2):=m2.at_ _;have g3:Gw (on c (put c.s (vl 21 0 0 0 [f,0] 0))) (on (on c (put c.s (vl 21 0 0 0 [f,0] 0))) (fQ ops (on c (put c.s (vl 21 0 0 0 [f,0] 0))).s).2):=Gw.pos _ _;have v3:(fQ ops (on c (put c.s (vl 21 0 0 0 [f,0] 0))).s).2.ej.length=p+1:=v2;have aM:(fQ ops (on c (put c.s (vl 21 0 0 0 [f,0] 0))).s).2.known=t.s.known:=aJ;have ai:(fQ ops (on c (put c.s (vl 21 0 0 0 [f,0] 0))).s).2.cur=[p]:=ah;have aj:∃x,(fQ ops (on c (put c.s (vl 21 0 0 0 [f,0] 0))).s).2.ej[p]? =some x/\x.op=21:=aL;generalize (fQ ops (on c (put c.s (vl 21 0 0 0 [f,0] 0))).s).1=g at*;generalize (fQ ops (on c (put c.s (vl 21 0 0 0 [f,0] 0))).s).2=j at*;have x3:Lx t (on c j):=x2.trans g3.lx;have aN:Ow (on c j) p (a+1):=g3.le.ow _ _ ag;have m3:p8 D pr nx (λv=>E v\/v=p\/v=p+1) (on c j):=m3;have b3:(on c j).blocks.length=a+1:=b1;obtain⟨m4,y4,ak,al⟩:=V0 m3 (args:=[g,p]) (.inr λw i=>by
  have M:w∈j.cur:=i;rw[ai]at M;simp at M;subst M;obtain⟨x,H,I⟩:=aj;exact⟨x,H,by rw[I];rfl⟩) (by omega) (λh=>absurd (.inr (.inr v3)) h)
 have bw:(on c j).s.ej.length=p+1:=v3;rw[bw,b3]at ak al;have x4:=x3.trans y4;have am:=y4.1.ow _ _ aN;have an:∃x,(on (on c j) (put (on c j).s (vl 21 0 0 0 [g,p] 0))).s.ej[p]? =some x/\x.op=21:=by
  obtain⟨x,H,I⟩:=aj;obtain⟨y,W,X⟩:=y4.1.val p x H;exact⟨y,W,by rw[X,I]⟩
 have aO:∃x,(on (on c j) (put (on c j).s (vl 21 0 0 0 [g,p] 0))).s.ej[p+1]? =some x/\x.op=21:=⟨vl 21 0 0 0 [g,p] 0,by show(j.ej++[_])[p+1]? =_;rw[<-v3];simp,rfl⟩
 have aP:Kn D (on (on c j) (put (on c j).s (vl 21 0 0 0 [g,p] 0))) (a+1) p:=by
  obtain⟨x,H,I⟩:=an;exact⟨_,x,am,.refl _,H,by rw[I];rfl⟩
 have m5:=m4.TH (l:=t.s.known++[p,p+1]) (λw i=>by
  rcases EG.1 i with i|i
  ·exact m4.kn w (by show w∈j.known;rw[aM];exact i)
  ·have b4:(on (on c j) (put (on c j).s (vl 21 0 0 0 [g,p] 0))).blocks.length=a+1:=b1;rw[b4];simp at i;rcases i with rfl|rfl
   ·exact aP
   ·exact ak) (by simp)
 have e5:{put j (vl 21 0 0 0 [g,p] 0)with known:=(put j (vl 21 0 0 0 [g,p] 0)).known++[p,p+1]} = {put j (vl 21 0 0 0 [g,p] 0)with known:=t.s.known++[p,p+1]}:=by
  have:(put j (vl 21 0 0 0 [g,p] 0)).known=t.s.known:=aM;rw[this]
 rw[e5];have m5:p8 D pr nx (λv=>E v\/v=p\/v=p+1) (on c {put j (vl 21 0 0 0 [g,p] 0)with known:=t.s.known++[p,p+1]}):=m5;have x5:Lx t (on c {put j (vl 21 0 0 0 [g,p] 0)with known:=t.s.known++[p,p+1]}):=⟨⟨x4.1.ow,x4.1.back,x4.1.val,x4.1.st⟩,x4.2⟩
 have aQ:Ow (on c {put j (vl 21 0 0 0 [g,p] 0)with known:=t.s.known++[p,p+1]}) p (a+1):=am;have aR:Ow (on c {put j (vl 21 0 0 0 [g,p] 0)with known:=t.s.known++[p,p+1]}) (p+1) (a+1):=al;have aS:∃x,(on c {put j (vl 21 0 0 0 [g,p] 0)with known:=t.s.known++[p,p+1]}).s.ej[p]? =some x/\x.op=21:=an;have aT:∃x,(on c {put j (vl 21 0 0 0 [g,p] 0)with known:=t.s.known++[p,p+1]}).s.ej[p+1]? =some x/\x.op=21:=aO;have bx:(on c {put j (vl 21 0 0 0 [g,p] 0)with known:=t.s.known++[p,p+1]}).s.known=t.s.known++[p,p+1]:=rfl;clear m4 y4 x4 am al an aO ak aP m3 m2 y2 g3 ag aN aL aj e5;generalize bU:({put j (vl 21 0 0 0 [g,p] 0)with known:=t.s.known++[p,p+1]}:Ds)=G at*;obtain⟨m6,g6,aU,_,_,fs,h5,h6⟩:=m5.state ops;have eS:fN ops G=fN ops (on c G).s:=rfl;rw[eS];obtain⟨m7,g7,_⟩:=m6.VQ (x:=vl 23 0 0 0 [] (fN ops (on c G).s).1) (by simp only[vl];omega) (λh=>by simp only[vl]at h;omega) (λw i=>by simp[gG,vl,two,ml]at i) (λ_=>⟨fs,h5,λw i=>by show w∈(fN ops (on c G).s).2.known;rw[aU];exact h6 w i⟩);have Y:=g6.trans g7;have m7:p8 D pr nx (λv=>E v\/v=p\/v=p+1) (on c (put (fN ops (on c G).s).2 (vl 23 0 0 0 [] (fN ops (on c G).s).1))):=m7;have Y:Gw (on c G) (on c (put (fN ops (on c G).s).2 (vl 23 0 0 0 [] (fN ops (on c G).s).1))):=Y;have bz:(put (fN ops (on c G).s).2 (vl 23 0 0 0 [] (fN ops (on c G).s).1)).known=t.s.known++[p,p+1]:=by show(fN ops (on c G).s).2.known=_;rw[aU];exact bx
 generalize put (fN ops (on c G).s).2 (vl 23 0 0 0 [] (fN ops (on c G).s).1)=N at*;obtain⟨m8,g8,o⟩:=m7.VQ (x:=vl 2 0 0 1 [] 0) (by simp only[vl];omega) (λh=>by simp only[vl]at h;omega) (λw i=>by simp[gG,vl,two,ml]at i) (λh=>by simp[vl,leaves]at h);have b8:(on c N).blocks.length=a+1:=b1;have o:=o rfl;rw[b8]at o;have m8:p8 D pr nx (λv=>E v\/v=p\/v=p+1) (on c (put N (vl 2 0 0 1 [] 0))):=m8;have g8:Gw (on c N) (on c (put N (vl 2 0 0 1 [] 0))):=g8;have o:Kn D (on c (put N (vl 2 0 0 1 [] 0))) (a+1) N.ej.length:=o;have v8:(put N (vl 2 0 0 1 [] 0)).ej.length=N.ej.length+1:=by simp[put]
 have aV:(put N (vl 2 0 0 1 [] 0)).known=t.s.known++[p,p+1]:=bz;generalize bR:N.ej.length=one at*;generalize put N (vl 2 0 0 1 [] 0)=A at*;have b8:(on c A).blocks.length=a+1:=b1;have ao:p∈(on c A).s.known:=by show p∈A.known;rw[aV];simp
 obtain ⟨m9,k⟩:=m8.put (x:=vl 4 p one 0 [] 0) (by simp[vl]) (λh=>by simp[vl]at h) (λh=>by simp[vl]at h) (λ_ w i=>by
  have M:w=p\/w=one:=by simpa[gG,vl,two]using i
  rcases M with rfl|rfl
  ·exact m8.kn _ ao
  ·rw[b8];exact o) (λh=>by simp[vl,leaves]at h) (λh=>by simp[vl,hZ]at h) (λh=>by simp[vl]at h)
 have y9:Lx (on c A) (VN (on c A) (vl 4 p one 0 [] 0)):=⟨RH _ _,by show _<=(A.ej++[_]).length;simp[on]⟩
 have k:=k rfl;have O:=m9.TH (l:=A.known++[A.ej.length]) (λw i=>by
  rcases EG.1 i with i|i
  ·exact m9.kn w i
  ·simp at i;subst i;exact k) (by simp)
 have O:p8 D pr nx (λv=>E v\/v=p\/v=p+1) (on c (iO A (vl 4 p one 0 [] 0))):=O;have k:Kn D (on c (iO A (vl 4 p one 0 [] 0))) (a+1) (one+1):=by
  rw[<-v8,<-b8];exact k
 have y9:Lx (on c A) (on c (iO A (vl 4 p one 0 [] 0))):=⟨⟨y9.1.ow,y9.1.back,y9.1.val,y9.1.st⟩,y9.2⟩
 have aW:(iO A (vl 4 p one 0 [] 0)).known=t.s.known++[p,p+1]++[A.ej.length]:=by show A.known++_=_;rw[aV]
 have Q:=((Y.lx.trans g8.lx).trans y9)
 have bA:=x5.trans Q;generalize iO A (vl 4 p one 0 [] 0)=d at*;have aX:=Q.1.ow _ _ aQ;have aY:=Q.1.ow _ _ aR;have aZ:∃x,(on c d).s.ej[p]? =some x/\x.op=21:=by
  obtain⟨x,H,I⟩:=aS;obtain⟨y,W,X⟩:=Q.1.val p x H;exact⟨y,W,by rw[X,I]⟩
 have a5:∃x,(on c d).s.ej[p+1]? =some x/\x.op=21:=by
  obtain⟨x,H,I⟩:=aT;obtain⟨y,W,X⟩:=Q.1.val (p+1) x H;exact⟨y,W,by rw[X,I]⟩
 clear m9 m8 m7 m6 m5 Y g6 g7 g8 y9 o h5 h6 x5 aQ aR aS aT;have bC:{c with s:=d} = on c d:=rfl;rw[bC];have J:(on c d).blocks.length=a+1:=b1;have R:∀w∈d.known,Kn D (on c d) (a+1) w:=λw i=>by rw[<-J];exact O.kn w i
 have ao:p∈d.known:=by rw[aW];simp
 obtain ⟨bD,ap⟩:=O.end_ (fin:=2) (cond:=p) (n:=[a+2,a+3]) (state:=0) (fh:=[a+1]) (by rw[J,n1]) (by rw[J];exact p2.symm) (.inr (.inl ⟨rfl,rfl,by rw[J];exact R p ao⟩))
  (λw i=>by rw[J];exact(R w i).up (K7 (by omega) d2))
 rw[J]at ap;have bE:=J4 (on c d) 2 p [a+2,a+3] 0 [a+1];have a6:(Un.end_ (on c d) 2 p [a+2,a+3] 0 [a+1]).s.known=d.known:=rfl;generalize Un.end_ (on c d) 2 p [a+2,a+3] 0 [a+1]=e at*;obtain⟨aq,ar⟩:=bD.row ops;have B:=bE.trans ar.lx;have a7:=bA.trans B;have bG:(on e (row ops e.s)).blocks.length=a+2:=by rw[ar.blocks];exact ap
 have kz:=aq.kn _ (Ks aq.ne);rw[bG]at kz;obtain⟨K,aa⟩:=ar.known;rw[a6]at aa;have kz:Kn D (on e (row ops e.s)) (a+2) ((row ops e.s).known.getLastD 0):=kz;have ab:=B.1.ow _ _ aX;have a8:=B.1.ow _ _ aY;have a9:∃x,(on e (row ops e.s)).s.ej[p]? =some x/\x.op=21:=by
  obtain⟨x,H,I⟩:=aZ;obtain⟨y,W,X⟩:=B.1.val p x H;exact⟨y,W,by rw[X,I]⟩
 have ba:∃x,(on e (row ops e.s)).s.ej[p+1]? =some x/\x.op=21:=by
  obtain⟨x,H,I⟩:=a5;obtain⟨y,W,X⟩:=B.1.val (p+1) x H;exact⟨y,W,by rw[X,I]⟩
 have S:=(k.mono B.1).up (K7 (D:=D) (a:=a+1) (b:=a+2) (by omega) d2);have bb:∀w∈d.known,Kn D (on e (row ops e.s)) (a+1) w:=λw i=>(R w i).mono B.1;have ac:Kn D (on e (row ops e.s)) a f:=by rw[<-ha];exact(hM.kn f hf).mono a7.1
 have bc:Kn D (on e (row ops e.s)) a g:=by rw[<-ha];exact(hM.kn g hg).mono a7.1
 have au:(row ops e.s).known=d.known++K:=aa;generalize (row ops e.s).known.getLastD 0=z at*;generalize row ops e.s=r at*;obtain⟨xp,bd,ad⟩:=a9;obtain⟨aw,ax⟩:=JS (E':=λv=>E v\/v=p+1) aq bd ad ab (by omega) (args:=[f,one+1]) (by rw[p1];exact LK (P:=λq w=>Kn D (on e r) q w) ac S) (λw ay hE=>by
  rintro(h|h|h)
  ·exact hE (.inl h)
  ·exact ay h
  ·exact hE (.inr h))
 have aw:p8 D pr nx (λv=>E v\/v=p+1) (on e (setArgs r p [f,one+1])):=aw;have ax:Lx (on e r) (on e (setArgs r p [f,one+1])):=ax;have be:(setArgs r p [f,one+1]).known=d.known++K:=au;generalize setArgs r p [f,one+1]=C at*;have bf:p8 D pr nx (λv=>E v\/v=p+1) (on e (num ops C 3).2):=aw.at_ _;have L:Lx (on e r) (on e (num ops C 3).2):=ax.trans (Gw.pos (on e C) (draw ops C.pos 3).2).lx;have ae:(num ops C 3).2.known=d.known++K:=be;generalize (num ops C 3).1=dd at*;generalize (num ops C 3).2=aA at*;have aB:∃u,(if dd=0 then setArgs aA p [f,z] else aA)=u/\p8 D pr nx (λv=>E v\/v=p+1) (on e u)/\Lx (on e r) (on e u)/\u.known=d.known++K:=by
  by_cases hd:dd=0
  ·rw[if_pos hd];obtain⟨bV,bg,aC⟩:=L.1.val p xp bd;obtain⟨m,y⟩:=JS (E':=λv=>E v\/v=p+1) bf bg (by rw[aC,ad]) (L.1.ow _ _ ab) (by omega) (args:=[f,z]) (by rw[p1];exact LK (P:=λq w=>Kn D (on e aA) q w) (ac.mono L.1) (kz.mono L.1)) (λw _ hE=>hE);exact⟨_,rfl,m,L.trans y,ae⟩
  ·rw[if_neg hd];exact⟨_,rfl,bf,L,ae⟩
 obtain ⟨u,bH,bI,T,bh⟩:=aB;rw[bH];obtain⟨xq,bJ,bi⟩:=ba;obtain⟨bW,bj,aD⟩:=T.1.val (p+1) xq bJ;obtain⟨aE,aF⟩:=JS (E':=E) bI bj (by rw[aD,bi]) (T.1.ow _ _ a8) (by omega) (args:=[g,z]) (by rw[p1];exact LK (P:=λq w=>Kn D (on e u) q w) (bc.mono T.1) (kz.mono T.1)) (λw ay hE=>by
  rintro(h|h)
  ·exact hE h
  ·exact ay h)
 have aE:p8 D pr nx E (on e (setArgs u (p+1) [g,z])):=aE;have aF:Lx (on e r) (on e (setArgs u (p+1) [g,z])):=T.trans aF;have bm:(setArgs u (p+1) [g,z]).known=d.known++K:=bh;generalize setArgs u (p+1) [g,z]=F at*;obtain⟨aG,U,aH⟩:=aE.cut O.ne ⟨K,bm⟩;have aG:p8 D pr nx E (on e (Un.cut d.known.length F)):=aG;have aH:Lx (on e r) (on e (Un.cut d.known.length F)):=aF.trans aH;have U:(on e (Un.cut d.known.length F)).s.known=d.known:=U;have bK:{e with s:=Un.cut d.known.length F} = on e (Un.cut d.known.length F):=rfl;rw[bK];have Z:(on e (Un.cut d.known.length F)).blocks.length=a+2:=ap;generalize on e (Un.cut d.known.length F)=t3 at*
 obtain ⟨bL,bo⟩:=aG.end_ (fin:=1) (cond:=0) (n:=[a+1]) (state:=0) (fh:=[a+1]) (by rw[Z,n2]) (by rw[Z];exact p3.symm) (.inl ⟨rfl,rfl⟩)
  (λw i=>by rw[Z];rw[U]at i;exact((bb w i).mono aH.1).up (K7 (by omega) d3))
 rw[Z]at bo;generalize Un.end_ t3 1 0 [a+1] 0 [a+1]=t4 at*;obtain⟨bQ,_⟩:=bL.row ops;exact⟨bQ,bo⟩
end
