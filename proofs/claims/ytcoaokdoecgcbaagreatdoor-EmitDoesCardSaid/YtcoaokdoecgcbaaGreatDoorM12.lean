/- Parts. -/
import Derived.Test.YtcoaokdoecgcbaaGreatDoorM11
set_option maxHeartbeats 4000000
namespace Go.Proofs.YtcoaokdoecgcbaaGreatDoor.Un
open Dm
variable{t t':Dt}{w:Nat}
def Ow(t:Dt)(v b:Nat):Prop:=(∃B,t.blocks[b]? =some B/\v∈B.ee)\/(b=t.blocks.length/\v∈t.s.cur)
def Kn(D:Nat->Nat)(t:Dt)(a w:Nat):Prop:=∃b x,Ow t w b/\tf D b a/\t.s.ee[w]? =some x/\Gv x.op=true
structure Le (t t':Dt):Prop where
 ow:∀w b,Ow t w b->Ow t' w b
 back:∀w b,w<t.s.ee.length->Ow t' w b->Ow t w b
 val:∀(w:Nat) x,t.s.ee[w]? =some x->∃y,t'.s.ee[w]? =some y/\y.op=x.op
 st:∀(s:Nat) fs,t.s.eE[s]? =some fs->t'.s.eE[s]? =some fs
theorem Le.refl(t:Dt):Le t t:=⟨by simp_all,by simp_all,by simp_all,by simp_all⟩
theorem Kn.mono{D:Nat->Nat}  {a:Nat} (h:Kn D t a w) (c:Le t t'):Kn D t' a w:=by
 let⟨b,x,d,e,f,i⟩:=h
 let⟨y,g,j⟩:=c.val w x f
 exact⟨b,y,c.ow w b d,e,g,by simp_all⟩
theorem Kn.up{D:Nat->Nat}  {a c:Nat} (h:Kn D t a w) (d:tf D a c):Kn D t c w:=by
 let⟨b,x,e,f,g⟩:=h
 exact⟨b,x,e,f.trans d,g⟩
theorem Kn.lt{D:Nat->Nat}  {a:Nat} (h:Kn D t a w):w<t.s.ee.length:=by
 let⟨b,x,_,_,c,_⟩:=h
 grind
structure Vok (D:Nat->Nat) (t:Dt) (v:Nat) (x:Vl):Prop where
 op:1<=x.op/\x.op<=23
 putAt:x.op=20->x.args.length=1
 par:x.op=1->Ow t v 0/\x.n=(v:Nat)/\v<5
 own:∃b,Ow t v b/\(x.op≠21->∀w∈jn x,w<v/\Kn D t b w)/\(leaves x.op=true->∃fs,t.s.eE[x.state]? =some fs/\∀w∈gB fs,w<v/\Kn D t b w)/\
  (iV x.op=true->∀w,Ow t w b->w<v->∃y,t.s.ee[w]? =some y/\iV y.op=true)
theorem Vok.mono{D:Nat->Nat}  {v:Nat} {x:Vl} (h:Vok D t v x) (a:Le t t') (hv:v<t.s.ee.length):Vok D t' v x:=by
 let⟨b,d,i,j,k⟩:=h.own
 refine⟨h.op,h.putAt,λd=>⟨a.ow _ _ (h.par d).1,(h.par d).2⟩,b,a.ow _ _ d,λl w c=>⟨by simp_all,(i l w c).2.mono a⟩,λhl=>?_,λm w c e=>?_⟩
 ·let⟨fs,f,g⟩:=j hl
  exact⟨fs,a.st _ _ f,λw c=>⟨by simp_all,(g w c).2.mono a⟩⟩
 ·let⟨y,f,g⟩:=k m w (a.back w b (by omega) c) e
  let⟨z,n,o⟩:=a.val w y f
  simp_all
def zfA(D:Nat->Nat)(t:Dt)(a:List Nat)(x:Vl):Prop:=x.args.length=a.length/\∀(j w q:Nat),x.args[j]? =some w->a[j]? =some q->Kn D t q w
def Fin(D:Nat->Nat)(t:Dt)(b:Nat)(B:Bk):Prop:=(B.fin=1/\B.next.length=1)\/(B.fin=2/\B.next.length=2/\Kn D t b B.cond)\/(B.fin=3/\B.next=[]/\∃fs,t.s.eE[B.state]? =some fs/\∀w∈gB fs,Kn D t b w)
theorem Fin.mono{D:Nat->Nat}  {b:Nat} {B:Bk} (h:Fin D t b B) (a:Le t t'):Fin D t' b B:=by
 rcases h with h|⟨c,d,e⟩|⟨c,d,fs,e,f⟩
 ·exact .inl h
 ·exact .inr (.inl ⟨c,d,e.mono a⟩)
 ·exact .inr (.inr ⟨c,d,fs,a.st _ _ e,λw g=>(f w g).mono a⟩)
structure qv (D:Nat->Nat) (pr nx:Nat->List Nat) (E:Nat->Prop) (t:Dt):Prop where
 cat:t.blocks.flatMap (·.ee)++t.s.cur=List.range t.s.ee.length
 O9:∀v x,t.s.ee[v]? =some x->Vok D t v x
 ph:∀v x,t.s.ee[v]? =some x->x.op=21->∃b,Ow t v b/\b≠0/\(¬E v->zfA D t (pr b) x)
 bk:∀b B,t.blocks[b]? =some B->B.next=nx b/\B.fk=pr b/\Fin D t b B
 st:∀(s:Nat) fs,t.s.eE[s]? =some fs->fs.length=1/\∀f∈fs,f.locals.length<=3/\f.stack.length=1/\(∀w∈f.locals,∃a,Kn D t a w)/\∀w∈f.stack,∃a,Kn D t a w
 pc:t.fk=pr t.blocks.length
 ne:t.s.known≠[]
 kn:∀w∈t.s.known,Kn D t t.blocks.length w
section
variable{D:Nat->Nat}{pr nx:Nat->List Nat}{E:Nat->Prop}{t:Dt}
def Xn(t:Dt)(x:Vl):Dt:={t with s:=put t.s x}
theorem TW(t:Dt) (x:Vl):Le t (Xn t x) where
 ow w b h:=by
  rcases h with h|⟨a,c⟩
  ·exact .inl h
  ·exact .inr ⟨a,by show w∈t.s.cur++_;simp_all⟩
 back w b hw h:=by
  rcases h with h|⟨a,c⟩
  ·exact .inl h
  ·refine .inr ⟨a,?_⟩;have d:w∈t.s.cur++[t.s.ee.length]:=c
   grind
 val w y h:=⟨y,by show(t.s.ee++[x])[w]? =some y;grind,rfl⟩
 st s fs h:=h
theorem qv.put(i:qv D pr nx E t) {x:Vl} (J:1<=x.op/\x.op<=23) (z:x.op=20->x.args.length=1) (G:x.op=1->t.blocks.length=0/\x.n=(t.s.ee.length:Nat)/\t.s.ee.length<5)
  (H:x.op≠21->∀w∈jn x,Kn D t t.blocks.length w) (hl:leaves x.op=true->∃fs,t.s.eE[x.state]? =some fs/\∀w∈gB fs,Kn D t t.blocks.length w)
  (R:iV x.op=true->∀w∈t.s.cur,∃y,t.s.ee[w]? =some y/\iV y.op=true) (A:x.op=21->t.blocks.length≠0/\(¬E t.s.ee.length->zfA D t (pr t.blocks.length) x)) :
  qv D pr nx E (Xn t x)/\(Gv x.op=true->Kn D (Xn t x) t.blocks.length t.s.ee.length):=by
 have c:=TW t x;have e:Ow (Xn t x) t.s.ee.length t.blocks.length:= .inr ⟨rfl,by show t.s.ee.length∈t.s.cur++[t.s.ee.length];simp⟩;have o:(Xn t x).s.ee[t.s.ee.length]? =some x:=by show(t.s.ee++[x])[t.s.ee.length]? =some x;simp
 have g:∀v y,(Xn t x).s.ee[v]? =some y->t.s.ee[v]? =some y\/v=t.s.ee.length/\y=x:=λv y h=>by
  have h':(t.s.ee++[x])[v]? =some y:=h
  grind
 refine⟨⟨?_,λv y h=>?_,λv y h p=>?_,λb B h=>⟨(i.bk b B h).1,(i.bk b B h).2.1,(i.bk b B h).2.2.mono c⟩,λs fs h=>?_,i.pc,i.ne,λw d=>(i.kn w d).mono c⟩,λK=>⟨_,x,e,.refl _,o,K⟩⟩
 ·show t.blocks.flatMap (·.ee)++(t.s.cur++[t.s.ee.length])=List.range (t.s.ee++[x]).length;rw[<-Cy,i.cat,qu,YX,wBl]
 ·rcases g v y h with h|⟨rfl,rfl⟩
  ·exact(i.O9 v y h).mono c (by grind)
  ·refine ⟨J,z,λl=>?_,t.blocks.length,e,λI w d=>⟨(H I w d).lt,(H I w d).mono c⟩,λl=>?_,λl w d C=>?_⟩
   ·simp_all
   ·let⟨fs,m,k⟩:=hl l
    exact⟨fs,m,λw d=>⟨(k w d).lt,(k w d).mono c⟩⟩
   ·have L:=c.back w _ C d;rcases L with⟨B,M,_⟩|⟨_,M⟩
    ·simp_all
    grind
 ·rcases g v y h with h|⟨rfl,rfl⟩
  ·let⟨b,m,k,u⟩:=i.ph v y h p
   refine⟨b,c.ow _ _ m,k,λr=>⟨(u r).1,λj w q l F=>((u r).2 j w q l F).mono c⟩⟩
  ·let⟨m,k⟩:=A p
   exact⟨_,e,m,λr=>⟨(k r).1,λj w q l F=>((k r).2 j w q l F).mono c⟩⟩
 ·let⟨m,k⟩:=i.st s fs h
  refine⟨m,λf N=>?_⟩
  let⟨u,O,P,Q⟩:=k f N
  exact⟨u,O,λw d=>(P w d).imp λa h=>h.mono c,λw d=>(Q w d).imp λa h=>h.mono c⟩
theorem qv.Wg(a:qv D pr nx E t) {l:List Nat} (hl:∀w∈l,Kn D t t.blocks.length w) (nw:l≠[]):qv D pr nx E {t with s:={t.s with known:=l} }:=
 ⟨a.cat,λv x h=>⟨(a.O9 v x h).op,(a.O9 v x h).putAt,(a.O9 v x h).par,(a.O9 v x h).own⟩,a.ph,a.bk,a.st,a.pc,nw,hl⟩
theorem qv.at_(a:qv D pr nx E t) (p:Nat):qv D pr nx E {t with s:={t.s with pos:=p} }:=
 ⟨a.cat,λv x h=>⟨(a.O9 v x h).op,(a.O9 v x h).putAt,(a.O9 v x h).par,(a.O9 v x h).own⟩,a.ph,a.bk,a.st,a.pc,a.ne,a.kn⟩
def on(t:Dt)(s:Ds):Dt:={t with s:=s}
structure Gw (t t':Dt):Prop where
 blocks:t'.blocks=t.blocks
 fk:t'.fk=t.fk
 known:∃k,t'.s.known=t.s.known++k
 ee:∃e,t'.s.ee=t.s.ee++e
 le:Le t t'
theorem Le.trans{a:Dt} (c:Le t t') (d:Le t' a) (f:t.s.ee.length<=t'.s.ee.length):Le t a where
 ow w b h:=d.ow w b (c.ow w b h)
 back w b hw h:=c.back w b hw (d.back w b (by omega) h)
 val w x h:=by
  let⟨y,e,g⟩:=c.val w x h
  let⟨z,i,j⟩:=d.val w y e
  simp_all
 st s fs h:=d.st s fs (c.st s fs h)
theorem Gw.refl(t:Dt):Gw t t:=⟨rfl,rfl,by simp_all,by simp_all,.refl t⟩
theorem Gw.len (h:Gw t t'):t.s.ee.length<=t'.s.ee.length:=by
 let⟨e,he⟩:=h.ee
 simp_all
theorem Gw.trans{b:Dt} (a:Gw t t') (c:Gw t' b):Gw t b:=by
 let⟨k,hk⟩:=a.known
 let⟨k',hk'⟩:=c.known
 let⟨e,he⟩:=a.ee
 let⟨e',he'⟩:=c.ee
 exact⟨c.blocks.trans a.blocks,c.fk.trans a.fk,by simp_all,by simp_all,a.le.trans c.le a.len⟩
theorem Gw.pos(t:Dt)(p:Nat):Gw t (on t {t.s with pos:=p}):=⟨rfl,rfl,⟨[],(Ku _).symm⟩,⟨[],(Ku _).symm⟩,⟨λ_ _ h=>h,λ_ _ _ h=>h,λ_ x h=>⟨x,h,rfl⟩,λ_ _ h=>h⟩⟩
theorem zbl{l:List Nat} {i:Nat} (h:i<l.length):l.getD i 0∈l:=by
 simp_all
theorem CD(ops:List Int){s:Ds}(h:s.known≠[]):(fT ops s).1∈s.known:=zbl (xx ops s.pos (List.length_pos_iff.2 h))
theorem My{l:List Nat} (h:l≠[]):l.getLastD 0∈l:=by
 cases l <;> grind
theorem SJ(ops:List Int):∀i s l,s.known≠[]->(∃p,(some_ ops i s l).2 = {s with pos:=p})/\(some_ ops i s l).1.length=l.length+i/\∀w∈(some_ ops i s l).1,w∈l\/w∈s.known
 |0,s,l,_=>⟨⟨s.pos,rfl⟩,rfl,λw h=> .inl h⟩
 | i+1,s,l,h=>by
   let⟨⟨p,b⟩,d,a⟩:=SJ ops i (fT ops s).2 (l++[(fT ops s).1]) h
   refine⟨⟨p,b⟩,by grind[some_],λw c=>?_⟩;rcases a w c with a|a
   ·grind[CD]
   ·exact .inr a
theorem qv.le1(t:Dt) (fs:List Fm) (p:Nat):Le t (on t {t.s with eE:=t.s.eE++[fs],pos:=p}):=
 ⟨λ_ _ h=>h,λ_ _ _ h=>h,λ_ x h=>⟨x,h,rfl⟩,λs g h=>by show(t.s.eE++[fs])[s]? =some g;grind⟩
theorem qv.state(d:qv D pr nx E t) (ops:List Int):qv D pr nx E (on t (fI ops t.s).2)/\Gw t (on t (fI ops t.s).2)/\(fI ops t.s).2.known=t.s.known/\(fI ops t.s).2.ee=t.s.ee/\(fI ops t.s).2.cur=t.s.cur/\
  ∃fs,(fI ops t.s).2.eE[(fI ops t.s).1]? =some fs/\∀w∈gB fs,w∈t.s.known:=by
 let⟨⟨p,y⟩,H,z⟩:=SJ ops (num ops t.s 4).1 (num ops t.s 4).2 [] d.ne
 have I:(num ops t.s 4).1<4:=xx _ _ (by omega);have hs:(fI ops t.s).2 = {t.s with eE:=t.s.eE++[[⟨1,(t.s.eE.length:Nat),(some_ ops (num ops t.s 4).1 (num ops t.s 4).2 []).1,[t.s.known.getLastD 0]⟩]],pos:=p}:=by
  unfold fI;simp only;rw[y];rfl
 rw[hs];generalize (some_ ops (num ops t.s 4).1 (num ops t.s 4).2 []).1=l at*;have c:=qv.le1 t [⟨1,(t.s.eE.length:Nat),l,[t.s.known.getLastD 0]⟩] p;have hl:∀w∈l,w∈t.s.known:=λw e=>(z w e).elim (by simp_all) id;have k:=My d.ne
 refine ⟨⟨d.cat,λv x h=>(d.O9 v x h).mono c (ke.1 h).1,λv x h A=>?_,λb B h=>⟨(d.bk b B h).1,(d.bk b B h).2.1,(d.bk b B h).2.2.mono c⟩,λs fs h=>?_,d.pc,d.ne,λw e=>(d.kn w e).mono c⟩,
  ⟨rfl,rfl,⟨[],(Ku _).symm⟩,⟨[],(Ku _).symm⟩,c⟩,rfl,rfl,rfl,[⟨1,(t.s.eE.length:Nat),l,[t.s.known.getLastD 0]⟩],wBB,λw e=>?_⟩
 ·let⟨b,m,n,g⟩:=d.ph v x h A
  exact⟨b,c.ow _ _ m,n,λr=>⟨(g r).1,λj w q e1 e2=>((g r).2 j w q e1 e2).mono c⟩⟩
 ·have h':(t.s.eE++[[⟨1,(t.s.eE.length:Nat),l,[t.s.known.getLastD 0]⟩]])[s]? =some fs:=h;by_cases G6:s<t.s.eE.length
  ·rw[UF G6]at h'
   let⟨m,n⟩:=d.st s fs h'
   refine⟨m,λf i=>?_⟩
   let⟨g,C,F,G⟩:=n f i
   exact⟨g,C,λw e=>(F w e).imp λa h=>h.mono c,λw e=>(G w e).imp λa h=>h.mono c⟩
  ·rw[Ze (by omega)]at h';have u:=yN h';simp at u;subst u;refine⟨rfl,λf i=>?_⟩;simp at i;subst i;refine⟨by grind,rfl,λw e=>⟨_,(d.kn w (hl w e)).mono c⟩,λw e=>?_⟩;have o:w=t.s.known.getLastD 0:=by simpa using e
   subst o;exact⟨_,(d.kn _ k).mono c⟩
 ·simp[gB,wA6]at e
  grind
theorem qv.Yd(a:qv D pr nx E t) {x:Vl} (k:2<=x.op/\x.op<=23/\x.op≠21) (b:x.op=20->x.args.length=1) (d:∀w∈jn x,w∈t.s.known) (hl:leaves x.op=true->∃fs,t.s.eE[x.state]? =some fs/\∀w∈gB fs,w∈t.s.known) :
  qv D pr nx E (on t (Un.put t.s x))/\Gw t (on t (Un.put t.s x))/\(Gv x.op=true->Kn D (on t (Un.put t.s x)) t.blocks.length t.s.ee.length):=by
 have e:iV x.op=true->False:=by grind[iV]
 let⟨f,g⟩:=a.put (by omega) b (by omega) (λ_ w c=>a.kn w (d w c)) (λh=>by let⟨fs,i,j⟩:=hl h;exact⟨fs,i,λw c=>a.kn w (j w c)⟩) (by simp_all) (by omega)
 exact⟨f,⟨rfl,rfl,⟨[],(Ku _).symm⟩,⟨[x],rfl⟩,TW t x⟩,g⟩
theorem qv.U8(c:qv D pr nx E t) {x:Vl} (i:2<=x.op/\x.op<19) (d:∀w∈jn x,w∈t.s.known):qv D pr nx E (on t (il t.s x))/\Gw t (on t (il t.s x)):=by
 let⟨e,b,f⟩:=c.Yd (by omega) (by omega) d (by grind[leaves])
 have g:=f (by simp[Gv];omega);have h:=e.Wg (l:=t.s.known++[t.s.ee.length]) (λw a=>by
  rcases yX.1 a with a|a
  ·exact(c.kn w a).mono b.le
  ·simp at a;subst a;exact g) (by simp)
 exact⟨h,⟨rfl,rfl,⟨[t.s.ee.length],rfl⟩,⟨[x],rfl⟩,⟨b.le.ow,b.le.back,b.le.val,b.le.st⟩⟩⟩
theorem UK(x:Vl):∀w∈jn x,w=x.a\/w=x.b\/w∈x.args:=by
 grind[jn,wBq]
theorem qv.kind(o:qv D pr nx E t) (ops:List Int) {k a b:Nat} (q:a∈t.s.known) (y:b∈t.s.known):qv D pr nx E (on t (tS ops t.s k a b))/\Gw t (on t (tS ops t.s k a b)):=by
 have p:∀x,x.a=a->x.b=b->x.args=[]->∀w∈jn x,w∈t.s.known:=λx c d f w g=>by
  rcases UK x w g with h|h|h
  ·simp_all
  ·simp_all
  simp_all
 have i:∀m,qv D pr nx E (on t (num ops t.s m).2)/\Gw t (on t (num ops t.s m).2):=λm=>⟨o.at_ _,Gw.pos t _⟩
 have l:∀op n,uk op=true->two op=false->op≠20->op≠21->∀w∈jn (vl op a 0 n [] 0),w=a:=by grind[jn,vl]
 unfold tS;split
 ·rename_i v;exact o.U8 (by grind[vl]) (p _ rfl rfl rfl)
 split
 ·let⟨c,d⟩:=i 1048576
  let⟨f,j⟩:=c.U8 (x:=vl 2 0 0 (((num ops t.s 1048576).1:Int)-9) [] 0) (by grind[vl]) (by grind[jn,vl,two,uk])
  exact⟨f,d.trans j⟩
 split
 ·let⟨c,d⟩:=i 5
  let⟨f,j⟩:=c.U8 (x:=vl 17 a 0 ((num ops t.s 5).1:Nat) [] 0) (by grind[vl]) (λw g=>by rw[l 17 _ rfl rfl (by omega) (by omega) w g];exact q)
  exact⟨f,d.trans j⟩
 split
 ·exact o.U8 (by grind[vl]) (p _ rfl rfl rfl)
 split
 ·let⟨c,d⟩:=i 5
  let⟨f,j,_⟩:=c.Yd (x:=vl 19 a b ((num ops t.s 5).1:Nat) [] 0) (by grind[vl]) (by grind[vl]) (p _ rfl rfl rfl) (by grind[vl,leaves])
  exact⟨f,d.trans j⟩
 split
 ·have c:qv D pr nx E (on t (fT ops t.s).2):=o.at_ _;have d:Gw t (on t (fT ops t.s).2):=Gw.pos t _
  let ⟨f,j,_⟩:=c.Yd (x:=vl 20 a b 0 [(fT ops t.s).1] 0) (by grind[vl]) (λ_=>rfl) (λw g=>by
   rcases UK _ w g with h|h|h
   ·rw[h];exact q
   ·rw[h];exact y
   ·have h':w=(fT ops t.s).1:=by simpa[vl]using h
    rw[h'];exact CD ops o.ne) (by grind[vl,leaves])
  exact⟨f,d.trans j⟩
 split
 ·let ⟨c,d,v,_,_,fs,r,z⟩:=o.state ops
  let ⟨f,j,_⟩:=c.Yd (x:=vl 22 a 0 0 [] (fI ops t.s).1) (by grind[vl]) (by grind[vl]) (λw g=>by
   have e:w=a:=by simpa[jn,vl,two,uk]using g
   show w∈(fI ops t.s).2.known
   simp_all) (λ_=>⟨fs,r,λw g=>by show w∈(fI ops t.s).2.known;simp_all⟩)
  exact⟨f,d.trans j⟩
 split
 ·let⟨c,d,v,_,_,fs,r,z⟩:=o.state ops
  let⟨f,j,_⟩:=c.Yd (x:=vl 23 0 0 0 [] (fI ops t.s).1) (by grind[vl]) (by grind[vl]) (by grind[jn,vl,two,uk]) (λ_=>⟨fs,r,λw g=>by show w∈(fI ops t.s).2.known;simp_all⟩)
  exact⟨f,d.trans j⟩
 ·let ⟨c,d⟩:=i 2
  have A:(num ops t.s 2).1<2:=xx _ _ (by omega);have u:(num ops t.s 2).1=0\/(num ops t.s 2).1=1:=by omega
  let ⟨f,j⟩:=c.U8 (x:=vl (15+(num ops t.s 2).1) a 0 0 [] 0) (by grind[vl]) (λw g=>by
   have e:w=a:=by
    rcases u with e|e
    ·rw[e]at g;exact l 15 _ rfl rfl (by omega) (by omega) w g
    ·rw[e]at g;exact l 16 _ rfl rfl (by omega) (by omega) w g
   rw[e];exact q)
  exact⟨f,d.trans j⟩
theorem qv.vx(a:qv D pr nx E t) (ops:List Int):qv D pr nx E (on t (vx ops t.s))/\Gw t (on t (vx ops t.s)):=by
 have b:=CD ops a.ne;have c:qv D pr nx E (on t (fT ops t.s).2):=a.at_ _;have d:=CD ops c.ne;have e:qv D pr nx E (on t (num ops (fT ops (fT ops t.s).2).2 20).2):=a.at_ _
 let⟨f,g⟩:=e.kind ops (k:=(num ops (fT ops (fT ops t.s).2).2 20).1) b d
 exact⟨f,(Gw.pos t _).trans g⟩
theorem qv.rows(ops:List Int):∀i {t:Dt},qv D pr nx E t->qv D pr nx E (on t (rows ops i t.s))/\Gw t (on t (rows ops i t.s))
 |0,t,hM=>⟨hM,Gw.refl t⟩
 | i + 1,t,hM=>by
   unfold Un.rows;split
   ·let⟨a,b⟩:=hM.vx ops
    let⟨c,d⟩:=qv.rows ops i a
    exact⟨c,b.trans d⟩
   ·exact⟨hM,Gw.refl t⟩
theorem qv.row(a:qv D pr nx E t) (ops:List Int):qv D pr nx E (on t (row ops t.s))/\Gw t (on t (row ops t.s)):=by
 have b:qv D pr nx E (on t (num ops t.s 6).2):=a.at_ _
 let⟨c,d⟩:=qv.rows ops (1+(num ops t.s 6).1) b
 exact⟨c,(Gw.pos t _).trans d⟩
def Lx(t t':Dt):Prop:=Le t t'/\t.s.ee.length<=t'.s.ee.length
theorem Lx.trans{a:Dt}(b:Lx t t')(c:Lx t' a):Lx t a:=⟨b.1.trans c.1 b.2,OA b.2 c.2⟩
theorem Gw.lx(h:Gw t t'):Lx t t':=⟨h.le,h.len⟩
variable{E':Nat->Prop}
theorem qv.weaken(a:qv D pr nx E t) (h:∀v,E v->E' v):qv D pr nx E' t:=
 ⟨a.cat,a.O9,λv x hv c=>let⟨b,d,e,f⟩:=a.ph v x hv c;(by grind),a.bk,a.st,a.pc,a.ne,a.kn⟩
theorem KS(t:Dt) (fin cond:Nat) (n:List Nat) (state:Nat) (fk:List Nat):Lx t (end_ t fin cond n state fk):=by
 refine⟨⟨λw b h=>?_,λw b _ h=>?_,λw x h=>⟨x,h,rfl⟩,λs fs h=>h⟩,jJ _⟩
 ·rcases h with⟨B,f,c⟩|⟨rfl,c⟩
  ·exact .inl ⟨B,by show(t.blocks++[_])[b]? =_;grind,c⟩
  ·exact .inl ⟨⟨t.s.cur,fin,cond,n,t.fk,state⟩,wBB,c⟩
 ·rcases h with⟨B,f,c⟩|⟨_,c⟩
  ·have a:(t.blocks++[⟨t.s.cur,fin,cond,n,t.fk,state⟩])[b]? =some B:=f;by_cases hb:b<t.blocks.length
   ·rw[UF hb]at a;exact .inl ⟨B,a,c⟩
   ·have d:=(ke.1 a).1;simp at d;have e:b=t.blocks.length:=by omega
    subst e;rw[wBB]at a;obtain rfl:=Option.some.inj a;exact .inr ⟨rfl,c⟩
  ·cases c
theorem qv.end_(e:qv D pr nx E t) {fin cond:Nat} {n:List Nat} {state:Nat} {fk:List Nat} (u:n=nx t.blocks.length) (hp:fk=pr (t.blocks.length+1)) (k:Fin D t t.blocks.length ⟨t.s.cur,fin,cond,n,t.fk,state⟩) (y:∀w∈t.s.known,Kn D t (t.blocks.length+1) w) :
  qv D pr nx E (end_ t fin cond n state fk)/\(Un.end_ t fin cond n state fk).blocks.length=t.blocks.length+1:=by
 have c:=KS t fin cond n state fk;have hlen:(Un.end_ t fin cond n state fk).blocks.length=t.blocks.length+1:=by simp[Un.end_]
 refine⟨⟨?_,λv x h=>(e.O9 v x h).mono c.1 (ke.1 h).1,λv x h z=>?_,λb B h=>?_,λs fs h=>?_,?_,e.ne,λw g=>?_⟩,hlen⟩
 ·show(t.blocks++[(⟨t.s.cur,fin,cond,n,t.fk,state⟩:Bk)]).flatMap (·.ee)++[]=List.range t.s.ee.length;rw[ wA2,<-e.cat];simp
 ·let⟨b,l,m,i⟩:=e.ph v x h z
  exact⟨b,c.1.ow _ _ l,m,λr=>⟨(i r).1,λj w q e1 e2=>((i r).2 j w q e1 e2).mono c.1⟩⟩
 ·have d:(t.blocks++[⟨t.s.cur,fin,cond,n,t.fk,state⟩])[b]? =some B:=h;by_cases hb:b<t.blocks.length
  ·rw[UF hb]at d;exact⟨(e.bk b B d).1,(e.bk b B d).2.1,(e.bk b B d).2.2.mono c.1⟩
  ·have o:=(ke.1 d).1;simp at o;have p:b=t.blocks.length:=by omega
   subst p;rw[wBB]at d;obtain rfl:=Option.some.inj d;exact⟨u,e.pc,k.mono c.1⟩
 ·let⟨l,m⟩:=e.st s fs h
  refine⟨l,λf k=>?_⟩
  let⟨i,A,C,F⟩:=m f k
  exact⟨i,A,λw g=>(C w g).imp λa h=>h.mono c.1,λw g=>(F w g).imp λa h=>h.mono c.1⟩
 ·rw[hlen];exact hp
 ·rw[hlen];exact(y w g).mono c.1
theorem qv.cut(b:qv D pr nx E t) {l:List Nat} (nw:l≠[]) (a:∃k,t.s.known=l++k):qv D pr nx E (on t (cut l.length t.s))/\(on t (Un.cut l.length t.s)).s.known=l/\Lx t (on t (Un.cut l.length t.s)):=by
 let⟨k,a⟩:=a
 have e:t.s.known.take l.length=l:=by rw[a];simp
 have c:=b.Wg (λw d=>b.kn w (by simp_all)) nw;have e2:on t (Un.cut l.length t.s) = {t with s:={t.s with known:=l} }:=by
  unfold on Un.cut;rw[e]
 rw[e2];exact⟨c,rfl,⟨⟨λ_ _ h=>h,λ_ _ _ h=>h,by simp_all,by simp_all⟩,jJ _⟩⟩
theorem Me{D:Nat->Nat}{a b:Nat}(h0:b≠0)(h:D b=a):tf D a b:= .up h0 (by rw[h];exact .refl _)
theorem Xj(a:qv D pr nx E t) {args:List Nat} (hc:t.s.cur=[]\/∀w∈t.s.cur,∃y,t.s.ee[w]? =some y/\iV y.op=true) (h0:t.blocks.length≠0) (hp:¬E t.s.ee.length->zfA D t (pr t.blocks.length) (vl 21 0 0 0 args 0)) :
  qv D pr nx E (on t (put t.s (vl 21 0 0 0 args 0)))/\Lx t (on t (put t.s (vl 21 0 0 0 args 0)))/\Kn D (on t (put t.s (vl 21 0 0 0 args 0))) t.blocks.length t.s.ee.length/\Ow (on t (put t.s (vl 21 0 0 0 args 0))) t.s.ee.length t.blocks.length:=by
 let⟨b,c⟩:=a.put (x:=vl 21 0 0 0 args 0) (by simp[vl]) (by grind[vl]) (by grind[vl]) (λh=>absurd rfl h) (by grind[vl,leaves]) (by grind) (by simp_all)
 exact⟨b,⟨TW t _,by show _<=(t.s.ee++[_]).length;simp⟩,c rfl,.inr ⟨rfl,by show t.s.ee.length∈t.s.cur++[t.s.ee.length];simp⟩⟩
theorem zeS(e:qv D pr nx E t) (ops:List Int) (n0:nx t.blocks.length=[t.blocks.length+1,t.blocks.length+2]) (Y:nx (t.blocks.length+1)=[t.blocks.length+3]) (Z:nx (t.blocks.length+2)=[t.blocks.length+3])
  (p1:pr (t.blocks.length+1)=[t.blocks.length]) (p2:pr (t.blocks.length+2)=[t.blocks.length]) (p3:pr (t.blocks.length+3)=[t.blocks.length+1,t.blocks.length+2])
  (d1:D (t.blocks.length+1)=t.blocks.length) (d2:D (t.blocks.length+2)=t.blocks.length) (d3:D (t.blocks.length+3)=t.blocks.length) :
  qv D pr nx E (fork ops t)/\(fork ops t).blocks.length=t.blocks.length+3:=by
 generalize g:t.blocks.length=a at*;have hc:=CD ops e.ne;have u:qv D pr nx E (on t (fT ops t.s).2):=e.at_ _;have v:Lx t (on t (fT ops t.s).2):=(Gw.pos t _).lx;have z:(on t (fT ops t.s).2).s.known=t.s.known:=rfl;unfold fork;simp only;rw[g];generalize A:(fT ops t.s).1=cond at*;generalize (fT ops t.s).2=s0 at*;have e0:{t with s:=s0} = on t s0:=rfl;rw[e0];have i:(on t s0).blocks.length=a:=g
 let ⟨m1,Q⟩:=u.end_ (cond:=cond) (n:=[a+1,a+2]) (state:=0) (fk:=[a]) (by simp_all) (by simp_all) (.inr (.inl ⟨rfl,rfl,by rw[ <-g];exact(e.kn cond hc).mono v.1⟩))
  (λw d=>by rw[i];exact((by rw[<-g];exact(e.kn w (by simp_all)).mono v.1:Kn D (on t s0) a w)).up (Me (by omega) d1))
 rw[i]at Q;have x1:=v.trans (KS (on t s0) 2 cond [a+1,a+2] 0 [a]);have B:(Un.end_ (on t s0) 2 cond [a+1,a+2] 0 [a]).s.known=t.s.known:=z;generalize Un.end_ (on t s0) 2 cond [a+1,a+2] 0 [a]=b at*
 let⟨C,F⟩:=m1.row ops
 have x2:=x1.trans F.lx;have R:(on b (row ops b.s)).blocks.length=a+1:=by rw[F.blocks];exact Q
 have kx:=C.kn _ (My C.ne)
 let⟨k2,hk2⟩:=F.known
 rw[B]at hk2;have eX:(row ops b.s).known.getLastD 0=(on b (row ops b.s)).s.known.getLastD 0:=rfl;rw[eX];generalize (on b (row ops b.s)).s.known.getLastD 0=x at*
 let⟨m3,hk3,k⟩:=C.cut e.ne ⟨k2,hk2⟩
 have S:=x2.trans k;have m:=kx.mono k.1;rw[R]at m;have e3:{b with s:=Un.cut t.s.known.length (row ops b.s)} = on (on b (row ops b.s)) (Un.cut t.s.known.length (on b (row ops b.s)).s):=rfl;rw[e3];have G:(on (on b (row ops b.s)) (Un.cut t.s.known.length (on b (row ops b.s)).s)).blocks.length=a+1:=R;generalize on (on b (row ops b.s)) (Un.cut t.s.known.length (on b (row ops b.s)).s)=t3 at*
 let ⟨m4,T⟩:=m3.end_ (cond:=0) (n:=[a+3]) (state:=0) (fk:=[a]) (by rw[G,Y]) (by simp_all) (.inl ⟨rfl,rfl⟩)
  (λw d=>by rw[G];exact((by rw[<-g];exact(e.kn w (by simp_all)).mono S.1:Kn D t3 a w)).up (Me (by omega) d2))
 rw[G]at T;have U:=KS t3 1 0 [a+3] 0 [a];have x4:=S.trans U;have H:=m.mono U.1;have I:(Un.end_ t3 1 0 [a+3] 0 [a]).s.known=t.s.known:=hk3;generalize Un.end_ t3 1 0 [a+3] 0 [a]=c at*
 let⟨J,p⟩:=m4.row ops
 have x5:=x4.trans p.lx;have K:=H.mono p.le;have V:(on c (row ops c.s)).blocks.length=a+2:=by rw[p.blocks];exact T
 have ky:=J.kn _ (My J.ne)
 let⟨k5,hk5⟩:=p.known
 rw[I]at hk5;have eY:(row ops c.s).known.getLastD 0=(on c (row ops c.s)).s.known.getLastD 0:=rfl;rw[eY];generalize (on c (row ops c.s)).s.known.getLastD 0=y at*
 let⟨m6,hk6,f⟩:=J.cut e.ne ⟨k5,hk5⟩
 have x6:=x5.trans f;have L:=K.mono f.1;have o:=ky.mono f.1;rw[V]at o;have e6:{c with s:=Un.cut t.s.known.length (row ops c.s)} = on (on c (row ops c.s)) (Un.cut t.s.known.length (on c (row ops c.s)).s):=rfl;rw[e6];have M:(on (on c (row ops c.s)) (Un.cut t.s.known.length (on c (row ops c.s)).s)).blocks.length=a+2:=V;generalize on (on c (row ops c.s)) (Un.cut t.s.known.length (on c (row ops c.s)).s)=t6 at*
 let ⟨m7,N⟩:=m6.end_ (cond:=0) (n:=[a+3]) (state:=0) (fk:=[a+1,a+2]) (by rw[M,Z]) (by simp_all) (.inl ⟨rfl,rfl⟩)
  (λw d=>by rw[M];exact((by rw[<-g];exact(e.kn w (by simp_all)).mono x6.1:Kn D t6 a w)).up (Me (by omega) d3))
 rw[M]at N;have W:=KS t6 1 0 [a+3] 0 [a+1,a+2];have aa:=L.mono W.1;have ab:=o.mono W.1;have O:(Un.end_ t6 1 0 [a+3] 0 [a+1,a+2]).s.cur=[]:=rfl;generalize Un.end_ t6 1 0 [a+3] 0 [a+1,a+2]=t7 at*
 let ⟨X,y8,kn8,_⟩:=Xj m7 (args:=[x,y]) (.inl O) (by omega) (λ_=>by
  rw[N,p3];refine⟨rfl,λj w q h r=>?_⟩
  match j,h,r with
  | 0,h,r=>
    obtain rfl:x=w:=by simpa[vl]using h
    simp_all
  | 1,h,r=>
    obtain rfl:y=w:=by simpa[vl]using h
    simp_all
  |j+2,h,r=>simp_all)
 have m9:=X.Wg (l:=t7.s.known++[t7.s.ee.length]) (λw d=>by
  rcases yX.1 d with d|d
  ·exact X.kn w d
  ·simp at d;subst d;exact kn8) (by simp)
 let⟨P,_⟩:=m9.row ops
 exact⟨P,N⟩
theorem zeC(c:qv D pr nx E t) (ops:List Int) (O:nx t.blocks.length=[t.blocks.length+1,t.blocks.length+2]) (P:nx (t.blocks.length+1)=[])
  (p1:pr (t.blocks.length+1)=[t.blocks.length]) (p2:pr (t.blocks.length+2)=[t.blocks.length]) (d1:D (t.blocks.length+1)=t.blocks.length) (d2:D (t.blocks.length+2)=t.blocks.length) :
  qv D pr nx E (Ai ops t)/\(Ai ops t).blocks.length=t.blocks.length+2:=by
 generalize e:t.blocks.length=a at*;have hc:=CD ops c.ne;have l:qv D pr nx E (on t (fT ops t.s).2):=c.at_ _;have m:Lx t (on t (fT ops t.s).2):=(Gw.pos t _).lx;have o:(on t (fT ops t.s).2).s.known=t.s.known:=rfl;unfold Ai;simp only;rw[e];generalize p:(fT ops t.s).1=cond at*;generalize (fT ops t.s).2=s0 at*;have e0:{t with s:=s0} = on t s0:=rfl;rw[e0];have f:(on t s0).blocks.length=a:=e
 let ⟨m1,v⟩:=l.end_ (cond:=cond) (n:=[a+1,a+2]) (state:=0) (fk:=[a]) (by simp_all) (by simp_all) (.inr (.inl ⟨rfl,rfl,by rw[ <-e];exact(c.kn cond hc).mono m.1⟩))
  (λw d=>by rw[f];exact((by rw[<-e];exact(c.kn w (by simp_all)).mono m.1:Kn D (on t s0) a w)).up (by grind[Me]))
 rw[f]at v;have C:=m.trans (KS (on t s0) 2 cond [a+1,a+2] 0 [a]);have q:(Un.end_ (on t s0) 2 cond [a+1,a+2] 0 [a]).s.known=t.s.known:=o;generalize Un.end_ (on t s0) 2 cond [a+1,a+2] 0 [a]=b at*
 let⟨F,r⟩:=m1.row ops
 have G:=C.trans r.lx;have x:(on b (row ops b.s)).blocks.length=a+1:=by rw[r.blocks];exact v
 let⟨y,hk2⟩:=r.known
 rw[q]at hk2
 let⟨z,H,hk3,_,_,fs,hfs,hin⟩:=F.state ops
 have I:=G.trans H.lx;have J:(on (on b (row ops b.s)) (fI ops (on b (row ops b.s)).s).2).blocks.length=a+1:=x;have eS:fI ops (row ops b.s)=fI ops (on b (row ops b.s)).s:=rfl;rw[eS];have g:(on (on b (row ops b.s)) (fI ops (on b (row ops b.s)).s).2).s.known=t.s.known++y:=by
  show(fI ops (on b (row ops b.s)).s).2.known=_;rw[hk3,hk2]
 have h:∀w∈gB fs,Kn D (on (on b (row ops b.s)) (fI ops (on b (row ops b.s)).s).2) (a+1) w:=λw d=>by
  rw[<-J];refine z.kn w ?_
  simp_all
 let⟨K,hk4,i⟩:=z.cut c.ne ⟨y,g⟩
 have x4:=I.trans i;generalize (fI ops (on b (row ops b.s)).s).1=st at*;have L:{b with s:=Un.cut t.s.known.length (fI ops (on b (row ops b.s)).s).2} = on (on (on b (row ops b.s)) (fI ops (on b (row ops b.s)).s).2) (Un.cut t.s.known.length (on (on b (row ops b.s)) (fI ops (on b (row ops b.s)).s).2).s):=rfl;rw[L];have j:(on (on (on b (row ops b.s)) (fI ops (on b (row ops b.s)).s).2) (Un.cut t.s.known.length (on (on b (row ops b.s)) (fI ops (on b (row ops b.s)).s).2).s)).s.eE[st]? =some fs:=hfs;have k:=λw d=>(h w d).mono i.1;have u:(on (on (on b (row ops b.s)) (fI ops (on b (row ops b.s)).s).2) (Un.cut t.s.known.length (on (on b (row ops b.s)) (fI ops (on b (row ops b.s)).s).2).s)).blocks.length=a+1:=x;generalize on (on (on b (row ops b.s)) (fI ops (on b (row ops b.s)).s).2) (Un.cut t.s.known.length (on (on b (row ops b.s)) (fI ops (on b (row ops b.s)).s).2).s)=A at*
 let ⟨M,B⟩:=K.end_ (cond:=0) (fk:=[a]) (by simp_all) (by simp_all) (.inr (.inr ⟨rfl,rfl,fs,j,λw d=>by rw[u];exact k w d⟩))
  (λw d=>by rw[u];exact((by rw[<-e];exact(c.kn w (by simp_all)).mono x4.1:Kn D A a w)).up (by grind[Me]))
 rw[u]at B;generalize Un.end_ A 3 0 [] st [a]=t5 at*
 let⟨N,_⟩:=M.row ops
 exact⟨N,B⟩
theorem zfr(t:Dt) (v:Nat) (args:List Nat):Lx t (on t (setArgs t.s v args)):=by
 refine⟨⟨λ_ _ h=>h,λ_ _ _ h=>h,λw x h=>?_,λ_ _ h=>h⟩,by show _<=(t.s.ee.modify v _).length;simp_all⟩;show ∃y,(t.s.ee.modify v λx=>{x with args:=args})[w]? =some y/\y.op=x.op
 grind
theorem KU(e:qv D pr nx E t) {v b:Nat} {x:Vl} {args:List Nat} (hv:t.s.ee[v]? =some x) (H:x.op=21) (z:Ow t v b) (h0:b≠0) (hp:args.length=(pr b).length/\∀(j w q:Nat),args[j]? =some w->(pr b)[j]? =some q->Kn D t q w) (I:∀w,w≠v->¬E' w->¬E w) :
  qv D pr nx E' (on t (setArgs t.s v args))/\Lx t (on t (setArgs t.s v args)):=by
 have d:=zfr t v args;refine⟨?_,d⟩;have g:∀w y,(on t (setArgs t.s v args)).s.ee[w]? =some y->(w≠v/\t.s.ee[w]? =some y)\/(w=v/\y = {x with args:=args}):=λw y h=>by
  have h':(t.s.ee.modify v λx=>{x with args:=args})[w]? =some y:=h
  grind
 have i:=(ke.1 hv).1;refine⟨by show t.blocks.flatMap (λB:Bk=>B.ee)++t.s.cur=List.range (t.s.ee.modify v _).length;rw[List.length_modify];exact e.cat,λw y h=>?_,λw y h n=>?_,λc B h=>⟨(e.bk c B h).1,(e.bk c B h).2.1,(e.bk c B h).2.2.mono d.1⟩,λs fs h=>?_,e.pc,e.ne,λw k=>(e.kn w k).mono d.1⟩
 ·rcases g w y h with⟨_,h⟩|⟨rfl,rfl⟩
  ·exact(e.O9 w y h).mono d.1 (by grind)
  ·have r:=(e.O9 w x hv).mono d.1 i
   let⟨c,l,_,_,o⟩:=r.own
   refine⟨r.op,λh=>?_,λh=>?_,c,l,by simp_all,λh=>?_,o⟩
   ·simp_all
   ·simp_all
   simp_all
 ·rcases g w y h with⟨nw,h⟩|⟨rfl,rfl⟩
  ·let⟨c,l,p,m⟩:=e.ph w y h n
   exact⟨c,l,p,λA=>⟨(m (by simp_all)).1,λj u q e1 e2=>((m (by simp_all)).2 j u q e1 e2).mono d.1⟩⟩
  ·exact⟨b,z,h0,λ_=>⟨hp.1,λj u q e1 e2=>(hp.2 j u q e1 e2).mono d.1⟩⟩
 ·let⟨l,p⟩:=e.st s fs h
  refine⟨l,λf C=>?_⟩
  let⟨m,o,F,G⟩:=p f C
  exact⟨m,o,λw k=>(F w k).imp λa h=>h.mono d.1,λw k=>(G w k).imp λa h=>h.mono d.1⟩
theorem N9{P:Nat->Nat->Prop} {x y q r:Nat} (a:P q x) (b:P r y):([x,y]:List Nat).length=([q,r]:List Nat).length/\∀(j w p:Nat),([x,y]:List Nat)[j]? =some w->([q,r]:List Nat)[j]? =some p->P p w:=by
 grind
structure Hd (D:Nat->Nat) (t b:Dt) (p f g less a:Nat):Prop where
 lx:Lx t b
 blocks:b.blocks.length=a+2
 kf:Kn D b a f
 kg:Kn D b a g
 kl:Kn D b (a+1) less
 op:Ow b p (a+1)
 oq:Ow b (p+1) (a+1)
 vp:∃x,b.s.ee[p]? =some x/\x.op=21
 vq:∃x,b.s.ee[p+1]? =some x/\x.op=21
 kn:∀w∈b.s.known,Kn D b (a+1) w
end
section
variable{D:Nat->Nat}{pr nx:Nat->List Nat}{E E':Nat->Prop}{t:Dt}
set_option maxHeartbeats 2000000 in
theorem zdr (hM:qv D pr nx E t) (ops:List Int) (n0:nx t.blocks.length=[t.blocks.length+1]) (n1:nx (t.blocks.length+1)=[t.blocks.length+2,t.blocks.length+3]) (n2:nx (t.blocks.length+2)=[t.blocks.length+1])
  (p1:pr (t.blocks.length+1)=[t.blocks.length,t.blocks.length+2]) (p2:pr (t.blocks.length+2)=[t.blocks.length+1]) (p3:pr (t.blocks.length+3)=[t.blocks.length+1])
  (d1:D (t.blocks.length+1)=t.blocks.length) (d2:D (t.blocks.length+2)=t.blocks.length+1) (d3:D (t.blocks.length+3)=t.blocks.length+1) :
  qv D pr nx E (loop ops t)/\(loop ops t).blocks.length=t.blocks.length+3:=by
 generalize ha:t.blocks.length=a at*;have hf:=CD ops hM.ne;have bg:qv D pr nx E (on t (fT ops t.s).2):=hM.at_ _;have x0:Lx t (on t (fT ops t.s).2):=(Gw.pos t _).lx;have aH:(on t (fT ops t.s).2).s.known=t.s.known:=rfl;unfold loop;simp only;rw[ha];generalize bJ:(fT ops t.s).1=f at*;generalize (fT ops t.s).2=s0 at*;have e0:{t with s:=s0} = on t s0:=rfl;rw[e0];have V:(on t s0).blocks.length=a:=ha
 obtain ⟨bi,b1⟩:=bg.end_ (fin:=1) (cond:=0) (n:=[a+1]) (state:=0) (fk:=[a,a+2]) (by rw[V,n0]) (by rw[V,p1]) (.inl ⟨rfl,rfl⟩)
  (λw i=>by rw[V];exact((by rw[<-ha];exact(hM.kn w (by rw[<-aH];exact i)).mono x0.1:Kn D (on t s0) a w)).up (Me (by omega) d1))
 rw[V]at b1;have x1:=x0.trans (KS (on t s0) 1 0 [a+1] 0 [a,a+2]);have aI:(Un.end_ (on t s0) 1 0 [a+1] 0 [a,a+2]).s.known=t.s.known:=aH;have aJ:(Un.end_ (on t s0) 1 0 [a+1] 0 [a,a+2]).s.cur=[]:=rfl;generalize Un.end_ (on t s0) 1 0 [a+1] 0 [a,a+2]=c at*;generalize hp:c.s.ee.length=p at*;have m1:=bi.weaken (E':=λv=>E v\/v=p\/v=p+1) λv h=> .inl h;obtain⟨m2,y2,_,ag⟩:=Xj m1 (args:=[f,0]) (.inl aJ) (by omega) (λh=>absurd (.inr (.inl hp)) h);rw[hp,b1]at ag;have v2:(on c (put c.s (vl 21 0 0 0 [f,0] 0))).s.ee.length=p+1:=by show(c.s.ee++[_]).length=_;simp[hp]
 have aK:∃x,(on c (put c.s (vl 21 0 0 0 [f,0] 0))).s.ee[p]? =some x/\x.op=21:=⟨vl 21 0 0 0 [f,0] 0,by show(c.s.ee++[_])[p]? =_;rw[<-hp];simp,rfl⟩
 have bj:(on c (put c.s (vl 21 0 0 0 [f,0] 0))).s.known=t.s.known:=aI;have ah:(on c (put c.s (vl 21 0 0 0 [f,0] 0))).s.cur=[p]:=by show c.s.cur++[c.s.ee.length]=_;rw[aJ,hp];rfl
 have b2:(on c (put c.s (vl 21 0 0 0 [f,0] 0))).blocks.length=a+1:=b1;have x2:=x1.trans y2;have hg:=CD ops m2.ne;rw[bj]at hg;have eG:fT ops (put c.s (vl 21 0 0 0 [f,0] 0))=fT ops (on c (put c.s (vl 21 0 0 0 [f,0] 0))).s:=rfl;rw[eG];have m3:qv D pr nx (λv=>E v\/v=p\/v=p+1) (on (on c (put c.s (vl 21 0 0 0 [f,0] 0))) (fT ops (on c (put c.s (vl 21 0 0 0 [f,0] 0))).s).2):=m2.at_ _;have g3:Gw (on c (put c.s (vl 21 0 0 0 [f,0] 0))) (on (on c (put c.s (vl 21 0 0 0 [f,0] 0))) (fT ops (on c (put c.s (vl 21 0 0 0 [f,0] 0))).s).2):=Gw.pos _ _;have v3:(fT ops (on c (put c.s (vl 21 0 0 0 [f,0] 0))).s).2.ee.length=p+1:=v2;have aL:(fT ops (on c (put c.s (vl 21 0 0 0 [f,0] 0))).s).2.known=t.s.known:=aI;have ai:(fT ops (on c (put c.s (vl 21 0 0 0 [f,0] 0))).s).2.cur=[p]:=ah;have aj:∃x,(fT ops (on c (put c.s (vl 21 0 0 0 [f,0] 0))).s).2.ee[p]? =some x/\x.op=21:=aK;generalize (fT ops (on c (put c.s (vl 21 0 0 0 [f,0] 0))).s).1=g at*;generalize (fT ops (on c (put c.s (vl 21 0 0 0 [f,0] 0))).s).2=j at*;have x3:Lx t (on c j):=x2.trans g3.lx;have aM:Ow (on c j) p (a+1):=g3.le.ow _ _ ag;have m3:qv D pr nx (λv=>E v\/v=p\/v=p+1) (on c j):=m3;have b3:(on c j).blocks.length=a+1:=b1;obtain⟨m4,y4,ak,al⟩:=Xj m3 (args:=[g,p]) (.inr λw i=>by
  have M:w∈j.cur:=i;rw[ai]at M;simp at M;subst M;obtain⟨x,H,I⟩:=aj;exact⟨x,H,by rw[I];rfl⟩) (by omega) (λh=>absurd (.inr (.inr v3)) h)
 have bm:(on c j).s.ee.length=p+1:=v3;rw[bm,b3]at ak al;have x4:=x3.trans y4;have am:=y4.1.ow _ _ aM;have an:∃x,(on (on c j) (put (on c j).s (vl 21 0 0 0 [g,p] 0))).s.ee[p]? =some x/\x.op=21:=by
  obtain⟨x,H,I⟩:=aj;obtain⟨y,W,X⟩:=y4.1.val p x H;exact⟨y,W,by rw[X,I]⟩
 have aN:∃x,(on (on c j) (put (on c j).s (vl 21 0 0 0 [g,p] 0))).s.ee[p+1]? =some x/\x.op=21:=⟨vl 21 0 0 0 [g,p] 0,by show(j.ee++[_])[p+1]? =_;rw[<-v3];simp,rfl⟩
 have aO:Kn D (on (on c j) (put (on c j).s (vl 21 0 0 0 [g,p] 0))) (a+1) p:=by
  obtain⟨x,H,I⟩:=an;exact⟨_,x,am,.refl _,H,by rw[I];rfl⟩
 have m5:=m4.Wg (l:=t.s.known++[p,p+1]) (λw i=>by
  rcases yX.1 i with i|i
  ·exact m4.kn w (by show w∈j.known;rw[aL];exact i)
  ·have b4:(on (on c j) (put (on c j).s (vl 21 0 0 0 [g,p] 0))).blocks.length=a+1:=b1;rw[b4];simp at i;rcases i with rfl|rfl
   ·exact aO
   ·exact ak) (by simp)
 have e5:{put j (vl 21 0 0 0 [g,p] 0)with known:=(put j (vl 21 0 0 0 [g,p] 0)).known++[p,p+1]} = {put j (vl 21 0 0 0 [g,p] 0)with known:=t.s.known++[p,p+1]}:=by
  have:(put j (vl 21 0 0 0 [g,p] 0)).known=t.s.known:=aL;rw[this]
 rw[e5];have m5:qv D pr nx (λv=>E v\/v=p\/v=p+1) (on c {put j (vl 21 0 0 0 [g,p] 0)with known:=t.s.known++[p,p+1]}):=m5;have x5:Lx t (on c {put j (vl 21 0 0 0 [g,p] 0)with known:=t.s.known++[p,p+1]}):=⟨⟨x4.1.ow,x4.1.back,x4.1.val,x4.1.st⟩,x4.2⟩
 have aP:Ow (on c {put j (vl 21 0 0 0 [g,p] 0)with known:=t.s.known++[p,p+1]}) p (a+1):=am;have aQ:Ow (on c {put j (vl 21 0 0 0 [g,p] 0)with known:=t.s.known++[p,p+1]}) (p+1) (a+1):=al;have aR:∃x,(on c {put j (vl 21 0 0 0 [g,p] 0)with known:=t.s.known++[p,p+1]}).s.ee[p]? =some x/\x.op=21:=an;have aS:∃x,(on c {put j (vl 21 0 0 0 [g,p] 0)with known:=t.s.known++[p,p+1]}).s.ee[p+1]? =some x/\x.op=21:=aN;have bo:(on c {put j (vl 21 0 0 0 [g,p] 0)with known:=t.s.known++[p,p+1]}).s.known=t.s.known++[p,p+1]:=rfl;clear m4 y4 x4 am al an aN ak aO m3 m2 y2 g3 ag aM aK aj e5;generalize bK:({put j (vl 21 0 0 0 [g,p] 0)with known:=t.s.known++[p,p+1]}:Ds)=G at*;obtain⟨m6,g6,aT,_,_,fs,h5,h6⟩:=m5.state ops;have eS:fI ops G=fI ops (on c G).s:=rfl;rw[eS];obtain⟨m7,g7,_⟩:=m6.Yd (x:=vl 23 0 0 0 [] (fI ops (on c G).s).1) (by simp only[vl];omega) (λh=>by simp only[vl]at h;omega) (λw i=>by simp[jn,vl,two,uk]at i) (λ_=>⟨fs,h5,λw i=>by show w∈(fI ops (on c G).s).2.known;rw[aT];exact h6 w i⟩);have Y:=g6.trans g7;have m7:qv D pr nx (λv=>E v\/v=p\/v=p+1) (on c (put (fI ops (on c G).s).2 (vl 23 0 0 0 [] (fI ops (on c G).s).1))):=m7;have Y:Gw (on c G) (on c (put (fI ops (on c G).s).2 (vl 23 0 0 0 [] (fI ops (on c G).s).1))):=Y;have br:(put (fI ops (on c G).s).2 (vl 23 0 0 0 [] (fI ops (on c G).s).1)).known=t.s.known++[p,p+1]:=by show(fI ops (on c G).s).2.known=_;rw[aT];exact bo
 generalize put (fI ops (on c G).s).2 (vl 23 0 0 0 [] (fI ops (on c G).s).1)=N at*;obtain⟨m8,g8,o⟩:=m7.Yd (x:=vl 2 0 0 1 [] 0) (by simp only[vl];omega) (λh=>by simp only[vl]at h;omega) (λw i=>by simp[jn,vl,two,uk]at i) (λh=>by simp[vl,leaves]at h);have b8:(on c N).blocks.length=a+1:=b1;have o:=o rfl;rw[b8]at o;have m8:qv D pr nx (λv=>E v\/v=p\/v=p+1) (on c (put N (vl 2 0 0 1 [] 0))):=m8;have g8:Gw (on c N) (on c (put N (vl 2 0 0 1 [] 0))):=g8;have o:Kn D (on c (put N (vl 2 0 0 1 [] 0))) (a+1) N.ee.length:=o;have v8:(put N (vl 2 0 0 1 [] 0)).ee.length=N.ee.length+1:=by simp[put]
 have aU:(put N (vl 2 0 0 1 [] 0)).known=t.s.known++[p,p+1]:=br;generalize bI:N.ee.length=one at*;generalize put N (vl 2 0 0 1 [] 0)=A at*;have b8:(on c A).blocks.length=a+1:=b1;have ao:p∈(on c A).s.known:=by show p∈A.known;rw[aU];simp
 obtain ⟨m9,k⟩:=m8.put (x:=vl 4 p one 0 [] 0) (by simp[vl]) (λh=>by simp[vl]at h) (λh=>by simp[vl]at h) (λ_ w i=>by
  have M:w=p\/w=one:=by simpa[jn,vl,two]using i
  rcases M with rfl|rfl
  ·exact m8.kn _ ao
  ·rw[b8];exact o) (λh=>by simp[vl,leaves]at h) (λh=>by simp[vl,iV]at h) (λh=>by simp[vl]at h)
 have y9:Lx (on c A) (Xn (on c A) (vl 4 p one 0 [] 0)):=⟨TW _ _,by show _<=(A.ee++[_]).length;simp[on]⟩
 have k:=k rfl;have O:=m9.Wg (l:=A.known++[A.ee.length]) (λw i=>by
  rcases yX.1 i with i|i
  ·exact m9.kn w i
  ·simp at i;subst i;exact k) (by simp)
 have O:qv D pr nx (λv=>E v\/v=p\/v=p+1) (on c (il A (vl 4 p one 0 [] 0))):=O;have k:Kn D (on c (il A (vl 4 p one 0 [] 0))) (a+1) (one+1):=by
  rw[<-v8,<-b8];exact k
 have y9:Lx (on c A) (on c (il A (vl 4 p one 0 [] 0))):=⟨⟨y9.1.ow,y9.1.back,y9.1.val,y9.1.st⟩,y9.2⟩
 have aV:(il A (vl 4 p one 0 [] 0)).known=t.s.known++[p,p+1]++[A.ee.length]:=by show A.known++_=_;rw[aU]
 have Q:=((Y.lx.trans g8.lx).trans y9)
 have bt:=x5.trans Q;generalize il A (vl 4 p one 0 [] 0)=d at*;have aW:=Q.1.ow _ _ aP;have aX:=Q.1.ow _ _ aQ;have aY:∃x,(on c d).s.ee[p]? =some x/\x.op=21:=by
  obtain⟨x,H,I⟩:=aR;obtain⟨y,W,X⟩:=Q.1.val p x H;exact⟨y,W,by rw[X,I]⟩
 have aZ:∃x,(on c d).s.ee[p+1]? =some x/\x.op=21:=by
  obtain⟨x,H,I⟩:=aS;obtain⟨y,W,X⟩:=Q.1.val (p+1) x H;exact⟨y,W,by rw[X,I]⟩
 clear m9 m8 m7 m6 m5 Y g6 g7 g8 y9 o h5 h6 x5 aP aQ aR aS;have bu:{c with s:=d} = on c d:=rfl;rw[bu];have J:(on c d).blocks.length=a+1:=b1;have R:∀w∈d.known,Kn D (on c d) (a+1) w:=λw i=>by rw[<-J];exact O.kn w i
 have ao:p∈d.known:=by rw[aV];simp
 obtain ⟨bw,aq⟩:=O.end_ (fin:=2) (cond:=p) (n:=[a+2,a+3]) (state:=0) (fk:=[a+1]) (by rw[J,n1]) (by rw[J];exact p2.symm) (.inr (.inl ⟨rfl,rfl,by rw[J];exact R p ao⟩))
  (λw i=>by rw[J];exact(R w i).up (Me (by omega) d2))
 rw[J]at aq;have bx:=KS (on c d) 2 p [a+2,a+3] 0 [a+1];have a0:(Un.end_ (on c d) 2 p [a+2,a+3] 0 [a+1]).s.known=d.known:=rfl;generalize Un.end_ (on c d) 2 p [a+2,a+3] 0 [a+1]=e at*;obtain⟨ar,au⟩:=bw.row ops;have B:=bx.trans au.lx;have a1:=bt.trans B;have bz:(on e (row ops e.s)).blocks.length=a+2:=by rw[au.blocks];exact aq
 have kz:=ar.kn _ (My ar.ne);rw[bz]at kz;obtain⟨K,aa⟩:=au.known;rw[a0]at aa;have kz:Kn D (on e (row ops e.s)) (a+2) ((row ops e.s).known.getLastD 0):=kz;have ab:=B.1.ow _ _ aW;have a2:=B.1.ow _ _ aX;have a3:∃x,(on e (row ops e.s)).s.ee[p]? =some x/\x.op=21:=by
  obtain⟨x,H,I⟩:=aY;obtain⟨y,W,X⟩:=B.1.val p x H;exact⟨y,W,by rw[X,I]⟩
 have a4:∃x,(on e (row ops e.s)).s.ee[p+1]? =some x/\x.op=21:=by
  obtain⟨x,H,I⟩:=aZ;obtain⟨y,W,X⟩:=B.1.val (p+1) x H;exact⟨y,W,by rw[X,I]⟩
 have S:=(k.mono B.1).up (Me (D:=D) (a:=a+1) (b:=a+2) (by omega) d2);have a5:∀w∈d.known,Kn D (on e (row ops e.s)) (a+1) w:=λw i=>(R w i).mono B.1;have ac:Kn D (on e (row ops e.s)) a f:=by rw[<-ha];exact(hM.kn f hf).mono a1.1
 have a6:Kn D (on e (row ops e.s)) a g:=by rw[<-ha];exact(hM.kn g hg).mono a1.1
 have aw:(row ops e.s).known=d.known++K:=aa;generalize (row ops e.s).known.getLastD 0=z at*;generalize row ops e.s=r at*;obtain⟨xp,a7,ad⟩:=a3;obtain⟨ax,ay⟩:=KU (E':=λv=>E v\/v=p+1) ar a7 ad ab (by omega) (args:=[f,one+1]) (by rw[p1];exact N9 (P:=λq w=>Kn D (on e r) q w) ac S) (λw nw hE=>by
  rintro(h|h|h)
  ·exact hE (.inl h)
  ·exact nw h
  ·exact hE (.inr h))
 have ax:qv D pr nx (λv=>E v\/v=p+1) (on e (setArgs r p [f,one+1])):=ax;have ay:Lx (on e r) (on e (setArgs r p [f,one+1])):=ay;have a8:(setArgs r p [f,one+1]).known=d.known++K:=aw;generalize setArgs r p [f,one+1]=C at*;have a9:qv D pr nx (λv=>E v\/v=p+1) (on e (num ops C 3).2):=ax.at_ _;have L:Lx (on e r) (on e (num ops C 3).2):=ay.trans (Gw.pos (on e C) (draw ops C.pos 3).2).lx;have ae:(num ops C 3).2.known=d.known++K:=a8;generalize (num ops C 3).1=dd at*;generalize (num ops C 3).2=az at*;have aA:∃u,(if dd=0 then setArgs az p [f,z] else az)=u/\qv D pr nx (λv=>E v\/v=p+1) (on e u)/\Lx (on e r) (on e u)/\u.known=d.known++K:=by
  by_cases hd:dd=0
  ·rw[if_pos hd];obtain⟨bL,ba,aB⟩:=L.1.val p xp a7;obtain⟨m,y⟩:=KU (E':=λv=>E v\/v=p+1) a9 ba (by rw[aB,ad]) (L.1.ow _ _ ab) (by omega) (args:=[f,z]) (by rw[p1];exact N9 (P:=λq w=>Kn D (on e az) q w) (ac.mono L.1) (kz.mono L.1)) (λw _ hE=>hE);exact⟨_,rfl,m,L.trans y,ae⟩
  ·rw[if_neg hd];exact⟨_,rfl,a9,L,ae⟩
 obtain ⟨u,bA,bC,T,bb⟩:=aA;rw[bA];obtain⟨xq,bD,bc⟩:=a4;obtain⟨bQ,bd,aC⟩:=T.1.val (p+1) xq bD;obtain⟨aD,aE⟩:=KU (E':=E) bC bd (by rw[aC,bc]) (T.1.ow _ _ a2) (by omega) (args:=[g,z]) (by rw[p1];exact N9 (P:=λq w=>Kn D (on e u) q w) (a6.mono T.1) (kz.mono T.1)) (λw nw hE=>by
  rintro(h|h)
  ·exact hE h
  ·exact nw h)
 have aD:qv D pr nx E (on e (setArgs u (p+1) [g,z])):=aD;have aE:Lx (on e r) (on e (setArgs u (p+1) [g,z])):=T.trans aE;have be:(setArgs u (p+1) [g,z]).known=d.known++K:=bb;generalize setArgs u (p+1) [g,z]=F at*;obtain⟨aF,U,aG⟩:=aD.cut O.ne ⟨K,be⟩;have aF:qv D pr nx E (on e (Un.cut d.known.length F)):=aF;have aG:Lx (on e r) (on e (Un.cut d.known.length F)):=aE.trans aG;have U:(on e (Un.cut d.known.length F)).s.known=d.known:=U;have bE:{e with s:=Un.cut d.known.length F} = on e (Un.cut d.known.length F):=rfl;rw[bE];have Z:(on e (Un.cut d.known.length F)).blocks.length=a+2:=aq;generalize on e (Un.cut d.known.length F)=t3 at*
 obtain ⟨bG,bf⟩:=aF.end_ (fin:=1) (cond:=0) (n:=[a+1]) (state:=0) (fk:=[a+1]) (by rw[Z,n2]) (by rw[Z];exact p3.symm) (.inl ⟨rfl,rfl⟩)
  (λw i=>by rw[Z];rw[U]at i;exact((a5 w i).mono aG.1).up (Me (by omega) d3))
 rw[Z]at bf;generalize Un.end_ t3 1 0 [a+1] 0 [a+1]=t4 at*;obtain⟨bH,_⟩:=bG.row ops;exact⟨bH,bf⟩
end
