/- Parts. -/
import Derived.Test.YtcoaokdoecgcbaaGreatDoorM11
set_option maxHeartbeats 4000000
namespace Go.Proofs.YtcoaokdoecgcbaaGreatDoor.Un
open Dm
def Ow(t:Dt)(v b:Nat):Prop:=(∃B,t.blocks[b]? =some B/\v∈B.ee)\/(b=t.blocks.length/\v∈t.s.cur)
def Kn(D:Nat->Nat)(t:Dt)(a w:Nat):Prop:=∃b x,Ow t w b/\qd D b a/\t.s.ee[w]? =some x/\P9 x.op=true
structure Le (t t':Dt):Prop where
 ow:∀w b,Ow t w b->Ow t' w b
 back:∀w b,w<t.s.ee.length->Ow t' w b->Ow t w b
 val:∀(w:Nat) x,t.s.ee[w]? =some x->∃y,t'.s.ee[w]? =some y/\y.op=x.op
 st:∀(s:Nat) fs,t.s.ez[s]? =some fs->t'.s.ez[s]? =some fs
theorem Le.refl(t:Dt):Le t t:=⟨by simp_all,by simp_all,by simp_all,by simp_all⟩
theorem Kn.mono{D:Nat->Nat} {t t':Dt} {a w:Nat} (h:Kn D t a w) (c:Le t t'):Kn D t' a w:=by
 let⟨b,x,d,e,f,i⟩:=h
 let⟨y,g,j⟩:=c.val w x f
 exact⟨b,y,c.ow w b d,e,g,by simp_all⟩
theorem Kn.up{D:Nat->Nat} {t:Dt} {a c w:Nat} (h:Kn D t a w) (d:qd D a c):Kn D t c w:=by
 let⟨b,x,e,f,g⟩:=h
 exact⟨b,x,e,f.trans d,g⟩
theorem Kn.lt{D:Nat->Nat} {t:Dt} {a w:Nat} (h:Kn D t a w):w<t.s.ee.length:=by
 let⟨b,x,_,_,c,_⟩:=h
 grind
structure Vok (D:Nat->Nat) (t:Dt) (v:Nat) (x:Vl):Prop where
 op:1<=x.op/\x.op<=23
 putAt:x.op=20->x.args.length=1
 par:x.op=1->Ow t v 0/\x.n=(v:Nat)/\v<5
 own:∃b,Ow t v b/\(x.op≠21->∀w∈kj x,w<v/\Kn D t b w)/\(leaves x.op=true->∃fs,t.s.ez[x.state]? =some fs/\∀w∈il fs,w<v/\Kn D t b w)/\
  (kh x.op=true->∀w,Ow t w b->w<v->∃y,t.s.ee[w]? =some y/\kh y.op=true)
theorem Vok.mono{D:Nat->Nat} {t t':Dt} {v:Nat} {x:Vl} (h:Vok D t v x) (a:Le t t') (hv:v<t.s.ee.length):Vok D t' v x:=by
 let⟨b,d,i,j,k⟩:=h.own
 refine⟨h.op,h.putAt,λd=>⟨a.ow _ _ (h.par d).1,(h.par d).2⟩,b,a.ow _ _ d,λl w c=>⟨by simp_all,(i l w c).2.mono a⟩,λhl=>?_,λm w c e=>?_⟩
 ·let⟨fs,f,g⟩:=j hl
  exact⟨fs,a.st _ _ f,λw c=>⟨by simp_all,(g w c).2.mono a⟩⟩
 ·let⟨y,f,g⟩:=k m w (a.back w b (by omega) c) e
  let⟨z,n,o⟩:=a.val w y f
  simp_all
def zdy(D:Nat->Nat)(t:Dt)(a:List Nat)(x:Vl):Prop:=x.args.length=a.length/\∀(j w q:Nat),x.args[j]? =some w->a[j]? =some q->Kn D t q w
def Fin(D:Nat->Nat)(t:Dt)(b:Nat)(B:Bk):Prop:=(B.fin=1/\B.next.length=1)\/(B.fin=2/\B.next.length=2/\Kn D t b B.cond)\/(B.fin=3/\B.next=[]/\∃fs,t.s.ez[B.state]? =some fs/\∀w∈il fs,Kn D t b w)
theorem Fin.mono{D:Nat->Nat} {t t':Dt} {b:Nat} {B:Bk} (h:Fin D t b B) (a:Le t t'):Fin D t' b B:=by
 rcases h with h|⟨c,d,e⟩|⟨c,d,fs,e,f⟩
 ·exact .inl h
 ·exact .inr (.inl ⟨c,d,e.mono a⟩)
 ·exact .inr (.inr ⟨c,d,fs,a.st _ _ e,λw g=>(f w g).mono a⟩)
structure pe (D:Nat->Nat) (pr nx:Nat->List Nat) (E:Nat->Prop) (t:Dt):Prop where
 cat:t.blocks.flatMap (·.ee)++t.s.cur=List.range t.s.ee.length
 Ml:∀v x,t.s.ee[v]? =some x->Vok D t v x
 ph:∀v x,t.s.ee[v]? =some x->x.op=21->∃b,Ow t v b/\b≠0/\(¬E v->zdy D t (pr b) x)
 bk:∀b B,t.blocks[b]? =some B->B.next=nx b/\B.fu=pr b/\Fin D t b B
 st:∀(s:Nat) fs,t.s.ez[s]? =some fs->fs.length=1/\∀f∈fs,f.locals.length<=3/\f.stack.length=1/\(∀w∈f.locals,∃a,Kn D t a w)/\∀w∈f.stack,∃a,Kn D t a w
 pc:t.fu=pr t.blocks.length
 ne:t.s.known≠[]
 kn:∀w∈t.s.known,Kn D t t.blocks.length w
section
variable{D:Nat->Nat}{pr nx:Nat->List Nat}{E:Nat->Prop}{t:Dt}
def Um(t:Dt)(x:Vl):Dt:={t with s:=put t.s x}
theorem Q0(t:Dt) (x:Vl):Le t (Um t x) where
 ow w b h:=by
  rcases h with h|⟨a,c⟩
  ·exact .inl h
  ·exact .inr ⟨a,by show w∈t.s.cur++_;simp_all⟩
 back w b hw h:=by
  rcases h with h|⟨a,c⟩
  ·exact .inl h
  ·refine .inr ⟨a,?_⟩;have d:w∈t.s.cur++[t.s.ee.length]:=c
   grind
 val w y h:=⟨y,by show(t.s.ee++[x])[w]? =some y;grind,rfl⟩
 st s fs h:=h
theorem pe.put(i:pe D pr nx E t) {x:Vl} (J:1<=x.op/\x.op<=23) (z:x.op=20->x.args.length=1) (G:x.op=1->t.blocks.length=0/\x.n=(t.s.ee.length:Nat)/\t.s.ee.length<5)
  (H:x.op≠21->∀w∈kj x,Kn D t t.blocks.length w) (hl:leaves x.op=true->∃fs,t.s.ez[x.state]? =some fs/\∀w∈il fs,Kn D t t.blocks.length w)
  (R:kh x.op=true->∀w∈t.s.cur,∃y,t.s.ee[w]? =some y/\kh y.op=true) (A:x.op=21->t.blocks.length≠0/\(¬E t.s.ee.length->zdy D t (pr t.blocks.length) x)) :
  pe D pr nx E (Um t x)/\(P9 x.op=true->Kn D (Um t x) t.blocks.length t.s.ee.length):=by
 have c:=Q0 t x;have e:Ow (Um t x) t.s.ee.length t.blocks.length:= .inr ⟨rfl,by show t.s.ee.length∈t.s.cur++[t.s.ee.length];simp⟩;have o:(Um t x).s.ee[t.s.ee.length]? =some x:=by show(t.s.ee++[x])[t.s.ee.length]? =some x;simp
 have g:∀v y,(Um t x).s.ee[v]? =some y->t.s.ee[v]? =some y\/v=t.s.ee.length/\y=x:=λv y h=>by
  have h':(t.s.ee++[x])[v]? =some y:=h
  grind
 refine⟨⟨?_,λv y h=>?_,λv y h p=>?_,λb B h=>⟨(i.bk b B h).1,(i.bk b B h).2.1,(i.bk b B h).2.2.mono c⟩,λs fs h=>?_,i.pc,i.ne,λw d=>(i.kn w d).mono c⟩,λK=>⟨_,x,e,.refl _,o,K⟩⟩
 ·show t.blocks.flatMap (·.ee)++(t.s.cur++[t.s.ee.length])=List.range (t.s.ee++[x]).length;rw[<-KB,i.cat,oQ,Qv,wBf]
 ·rcases g v y h with h|⟨rfl,rfl⟩
  ·exact(i.Ml v y h).mono c (by grind)
  ·refine ⟨J,z,λl=>?_,t.blocks.length,e,λI w d=>⟨(H I w d).lt,(H I w d).mono c⟩,λl=>?_,λl w d C=>?_⟩
   ·simp_all
   ·let⟨fs,m,k⟩:=hl l
    exact⟨fs,m,λw d=>⟨(k w d).lt,(k w d).mono c⟩⟩
   ·have L:=c.back w _ C d;rcases L with⟨B,M,_⟩|⟨_,M⟩
    ·simp_all
    grind
 ·rcases g v y h with h|⟨rfl,rfl⟩
  ·let⟨b,m,k,u⟩:=i.ph v y h p
   refine⟨b,c.ow _ _ m,k,λr=>⟨(u r).1,λj w q l F=>((u r).2 j w q l F).mono c⟩⟩
  ·let⟨m,k⟩:=A p
   exact⟨_,e,m,λr=>⟨(k r).1,λj w q l F=>((k r).2 j w q l F).mono c⟩⟩
 ·let⟨m,k⟩:=i.st s fs h
  refine⟨m,λf N=>?_⟩
  let⟨u,O,P,Q⟩:=k f N
  exact⟨u,O,λw d=>(P w d).imp λa h=>h.mono c,λw d=>(Q w d).imp λa h=>h.mono c⟩
theorem pe.SN(a:pe D pr nx E t) {l:List Nat} (hl:∀w∈l,Kn D t t.blocks.length w) (oS:l≠[]):pe D pr nx E {t with s:={t.s with known:=l} }:=
 ⟨a.cat,λv x h=>⟨(a.Ml v x h).op,(a.Ml v x h).putAt,(a.Ml v x h).par,(a.Ml v x h).own⟩,a.ph,a.bk,a.st,a.pc,oS,hl⟩
theorem pe.at_(a:pe D pr nx E t) (p:Nat):pe D pr nx E {t with s:={t.s with pos:=p} }:=
 ⟨a.cat,λv x h=>⟨(a.Ml v x h).op,(a.Ml v x h).putAt,(a.Ml v x h).par,(a.Ml v x h).own⟩,a.ph,a.bk,a.st,a.pc,a.ne,a.kn⟩
end
def on(t:Dt)(s:Ds):Dt:={t with s:=s}
structure Gw (t t':Dt):Prop where
 blocks:t'.blocks=t.blocks
 fu:t'.fu=t.fu
 known:∃k,t'.s.known=t.s.known++k
 ee:∃e,t'.s.ee=t.s.ee++e
 le:Le t t'
theorem Le.trans{t t' a:Dt} (c:Le t t') (d:Le t' a) (f:t.s.ee.length<=t'.s.ee.length):Le t a where
 ow w b h:=d.ow w b (c.ow w b h)
 back w b hw h:=c.back w b hw (d.back w b (by omega) h)
 val w x h:=by
  let⟨y,e,g⟩:=c.val w x h
  let⟨z,i,j⟩:=d.val w y e
  simp_all
 st s fs h:=d.st s fs (c.st s fs h)
theorem Gw.refl(t:Dt):Gw t t:=⟨rfl,rfl,by simp_all,by simp_all,.refl t⟩
theorem Gw.len{t t':Dt} (h:Gw t t'):t.s.ee.length<=t'.s.ee.length:=by
 let⟨e,he⟩:=h.ee
 simp_all
theorem Gw.trans{t t' b:Dt} (a:Gw t t') (c:Gw t' b):Gw t b:=by
 let⟨k,hk⟩:=a.known
 let⟨k',hk'⟩:=c.known
 let⟨e,he⟩:=a.ee
 let⟨e',he'⟩:=c.ee
 exact⟨c.blocks.trans a.blocks,c.fu.trans a.fu,by simp_all,by simp_all,a.le.trans c.le a.len⟩
theorem Gw.pos(t:Dt)(p:Nat):Gw t (on t {t.s with pos:=p}):=⟨rfl,rfl,⟨[],(Hf _).symm⟩,⟨[],(Hf _).symm⟩,⟨λ_ _ h=>h,λ_ _ _ h=>h,λ_ x h=>⟨x,h,rfl⟩,λ_ _ h=>h⟩⟩
theorem Ze{l:List Nat} {i:Nat} (h:i<l.length):l.getD i 0∈l:=by
 simp_all
theorem A7(ops:List Int){s:Ds}(h:s.known≠[]):(fJ ops s).1∈s.known:=Ze (wG ops s.pos (List.length_pos_iff.2 h))
theorem Jq{l:List Nat} (h:l≠[]):l.getLastD 0∈l:=by
 cases l <;> grind
theorem PR(ops:List Int):∀i s l,s.known≠[]->(∃p,(some_ ops i s l).2 = {s with pos:=p})/\(some_ ops i s l).1.length=l.length+i/\∀w∈(some_ ops i s l).1,w∈l\/w∈s.known
 |0,s,l,_=>⟨⟨s.pos,rfl⟩,rfl,λw h=> .inl h⟩
 | i+1,s,l,h=>by
   let⟨⟨p,b⟩,d,a⟩:=PR ops i (fJ ops s).2 (l++[(fJ ops s).1]) h
   refine⟨⟨p,b⟩,by grind[some_],λw c=>?_⟩;rcases a w c with a|a
   ·grind[A7]
   ·exact .inr a
section
variable{D:Nat->Nat}{pr nx:Nat->List Nat}{E:Nat->Prop}{t:Dt}
theorem pe.le1(t:Dt) (fs:List Fm) (p:Nat):Le t (on t {t.s with ez:=t.s.ez++[fs],pos:=p}):=
 ⟨λ_ _ h=>h,λ_ _ _ h=>h,λ_ x h=>⟨x,h,rfl⟩,λs g h=>by show(t.s.ez++[fs])[s]? =some g;grind⟩
theorem pe.state(d:pe D pr nx E t) (ops:List Int):pe D pr nx E (on t (fG ops t.s).2)/\Gw t (on t (fG ops t.s).2)/\(fG ops t.s).2.known=t.s.known/\(fG ops t.s).2.ee=t.s.ee/\(fG ops t.s).2.cur=t.s.cur/\
  ∃fs,(fG ops t.s).2.ez[(fG ops t.s).1]? =some fs/\∀w∈il fs,w∈t.s.known:=by
 let⟨⟨p,y⟩,H,z⟩:=PR ops (num ops t.s 4).1 (num ops t.s 4).2 [] d.ne
 have I:(num ops t.s 4).1<4:=wG _ _ (by omega);have hs:(fG ops t.s).2 = {t.s with ez:=t.s.ez++[[⟨1,(t.s.ez.length:Nat),(some_ ops (num ops t.s 4).1 (num ops t.s 4).2 []).1,[t.s.known.getLastD 0]⟩]],pos:=p}:=by
  unfold fG;simp only;rw[y];rfl
 rw[hs];generalize (some_ ops (num ops t.s 4).1 (num ops t.s 4).2 []).1=l at*;have c:=pe.le1 t [⟨1,(t.s.ez.length:Nat),l,[t.s.known.getLastD 0]⟩] p;have hl:∀w∈l,w∈t.s.known:=λw e=>(z w e).elim (by simp_all) id;have k:=Jq d.ne
 refine ⟨⟨d.cat,λv x h=>(d.Ml v x h).mono c (kE.1 h).1,λv x h A=>?_,λb B h=>⟨(d.bk b B h).1,(d.bk b B h).2.1,(d.bk b B h).2.2.mono c⟩,λs fs h=>?_,d.pc,d.ne,λw e=>(d.kn w e).mono c⟩,
  ⟨rfl,rfl,⟨[],(Hf _).symm⟩,⟨[],(Hf _).symm⟩,c⟩,rfl,rfl,rfl,[⟨1,(t.s.ez.length:Nat),l,[t.s.known.getLastD 0]⟩],wA6,λw e=>?_⟩
 ·let⟨b,m,n,g⟩:=d.ph v x h A
  exact⟨b,c.ow _ _ m,n,λr=>⟨(g r).1,λj w q e1 e2=>((g r).2 j w q e1 e2).mono c⟩⟩
 ·have h':(t.s.ez++[[⟨1,(t.s.ez.length:Nat),l,[t.s.known.getLastD 0]⟩]])[s]? =some fs:=h;by_cases EO:s<t.s.ez.length
  ·rw[wAv EO]at h'
   let⟨m,n⟩:=d.st s fs h'
   refine⟨m,λf i=>?_⟩
   let⟨g,C,F,G⟩:=n f i
   exact⟨g,C,λw e=>(F w e).imp λa h=>h.mono c,λw e=>(G w e).imp λa h=>h.mono c⟩
  ·rw[wBR (by omega)]at h';have u:=zQ h';simp at u;subst u;refine⟨rfl,λf i=>?_⟩;simp at i;subst i;refine⟨by grind,rfl,λw e=>⟨_,(d.kn w (hl w e)).mono c⟩,λw e=>?_⟩;have o:w=t.s.known.getLastD 0:=by simpa using e
   subst o;exact⟨_,(d.kn _ k).mono c⟩
 ·simp[il,TB]at e
  grind
theorem pe.U6(a:pe D pr nx E t) {x:Vl} (k:2<=x.op/\x.op<=23/\x.op≠21) (b:x.op=20->x.args.length=1) (d:∀w∈kj x,w∈t.s.known) (hl:leaves x.op=true->∃fs,t.s.ez[x.state]? =some fs/\∀w∈il fs,w∈t.s.known) :
  pe D pr nx E (on t (Un.put t.s x))/\Gw t (on t (Un.put t.s x))/\(P9 x.op=true->Kn D (on t (Un.put t.s x)) t.blocks.length t.s.ee.length):=by
 have e:kh x.op=true->False:=by grind[kh]
 let⟨f,g⟩:=a.put (by omega) b (by omega) (λ_ w c=>a.kn w (d w c)) (λh=>by let⟨fs,i,j⟩:=hl h;exact⟨fs,i,λw c=>a.kn w (j w c)⟩) (by simp_all) (by omega)
 exact⟨f,⟨rfl,rfl,⟨[],(Hf _).symm⟩,⟨[x],rfl⟩,Q0 t x⟩,g⟩
theorem pe.Sp(c:pe D pr nx E t) {x:Vl} (i:2<=x.op/\x.op<19) (d:∀w∈kj x,w∈t.s.known):pe D pr nx E (on t (hO t.s x))/\Gw t (on t (hO t.s x)):=by
 let⟨e,b,f⟩:=c.U6 (by omega) (by omega) d (by grind[leaves])
 have g:=f (by simp[P9];omega);have h:=e.SN (l:=t.s.known++[t.s.ee.length]) (λw a=>by
  rcases xU.1 a with a|a
  ·exact(c.kn w a).mono b.le
  ·simp at a;subst a;exact g) (by simp)
 exact⟨h,⟨rfl,rfl,⟨[t.s.ee.length],rfl⟩,⟨[x],rfl⟩,⟨b.le.ow,b.le.back,b.le.val,b.le.st⟩⟩⟩
end
theorem SP(x:Vl):∀w∈kj x,w=x.a\/w=x.b\/w∈x.args:=by
 grind[kj,wBk]
section
variable{D:Nat->Nat}{pr nx:Nat->List Nat}{E:Nat->Prop}{t:Dt}
theorem pe.kind(o:pe D pr nx E t) (ops:List Int) {k a b:Nat} (q:a∈t.s.known) (y:b∈t.s.known):pe D pr nx E (on t (tE ops t.s k a b))/\Gw t (on t (tE ops t.s k a b)):=by
 have p:∀x,x.a=a->x.b=b->x.args=[]->∀w∈kj x,w∈t.s.known:=λx c d f w g=>by
  rcases SP x w g with h|h|h
  ·simp_all
  ·simp_all
  simp_all
 have i:∀m,pe D pr nx E (on t (num ops t.s m).2)/\Gw t (on t (num ops t.s m).2):=λm=>⟨o.at_ _,Gw.pos t _⟩
 have l:∀op n,zA op=true->two op=false->op≠20->op≠21->∀w∈kj (vl op a 0 n [] 0),w=a:=by grind[kj,vl]
 unfold tE;split
 ·rename_i v;exact o.Sp (by grind[vl]) (p _ rfl rfl rfl)
 split
 ·let⟨c,d⟩:=i 1048576
  let⟨f,j⟩:=c.Sp (x:=vl 2 0 0 (((num ops t.s 1048576).1:Int)-9) [] 0) (by grind[vl]) (by grind[kj,vl,two,zA])
  exact⟨f,d.trans j⟩
 split
 ·let⟨c,d⟩:=i 5
  let⟨f,j⟩:=c.Sp (x:=vl 17 a 0 ((num ops t.s 5).1:Nat) [] 0) (by grind[vl]) (λw g=>by rw[l 17 _ rfl rfl (by omega) (by omega) w g];exact q)
  exact⟨f,d.trans j⟩
 split
 ·exact o.Sp (by grind[vl]) (p _ rfl rfl rfl)
 split
 ·let⟨c,d⟩:=i 5
  let⟨f,j,_⟩:=c.U6 (x:=vl 19 a b ((num ops t.s 5).1:Nat) [] 0) (by grind[vl]) (by grind[vl]) (p _ rfl rfl rfl) (by grind[vl,leaves])
  exact⟨f,d.trans j⟩
 split
 ·have c:pe D pr nx E (on t (fJ ops t.s).2):=o.at_ _;have d:Gw t (on t (fJ ops t.s).2):=Gw.pos t _
  let ⟨f,j,_⟩:=c.U6 (x:=vl 20 a b 0 [(fJ ops t.s).1] 0) (by grind[vl]) (λ_=>rfl) (λw g=>by
   rcases SP _ w g with h|h|h
   ·rw[h];exact q
   ·rw[h];exact y
   ·have h':w=(fJ ops t.s).1:=by simpa[vl]using h
    rw[h'];exact A7 ops o.ne) (by grind[vl,leaves])
  exact⟨f,d.trans j⟩
 split
 ·let ⟨c,d,v,_,_,fs,r,z⟩:=o.state ops
  let ⟨f,j,_⟩:=c.U6 (x:=vl 22 a 0 0 [] (fG ops t.s).1) (by grind[vl]) (by grind[vl]) (λw g=>by
   have e:w=a:=by simpa[kj,vl,two,zA]using g
   show w∈(fG ops t.s).2.known
   simp_all) (λ_=>⟨fs,r,λw g=>by show w∈(fG ops t.s).2.known;simp_all⟩)
  exact⟨f,d.trans j⟩
 split
 ·let⟨c,d,v,_,_,fs,r,z⟩:=o.state ops
  let⟨f,j,_⟩:=c.U6 (x:=vl 23 0 0 0 [] (fG ops t.s).1) (by grind[vl]) (by grind[vl]) (by grind[kj,vl,two,zA]) (λ_=>⟨fs,r,λw g=>by show w∈(fG ops t.s).2.known;simp_all⟩)
  exact⟨f,d.trans j⟩
 ·let ⟨c,d⟩:=i 2
  have A:(num ops t.s 2).1<2:=wG _ _ (by omega);have u:(num ops t.s 2).1=0\/(num ops t.s 2).1=1:=by omega
  let ⟨f,j⟩:=c.Sp (x:=vl (15+(num ops t.s 2).1) a 0 0 [] 0) (by grind[vl]) (λw g=>by
   have e:w=a:=by
    rcases u with e|e
    ·rw[e]at g;exact l 15 _ rfl rfl (by omega) (by omega) w g
    ·rw[e]at g;exact l 16 _ rfl rfl (by omega) (by omega) w g
   rw[e];exact q)
  exact⟨f,d.trans j⟩
theorem pe.ux(a:pe D pr nx E t) (ops:List Int):pe D pr nx E (on t (ux ops t.s))/\Gw t (on t (ux ops t.s)):=by
 have b:=A7 ops a.ne;have c:pe D pr nx E (on t (fJ ops t.s).2):=a.at_ _;have d:=A7 ops c.ne;have e:pe D pr nx E (on t (num ops (fJ ops (fJ ops t.s).2).2 20).2):=a.at_ _
 let⟨f,g⟩:=e.kind ops (k:=(num ops (fJ ops (fJ ops t.s).2).2 20).1) b d
 exact⟨f,(Gw.pos t _).trans g⟩
theorem pe.rows(ops:List Int):∀i {t:Dt},pe D pr nx E t->pe D pr nx E (on t (rows ops i t.s))/\Gw t (on t (rows ops i t.s))
 |0,t,hM=>⟨hM,Gw.refl t⟩
 | i + 1,t,hM=>by
   unfold Un.rows;split
   ·let⟨a,b⟩:=hM.ux ops
    let⟨c,d⟩:=pe.rows ops i a
    exact⟨c,b.trans d⟩
   ·exact⟨hM,Gw.refl t⟩
theorem pe.row(a:pe D pr nx E t) (ops:List Int):pe D pr nx E (on t (row ops t.s))/\Gw t (on t (row ops t.s)):=by
 have b:pe D pr nx E (on t (num ops t.s 6).2):=a.at_ _
 let⟨c,d⟩:=pe.rows ops (1+(num ops t.s 6).1) b
 exact⟨c,(Gw.pos t _).trans d⟩
end
open Dm
def Lx(t t':Dt):Prop:=Le t t'/\t.s.ee.length<=t'.s.ee.length
theorem Lx.trans{t t' a:Dt}(b:Lx t t')(c:Lx t' a):Lx t a:=⟨b.1.trans c.1 b.2,KK b.2 c.2⟩
theorem Gw.lx{t t':Dt}(h:Gw t t'):Lx t t':=⟨h.le,h.len⟩
section
variable{D:Nat->Nat}{pr nx:Nat->List Nat}{E E':Nat->Prop}{t:Dt}
theorem pe.weaken(a:pe D pr nx E t) (h:∀v,E v->E' v):pe D pr nx E' t:=
 ⟨a.cat,a.Ml,λv x hv c=>let⟨b,d,e,f⟩:=a.ph v x hv c;(by grind),a.bk,a.st,a.pc,a.ne,a.kn⟩
theorem IL(t:Dt) (fin cond:Nat) (n:List Nat) (state:Nat) (fu:List Nat):Lx t (end_ t fin cond n state fu):=by
 refine⟨⟨λw b h=>?_,λw b _ h=>?_,λw x h=>⟨x,h,rfl⟩,λs fs h=>h⟩,jv _⟩
 ·rcases h with⟨B,f,c⟩|⟨rfl,c⟩
  ·exact .inl ⟨B,by show(t.blocks++[_])[b]? =_;grind,c⟩
  ·exact .inl ⟨⟨t.s.cur,fin,cond,n,t.fu,state⟩,wA6,c⟩
 ·rcases h with⟨B,f,c⟩|⟨_,c⟩
  ·have a:(t.blocks++[⟨t.s.cur,fin,cond,n,t.fu,state⟩])[b]? =some B:=f;by_cases hb:b<t.blocks.length
   ·rw[wAv hb]at a;exact .inl ⟨B,a,c⟩
   ·have d:=(kE.1 a).1;simp at d;have e:b=t.blocks.length:=by omega
    subst e;rw[wA6]at a;obtain rfl:=Option.some.inj a;exact .inr ⟨rfl,c⟩
  ·cases c
theorem pe.end_(e:pe D pr nx E t) {fin cond:Nat} {n:List Nat} {state:Nat} {fu:List Nat} (u:n=nx t.blocks.length) (y:fu=pr (t.blocks.length+1)) (k:Fin D t t.blocks.length ⟨t.s.cur,fin,cond,n,t.fu,state⟩) (z:∀w∈t.s.known,Kn D t (t.blocks.length+1) w) :
  pe D pr nx E (end_ t fin cond n state fu)/\(Un.end_ t fin cond n state fu).blocks.length=t.blocks.length+1:=by
 have c:=IL t fin cond n state fu;have hlen:(Un.end_ t fin cond n state fu).blocks.length=t.blocks.length+1:=by simp[Un.end_]
 refine⟨⟨?_,λv x h=>(e.Ml v x h).mono c.1 (kE.1 h).1,λv x h A=>?_,λb B h=>?_,λs fs h=>?_,?_,e.ne,λw g=>?_⟩,hlen⟩
 ·show(t.blocks++[(⟨t.s.cur,fin,cond,n,t.fu,state⟩:Bk)]).flatMap (·.ee)++[]=List.range t.s.ee.length;rw[ wA4,<-e.cat];simp
 ·let⟨b,l,m,i⟩:=e.ph v x h A
  exact⟨b,c.1.ow _ _ l,m,λr=>⟨(i r).1,λj w q e1 e2=>((i r).2 j w q e1 e2).mono c.1⟩⟩
 ·have d:(t.blocks++[⟨t.s.cur,fin,cond,n,t.fu,state⟩])[b]? =some B:=h;by_cases hb:b<t.blocks.length
  ·rw[wAv hb]at d;exact⟨(e.bk b B d).1,(e.bk b B d).2.1,(e.bk b B d).2.2.mono c.1⟩
  ·have o:=(kE.1 d).1;simp at o;have p:b=t.blocks.length:=by omega
   subst p;rw[wA6]at d;obtain rfl:=Option.some.inj d;exact⟨u,e.pc,k.mono c.1⟩
 ·let⟨l,m⟩:=e.st s fs h
  refine⟨l,λf k=>?_⟩
  let⟨i,C,F,G⟩:=m f k
  exact⟨i,C,λw g=>(F w g).imp λa h=>h.mono c.1,λw g=>(G w g).imp λa h=>h.mono c.1⟩
 ·rw[hlen];exact y
 ·rw[hlen];exact(z w g).mono c.1
theorem pe.cut(b:pe D pr nx E t) {l:List Nat} (oS:l≠[]) (a:∃k,t.s.known=l++k):pe D pr nx E (on t (cut l.length t.s))/\(on t (Un.cut l.length t.s)).s.known=l/\Lx t (on t (Un.cut l.length t.s)):=by
 let⟨k,a⟩:=a
 have e:t.s.known.take l.length=l:=by rw[a];simp
 have c:=b.SN (λw d=>b.kn w (by simp_all)) oS;have e2:on t (Un.cut l.length t.s) = {t with s:={t.s with known:=l} }:=by
  unfold on Un.cut;rw[e]
 rw[e2];exact⟨c,rfl,⟨⟨λ_ _ h=>h,λ_ _ _ h=>h,by simp_all,by simp_all⟩,jv _⟩⟩
theorem Kd{D:Nat->Nat}{a b:Nat}(h0:b≠0)(h:D b=a):qd D a b:= .up h0 (by rw[h];exact .refl _)
theorem Up(a:pe D pr nx E t) {args:List Nat} (hc:t.s.cur=[]\/∀w∈t.s.cur,∃y,t.s.ee[w]? =some y/\kh y.op=true) (h0:t.blocks.length≠0) (d:¬E t.s.ee.length->zdy D t (pr t.blocks.length) (vl 21 0 0 0 args 0)) :
  pe D pr nx E (on t (put t.s (vl 21 0 0 0 args 0)))/\Lx t (on t (put t.s (vl 21 0 0 0 args 0)))/\Kn D (on t (put t.s (vl 21 0 0 0 args 0))) t.blocks.length t.s.ee.length/\Ow (on t (put t.s (vl 21 0 0 0 args 0))) t.s.ee.length t.blocks.length:=by
 let⟨b,c⟩:=a.put (x:=vl 21 0 0 0 args 0) (by simp[vl]) (by grind[vl]) (by grind[vl]) (λh=>absurd rfl h) (by grind[vl,leaves]) (by grind) (by simp_all)
 exact⟨b,⟨Q0 t _,by show _<=(t.s.ee++[_]).length;simp⟩,c rfl,.inr ⟨rfl,by show t.s.ee.length∈t.s.cur++[t.s.ee.length];simp⟩⟩
theorem zaQ(e:pe D pr nx E t) (ops:List Int) (n0:nx t.blocks.length=[t.blocks.length+1,t.blocks.length+2]) (Y:nx (t.blocks.length+1)=[t.blocks.length+3]) (Z:nx (t.blocks.length+2)=[t.blocks.length+3])
  (p1:pr (t.blocks.length+1)=[t.blocks.length]) (p2:pr (t.blocks.length+2)=[t.blocks.length]) (p3:pr (t.blocks.length+3)=[t.blocks.length+1,t.blocks.length+2])
  (d1:D (t.blocks.length+1)=t.blocks.length) (d2:D (t.blocks.length+2)=t.blocks.length) (d3:D (t.blocks.length+3)=t.blocks.length) :
  pe D pr nx E (fork ops t)/\(fork ops t).blocks.length=t.blocks.length+3:=by
 generalize g:t.blocks.length=a at*;have hc:=A7 ops e.ne;have u:pe D pr nx E (on t (fJ ops t.s).2):=e.at_ _;have v:Lx t (on t (fJ ops t.s).2):=(Gw.pos t _).lx;have z:(on t (fJ ops t.s).2).s.known=t.s.known:=rfl;unfold fork;simp only;rw[g];generalize A:(fJ ops t.s).1=cond at*;generalize (fJ ops t.s).2=s0 at*;have e0:{t with s:=s0} = on t s0:=rfl;rw[e0];have i:(on t s0).blocks.length=a:=g
 let ⟨m1,Q⟩:=u.end_ (cond:=cond) (n:=[a+1,a+2]) (state:=0) (fu:=[a]) (by simp_all) (by simp_all) (.inr (.inl ⟨rfl,rfl,by rw[ <-g];exact(e.kn cond hc).mono v.1⟩))
  (λw d=>by rw[i];exact((by rw[<-g];exact(e.kn w (by simp_all)).mono v.1:Kn D (on t s0) a w)).up (Kd (by omega) d1))
 rw[i]at Q;have x1:=v.trans (IL (on t s0) 2 cond [a+1,a+2] 0 [a]);have B:(Un.end_ (on t s0) 2 cond [a+1,a+2] 0 [a]).s.known=t.s.known:=z;generalize Un.end_ (on t s0) 2 cond [a+1,a+2] 0 [a]=b at*
 let⟨C,F⟩:=m1.row ops
 have x2:=x1.trans F.lx;have R:(on b (row ops b.s)).blocks.length=a+1:=by rw[F.blocks];exact Q
 have kx:=C.kn _ (Jq C.ne)
 let⟨k2,hk2⟩:=F.known
 rw[B]at hk2;have eX:(row ops b.s).known.getLastD 0=(on b (row ops b.s)).s.known.getLastD 0:=rfl;rw[eX];generalize (on b (row ops b.s)).s.known.getLastD 0=x at*
 let⟨m3,hk3,k⟩:=C.cut e.ne ⟨k2,hk2⟩
 have S:=x2.trans k;have m:=kx.mono k.1;rw[R]at m;have e3:{b with s:=Un.cut t.s.known.length (row ops b.s)} = on (on b (row ops b.s)) (Un.cut t.s.known.length (on b (row ops b.s)).s):=rfl;rw[e3];have G:(on (on b (row ops b.s)) (Un.cut t.s.known.length (on b (row ops b.s)).s)).blocks.length=a+1:=R;generalize on (on b (row ops b.s)) (Un.cut t.s.known.length (on b (row ops b.s)).s)=t3 at*
 let ⟨m4,T⟩:=m3.end_ (cond:=0) (n:=[a+3]) (state:=0) (fu:=[a]) (by rw[G,Y]) (by simp_all) (.inl ⟨rfl,rfl⟩)
  (λw d=>by rw[G];exact((by rw[<-g];exact(e.kn w (by simp_all)).mono S.1:Kn D t3 a w)).up (Kd (by omega) d2))
 rw[G]at T;have U:=IL t3 1 0 [a+3] 0 [a];have x4:=S.trans U;have H:=m.mono U.1;have I:(Un.end_ t3 1 0 [a+3] 0 [a]).s.known=t.s.known:=hk3;generalize Un.end_ t3 1 0 [a+3] 0 [a]=c at*
 let⟨J,p⟩:=m4.row ops
 have x5:=x4.trans p.lx;have K:=H.mono p.le;have V:(on c (row ops c.s)).blocks.length=a+2:=by rw[p.blocks];exact T
 have ky:=J.kn _ (Jq J.ne)
 let⟨k5,hk5⟩:=p.known
 rw[I]at hk5;have eY:(row ops c.s).known.getLastD 0=(on c (row ops c.s)).s.known.getLastD 0:=rfl;rw[eY];generalize (on c (row ops c.s)).s.known.getLastD 0=y at*
 let⟨m6,hk6,f⟩:=J.cut e.ne ⟨k5,hk5⟩
 have x6:=x5.trans f;have L:=K.mono f.1;have o:=ky.mono f.1;rw[V]at o;have e6:{c with s:=Un.cut t.s.known.length (row ops c.s)} = on (on c (row ops c.s)) (Un.cut t.s.known.length (on c (row ops c.s)).s):=rfl;rw[e6];have M:(on (on c (row ops c.s)) (Un.cut t.s.known.length (on c (row ops c.s)).s)).blocks.length=a+2:=V;generalize on (on c (row ops c.s)) (Un.cut t.s.known.length (on c (row ops c.s)).s)=t6 at*
 let ⟨m7,N⟩:=m6.end_ (cond:=0) (n:=[a+3]) (state:=0) (fu:=[a+1,a+2]) (by rw[M,Z]) (by simp_all) (.inl ⟨rfl,rfl⟩)
  (λw d=>by rw[M];exact((by rw[<-g];exact(e.kn w (by simp_all)).mono x6.1:Kn D t6 a w)).up (Kd (by omega) d3))
 rw[M]at N;have W:=IL t6 1 0 [a+3] 0 [a+1,a+2];have aa:=L.mono W.1;have ab:=o.mono W.1;have O:(Un.end_ t6 1 0 [a+3] 0 [a+1,a+2]).s.cur=[]:=rfl;generalize Un.end_ t6 1 0 [a+3] 0 [a+1,a+2]=t7 at*
 let ⟨X,y8,kn8,_⟩:=Up m7 (args:=[x,y]) (.inl O) (by omega) (λ_=>by
  rw[N,p3];refine⟨rfl,λj w q h r=>?_⟩
  match j,h,r with
  | 0,h,r=>
    obtain rfl:x=w:=by simpa[vl]using h
    simp_all
  | 1,h,r=>
    obtain rfl:y=w:=by simpa[vl]using h
    simp_all
  |j+2,h,r=>simp_all)
 have m9:=X.SN (l:=t7.s.known++[t7.s.ee.length]) (λw d=>by
  rcases xU.1 d with d|d
  ·exact X.kn w d
  ·simp at d;subst d;exact kn8) (by simp)
 let⟨P,_⟩:=m9.row ops
 exact⟨P,N⟩
theorem zbt(c:pe D pr nx E t) (ops:List Int) (P:nx t.blocks.length=[t.blocks.length+1,t.blocks.length+2]) (Q:nx (t.blocks.length+1)=[])
  (p1:pr (t.blocks.length+1)=[t.blocks.length]) (p2:pr (t.blocks.length+2)=[t.blocks.length]) (d1:D (t.blocks.length+1)=t.blocks.length) (d2:D (t.blocks.length+2)=t.blocks.length) :
  pe D pr nx E (zJ ops t)/\(zJ ops t).blocks.length=t.blocks.length+2:=by
 generalize e:t.blocks.length=a at*;have hc:=A7 ops c.ne;have l:pe D pr nx E (on t (fJ ops t.s).2):=c.at_ _;have m:Lx t (on t (fJ ops t.s).2):=(Gw.pos t _).lx;have o:(on t (fJ ops t.s).2).s.known=t.s.known:=rfl;unfold zJ;simp only;rw[e];generalize p:(fJ ops t.s).1=cond at*;generalize (fJ ops t.s).2=s0 at*;have e0:{t with s:=s0} = on t s0:=rfl;rw[e0];have f:(on t s0).blocks.length=a:=e
 let ⟨m1,v⟩:=l.end_ (cond:=cond) (n:=[a+1,a+2]) (state:=0) (fu:=[a]) (by simp_all) (by simp_all) (.inr (.inl ⟨rfl,rfl,by rw[ <-e];exact(c.kn cond hc).mono m.1⟩))
  (λw d=>by rw[f];exact((by rw[<-e];exact(c.kn w (by simp_all)).mono m.1:Kn D (on t s0) a w)).up (by grind[Kd]))
 rw[f]at v;have C:=m.trans (IL (on t s0) 2 cond [a+1,a+2] 0 [a]);have q:(Un.end_ (on t s0) 2 cond [a+1,a+2] 0 [a]).s.known=t.s.known:=o;generalize Un.end_ (on t s0) 2 cond [a+1,a+2] 0 [a]=b at*
 let⟨F,r⟩:=m1.row ops
 have G:=C.trans r.lx;have x:(on b (row ops b.s)).blocks.length=a+1:=by rw[r.blocks];exact v
 let⟨y,hk2⟩:=r.known
 rw[q]at hk2
 let⟨z,H,hk3,_,_,fs,hfs,hin⟩:=F.state ops
 have I:=G.trans H.lx;have J:(on (on b (row ops b.s)) (fG ops (on b (row ops b.s)).s).2).blocks.length=a+1:=x;have eS:fG ops (row ops b.s)=fG ops (on b (row ops b.s)).s:=rfl;rw[eS];have g:(on (on b (row ops b.s)) (fG ops (on b (row ops b.s)).s).2).s.known=t.s.known++y:=by
  show(fG ops (on b (row ops b.s)).s).2.known=_;rw[hk3,hk2]
 have h:∀w∈il fs,Kn D (on (on b (row ops b.s)) (fG ops (on b (row ops b.s)).s).2) (a+1) w:=λw d=>by
  rw[<-J];refine z.kn w ?_
  simp_all
 let⟨K,hk4,i⟩:=z.cut c.ne ⟨y,g⟩
 have L:=I.trans i;generalize (fG ops (on b (row ops b.s)).s).1=st at*;have M:{b with s:=Un.cut t.s.known.length (fG ops (on b (row ops b.s)).s).2} = on (on (on b (row ops b.s)) (fG ops (on b (row ops b.s)).s).2) (Un.cut t.s.known.length (on (on b (row ops b.s)) (fG ops (on b (row ops b.s)).s).2).s):=rfl;rw[M];have j:(on (on (on b (row ops b.s)) (fG ops (on b (row ops b.s)).s).2) (Un.cut t.s.known.length (on (on b (row ops b.s)) (fG ops (on b (row ops b.s)).s).2).s)).s.ez[st]? =some fs:=hfs;have k:=λw d=>(h w d).mono i.1;have u:(on (on (on b (row ops b.s)) (fG ops (on b (row ops b.s)).s).2) (Un.cut t.s.known.length (on (on b (row ops b.s)) (fG ops (on b (row ops b.s)).s).2).s)).blocks.length=a+1:=x;generalize on (on (on b (row ops b.s)) (fG ops (on b (row ops b.s)).s).2) (Un.cut t.s.known.length (on (on b (row ops b.s)) (fG ops (on b (row ops b.s)).s).2).s)=A at*
 let ⟨N,B⟩:=K.end_ (cond:=0) (fu:=[a]) (by simp_all) (by simp_all) (.inr (.inr ⟨rfl,rfl,fs,j,λw d=>by rw[u];exact k w d⟩))
  (λw d=>by rw[u];exact((by rw[<-e];exact(c.kn w (by simp_all)).mono L.1:Kn D A a w)).up (by grind[Kd]))
 rw[u]at B;generalize Un.end_ A 3 0 [] st [a]=R at*
 let⟨O,_⟩:=N.row ops
 exact⟨O,B⟩
theorem zes(t:Dt) (v:Nat) (args:List Nat):Lx t (on t (setArgs t.s v args)):=by
 refine⟨⟨λ_ _ h=>h,λ_ _ _ h=>h,λw x h=>?_,λ_ _ h=>h⟩,by show _<=(t.s.ee.modify v _).length;simp_all⟩;show ∃y,(t.s.ee.modify v λx=>{x with args:=args})[w]? =some y/\y.op=x.op
 grind
theorem I4(e:pe D pr nx E t) {v b:Nat} {x:Vl} {args:List Nat} (hv:t.s.ee[v]? =some x) (I:x.op=21) (A:Ow t v b) (h0:b≠0) (r:args.length=(pr b).length/\∀(j w q:Nat),args[j]? =some w->(pr b)[j]? =some q->Kn D t q w) (J:∀w,w≠v->¬E' w->¬E w) :
  pe D pr nx E' (on t (setArgs t.s v args))/\Lx t (on t (setArgs t.s v args)):=by
 have d:=zes t v args;refine⟨?_,d⟩;have g:∀w y,(on t (setArgs t.s v args)).s.ee[w]? =some y->(w≠v/\t.s.ee[w]? =some y)\/(w=v/\y = {x with args:=args}):=λw y h=>by
  have h':(t.s.ee.modify v λx=>{x with args:=args})[w]? =some y:=h
  grind
 have i:=(kE.1 hv).1;refine⟨by show t.blocks.flatMap (λB:Bk=>B.ee)++t.s.cur=List.range (t.s.ee.modify v _).length;rw[List.length_modify];exact e.cat,λw y h=>?_,λw y h n=>?_,λc B h=>⟨(e.bk c B h).1,(e.bk c B h).2.1,(e.bk c B h).2.2.mono d.1⟩,λs fs h=>?_,e.pc,e.ne,λw k=>(e.kn w k).mono d.1⟩
 ·rcases g w y h with⟨_,h⟩|⟨rfl,rfl⟩
  ·exact(e.Ml w y h).mono d.1 (by grind)
  ·have z:=(e.Ml w x hv).mono d.1 i
   let⟨c,l,_,_,o⟩:=z.own
   refine⟨z.op,λh=>?_,λh=>?_,c,l,by simp_all,λh=>?_,o⟩
   ·simp_all
   ·simp_all
   simp_all
 ·rcases g w y h with⟨oS,h⟩|⟨rfl,rfl⟩
  ·let⟨c,l,p,m⟩:=e.ph w y h n
   exact⟨c,l,p,λC=>⟨(m (by simp_all)).1,λj u q e1 e2=>((m (by simp_all)).2 j u q e1 e2).mono d.1⟩⟩
  ·exact⟨b,A,h0,λ_=>⟨r.1,λj u q e1 e2=>(r.2 j u q e1 e2).mono d.1⟩⟩
 ·let⟨l,p⟩:=e.st s fs h
  refine⟨l,λf F=>?_⟩
  let⟨m,o,G,H⟩:=p f F
  exact⟨m,o,λw k=>(G w k).imp λa h=>h.mono d.1,λw k=>(H w k).imp λa h=>h.mono d.1⟩
theorem LH{P:Nat->Nat->Prop} {x y q r:Nat} (a:P q x) (b:P r y):([x,y]:List Nat).length=([q,r]:List Nat).length/\∀(j w p:Nat),([x,y]:List Nat)[j]? =some w->([q,r]:List Nat)[j]? =some p->P p w:=by
 grind
structure Hd (D:Nat->Nat) (t b:Dt) (p f g less a:Nat):Prop where
 lx:Lx t b
 blocks:b.blocks.length=a+2
 kf:Kn D b a f
 kg:Kn D b a g
 kl:Kn D b (a+1) less
 op:Ow b p (a+1)
 oq:Ow b (p+1) (a+1)
 vp:∃x,b.s.ee[p]? =some x/\x.op=21
 vq:∃x,b.s.ee[p+1]? =some x/\x.op=21
 kn:∀w∈b.s.known,Kn D b (a+1) w
end
open Dm
section
variable{D:Nat->Nat}{pr nx:Nat->List Nat}{E E':Nat->Prop}{t:Dt}
set_option maxHeartbeats 2000000 in
theorem za8 (hM:pe D pr nx E t) (ops:List Int) (n0:nx t.blocks.length=[t.blocks.length+1]) (n1:nx (t.blocks.length+1)=[t.blocks.length+2,t.blocks.length+3]) (n2:nx (t.blocks.length+2)=[t.blocks.length+1])
  (p1:pr (t.blocks.length+1)=[t.blocks.length,t.blocks.length+2]) (p2:pr (t.blocks.length+2)=[t.blocks.length+1]) (p3:pr (t.blocks.length+3)=[t.blocks.length+1])
  (d1:D (t.blocks.length+1)=t.blocks.length) (d2:D (t.blocks.length+2)=t.blocks.length+1) (d3:D (t.blocks.length+3)=t.blocks.length+1) :
  pe D pr nx E (loop ops t)/\(loop ops t).blocks.length=t.blocks.length+3:=by
 generalize ha:t.blocks.length=a at*;have hf:=A7 ops hM.ne;have bi:pe D pr nx E (on t (fJ ops t.s).2):=hM.at_ _;have x0:Lx t (on t (fJ ops t.s).2):=(Gw.pos t _).lx;have aI:(on t (fJ ops t.s).2).s.known=t.s.known:=rfl;unfold loop;simp only;rw[ha];generalize bH:(fJ ops t.s).1=f at*;generalize (fJ ops t.s).2=s0 at*;have e0:{t with s:=s0} = on t s0:=rfl;rw[e0];have V:(on t s0).blocks.length=a:=ha
 obtain ⟨bj,b1⟩:=bi.end_ (fin:=1) (cond:=0) (n:=[a+1]) (state:=0) (fu:=[a,a+2]) (by rw[V,n0]) (by rw[V,p1]) (.inl ⟨rfl,rfl⟩)
  (λw i=>by rw[V];exact((by rw[<-ha];exact(hM.kn w (by rw[<-aI];exact i)).mono x0.1:Kn D (on t s0) a w)).up (Kd (by omega) d1))
 rw[V]at b1;have x1:=x0.trans (IL (on t s0) 1 0 [a+1] 0 [a,a+2]);have aJ:(Un.end_ (on t s0) 1 0 [a+1] 0 [a,a+2]).s.known=t.s.known:=aI;have aK:(Un.end_ (on t s0) 1 0 [a+1] 0 [a,a+2]).s.cur=[]:=rfl;generalize Un.end_ (on t s0) 1 0 [a+1] 0 [a,a+2]=c at*;generalize hp:c.s.ee.length=p at*;have m1:=bj.weaken (E':=λv=>E v\/v=p\/v=p+1) λv h=> .inl h;obtain⟨m2,y2,_,ah⟩:=Up m1 (args:=[f,0]) (.inl aK) (by omega) (λh=>absurd (.inr (.inl hp)) h);rw[hp,b1]at ah;have v2:(on c (put c.s (vl 21 0 0 0 [f,0] 0))).s.ee.length=p+1:=by show(c.s.ee++[_]).length=_;simp[hp]
 have aL:∃x,(on c (put c.s (vl 21 0 0 0 [f,0] 0))).s.ee[p]? =some x/\x.op=21:=⟨vl 21 0 0 0 [f,0] 0,by show(c.s.ee++[_])[p]? =_;rw[<-hp];simp,rfl⟩
 have bm:(on c (put c.s (vl 21 0 0 0 [f,0] 0))).s.known=t.s.known:=aJ;have ai:(on c (put c.s (vl 21 0 0 0 [f,0] 0))).s.cur=[p]:=by show c.s.cur++[c.s.ee.length]=_;rw[aK,hp];rfl
 have b2:(on c (put c.s (vl 21 0 0 0 [f,0] 0))).blocks.length=a+1:=b1;have x2:=x1.trans y2;have hg:=A7 ops m2.ne;rw[bm]at hg;have eG:fJ ops (put c.s (vl 21 0 0 0 [f,0] 0))=fJ ops (on c (put c.s (vl 21 0 0 0 [f,0] 0))).s:=rfl;rw[eG];have m3:pe D pr nx (λv=>E v\/v=p\/v=p+1) (on (on c (put c.s (vl 21 0 0 0 [f,0] 0))) (fJ ops (on c (put c.s (vl 21 0 0 0 [f,0] 0))).s).2):=m2.at_ _;have g3:Gw (on c (put c.s (vl 21 0 0 0 [f,0] 0))) (on (on c (put c.s (vl 21 0 0 0 [f,0] 0))) (fJ ops (on c (put c.s (vl 21 0 0 0 [f,0] 0))).s).2):=Gw.pos _ _;have v3:(fJ ops (on c (put c.s (vl 21 0 0 0 [f,0] 0))).s).2.ee.length=p+1:=v2;have aM:(fJ ops (on c (put c.s (vl 21 0 0 0 [f,0] 0))).s).2.known=t.s.known:=aJ;have aj:(fJ ops (on c (put c.s (vl 21 0 0 0 [f,0] 0))).s).2.cur=[p]:=ai;have ak:∃x,(fJ ops (on c (put c.s (vl 21 0 0 0 [f,0] 0))).s).2.ee[p]? =some x/\x.op=21:=aL;generalize (fJ ops (on c (put c.s (vl 21 0 0 0 [f,0] 0))).s).1=g at*;generalize (fJ ops (on c (put c.s (vl 21 0 0 0 [f,0] 0))).s).2=j at*;have x3:Lx t (on c j):=x2.trans g3.lx;have aN:Ow (on c j) p (a+1):=g3.le.ow _ _ ah;have m3:pe D pr nx (λv=>E v\/v=p\/v=p+1) (on c j):=m3;have b3:(on c j).blocks.length=a+1:=b1;obtain⟨m4,y4,al,am⟩:=Up m3 (args:=[g,p]) (.inr λw i=>by
  have M:w∈j.cur:=i;rw[aj]at M;simp at M;subst M;obtain⟨x,H,I⟩:=ak;exact⟨x,H,by rw[I];rfl⟩) (by omega) (λh=>absurd (.inr (.inr v3)) h)
 have bn:(on c j).s.ee.length=p+1:=v3;rw[bn,b3]at al am;have x4:=x3.trans y4;have an:=y4.1.ow _ _ aN;have ao:∃x,(on (on c j) (put (on c j).s (vl 21 0 0 0 [g,p] 0))).s.ee[p]? =some x/\x.op=21:=by
  obtain⟨x,H,I⟩:=ak;obtain⟨y,W,X⟩:=y4.1.val p x H;exact⟨y,W,by rw[X,I]⟩
 have aO:∃x,(on (on c j) (put (on c j).s (vl 21 0 0 0 [g,p] 0))).s.ee[p+1]? =some x/\x.op=21:=⟨vl 21 0 0 0 [g,p] 0,by show(j.ee++[_])[p+1]? =_;rw[<-v3];simp,rfl⟩
 have aP:Kn D (on (on c j) (put (on c j).s (vl 21 0 0 0 [g,p] 0))) (a+1) p:=by
  obtain⟨x,H,I⟩:=ao;exact⟨_,x,an,.refl _,H,by rw[I];rfl⟩
 have m5:=m4.SN (l:=t.s.known++[p,p+1]) (λw i=>by
  rcases xU.1 i with i|i
  ·exact m4.kn w (by show w∈j.known;rw[aM];exact i)
  ·have b4:(on (on c j) (put (on c j).s (vl 21 0 0 0 [g,p] 0))).blocks.length=a+1:=b1;rw[b4];simp at i;rcases i with rfl|rfl
   ·exact aP
   ·exact al) (by simp)
 have e5:{put j (vl 21 0 0 0 [g,p] 0)with known:=(put j (vl 21 0 0 0 [g,p] 0)).known++[p,p+1]} = {put j (vl 21 0 0 0 [g,p] 0)with known:=t.s.known++[p,p+1]}:=by
  have:(put j (vl 21 0 0 0 [g,p] 0)).known=t.s.known:=aM;rw[this]
 rw[e5];have m5:pe D pr nx (λv=>E v\/v=p\/v=p+1) (on c {put j (vl 21 0 0 0 [g,p] 0)with known:=t.s.known++[p,p+1]}):=m5;have x5:Lx t (on c {put j (vl 21 0 0 0 [g,p] 0)with known:=t.s.known++[p,p+1]}):=⟨⟨x4.1.ow,x4.1.back,x4.1.val,x4.1.st⟩,x4.2⟩
 have aQ:Ow (on c {put j (vl 21 0 0 0 [g,p] 0)with known:=t.s.known++[p,p+1]}) p (a+1):=an;have aR:Ow (on c {put j (vl 21 0 0 0 [g,p] 0)with known:=t.s.known++[p,p+1]}) (p+1) (a+1):=am;have aS:∃x,(on c {put j (vl 21 0 0 0 [g,p] 0)with known:=t.s.known++[p,p+1]}).s.ee[p]? =some x/\x.op=21:=ao;have aT:∃x,(on c {put j (vl 21 0 0 0 [g,p] 0)with known:=t.s.known++[p,p+1]}).s.ee[p+1]? =some x/\x.op=21:=aO;have bo:(on c {put j (vl 21 0 0 0 [g,p] 0)with known:=t.s.known++[p,p+1]}).s.known=t.s.known++[p,p+1]:=rfl;clear m4 y4 x4 an am ao aO al aP m3 m2 y2 g3 ah aN aL ak e5;generalize bI:({put j (vl 21 0 0 0 [g,p] 0)with known:=t.s.known++[p,p+1]}:Ds)=G at*;obtain⟨m6,g6,aU,_,_,fs,h5,h6⟩:=m5.state ops;have eS:fG ops G=fG ops (on c G).s:=rfl;rw[eS];obtain⟨m7,g7,_⟩:=m6.U6 (x:=vl 23 0 0 0 [] (fG ops (on c G).s).1) (by simp only[vl];omega) (λh=>by simp only[vl]at h;omega) (λw i=>by simp[kj,vl,two,zA]at i) (λ_=>⟨fs,h5,λw i=>by show w∈(fG ops (on c G).s).2.known;rw[aU];exact h6 w i⟩);have Y:=g6.trans g7;have m7:pe D pr nx (λv=>E v\/v=p\/v=p+1) (on c (put (fG ops (on c G).s).2 (vl 23 0 0 0 [] (fG ops (on c G).s).1))):=m7;have Y:Gw (on c G) (on c (put (fG ops (on c G).s).2 (vl 23 0 0 0 [] (fG ops (on c G).s).1))):=Y;have bp:(put (fG ops (on c G).s).2 (vl 23 0 0 0 [] (fG ops (on c G).s).1)).known=t.s.known++[p,p+1]:=by show(fG ops (on c G).s).2.known=_;rw[aU];exact bo
 generalize put (fG ops (on c G).s).2 (vl 23 0 0 0 [] (fG ops (on c G).s).1)=N at*;obtain⟨m8,g8,o⟩:=m7.U6 (x:=vl 2 0 0 1 [] 0) (by simp only[vl];omega) (λh=>by simp only[vl]at h;omega) (λw i=>by simp[kj,vl,two,zA]at i) (λh=>by simp[vl,leaves]at h);have b8:(on c N).blocks.length=a+1:=b1;have o:=o rfl;rw[b8]at o;have m8:pe D pr nx (λv=>E v\/v=p\/v=p+1) (on c (put N (vl 2 0 0 1 [] 0))):=m8;have g8:Gw (on c N) (on c (put N (vl 2 0 0 1 [] 0))):=g8;have o:Kn D (on c (put N (vl 2 0 0 1 [] 0))) (a+1) N.ee.length:=o;have v8:(put N (vl 2 0 0 1 [] 0)).ee.length=N.ee.length+1:=by simp[put]
 have aV:(put N (vl 2 0 0 1 [] 0)).known=t.s.known++[p,p+1]:=bp;generalize bG:N.ee.length=one at*;generalize put N (vl 2 0 0 1 [] 0)=A at*;have b8:(on c A).blocks.length=a+1:=b1;have aq:p∈(on c A).s.known:=by show p∈A.known;rw[aV];simp
 obtain ⟨m9,k⟩:=m8.put (x:=vl 4 p one 0 [] 0) (by simp[vl]) (λh=>by simp[vl]at h) (λh=>by simp[vl]at h) (λ_ w i=>by
  have M:w=p\/w=one:=by simpa[kj,vl,two]using i
  rcases M with rfl|rfl
  ·exact m8.kn _ aq
  ·rw[b8];exact o) (λh=>by simp[vl,leaves]at h) (λh=>by simp[vl,kh]at h) (λh=>by simp[vl]at h)
 have y9:Lx (on c A) (Um (on c A) (vl 4 p one 0 [] 0)):=⟨Q0 _ _,by show _<=(A.ee++[_]).length;simp[on]⟩
 have k:=k rfl;have O:=m9.SN (l:=A.known++[A.ee.length]) (λw i=>by
  rcases xU.1 i with i|i
  ·exact m9.kn w i
  ·simp at i;subst i;exact k) (by simp)
 have O:pe D pr nx (λv=>E v\/v=p\/v=p+1) (on c (hO A (vl 4 p one 0 [] 0))):=O;have k:Kn D (on c (hO A (vl 4 p one 0 [] 0))) (a+1) (one+1):=by
  rw[<-v8,<-b8];exact k
 have y9:Lx (on c A) (on c (hO A (vl 4 p one 0 [] 0))):=⟨⟨y9.1.ow,y9.1.back,y9.1.val,y9.1.st⟩,y9.2⟩
 have aW:(hO A (vl 4 p one 0 [] 0)).known=t.s.known++[p,p+1]++[A.ee.length]:=by show A.known++_=_;rw[aV]
 have Q:=((Y.lx.trans g8.lx).trans y9)
 have br:=x5.trans Q;generalize hO A (vl 4 p one 0 [] 0)=d at*;have aX:=Q.1.ow _ _ aQ;have aY:=Q.1.ow _ _ aR;have aZ:∃x,(on c d).s.ee[p]? =some x/\x.op=21:=by
  obtain⟨x,H,I⟩:=aS;obtain⟨y,W,X⟩:=Q.1.val p x H;exact⟨y,W,by rw[X,I]⟩
 have a0:∃x,(on c d).s.ee[p+1]? =some x/\x.op=21:=by
  obtain⟨x,H,I⟩:=aT;obtain⟨y,W,X⟩:=Q.1.val (p+1) x H;exact⟨y,W,by rw[X,I]⟩
 clear m9 m8 m7 m6 m5 Y g6 g7 g8 y9 o h5 h6 x5 aQ aR aS aT;have bt:{c with s:=d} = on c d:=rfl;rw[bt];have J:(on c d).blocks.length=a+1:=b1;have R:∀w∈d.known,Kn D (on c d) (a+1) w:=λw i=>by rw[<-J];exact O.kn w i
 have aq:p∈d.known:=by rw[aW];simp
 obtain ⟨bu,ar⟩:=O.end_ (fin:=2) (cond:=p) (n:=[a+2,a+3]) (state:=0) (fu:=[a+1]) (by rw[J,n1]) (by rw[J];exact p2.symm) (.inr (.inl ⟨rfl,rfl,by rw[J];exact R p aq⟩))
  (λw i=>by rw[J];exact(R w i).up (Kd (by omega) d2))
 rw[J]at ar;have bv:=IL (on c d) 2 p [a+2,a+3] 0 [a+1];have a1:(Un.end_ (on c d) 2 p [a+2,a+3] 0 [a+1]).s.known=d.known:=rfl;generalize Un.end_ (on c d) 2 p [a+2,a+3] 0 [a+1]=e at*;obtain⟨au,aw⟩:=bu.row ops;have B:=bv.trans aw.lx;have a2:=br.trans B;have bw:(on e (row ops e.s)).blocks.length=a+2:=by rw[aw.blocks];exact ar
 have kz:=au.kn _ (Jq au.ne);rw[bw]at kz;obtain⟨K,aa⟩:=aw.known;rw[a1]at aa;have kz:Kn D (on e (row ops e.s)) (a+2) ((row ops e.s).known.getLastD 0):=kz;have ab:=B.1.ow _ _ aX;have a3:=B.1.ow _ _ aY;have a4:∃x,(on e (row ops e.s)).s.ee[p]? =some x/\x.op=21:=by
  obtain⟨x,H,I⟩:=aZ;obtain⟨y,W,X⟩:=B.1.val p x H;exact⟨y,W,by rw[X,I]⟩
 have a5:∃x,(on e (row ops e.s)).s.ee[p+1]? =some x/\x.op=21:=by
  obtain⟨x,H,I⟩:=a0;obtain⟨y,W,X⟩:=B.1.val (p+1) x H;exact⟨y,W,by rw[X,I]⟩
 have S:=(k.mono B.1).up (Kd (D:=D) (a:=a+1) (b:=a+2) (by omega) d2);have a6:∀w∈d.known,Kn D (on e (row ops e.s)) (a+1) w:=λw i=>(R w i).mono B.1;have ac:Kn D (on e (row ops e.s)) a f:=by rw[<-ha];exact(hM.kn f hf).mono a2.1
 have a7:Kn D (on e (row ops e.s)) a g:=by rw[<-ha];exact(hM.kn g hg).mono a2.1
 have ax:(row ops e.s).known=d.known++K:=aa;generalize (row ops e.s).known.getLastD 0=z at*;generalize row ops e.s=r at*;obtain⟨xp,a8,ae⟩:=a4;obtain⟨ay,az⟩:=I4 (E':=λv=>E v\/v=p+1) au a8 ae ab (by omega) (args:=[f,one+1]) (by rw[p1];exact LH (P:=λq w=>Kn D (on e r) q w) ac S) (λw oS hE=>by
  rintro(h|h|h)
  ·exact hE (.inl h)
  ·exact oS h
  ·exact hE (.inr h))
 have ay:pe D pr nx (λv=>E v\/v=p+1) (on e (setArgs r p [f,one+1])):=ay;have az:Lx (on e r) (on e (setArgs r p [f,one+1])):=az;have a9:(setArgs r p [f,one+1]).known=d.known++K:=ax;generalize setArgs r p [f,one+1]=C at*;have ba:pe D pr nx (λv=>E v\/v=p+1) (on e (num ops C 3).2):=ay.at_ _;have L:Lx (on e r) (on e (num ops C 3).2):=az.trans (Gw.pos (on e C) (draw ops C.pos 3).2).lx;have ag:(num ops C 3).2.known=d.known++K:=a9;generalize (num ops C 3).1=dd at*;generalize (num ops C 3).2=aA at*;have aB:∃u,(if dd=0 then setArgs aA p [f,z] else aA)=u/\pe D pr nx (λv=>E v\/v=p+1) (on e u)/\Lx (on e r) (on e u)/\u.known=d.known++K:=by
  by_cases hd:dd=0
  ·rw[if_pos hd];obtain⟨bJ,bb,aC⟩:=L.1.val p xp a8;obtain⟨m,y⟩:=I4 (E':=λv=>E v\/v=p+1) ba bb (by rw[aC,ae]) (L.1.ow _ _ ab) (by omega) (args:=[f,z]) (by rw[p1];exact LH (P:=λq w=>Kn D (on e aA) q w) (ac.mono L.1) (kz.mono L.1)) (λw _ hE=>hE);exact⟨_,rfl,m,L.trans y,ag⟩
  ·rw[if_neg hd];exact⟨_,rfl,ba,L,ag⟩
 obtain ⟨u,bx,bz,T,bc⟩:=aB;rw[bx];obtain⟨xq,bA,bd⟩:=a5;obtain⟨bK,be,aD⟩:=T.1.val (p+1) xq bA;obtain⟨aE,aF⟩:=I4 (E':=E) bz be (by rw[aD,bd]) (T.1.ow _ _ a3) (by omega) (args:=[g,z]) (by rw[p1];exact LH (P:=λq w=>Kn D (on e u) q w) (a7.mono T.1) (kz.mono T.1)) (λw oS hE=>by
  rintro(h|h)
  ·exact hE h
  ·exact oS h)
 have aE:pe D pr nx E (on e (setArgs u (p+1) [g,z])):=aE;have aF:Lx (on e r) (on e (setArgs u (p+1) [g,z])):=T.trans aF;have bf:(setArgs u (p+1) [g,z]).known=d.known++K:=bc;generalize setArgs u (p+1) [g,z]=F at*;obtain⟨aG,U,aH⟩:=aE.cut O.ne ⟨K,bf⟩;have aG:pe D pr nx E (on e (Un.cut d.known.length F)):=aG;have aH:Lx (on e r) (on e (Un.cut d.known.length F)):=aF.trans aH;have U:(on e (Un.cut d.known.length F)).s.known=d.known:=U;have bC:{e with s:=Un.cut d.known.length F} = on e (Un.cut d.known.length F):=rfl;rw[bC];have Z:(on e (Un.cut d.known.length F)).blocks.length=a+2:=ar;generalize on e (Un.cut d.known.length F)=t3 at*
 obtain ⟨bD,bg⟩:=aG.end_ (fin:=1) (cond:=0) (n:=[a+1]) (state:=0) (fu:=[a+1]) (by rw[Z,n2]) (by rw[Z];exact p3.symm) (.inl ⟨rfl,rfl⟩)
  (λw i=>by rw[Z];rw[U]at i;exact((a6 w i).mono aH.1).up (Kd (by omega) d3))
 rw[Z]at bg;generalize Un.end_ t3 1 0 [a+1] 0 [a+1]=t4 at*;obtain⟨bE,_⟩:=bD.row ops;exact⟨bE,bg⟩
end
