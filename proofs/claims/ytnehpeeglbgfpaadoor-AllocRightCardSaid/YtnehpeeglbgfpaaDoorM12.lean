/- Parts. -/
import Derived.Test.YtnehpeeglbgfpaaDoorM11
set_option maxHeartbeats 4000000
namespace Go.Proofs.YtnehpeeglbgfpaaDoor.Un
open Dm
def Ow(t:Dt)(v b:Nat):Prop:=(∃B,t.blocks[b]? =some B/\v∈B.ee)\/(b=t.blocks.length/\v∈t.s.cur)
def Kn(D:Nat->Nat)(t:Dt)(a w:Nat):Prop:=∃(b:Nat) (x:Vl),Ow t w b/\nq D b a/\t.s.ee[w]? =some x/\JO x.op=true
structure Le (t t':Dt):Prop where
 ow:∀(w b:Nat),Ow t w b->Ow t' w b
 back:∀(w b:Nat),w<t.s.ee.length->Ow t' w b->Ow t w b
 val:∀(w:Nat) (x:Vl),t.s.ee[w]? =some x->∃y,t'.s.ee[w]? =some y/\y.op=x.op
 st:∀(s:Nat) (fs:List Fm),t.s.eh[s]? =some fs->t'.s.eh[s]? =some fs
theorem Le.refl(t:Dt):Le t t:=⟨by simp_all,by simp_all,by simp_all,by simp_all⟩
theorem Kn.mono{D:Nat->Nat} {t t':Dt} {a w:Nat} (h:Kn D t a w) (c:Le t t'):Kn D t' a w:=by
 obtain⟨b,x,d,e,f,i⟩:=h;obtain⟨y,g,j⟩:=c.val w x f;exact⟨b,y,c.ow w b d,e,g,by simp_all⟩
theorem Kn.up{D:Nat->Nat} {t:Dt} {a c w:Nat} (h:Kn D t a w) (d:nq D a c):Kn D t c w:=by
 obtain⟨b,x,e,f,g⟩:=h;exact⟨b,x,e,f.trans d,g⟩
theorem Kn.lt{D:Nat->Nat} {t:Dt} {a w:Nat} (h:Kn D t a w):w<t.s.ee.length:=by
 obtain⟨b,x,_,_,c,_⟩:=h
 grind
structure YB (D:Nat->Nat) (t:Dt) (v:Nat) (x:Vl):Prop where
 op:1<=x.op/\x.op<=23
 putAt:x.op=20->x.args.length=1
 par:x.op=1->Ow t v 0/\x.n=(v:Nat)/\v<5
 own:∃b,Ow t v b/\(x.op≠21->∀w∈mD x,w<v/\Kn D t b w)/\(leaves x.op=true->∃fs,t.s.eh[x.state]? =some fs/\∀w∈jh fs,w<v/\Kn D t b w)/\
  (iC x.op=true->∀w,Ow t w b->w<v->∃y,t.s.ee[w]? =some y/\iC y.op=true)
theorem YB.mono{D:Nat->Nat} {t t':Dt} {v:Nat} {x:Vl} (h:YB D t v x) (a:Le t t') (o:v<t.s.ee.length):YB D t' v x:=by
 obtain⟨b,d,i,j,k⟩:=h.own;refine⟨h.op,h.putAt,λd=>⟨a.ow _ _ (h.par d).1,(h.par d).2⟩,b,a.ow _ _ d,λl w c=>⟨by simp_all,(i l w c).2.mono a⟩,λm=>?_,λn w c e=>?_⟩
 ·obtain⟨fs,f,g⟩:=j m;exact⟨fs,a.st _ _ f,λw c=>⟨by simp_all,(g w c).2.mono a⟩⟩
 ·obtain⟨y,f,g⟩:=k n w (a.back w b (by omega) c) e;obtain⟨z,p,g4⟩:=a.val w y f
  simp_all
def U6(D:Nat->Nat)(t:Dt)(ps:List Nat)(x:Vl):Prop:=x.args.length=ps.length/\∀(j w q:Nat),x.args[j]? =some w->ps[j]? =some q->Kn D t q w
def Fin(D:Nat->Nat)(t:Dt)(b:Nat)(B:Bk):Prop:=(B.fin=1/\B.next.length=1)\/(B.fin=2/\B.next.length=2/\Kn D t b B.cond)\/(B.fin=3/\B.next=[]/\∃fs,t.s.eh[B.state]? =some fs/\∀w∈jh fs,Kn D t b w)
theorem Fin.mono{D:Nat->Nat} {t t':Dt} {b:Nat} {B:Bk} (h:Fin D t b B) (a:Le t t'):Fin D t' b B:=by
 rcases h with h|⟨c,d,e⟩|⟨c,d,fs,e,f⟩
 ·exact .inl h
 ·exact .inr (.inl ⟨c,d,e.mono a⟩)
 ·exact .inr (.inr ⟨c,d,fs,a.st _ _ e,λw g=>(f w g).mono a⟩)
structure mK (D:Nat->Nat) (pr nx:Nat->List Nat) (E:Nat->Prop) (t:Dt):Prop where
 cat:t.blocks.flatMap (·.ee)++t.s.cur=List.range t.s.ee.length
 GN:∀(v:Nat) (x:Vl),t.s.ee[v]? =some x->YB D t v x
 ph:∀(v:Nat) (x:Vl),t.s.ee[v]? =some x->x.op=21->∃b,Ow t v b/\b≠0/\(¬E v->U6 D t (pr b) x)
 bk:∀(b:Nat) (B:Bk),t.blocks[b]? =some B->B.next=nx b/\B.ft=pr b/\Fin D t b B
 st:∀(s:Nat) (fs:List Fm),t.s.eh[s]? =some fs->fs.length=1/\∀f∈fs,f.locals.length<=3/\f.stack.length=1/\(∀w∈f.locals,∃a,Kn D t a w)/\∀w∈f.stack,∃a,Kn D t a w
 pc:t.ft=pr t.blocks.length
 ne:t.s.known≠[]
 kn:∀w∈t.s.known,Kn D t t.blocks.length w
section
variable{D:Nat->Nat}{pr nx:Nat->List Nat}{E:Nat->Prop}{t:Dt}
def Nz(t:Dt)(x:Vl):Dt:={t with s:=put t.s x}
theorem Ki(t:Dt) (x:Vl):Le t (Nz t x) where
 ow w b h:=by
  rcases h with h|⟨a,c⟩
  ·exact .inl h
  ·exact .inr ⟨a,by show w∈t.s.cur++_;simp_all⟩
 back w b hw h:=by
  rcases h with h|⟨a,c⟩
  ·exact .inl h
  ·refine .inr ⟨a,?_⟩;have d:w∈t.s.cur++[t.s.ee.length]:=c
   grind
 val w y h:=⟨y,by show(t.s.ee++[x])[w]? =some y;grind,rfl⟩
 st s fs h:=h
theorem mK.put(i:mK D pr nx E t) {x:Vl} (J:1<=x.op/\x.op<=23) (z:x.op=20->x.args.length=1) (G:x.op=1->t.blocks.length=0/\x.n=(t.s.ee.length:Nat)/\t.s.ee.length<5)
  (H:x.op≠21->∀w∈mD x,Kn D t t.blocks.length w) (K:leaves x.op=true->∃fs,t.s.eh[x.state]? =some fs/\∀w∈jh fs,Kn D t t.blocks.length w)
  (R:iC x.op=true->∀w∈t.s.cur,∃y,t.s.ee[w]? =some y/\iC y.op=true) (A:x.op=21->t.blocks.length≠0/\(¬E t.s.ee.length->U6 D t (pr t.blocks.length) x)) :
  mK D pr nx E (Nz t x)/\(JO x.op=true->Kn D (Nz t x) t.blocks.length t.s.ee.length):=by
 have c:=Ki t x;have e:Ow (Nz t x) t.s.ee.length t.blocks.length:= .inr ⟨rfl,by show t.s.ee.length∈t.s.cur++[t.s.ee.length];simp⟩;have o:(Nz t x).s.ee[t.s.ee.length]? =some x:=by show(t.s.ee++[x])[t.s.ee.length]? =some x;simp
 have g:∀(v:Nat) (y:Vl),(Nz t x).s.ee[v]? =some y->t.s.ee[v]? =some y\/v=t.s.ee.length/\y=x:=λv y h=>by
  have h':(t.s.ee++[x])[v]? =some y:=h
  grind
 refine⟨⟨?_,λv y h=>?_,λv y h p=>?_,λb B h=>⟨(i.bk b B h).1,(i.bk b B h).2.1,(i.bk b B h).2.2.mono c⟩,λs fs h=>?_,i.pc,i.ne,λw d=>(i.kn w d).mono c⟩,λL=>⟨_,x,e,.refl _,o,L⟩⟩
 ·show t.blocks.flatMap (·.ee)++(t.s.cur++[t.s.ee.length])=List.range (t.s.ee++[x]).length;rw[<-MQ,i.cat,Ja,Xk,Vc]
 ·rcases g v y h with h|⟨rfl,rfl⟩
  ·exact(i.GN v y h).mono c (by grind)
  ·refine ⟨J,z,λl=>?_,t.blocks.length,e,λI w d=>⟨(H I w d).lt,(H I w d).mono c⟩,λl=>?_,λl w d C=>?_⟩
   ·simp_all
   ·obtain⟨fs,m,k⟩:=K l;exact⟨fs,m,λw d=>⟨(k w d).lt,(k w d).mono c⟩⟩
   ·have M:=c.back w _ C d;rcases M with⟨B,N,_⟩|⟨_,N⟩
    ·simp_all
    grind
 ·rcases g v y h with h|⟨rfl,rfl⟩
  ·obtain⟨b,m,k,u⟩:=i.ph v y h p;refine⟨b,c.ow _ _ m,k,λr=>⟨(u r).1,λj w q l F=>((u r).2 j w q l F).mono c⟩⟩
  ·obtain⟨m,k⟩:=A p;exact⟨_,e,m,λr=>⟨(k r).1,λj w q l F=>((k r).2 j w q l F).mono c⟩⟩
 ·obtain⟨m,k⟩:=i.st s fs h;refine⟨m,λf O=>?_⟩;obtain⟨u,g4,P,Q⟩:=k f O;exact⟨u,g4,λw d=>(P w d).imp λa h=>h.mono c,λw d=>(Q w d).imp λa h=>h.mono c⟩
theorem mK.L1(a:mK D pr nx E t) {l:List Nat} (b:∀w∈l,Kn D t t.blocks.length w) (pe:l≠[]):mK D pr nx E {t with s:={t.s with known:=l} }:=
 ⟨a.cat,λv x h=>⟨(a.GN v x h).op,(a.GN v x h).putAt,(a.GN v x h).par,(a.GN v x h).own⟩,a.ph,a.bk,a.st,a.pc,pe,b⟩
theorem mK.at_(a:mK D pr nx E t) (p:Nat):mK D pr nx E {t with s:={t.s with pos:=p} }:=
 ⟨a.cat,λv x h=>⟨(a.GN v x h).op,(a.GN v x h).putAt,(a.GN v x h).par,(a.GN v x h).own⟩,a.ph,a.bk,a.st,a.pc,a.ne,a.kn⟩
end
def on(t:Dt)(s:Ds):Dt:={t with s:=s}
structure Gw (t t':Dt):Prop where
 blocks:t'.blocks=t.blocks
 ft:t'.ft=t.ft
 known:∃k,t'.s.known=t.s.known++k
 ee:∃e,t'.s.ee=t.s.ee++e
 le:Le t t'
theorem Le.trans{t t' a:Dt} (c:Le t t') (d:Le t' a) (f:t.s.ee.length<=t'.s.ee.length):Le t a where
 ow w b h:=d.ow w b (c.ow w b h)
 back w b hw h:=c.back w b hw (d.back w b (by omega) h)
 val w x h:=by
  obtain⟨y,e,g⟩:=c.val w x h;obtain⟨z,i,g4⟩:=d.val w y e
  simp_all
 st s fs h:=d.st s fs (c.st s fs h)
theorem Gw.refl(t:Dt):Gw t t:=⟨rfl,rfl,by simp_all,by simp_all,.refl t⟩
theorem Gw.len{t t':Dt} (h:Gw t t'):t.s.ee.length<=t'.s.ee.length:=by
 obtain⟨e,a⟩:=h.ee
 simp_all
theorem Gw.trans{t t' b:Dt} (a:Gw t t') (c:Gw t' b):Gw t b:=by
 obtain⟨k,g⟩:=a.known;obtain⟨k',d⟩:=c.known;obtain⟨e,h⟩:=a.ee;obtain⟨e',f⟩:=c.ee;exact⟨c.blocks.trans a.blocks,c.ft.trans a.ft,by simp_all,by simp_all,a.le.trans c.le a.len⟩
theorem Gw.pos(t:Dt)(p:Nat):Gw t (on t {t.s with pos:=p}):=⟨rfl,rfl,⟨[],(IN _).symm⟩,⟨[],(IN _).symm⟩,⟨λ_ _ h=>h,λ_ _ _ h=>h,λ_ x h=>⟨x,h,rfl⟩,λ_ _ h=>h⟩⟩
theorem Sk{l:List Nat} {i:Nat} (h:i<l.length):l.getD i 0∈l:=by
 simp_all
theorem xX(ops:List Int){s:Ds}(h:s.known≠[]):(fu ops s).1∈s.known:=Sk (tH ops s.pos (List.length_pos_iff.2 h))
theorem DT{l:List Nat} (h:l≠[]):l.getLastD 0∈l:=by
 cases l <;> grind
theorem JX(ops:List Int):∀(i:Nat) (s:Ds) (l:List Nat),s.known≠[]->(∃p,(some_ ops i s l).2 = {s with pos:=p})/\(some_ ops i s l).1.length=l.length+i/\∀w∈(some_ ops i s l).1,w∈l\/w∈s.known
 |0,s,l,_=>⟨⟨s.pos,rfl⟩,rfl,λw h=> .inl h⟩
 | i+1,s,l,h=>by
   obtain⟨⟨p,b⟩,d,a⟩:=JX ops i (fu ops s).2 (l++[(fu ops s).1]) h;refine⟨⟨p,b⟩,by grind[some_],λw c=>?_⟩;rcases a w c with a|a
   ·grind[xX]
   ·exact .inr a
section
variable{D:Nat->Nat}{pr nx:Nat->List Nat}{E:Nat->Prop}{t:Dt}
theorem mK.le1(t:Dt) (fs:List Fm) (p:Nat):Le t (on t {t.s with eh:=t.s.eh++[fs],pos:=p}):=
 ⟨λ_ _ h=>h,λ_ _ _ h=>h,λ_ x h=>⟨x,h,rfl⟩,λs g h=>by show(t.s.eh++[fs])[s]? =some g;grind⟩
theorem mK.state(d:mK D pr nx E t) (ops:List Int):mK D pr nx E (on t (fk ops t.s).2)/\Gw t (on t (fk ops t.s).2)/\(fk ops t.s).2.known=t.s.known/\(fk ops t.s).2.ee=t.s.ee/\(fk ops t.s).2.cur=t.s.cur/\
  ∃fs,(fk ops t.s).2.eh[(fk ops t.s).1]? =some fs/\∀w∈jh fs,w∈t.s.known:=by
 obtain ⟨⟨p,y⟩,I,z⟩:=JX ops (num ops t.s 4).1 (num ops t.s 4).2 [] d.ne;have J:(num ops t.s 4).1<4:=tH _ _ (by omega);have A:(fk ops t.s).2 = {t.s with eh:=t.s.eh++[[⟨1,(t.s.eh.length:Nat),(some_ ops (num ops t.s 4).1 (num ops t.s 4).2 []).1,[t.s.known.getLastD 0]⟩]],pos:=p}:=by
  unfold fk;simp only;rw[y];rfl
 rw[A];generalize (some_ ops (num ops t.s 4).1 (num ops t.s 4).2 []).1=l at*;have c:=mK.le1 t [⟨1,(t.s.eh.length:Nat),l,[t.s.known.getLastD 0]⟩] p;have C:∀w∈l,w∈t.s.known:=λw e=>(z w e).elim (by simp_all) id;have k:=DT d.ne
 refine ⟨⟨d.cat,λv x h=>(d.GN v x h).mono c (jw.1 h).1,λv x h F=>?_,λb B h=>⟨(d.bk b B h).1,(d.bk b B h).2.1,(d.bk b B h).2.2.mono c⟩,λs fs h=>?_,d.pc,d.ne,λw e=>(d.kn w e).mono c⟩,
  ⟨rfl,rfl,⟨[],(IN _).symm⟩,⟨[],(IN _).symm⟩,c⟩,rfl,rfl,rfl,[⟨1,(t.s.eh.length:Nat),l,[t.s.known.getLastD 0]⟩],WD,λw e=>?_⟩
 ·obtain⟨b,m,n,g⟩:=d.ph v x h F;exact⟨b,c.ow _ _ m,n,λr=>⟨(g r).1,λj w q e1 e2=>((g r).2 j w q e1 e2).mono c⟩⟩
 ·have h':(t.s.eh++[[⟨1,(t.s.eh.length:Nat),l,[t.s.known.getLastD 0]⟩]])[s]? =some fs:=h;by_cases IX:s<t.s.eh.length
  ·rw[Qg IX]at h';obtain⟨m,n⟩:=d.st s fs h';refine⟨m,λf i=>?_⟩;obtain⟨g,g4,G,H⟩:=n f i;exact⟨g,g4,λw e=>(G w e).imp λa h=>h.mono c,λw e=>(H w e).imp λa h=>h.mono c⟩
  ·rw[List.getElem?_append_right (by omega)]at h';have u:=xu h';simp at u;subst u;refine⟨rfl,λf i=>?_⟩;simp at i;subst i;refine⟨by grind,rfl,λw e=>⟨_,(d.kn w (C w e)).mono c⟩,λw e=>?_⟩;have o:w=t.s.known.getLastD 0:=by simpa using e
   subst o;exact⟨_,(d.kn _ k).mono c⟩
 ·simp only[jh,Wg,List.flatMap_nil,IN,AI,Ig]at e
  grind
theorem mK.Nu(a:mK D pr nx E t) {x:Vl} (l:2<=x.op/\x.op<=23/\x.op≠21) (b:x.op=20->x.args.length=1) (d:∀w∈mD x,w∈t.s.known) (e:leaves x.op=true->∃fs,t.s.eh[x.state]? =some fs/\∀w∈jh fs,w∈t.s.known) :
  mK D pr nx E (on t (Un.put t.s x))/\Gw t (on t (Un.put t.s x))/\(JO x.op=true->Kn D (on t (Un.put t.s x)) t.blocks.length t.s.ee.length):=by
 have f:iC x.op=true->False:=by grind[iC]
 obtain⟨g,i⟩:=a.put (x:=x) (by omega) b (by omega) (λ_ w c=>a.kn w (d w c)) (λh=>by obtain⟨fs,j,k⟩:=e h;exact⟨fs,j,λw c=>a.kn w (k w c)⟩) (by simp_all) (by omega);exact⟨g,⟨rfl,rfl,⟨[],(IN _).symm⟩,⟨[x],rfl⟩,Ki t x⟩,i⟩
theorem mK.Mn(c:mK D pr nx E t) {x:Vl} (i:2<=x.op/\x.op<19) (d:∀w∈mD x,w∈t.s.known):mK D pr nx E (on t (gX t.s x))/\Gw t (on t (gX t.s x)):=by
 obtain ⟨e,b,f⟩:=c.Nu (x:=x) (by omega) (by omega) d (by grind[leaves]);have g:=f (by simp[JO];omega);have h:=e.L1 (l:=t.s.known++[t.s.ee.length]) (λw a=>by
  rcases AI.1 a with a|a
  ·exact(c.kn w a).mono b.le
  ·simp at a;subst a;exact g) (by simp)
 exact⟨h,⟨rfl,rfl,⟨[t.s.ee.length],rfl⟩,⟨[x],rfl⟩,⟨b.le.ow,b.le.back,b.le.val,b.le.st⟩⟩⟩
end
theorem LV(x:Vl):∀w∈mD x,w=x.a\/w=x.b\/w∈x.args:=by
 grind[mD,Wn]
section
variable{D:Nat->Nat}{pr nx:Nat->List Nat}{E:Nat->Prop}{t:Dt}
theorem mK.kind(o:mK D pr nx E t) (ops:List Int) {k a b:Nat} (q:a∈t.s.known) (y:b∈t.s.known):mK D pr nx E (on t (qR ops t.s k a b))/\Gw t (on t (qR ops t.s k a b)):=by
 have p:∀x:Vl,x.a=a->x.b=b->x.args=[]->∀w∈mD x,w∈t.s.known:=λx c d f w g=>by
  rcases LV x w g with h|h|h
  ·simp_all
  ·simp_all
  simp_all
 have i:∀m,mK D pr nx E (on t (num ops t.s m).2)/\Gw t (on t (num ops t.s m).2):=λm=>⟨o.at_ _,Gw.pos t _⟩
 have l:∀(op:Nat) (n:Int),ud op=true->two op=false->op≠20->op≠21->∀w∈mD (vl op a 0 n [] 0),w=a:=by grind[mD,vl]
 unfold qR;split
 ·rename_i v;exact o.Mn (x:=vl (3+k) a b 0 [] 0) (by grind[vl]) (p _ rfl rfl rfl)
 split
 ·obtain⟨c,d⟩:=i 1048576;obtain⟨f,j⟩:=c.Mn (x:=vl 2 0 0 (((num ops t.s 1048576).1:Int)-9) [] 0) (by grind[vl]) (by grind[mD,vl,two,ud]);exact⟨f,d.trans j⟩
 split
 ·obtain⟨c,d⟩:=i 5;obtain⟨f,j⟩:=c.Mn (x:=vl 17 a 0 ((num ops t.s 5).1:Nat) [] 0) (by grind[vl]) (λw g=>by rw[l 17 _ rfl rfl (by omega) (by omega) w g];exact q);exact⟨f,d.trans j⟩
 split
 ·exact o.Mn (x:=vl 18 a b 0 [] 0) (by grind[vl]) (p _ rfl rfl rfl)
 split
 ·obtain⟨c,d⟩:=i 5;obtain⟨f,j,_⟩:=c.Nu (x:=vl 19 a b ((num ops t.s 5).1:Nat) [] 0) (by grind[vl]) (by grind[vl]) (p _ rfl rfl rfl) (by grind[vl,leaves]);exact⟨f,d.trans j⟩
 split
 ·have c:mK D pr nx E (on t (fu ops t.s).2):=o.at_ _;have d:Gw t (on t (fu ops t.s).2):=Gw.pos t _;obtain⟨f,j,_⟩:=c.Nu (x:=vl 20 a b 0 [(fu ops t.s).1] 0) (by grind[vl]) (λ_=>rfl) (λw g=>by
   rcases LV _ w g with h|h|h
   ·rw[h];exact q
   ·rw[h];exact y
   ·have h':w=(fu ops t.s).1:=by simpa[vl]using h
    rw[h'];exact xX ops o.ne) (by grind[vl,leaves])
  exact⟨f,d.trans j⟩
 split
 ·obtain ⟨c,d,v,_,_,fs,r,z⟩:=o.state ops;obtain⟨f,j,_⟩:=c.Nu (x:=vl 22 a 0 0 [] (fk ops t.s).1) (by grind[vl]) (by grind[vl]) (λw g=>by
   have e:w=a:=by simpa[mD,vl,two,ud]using g
   show w∈(fk ops t.s).2.known
   simp_all) (λ_=>⟨fs,r,λw g=>by show w∈(fk ops t.s).2.known;simp_all⟩)
  exact⟨f,d.trans j⟩
 split
 ·obtain⟨c,d,v,_,_,fs,r,z⟩:=o.state ops;obtain⟨f,j,_⟩:=c.Nu (x:=vl 23 0 0 0 [] (fk ops t.s).1) (by grind[vl]) (by grind[vl]) (by grind[mD,vl,two,ud]) (λ_=>⟨fs,r,λw g=>by show w∈(fk ops t.s).2.known;simp_all⟩);exact⟨f,d.trans j⟩
 ·obtain ⟨c,d⟩:=i 2;have A:(num ops t.s 2).1<2:=tH _ _ (by omega);have u:(num ops t.s 2).1=0\/(num ops t.s 2).1=1:=by omega
  obtain ⟨f,j⟩:=c.Mn (x:=vl (15+(num ops t.s 2).1) a 0 0 [] 0) (by grind[vl]) (λw g=>by
   have e:w=a:=by
    rcases u with e|e
    ·rw[e]at g;exact l 15 _ rfl rfl (by omega) (by omega) w g
    ·rw[e]at g;exact l 16 _ rfl rfl (by omega) (by omega) w g
   rw[e];exact q)
  exact⟨f,d.trans j⟩
theorem mK.rX(c:mK D pr nx E t) (ops:List Int):mK D pr nx E (on t (rX ops t.s))/\Gw t (on t (rX ops t.s)):=by
 have d:=xX ops c.ne;have e:mK D pr nx E (on t (fu ops t.s).2):=c.at_ _;have f:=xX ops e.ne;have g:mK D pr nx E (on t (num ops (fu ops (fu ops t.s).2).2 20).2):=c.at_ _;obtain⟨h,i⟩:=g.kind ops (k:=(num ops (fu ops (fu ops t.s).2).2 20).1) (a:=(fu ops t.s).1) (b:=(fu ops (fu ops t.s).2).1) d f;exact⟨h,(Gw.pos t _).trans i⟩
theorem mK.rows(ops:List Int):∀(i:Nat) {t:Dt},mK D pr nx E t->mK D pr nx E (on t (rows ops i t.s))/\Gw t (on t (rows ops i t.s))
 |0,t,hM=>⟨hM,Gw.refl t⟩
 | i + 1,t,hM=>by
   unfold Un.rows;split
   ·obtain⟨a,b⟩:=hM.rX ops
    obtain⟨c,d⟩:=mK.rows ops i a;exact⟨c,b.trans d⟩
   ·exact⟨hM,Gw.refl t⟩
theorem mK.row(a:mK D pr nx E t) (ops:List Int):mK D pr nx E (on t (row ops t.s))/\Gw t (on t (row ops t.s)):=by
 have b:mK D pr nx E (on t (num ops t.s 6).2):=a.at_ _;obtain⟨c,d⟩:=mK.rows ops (1+(num ops t.s 6).1) b;exact⟨c,(Gw.pos t _).trans d⟩
end
open Dm
def Lx(t t':Dt):Prop:=Le t t'/\t.s.ee.length<=t'.s.ee.length
theorem Lx.trans{t t' a:Dt}(b:Lx t t')(c:Lx t' a):Lx t a:=⟨b.1.trans c.1 b.2,GP b.2 c.2⟩
theorem Gw.lx{t t':Dt}(h:Gw t t'):Lx t t':=⟨h.le,h.len⟩
section
variable{D:Nat->Nat}{pr nx:Nat->List Nat}{E E':Nat->Prop}{t:Dt}
theorem mK.weaken(a:mK D pr nx E t) (h:∀v,E v->E' v):mK D pr nx E' t:=
 ⟨a.cat,a.GN,λv x c d=>let⟨b,e,f,g⟩:=a.ph v x c d;(by grind),a.bk,a.st,a.pc,a.ne,a.kn⟩
theorem CX(t:Dt) (fin cond:Nat) (n:List Nat) (state:Nat) (ft:List Nat):Lx t (end_ t fin cond n state ft):=by
 refine⟨⟨λw b h=>?_,λw b _ h=>?_,λw x h=>⟨x,h,rfl⟩,λs fs h=>h⟩,jn _⟩
 ·rcases h with⟨B,f,c⟩|⟨rfl,c⟩
  ·exact .inl ⟨B,by show(t.blocks++[_])[b]? =_;grind,c⟩
  ·exact .inl ⟨⟨t.s.cur,fin,cond,n,t.ft,state⟩,WD,c⟩
 ·rcases h with⟨B,f,c⟩|⟨_,c⟩
  ·have a:(t.blocks++[⟨t.s.cur,fin,cond,n,t.ft,state⟩])[b]? =some B:=f;by_cases hb:b<t.blocks.length
   ·rw[Qg hb]at a;exact .inl ⟨B,a,c⟩
   ·have d:=(jw.1 a).1;simp at d;have e:b=t.blocks.length:=by omega
    subst e;rw[WD]at a;obtain rfl:=Option.some.inj a;exact .inr ⟨rfl,c⟩
  ·cases c
theorem mK.end_(e:mK D pr nx E t) {fin cond:Nat} {n:List Nat} {state:Nat} {ft:List Nat} (u:n=nx t.blocks.length) (y:ft=pr (t.blocks.length+1)) (k:Fin D t t.blocks.length ⟨t.s.cur,fin,cond,n,t.ft,state⟩) (z:∀w∈t.s.known,Kn D t (t.blocks.length+1) w) :
  mK D pr nx E (end_ t fin cond n state ft)/\(Un.end_ t fin cond n state ft).blocks.length=t.blocks.length+1:=by
 have c:=CX t fin cond n state ft;have hlen:(Un.end_ t fin cond n state ft).blocks.length=t.blocks.length+1:=by simp[Un.end_]
 refine⟨⟨?_,λv x h=>(e.GN v x h).mono c.1 (jw.1 h).1,λv x h A=>?_,λb B h=>?_,λs fs h=>?_,?_,e.ne,λw g=>?_⟩,hlen⟩
 ·show(t.blocks++[(⟨t.s.cur,fin,cond,n,t.ft,state⟩:Bk)]).flatMap (·.ee)++[]=List.range t.s.ee.length;rw[IN,Xx,<-e.cat];simp
 ·obtain⟨b,l,m,i⟩:=e.ph v x h A;exact⟨b,c.1.ow _ _ l,m,λr=>⟨(i r).1,λj w q e1 e2=>((i r).2 j w q e1 e2).mono c.1⟩⟩
 ·have d:(t.blocks++[⟨t.s.cur,fin,cond,n,t.ft,state⟩])[b]? =some B:=h;by_cases hb:b<t.blocks.length
  ·rw[Qg hb]at d;exact⟨(e.bk b B d).1,(e.bk b B d).2.1,(e.bk b B d).2.2.mono c.1⟩
  ·have o:=(jw.1 d).1;simp at o;have p:b=t.blocks.length:=by omega
   subst p;rw[WD]at d;obtain rfl:=Option.some.inj d;exact⟨u,e.pc,k.mono c.1⟩
 ·obtain⟨l,m⟩:=e.st s fs h;refine⟨l,λf k=>?_⟩;obtain⟨i,g4,C,F⟩:=m f k;exact⟨i,g4,λw g=>(C w g).imp λa h=>h.mono c.1,λw g=>(F w g).imp λa h=>h.mono c.1⟩
 ·rw[hlen];exact y
 ·rw[hlen];exact(z w g).mono c.1
theorem mK.cut(b:mK D pr nx E t) {l:List Nat} (pe:l≠[]) (a:∃k,t.s.known=l++k):mK D pr nx E (on t (cut l.length t.s))/\(on t (Un.cut l.length t.s)).s.known=l/\Lx t (on t (Un.cut l.length t.s)):=by
 obtain⟨k,a⟩:=a;have e:t.s.known.take l.length=l:=by rw[a];simp
 have c:=b.L1 (l:=l) (λw d=>b.kn w (by simp_all)) pe;have e2:on t (Un.cut l.length t.s) = {t with s:={t.s with known:=l} }:=by
  unfold on Un.cut;rw[e]
 rw[e2];exact⟨c,rfl,⟨⟨λ_ _ h=>h,λ_ _ _ h=>h,by simp_all,by simp_all⟩,jn _⟩⟩
theorem En{D:Nat->Nat}{a b:Nat}(h0:b≠0)(h:D b=a):nq D a b:= .up h0 (by rw[h];exact .refl _)
theorem NB(a:mK D pr nx E t) {args:List Nat} (hc:t.s.cur=[]\/∀w∈t.s.cur,∃y,t.s.ee[w]? =some y/\iC y.op=true) (h0:t.blocks.length≠0) (d:¬E t.s.ee.length->U6 D t (pr t.blocks.length) (vl 21 0 0 0 args 0)) :
  mK D pr nx E (on t (put t.s (vl 21 0 0 0 args 0)))/\Lx t (on t (put t.s (vl 21 0 0 0 args 0)))/\Kn D (on t (put t.s (vl 21 0 0 0 args 0))) t.blocks.length t.s.ee.length/\Ow (on t (put t.s (vl 21 0 0 0 args 0))) t.s.ee.length t.blocks.length:=by
 obtain⟨b,c⟩:=a.put (x:=vl 21 0 0 0 args 0) (by simp[vl]) (by grind[vl]) (by grind[vl]) (λh=>absurd rfl h) (by grind[vl,leaves]) (by grind) (by simp_all);exact⟨b,⟨Ki t _,by show _<=(t.s.ee++[_]).length;simp⟩,c rfl,.inr ⟨rfl,by show t.s.ee.length∈t.s.cur++[t.s.ee.length];simp⟩⟩
theorem TT(e:mK D pr nx E t) (ops:List Int) (n0:nx t.blocks.length=[t.blocks.length+1,t.blocks.length+2]) (n1:nx (t.blocks.length+1)=[t.blocks.length+3]) (n2:nx (t.blocks.length+2)=[t.blocks.length+3])
  (p1:pr (t.blocks.length+1)=[t.blocks.length]) (p2:pr (t.blocks.length+2)=[t.blocks.length]) (p3:pr (t.blocks.length+3)=[t.blocks.length+1,t.blocks.length+2])
  (d1:D (t.blocks.length+1)=t.blocks.length) (d2:D (t.blocks.length+2)=t.blocks.length) (d3:D (t.blocks.length+3)=t.blocks.length) :
  mK D pr nx E (fork ops t)/\(fork ops t).blocks.length=t.blocks.length+3:=by
 generalize h:t.blocks.length=a at*;have hc:=xX ops e.ne;have z:mK D pr nx E (on t (fu ops t.s).2):=e.at_ _;have A:Lx t (on t (fu ops t.s).2):=(Gw.pos t _).lx;have B:(on t (fu ops t.s).2).s.known=t.s.known:=rfl;unfold fork;simp only;rw[h];generalize C:(fu ops t.s).1=cond at*;generalize (fu ops t.s).2=s0 at*;have e0:{t with s:=s0} = on t s0:=rfl;rw[e0];have f:(on t s0).blocks.length=a:=h
 obtain ⟨m1,U⟩:=z.end_ (fin:=2) (cond:=cond) (n:=[a+1,a+2]) (state:=0) (ft:=[a]) (by simp_all) (by simp_all) (.inr (.inl ⟨rfl,rfl,by rw[f,<-h];exact(e.kn cond hc).mono A.1⟩))
  (λw d=>by rw[f];exact((by rw[<-h];exact(e.kn w (by simp_all)).mono A.1:Kn D (on t s0) a w)).up (En (by omega) d1))
 rw[f]at U;have x1:=A.trans (CX (on t s0) 2 cond [a+1,a+2] 0 [a]);have F:(Un.end_ (on t s0) 2 cond [a+1,a+2] 0 [a]).s.known=t.s.known:=B;generalize Un.end_ (on t s0) 2 cond [a+1,a+2] 0 [a]=b at*;obtain⟨G,H⟩:=m1.row ops;have x2:=x1.trans H.lx;have V:(on b (row ops b.s)).blocks.length=a+1:=by rw[H.blocks];exact U
 have kx:=G.kn _ (DT G.ne);obtain⟨k2,k⟩:=H.known;rw[F]at k;have eX:(row ops b.s).known.getLastD 0=(on b (row ops b.s)).s.known.getLastD 0:=rfl;rw[eX];generalize (on b (row ops b.s)).s.known.getLastD 0=x at*;obtain⟨m3,I,m⟩:=G.cut e.ne ⟨k2,k⟩;have W:=x2.trans m;have o:=kx.mono m.1;rw[V]at o;have e3:{b with s:=Un.cut t.s.known.length (row ops b.s)} = on (on b (row ops b.s)) (Un.cut t.s.known.length (on b (row ops b.s)).s):=rfl;rw[e3];have J:(on (on b (row ops b.s)) (Un.cut t.s.known.length (on b (row ops b.s)).s)).blocks.length=a+1:=V;generalize on (on b (row ops b.s)) (Un.cut t.s.known.length (on b (row ops b.s)).s)=t3 at*
 obtain ⟨m4,X⟩:=m3.end_ (fin:=1) (cond:=0) (n:=[a+3]) (state:=0) (ft:=[a]) (by rw[J,n1]) (by simp_all) (.inl ⟨rfl,rfl⟩)
  (λw d=>by rw[J];exact((by rw[<-h];exact(e.kn w (by simp_all)).mono W.1:Kn D t3 a w)).up (En (by omega) d2))
 rw[J]at X;have Y:=CX t3 1 0 [a+3] 0 [a];have x4:=W.trans Y;have K:=o.mono Y.1;have L:(Un.end_ t3 1 0 [a+3] 0 [a]).s.known=t.s.known:=I;generalize Un.end_ t3 1 0 [a+3] 0 [a]=c at*;obtain⟨M,u⟩:=m4.row ops;have x5:=x4.trans u.lx;have N:=K.mono u.le;have Z:(on c (row ops c.s)).blocks.length=a+2:=by rw[u.blocks];exact X
 have ky:=M.kn _ (DT M.ne);obtain⟨k5,p⟩:=u.known;rw[L]at p;have eY:(row ops c.s).known.getLastD 0=(on c (row ops c.s)).s.known.getLastD 0:=rfl;rw[eY];generalize (on c (row ops c.s)).s.known.getLastD 0=y at*;obtain⟨m6,aa,g⟩:=M.cut e.ne ⟨k5,p⟩;have x6:=x5.trans g;have O:=N.mono g.1;have r:=ky.mono g.1;rw[Z]at r;have e6:{c with s:=Un.cut t.s.known.length (row ops c.s)} = on (on c (row ops c.s)) (Un.cut t.s.known.length (on c (row ops c.s)).s):=rfl;rw[e6];have P:(on (on c (row ops c.s)) (Un.cut t.s.known.length (on c (row ops c.s)).s)).blocks.length=a+2:=Z;generalize on (on c (row ops c.s)) (Un.cut t.s.known.length (on c (row ops c.s)).s)=t6 at*
 obtain ⟨m7,Q⟩:=m6.end_ (fin:=1) (cond:=0) (n:=[a+3]) (state:=0) (ft:=[a+1,a+2]) (by rw[P,n2]) (by simp_all) (.inl ⟨rfl,rfl⟩)
  (λw d=>by rw[P];exact((by rw[<-h];exact(e.kn w (by simp_all)).mono x6.1:Kn D t6 a w)).up (En (by omega) d3))
 rw [P]at Q;have y7:=CX t6 1 0 [a+3] 0 [a+1,a+2];have ab:=O.mono y7.1;have ac:=r.mono y7.1;have R:(Un.end_ t6 1 0 [a+3] 0 [a+1,a+2]).s.cur=[]:=rfl;generalize Un.end_ t6 1 0 [a+3] 0 [a+1,a+2]=t7 at*;obtain⟨m8,y8,S,_⟩:=NB m7 (args:=[x,y]) (.inl R) (by omega) (λ_=>by
  rw[Q,p3];refine⟨rfl,λj w q i v=>?_⟩
  match j,i,v with
  | 0,i,v=>
    obtain rfl:x=w:=by simpa[vl]using i
    simp_all
  | 1,i,v=>
    obtain rfl:y=w:=by simpa[vl]using i
    simp_all
  |j+2,i,v=>simp_all)
 have m9:=m8.L1 (l:=t7.s.known++[t7.s.ee.length]) (λw d=>by
  rcases AI.1 d with d|d
  ·exact m8.kn w d
  ·simp at d;subst d;exact S) (by simp)
 obtain⟨T,_⟩:=m9.row ops;exact⟨T,Q⟩
theorem TL(d:mK D pr nx E t) (ops:List Int) (T:nx t.blocks.length=[t.blocks.length+1,t.blocks.length+2]) (U:nx (t.blocks.length+1)=[])
  (p1:pr (t.blocks.length+1)=[t.blocks.length]) (p2:pr (t.blocks.length+2)=[t.blocks.length]) (d1:D (t.blocks.length+1)=t.blocks.length) (d2:D (t.blocks.length+2)=t.blocks.length) :
  mK D pr nx E (wG ops t)/\(wG ops t).blocks.length=t.blocks.length+2:=by
 generalize f:t.blocks.length=a at*;have hc:=xX ops d.ne;have m:mK D pr nx E (on t (fu ops t.s).2):=d.at_ _;have o:Lx t (on t (fu ops t.s).2):=(Gw.pos t _).lx;have p:(on t (fu ops t.s).2).s.known=t.s.known:=rfl;unfold wG;simp only;rw[f];generalize q:(fu ops t.s).1=cond at*;generalize (fu ops t.s).2=s0 at*;have e0:{t with s:=s0} = on t s0:=rfl;rw[e0];have c:(on t s0).blocks.length=a:=f
 obtain ⟨m1,z⟩:=m.end_ (fin:=2) (cond:=cond) (n:=[a+1,a+2]) (state:=0) (ft:=[a]) (by simp_all) (by simp_all) (.inr (.inl ⟨rfl,rfl,by rw[c,<-f];exact(d.kn cond hc).mono o.1⟩))
  (λw e=>by rw[c];exact((by rw[<-f];exact(d.kn w (by simp_all)).mono o.1:Kn D (on t s0) a w)).up (by grind[En]))
 rw[c]at z;have H:=o.trans (CX (on t s0) 2 cond [a+1,a+2] 0 [a]);have r:(Un.end_ (on t s0) 2 cond [a+1,a+2] 0 [a]).s.known=t.s.known:=p;generalize Un.end_ (on t s0) 2 cond [a+1,a+2] 0 [a]=b at*;obtain⟨I,u⟩:=m1.row ops;have J:=H.trans u.lx;have A:(on b (row ops b.s)).blocks.length=a+1:=by rw[u.blocks];exact z
 obtain ⟨B,g⟩:=u.known;rw[r]at g;obtain⟨C,K,v,_,_,fs,x,L⟩:=I.state ops;have M:=J.trans K.lx;have N:(on (on b (row ops b.s)) (fk ops (on b (row ops b.s)).s).2).blocks.length=a+1:=A;have eS:fk ops (row ops b.s)=fk ops (on b (row ops b.s)).s:=rfl;rw[eS];have h:(on (on b (row ops b.s)) (fk ops (on b (row ops b.s)).s).2).s.known=t.s.known++B:=by
  show(fk ops (on b (row ops b.s)).s).2.known=_;rw[v,g]
 have i:∀w∈jh fs,Kn D (on (on b (row ops b.s)) (fk ops (on b (row ops b.s)).s).2) (a+1) w:=λw e=>by
  rw[<-N];refine C.kn w ?_
  simp_all
 obtain⟨O,P,j⟩:=C.cut d.ne ⟨B,h⟩;have Q:=M.trans j;generalize (fk ops (on b (row ops b.s)).s).1=st at*;have e4:{b with s:=Un.cut t.s.known.length (fk ops (on b (row ops b.s)).s).2} = on (on (on b (row ops b.s)) (fk ops (on b (row ops b.s)).s).2) (Un.cut t.s.known.length (on (on b (row ops b.s)) (fk ops (on b (row ops b.s)).s).2).s):=rfl;rw[e4];have k:(on (on (on b (row ops b.s)) (fk ops (on b (row ops b.s)).s).2) (Un.cut t.s.known.length (on (on b (row ops b.s)) (fk ops (on b (row ops b.s)).s).2).s)).s.eh[st]? =some fs:=x;have l:=λw e=>(i w e).mono j.1;have y:(on (on (on b (row ops b.s)) (fk ops (on b (row ops b.s)).s).2) (Un.cut t.s.known.length (on (on b (row ops b.s)) (fk ops (on b (row ops b.s)).s).2).s)).blocks.length=a+1:=A;generalize on (on (on b (row ops b.s)) (fk ops (on b (row ops b.s)).s).2) (Un.cut t.s.known.length (on (on b (row ops b.s)) (fk ops (on b (row ops b.s)).s).2).s)=F at*
 obtain ⟨R,G⟩:=O.end_ (fin:=3) (cond:=0) (n:=[]) (state:=st) (ft:=[a]) (by simp_all) (by simp_all) (.inr (.inr ⟨rfl,rfl,fs,k,λw e=>by rw[y];exact l w e⟩))
  (λw e=>by rw[y];exact((by rw[<-f];exact(d.kn w (by simp_all)).mono Q.1:Kn D F a w)).up (by grind[En]))
 rw[y]at G;generalize Un.end_ F 3 0 [] st [a]=t5 at*;obtain⟨S,_⟩:=R.row ops;exact⟨S,G⟩
theorem Vt(t:Dt) (v:Nat) (args:List Nat):Lx t (on t (setArgs t.s v args)):=by
 refine⟨⟨λ_ _ h=>h,λ_ _ _ h=>h,λw x h=>?_,λ_ _ h=>h⟩,by show _<=(t.s.ee.modify v _).length;simp_all⟩;show ∃y,(t.s.ee.modify v λx=>{x with args:=args})[w]? =some y/\y.op=x.op
 grind
theorem Dk(e:mK D pr nx E t) {v b:Nat} {x:Vl} {args:List Nat} (p:t.s.ee[v]? =some x) (I:x.op=21) (A:Ow t v b) (h0:b≠0) (r:args.length=(pr b).length/\∀(j w q:Nat),args[j]? =some w->(pr b)[j]? =some q->Kn D t q w) (J:∀w,w≠v->¬E' w->¬E w) :
  mK D pr nx E' (on t (setArgs t.s v args))/\Lx t (on t (setArgs t.s v args)):=by
 have d:=Vt t v args;refine⟨?_,d⟩;have g:∀(w:Nat) (y:Vl),(on t (setArgs t.s v args)).s.ee[w]? =some y->(w≠v/\t.s.ee[w]? =some y)\/(w=v/\y = {x with args:=args}):=λw y h=>by
  have h':(t.s.ee.modify v λx=>{x with args:=args})[w]? =some y:=h
  grind
 have i:=(jw.1 p).1;refine⟨by show t.blocks.flatMap (λB:Bk=>B.ee)++t.s.cur=List.range (t.s.ee.modify v _).length;rw[List.length_modify];exact e.cat,λw y h=>?_,λw y h n=>?_,λc B h=>⟨(e.bk c B h).1,(e.bk c B h).2.1,(e.bk c B h).2.2.mono d.1⟩,λs fs h=>?_,e.pc,e.ne,λw k=>(e.kn w k).mono d.1⟩
 ·rcases g w y h with⟨_,h⟩|⟨rfl,rfl⟩
  ·exact(e.GN w y h).mono d.1 (by grind)
  ·have z:=(e.GN w x p).mono d.1 i;obtain⟨c,l,_,_,g4⟩:=z.own;refine⟨z.op,λh=>?_,λh=>?_,c,l,by simp_all,λh=>?_,g4⟩
   ·simp_all
   ·simp_all
   simp_all
 ·rcases g w y h with⟨pe,h⟩|⟨rfl,rfl⟩
  ·obtain⟨c,l,o,m⟩:=e.ph w y h n;exact⟨c,l,o,λC=>⟨(m (by simp_all)).1,λj u q e1 e2=>((m (by simp_all)).2 j u q e1 e2).mono d.1⟩⟩
  ·exact⟨b,A,h0,λ_=>⟨r.1,λj u q e1 e2=>(r.2 j u q e1 e2).mono d.1⟩⟩
 ·obtain⟨l,o⟩:=e.st s fs h;refine⟨l,λf F=>?_⟩;obtain⟨m,g4,G,H⟩:=o f F;exact⟨m,g4,λw k=>(G w k).imp λa h=>h.mono d.1,λw k=>(H w k).imp λa h=>h.mono d.1⟩
theorem FB{P:Nat->Nat->Prop} {x y q r:Nat} (a:P q x) (b:P r y):([x,y]:List Nat).length=([q,r]:List Nat).length/\∀(j w p:Nat),([x,y]:List Nat)[j]? =some w->([q,r]:List Nat)[j]? =some p->P p w:=by
 grind
structure Hd (D:Nat->Nat) (t b:Dt) (p f g c a:Nat):Prop where
 lx:Lx t b
 blocks:b.blocks.length=a+2
 kf:Kn D b a f
 kg:Kn D b a g
 kl:Kn D b (a+1) c
 op:Ow b p (a+1)
 oq:Ow b (p+1) (a+1)
 vp:∃x,b.s.ee[p]? =some x/\x.op=21
 vq:∃x,b.s.ee[p+1]? =some x/\x.op=21
 kn:∀w∈b.s.known,Kn D b (a+1) w
end
open Dm
section
variable{D:Nat->Nat}{pr nx:Nat->List Nat}{E E':Nat->Prop}{t:Dt}
set_option maxHeartbeats 2000000 in
theorem T6 (hM:mK D pr nx E t) (ops:List Int) (n0:nx t.blocks.length=[t.blocks.length+1]) (n1:nx (t.blocks.length+1)=[t.blocks.length+2,t.blocks.length+3]) (n2:nx (t.blocks.length+2)=[t.blocks.length+1])
  (p1:pr (t.blocks.length+1)=[t.blocks.length,t.blocks.length+2]) (p2:pr (t.blocks.length+2)=[t.blocks.length+1]) (p3:pr (t.blocks.length+3)=[t.blocks.length+1])
  (d1:D (t.blocks.length+1)=t.blocks.length) (d2:D (t.blocks.length+2)=t.blocks.length+1) (d3:D (t.blocks.length+3)=t.blocks.length+1) :
  mK D pr nx E (loop ops t)/\(loop ops t).blocks.length=t.blocks.length+3:=by
 generalize ha:t.blocks.length=a at*;have hf:=xX ops hM.ne;have bi:mK D pr nx E (on t (fu ops t.s).2):=hM.at_ _;have x0:Lx t (on t (fu ops t.s).2):=(Gw.pos t _).lx;have aI:(on t (fu ops t.s).2).s.known=t.s.known:=rfl;unfold loop;simp only;rw[ha];generalize bH:(fu ops t.s).1=f at*;generalize (fu ops t.s).2=s0 at*;have e0:{t with s:=s0} = on t s0:=rfl;rw[e0];have V:(on t s0).blocks.length=a:=ha
 obtain ⟨bj,b1⟩:=bi.end_ (fin:=1) (cond:=0) (n:=[a+1]) (state:=0) (ft:=[a,a+2]) (by rw[V,n0]) (by rw[V,p1]) (.inl ⟨rfl,rfl⟩)
  (λw i=>by rw[V];exact((by rw[<-ha];exact(hM.kn w (by rw[<-aI];exact i)).mono x0.1:Kn D (on t s0) a w)).up (En (by omega) d1))
 rw[V]at b1;have x1:=x0.trans (CX (on t s0) 1 0 [a+1] 0 [a,a+2]);have aJ:(Un.end_ (on t s0) 1 0 [a+1] 0 [a,a+2]).s.known=t.s.known:=aI;have aK:(Un.end_ (on t s0) 1 0 [a+1] 0 [a,a+2]).s.cur=[]:=rfl;generalize Un.end_ (on t s0) 1 0 [a+1] 0 [a,a+2]=c at*;generalize hp:c.s.ee.length=p at*;have m1:=bj.weaken (E':=λv=>E v\/v=p\/v=p+1) λv h=> .inl h;obtain⟨m2,y2,_,ah⟩:=NB m1 (args:=[f,0]) (.inl aK) (by omega) (λh=>absurd (.inr (.inl hp)) h);rw[hp,b1]at ah;have v2:(on c (put c.s (vl 21 0 0 0 [f,0] 0))).s.ee.length=p+1:=by show(c.s.ee++[_]).length=_;simp[hp]
 have aL:∃x,(on c (put c.s (vl 21 0 0 0 [f,0] 0))).s.ee[p]? =some x/\x.op=21:=⟨vl 21 0 0 0 [f,0] 0,by show(c.s.ee++[_])[p]? =_;rw[<-hp];simp,rfl⟩
 have bm:(on c (put c.s (vl 21 0 0 0 [f,0] 0))).s.known=t.s.known:=aJ;have ai:(on c (put c.s (vl 21 0 0 0 [f,0] 0))).s.cur=[p]:=by show c.s.cur++[c.s.ee.length]=_;rw[aK,hp];rfl
 have b2:(on c (put c.s (vl 21 0 0 0 [f,0] 0))).blocks.length=a+1:=b1;have x2:=x1.trans y2;have hg:=xX ops m2.ne;rw[bm]at hg;have eG:fu ops (put c.s (vl 21 0 0 0 [f,0] 0))=fu ops (on c (put c.s (vl 21 0 0 0 [f,0] 0))).s:=rfl;rw[eG];have m3:mK D pr nx (λv=>E v\/v=p\/v=p+1) (on (on c (put c.s (vl 21 0 0 0 [f,0] 0))) (fu ops (on c (put c.s (vl 21 0 0 0 [f,0] 0))).s).2):=m2.at_ _;have g3:Gw (on c (put c.s (vl 21 0 0 0 [f,0] 0))) (on (on c (put c.s (vl 21 0 0 0 [f,0] 0))) (fu ops (on c (put c.s (vl 21 0 0 0 [f,0] 0))).s).2):=Gw.pos _ _;have v3:(fu ops (on c (put c.s (vl 21 0 0 0 [f,0] 0))).s).2.ee.length=p+1:=v2;have aM:(fu ops (on c (put c.s (vl 21 0 0 0 [f,0] 0))).s).2.known=t.s.known:=aJ;have aj:(fu ops (on c (put c.s (vl 21 0 0 0 [f,0] 0))).s).2.cur=[p]:=ai;have ak:∃x,(fu ops (on c (put c.s (vl 21 0 0 0 [f,0] 0))).s).2.ee[p]? =some x/\x.op=21:=aL;generalize (fu ops (on c (put c.s (vl 21 0 0 0 [f,0] 0))).s).1=g at*;generalize (fu ops (on c (put c.s (vl 21 0 0 0 [f,0] 0))).s).2=j at*;have x3:Lx t (on c j):=x2.trans g3.lx;have aN:Ow (on c j) p (a+1):=g3.le.ow _ _ ah;have m3:mK D pr nx (λv=>E v\/v=p\/v=p+1) (on c j):=m3;have b3:(on c j).blocks.length=a+1:=b1;obtain⟨m4,y4,al,am⟩:=NB m3 (args:=[g,p]) (.inr λw i=>by
  have M:w∈j.cur:=i;rw[aj]at M;simp at M;subst M;obtain⟨x,H,I⟩:=ak;exact⟨x,H,by rw[I];rfl⟩) (by omega) (λh=>absurd (.inr (.inr v3)) h)
 have bn:(on c j).s.ee.length=p+1:=v3;rw[bn,b3]at al am;have x4:=x3.trans y4;have an:=y4.1.ow _ _ aN;have ao:∃x,(on (on c j) (put (on c j).s (vl 21 0 0 0 [g,p] 0))).s.ee[p]? =some x/\x.op=21:=by
  obtain⟨x,H,I⟩:=ak;obtain⟨y,W,X⟩:=y4.1.val p x H;exact⟨y,W,by rw[X,I]⟩
 have aO:∃x,(on (on c j) (put (on c j).s (vl 21 0 0 0 [g,p] 0))).s.ee[p+1]? =some x/\x.op=21:=⟨vl 21 0 0 0 [g,p] 0,by show(j.ee++[_])[p+1]? =_;rw[<-v3];simp,rfl⟩
 have aP:Kn D (on (on c j) (put (on c j).s (vl 21 0 0 0 [g,p] 0))) (a+1) p:=by
  obtain⟨x,H,I⟩:=ao;exact⟨_,x,an,.refl _,H,by rw[I];rfl⟩
 have m5:=m4.L1 (l:=t.s.known++[p,p+1]) (λw i=>by
  rcases AI.1 i with i|i
  ·exact m4.kn w (by show w∈j.known;rw[aM];exact i)
  ·have b4:(on (on c j) (put (on c j).s (vl 21 0 0 0 [g,p] 0))).blocks.length=a+1:=b1;rw[b4];simp at i;rcases i with rfl|rfl
   ·exact aP
   ·exact al) (by simp)
 have e5:{put j (vl 21 0 0 0 [g,p] 0)with known:=(put j (vl 21 0 0 0 [g,p] 0)).known++[p,p+1]} = {put j (vl 21 0 0 0 [g,p] 0)with known:=t.s.known++[p,p+1]}:=by
  have:(put j (vl 21 0 0 0 [g,p] 0)).known=t.s.known:=aM;rw[this]
 rw[e5];have m5:mK D pr nx (λv=>E v\/v=p\/v=p+1) (on c {put j (vl 21 0 0 0 [g,p] 0)with known:=t.s.known++[p,p+1]}):=m5;have x5:Lx t (on c {put j (vl 21 0 0 0 [g,p] 0)with known:=t.s.known++[p,p+1]}):=⟨⟨x4.1.ow,x4.1.back,x4.1.val,x4.1.st⟩,x4.2⟩
 have aQ:Ow (on c {put j (vl 21 0 0 0 [g,p] 0)with known:=t.s.known++[p,p+1]}) p (a+1):=an;have aR:Ow (on c {put j (vl 21 0 0 0 [g,p] 0)with known:=t.s.known++[p,p+1]}) (p+1) (a+1):=am;have aS:∃x,(on c {put j (vl 21 0 0 0 [g,p] 0)with known:=t.s.known++[p,p+1]}).s.ee[p]? =some x/\x.op=21:=ao;have aT:∃x,(on c {put j (vl 21 0 0 0 [g,p] 0)with known:=t.s.known++[p,p+1]}).s.ee[p+1]? =some x/\x.op=21:=aO;have bo:(on c {put j (vl 21 0 0 0 [g,p] 0)with known:=t.s.known++[p,p+1]}).s.known=t.s.known++[p,p+1]:=rfl;clear m4 y4 x4 an am ao aO al aP m3 m2 y2 g3 ah aN aL ak e5;generalize bI:({put j (vl 21 0 0 0 [g,p] 0)with known:=t.s.known++[p,p+1]}:Ds)=G at*;obtain⟨m6,g6,aU,_,_,fs,h5,h6⟩:=m5.state ops;have eS:fk ops G=fk ops (on c G).s:=rfl;rw[eS];obtain⟨m7,g7,_⟩:=m6.Nu (x:=vl 23 0 0 0 [] (fk ops (on c G).s).1) (by simp only[vl];omega) (λh=>by simp only[vl]at h;omega) (λw i=>by simp[mD,vl,two,ud]at i) (λ_=>⟨fs,h5,λw i=>by show w∈(fk ops (on c G).s).2.known;rw[aU];exact h6 w i⟩);have Y:=g6.trans g7;have m7:mK D pr nx (λv=>E v\/v=p\/v=p+1) (on c (put (fk ops (on c G).s).2 (vl 23 0 0 0 [] (fk ops (on c G).s).1))):=m7;have Y:Gw (on c G) (on c (put (fk ops (on c G).s).2 (vl 23 0 0 0 [] (fk ops (on c G).s).1))):=Y;have bp:(put (fk ops (on c G).s).2 (vl 23 0 0 0 [] (fk ops (on c G).s).1)).known=t.s.known++[p,p+1]:=by show(fk ops (on c G).s).2.known=_;rw[aU];exact bo
 generalize put (fk ops (on c G).s).2 (vl 23 0 0 0 [] (fk ops (on c G).s).1)=N at*;obtain⟨m8,g8,o⟩:=m7.Nu (x:=vl 2 0 0 1 [] 0) (by simp only[vl];omega) (λh=>by simp only[vl]at h;omega) (λw i=>by simp[mD,vl,two,ud]at i) (λh=>by simp[vl,leaves]at h);have b8:(on c N).blocks.length=a+1:=b1;have o:=o rfl;rw[b8]at o;have m8:mK D pr nx (λv=>E v\/v=p\/v=p+1) (on c (put N (vl 2 0 0 1 [] 0))):=m8;have g8:Gw (on c N) (on c (put N (vl 2 0 0 1 [] 0))):=g8;have o:Kn D (on c (put N (vl 2 0 0 1 [] 0))) (a+1) N.ee.length:=o;have v8:(put N (vl 2 0 0 1 [] 0)).ee.length=N.ee.length+1:=by simp[put]
 have aV:(put N (vl 2 0 0 1 [] 0)).known=t.s.known++[p,p+1]:=bp;generalize bG:N.ee.length=one at*;generalize put N (vl 2 0 0 1 [] 0)=A at*;have b8:(on c A).blocks.length=a+1:=b1;have aq:p∈(on c A).s.known:=by show p∈A.known;rw[aV];simp
 obtain ⟨m9,k⟩:=m8.put (x:=vl 4 p one 0 [] 0) (by simp[vl]) (λh=>by simp[vl]at h) (λh=>by simp[vl]at h) (λ_ w i=>by
  have M:w=p\/w=one:=by simpa[mD,vl,two]using i
  rcases M with rfl|rfl
  ·exact m8.kn _ aq
  ·rw[b8];exact o) (λh=>by simp[vl,leaves]at h) (λh=>by simp[vl,iC]at h) (λh=>by simp[vl]at h)
 have y9:Lx (on c A) (Nz (on c A) (vl 4 p one 0 [] 0)):=⟨Ki _ _,by show _<=(A.ee++[_]).length;simp[on]⟩
 have k:=k rfl;have O:=m9.L1 (l:=A.known++[A.ee.length]) (λw i=>by
  rcases AI.1 i with i|i
  ·exact m9.kn w i
  ·simp at i;subst i;exact k) (by simp)
 have O:mK D pr nx (λv=>E v\/v=p\/v=p+1) (on c (gX A (vl 4 p one 0 [] 0))):=O;have k:Kn D (on c (gX A (vl 4 p one 0 [] 0))) (a+1) (one+1):=by
  rw[<-v8,<-b8];exact k
 have y9:Lx (on c A) (on c (gX A (vl 4 p one 0 [] 0))):=⟨⟨y9.1.ow,y9.1.back,y9.1.val,y9.1.st⟩,y9.2⟩
 have aW:(gX A (vl 4 p one 0 [] 0)).known=t.s.known++[p,p+1]++[A.ee.length]:=by show A.known++_=_;rw[aV]
 have Q:=((Y.lx.trans g8.lx).trans y9)
 have bq:=x5.trans Q;generalize gX A (vl 4 p one 0 [] 0)=d at*;have aX:=Q.1.ow _ _ aQ;have aY:=Q.1.ow _ _ aR;have aZ:∃x,(on c d).s.ee[p]? =some x/\x.op=21:=by
  obtain⟨x,H,I⟩:=aS;obtain⟨y,W,X⟩:=Q.1.val p x H;exact⟨y,W,by rw[X,I]⟩
 have a0:∃x,(on c d).s.ee[p+1]? =some x/\x.op=21:=by
  obtain⟨x,H,I⟩:=aT;obtain⟨y,W,X⟩:=Q.1.val (p+1) x H;exact⟨y,W,by rw[X,I]⟩
 clear m9 m8 m7 m6 m5 Y g6 g7 g8 y9 o h5 h6 x5 aQ aR aS aT;have br:{c with s:=d} = on c d:=rfl;rw[br];have J:(on c d).blocks.length=a+1:=b1;have R:∀w∈d.known,Kn D (on c d) (a+1) w:=λw i=>by rw[<-J];exact O.kn w i
 have aq:p∈d.known:=by rw[aW];simp
 obtain ⟨bt,ar⟩:=O.end_ (fin:=2) (cond:=p) (n:=[a+2,a+3]) (state:=0) (ft:=[a+1]) (by rw[J,n1]) (by rw[J];exact p2.symm) (.inr (.inl ⟨rfl,rfl,by rw[J];exact R p aq⟩))
  (λw i=>by rw[J];exact(R w i).up (En (by omega) d2))
 rw[J]at ar;have bu:=CX (on c d) 2 p [a+2,a+3] 0 [a+1];have a1:(Un.end_ (on c d) 2 p [a+2,a+3] 0 [a+1]).s.known=d.known:=rfl;generalize Un.end_ (on c d) 2 p [a+2,a+3] 0 [a+1]=e at*;obtain⟨au,aw⟩:=bt.row ops;have B:=bu.trans aw.lx;have a2:=bq.trans B;have bv:(on e (row ops e.s)).blocks.length=a+2:=by rw[aw.blocks];exact ar
 have kz:=au.kn _ (DT au.ne);rw[bv]at kz;obtain⟨K,aa⟩:=aw.known;rw[a1]at aa;have kz:Kn D (on e (row ops e.s)) (a+2) ((row ops e.s).known.getLastD 0):=kz;have ab:=B.1.ow _ _ aX;have a3:=B.1.ow _ _ aY;have a4:∃x,(on e (row ops e.s)).s.ee[p]? =some x/\x.op=21:=by
  obtain⟨x,H,I⟩:=aZ;obtain⟨y,W,X⟩:=B.1.val p x H;exact⟨y,W,by rw[X,I]⟩
 have a5:∃x,(on e (row ops e.s)).s.ee[p+1]? =some x/\x.op=21:=by
  obtain⟨x,H,I⟩:=a0;obtain⟨y,W,X⟩:=B.1.val (p+1) x H;exact⟨y,W,by rw[X,I]⟩
 have S:=(k.mono B.1).up (En (D:=D) (a:=a+1) (b:=a+2) (by omega) d2);have a6:∀w∈d.known,Kn D (on e (row ops e.s)) (a+1) w:=λw i=>(R w i).mono B.1;have ac:Kn D (on e (row ops e.s)) a f:=by rw[<-ha];exact(hM.kn f hf).mono a2.1
 have a7:Kn D (on e (row ops e.s)) a g:=by rw[<-ha];exact(hM.kn g hg).mono a2.1
 have ax:(row ops e.s).known=d.known++K:=aa;generalize (row ops e.s).known.getLastD 0=z at*;generalize row ops e.s=r at*;obtain⟨xp,a8,ae⟩:=a4;obtain⟨ay,az⟩:=Dk (E':=λv=>E v\/v=p+1) au a8 ae ab (by omega) (args:=[f,one+1]) (by rw[p1];exact FB (P:=λq w=>Kn D (on e r) q w) ac S) (λw pe hE=>by
  rintro(h|h|h)
  ·exact hE (.inl h)
  ·exact pe h
  ·exact hE (.inr h))
 have ay:mK D pr nx (λv=>E v\/v=p+1) (on e (setArgs r p [f,one+1])):=ay;have az:Lx (on e r) (on e (setArgs r p [f,one+1])):=az;have a9:(setArgs r p [f,one+1]).known=d.known++K:=ax;generalize setArgs r p [f,one+1]=C at*;have ba:mK D pr nx (λv=>E v\/v=p+1) (on e (num ops C 3).2):=ay.at_ _;have L:Lx (on e r) (on e (num ops C 3).2):=az.trans (Gw.pos (on e C) (draw ops C.pos 3).2).lx;have ag:(num ops C 3).2.known=d.known++K:=a9;generalize (num ops C 3).1=dd at*;generalize (num ops C 3).2=aA at*;have aB:∃u,(if dd=0 then setArgs aA p [f,z] else aA)=u/\mK D pr nx (λv=>E v\/v=p+1) (on e u)/\Lx (on e r) (on e u)/\u.known=d.known++K:=by
  by_cases hd:dd=0
  ·rw[if_pos hd];obtain⟨bJ,bb,aC⟩:=L.1.val p xp a8;obtain⟨m,y⟩:=Dk (E':=λv=>E v\/v=p+1) ba bb (by rw[aC,ae]) (L.1.ow _ _ ab) (by omega) (args:=[f,z]) (by rw[p1];exact FB (P:=λq w=>Kn D (on e aA) q w) (ac.mono L.1) (kz.mono L.1)) (λw _ hE=>hE);exact⟨_,rfl,m,L.trans y,ag⟩
  ·rw[if_neg hd];exact⟨_,rfl,ba,L,ag⟩
 obtain ⟨u,bw,bz,T,bc⟩:=aB;rw[bw];obtain⟨xq,bA,bd⟩:=a5;obtain⟨bK,be,aD⟩:=T.1.val (p+1) xq bA;obtain⟨aE,aF⟩:=Dk (E':=E) bz be (by rw[aD,bd]) (T.1.ow _ _ a3) (by omega) (args:=[g,z]) (by rw[p1];exact FB (P:=λq w=>Kn D (on e u) q w) (a7.mono T.1) (kz.mono T.1)) (λw pe hE=>by
  rintro(h|h)
  ·exact hE h
  ·exact pe h)
 have aE:mK D pr nx E (on e (setArgs u (p+1) [g,z])):=aE;have aF:Lx (on e r) (on e (setArgs u (p+1) [g,z])):=T.trans aF;have bf:(setArgs u (p+1) [g,z]).known=d.known++K:=bc;generalize setArgs u (p+1) [g,z]=F at*;obtain⟨aG,U,aH⟩:=aE.cut O.ne ⟨K,bf⟩;have aG:mK D pr nx E (on e (Un.cut d.known.length F)):=aG;have aH:Lx (on e r) (on e (Un.cut d.known.length F)):=aF.trans aH;have U:(on e (Un.cut d.known.length F)).s.known=d.known:=U;have bC:{e with s:=Un.cut d.known.length F} = on e (Un.cut d.known.length F):=rfl;rw[bC];have Z:(on e (Un.cut d.known.length F)).blocks.length=a+2:=ar;generalize on e (Un.cut d.known.length F)=t3 at*
 obtain ⟨bD,bg⟩:=aG.end_ (fin:=1) (cond:=0) (n:=[a+1]) (state:=0) (ft:=[a+1]) (by rw[Z,n2]) (by rw[Z];exact p3.symm) (.inl ⟨rfl,rfl⟩)
  (λw i=>by rw[Z];rw[U]at i;exact((a6 w i).mono aH.1).up (En (by omega) d3))
 rw[Z]at bg;generalize Un.end_ t3 1 0 [a+1] 0 [a+1]=t4 at*;obtain⟨bE,_⟩:=bD.row ops;exact⟨bE,bg⟩
end
