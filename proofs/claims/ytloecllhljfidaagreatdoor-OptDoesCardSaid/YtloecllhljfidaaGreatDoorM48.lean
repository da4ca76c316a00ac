/- Parts. -/
import Derived.Test.YtloecllhljfidaaGreatDoorM33
set_option maxHeartbeats 4000000
namespace Go.Proofs.YtloecllhljfidaaGreatDoor.Un
open Dm
section
variable{u:U}{P:Nat->Prop}(g:Gd u P)
theorem zbb{t v j:Nat} {T:Bk} (d:u.blocks[t]? =some T) (a:At u v t j) (f:j<(T.ej.takeWhile (fL u)).length):fL u v=true:=by
 let⟨T',b,c⟩:=a
 rw[d]at b;cases b;have e:=wAq (p:=fL u) (l:=T.ej);rw[<-e,VU f]at c;exact EV (zD c)
include g
theorem Oh{t v:Nat} {T:Bk} {lV:Option Nat} {s:Rs} {locals:List Int} (a:u.blocks[t]? =some T) (b:s.val.length=u.ej.length) (hv:v ∉ T.ej.takeWhile (fL u)):(jQ u locals lV T s).of v=s.of v:=by
 show (vW s.val _).getD v 0=_;rw[yI _ _ λw c=>by
  let⟨k,hk⟩:=mn.1 (wBA _ c)
  rw[b];exact g.iM w t k ⟨T,a,hk⟩,if_neg hv]
 rfl
theorem zbn{t v:Nat} {T:Bk} {lV:Option Nat} {s:Rs} {locals:List Int} (a:u.blocks[t]? =some T) (b:s.val.length=u.ej.length) (hv:v∈T.ej.takeWhile (fL u)):(jQ u locals lV T s).of v=tY u locals lV T s.of v:=by
 show (vW s.val _).getD v 0=_;rw[yI _ _ λw c=>by
  let⟨k,hk⟩:=mn.1 (wBA _ c)
  rw[b];exact g.iM w t k ⟨T,a,hk⟩,if_pos hv]
omit g in
theorem TN {b t v:Nat} {B T:Bk} (hB:u.blocks[b]? =some B) (hT:u.blocks[t]? =some T) (ht:t∈B.next) (hs:qw u v t (T.ej.takeWhile (fL u)).length) (hn:v ∉ T.ej.takeWhile (fL u)):qw u v b B.ej.length:=by
 obtain⟨c,j,AE,hc⟩:=hs;rcases hc with⟨rfl,hj⟩|⟨hne,hdm⟩
 ·obtain⟨T',h1,h2⟩:=AE
  grind[wAq,fL,VU,zD]
 ·refine rU hB ⟨c,j,AE,λl hl=>?_⟩;have htn:t∈next u b:=by unfold next;rw[hB];exact ht
  have:=hdm _ (.step hl htn)
  simp_all
omit g in
theorem Vy {v:Nat} {B:Bk} (hB:u.blocks[0]? =some B) (hs:qw u v 0 (B.ej.takeWhile (fL u)).length):fL u v=true:=by
 obtain⟨c,j,AE,hc⟩:=hs;rcases hc with⟨rfl,hj⟩|⟨hne,hdm⟩
 ·grind[zbb]
 ·have:=hdm _ .nil
  simp_all
omit g in
theorem Uf {b k v z:Nat} (AE:At u v b k) (h:qw u z b (k+1)):z=v\/(z≠v/\qw u z b k):=by
 obtain⟨c,j,hz,hc⟩:=h;by_cases e:z=v
 ·omega
 refine .inr ⟨e,c,j,hz,?_⟩;rcases hc with⟨rfl,hj⟩|hc
 ·refine .inl ⟨rfl,?_⟩
  grind[absurd,Option.some.inj,At,At]
 simp_all
omit g in
theorem Vg {v z:Nat} {x:Vl} {s s1:Rs} {gv:Int} (ho:pA u gv v x s = .inr s1) (hz:z≠v) (hv:v<s.val.length):s1.of z=s.of z:=by
 unfold pA at ho
 repeat' split at ho
 all_goals cases ho
 all_goals first|rfl|exact(y6 hv).trans (if_neg hz)
omit g in
theorem zbr {v:Nat} {x:Vl} {s s1:Rs} {gv:Int} (ho:pA u gv v x s = .inr s1):s1.val.length=s.val.length:=by
 grind[pA,Lj]
def KI(u:U)(b k:Nat)(s:Rs):Prop:=∀v x,u.ej[v]? =some x->x.op=2->qw u v b k->s.of v=qq x.n
omit g in
theorem Ta {v:Nat} {x:Vl} (hx:u.ej[v]? =some x) (h2:x.op=2):fL u v=false:=by
 unfold fL;rw[hx];show(x.op == 1 ||x.op == 21)=false
 simp_all
omit g in
theorem KI.start {B:Bk} {s:Rs} (hB:u.blocks[0]? =some B):KI u 0 (B.ej.takeWhile (fL u)).length s:=λv x hx h2 hs=>by
 have:=Vy hB hs
 grind[Ta]
theorem KI.yD{b t:Nat} {B T:Bk} {s:Rs} {locals:List Int} (f:u.blocks[b]? =some B) (a:u.blocks[t]? =some T) (ht:t∈B.next) (h:KI u b B.ej.length s) (c:s.val.length=u.ej.length):KI u t (T.ej.takeWhile (fL u)).length (jQ u locals (some b) T {s with steps:=s.steps+1}):=λv x hx d hs=>by
 have e:v ∉ T.ej.takeWhile (fL u):=by grind[EV,Ta]
 rw[Oh g a (by exact c) e];exact h v x hx d (by grind[TN])
theorem KI.one{b k v:Nat} {x:Vl} {s e:Rs} {gv:Int} (a:At u v b k) (hx:u.ej[v]? =some x) (h:KI u b k s) (j:s.val.length=u.ej.length) (c:pA u gv v x s = .inr e):KI u b (k+1) e:=λz y d f hs=>by
 have hv:=g.iM _ _ _ a;rcases Uf a hs with rfl|⟨i,hs⟩
 ·rw[hx]at d;cases d;unfold pA at c;rw[if_neg (by omega),if_neg (by omega),if_neg (by omega),if_neg (by omega)]at c;cases c;refine(y6 (by omega)).trans ((if_pos rfl).trans ?_)
  simp_all[zx,if_pos]
 ·rw[Vg c i (by omega)];exact h z y d f hs
theorem Yi{b:Nat} {B:Bk} (a:u.blocks[b]? =some B) (d:B.fin≠3) (s:Rs):∃t,pN B s=some t:=by
 unfold pN;rcases g.fin b B a with⟨h,c⟩|⟨h,c,_⟩|⟨h,_⟩
 ·simp_all
 ·rw[if_neg (by omega),if_pos h];split <;> exact by simp_all
 omega
end
structure Step (u u':U) (β:Nat->Nat) (R:Nat->Prop):Prop where
 st:u'.eo=u.eo
 b0:β 0=0
 r0:R 0
 len:u'.ej.length=u.ej.length
 nJ:∀b B,u.blocks[b]? =some B->R b->∃a,u'.blocks[β b]? =some a/\a.ej=B.ej/\(B.fin=3->a.fin=3/\a.state=B.state)/\(B.fin≠3->a.fin≠3/\∀s t,KI u b B.ej.length s->pN B s=some t->R t/\pN a s=some (β t))
 head:∀v,fL u' v=fL u v
 one:∀v b k x,At u v b k->u.ej[v]? =some x->fL u v=false->∃c,u'.ej[v]? =some c/\∀gv s,KI u b k s->pA u' gv v c s=pA u gv v x s
 par:∀B a locals val v,u.blocks[0]? =some B->u'.blocks[0]? =some a->v∈B.ej->fL u v=true->tY u' locals none a val v=tY u locals none B val v
 Cd:∀p t B T d s locals val v,u.blocks[p]? =some B->R p->KI u p B.ej.length s->pN B s=some t->u.blocks[t]? =some T->u'.blocks[β t]? =some d->v∈T.ej->fL u v=true->tY u' locals (some (β p)) d val v=tY u locals (some p) T val v
section
variable{u u':U}{P:Nat->Prop}(g:Gd u P){β:Nat->Nat}{R:Nat->Prop}(S:Step u u' β R){locals:List Int}{gv:Int}{heap:List Int}{fuel:Nat}
include S
theorem VC(s:Rs) (st:Nat):rz u' s st=rz u s st:=by
 unfold rz;rw[S.st]
include g
theorem PX{b:Nat} {B:Bk} (i:u.blocks[b]? =some B):∀l k s,B.ej.drop k=l->(∀v∈l,fL u v=false)->KI u b k s->s.val.length=u.ej.length->
  nP u' gv fuel l s=nP u gv fuel l s/\∀d,nP u gv fuel l s = .inr d->KI u b B.ej.length d/\d.val.length=u.ej.length
 | [],k,s,hd,_,hI,hl=>⟨rfl,λd h=>by
   cases h;refine⟨λv x hx m hs=>hI v x hx m ?_,hl⟩
   let⟨c,j,a,hc⟩:=hs
   refine⟨c,j,a,hc.imp (λ⟨e,n⟩=>⟨e,?_⟩) id⟩
   grind[List.drop_eq_nil_iff]⟩
 | v ::l,k,s,hd,hh,hI,hl=>by
   have hk:k<B.ej.length:=by
     have:=congrArg List.length hd;rw[wBx,VS]at this;omega
   rw[YD hk]at hd
   let⟨hv,hl'⟩:=List.cons.inj hd
   have a:At u v b k:=⟨B,i,by rw[<-hv];exact gN hk⟩
   have f:=g.iM _ _ _ a;have hx:=gN f;generalize u.ej[v]=x at hx
   let⟨x',hx',ho⟩:=S.one v b k x a hx (by simp_all)
   unfold nP;rw[hx,hx'];simp[ho gv s hI];by_cases hf:fuel<=s.steps
   ·simp_all
   simp[if_neg hf]
   cases hq:pA u gv v x s with
   |inl e=>simp_all
   |inr d=>exact PX i l (k+1) d hl' (by simp_all) (hI.one g a hx hl hq) ((zbr hq).trans hl)
theorem Tq:∀zs lV b B s,u.blocks[b]? =some B->R b->s.val.length=u.ej.length->
  ((lV=none/\b=0)\/∃p P h,lV=some p/\u.blocks[p]? =some P/\R p/\KI u p P.ej.length h/\h.val.length=u.ej.length/\pN P h=some b/\s = {h with steps:=h.steps+1})->
  runM u' locals gv fuel zs (lV.map β) (β b) s=runM u locals gv fuel zs lV b s
 |0,_,_,_,_,_,_,_,_=>rfl
 | zs+1,lV,b,B,s,hB,hR,hl,he=>by
   let⟨B',Xz,hv,C,hn⟩:=S.nJ b B hB hR
   have i:=funext S.head;have H:∀v∈B.ej,fL u v=true->tY u' locals (lV.map β) B' s.of v=tY u locals lV B s.of v:=λv y z=>by
     rcases he with⟨rfl,rfl⟩|⟨p,Q,h,rfl,A,j,k,_,c,rfl⟩
     ·rw[S.b0]at Xz
      exact S.par B B' locals _ v hB Xz y z
     ·exact S.Cd p b Q B B' h locals _ v A j k c hB Xz y z
   have D:jQ u' locals (lV.map β) B' s=jQ u locals lV B s:=by
     unfold jQ;rw[i,hv]
     have:(B.ej.takeWhile (fL u)).map (λv=>(v,tY u' locals (lV.map β) B' s.of v))=(B.ej.takeWhile (fL u)).map λv=>(v,tY u locals lV B s.of v):=
       by grind[Ym,wBA,EV]
     simp[this]
   have n:KI u b (B.ej.takeWhile (fL u)).length (jQ u locals lV B s):=by
     rcases he with⟨rfl,rfl⟩|⟨p,Q,h,rfl,A,j,k,E,c,rfl⟩
     ·exact KI.start hB
     ·grind[KI.yD,pN]
   have o:(jQ u locals lV B s).val.length=u.ej.length:=(AJ _ _).trans hl;have q:B.ej.drop (B.ej.takeWhile (fL u)).length=B.ej.dropWhile (fL u):=by
     have e:=wAq (p:=fL u) (l:=B.ej);generalize B.ej.takeWhile (fL u)=a at e⊢;generalize B.ej.dropWhile (fL u)=d at e⊢;rw[<-e];exact List.drop_left' rfl
   let⟨F,G⟩:=PX g S (gv:=gv) (fuel:=fuel) hB _ _ _ q (E7 g hB) n o
   unfold runM;rw[hB,Xz];simp only;rw[i,hv,D,F]
   cases hq:nP u gv fuel (B.ej.dropWhile (fL u)) (jQ u locals lV B s)with
   |inl e=>rfl
   | inr m =>
     let⟨hI2,hl2⟩:=G m hq
     simp only;by_cases hf:fuel<=m.steps
     ·simp_all
     rw[if_neg hf,if_neg hf];by_cases f:B.fin=3
     ·let⟨r,w⟩:=C f
      rw[if_pos f,if_pos r,w,VC S]
     ·let ⟨r,w⟩:=hn f
      rw[if_neg f,if_neg r]
      cases c:pN B m with
      | none=>
        let⟨t,ht⟩:=Yi g hB f m
        simp_all
      | some t=>
        let⟨hRt,e⟩:=w m t hI2 c
        rw[e];simp only;have ht:t∈B.next:=by
          unfold pN at c
          repeat' split at c
          all_goals grind
        have x:=g.nx b t (by grind[next]);exact Tq zs (some b) t _ _ (gN x) hRt hl2 (by grind)
end
open Dm
theorem Ex.As.refl:∀e:Ex,e.As e
 | .zQ=>trivial
 | .left ..=>⟨iZ _,rfl,rfl⟩
 | .stuck=>trivial
theorem Ex.As.trans{a b c:Ex} (h:a.As b) (h':b.As c):a.As c:=by
 cases a <;> cases b <;> cases c <;> simp_all[Ex.As];omega
def vS(u u':U):Prop:=∀locals gv fuel zs heap,(runM u locals gv fuel zs none 0 (ny u heap)).As (runM u' locals gv fuel zs none 0 (ny u' heap))
theorem vS.trans{a b c:U}(h:vS a b)(h':vS b c):vS a c:=λl w f g p=>(h l w f g p).trans (h' l w f g p)
theorem vS.refl(a:U):vS a a:=λ_ _ _ _ _=> .refl _
theorem Step.Fs{u u':U} {P:Nat->Prop} (g:Gd u P) {β:Nat->Nat} {R:Nat->Prop} (S:Step u u' β R):vS u u':=λlocals gv fuel zs heap=>by
 have e:ny u' heap=ny u heap:=by
  unfold ny;rw[S.len]
 have:=Tq g S (locals:=locals) (gv:=gv) (fuel:=fuel) zs none 0 _ (ny u heap) (gN g.I5) S.r0 (by simp[ny]) (by simp_all);rw[S.b0]at this;rw[e,show(none:Option Nat)=(none:Option Nat).map β from rfl,this];exact .refl _
def W1(n:Int):Vl:=⟨2,0,0,n,[],0⟩
def Hc(u:U)(v:Nat)(n:Int):U:={u with ej:=u.ej.set v (W1 n)}
def Kw(u:U)(v:Nat)(n:Int):Prop:=∃y,u.ej[v]? =some y/\y.op=2/\qq y.n=n
section
variable{u:U}{v:Nat}{x:Vl}{n:Int}
theorem AK(hx:u.ej[v]? =some x) {w:Nat}:(Hc u v n).ej[w]? =if w=v then some (W1 n) else u.ej[w]?:=by
 grind[Hc]
theorem pC(hx:u.ej[v]? =some x) {w:Nat} {y:Vl} (h:(Hc u v n).ej[w]? =some y):(w=v/\y=W1 n)\/(w≠v/\u.ej[w]? =some y):=by
 grind[AK]
theorem V5(hx:u.ej[v]? =some x) {w:Nat} (h:mq u w):mq (Hc u v n) w:=by
 let⟨y,hy,hg⟩:=h
 by_cases e:w=v
 ·exact⟨W1 n,by simp_all[AK,if_pos],rfl⟩
 ·exact⟨y,by rw[AK hx,if_neg e];exact hy,hg⟩
theorem XL(g:Good u) (hx:u.ej[v]? =some x) (C:3<=x.op) (q:x.op<=14):Good (Hc u v n):=by
 have G:∀{w:Nat},mq u w->mq (Hc u v n) w:=V5 hx;have o:(Hc u v n).ej.length=u.ej.length:=Lj
 refine
  { nv:=by rw[o];exact g.nv
    I5:=g.I5
    nb:=g.nb
    ns:=g.ns
    st:=λs fs hs=>?_
    B6:=λw D=>g.B6 w (by omega)
    Ao:=g.Ao
    iM:=λw b k h=>by rw[o];exact g.iM w b k h
    yD:=λw z b k y t e f i r l=>?_
    par:=λw b k y e f i=>?_
    Cd:=λw b k y B e f i m=>?_
    op:=λw y d=>?_
    use:=λw y d=>?_
    leave:=λw y d=>?_
    putAt:=λw y d=>?_
    param:=λw y d e=>?_
    fin:=λb B m=>?_
    nx:=g.nx
    fh:=g.fh
    zG:=g.zG
    FY:=g.FY
    reach:=g.reach
    yo:=λw b k y e d=>?_
    AU:=λw b k y B e d=>?_
    Dv:=λw b k y fs e d=>?_
    Ay:=g.Ay
    Dp:=g.Dp}
 ·let⟨e,f,i⟩:=g.st s fs hs
  grind
 ·rcases pC hx i with⟨rfl,rfl⟩|⟨_,p⟩
  ·cases l
  ·rcases pC hx r with⟨rfl,rfl⟩|⟨_,A⟩
   ·have:=g.yD w z b k y x e f p hx l
    grind[hZ]
   ·exact g.yD w z b k y t e f p A l
 ·rcases pC hx f with⟨rfl,rfl⟩|⟨_,f⟩
  ·cases i
  ·exact g.par w b k y e f i
 ·rcases pC hx f with⟨rfl,rfl⟩|⟨_,f⟩
  ·cases i
  ·exact g.Cd w b k y B e f i m
 ·rcases pC hx d with⟨rfl,rfl⟩|⟨_,d⟩
  ·exact⟨show 1<=2 by decide,show 2<=23 by decide⟩
  ·exact g.op w y d
 ·rcases pC hx d with⟨rfl,rfl⟩|⟨_,d⟩
  ·exact λz j=>nomatch j
  ·exact λz j=>G (g.use w y d z j)
 ·rcases pC hx d with⟨rfl,rfl⟩|⟨_,d⟩
  ·exact λh=>nomatch h
  ·exact g.leave w y d
 ·rcases pC hx d with⟨rfl,rfl⟩|⟨_,d⟩
  ·exact λh=>nomatch h
  ·exact g.putAt w y d
 ·rcases pC hx d with⟨rfl,rfl⟩|⟨_,d⟩
  ·cases e
  ·let⟨a,b,c⟩:=g.param w y d e
   refine⟨a,b,λz t ht f=>?_⟩;rcases pC hx ht with⟨rfl,rfl⟩|⟨_,ht⟩
   ·cases f
   simp_all
 ·rcases g.fin b B m with h|⟨e,f,i⟩|h
  ·omega
  ·simp_all
  ·exact .inr (.inr h)
 ·rcases pC hx d with⟨rfl,rfl⟩|⟨_,d⟩
  ·exact λ_ z j=>nomatch j
  ·exact g.yo w b k y e d
 ·rcases pC hx d with⟨rfl,rfl⟩|⟨_,d⟩
  ·exact λh=>nomatch h
  ·exact g.AU w b k y B e d
 ·rcases pC hx d with⟨rfl,rfl⟩|⟨_,d⟩
  ·exact λh=>nomatch h
  ·exact g.Dv w b k y fs e d
structure Fv (u:U) (x:Vl) (n:Int):Prop where
 lo:3<=x.op
 hi:x.op<=14
 kn:∃a b,Kw u x.a a/\(¬(x.op=8\/x.op=9)->Kw u x.b b)/\qq n=Bh x.op a b
theorem Yd(g:Good u) (hx:u.ej[v]? =some x) (f:Fv u x n):Step u (Hc u v n) id λ_=>True:=by
 let⟨K,r,a,b,ha,hb,hn⟩:=f
 have A:∀w,fL (Hc u v n) w=fL u w:=λw=>by
  unfold fL;rw[AK hx];by_cases e:w=v
  ·subst e;rw[if_pos rfl,hx];show false=(x.op == 1 ||x.op == 21)
   grind
  simp_all
 have L:∀B locals lV val w,fL u w=true->tY (Hc u v n) locals lV B val w=tY u locals lV B val w:=λB locals lV val w c=>by
  unfold tY;rw[AK hx,if_neg λe=>by
   subst e;unfold fL at c;rw[hx]at c;have c:(x.op == 1 ||x.op == 21)=true:=c
   grind]
 refine⟨rfl,rfl,trivial,Lj,λb B l _=>⟨B,l,rfl,by omega,by simp_all⟩,A,λw b' k y j o c=>?_,λB C locals val w l h _ c=>?_,λp t B T D s locals val w _ _ _ _ M i _ c=>?_⟩
 ·by_cases e:w=v
  ·subst e;rw[hx]at o;cases o;refine⟨W1 n,by rw[AK hx,if_pos rfl],λgv s E=>?_⟩;have F:∀z m,z∈gG x->Kw u z m->s.of z=m:=λz m G ⟨y,H,I,J⟩=>by
    rw[<-J];exact E z y H I (g.yo w b' k x j hx (by omega) z G)
   have ht:x.op=8\/x.op=9\/two x.op=true:=by unfold two;simp;omega
   have N:ml x.op=true\/two x.op=true:=by unfold two ml;simp;omega
   have eV:zx x s.of s.heap=qq n:=by
    rw[hn];unfold zx;rw[if_neg (by omega),if_neg (by omega),if_neg (by omega),if_neg (by omega),if_neg (by omega)];have q:s.of x.a=a:=by grind[yV]
    by_cases d:x.op=8\/x.op=9
    ·rw[if_pos d,q]
     grind[Bh]
    ·rw[if_neg d,q,F _ _ (by grind[yV]) (hb d)]
   rw[show pA (Hc u w n) gv w (W1 n) s = .inr {s with val:=s.val.set w (qq n),steps:=s.steps+1} from rfl];unfold pA
   grind
  ·exact⟨y,by simp_all[AK,if_neg],λ_ _ _=>by rfl⟩
 ·have h:u.blocks[0]? =some C:=h
  simp_all
 ·have i:u.blocks[t]? =some D:=i
  simp_all
theorem XH(g:Good u)(hx:u.ej[v]? =some x)(f:Fv u x n):vS u (Hc u v n):=(Yd g hx f).Fs g
end
open Dm
structure MD (u u2:U):Prop where
 func:u2.func=u.func
 pc:u2.pc=u.pc
 ej:u2.ej=u.ej
 eo:u2.eo=u.eo
 len:u2.blocks.length=u.blocks.length
 nJ:∀(b:Nat) B,u.blocks[b]? =some B->u2.blocks[b]? =some B\/(B.fin=2/\∃n t,Kw u B.cond n/\(if n=0 then B.next[1]? else B.next[0]?)=some t/\u2.blocks[b]? =some {B with fin:=1,cond:=0,next:=[t]})
theorem Pt.suffix{nx:Nat->List Nat} {x:Nat}:∀{b l},Pt nx b l->x∈l->∃a,Pt nx x (x::a)/\(x::a) <:+ l
 | _,_,.nil,h=>by
   obtain rfl:x=0:=by simp_all
   exact⟨[],.nil,List.suffix_refl _⟩
 | _,_,.step (l:=l) h e,hx=>by
   rcases Ki.1 hx with rfl|hx
   ·exact⟨l,.step h e,List.suffix_refl _⟩
   ·let⟨a,c,d⟩:=Pt.suffix h hx
    exact⟨a,c,d.trans (List.suffix_cons _ _)⟩
section
variable{u u2 w:U}{kp:Nat->Bool}(g:Good u)(e:MD u u2)(hk:∀b,kp b=true↔∃l,Pt (next u2) b l)(c:Cut u2 kp w)
include e
theorem FL{b:Nat} {B:Bk} (h:u2.blocks[b]? =some B):∃A,u.blocks[b]? =some A/\B.ej=A.ej/\B.fh=A.fh/\B.state=A.state/\(B=A\/(A.fin=2/\∃n t,Kw u A.cond n/\(if n=0 then A.next[1]? else A.next[0]?)=some t/\B = {A with fin:=1,cond:=0,next:=[t]})):=by
 have a:=(jo.1 h).1;rw[e.len]at a;have c:=gN a;refine⟨_,c,?_⟩;rcases e.nJ b _ c with d|⟨f,n,t,g,i,j⟩
 ·grind
 grind
theorem MW{v b k:Nat}:At u2 v b k↔At u v b k:=by
 constructor
 ·grind[FL,At]
 ·rintro⟨A,c,a⟩;rcases e.nJ b A c with d|⟨_,n,t,_,_,f⟩
  ·exact⟨A,d,a⟩
  ·exact⟨_,f,a⟩
theorem O5{b t:Nat} (h:t∈next u2 b):t∈next u b:=by
 unfold next at h
 split at h
 ·rename_i B a
  let⟨A,hA,_,_,_,c⟩:=FL e a
  unfold next
  grind
 ·cases h
theorem zec:∀{b l},Pt (next u2) b l->Pt (next u) b l
 |_,_,.nil=> .nil
 |_,_,.step h a=> .step (zec h) (O5 e a)
include g
theorem zgh{b:Nat} {l:List Nat} (h:Pt (next u2) b l):b<u.blocks.length:=by
 cases h with
 |nil=>exact g.I5
 |step h a=>exact g.nx _ _ (O5 e a)
include hk
theorem WT{b:Nat}(h:kp b=true):b<u.blocks.length:=let⟨_,hl⟩:=(hk b).1 h;zgh g e hl
omit g e in
theorem zd8:kp 0=true:=(hk 0).2 ⟨_,.nil⟩
omit g e in
theorem Eu{b t:Nat}(h:kp b=true)(ht:t∈next u2 b):kp t=true:=let⟨_,hl⟩:=(hk b).1 h;(hk t).2 ⟨_,.step hl ht⟩
omit g in
theorem Lr {a b:Nat} (h:kp b=true) (hd:mz (next u) a b):kp a=true:=by
 obtain⟨l,hl⟩:=(hk b).1 h;obtain⟨l',h1,_⟩:=Pt.suffix hl (hd l (zec e hl))
 grind
omit g e hk in
theorem OD {n b:Nat} (hb:b<n) (h:kp b=true):((List.range n).filter kp)[jR kp b]? =some b:=by
 have h1:(List.range n)[b]? =some b:=by simp[hb]
 have:=Nk (p:=kp) h1 h;unfold jR
 grind
omit g e hk in
theorem yU {a b:Nat} (ha:kp a=true) (hb:kp b=true) (h:jR kp a=jR kp b):a=b:=by
 have h1:=OD (n:=a+b+1) (by omega) ha
 grind[OD,Option.some.inj]
omit g e in
theorem Sy:jR kp 0=0:=by
 unfold jR;rw[if_pos (zd8 hk)];rfl
include c
theorem HP{b:Nat} {B:Bk} (h:kp b=true) (a:u2.blocks[b]? =some B):w.blocks[jR kp b]? =some {B with next:=B.next.map (jR kp),fh:=kr u2 kp b B.fh}:=by
 rw[c.blocks,zq];unfold mc;rw[e.len,OD (WT g e hk h) h]
 grind[E2]
omit g hk e in
theorem LJ {i:Nat} {C:Bk} (h:w.blocks[i]? =some C):∃b B,kp b=true/\u2.blocks[b]? =some B/\i=jR kp b/\C = {B with next:=B.next.map (jR kp),fh:=kr u2 kp b B.fh}:=by
 rw[c.blocks,zq]at h
 cases hb:(mc u2 kp)[i]? with
 |none=>simp_all
 | some b=>
   rw[hb]at h;obtain⟨h1,h2⟩:=Lz.1 (zD hb);have h1:=Vu.1 h1;refine⟨b,u2.blocks[b],h2,gN h1,?_,?_⟩
   ·exact sY (wBV.filter kp) hb (OD h1 h2)
   grind[Option.some.inj,E2,gN]
theorem TA{v i k:Nat}:At w v i k↔∃b,kp b=true/\i=jR kp b/\At u v b k:=by
 constructor
 ·rintro⟨C,a,j⟩;obtain⟨b,B,d,f,h,rfl⟩:=LJ c a;exact⟨b,d,h,(MW e).1 ⟨B,f,j⟩⟩
 ·rintro⟨b,a,rfl,d⟩
  let⟨B,f,h⟩:=(MW e).2 d
  exact⟨_,HP g e hk c a f,h⟩
theorem RP{b:Nat} (h:kp b=true):next w (jR kp b)=(next u2 b).map (jR kp):=by
 have a:=WT g e hk h;rw[<-e.len]at a;have d:=gN a;unfold next
 rw[HP g e hk c h d,d]
theorem zgs{b:Nat} {l:List Nat} (h:Pt (next u2) b l):Pt (next w) (jR kp b) (l.map (jR kp)):=by
 induction h with
 | nil=>
   rw[wBe,wBq,Sy hk]
   exact .nil
 |step h c a=>exact .step a (by grind[RP,wBl])
theorem ZW{i:Nat} {m:List Nat} (h:Pt (next w) i m):∃b l,i=jR kp b/\m=l.map (jR kp)/\Pt (next u2) b l:=by
 induction h with
 |nil=>exact⟨0,[0],(Sy hk).symm,by rw[wBe,wBq,Sy hk],.nil⟩
 | step h a d=>
   obtain⟨b,l,rfl,rfl,f⟩:=d;rw[RP g e hk c (by grind)]at a;obtain⟨t,j,rfl⟩:=Kj.1 a;exact⟨t,t::l,rfl,rfl,.step f j⟩
theorem RJ{a b:Nat} (hb:kp b=true) (h:mz (next u) a b):mz (next w) (jR kp a) (jR kp b):=λm d=>by
 obtain⟨b',l,f,rfl,i⟩:=ZW g e hk c d;obtain rfl:=yU hb (by grind) f;exact wBl (h l (zec e i))
theorem Z9{v b k:Nat} (hb:kp b=true) (h:qw u v b k):qw w v (jR kp b) k:=by
 let⟨a,j,AE,d⟩:=h
 rcases d with⟨rfl,d⟩|⟨d,f⟩
 ·exact⟨_,j,(TA g e hk c).2 (by grind),.inl ⟨rfl,d⟩⟩
 ·have i:=Lr e hk hb f;exact⟨_,j,(TA g e hk c).2 (by grind),.inr ⟨λq=>d (yU i hb q),RJ g e hk c hb f⟩⟩
theorem LS{v b:Nat} (hb:kp b=true) (h:sP u v b):sP w v (jR kp b):=by
 let⟨a,j,AE,d⟩:=h
 exact⟨_,j,(TA g e hk c).2 ⟨a,Lr e hk hb d,rfl,AE⟩,by grind[RJ]⟩
end
open Dm
structure Wa (c x:Vl):Prop where
 op:c.op=x.op
 a:c.a=x.a
 b:c.b=x.b
 n:c.n=x.n
 state:c.state=x.state
 ne:x.op≠21->c=x
 args:∀a∈c.args,a∈x.args
theorem Wa.gG{b x:Vl} (h:Wa b x):∀a∈gG b,a∈gG x:=by
 by_cases e:x.op=21
 ·unfold Un.gG;rw[h.op,if_pos e,if_pos e];exact h.args
 ·rw[h.ne e]
  simp_all
theorem St{α:Type} (a:List Nat) (r:Nat->Bool) (f:Nat->α):((List.range a.length).filter λj=>r (a.getD j 0)).map (λj=>f (a.getD j 0))=(a.filter r).map f:=by
 have b:=congrArg (λl=>(l.filter r).map f) (O1 a 0);simp only[List.filter_map,List.map_map]at b;exact b
theorem xS(L:List Bk) (b:Nat) (h:∀B∈L,B.next.Nodup):∀n,n<=L.length->jK (L.take n) 0 b=(List.range n).filter λp=>(match L[p]? with|some B=>B.next|none=>[]).contains b
 |0,_=>rfl
 | n + 1,hn=>by
   have a:=gN (show n<L.length by omega);rw[M4 (by omega),rk,xS L b h n (by omega),YN,wBp];congr 1;have c:=h _ (zI (show n<L.length by omega));simp only[jK,Lg,Pw,C7,wBi (by omega)];have hs:(match L[n]? with|some B=>B.next|none=>[])=L[n].next:=by rw[a]
   rw[wBm,List.filter_nil,hs];generalize L[n].next=l at c;have e:l.filter (λx=>decide (x=b))=if b∈l then[b] else[]:=by
     clear a hs
     induction l with
     |nil=>simp
     | cons t l d=>
       grind
   grind
section
variable{u u2 w:U}{kp:Nat->Bool}(g:Good u)(e:MD u u2)(hk:∀b,kp b=true↔∃l,Pt (next u2) b l)(c:Cut u2 kp w)
include g
theorem Xg{b:Nat} {B:Bk} (a:u.blocks[b]? =some B):B.next.Nodup:=by
 rcases g.fin b B a with⟨h,c⟩|⟨h,c,_⟩|⟨h,c,_⟩
 ·grind
 ·have hc:=g.FY b B a h
  match hq:B.next,c with
  | [s,t],_=>
    rw[wBj];refine⟨λf=>?_,by simp⟩;obtain rfl:s=t:=by simp_all
    have d:=hc s (by rw[hq];simp);have e:=(jo.1 a).1;unfold ahead at d;rw[<-wA1 b u.blocks,YD e,rk,Lw]at d
    grind[jK,Option.some.inj,gN]
 simp_all
theorem Wl(b:Nat):ahead u b=(List.range u.blocks.length).filter λp=>(next u p).contains b:=by
 have:=xS u.blocks b (by grind[mn,Xg]) _ (iZ _);rw[I2]at this;exact this
include e
theorem zb4{b:Nat} {B:Bk} (a:u2.blocks[b]? =some B):B.next.Nodup:=by
 obtain⟨A,d,_,_,_,c⟩:=FL e a;rcases c with rfl|⟨_,n,t,_,_,rfl⟩
 ·grind[Xg]
 ·simp
include hk c
theorem WO{i:Nat} {C:Bk} (h:w.blocks[i]? =some C):C.next.Nodup:=by
 obtain⟨b,B,d,f,rfl,rfl⟩:=LJ c h;have a:=zb4 g e f;have j:∀t∈B.next,kp t=true:=λt ht=>Eu hk d (by grind[next]);show(B.next.map (jR kp)).Nodup;generalize B.next=l at a j
 induction l with
 |nil=>simp
 | cons t l n=>
   rw[wBj]at a;rw[wBe,wBj];refine⟨λk=>?_,by simp_all⟩;obtain⟨s,o,m⟩:=Kj.1 k;obtain rfl:=yU (by simp_all) (by simp_all) m
   simp_all
omit g hk in
theorem Re:List.range w.blocks.length=((List.range u.blocks.length).filter kp).map (jR kp):=by
 have hl:w.blocks.length=((List.range u.blocks.length).filter kp).length:=by
  rw[c.blocks,Er];unfold mc;rw[e.len]
 refine wBL λi=>?_;rw[zq,hl]
 cases hb:((List.range u.blocks.length).filter kp)[i]? with
 | none=>
   simp_all
 | some b=>
   have hi:=(jo.1 hb).1;obtain⟨h1,h2⟩:=Lz.1 (zD hb);have:=sY (wBV.filter kp) hb (OD (Vu.1 h1) h2)
   simp_all
theorem M6{b:Nat} {B:Bk} (h:kp b=true) (d:u.blocks[b]? =some B):ahead w (jR kp b)=kr u2 kp b B.fh:=by
 have a:=xS w.blocks (jR kp b) (by grind[mn,WO]) _ (iZ _);rw[I2]at a;show jK w.blocks 0 _=_;rw[a,Re e c];have f:=St B.fh (λp=>kp p&&(next u2 p).contains b) (jR kp);show _=((List.range B.fh.length).filter _).map _;rw[f,g.fh b B d,Wl g,List.filter_map,List.filter_filter,List.filter_filter];congr 1;refine List.filter_congr λp hp=>?_
 cases hkp:kp p with
 |false=>simp
 | true=>
   show((next w (jR kp p)).contains (jR kp b)&&true)=_;rw[RP g e hk c hkp,Wr];simp only[Bool.and_true,wBd,vU,wBZ,Kj];constructor
   ·rintro⟨t,i,j⟩
    obtain rfl:=yU (Eu hk hkp i) h j
    grind[O5]
   grind
omit hk in
theorem MO {v:Nat} {x:Vl} (hx:u.ej[v]? =some x):∃x',w.ej[v]? =some x'/\Wa x' x/\∀(b k:Nat) (B:Bk),x.op=21->At u v b k->kp b=true->u.blocks[b]? =some B->x'.args=pd u2 kp b B.fh x.args:=by
 have hx2:u2.ej[v]? =some x:=by rw[e.ej];exact hx
 by_cases h:x.op=21/\∃b k,At u2 v b k/\kp b=true
 ·obtain ⟨h1,b,k,h2,h3⟩:=h;obtain⟨B,hB,hv⟩:=id h2;obtain⟨A,hA,_,hp,_⟩:=FL e hB;refine⟨_,c.Cd v b k x B h2 hx2 h1 h3 hB,⟨rfl,rfl,rfl,rfl,rfl,by omega,λa ha=>?_⟩,λb' k' B' _ RG _ Xz=>?_⟩
  ·obtain⟨j,hj,rfl⟩:=Kj.1 ha;have hj:=Vu.1 (Lz.1 hj).1;have hlen:=(g.Cd v b k x A ((MW e).1 h2) hx h1 hA).2
   simp_all
  ·obtain⟨rfl,_⟩:=g.Ao _ _ _ _ _ RG ((MW e).1 h2)
   simp_all
 ·refine⟨x,c.same v x hx2 h,⟨rfl,rfl,rfl,rfl,rfl,λ_=>rfl,λ_ h=>h⟩,λb k B h1 h2 h3 _=>?_⟩;exact(h ⟨h1,b,k,(MW e).2 h2,h3⟩).elim
omit hk in
theorem Kc {v:Nat} {x':Vl} (hx:w.ej[v]? =some x'):∃x,u.ej[v]? =some x/\Wa x' x/\∀(b k:Nat) (B:Bk),x.op=21->At u v b k->kp b=true->u.blocks[b]? =some B->x'.args=pd u2 kp b B.fh x.args:=by
 have hl:=(jo.1 hx).1;rw[c.len,e.ej]at hl
 grind[gN,MO]
omit hk in
theorem Xa {v:Nat}:mq w v↔mq u v:=by
 constructor
 ·rintro⟨x',h1,h2⟩;obtain⟨x,h3,h4,_⟩:=Kc g e c h1;exact⟨x,h3,by rw[<-h4.op];exact h2⟩
 ·rintro⟨x,h1,h2⟩;obtain⟨x',h3,h4,_⟩:=MO g e c h1;exact⟨x',h3,by rw[h4.op];exact h2⟩
theorem O8{as:Nat->Int} (W9:∀(v b k:Nat),At u v b k->kp b=false->as v = -1):Gd w λv=>stays as v=true:=by
 have R:w.ej.length=u.ej.length:=by rw[c.len,e.ej]
 have H:w.eo=u.eo:=by rw[c.eo,e.eo]
 have ah:w.blocks.length<=u.blocks.length:=by
  have:=congrArg List.length (Re e c);rw[UW,Er]at this;have:=Zu kp (List.range u.blocks.length);rw[UW]at this;omega
 have h0:jR kp 0=0:=Sy hk;have k0:=zd8 hk;have V:=@Kc u u2 w kp g e c;have A:=@TA u u2 w kp g e hk c;have G:=@Xa u u2 w kp g e c;have vb:∀{i:Nat} {C:Bk},w.blocks[i]? =some C->∃b B,kp b=true/\u.blocks[b]? =some B/\i=jR kp b/\C.ej=B.ej/\C.fh=kr u2 kp b B.fh/\C.state=B.state/\((C.fin=B.fin/\C.cond=B.cond/\C.next=B.next.map (jR kp)/\next u2 b=B.next)\/(C.fin=1/\C.next.length=1)):=λ{i C} h=>by
  obtain⟨b,B,E,J,r,rfl⟩:=LJ c h;obtain⟨O,S,h5,h6,h7,h8⟩:=FL e J;refine⟨b,O,E,S,r,h5,by rw[<-h6],h7,?_⟩;rcases h8 with rfl|⟨_,n,t,_,_,rfl⟩
  ·exact .inl ⟨rfl,rfl,rfl,by grind[next]⟩
  simp_all
 refine
  { nv:=by rw[R];exact g.nv
    I5:=?_
    nb:=by have:=g.nb;omega
    ns:=by rw[H];exact g.ns
    st:=λs fs hs=>?_
    B6:=λv hv hP=>?_
    Ao:=λv b k b' k' h h'=>?_
    iM:=λv b k h=>?_
    yD:=λv z b k x y E J hx hy hh=>?_
    par:=λv b k x E hx J=>?_
    Cd:=λv b k x B E hx J F=>?_
    op:=λv x hx=>?_
    use:=λv x hx z T=>?_
    leave:=λv x hx K=>?_
    putAt:=λv x hx aa=>?_
    param:=λv x hx E=>?_
    fin:=λb C I=>?_
    nx:=λb t ht=>?_
    fh:=λb C I=>?_
    zG:=?_
    FY:=λb C I J t ht=>?_
    reach:=λb hb=>?_
    yo:=λv b k x E hx D z T=>?_
    AU:=λv b k x C E hx D I j z p P hp=>?_
    Dv:=λv b k x fs E hx K L z T=>?_
    Ay:=λb C I J=>?_
    Dp:=λb C fs I r L z T=>?_}
 ·have K:=g.I5;rw[<-e.len]at K;have:=(jo.1 (HP g e hk c k0 (gN (show 0<u2.blocks.length from K)))).1;omega
 ·rw[H]at hs;obtain⟨E,J,r⟩:=g.st s fs hs
  grind
 ·rw[R]at hv;obtain⟨b,k,W⟩:=g.B6 v hv trivial;refine⟨jR kp b,k,A.2 ⟨b,?_,rfl,W⟩⟩
  cases hb:kp b with
  |true=>rfl
  | false=>
    have:=W9 v b k W hb
    simp_all[stays,Bg]
 ·obtain⟨a,E,rfl,r⟩:=A.1 h;obtain⟨a',ai,rfl,ab⟩:=A.1 h';obtain⟨rfl,rfl⟩:=g.Ao _ _ _ _ _ r ab;omega
 ·rw[R];obtain⟨a,_,_,r⟩:=A.1 h;exact g.iM _ _ _ r
 ·obtain⟨a,o,rfl,r⟩:=A.1 E;obtain⟨a',ac,S,h5⟩:=A.1 J;obtain rfl:=yU o ac S;obtain⟨f,d,m,_⟩:=V hx;obtain⟨y0,U,sy,_⟩:=V hy;rw[sy.op];exact g.yD v z a k f y0 r h5 d U (by rw[<-m.op];exact hh)
 ·obtain⟨a,o,rfl,r⟩:=A.1 E;obtain⟨f,d,m,_⟩:=V hx;rw[g.par v a k f r d (by rw[<-m.op];exact J)];exact h0
 ·obtain⟨a,o,rfl,r⟩:=A.1 E;obtain⟨f,d,m,sp⟩:=V hx;obtain⟨a',O,k2,M,S,_,X,_⟩:=vb F;obtain rfl:=yU o k2 S;have D:f.op=21:=by rw[<-m.op];exact J
  refine⟨λq=>(g.Cd v a k f O r d D M).1 (by grind[yU]),?_⟩
  grind[pd,kr,Er]
 ·obtain⟨f,d,m,_⟩:=V hx;rw[m.op];exact g.op v f d
 ·obtain⟨f,d,m,_⟩:=V hx;exact G.2 (g.use v f d z (m.gG z T))
 ·obtain⟨f,d,m,_⟩:=V hx;rw[H,m.state];exact g.leave v f d (by rw[<-m.op];exact K)
 ·obtain⟨f,d,m,_⟩:=V hx;have Y:f.op=20:=by rw[<-m.op];exact aa
  rw[m.ne (by omega)];exact g.putAt v f d Y
 ·obtain⟨f,d,m,_⟩:=V hx;obtain⟨q1,q2,Z⟩:=g.param v f d (by rw[<-m.op];exact E);rw[m.n];refine⟨q1,q2,λz y hy ad ae=>?_⟩;obtain⟨y0,U,sy,_⟩:=V hy;exact Z z y0 U (by rw[<-sy.op];exact ad) (by rw[<-sy.n];exact ae)
 ·obtain ⟨b0,B,o,F,_,_,_,Z,⟨N,q5,q6,_⟩|N⟩:=vb I
  ·rw[N,q5,q6,Z,H];rcases g.fin b0 B F with⟨r1,r2⟩|⟨r1,r2,r3⟩|⟨r1,r2,r3⟩
   ·simp_all
   ·simp_all
   simp_all
  omega
 ·unfold next at ht
  split at ht
  ·rename_i C I;obtain⟨b0,B,o,F,_,rfl⟩:=LJ c I;obtain⟨t0,Q,rfl⟩:=Kj.1 ht;have kt:=Eu hk o (t:=t0) (by grind[next]);have K:=WT g e hk kt;rw[<-e.len]at K;exact(jo.1 (HP g e hk c kt (gN K))).1
  ·cases ht
 ·obtain⟨b0,B,o,F,rfl,_,q2,_⟩:=vb I
  grind[M6]
 ·have F:=gN (show 0<u.blocks.length from g.I5);have:=M6 g e hk c k0 F;rw[h0,g.fh 0 _ F,g.zG]at this;rw[this];rfl
 ·obtain ⟨b0,B,o,F,rfl,_,_,_,⟨N,_,q6,q7⟩|⟨N,_⟩⟩:=vb I
  ·rw [q6]at ht;obtain⟨t0,Q,rfl⟩:=Kj.1 ht;have ag:B.fin=2:=by rw[<-N];exact J
   have kt:=Eu hk o (t:=t0) (by rw[q7];exact Q);have hT:=gN (WT g e hk kt);have hc:=g.FY b0 B F ag t0 Q;rw[<-g.fh t0 _ hT]at hc;have hw:=M6 g e hk c kt hT;have hm:jR kp b0∈ahead w (jR kp t0):=wG.2 (by rw[RP g e hk c o,q7];exact wBl Q);have aj:(ahead w (jR kp t0)).length<=1:=by
    rw[hw];unfold kr uT;rw[Er];refine Gq (Zu _ _) ?_;rw[UW];omega
   have:=List.length_pos_of_mem hm;omega
  ·omega
 ·obtain⟨b0,B,o,F,rfl,_⟩:=vb (gN hb);obtain⟨l,K⟩:=(hk b0).1 o;exact⟨_,zgs g e hk c K⟩
 ·obtain⟨a,o,rfl,r⟩:=A.1 E;obtain⟨f,d,m,_⟩:=V hx;rw[m.op]at D;exact Z9 g e hk c o (g.yo v a k f r d D z (m.gG z T))
 ·obtain ⟨a,o,rfl,r⟩:=A.1 E;obtain⟨f,d,m,sp⟩:=V hx;obtain⟨a',O,k2,M,S,_,X,_⟩:=vb I;obtain rfl:=yU o k2 S;rw[m.op]at D;have hlen:=(g.Cd v a k f O r d D M).2;rw[sp a k O D r o M]at P;rw[X]at hp;unfold pd at P;unfold kr at hp;rw[zq]at P hp
  cases hi:(uT u2 kp a O.fh)[j]? with
  |none=>rw[hi]at P;cases P
  | some i=>
    rw[hi]at P hp;obtain⟨i1,i2⟩:=Lz.1 (zD hi);have i1:=Vu.1 i1;rw[vU]at i2;have e1:=gN i1;have e2:=gN (show i<f.args.length by omega);rw[CH,e1]at i2;have P:f.args[i]=z:=by
      have:f.args.getD i 0=z:=Option.some.inj P
      rwa [CH,e2]at this
    have hp:jR kp O.fh[i]=p:=by
      have:jR kp (O.fh.getD i 0)=p:=Option.some.inj hp
      rwa [CH,e1]at this
    subst P hp;exact LS g e hk c i2.1 (g.AU v a k f O r d D M i _ _ e2 e1)
 ·obtain⟨a,o,rfl,r⟩:=A.1 E;obtain⟨f,d,m,_⟩:=V hx;rw[H,m.state]at L;exact Z9 g e hk c o (g.Dv v a k f fs r d (by rw[<-m.op];exact K) L z T)
 ·obtain⟨b0,B,o,F,rfl,_,_,_,⟨N,q5,_⟩|⟨N,_⟩⟩:=vb I
  ·rw[q5];exact LS g e hk c o (g.Ay b0 B F (by rw[<-N];exact J))
  ·omega
 ·obtain⟨b0,B,o,F,rfl,_,_,Z,⟨N,_⟩|⟨N,_⟩⟩:=vb I
  ·rw[H,Z]at L;exact LS g e hk c o (g.Dp b0 B fs F (by rw[<-N];exact r) L z T)
  ·omega
end
open Dm
theorem IX{L:List Nat} (b:L.Nodup) {j a:Nat} (h:L[j]? =some a):L.findIdx? (·== a)=some j:=by
 obtain⟨c,d⟩:=jo.1 h;rw[wBS];refine⟨c,by simp[d],λi hi=>?_⟩;intro hc;have:L[i]=a:=by simpa using hc
 have:=sY b (gN (show i<L.length by omega)) (by simp_all:L[j]? =some L[i]);omega
section
variable{u u2 w:U}{kp:Nat->Bool}(g:Good u)(e:MD u u2)(hk:∀b,kp b=true↔∃l,Pt (next u2) b l)(c:Cut u2 kp w)
include g e c
theorem zeh(v:Nat):fL w v=fL u v:=by
 unfold fL
 cases h:u.ej[v]? with
 | none=>
   rw[List.getElem?_eq_none_iff]at h
   rw[List.getElem?_eq_none_iff.2 (by rw[c.len,e.ej];exact h)]
 | some x=>
   obtain⟨a,b,d,_⟩:=MO g e c h;rw[b];show hZ a.op=hZ x.op;rw[d.op]
include hk
theorem zdh:Step u w (jR kp) (λb=>kp b=true):=by
 have C:w.eo=u.eo:=by rw[c.eo,e.eo]
 refine⟨C,Sy hk,zd8 hk,by rw[c.len,e.ej],λb B f hb=>?_,zeh g e c,λv b k x r hx d=>?_,λB B' locals val v f R hv d=>?_,λp t B T S s locals val v f hp D hn q U hv d=>?_⟩
 ·rcases e.nJ b B f with l|⟨a,n,t,⟨y,E,F,N⟩,V,W⟩
  ·refine ⟨_,HP g e hk c hb l,rfl,by simp_all,λh=>⟨h,λs t _ ht=>?_⟩⟩;have hm:t∈B.next:=by
    unfold pN at ht
    repeat' split at ht
    all_goals grind
   refine⟨Eu hk hb (by grind[next]),?_⟩;unfold pN at ht⊢
   grind
  ·refine⟨_,HP g e hk c hb W,rfl,by omega,λh=>⟨by simp,λs t' D ht=>?_⟩⟩;have hs:=D B.cond y E F (rU f (g.Ay b B f a));unfold pN at ht;rw[if_neg (by omega),if_pos a,hs,N,V]at ht;cases ht;exact⟨Eu hk hb (by grind[next]),rfl⟩
 ·obtain ⟨O,l,a,_⟩:=MO g e c hx;have m:x.op≠21:=by
   unfold fL hZ at d;rw[hx]at d;simp at d;exact d.2
  rw[a.ne m]at l
  grind[pA,rz]
 ·obtain ⟨x,hx⟩:∃x,u.ej[v]? =some x:=by
   grind[fL]
  obtain⟨O,l,a,_⟩:=MO g e c hx;unfold tY;rw[hx,l];simp only[a.op,a.n]
 ·obtain ⟨x,hx⟩:∃x,u.ej[v]? =some x:=by
   grind[fL]
  obtain⟨O,l,a,X⟩:=MO g e c hx;unfold tY;rw[hx,l];simp only[a.op,a.n];by_cases hx1:x.op=1
  ·omega
  rw [if_neg hx1,if_neg hx1];have m:x.op=21:=by
   unfold fL hZ at d;rw[hx]at d;simp at d;omega
  have o:t∈next u2 p:=by
   rcases e.nJ p B f with Y|⟨Z,n,t',⟨y,E,F,N⟩,q4,P⟩
   ·grind[next,pN,zD]
   ·have hs:=D B.cond y E F (rU f (g.Ay p B f Z))
    simp_all[pN,if_neg,if_pos,next]
  have G:=Eu hk hp o;obtain⟨k,r⟩:∃k,At u v t k:=by
   obtain⟨k,hk⟩:=mn.1 hv;exact⟨k,T,q,hk⟩
  rw [X t k T m r G q];have H:S.fh=kr u2 kp t T.fh:=by
   rcases e.nJ t T q with Y|⟨_,n,t',_,_,P⟩
   ·grind[HP]
   ·have:=HP g e hk c G P
    grind
  have I:p∈T.fh:=by rw[g.fh t T q];exact wG.2 (O5 e o)
  obtain⟨j,J⟩:=mn.1 I;have K:T.fh.Nodup:=by rw[g.fh t T q,Wl g];exact wBV.filter _
  have z:(kr u2 kp t T.fh).Nodup:=by
   rw[<-M6 g e hk c G q];have Q:=xS w.blocks (jR kp t) (by grind[mn,WO]) _ (iZ _);rw[I2]at Q;show(jK w.blocks 0 _).Nodup;rw[Q];exact wBV.filter _
  have L:=(jo.1 J).1;have A:T.fh.getD j 0=p:=by rw[CH,J];rfl
  have M:j∈uT u2 kp t T.fh:=Lz.2 ⟨Vu.2 L,by rw[A,hp,wBd,wBZ];exact o⟩;obtain⟨i,hi⟩:=mn.1 M;have e1:(kr u2 kp t T.fh)[i]? =some (jR kp p):=by
   unfold kr;rw[zq,hi,<-A];rfl
  rw[IX K J,H,IX z e1]
  grind[pd]
end
open Dm
theorem za4{u:U} (g:Good u) {v o b k c j:Nat} {x:Vl} (hx:u.ej[v]? =some x) (y:x.op=21) (s:At u v b k) (D:At u o c j) (E:∀a∈x.args,a=v\/a=o):c≠b/\mz (next u) c b:=by
 obtain ⟨B,A,hk⟩:=id s;obtain⟨F,hlen⟩:=g.Cd v b k x B s hx y A;have r:∀n l,l.length<=n->Pt (next u) b (b::l)->c∈l:=by
  intro n
  induction n with
  | zero=>
    intro l t h;have:l=[]:=by simp_all
    subst this
    cases h with
    |nil=>omega
    |step h _=>cases h
  | succ n G=>
    intro l t h
    cases h with
    |nil=>omega
    | step h e=>
      rename_i p;have hp:p∈B.fh:=by rw[g.fh b B A];exact wG.2 e
      obtain⟨i,hi⟩:=mn.1 hp;have H:=(jo.1 hi).1;have I:=gN (show i<x.args.length by omega);have hs:=g.AU v b k x B s hx y A i _ p I hi;obtain⟨d,m,z,C⟩:=hs;rcases E _ (zI _:x.args[i]∈x.args)with q|q
      ·rw[q]at z
       obtain⟨rfl,_⟩:=g.Ao _ _ _ _ _ z s;obtain⟨w,K,L⟩:=Pt.suffix h (C l h)
       grind
      ·rw[q]at z
       obtain⟨rfl,_⟩:=g.Ao _ _ _ _ _ z D;exact C l h
 have f:∀{l},Pt (next u) b l->∃w,l=b::w:=λh=>by
  cases h
  ·omega
  simp_all
 have J:mz (next u) c b:=λl t=>by
  obtain⟨w,rfl⟩:=f t;exact wBT _ (r _ w (iZ _) t)
 refine ⟨λq=>?_,J⟩;subst q;have no:∀n l,l.length<=n->¬Pt (next u) c (c::l):=by
  intro n
  induction n with
  | zero=>
    intro l t h;have:=r _ l (iZ _) h
    simp_all
  | succ n G=>
    intro l t h;have M:=r _ l (iZ _) h
    cases h with
    |nil=>omega
    | step h e=>
      grind[Pt.suffix,VS]
 obtain⟨l,t⟩:=g.reach c (by grind);obtain⟨w,rfl⟩:=f t;exact no _ w (iZ _) t
structure Vb (u:U) (as:Nat->Int):Prop where
 out:∀v,u.ej.length<=v->as v = -1
 root:∀v r:Nat,as v=(r:Int)->as r=(r:Int)
 cas:∀(v:Nat) (x:Vl),u.ej[v]? =some x->as v=(v:Int)\/(as v = -1/\x.op=22/\∃n,Kw u x.a n/\n≠0)\/(x.op=21/\∃r:Nat,as v=(r:Int)/\r≠v/\r∈x.args/\∀a∈x.args,a=v\/a=r)
structure UK (u:U) (kp:Nat->Bool) (as qW:Nat->Int):Prop where
 gone:∀(v b k:Nat),At u v b k->kp b=false->qW v = -1
 same:∀(v:Nat),(¬∃b k,At u v b k/\kp b=false)->qW v=as v
section
variable{u u2 w:U}{kp:Nat->Bool}(g:Good u)(e:MD u u2)(hk:∀b,kp b=true↔∃l,Pt (next u2) b l)(c:Cut u2 kp w){as qW:Nat->Int}(F:Vb u as)(Gn:UK u kp as qW)
include g F Gn
omit F in
theorem Kv {v b k:Nat} (AE:At u v b k) (hb:kp b=true):qW v=as v:=Gn.same v λ⟨b',k',h1,h2⟩=>by
 obtain⟨rfl,_⟩:=g.Ao _ _ _ _ _ AE h1
 simp_all
theorem OL{v:Nat} (h:0<=qW v):qW v=as v/\∃b k,At u v b k/\kp b=true:=by
 by_cases hv:v<u.ej.length
 ·obtain ⟨b,k,a⟩:=g.B6 v hv trivial
  cases hb:kp b with
  |true=>grind[Kv]
  | false=>
    have:=Gn.gone v b k a hb;omega
 ·have c:qW v=as v:=Gn.same v λ⟨b,k,c,_⟩=>hv (g.iM _ _ _ c);have:=F.out v (by omega);omega
theorem Uk{v b k:Nat} (c:At u v b k) (hb:kp b=true) (a:mq u v):0<=qW v:=by
 rw[Kv g Gn c hb];obtain⟨x,hx,a⟩:=a;rcases F.cas v x hx with h|⟨_,h,_⟩|⟨_,r,h,_⟩
 ·omega
 ·rw[h]at a;cases a
 ·omega
include e hk
theorem Q7{v b k r:Nat} (c:At u v b k) (hb:kp b=true) (h:qW v=(r:Int)) (n:r≠v):∃d j,At u r d j/\kp d=true/\d≠b/\mz (next u) d b/\∃x,u.ej[v]? =some x/\x.op=21/\r∈x.args/\∀a∈x.args,a=v\/a=r:=by
 have hx:=gN (g.iM _ _ _ c);rw[Kv g Gn c hb]at h;rcases F.cas v _ hx with f|⟨f,_⟩|⟨f,r',s,_,o,i⟩
 ·omega
 ·omega
 ·obtain rfl:r=r':=by omega
  have p:mq u r:=g.use v _ hx r (by simp_all[gG,if_pos]);obtain⟨y,t,_⟩:=p;obtain⟨d,j,l⟩:=g.B6 r (by grind) trivial;obtain⟨q,m⟩:=za4 g hx f c l i;exact⟨d,j,l,Lr e hk hb m,q,m,_,hx,f,o,i⟩
include c
theorem Tg:Fit w qW:=by
 have A:=@TA u u2 w kp g e hk c;have V:=@Kc u u2 w kp g e c;have T:=@Xa u u2 w kp g e c;have pos:∀{v b k:Nat},kp b=true->mq u v->qw u v b k->0<=qW v:=λ{v b k} hb s ⟨d,j,l,hs⟩=>by
  refine Uk g F Gn l ?_ s;rcases hs with⟨rfl,_⟩|⟨_,G⟩
  ·exact hb
  ·exact Lr e hk hb G
 have y:∀{v b:Nat},kp b=true->mq u v->sP u v b->0<=qW v:=λ{v b} hb s ⟨d,j,l,hs⟩=>Uk g F Gn l (Lr e hk hb hs) s;have z:∀{v:Nat},stays qW v=true->∃b k,At u v b k/\kp b=true:=λ{v} h=>by
  unfold stays at h;rw[Bg]at h;exact(OL g F Gn (v:=v) (by omega)).2
 refine⟨λv hv h0=>?_,λv r i k h U=>?_,λv r h s=>?_,λv W hx hs a D=>?_,λv W fs hx hs Q m a D=>?_,λi C N H=>?_,λi C fs N I m a D=>?_⟩
 ·obtain⟨o,b,k,l,hb⟩:=OL g F Gn h0;obtain⟨r,L⟩:∃r:Nat,qW v=(r:Int):=⟨(qW v).toNat,by omega⟩
  refine⟨r,L,?_⟩;rw[c.len,e.ej];by_cases hne:r=v
  ·subst hne;exact⟨g.iM _ _ _ l,L⟩
  ·obtain⟨d,j,G,kd,_⟩:=Q7 g e hk F Gn l hb L hne;refine⟨g.iM _ _ _ G,?_⟩;rw[Kv g Gn G kd];exact F.root v r (by omega)
 ·obtain⟨b,hb,rfl,l⟩:=A.1 U;by_cases hne:r=v
  ·grind
  ·obtain⟨d,j,G,kd,o,H,_⟩:=Q7 g e hk F Gn l hb h hne;exact⟨_,j,by grind,.inr ⟨λq=>o (yU kd hb q),RJ g e hk c hb H⟩⟩
 ·obtain⟨o,b,k,l,hb⟩:=OL g F Gn (v:=v) (by omega);by_cases hne:r=v
  ·simp_all
  ·obtain⟨d,j,G,kd,_,_,x,hx,p,L,_⟩:=Q7 g e hk F Gn l hb h hne;exact T.2 (g.use v x hx r (by simp_all[gG,if_pos]))
 ·obtain⟨b,k,l,hb⟩:=z hs;obtain⟨x,hx,J,sp⟩:=V hx;have K:=J.gG a D;have s:=g.use v x hx a K;by_cases p:x.op=21
  ·obtain⟨B,E,_⟩:=id l;have hlen:=(g.Cd v b k x B l hx p E).2;unfold gG at D;rw[J.op,if_pos p,sp b k B p l hb E]at D;obtain⟨j,X,rfl⟩:=Kj.1 D;obtain⟨O,P⟩:=Lz.1 X;have O:=Vu.1 O;rw[vU]at P;have R:=gN O;have S:=gN (show j<x.args.length by omega);rw[CH,R]at P;rw[CH,S]at s⊢;exact y P.1 s (g.AU v b k x B l hx p E j _ _ S R)
  ·exact pos hb s (g.yo v b k x l hx p a K)
 ·obtain ⟨b,k,l,hb⟩:=z hs;obtain⟨x,hx,J,_⟩:=V hx;rw[c.eo,e.eo,J.state]at m;rw[J.op]at Q;have s:mq u a:=by
   obtain⟨f,Y,o⟩:=UE.1 D;obtain⟨_,_,H⟩:=g.st _ fs m;rcases EG.1 o with o|o
   ·grind
   ·grind
  exact pos hb s (g.Dv v b k x fs l hx Q m a D)
 ·obtain ⟨b,B,hb,E,rfl,rfl⟩:=LJ c N;obtain⟨Z,M,_,_,_,o|⟨_,n,t,_,_,rfl⟩⟩:=FL e E
  ·subst o;rcases g.fin b B M with⟨I,_⟩|⟨_,_,I⟩|⟨I,_⟩
   ·simp_all
   ·exact y hb I (g.Ay b B M H)
   simp_all
  ·cases H
 ·obtain ⟨b,B,hb,E,rfl,rfl⟩:=LJ c N;obtain⟨Z,M,_,_,_,o|⟨_,n,t,_,_,rfl⟩⟩:=FL e E
  ·subst o;rw[c.eo,e.eo]at m;have s:mq u a:=by
    obtain⟨f,Y,o⟩:=UE.1 D;obtain⟨_,_,H⟩:=g.st _ fs m;rcases EG.1 o with o|o
    ·grind
    ·grind
   exact y hb s (g.Dp b B fs M I m a D)
  ·cases I
end
open Dm
section
variable{u u2 w:U}{kp:Nat->Bool}(g:Good u)(e:MD u u2)(hk:∀b,kp b=true↔∃l,Pt (next u2) b l)(c:Cut u2 kp w){as qW:Nat->Int}(F:Vb u as)(Gn:UK u kp as qW)
include g e hk c F Gn
theorem zff{v i k r:Nat} (f:At w v i k) (h:qW v=(r:Int)) (l:r≠v):∃d j,At w r d j/\d≠i/\mz (next w) d i/\∃x,w.ej[v]? =some x/\x.op=21/\∀a∈x.args,a=v\/a=r:=by
 obtain⟨b,hb,rfl,p⟩:=(TA g e hk c).1 f;obtain⟨d,j,y,kd,z,q,x,hx,m,_,s⟩:=Q7 g e hk F Gn p hb h l;obtain⟨t,n,o,_⟩:=MO g e c hx;exact⟨_,j,(TA g e hk c).2 (by grind),by grind[yU],RJ g e hk c hb q,t,n,by rw[o.op];exact m,λa u=>s a (o.args a u)⟩
theorem ZU(locals:List Int) (gv:Int) (heap:List Int):Way w qW locals gv heap λb k s=>KI w b k s/\∀v r:Nat,qW v=(r:Int)->qw w v b k->s.of r=s.of v:=by
 have i:=O8 g e hk c (as:=qW) Gn.gone;have D:=@zff u u2 w kp g e hk c as qW F Gn;have R:∀{v:Nat} {x:Vl},w.ej[v]? =some x->x.op=21->fL w v=true:=λ{v x} hx h=>by
  unfold fL;rw[hx];show(x.op == 1 ||x.op == 21)=true
  simp_all
 have apart:∀{v r b k t j:Nat},qW v=(r:Int)->r≠v->qw w v t k->t<w.blocks.length->At w r t j->False:=λ{v r b k t j} h f ⟨P,j0,a,hc⟩ ht C=>by
  obtain⟨d,j',E,G,S,_⟩:=D a h f;obtain⟨rfl,_⟩:=i.Ao _ _ _ _ _ E C;rcases hc with⟨rfl,_⟩|⟨U,H⟩
  ·omega
  ·obtain⟨l,y⟩:=i.reach d ht;exact U (H.VY S y)
 refine⟨λB z=>⟨KI.start z,λv r h hs=>?_⟩,λb t B T s z m ht I y=>⟨by grind[KI.yD],λv r h hs=>?_⟩,λb k V x s s1 a hx hh I y J=>⟨I.1.one i a hx y J,λv r h hs=>?_⟩,by grind⟩
 ·by_cases f:r=v
  ·rw[f]
  ·obtain⟨P,j,a,hc⟩:=hs;obtain⟨_,_,_,_,_,x,hx,n,_⟩:=D a h f;obtain⟨W,K,_⟩:=id a;have L:=(i.Cd v P j x W a hx n K).1;rcases hc with⟨q,_⟩|⟨_,E⟩
   ·omega
   ·exact(L (by simpa using E _ .nil)).elim
 ·by_cases f:r=v
  ·rw[f]
  have M:=(jo.1 m).1;have C:r ∉ T.ej.takeWhile (fL w):=λX=>by
   obtain⟨k,o⟩:=mn.1 (wBA _ X);exact apart (b:=0) h f hs M ⟨T,m,o⟩
  have p:({s with steps:=s.steps+1}:Rs).val.length=w.ej.length:=y;rw[Oh i m p C];show s.of r=_;by_cases hv:v∈T.ej.takeWhile (fL w)
  ·rw[zbn i m p hv];obtain⟨k,o⟩:=mn.1 (wBA _ hv);have a:At w v t k:=⟨T,m,o⟩
   obtain⟨_,_,_,_,_,x,hx,n,Y⟩:=D a h f;have hlen:=(i.Cd v t k x T a hx n m).2;have N:t∈next w b:=by unfold next;rw[z];exact ht
   have Z:b∈T.fh:=by rw[i.fh t T m];exact wG.2 N
   unfold tY;rw[hx];simp only;rw[if_neg (by omega)]
   cases hf:T.fh.findIdx? (·== b)with
   | none=>
     grind
   | some j=>
     obtain⟨hj,G,_⟩:=wBS.1 hf;have G:T.fh[j]=b:=by simpa using G
     have Q:=gN (show j<x.args.length by omega);simp only;rw[CH,Q];show s.of r=s.of x.args[j];rcases Y _ (zI _:x.args[j]∈x.args)with q|q
     ·rw[q]
      have aa:=i.AU v t k x T a hx n m j _ _ Q (gN hj)
      grind[rU]
     ·rw[q]
  ·rw[Oh i m p hv];exact I.2 v r h (TN z m ht hs hv)
 ·by_cases f:r=v
  ·rw[f]
  have A:V<s.val.length:=by rw[y];exact by grind
  obtain⟨B,z,_⟩:=id a;have O:=(jo.1 z).1;rcases Uf a hs with rfl|⟨hz,hs⟩
  ·grind
  ·rw[Vg J hz A,Vg J (λq=>apart (b:=0) h f hs O (by rw[q];exact a)) A]
   grind
theorem Yx:vS u (gU w qW):=by
 have m:=O8 g e hk c (as:=qW) Gn.gone;refine(Step.Fs g (zdh g e hk c)).trans λlocals gv fuel zs heap=>QR m (by grind[Tg]) (ZU g e hk c F Gn locals gv heap) (λv i k p f hx hs=>?_) zs;obtain⟨b,hb,rfl,q⟩:=(TA g e hk c).1 f;obtain⟨x,h,d,_⟩:=Kc g e c hx;have r:=Kv g Gn q hb;rw[d.op,d.a];rcases F.cas v x h with t|⟨_,z,n,⟨y,A,B,C⟩,D⟩|⟨t,_⟩
 ·grind[stays]
 ·refine ⟨by omega,by omega,λ_ s E=>?_,by omega⟩;obtain⟨G,j,o,_⟩:=MO g e c A;have l:=m.yo v _ k p f hx (by rw[d.op];omega) x.a (by
   rw[<-d.a];refine yV.2 ?_ (by rw[d.op];omega);rw[d.op,z];rfl)
  rw[E.1 x.a G j (by rw[o.op];exact B) l,o.n,C];exact D
 omega
theorem X5:Good (gU w qW):=LV (O8 g e hk c (as:=qW) Gn.gone) (by grind[Tg])
end
open Dm
def mu(u:U):Nat:=u.ej.countP (λx=>x.op != 2)+u.blocks.countP (λB=>B.fin == 2)
def Unf(u:U)(v:Nat):Prop:=∀x n,u.ej[v]? =some x->¬Fv u x n
theorem Xj{u:U} {v:Nat} {x:Vl} (hx:u.ej[v]? =some x) (a:x.op≠2) (n:Int):mu (Hc u v n)<mu u:=by
 obtain ⟨hv,e⟩:=jo.1 hx;have hp:0<u.ej.countP (λx=>x.op != 2):=List.countP_pos_iff.2 ⟨x,zD hx,by simp[a]⟩;have:(u.ej.set v (W1 n)).countP (λx=>x.op != 2)=u.ej.countP (λx=>x.op != 2)-1:=by
  rw[List.countP_set hv,e];simp[a,W1]
 show(u.ej.set v (W1 n)).countP _+_<_;rw[this];unfold mu;show _+u.blocks.countP _<_;omega
structure UD (a:U->Prop) (u u':U) (c:Bool) (D:Nat->Prop):Prop where
 zz:Good u'
 Fs:vS u u'
 func:u'.func=u.func
 pc:u'.pc=u.pc
 blocks:u'.blocks=u.blocks
 eo:u'.eo=u.eo
 len:u'.ej.length=u.ej.length
 args:a u'
 ops:∀p:Nat->Prop,p 2->(∀x∈u.ej,p x.op)->∀y∈u'.ej,p y.op
 mu:mu u'<=mu u
 less:c=true->Un.mu u' < Un.mu u
 same:c=false->u' = u/\∀v,D v->Unf u v
theorem UD.start{a:U->Prop}{u:U}(g:Good u)(b:a u):UD a u u false λ_=>False:=⟨g,.refl _,rfl,rfl,rfl,rfl,rfl,b,λ_ _ h=>h,iZ _,λh=>(nomatch h),λ_=>⟨rfl,λ_ h=>h.elim⟩⟩
theorem UD.more{a:U->Prop} {u u':U} {c:Bool} {D D':Nat->Prop} (t:UD a u u' c D) (h:c=false->∀v,D' v->D v\/Unf u v):UD a u u' c D':=
 {t with same:=λhc=>⟨(t.same hc).1,λv hv=>(h hc v hv).elim ((t.same hc).2 v) id⟩ }
theorem UD.step{a:U->Prop} {u u':U} {c:Bool} {D:Nat->Prop} (t:UD a u u' c D) {v:Nat} {x:Vl} {n:Int} (hx:u'.ej[v]? =some x) (f:Fv u' x n) (d:a (Hc u' v n)) (D':Nat->Prop):UD a u (Hc u' v n) true D' where
 zz:=XL t.zz hx f.lo f.hi
 Fs:=t.Fs.trans (XH t.zz hx f)
 func:=t.func
 pc:=t.pc
 blocks:=t.blocks
 eo:=t.eo
 len:=Lj.trans t.len
 args:=d
 ops p b h y hy:=by
  rcases List.mem_or_eq_of_mem_set (show y∈u'.ej.set v (W1 n) from hy)with e|rfl
  ·exact t.ops p b h y e
  ·exact b
 mu:=Nat.le_of_lt (Ep (Xj hx (by have:=f.lo;omega) n) t.mu)
 less _:=Ep (Xj hx (by have:=f.lo;omega) n) t.mu
 same h:=nomatch h
structure Gb (u u2:U) (c:Bool) (D:Nat->Prop):Prop where
 e:MD u u2
 mu:mu u2<=mu u
 less:c=true->Un.mu u2<Un.mu u
 same:c=false->u2=u/\∀b B n,D b->u.blocks[b]? =some B->B.fin=2->¬Kw u B.cond n
def UL(B:Bk)(t:Nat):Bk:={B with fin:=1,cond:=0,next:=[t]}
theorem Gb.start(u:U):Gb u u false λ_=>False:=⟨⟨rfl,rfl,rfl,rfl,rfl,λ_ _ h=> .inl h⟩,iZ _,λh=>(nomatch h),λ_=>⟨rfl,λ_ _ _ h=>h.elim⟩⟩
theorem Gb.more{u u2:U} {c:Bool} {D D':Nat->Prop} (t:Gb u u2 c D) (h:c=false->∀b,D' b->D b\/∀B n,u.blocks[b]? =some B->B.fin=2->¬Kw u B.cond n):Gb u u2 c D':=
 {t with same:=λhc=>⟨(t.same hc).1,λb B n hb a d=>(h hc b hb).elim (λq=>(t.same hc).2 b B n q a d) λq=>q B n a d⟩ }
theorem Gb.step{u u2:U} {c:Bool} {D:Nat->Prop} (t:Gb u u2 c D) {b to:Nat} {B:Bk} {n:Int} (j:u.blocks[b]? =some B) (a:u2.blocks[b]? =some B) (d:B.fin=2) (k:Kw u B.cond n) (ht:(if n=0 then B.next[1]? else B.next[0]?)=some to) (D':Nat->Prop):Gb u {u2 with blocks:=u2.blocks.set b (UL B to)} true D':=by
 obtain ⟨g,e⟩:=jo.1 a;have l:Un.mu {u2 with blocks:=u2.blocks.set b (UL B to)} < Un.mu u2:=by
  have hp:0<u2.blocks.countP (λB=>B.fin == 2):=List.countP_pos_iff.2 ⟨B,zD a,by simp[d]⟩;have:(u2.blocks.set b (UL B to)).countP (λB=>B.fin == 2)=u2.blocks.countP (λB=>B.fin == 2)-1:=by
   rw[List.countP_set g,e];simp[d,UL]
  show _+(u2.blocks.set b (UL B to)).countP _<_;rw[this];unfold Un.mu;show u2.ej.countP _+_<_;omega
 refine⟨⟨t.e.func,t.e.pc,t.e.ej,t.e.eo,by show(u2.blocks.set _ _).length=_;rw[Lj];exact t.e.len,λi A f=>?_⟩,by have:=t.mu;omega,λ_=>by have:=t.mu;omega,λh=>(nomatch h)⟩;by_cases q:i=b
 ·subst q;rw[j]at f;cases f;exact .inr ⟨d,n,to,k,ht,MR g⟩
 ·show(u2.blocks.set b _)[i]? =_\/_/\∃_ _,_/\_/\(u2.blocks.set b _)[i]? =_;rw[I9 λz=>q z.symm];exact t.e.nJ i A f
open Dm
theorem RO{A T:List Nat} (c:A.Nodup) (hs:∀x∈A,x∈T):A.length<=T.length:=by
 have h:(A.map T.idxOf).Nodup:=by
  induction A with
  |nil=>simp
  | cons a A f=>
    rw[wBj]at c;rw[wBe,wBj];refine⟨λd=>?_,by simp_all⟩;obtain⟨b,hb,e⟩:=Kj.1 d;have:=QY (by simp_all) (by simp_all) e
    simp_all
 have:=iP T.length _ h (by grind)
 simp_all
theorem getD_map{α:Type} (l:List α) (d:α):(List.range l.length).map (λj=>l.getD j d)=l:=by
 refine wBL λj=>?_
 grind
theorem count_range{α:Type} (l:List α) (d:α) (p:α->Bool):l.countP p=((List.range l.length).filter λj=>p (l.getD j d)).length:=by
 conv=>lhs;rw[<-getD_map l d,List.countP_map]
 rw[List.countP_eq_length_filter];rfl
section
variable{u u2 w:U}{kp:Nat->Bool}(g:Good u)(e:MD u u2)(hk:∀b,kp b=true↔∃l,Pt (next u2) b l)(c:Cut u2 kp w){qW:Nat->Int}(W9:∀(v b k:Nat),At u v b k->kp b=false->qW v = -1)
include g e hk c W9
theorem zb6:mu (gU w qW)<=mu u2/\((∃v x,u.ej[v]? =some x/\x.op≠2/\stays qW v=false)->mu (gU w qW)<mu u2):=by
 have h:=O8 g e hk c W9;have d:=Cj (as:=qW) h;have hb:(gU w qW).blocks.countP (λB=>B.fin == 2)<=u2.blocks.countP λB=>B.fin == 2:=by
  show(w.blocks.map (mP w qW)).countP _<=_;rw[List.countP_map,show((λB:Bk=>B.fin == 2) ∘ mP w qW)=λB=>B.fin == 2 from rfl,c.blocks,List.countP_map,count_range u2.blocks Py,List.countP_eq_length_filter];unfold mc;rw[List.filter_filter];refine RO (wBV.filter _) λx hx=>?_;obtain⟨i,b⟩:=Lz.1 hx;rw[vU]at b;exact Lz.2 ⟨i,b.1⟩
 have hv:(gU w qW).ej.countP (λx=>x.op != 2)=((fM w qW).filter λn=>(w.ej.getD n ⟨0,0,0,0,[],0⟩).op != 2).length:=by
  show((fM w qW).map _).countP _=_;rw[List.countP_map,List.countP_eq_length_filter];rfl
 have a:∀n∈(fM w qW).filter (λn=>(w.ej.getD n ⟨0,0,0,0,[],0⟩).op != 2),n∈(List.range u2.ej.length).filter λj=>(u2.ej.getD j ⟨0,0,0,0,[],0⟩).op != 2:=λn f=>by
  obtain⟨i,b⟩:=Lz.1 f;have k:=((jd h).1 i).1;obtain⟨x,hx,m,_⟩:=Kc g e c (gN k);refine Lz.2 ⟨Vu.2 (by rw[<-c.len];exact k),?_⟩;rw[CH,gN k,Option.getD_some,m.op]at b;rw[e.ej,CH,hx];exact b
 have hc:=count_range u2.ej ⟨0,0,0,0,[],0⟩ λx=>x.op != 2;unfold mu;rw[hv];refine⟨by have:=RO (d.filter _) a;omega,λ⟨v,x,hx,b,hs⟩=>?_⟩;have l:=(jo.1 hx).1;have o:v∈(List.range u2.ej.length).filter λj=>(u2.ej.getD j ⟨0,0,0,0,[],0⟩).op != 2:=by
  refine Lz.2 ⟨Vu.2 (by rw[e.ej];exact l),?_⟩;rw[e.ej,CH,hx];simp[b]
 have:=RO (A:=v::(fM w qW).filter λn=>(w.ej.getD n ⟨0,0,0,0,[],0⟩).op != 2) (by
  rw[wBj];refine⟨λq=>?_,d.filter _⟩;have:=((jd h).1 (Lz.1 q).1).2
  simp_all) λn f=>by
   rcases Ki.1 f with rfl|f
   ·exact o
   ·exact a n f
 grind
end
