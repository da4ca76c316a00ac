/- Parts. -/
import Derived.Test.YtpfjdlicdljhaaaDoorM33
set_option maxHeartbeats 4000000
namespace Go.Proofs.YtpfjdlicdljhaaaDoor.Un
open Dm
section
variable{u:U}{P:Nat->Prop}(g:Gd u P)
theorem XV{t v j:Nat} {T:Bk} (d:u.blocks[t]? =some T) (a:At u v t j) (f:j<(T.ef.takeWhile (fY u)).length):fY u v=true:=by
 obtain⟨g,b,c⟩:=a;rw[d]at b;cases b;have e:=wA0 (p:=fY u) (l:=T.ef);rw[<-e,TA f]at c;exact HT (AI c)
include g
theorem KQ{t v:Nat} {T:Bk} {xI:Option Nat} {s:Rs} {locals:List Int} (a:u.blocks[t]? =some T) (b:s.val.length=u.ef.length) (c:v ∉ T.ef.takeWhile (fY u)):(nK u locals xI T s).of v=s.of v:=by
 show (BM s.val _).getD v 0=_;rw[yR _ _ λw d=>by
  obtain⟨k,hk⟩:=mm.1 (Z7 _ d);rw[b];exact g.jA w t k ⟨T,a,hk⟩,if_neg c]
 rfl
theorem X3{t v:Nat} {T:Bk} {xI:Option Nat} {s:Rs} {locals:List Int} (a:u.blocks[t]? =some T) (b:s.val.length=u.ef.length) (c:v∈T.ef.takeWhile (fY u)):(nK u locals xI T s).of v=uh u locals xI T s.of v:=by
 show (BM s.val _).getD v 0=_;rw[yR _ _ λw d=>by
  obtain⟨k,hk⟩:=mm.1 (Z7 _ d);rw[b];exact g.jA w t k ⟨T,a,hk⟩,if_pos c]
omit g in
theorem OH {b t v:Nat} {B T:Bk} (hB:u.blocks[b]? =some B) (hT:u.blocks[t]? =some T) (ht:t∈B.next) (hs:zk u v t (T.ef.takeWhile (fY u)).length) (hn:v ∉ T.ef.takeWhile (fY u)):zk u v b B.ef.length:=by
 obtain⟨c,j,LU,hc⟩:=hs;rcases hc with⟨rfl,hj⟩|⟨Y7,hdm⟩
 ·obtain⟨T',h1,h2⟩:=LU
  grind[wA0,fY,TA,AI]
 ·refine su hB ⟨c,j,LU,λl hl=>?_⟩;have htn:t∈next u b:=by unfold next;rw[hB];exact ht
  have:=hdm _ (.step hl htn)
  simp_all
omit g in
theorem Rb {v:Nat} {B:Bk} (hB:u.blocks[0]? =some B) (hs:zk u v 0 (B.ef.takeWhile (fY u)).length):fY u v=true:=by
 obtain⟨c,j,LU,hc⟩:=hs;rcases hc with⟨rfl,hj⟩|⟨Y7,hdm⟩
 ·grind[XV]
 ·have:=hdm _ .nil
  simp_all
omit g in
theorem OP {b k v z:Nat} (LU:At u v b k) (h:zk u z b (k+1)):z=v\/(z≠v/\zk u z b k):=by
 obtain⟨c,j,hz,hc⟩:=h;by_cases e:z=v
 ·omega
 refine .inr ⟨e,c,j,hz,?_⟩;rcases hc with⟨rfl,hj⟩|hc
 ·refine .inl ⟨rfl,?_⟩
  grind[absurd,Option.some.inj,At,At]
 simp_all
omit g in
theorem RN {v z:Nat} {x:Vl} {s s1:Rs} {ju:Int} (ho:xO u ju v x s = .inr s1) (hz:z≠v) (hv:v<s.val.length):s1.of z=s.of z:=by
 unfold xO at ho
 repeat' split at ho
 all_goals cases ho
 all_goals first|rfl|exact(A5 hv).trans (if_neg hz)
omit g in
theorem YV {v:Nat} {x:Vl} {s s1:Rs} {ju:Int} (ho:xO u ju v x s = .inr s1):s1.val.length=s.val.length:=by
 grind[xO,KD]
def KI(u:U)(b k:Nat)(s:Rs):Prop:=∀(v:Nat) (x:Vl),u.ef[v]? =some x->x.op=2->zk u v b k->s.of v=rh x.n
omit g in
theorem Oo {v:Nat} {x:Vl} (hx:u.ef[v]? =some x) (h2:x.op=2):fY u v=false:=by
 unfold fY;rw[hx];show(x.op == 1 ||x.op == 21)=false
 simp_all
omit g in
theorem KI.start {B:Bk} {s:Rs} (hB:u.blocks[0]? =some B):KI u 0 (B.ef.takeWhile (fY u)).length s:=λv x hx h2 hs=>by
 have:=Rb hB hs
 grind[Oo]
theorem KI.zW{b t:Nat} {B T:Bk} {s:Rs} {locals:List Int} (i:u.blocks[b]? =some B) (a:u.blocks[t]? =some T) (j:t∈B.next) (h:KI u b B.ef.length s) (c:s.val.length=u.ef.length):KI u t (T.ef.takeWhile (fY u)).length (nK u locals (some b) T {s with steps:=s.steps+1}):=λv x d e hs=>by
 have f:v ∉ T.ef.takeWhile (fY u):=by grind[HT,Oo]
 rw[KQ g a (by exact c) f];exact h v x d e (by grind[OH])
theorem KI.one{b k v:Nat} {x:Vl} {s e:Rs} {ju:Int} (a:At u v b k) (f:u.ef[v]? =some x) (h:KI u b k s) (l:s.val.length=u.ef.length) (c:xO u ju v x s = .inr e):KI u b (k+1) e:=λz y d i hs=>by
 have m:=g.jA _ _ _ a;rcases OP a hs with rfl|⟨j,hs⟩
 ·rw[f]at d;cases d;unfold xO at c;rw[if_neg (by omega),if_neg (by omega),if_neg (by omega),if_neg (by omega)]at c;cases c;refine(A5 (by omega)).trans ((if_pos rfl).trans ?_)
  simp_all[OF,if_pos]
 ·rw[RN c j (by omega)];exact h z y d i hs
theorem UI{b:Nat} {B:Bk} (a:u.blocks[b]? =some B) (d:B.fin≠3) (s:Rs):∃t,sO B s=some t:=by
 unfold sO;rcases g.fin b B a with⟨h,c⟩|⟨h,c,_⟩|⟨h,_⟩
 ·simp_all
 ·rw[if_neg (by omega),if_pos h];split <;> exact by simp_all
 omega
end
structure Step (u u':U) (β:Nat->Nat) (R:Nat->Prop):Prop where
 st:u'.eh=u.eh
 b0:β 0=0
 r0:R 0
 len:u'.ef.length=u.ef.length
 mh:∀(b:Nat) (B:Bk),u.blocks[b]? =some B->R b->∃a,u'.blocks[β b]? =some a/\a.ef=B.ef/\(B.fin=3->a.fin=3/\a.state=B.state)/\(B.fin≠3->a.fin≠3/\∀(s:Rs) (t:Nat),KI u b B.ef.length s->sO B s=some t->R t/\sO a s=some (β t))
 head:∀v,fY u' v=fY u v
 one:∀(v b k:Nat) (x:Vl),At u v b k->u.ef[v]? =some x->fY u v=false->∃c,u'.ef[v]? =some c/\∀ju s,KI u b k s->xO u' ju v c s=xO u ju v x s
 par:∀(B a:Bk) (locals:List Int) (val:Nat->Int) (v:Nat),u.blocks[0]? =some B->u'.blocks[0]? =some a->v∈B.ef->fY u v=true->uh u' locals none a val v=uh u locals none B val v
 By:∀(p t:Nat) (B T d:Bk) (s:Rs) (locals:List Int) (val:Nat->Int) (v:Nat),u.blocks[p]? =some B->R p->KI u p B.ef.length s->sO B s=some t->u.blocks[t]? =some T->u'.blocks[β t]? =some d->v∈T.ef->fY u v=true->uh u' locals (some (β p)) d val v=uh u locals (some p) T val v
section
variable{u u':U}{P:Nat->Prop}(g:Gd u P){β:Nat->Nat}{R:Nat->Prop}(S:Step u u' β R){locals:List Int}{ju:Int}{heap:List Int}{fuel:Nat}
include S
theorem Qz(s:Rs) (st:Nat):Ay u' s st=Ay u s st:=by
 unfold Ay;rw[S.st]
include g
theorem Mv{b:Nat} {B:Bk} (o:u.blocks[b]? =some B):∀(l:List Nat) (k:Nat) (s:Rs),B.ef.drop k=l->(∀v∈l,fY u v=false)->KI u b k s->s.val.length=u.ef.length->
  Ct u' ju fuel l s=Ct u ju fuel l s/\∀d,Ct u ju fuel l s = .inr d->KI u b B.ef.length d/\d.val.length=u.ef.length
 | [],k,s,hd,_,hI,hl=>⟨rfl,λd h=>by
   cases h;refine⟨λv x f p hs=>hI v x f p ?_,hl⟩;obtain⟨c,j,a,hc⟩:=hs;refine⟨c,j,a,hc.imp (λ⟨e,t⟩=>⟨e,?_⟩) id⟩
   grind[List.drop_eq_nil_iff]⟩
 | v ::l,k,s,hd,hh,hI,hl=>by
   have hk:k<B.ef.length:=by
     have:=congrArg List.length hd;rw[wBz,M0]at this;omega
   rw[V9 hk]at hd;obtain⟨q,i⟩:=List.cons.inj hd;have a:At u v b k:=⟨B,o,by rw[<-q];exact ig hk⟩
   have m:=g.jA _ _ _ a;have f:=ig m;generalize u.ef[v]=x at f;obtain⟨w,n,r⟩:=S.one v b k x a f (by simp_all);unfold Ct;rw[f,n];simp only[r ju s hI];by_cases hf:fuel<=s.steps
   ·simp_all
   simp only[if_neg hf]
   cases hq:xO u ju v x s with
   |inl e=>simp_all
   |inr d=>exact Mv o l (k+1) d i (by simp_all) (hI.one g a f hl hq) ((YV hq).trans hl)
theorem Pg:∀(LH:Nat) (xI:Option Nat) (b:Nat) (B:Bk) (s:Rs),u.blocks[b]? =some B->R b->s.val.length=u.ef.length->
  ((xI=none/\b=0)\/∃(p:Nat) (P:Bk) (i:Rs),xI=some p/\u.blocks[p]? =some P/\R p/\KI u p P.ef.length i/\i.val.length=u.ef.length/\sO P i=some b/\s = {i with steps:=i.steps+1})->
  runM u' locals ju fuel LH (xI.map β) (β b) s=runM u locals ju fuel LH xI b s
 |0,_,_,_,_,_,_,_,_=>rfl
 | LH+1,xI,b,B,s,hB,hR,hl,he=>by
   obtain ⟨j,h,E,I,J⟩:=S.mh b B hB hR;have k:fY u' = fY u:=funext S.head;have N:∀v∈B.ef,fY u v=true->uh u' locals (xI.map β) j s.of v=uh u locals xI B s.of v:=λv F G=>by
     rcases he with⟨rfl,rfl⟩|⟨p,Q,i,rfl,H,m,n,_,c,rfl⟩
     ·rw[S.b0]at h
      exact S.par B j locals _ v hB h F G
     ·exact S.By p b Q B j i locals _ v H m n c hB h F G
   have K:nK u' locals (xI.map β) j s=nK u locals xI B s:=by
     unfold nK;rw[k,E]
     have:(B.ef.takeWhile (fY u)).map (λv=>(v,uh u' locals (xI.map β) j s.of v))=(B.ef.takeWhile (fY u)).map λv=>(v,uh u locals xI B s.of v):=
       by grind[UL,Z7,HT]
     simp only[this]
   have q:KI u b (B.ef.takeWhile (fY u)).length (nK u locals xI B s):=by
     rcases he with⟨rfl,rfl⟩|⟨p,Q,i,rfl,H,m,n,L,c,rfl⟩
     ·exact KI.start hB
     ·grind[KI.zW,sO,AI]
   have r:(nK u locals xI B s).val.length=u.ef.length:=(Gz _ _).trans hl;have w:B.ef.drop (B.ef.takeWhile (fY u)).length=B.ef.dropWhile (fY u):=by
     have e:=wA0 (p:=fY u) (l:=B.ef);generalize B.ef.takeWhile (fY u)=a at e⊢;generalize B.ef.dropWhile (fY u)=d at e⊢;rw[<-e];exact List.drop_left' rfl
   obtain⟨r1,r2⟩:=Mv g S (ju:=ju) (fuel:=fuel) hB _ _ _ w (FI g hB) q r;unfold runM;rw[hB,h];simp only;rw[k,E,K,r1]
   cases hq:Ct u ju fuel (B.ef.dropWhile (fY u)) (nK u locals xI B s)with
   |inl e=>rfl
   | inr o =>
     obtain⟨x,y⟩:=r2 o hq;simp only;by_cases hf:fuel<=o.steps
     ·simp_all
     rw[if_neg hf,if_neg hf];by_cases f:B.fin=3
     ·obtain⟨z,A⟩:=I f
      rw[if_pos f,if_pos z,A,Qz S]
     ·obtain ⟨z,A⟩:=J f
      rw[if_neg f,if_neg z]
      cases c:sO B o with
      | none=>
        obtain⟨t,M⟩:=UI g hB f o
        simp_all
      | some t=>
        obtain ⟨C,e⟩:=A o t x c;rw[e];simp only;have M:t∈B.next:=by
          unfold sO at c
          repeat' split at c
          all_goals grind
        have D:=g.nx b t (by grind[next]);exact Pg LH (some b) t _ _ (ig D) C y (by grind)
end
open Dm
theorem Ex.As.refl:∀e:Ex,e.As e
 | .Su=>trivial
 | .left ..=>⟨iZ _,rfl,rfl⟩
 | .stuck=>trivial
theorem Ex.As.trans{a b c:Ex} (h:a.As b) (h':b.As c):a.As c:=by
 cases a <;> cases b <;> cases c <;> simp_all[Ex.As];omega
def uq(u u':U):Prop:=∀(locals:List Int) (ju:Int) (fuel LH:Nat) (heap:List Int),(runM u locals ju fuel LH none 0 (vX u heap)).As (runM u' locals ju fuel LH none 0 (vX u' heap))
theorem uq.trans{a b c:U}(h:uq a b)(h':uq b c):uq a c:=λl w f g p=>(h l w f g p).trans (h' l w f g p)
theorem uq.refl(a:U):uq a a:=λ_ _ _ _ _=> .refl _
theorem Step.JB{u u':U} {P:Nat->Prop} (g:Gd u P) {β:Nat->Nat} {R:Nat->Prop} (S:Step u u' β R):uq u u':=λlocals ju fuel LH heap=>by
 have e:vX u' heap=vX u heap:=by
  unfold vX;rw[S.len]
 have:=Pg g S (locals:=locals) (ju:=ju) (fuel:=fuel) LH none 0 _ (vX u heap) (ig g.Jz) S.r0 (by simp[vX]) (by simp_all);rw[S.b0]at this;rw[e,show(none:Option Nat)=(none:Option Nat).map β from rfl,this];exact .refl _
def RO(n:Int):Vl:=⟨2,0,0,n,[],0⟩
def DY(u:U)(v:Nat)(n:Int):U:={u with ef:=u.ef.set v (RO n)}
def Kw(u:U)(v:Nat)(n:Int):Prop:=∃y,u.ef[v]? =some y/\y.op=2/\rh y.n=n
section
variable{u:U}{v:Nat}{x:Vl}{n:Int}
theorem yu(a:u.ef[v]? =some x) {w:Nat}:(DY u v n).ef[w]? =if w=v then some (RO n) else u.ef[w]?:=by
 grind[jq,DY]
theorem nf(a:u.ef[v]? =some x) {w:Nat} {y:Vl} (h:(DY u v n).ef[w]? =some y):(w=v/\y=RO n)\/(w≠v/\u.ef[w]? =some y):=by
 grind[yu]
theorem QS(a:u.ef[v]? =some x) {w:Nat} (h:mz u w):mz (DY u v n) w:=by
 obtain⟨y,b,c⟩:=h;by_cases e:w=v
 ·exact⟨RO n,by simp_all[yu,if_pos],rfl⟩
 ·exact⟨y,by rw[yu a,if_neg e];exact b,c⟩
theorem UB(g:Good u) (f:u.ef[v]? =some x) (E:3<=x.op) (A:x.op<=14):Good (DY u v n):=by
 have G:∀{w:Nat},mz u w->mz (DY u v n) w:=QS f;have p:(DY u v n).ef.length=u.ef.length:=KD
 refine
  { nv:=by rw[p];exact g.nv
    Jz:=g.Jz
    nb:=g.nb
    ns:=g.ns
    st:=λs fs hs=>?_
    CE:=λw F=>g.CE w (by omega)
    Hy:=g.Hy
    jA:=λw b k h=>by rw[p];exact g.jA w b k h
    zW:=λw z b k y t e i j C m=>?_
    par:=λw b k y e i j=>?_
    By:=λw b k y B e i j o=>?_
    op:=λw y d=>?_
    use:=λw y d=>?_
    leave:=λw y d=>?_
    putAt:=λw y d=>?_
    param:=λw y d e=>?_
    fin:=λb B o=>?_
    nx:=g.nx
    ez:=g.ez
    Aw:=g.Aw
    ET:=g.ET
    reach:=g.reach
    A6:=λw b k y e d=>?_
    AX:=λw b k y B e d=>?_
    Dx:=λw b k y fs e d=>?_
    A2:=g.A2
    De:=g.De}
 ·obtain⟨e,i,j⟩:=g.st s fs hs
  grind
 ·rcases nf f j with⟨rfl,rfl⟩|⟨_,q⟩
  ·cases m
  ·rcases nf f C with⟨rfl,rfl⟩|⟨_,D⟩
   ·have:=g.zW w z b k y x e i q f m
    grind[hY]
   ·exact g.zW w z b k y t e i q D m
 ·rcases nf f i with⟨rfl,rfl⟩|⟨_,i⟩
  ·cases j
  ·exact g.par w b k y e i j
 ·rcases nf f i with⟨rfl,rfl⟩|⟨_,i⟩
  ·cases j
  ·exact g.By w b k y B e i j o
 ·rcases nf f d with⟨rfl,rfl⟩|⟨_,d⟩
  ·exact⟨show 1<=2 by decide,show 2<=23 by decide⟩
  ·exact g.op w y d
 ·rcases nf f d with⟨rfl,rfl⟩|⟨_,d⟩
  ·exact λz l=>nomatch l
  ·exact λz l=>G (g.use w y d z l)
 ·rcases nf f d with⟨rfl,rfl⟩|⟨_,d⟩
  ·exact λh=>nomatch h
  ·exact g.leave w y d
 ·rcases nf f d with⟨rfl,rfl⟩|⟨_,d⟩
  ·exact λh=>nomatch h
  ·exact g.putAt w y d
 ·rcases nf f d with⟨rfl,rfl⟩|⟨_,d⟩
  ·cases e
  ·obtain⟨a,b,c⟩:=g.param w y d e;refine⟨a,b,λz t r i=>?_⟩;rcases nf f r with⟨rfl,rfl⟩|⟨_,r⟩
   ·cases i
   simp_all
 ·rcases g.fin b B o with h|⟨e,i,j⟩|h
  ·omega
  ·simp_all
  ·exact .inr (.inr h)
 ·rcases nf f d with⟨rfl,rfl⟩|⟨_,d⟩
  ·exact λ_ z l=>nomatch l
  ·exact g.A6 w b k y e d
 ·rcases nf f d with⟨rfl,rfl⟩|⟨_,d⟩
  ·exact λh=>nomatch h
  ·exact g.AX w b k y B e d
 ·rcases nf f d with⟨rfl,rfl⟩|⟨_,d⟩
  ·exact λh=>nomatch h
  ·exact g.Dx w b k y fs e d
structure Fv (u:U) (x:Vl) (n:Int):Prop where
 lo:3<=x.op
 hi:x.op<=14
 kn:∃a b:Int,Kw u x.a a/\(¬(x.op=8\/x.op=9)->Kw u x.b b)/\rh n=AK x.op a b
theorem T0(g:Good u) (c:u.ef[v]? =some x) (f:Fv u x n):Step u (DY u v n) id λ_=>True:=by
 obtain ⟨N,A,a,b,O,C,D⟩:=f;have E:∀w,fY (DY u v n) w=fY u w:=λw=>by
  unfold fY;rw[yu c];by_cases e:w=v
  ·subst e;rw[if_pos rfl,c];show false=(x.op == 1 ||x.op == 21)
   grind
  simp_all
 have P:∀(B:Bk) (locals:List Int) (xI:Option Nat) (val:Nat->Int) (w:Nat),fY u w=true->uh (DY u v n) locals xI B val w=uh u locals xI B val w:=λB locals xI val w d=>by
  unfold uh;rw[yu c,if_neg λe=>by
   subst e;unfold fY at d;rw[c]at d;have d:(x.op == 1 ||x.op == 21)=true:=d
   grind]
 refine⟨rfl,rfl,trivial,KD,λb B o _=>⟨B,o,rfl,by omega,by simp_all⟩,E,λw b' k y l q d=>?_,λB F locals val w o i _ d=>?_,λp t B T G s locals val w _ _ _ _ Q j _ d=>?_⟩
 ·by_cases e:w=v
  ·subst e;rw[c]at q;cases q;refine⟨RO n,by rw[yu c,if_pos rfl],λju s H=>?_⟩;have I:∀z m,z∈g0 x->Kw u z m->s.of z=m:=λz m J ⟨y,K,L,M⟩=>by
    rw[<-M];exact H z y K L (g.A6 w b' k x l c (by omega) z J)
   have R:x.op=8\/x.op=9\/two x.op=true:=by unfold two;simp;omega
   have S:nP x.op=true\/two x.op=true:=by unfold two nP;simp;omega
   have eV:OF x s.of s.heap=rh n:=by
    rw[D];unfold OF;rw[if_neg (by omega),if_neg (by omega),if_neg (by omega),if_neg (by omega),if_neg (by omega)];have r:s.of x.a=a:=by grind[ED]
    by_cases h:x.op=8\/x.op=9
    ·rw[if_pos h,r]
     grind[AK]
    ·rw[if_neg h,r,I _ _ (by grind[ED]) (C h)]
   rw[show xO (DY u w n) ju w (RO n) s = .inr {s with val:=s.val.set w (rh n),steps:=s.steps+1} from rfl];unfold xO
   grind
  ·exact⟨y,by simp_all[yu,if_neg],λ_ _ _=>by rfl⟩
 ·have i:u.blocks[0]? =some F:=i
  simp_all
 ·have j:u.blocks[t]? =some G:=j
  simp_all
theorem Uu(g:Good u)(a:u.ef[v]? =some x)(f:Fv u x n):uq u (DY u v n):=(T0 g a f).JB g
end
open Dm
structure Jb (u u2:U):Prop where
 func:u2.func=u.func
 pc:u2.pc=u.pc
 ef:u2.ef=u.ef
 eh:u2.eh=u.eh
 len:u2.blocks.length=u.blocks.length
 mh:∀(b:Nat) (B:Bk),u.blocks[b]? =some B->u2.blocks[b]? =some B\/(B.fin=2/\∃(n:Int) (t:Nat),Kw u B.cond n/\(if n=0 then B.next[1]? else B.next[0]?)=some t/\u2.blocks[b]? =some {B with fin:=1,cond:=0,next:=[t]})
theorem Pt.suffix{nx:Nat->List Nat} {x:Nat}:∀{b l},Pt nx b l->x∈l->∃a,Pt nx x (x::a)/\(x::a) <:+ l
 | _,_,.nil,h=>by
   obtain rfl:x=0:=by simp_all
   exact⟨[],.nil,List.suffix_refl _⟩
 | _,_,.step (p:=p) (b:=b) (l:=l) h e,c=>by
   rcases Mc.1 c with rfl|c
   ·exact⟨l,.step h e,List.suffix_refl _⟩
   ·obtain⟨a,d,f⟩:=Pt.suffix h c
    exact⟨a,d,f.trans (List.suffix_cons _ _)⟩
section
variable{u u2 w:U}{kp:Nat->Bool}(g:Good u)(e:Jb u u2)(hk:∀b,kp b=true↔∃l,Pt (next u2) b l)(c:Cut u2 kp w)
include e
theorem Cy{b:Nat} {B:Bk} (h:u2.blocks[b]? =some B):∃A,u.blocks[b]? =some A/\B.ef=A.ef/\B.ez=A.ez/\B.state=A.state/\(B=A\/(A.fin=2/\∃(n:Int) (t:Nat),Kw u A.cond n/\(if n=0 then A.next[1]? else A.next[0]?)=some t/\B = {A with fin:=1,cond:=0,next:=[t]})):=by
 have a:=(jq.1 h).1;rw[e.len]at a;have c:=ig a;refine⟨_,c,?_⟩;rcases e.mh b _ c with d|⟨f,n,t,g,i,j⟩
 ·grind
 grind
theorem JC{v b k:Nat}:At u2 v b k↔At u v b k:=by
 constructor
 ·grind[Cy,At]
 ·rintro⟨A,c,a⟩;rcases e.mh b A c with d|⟨_,n,t,_,_,f⟩
  ·exact⟨A,d,a⟩
  ·exact⟨_,f,a⟩
theorem K9{b t:Nat} (h:t∈next u2 b):t∈next u b:=by
 unfold next at h
 split at h
 ·rename_i B a;obtain⟨A,c,_,_,_,d⟩:=Cy e a;unfold next
  grind
 ·cases h
theorem zay:∀{b l},Pt (next u2) b l->Pt (next u) b l
 |_,_,.nil=> .nil
 |_,_,.step h a=> .step (zay h) (K9 e a)
include g
theorem zcp{b:Nat} {l:List Nat} (h:Pt (next u2) b l):b<u.blocks.length:=by
 cases h with
 |nil=>exact g.Jz
 |step h a=>exact g.nx _ _ (K9 e a)
include hk
theorem So{b:Nat}(h:kp b=true):b<u.blocks.length:=let⟨_,hl⟩:=(hk b).1 h;zcp g e hl
omit g e in
theorem zar:kp 0=true:=(hk 0).2 ⟨_,.nil⟩
omit g e in
theorem Cn{b t:Nat}(h:kp b=true)(ht:t∈next u2 b):kp t=true:=let⟨_,hl⟩:=(hk b).1 h;(hk t).2 ⟨_,.step hl ht⟩
omit g in
theorem Hq {a b:Nat} (h:kp b=true) (hd:oV (next u) a b):kp a=true:=by
 obtain⟨l,hl⟩:=(hk b).1 h;obtain⟨l',h1,_⟩:=Pt.suffix hl (hd l (zay e hl))
 grind
omit g e hk in
theorem Ke {n b:Nat} (hb:b<n) (h:kp b=true):((List.range n).filter kp)[iY kp b]? =some b:=by
 have h1:(List.range n)[b]? =some b:=by simp[hb]
 have:=JY (p:=kp) h1 h;unfold iY
 grind
omit g e hk in
theorem wu {a b:Nat} (ha:kp a=true) (hb:kp b=true) (h:iY kp a=iY kp b):a=b:=by
 have h1:=Ke (n:=a+b+1) (by omega) ha
 grind[Ke,Option.some.inj]
omit g e in
theorem OO:iY kp 0=0:=by
 unfold iY;rw[if_pos (zar hk)];rfl
include c
theorem Dh{b:Nat} {B:Bk} (h:kp b=true) (a:u2.blocks[b]? =some B):w.blocks[iY kp b]? =some {B with next:=B.next.map (iY kp),ez:=jG u2 kp b B.ez}:=by
 rw[c.blocks,AJ];unfold kU;rw[e.len,Ke (So g e hk h) h]
 grind[BT]
omit g hk e in
theorem Ij {i:Nat} {C:Bk} (h:w.blocks[i]? =some C):∃b B,kp b=true/\u2.blocks[b]? =some B/\i=iY kp b/\C = {B with next:=B.next.map (iY kp),ez:=jG u2 kp b B.ez}:=by
 rw[c.blocks,AJ]at h
 cases hb:(kU u2 kp)[i]? with
 |none=>simp_all
 | some b=>
   rw[hb]at h;obtain⟨h1,h2⟩:=Ic.1 (AI hb);have h1:=Re.1 h1;refine⟨b,u2.blocks[b],h2,ig h1,?_,?_⟩
   ·exact pV (Zw.filter kp) hb (Ke h1 h2)
   grind[Option.some.inj,BT,ig]
theorem PW{v i k:Nat}:At w v i k↔∃b,kp b=true/\i=iY kp b/\At u v b k:=by
 constructor
 ·rintro⟨C,a,j⟩;obtain⟨b,B,d,f,h,rfl⟩:=Ij c a;exact⟨b,d,h,(JC e).1 ⟨B,f,j⟩⟩
 ·rintro⟨b,a,rfl,d⟩;obtain⟨B,f,h⟩:=(JC e).2 d;exact⟨_,Dh g e hk c a f,h⟩
theorem NB{b:Nat} (h:kp b=true):next w (iY kp b)=(next u2 b).map (iY kp):=by
 have a:=So g e hk h;rw[<-e.len]at a;have d:=ig a;unfold next
 rw[Dh g e hk c h d,d]
theorem zcz{b:Nat} {l:List Nat} (h:Pt (next u2) b l):Pt (next w) (iY kp b) (l.map (iY kp)):=by
 induction h with
 | nil=>
   rw[Xb,Vy,OO hk]
   exact .nil
 |step h c a=>exact .step a (by grind[NB,wBU])
theorem Wz{i:Nat} {m:List Nat} (h:Pt (next w) i m):∃b l,i=iY kp b/\m=l.map (iY kp)/\Pt (next u2) b l:=by
 induction h with
 |nil=>exact⟨0,[0],(OO hk).symm,by rw[Xb,Vy,OO hk],.nil⟩
 | step h a d=>
   obtain⟨b,l,rfl,rfl,f⟩:=d;rw[NB g e hk c (by grind)]at a;obtain⟨t,j,rfl⟩:=Jy.1 a;exact⟨t,t::l,rfl,rfl,.step f j⟩
theorem N4{a b:Nat} (d:kp b=true) (h:oV (next u) a b):oV (next w) (iY kp a) (iY kp b):=λm f=>by
 obtain⟨b',l,i,rfl,j⟩:=Wz g e hk c f;obtain rfl:=wu d (by grind) i;exact wBU (h l (zay e j))
theorem VV{v b k:Nat} (f:kp b=true) (h:zk u v b k):zk w v (iY kp b) k:=by
 obtain⟨a,j,l,d⟩:=h;rcases d with⟨rfl,d⟩|⟨d,i⟩
 ·exact⟨_,j,(PW g e hk c).2 (by grind),.inl ⟨rfl,d⟩⟩
 ·have m:=Hq e hk f i;exact⟨_,j,(PW g e hk c).2 (by grind),.inr ⟨λq=>d (wu m f q),N4 g e hk c f i⟩⟩
theorem HQ{v b:Nat} (f:kp b=true) (h:pT u v b):pT w v (iY kp b):=by
 obtain⟨a,j,d,i⟩:=h;exact⟨_,j,(PW g e hk c).2 ⟨a,Hq e hk f i,rfl,d⟩,by grind[N4]⟩
end
open Dm
structure RZ (c x:Vl):Prop where
 op:c.op=x.op
 a:c.a=x.a
 b:c.b=x.b
 n:c.n=x.n
 state:c.state=x.state
 ne:x.op≠21->c=x
 args:∀a∈c.args,a∈x.args
theorem RZ.g0{b x:Vl} (h:RZ b x):∀a∈g0 b,a∈g0 x:=by
 by_cases e:x.op=21
 ·unfold Un.g0;rw[h.op,if_pos e,if_pos e];exact h.args
 ·rw[h.ne e]
  simp_all
theorem Oz{α:Type} (ps:List Nat) (r:Nat->Bool) (f:Nat->α):((List.range ps.length).filter λj=>r (ps.getD j 0)).map (λj=>f (ps.getD j 0))=(ps.filter r).map f:=by
 have a:=congrArg (λl=>(l.filter r).map f) (KA ps 0);simp only[List.filter_map,List.map_map]at a;exact a
theorem uu(L:List Bk) (b:Nat) (h:∀B∈L,B.next.Nodup):∀n,n<=L.length->jk (L.take n) 0 b=(List.range n).filter λp=>(match L[p]? with|some B=>B.next|none=>[]).contains b
 |0,_=>rfl
 | n + 1,hn=>by
   have a:=ig (show n<L.length by omega);rw[Qh (by omega),pK,uu L b h n (by omega),VX,wB1];congr 1;have c:=h _ (BG (show n<L.length by omega));simp only[jk,GD,KN,wX,wBr (by omega)];have hs:(match L[n]? with|some B=>B.next|none=>[])=L[n].next:=by rw[a]
   rw[wBy,List.filter_nil,hs];generalize L[n].next=l at c;have e:l.filter (λx=>decide (x=b))=if b∈l then[b] else[]:=by
     clear a hs
     induction l with
     |nil=>simp
     | cons t l d=>
       grind
   grind
section
variable{u u2 w:U}{kp:Nat->Bool}(g:Good u)(e:Jb u u2)(hk:∀b,kp b=true↔∃l,Pt (next u2) b l)(c:Cut u2 kp w)
include g
theorem SJ{b:Nat} {B:Bk} (a:u.blocks[b]? =some B):B.next.Nodup:=by
 rcases g.fin b B a with⟨h,c⟩|⟨h,c,_⟩|⟨h,c,_⟩
 ·grind
 ·have hc:=g.ET b B a h
  match hq:B.next,c with
  | [s,t],_=>
    rw[Y2];refine⟨λf=>?_,by simp⟩;obtain rfl:s=t:=by simp_all
    have d:=hc s (by rw[hq];simp);have e:=(jq.1 a).1;unfold ahead at d;rw[<-WN b u.blocks,V9 e,pK,I9]at d
    grind[jk,Option.some.inj,ig]
 simp_all
theorem Tn(b:Nat):ahead u b=(List.range u.blocks.length).filter λp=>(next u p).contains b:=by
 have:=uu u.blocks b (by grind[mm,SJ]) _ (iZ _);rw[Js]at this;exact this
include e
theorem Xm{b:Nat} {B:Bk} (a:u2.blocks[b]? =some B):B.next.Nodup:=by
 obtain⟨A,d,_,_,_,c⟩:=Cy e a;rcases c with rfl|⟨_,n,t,_,_,rfl⟩
 ·grind[SJ]
 ·simp
include hk c
theorem SO{i:Nat} {C:Bk} (h:w.blocks[i]? =some C):C.next.Nodup:=by
 obtain⟨b,B,d,f,rfl,rfl⟩:=Ij c h;have a:=Xm g e f;have j:∀t∈B.next,kp t=true:=λt n=>Cn hk d (by grind[next]);show(B.next.map (iY kp)).Nodup;generalize B.next=l at a j
 induction l with
 |nil=>simp
 | cons t l o=>
   rw[Y2]at a;rw[Xb,Y2];refine⟨λk=>?_,by simp_all⟩;obtain⟨s,p,m⟩:=Jy.1 k;obtain rfl:=wu (by simp_all) (by simp_all) m
   simp_all
omit g hk in
theorem Nz:List.range w.blocks.length=((List.range u.blocks.length).filter kp).map (iY kp):=by
 have hl:w.blocks.length=((List.range u.blocks.length).filter kp).length:=by
  rw[c.blocks,BW];unfold kU;rw[e.len]
 refine YI λi=>?_;rw[AJ,hl]
 cases hb:((List.range u.blocks.length).filter kp)[i]? with
 | none=>
   simp_all
 | some b=>
   have hi:=(jq.1 hb).1;obtain⟨h1,h2⟩:=Ic.1 (AI hb);have:=pV (Zw.filter kp) hb (Ke (Re.1 h1) h2)
   simp_all
theorem J0{b:Nat} {B:Bk} (h:kp b=true) (d:u.blocks[b]? =some B):ahead w (iY kp b)=jG u2 kp b B.ez:=by
 have a:=uu w.blocks (iY kp b) (by grind[mm,SO]) _ (iZ _);rw[Js]at a;show jk w.blocks 0 _=_;rw[a,Nz e c];have f:=Oz B.ez (λp=>kp p&&(next u2 p).contains b) (iY kp);show _=((List.range B.ez.length).filter _).map _;rw[f,g.ez b B d,Tn g,List.filter_map,List.filter_filter,List.filter_filter];congr 1;refine List.filter_congr λp k=>?_
 cases hkp:kp p with
 |false=>simp
 | true=>
   show((next w (iY kp p)).contains (iY kp b)&&true)=_;rw[NB g e hk c hkp,Rc];simp only[Bool.and_true,Yq,ve,wBP,Jy];constructor
   ·rintro⟨t,i,j⟩
    obtain rfl:=wu (Cn hk hkp i) h j
    grind[K9]
   grind
omit hk in
theorem I2 {v:Nat} {x:Vl} (hx:u.ef[v]? =some x):∃x',w.ef[v]? =some x'/\RZ x' x/\∀(b k:Nat) (B:Bk),x.op=21->At u v b k->kp b=true->u.blocks[b]? =some B->x'.args=mS u2 kp b B.ez x.args:=by
 have hx2:u2.ef[v]? =some x:=by rw[e.ef];exact hx
 by_cases h:x.op=21/\∃b k,At u2 v b k/\kp b=true
 ·obtain ⟨h1,b,k,h2,h3⟩:=h;obtain⟨B,hB,hv⟩:=id h2;obtain⟨A,hA,_,hp,_⟩:=Cy e hB;refine⟨_,c.By v b k x B h2 hx2 h1 h3 hB,⟨rfl,rfl,rfl,rfl,rfl,by omega,λa ha=>?_⟩,λb' k' B' _ Ys _ hB'=>?_⟩
  ·obtain⟨j,hj,rfl⟩:=Jy.1 ha;have hj:=Re.1 (Ic.1 hj).1;have hlen:=(g.By v b k x A ((JC e).1 h2) hx h1 hA).2
   simp_all
  ·obtain⟨rfl,_⟩:=g.Hy _ _ _ _ _ Ys ((JC e).1 h2)
   simp_all
 ·refine⟨x,c.same v x hx2 h,⟨rfl,rfl,rfl,rfl,rfl,λ_=>rfl,λ_ h=>h⟩,λb k B h1 h2 h3 _=>?_⟩;exact(h ⟨h1,b,k,(JC e).2 h2,h3⟩).elim
omit hk in
theorem FX {v:Nat} {x':Vl} (hx:w.ef[v]? =some x'):∃x,u.ef[v]? =some x/\RZ x' x/\∀(b k:Nat) (B:Bk),x.op=21->At u v b k->kp b=true->u.blocks[b]? =some B->x'.args=mS u2 kp b B.ez x.args:=by
 have hl:=(jq.1 hx).1;rw[c.len,e.ef]at hl
 grind[ig,I2]
omit hk in
theorem Sr {v:Nat}:mz w v↔mz u v:=by
 constructor
 ·rintro⟨x',h1,h2⟩;obtain⟨x,h3,h4,_⟩:=FX g e c h1;exact⟨x,h3,by rw[<-h4.op];exact h2⟩
 ·rintro⟨x,h1,h2⟩;obtain⟨x',h3,h4,_⟩:=I2 g e c h1;exact⟨x',h3,by rw[h4.op];exact h2⟩
theorem Kj{as:Nat->Int} (SA:∀(v b k:Nat),At u v b k->kp b=false->as v = -1):Gd w λv=>stays as v=true:=by
 have S:w.ef.length=u.ef.length:=by rw[c.len,e.ef]
 have I:w.eh=u.eh:=by rw[c.eh,e.eh]
 have ak:w.blocks.length<=u.blocks.length:=by
  have:=congrArg List.length (Nz e c);rw[QV,BW]at this;have:=U9 kp (List.range u.blocks.length);rw[QV]at this;omega
 have h0:iY kp 0=0:=OO hk;have k0:=zar hk;have V:=@FX u u2 w kp g e c;have A:=@PW u u2 w kp g e hk c;have G:=@Sr u u2 w kp g e c;have vb:∀{i:Nat} {C:Bk},w.blocks[i]? =some C->∃b B,kp b=true/\u.blocks[b]? =some B/\i=iY kp b/\C.ef=B.ef/\C.ez=jG u2 kp b B.ez/\C.state=B.state/\((C.fin=B.fin/\C.cond=B.cond/\C.next=B.next.map (iY kp)/\next u2 b=B.next)\/(C.fin=1/\C.next.length=1)):=λ{i C} h=>by
  obtain⟨b,B,F,K,r,rfl⟩:=Ij c h;obtain⟨P,T,h5,h6,h7,h8⟩:=Cy e K;refine⟨b,P,F,T,r,h5,by rw[<-h6],h7,?_⟩;rcases h8 with rfl|⟨_,n,t,_,_,rfl⟩
  ·exact .inl ⟨rfl,rfl,rfl,by grind[next]⟩
  simp_all
 refine
  { nv:=by rw[S];exact g.nv
    Jz:=?_
    nb:=by have:=g.nb;omega
    ns:=by rw[I];exact g.ns
    st:=λs fs hs=>?_
    CE:=λv hv hP=>?_
    Hy:=λv b k b' k' h h'=>?_
    jA:=λv b k h=>?_
    zW:=λv z b k x y F K D hy hh=>?_
    par:=λv b k x F D K=>?_
    By:=λv b k x B F D K H=>?_
    op:=λv x D=>?_
    use:=λv x D z U=>?_
    leave:=λv x D L=>?_
    putAt:=λv x D ac=>?_
    param:=λv x D F=>?_
    fin:=λb C J=>?_
    nx:=λb t W=>?_
    ez:=λb C J=>?_
    Aw:=?_
    ET:=λb C J K t W=>?_
    reach:=λb hb=>?_
    A6:=λv b k x F D E z U=>?_
    AX:=λv b k x C F D E J j z p Q X=>?_
    Dx:=λv b k x fs F D L M z U=>?_
    A2:=λb C J K=>?_
    De:=λb C fs J r M z U=>?_}
 ·have L:=g.Jz;rw[<-e.len]at L;have:=(jq.1 (Dh g e hk c k0 (ig (show 0<u2.blocks.length from L)))).1;omega
 ·rw[I]at hs;obtain⟨F,K,r⟩:=g.st s fs hs
  grind
 ·rw[S]at hv;obtain⟨b,k,Z⟩:=g.CE v hv trivial;refine⟨iY kp b,k,A.2 ⟨b,?_,rfl,Z⟩⟩
  cases hb:kp b with
  |true=>rfl
  | false=>
    have:=SA v b k Z hb
    simp_all[stays,IB]
 ·obtain⟨a,F,rfl,r⟩:=A.1 h;obtain⟨a',al,rfl,ae⟩:=A.1 h';obtain⟨rfl,rfl⟩:=g.Hy _ _ _ _ _ r ae;omega
 ·rw[S];obtain⟨a,_,_,r⟩:=A.1 h;exact g.jA _ _ _ r
 ·obtain⟨a,o,rfl,r⟩:=A.1 F;obtain⟨a',ag,T,h5⟩:=A.1 K;obtain rfl:=wu o ag T;obtain⟨f,d,m,_⟩:=V D;obtain⟨y0,Y,sy,_⟩:=V hy;rw[sy.op];exact g.zW v z a k f y0 r h5 d Y (by rw[<-m.op];exact hh)
 ·obtain⟨a,o,rfl,r⟩:=A.1 F;obtain⟨f,d,m,_⟩:=V D;rw[g.par v a k f r d (by rw[<-m.op];exact K)];exact h0
 ·obtain⟨a,o,rfl,r⟩:=A.1 F;obtain⟨f,d,m,sp⟩:=V D;obtain⟨a',P,k2,N,T,_,aa,_⟩:=vb H;obtain rfl:=wu o k2 T;have E:f.op=21:=by rw[<-m.op];exact K
  refine⟨λq=>(g.By v a k f P r d E N).1 (by grind[wu]),?_⟩
  grind[mS,jG,BW]
 ·obtain⟨f,d,m,_⟩:=V D;rw[m.op];exact g.op v f d
 ·obtain⟨f,d,m,_⟩:=V D;exact G.2 (g.use v f d z (m.g0 z U))
 ·obtain⟨f,d,m,_⟩:=V D;rw[I,m.state];exact g.leave v f d (by rw[<-m.op];exact L)
 ·obtain⟨f,d,m,_⟩:=V D;have ab:f.op=20:=by rw[<-m.op];exact ac
  rw[m.ne (by omega)];exact g.putAt v f d ab
 ·obtain⟨f,d,m,_⟩:=V D;obtain⟨q1,q2,q3⟩:=g.param v f d (by rw[<-m.op];exact F);rw[m.n];refine⟨q1,q2,λz y hy ah ai=>?_⟩;obtain⟨y0,Y,sy,_⟩:=V hy;exact q3 z y0 Y (by rw[<-sy.op];exact ah) (by rw[<-sy.n];exact ai)
 ·obtain ⟨b0,B,o,H,_,_,_,q3,⟨O,q5,q6,_⟩|O⟩:=vb J
  ·rw[O,q5,q6,q3,I];rcases g.fin b0 B H with⟨r1,r2⟩|⟨r1,r2,r3⟩|⟨r1,r2,r3⟩
   ·simp_all
   ·simp_all
   simp_all
  omega
 ·unfold next at W
  split at W
  ·rename_i C J;obtain⟨b0,B,o,H,_,rfl⟩:=Ij c J;obtain⟨t0,R,rfl⟩:=Jy.1 W;have kt:=Cn hk o (t:=t0) (by grind[next]);have L:=So g e hk kt;rw[<-e.len]at L;exact(jq.1 (Dh g e hk c kt (ig L))).1
  ·cases W
 ·obtain⟨b0,B,o,H,rfl,_,q2,_⟩:=vb J
  grind[J0]
 ·have H:=ig (show 0<u.blocks.length from g.Jz);have:=J0 g e hk c k0 H;rw[h0,g.ez 0 _ H,g.Aw]at this;rw[this];rfl
 ·obtain ⟨b0,B,o,H,rfl,_,_,_,⟨O,_,q6,q7⟩|⟨O,_⟩⟩:=vb J
  ·rw [q6]at W;obtain⟨t0,R,rfl⟩:=Jy.1 W;have aj:B.fin=2:=by rw[<-O];exact K
   have kt:=Cn hk o (t:=t0) (by rw[q7];exact R);have hT:=ig (So g e hk kt);have hc:=g.ET b0 B H aj t0 R;rw[<-g.ez t0 _ hT]at hc;have hw:=J0 g e hk c kt hT;have hm:iY kp b0∈ahead w (iY kp t0):=sX.2 (by rw[NB g e hk c o,q7];exact wBU R);have am:(ahead w (iY kp t0)).length<=1:=by
    rw[hw];unfold jG qw;rw[BW];refine Fe (U9 _ _) ?_;rw[QV];omega
   have:=List.length_pos_of_mem hm;omega
  ·omega
 ·obtain⟨b0,B,o,H,rfl,_⟩:=vb (ig hb);obtain⟨l,L⟩:=(hk b0).1 o;exact⟨_,zcz g e hk c L⟩
 ·obtain⟨a,o,rfl,r⟩:=A.1 F;obtain⟨f,d,m,_⟩:=V D;rw[m.op]at E;exact VV g e hk c o (g.A6 v a k f r d E z (m.g0 z U))
 ·obtain ⟨a,o,rfl,r⟩:=A.1 F;obtain⟨f,d,m,sp⟩:=V D;obtain⟨a',P,k2,N,T,_,aa,_⟩:=vb J;obtain rfl:=wu o k2 T;rw[m.op]at E;have hlen:=(g.By v a k f P r d E N).2;rw[sp a k P E r o N]at Q;rw[aa]at X;unfold mS at Q;unfold jG at X;rw[AJ]at Q X
  cases hi:(qw u2 kp a P.ez)[j]? with
  |none=>rw[hi]at Q;cases Q
  | some i=>
    rw[hi]at Q X;obtain⟨i1,i2⟩:=Ic.1 (AI hi);have i1:=Re.1 i1;rw[ve]at i2;have e1:=ig i1;have e2:=ig (show i<f.args.length by omega);rw[EN,e1]at i2;have Q:f.args[i]=z:=by
      have:f.args.getD i 0=z:=Option.some.inj Q
      rwa [EN,e2]at this
    have X:iY kp P.ez[i]=p:=by
      have:iY kp (P.ez.getD i 0)=p:=Option.some.inj X
      rwa [EN,e1]at this
    subst Q X;exact HQ g e hk c i2.1 (g.AX v a k f P r d E N i _ _ e2 e1)
 ·obtain⟨a,o,rfl,r⟩:=A.1 F;obtain⟨f,d,m,_⟩:=V D;rw[I,m.state]at M;exact VV g e hk c o (g.Dx v a k f fs r d (by rw[<-m.op];exact L) M z U)
 ·obtain⟨b0,B,o,H,rfl,_,_,_,⟨O,q5,_⟩|⟨O,_⟩⟩:=vb J
  ·rw[q5];exact HQ g e hk c o (g.A2 b0 B H (by rw[<-O];exact K))
  ·omega
 ·obtain⟨b0,B,o,H,rfl,_,_,q3,⟨O,_⟩|⟨O,_⟩⟩:=vb J
  ·rw[I,q3]at M;exact HQ g e hk c o (g.De b0 B fs H (by rw[<-O];exact r) M z U)
  ·omega
end
open Dm
theorem Fu{L:List Nat} (b:L.Nodup) {j a:Nat} (h:L[j]? =some a):L.findIdx? (·== a)=some j:=by
 obtain⟨c,d⟩:=jq.1 h;rw[List.findIdx?_eq_some_iff_getElem];refine⟨c,by simp[d],λi hi=>?_⟩;intro hc;have:L[i]=a:=by simpa using hc
 have:=pV b (ig (show i<L.length by omega)) (by simp_all:L[j]? =some L[i]);omega
section
variable{u u2 w:U}{kp:Nat->Bool}(g:Good u)(e:Jb u u2)(hk:∀b,kp b=true↔∃l,Pt (next u2) b l)(c:Cut u2 kp w)
include g e c
theorem Z9(v:Nat):fY w v=fY u v:=by
 unfold fY
 cases h:u.ef[v]? with
 | none=>
   rw[List.getElem?_eq_none_iff]at h
   rw[List.getElem?_eq_none_iff.2 (by rw[c.len,e.ef];exact h)]
 | some x=>
   obtain⟨a,b,d,_⟩:=I2 g e c h;rw[b];show hY a.op=hY x.op;rw[d.op]
include hk
theorem ZU:Step u w (iY kp) (λb=>kp b=true):=by
 have F:w.eh=u.eh:=by rw[c.eh,e.eh]
 refine⟨F,OO hk,zar hk,by rw[c.len,e.ef],λb B l E=>?_,Z9 g e c,λv b k x A d f=>?_,λB B' locals val v l X Q f=>?_,λp t B T Y s locals val v l R G hn z Z Q f=>?_⟩
 ·rcases e.mh b B l with m|⟨a,n,t,⟨y,H,I,S⟩,h4,h5⟩
  ·refine ⟨_,Dh g e hk c E m,rfl,by simp_all,λh=>⟨h,λs t _ o=>?_⟩⟩;have hm:t∈B.next:=by
    unfold sO at o
    repeat' split at o
    all_goals grind
   refine⟨Cn hk E (by grind[next]),?_⟩;unfold sO at o⊢
   grind
  ·refine⟨_,Dh g e hk c E h5,rfl,by omega,λh=>⟨by simp,λs t' G o=>?_⟩⟩;have hs:=G B.cond y H I (su l (g.A2 b B l a));unfold sO at o;rw[if_neg (by omega),if_pos a,hs,S,h4]at o;cases o;exact⟨Cn hk E (by grind[next]),rfl⟩
 ·obtain ⟨U,m,a,_⟩:=I2 g e c d;have q:x.op≠21:=by
   unfold fY hY at f;rw[d]at f;simp at f;exact f.2
  rw[a.ne q]at m
  grind[xO,Ay]
 ·obtain ⟨x,d⟩:∃x,u.ef[v]? =some x:=by
   grind[fY]
  obtain⟨U,m,a,_⟩:=I2 g e c d;unfold uh;rw[d,m];simp only[a.op,a.n]
 ·obtain ⟨x,d⟩:∃x,u.ef[v]? =some x:=by
   grind[fY]
  obtain⟨U,m,a,h3⟩:=I2 g e c d;unfold uh;rw[d,m];simp only[a.op,a.n];by_cases hx1:x.op=1
  ·omega
  rw [if_neg hx1,if_neg hx1];have q:x.op=21:=by
   unfold fY hY at f;rw[d]at f;simp at f;omega
  have r:t∈next u2 p:=by
   rcases e.mh p B l with q1|⟨q2,n,t',⟨y,H,I,S⟩,q4,V⟩
   ·grind[next,sO,AI]
   ·have hs:=G B.cond y H I (su l (g.A2 p B l q2))
    simp_all[sO,if_neg,if_pos,next]
  have J:=Cn hk R r;obtain⟨k,A⟩:∃k,At u v t k:=by
   obtain⟨k,hk⟩:=mm.1 Q;exact⟨k,T,z,hk⟩
  rw [h3 t k T q A J z];have K:Y.ez=jG u2 kp t T.ez:=by
   rcases e.mh t T z with q1|⟨_,n,t',_,_,V⟩
   ·grind[Dh]
   ·have:=Dh g e hk c J V
    grind
  have L:p∈T.ez:=by rw[g.ez t T z];exact sX.2 (K9 e r)
  obtain⟨j,M⟩:=mm.1 L;have N:T.ez.Nodup:=by rw[g.ez t T z,Tn g];exact Zw.filter _
  have C:(jG u2 kp t T.ez).Nodup:=by
   rw[<-J0 g e hk c J z];have W:=uu w.blocks (iY kp t) (by grind[mm,SO]) _ (iZ _);rw[Js]at W;show(jk w.blocks 0 _).Nodup;rw[W];exact Zw.filter _
  have O:=(jq.1 M).1;have D:T.ez.getD j 0=p:=by rw[EN,M];rfl
  have P:j∈qw u2 kp t T.ez:=Ic.2 ⟨Re.2 O,by rw[D,R,Yq,wBP];exact r⟩;obtain⟨i,hi⟩:=mm.1 P;have e1:(jG u2 kp t T.ez)[i]? =some (iY kp p):=by
   unfold jG;rw[AJ,hi,<-D];rfl
  rw[Fu N M,K,Fu C e1]
  grind[mS]
end
open Dm
theorem YX{u:U} (g:Good u) {v o b k c j:Nat} {x:Vl} (C:u.ef[v]? =some x) (y:x.op=21) (s:At u v b k) (E:At u o c j) (F:∀a∈x.args,a=v\/a=o):c≠b/\oV (next u) c b:=by
 obtain ⟨B,A,hk⟩:=id s;obtain⟨G,hlen⟩:=g.By v b k x B s C y A;have r:∀n l,l.length<=n->Pt (next u) b (b::l)->c∈l:=by
  intro n
  induction n with
  | zero=>
    intro l t h;have:l=[]:=by simp_all
    subst this
    cases h with
    |nil=>omega
    |step h _=>cases h
  | succ n H=>
    intro l t h
    cases h with
    |nil=>omega
    | step h e=>
      rename_i p;have I:p∈B.ez:=by rw[g.ez b B A];exact sX.2 e
      obtain⟨i,hi⟩:=mm.1 I;have J:=(jq.1 hi).1;have K:=ig (show i<x.args.length by omega);have hs:=g.AX v b k x B s C y A i _ p K hi;obtain⟨d,m,z,D⟩:=hs;rcases F _ (BG _:x.args[i]∈x.args)with q|q
      ·rw[q]at z
       obtain⟨rfl,_⟩:=g.Hy _ _ _ _ _ z s;obtain⟨w,M,N⟩:=Pt.suffix h (D l h)
       grind
      ·rw[q]at z
       obtain⟨rfl,_⟩:=g.Hy _ _ _ _ _ z E;exact D l h
 have f:∀{l},Pt (next u) b l->∃w,l=b::w:=λh=>by
  cases h
  ·omega
  simp_all
 have L:oV (next u) c b:=λl t=>by
  obtain⟨w,rfl⟩:=f t;exact List.mem_cons_of_mem _ (r _ w (iZ _) t)
 refine ⟨λq=>?_,L⟩;subst q;have no:∀n l,l.length<=n->¬Pt (next u) c (c::l):=by
  intro n
  induction n with
  | zero=>
    intro l t h;have:=r _ l (iZ _) h
    simp_all
  | succ n H=>
    intro l t h;have O:=r _ l (iZ _) h
    cases h with
    |nil=>omega
    | step h e=>
      grind[Pt.suffix,M0]
 obtain⟨l,t⟩:=g.reach c (by grind);obtain⟨w,rfl⟩:=f t;exact no _ w (iZ _) t
structure Rp (u:U) (as:Nat->Int):Prop where
 out:∀v,u.ef.length<=v->as v = -1
 root:∀v r:Nat,as v=(r:Int)->as r=(r:Int)
 cas:∀(v:Nat) (x:Vl),u.ef[v]? =some x->as v=(v:Int)\/(as v = -1/\x.op=22/\∃n,Kw u x.a n/\n≠0)\/(x.op=21/\∃r:Nat,as v=(r:Int)/\r≠v/\r∈x.args/\∀a∈x.args,a=v\/a=r)
structure Rg (u:U) (kp:Nat->Bool) (as Al:Nat->Int):Prop where
 gone:∀(v b k:Nat),At u v b k->kp b=false->Al v = -1
 same:∀(v:Nat),(¬∃b k,At u v b k/\kp b=false)->Al v=as v
section
variable{u u2 w:U}{kp:Nat->Bool}(g:Good u)(e:Jb u u2)(hk:∀b,kp b=true↔∃l,Pt (next u2) b l)(c:Cut u2 kp w){as Al:Nat->Int}(F:Rp u as)(Gn:Rg u kp as Al)
include g F Gn
omit F in
theorem GS {v b k:Nat} (LU:At u v b k) (hb:kp b=true):Al v=as v:=Gn.same v λ⟨b',k',h1,h2⟩=>by
 obtain⟨rfl,_⟩:=g.Hy _ _ _ _ _ LU h1
 simp_all
theorem Kr{v:Nat} (h:0<=Al v):Al v=as v/\∃b k,At u v b k/\kp b=true:=by
 by_cases hv:v<u.ef.length
 ·obtain ⟨b,k,a⟩:=g.CE v hv trivial
  cases hb:kp b with
  |true=>grind[GS]
  | false=>
    have:=Gn.gone v b k a hb;omega
 ·have c:Al v=as v:=Gn.same v λ⟨b,k,c,_⟩=>hv (g.jA _ _ _ c);have:=F.out v (by omega);omega
theorem PX{v b k:Nat} (c:At u v b k) (d:kp b=true) (a:mz u v):0<=Al v:=by
 rw[GS g Gn c d];obtain⟨x,e,a⟩:=a;rcases F.cas v x e with h|⟨_,h,_⟩|⟨_,r,h,_⟩
 ·omega
 ·rw[h]at a;cases a
 ·omega
include e hk
theorem Nw{v b k r:Nat} (c:At u v b k) (l:kp b=true) (h:Al v=(r:Int)) (p:r≠v):∃d j,At u r d j/\kp d=true/\d≠b/\oV (next u) d b/\∃x,u.ef[v]? =some x/\x.op=21/\r∈x.args/\∀a∈x.args,a=v\/a=r:=by
 have f:=ig (g.jA _ _ _ c);rw[GS g Gn c l]at h;rcases F.cas v _ f with i|⟨i,_⟩|⟨i,r',w,_,q,m⟩
 ·omega
 ·omega
 ·obtain rfl:r=r':=by omega
  have s:mz u r:=g.use v _ f r (by simp_all[g0,if_pos]);obtain⟨y,z,_⟩:=s;obtain⟨d,j,n⟩:=g.CE r (by grind) trivial;obtain⟨t,o⟩:=YX g f i c n m;exact⟨d,j,n,Hq e hk l o,t,o,_,f,i,q,m⟩
include c
theorem PN:Fit w Al:=by
 have A:=@PW u u2 w kp g e hk c;have V:=@FX u u2 w kp g e c;have W:=@Sr u u2 w kp g e c;have pos:∀{v b k:Nat},kp b=true->mz u v->zk u v b k->0<=Al v:=λ{v b k} m y ⟨d,j,l,hs⟩=>by
  refine PX g F Gn l ?_ y;rcases hs with⟨rfl,_⟩|⟨_,I⟩
  ·exact m
  ·exact Hq e hk m I
 have D:∀{v b:Nat},kp b=true->mz u v->pT u v b->0<=Al v:=λ{v b} m y ⟨d,j,l,hs⟩=>PX g F Gn l (Hq e hk m hs) y;have E:∀{v:Nat},stays Al v=true->∃b k,At u v b k/\kp b=true:=λ{v} h=>by
  unfold stays at h;rw[IB]at h;exact(Kr g F Gn (v:=v) (by omega)).2
 refine⟨λv hv h0=>?_,λv r i k h X=>?_,λv r h y=>?_,λv Y z hs a G=>?_,λv Y fs z hs S o a G=>?_,λi C P J=>?_,λi C fs P K o a G=>?_⟩
 ·obtain⟨p,b,k,l,m⟩:=Kr g F Gn h0;obtain⟨r,N⟩:∃r:Nat,Al v=(r:Int):=⟨(Al v).toNat,by omega⟩
  refine⟨r,N,?_⟩;rw[c.len,e.ef];by_cases Y7:r=v
  ·subst Y7;exact⟨g.jA _ _ _ l,N⟩
  ·obtain⟨d,j,I,kd,_⟩:=Nw g e hk F Gn l m N Y7;refine⟨g.jA _ _ _ I,?_⟩;rw[GS g Gn I kd];exact F.root v r (by omega)
 ·obtain⟨b,m,rfl,l⟩:=A.1 X;by_cases Y7:r=v
  ·grind
  ·obtain⟨d,j,I,kd,p,J,_⟩:=Nw g e hk F Gn l m h Y7;exact⟨_,j,by grind,.inr ⟨λq=>p (wu kd m q),N4 g e hk c m J⟩⟩
 ·obtain⟨p,b,k,l,m⟩:=Kr g F Gn (v:=v) (by omega);by_cases Y7:r=v
  ·simp_all
  ·obtain⟨d,j,I,kd,_,_,x,z,s,N,_⟩:=Nw g e hk F Gn l m h Y7;exact W.2 (g.use v x z r (by simp_all[g0,if_pos]))
 ·obtain⟨b,k,l,m⟩:=E hs;obtain⟨x,z,L,sp⟩:=V z;have M:=L.g0 a G;have y:=g.use v x z a M;by_cases s:x.op=21
  ·obtain⟨B,H,_⟩:=id l;have hlen:=(g.By v b k x B l z s H).2;unfold g0 at G;rw[L.op,if_pos s,sp b k B s l m H]at G;obtain⟨j,Z,rfl⟩:=Jy.1 G;obtain⟨Q,R⟩:=Ic.1 Z;have Q:=Re.1 Q;rw[ve]at R;have T:=ig Q;have U:=ig (show j<x.args.length by omega);rw[EN,T]at R;rw[EN,U]at y⊢;exact D R.1 y (g.AX v b k x B l z s H j _ _ U T)
  ·exact pos m y (g.A6 v b k x l z s a M)
 ·obtain ⟨b,k,l,m⟩:=E hs;obtain⟨x,z,L,_⟩:=V z;rw[c.eh,e.eh,L.state]at o;rw[L.op]at S;have y:mz u a:=by
   obtain⟨f,hf,p⟩:=W9.1 G;obtain⟨_,_,J⟩:=g.st _ fs o;rcases FM.1 p with p|p
   ·grind
   ·grind
  exact pos m y (g.Dx v b k x fs l z S o a G)
 ·obtain ⟨b,B,m,H,rfl,rfl⟩:=Ij c P;obtain⟨A0,O,_,_,_,p|⟨_,n,t,_,_,rfl⟩⟩:=Cy e H
  ·subst p;rcases g.fin b B O with⟨K,_⟩|⟨_,_,K⟩|⟨K,_⟩
   ·simp_all
   ·exact D m K (g.A2 b B O J)
   simp_all
  ·cases J
 ·obtain ⟨b,B,m,H,rfl,rfl⟩:=Ij c P;obtain⟨A0,O,_,_,_,p|⟨_,n,t,_,_,rfl⟩⟩:=Cy e H
  ·subst p;rw[c.eh,e.eh]at o;have y:mz u a:=by
    obtain⟨f,hf,p⟩:=W9.1 G;obtain⟨_,_,J⟩:=g.st _ fs o;rcases FM.1 p with p|p
    ·grind
    ·grind
   exact D m y (g.De b B fs O K o a G)
  ·cases K
end
open Dm
section
variable{u u2 w:U}{kp:Nat->Bool}(g:Good u)(e:Jb u u2)(hk:∀b,kp b=true↔∃l,Pt (next u2) b l)(c:Cut u2 kp w){as Al:Nat->Int}(F:Rp u as)(Gn:Rg u kp as Al)
include g e hk c F Gn
theorem zbP{v i k r:Nat} (f:At w v i k) (h:Al v=(r:Int)) (l:r≠v):∃d j,At w r d j/\d≠i/\oV (next w) d i/\∃x,w.ef[v]? =some x/\x.op=21/\∀a∈x.args,a=v\/a=r:=by
 obtain⟨b,o,rfl,q⟩:=(PW g e hk c).1 f;obtain⟨d,j,A,kd,B,s,x,t,m,_,u⟩:=Nw g e hk F Gn q o h l;obtain⟨y,n,p,_⟩:=I2 g e c t;exact⟨_,j,(PW g e hk c).2 (by grind),by grind[wu],N4 g e hk c o s,y,n,by rw[p.op];exact m,λa z=>u a (p.args a z)⟩
theorem Vh(locals:List Int) (ju:Int) (heap:List Int):Way w Al locals ju heap λb k s=>KI w b k s/\∀v r:Nat,Al v=(r:Int)->zk w v b k->s.of r=s.of v:=by
 have i:=Kj g e hk c (as:=Al) Gn.gone;have D:=@zbP u u2 w kp g e hk c as Al F Gn;have U:∀{v:Nat} {x:Vl},w.ef[v]? =some x->x.op=21->fY w v=true:=λ{v x} n h=>by
  unfold fY;rw[n];show(x.op == 1 ||x.op == 21)=true
  simp_all
 have apart:∀{v r b k t j:Nat},Al v=(r:Int)->r≠v->zk w v t k->t<w.blocks.length->At w r t j->False:=λ{v r b k t j} h f ⟨R,j0,a,hc⟩ E G=>by
  obtain⟨d,j',H,I,V,_⟩:=D a h f;obtain⟨rfl,_⟩:=i.Hy _ _ _ _ _ H G;rcases hc with⟨rfl,_⟩|⟨W,J⟩
  ·omega
  ·obtain⟨l,z⟩:=i.reach d E;exact W (J.YK V z)
 refine⟨λB A=>⟨KI.start A,λv r h hs=>?_⟩,λb t B T s A m E K z=>⟨by grind[KI.zW],λv r h hs=>?_⟩,λb k X x s s1 a n hh K z L=>⟨K.1.one i a n z L,λv r h hs=>?_⟩,by grind⟩
 ·by_cases f:r=v
  ·rw[f]
  ·obtain⟨R,j,a,hc⟩:=hs;obtain⟨_,_,_,_,_,x,n,o,_⟩:=D a h f;obtain⟨Y,M,_⟩:=id a;have N:=(i.By v R j x Y a n o M).1;rcases hc with⟨q,_⟩|⟨_,H⟩
   ·omega
   ·exact(N (by simpa using H _ .nil)).elim
 ·by_cases f:r=v
  ·rw[f]
  have O:=(jq.1 m).1;have G:r ∉ T.ef.takeWhile (fY w):=λZ=>by
   obtain⟨k,p⟩:=mm.1 (Z7 _ Z);exact apart (b:=0) h f hs O ⟨T,m,p⟩
  have y:({s with steps:=s.steps+1}:Rs).val.length=w.ef.length:=z;rw[KQ i m y G];show s.of r=_;by_cases hv:v∈T.ef.takeWhile (fY w)
  ·rw[X3 i m y hv];obtain⟨k,p⟩:=mm.1 (Z7 _ hv);have a:At w v t k:=⟨T,m,p⟩
   obtain⟨_,_,_,_,_,x,n,o,ha⟩:=D a h f;have hlen:=(i.By v t k x T a n o m).2;have P:t∈next w b:=by unfold next;rw[A];exact E
   have aa:b∈T.ez:=by rw[i.ez t T m];exact sX.2 P
   unfold uh;rw[n];simp only;rw[if_neg (by omega)]
   cases hf:T.ez.findIdx? (·== b)with
   | none=>
     grind
   | some j=>
     obtain⟨hj,I,_⟩:=List.findIdx?_eq_some_iff_getElem.1 hf;have I:T.ez[j]=b:=by simpa using I
     have S:=ig (show j<x.args.length by omega);simp only;rw[EN,S];show s.of r=s.of x.args[j];rcases ha _ (BG _:x.args[j]∈x.args)with q|q
     ·rw[q]
      have ab:=i.AX v t k x T a n o m j _ _ S (ig hj)
      grind[su]
     ·rw[q]
  ·rw[KQ i m y hv];exact K.2 v r h (OH A m E hs hv)
 ·by_cases f:r=v
  ·rw[f]
  have C:X<s.val.length:=by rw[z];exact by grind
  obtain⟨B,A,_⟩:=id a;have Q:=(jq.1 A).1;rcases OP a hs with rfl|⟨hz,hs⟩
  ·grind
  ·rw[RN L hz C,RN L (λq=>apart (b:=0) h f hs Q (by rw[q];exact a)) C]
   grind
theorem TH:uq u (gR w Al):=by
 have m:=Kj g e hk c (as:=Al) Gn.gone;refine(Step.JB g (ZU g e hk c)).trans λlocals ju fuel LH heap=>X4 m (by grind[PN]) (Vh g e hk c F Gn locals ju heap) (λv i k q f o hs=>?_) LH;obtain⟨b,r,rfl,t⟩:=(PW g e hk c).1 f;obtain⟨x,h,d,_⟩:=FX g e c o;have z:=GS g Gn t r;rw[d.op,d.a];rcases F.cas v x h with A|⟨_,B,n,⟨y,C,D,E⟩,G⟩|⟨A,_⟩
 ·grind[stays]
 ·refine ⟨by omega,by omega,λ_ s H=>?_,by omega⟩;obtain⟨I,j,p,_⟩:=I2 g e c C;have l:=m.A6 v _ k q f o (by rw[d.op];omega) x.a (by
   rw[<-d.a];refine ED.2 ?_ (by rw[d.op];omega);rw[d.op,B];rfl)
  rw[H.1 x.a I j (by rw[p.op];exact D) l,p.n,E];exact G
 omega
theorem TY:Good (gR w Al):=Uc (Kj g e hk c (as:=Al) Gn.gone) (by grind[PN])
end
open Dm
def mu(u:U):Nat:=u.ef.countP (λx=>x.op != 2)+u.blocks.countP (λB=>B.fin == 2)
def Unf(u:U)(v:Nat):Prop:=∀x n,u.ef[v]? =some x->¬Fv u x n
theorem RY{u:U} {v:Nat} {x:Vl} (a:u.ef[v]? =some x) (b:x.op≠2) (n:Int):mu (DY u v n)<mu u:=by
 obtain ⟨c,e⟩:=jq.1 a;have d:0<u.ef.countP (λx=>x.op != 2):=List.countP_pos_iff.2 ⟨x,AI a,by simp[b]⟩;have:(u.ef.set v (RO n)).countP (λx=>x.op != 2)=u.ef.countP (λx=>x.op != 2)-1:=by
  rw[List.countP_set c,e];simp[b,RO]
 show(u.ef.set v (RO n)).countP _+_<_;rw[this];unfold mu;show _+u.blocks.countP _<_;omega
structure Qj (a:U->Prop) (u u':U) (c:Bool) (D:Nat->Prop):Prop where
 B0:Good u'
 JB:uq u u'
 func:u'.func=u.func
 pc:u'.pc=u.pc
 blocks:u'.blocks=u.blocks
 eh:u'.eh=u.eh
 len:u'.ef.length=u.ef.length
 args:a u'
 ops:∀p:Nat->Prop,p 2->(∀x∈u.ef,p x.op)->∀y∈u'.ef,p y.op
 mu:mu u'<=mu u
 less:c=true->Un.mu u' < Un.mu u
 same:c=false->u' = u/\∀v,D v->Unf u v
theorem Qj.start{a:U->Prop}{u:U}(g:Good u)(b:a u):Qj a u u false λ_=>False:=⟨g,.refl _,rfl,rfl,rfl,rfl,rfl,b,λ_ _ h=>h,iZ _,λh=>(nomatch h),λ_=>⟨rfl,λ_ h=>h.elim⟩⟩
theorem Qj.more{a:U->Prop} {u u':U} {c:Bool} {D D':Nat->Prop} (t:Qj a u u' c D) (h:c=false->∀v,D' v->D v\/Unf u v):Qj a u u' c D':=
 {t with same:=λhc=>⟨(t.same hc).1,λv b=>(h hc v b).elim ((t.same hc).2 v) id⟩ }
theorem Qj.step{b:U->Prop} {u u':U} {c:Bool} {D:Nat->Prop} (t:Qj b u u' c D) {v:Nat} {x:Vl} {n:Int} (a:u'.ef[v]? =some x) (f:Fv u' x n) (e:b (DY u' v n)) (D':Nat->Prop):Qj b u (DY u' v n) true D' where
 B0:=UB t.B0 a f.lo f.hi
 JB:=t.JB.trans (Uu t.B0 a f)
 func:=t.func
 pc:=t.pc
 blocks:=t.blocks
 eh:=t.eh
 len:=KD.trans t.len
 args:=e
 ops p d h y hy:=by
  rcases List.mem_or_eq_of_mem_set (show y∈u'.ef.set v (RO n) from hy)with g|rfl
  ·exact t.ops p d h y g
  ·exact d
 mu:=Nat.le_of_lt (Cc (RY a (by have:=f.lo;omega) n) t.mu)
 less _:=Cc (RY a (by have:=f.lo;omega) n) t.mu
 same h:=nomatch h
structure C0 (u u2:U) (c:Bool) (D:Nat->Prop):Prop where
 e:Jb u u2
 mu:mu u2<=mu u
 less:c=true->Un.mu u2<Un.mu u
 same:c=false->u2=u/\∀b B n,D b->u.blocks[b]? =some B->B.fin=2->¬Kw u B.cond n
def QN(B:Bk)(t:Nat):Bk:={B with fin:=1,cond:=0,next:=[t]}
theorem C0.start(u:U):C0 u u false λ_=>False:=⟨⟨rfl,rfl,rfl,rfl,rfl,λ_ _ h=> .inl h⟩,iZ _,λh=>(nomatch h),λ_=>⟨rfl,λ_ _ _ h=>h.elim⟩⟩
theorem C0.more{u u2:U} {c:Bool} {D D':Nat->Prop} (t:C0 u u2 c D) (h:c=false->∀b,D' b->D b\/∀B n,u.blocks[b]? =some B->B.fin=2->¬Kw u B.cond n):C0 u u2 c D':=
 {t with same:=λhc=>⟨(t.same hc).1,λb B n e a d=>(h hc b e).elim (λq=>(t.same hc).2 b B n q a d) λq=>q B n a d⟩ }
theorem C0.step{u u2:U} {c:Bool} {D:Nat->Prop} (t:C0 u u2 c D) {b to:Nat} {B:Bk} {n:Int} (j:u.blocks[b]? =some B) (a:u2.blocks[b]? =some B) (d:B.fin=2) (k:Kw u B.cond n) (l:(if n=0 then B.next[1]? else B.next[0]?)=some to) (D':Nat->Prop):C0 u {u2 with blocks:=u2.blocks.set b (QN B to)} true D':=by
 obtain ⟨g,e⟩:=jq.1 a;have m:Un.mu {u2 with blocks:=u2.blocks.set b (QN B to)} < Un.mu u2:=by
  have o:0<u2.blocks.countP (λB=>B.fin == 2):=List.countP_pos_iff.2 ⟨B,AI a,by simp[d]⟩;have:(u2.blocks.set b (QN B to)).countP (λB=>B.fin == 2)=u2.blocks.countP (λB=>B.fin == 2)-1:=by
   rw[List.countP_set g,e];simp[d,QN]
  show _+(u2.blocks.set b (QN B to)).countP _<_;rw[this];unfold Un.mu;show u2.ef.countP _+_<_;omega
 refine⟨⟨t.e.func,t.e.pc,t.e.ef,t.e.eh,by show(u2.blocks.set _ _).length=_;rw[KD];exact t.e.len,λi A f=>?_⟩,by have:=t.mu;omega,λ_=>by have:=t.mu;omega,λh=>(nomatch h)⟩;by_cases q:i=b
 ·subst q;rw[j]at f;cases f;exact .inr ⟨d,n,to,k,l,MT g⟩
 ·show(u2.blocks.set b _)[i]? =_\/_/\∃_ _,_/\_/\(u2.blocks.set b _)[i]? =_;rw[HO λz=>q z.symm];exact t.e.mh i A f
open Dm
theorem N0{A T:List Nat} (c:A.Nodup) (hs:∀x∈A,x∈T):A.length<=T.length:=by
 have h:(A.map T.idxOf).Nodup:=by
  induction A with
  |nil=>simp
  | cons a A f=>
    rw[Y2]at c;rw[Xb,Y2];refine⟨λd=>?_,by simp_all⟩;obtain⟨b,g,e⟩:=Jy.1 d;have:=NR (by simp_all) (by simp_all) e
    simp_all
 have:=jD T.length _ h (by grind)
 simp_all
theorem getD_map{α:Type} (l:List α) (d:α):(List.range l.length).map (λj=>l.getD j d)=l:=by
 refine YI λj=>?_
 grind
theorem count_range{α:Type} (l:List α) (d:α) (p:α->Bool):l.countP p=((List.range l.length).filter λj=>p (l.getD j d)).length:=by
 conv=>lhs;rw[<-getD_map l d,List.countP_map]
 rw[List.countP_eq_length_filter];rfl
section
variable{u u2 w:U}{kp:Nat->Bool}(g:Good u)(e:Jb u u2)(hk:∀b,kp b=true↔∃l,Pt (next u2) b l)(c:Cut u2 kp w){Al:Nat->Int}(SA:∀(v b k:Nat),At u v b k->kp b=false->Al v = -1)
include g e hk c SA
theorem Yo:mu (gR w Al)<=mu u2/\((∃v x,u.ef[v]? =some x/\x.op≠2/\stays Al v=false)->mu (gR w Al)<mu u2):=by
 have i:=Kj g e hk c SA;have f:=z6 (as:=Al) i;have s:(gR w Al).blocks.countP (λB=>B.fin == 2)<=u2.blocks.countP λB=>B.fin == 2:=by
  show(w.blocks.map (kQ w Al)).countP _<=_;rw[List.countP_map,show((λB:Bk=>B.fin == 2) ∘ kQ w Al)=λB=>B.fin == 2 from rfl,c.blocks,List.countP_map,count_range u2.blocks L7,List.countP_eq_length_filter];unfold kU;rw[List.filter_filter];refine N0 (Zw.filter _) λx d=>?_;obtain⟨k,b⟩:=Ic.1 d;rw[ve]at b;exact Ic.2 ⟨k,b.1⟩
 have o:(gR w Al).ef.countP (λx=>x.op != 2)=((fq w Al).filter λn=>(w.ef.getD n ⟨0,0,0,0,[],0⟩).op != 2).length:=by
  show((fq w Al).map _).countP _=_;rw[List.countP_map,List.countP_eq_length_filter];rfl
 have a:∀n∈(fq w Al).filter (λn=>(w.ef.getD n ⟨0,0,0,0,[],0⟩).op != 2),n∈(List.range u2.ef.length).filter λj=>(u2.ef.getD j ⟨0,0,0,0,[],0⟩).op != 2:=λn h=>by
  obtain⟨k,b⟩:=Ic.1 h;have l:=((iC i).1 k).1;obtain⟨x,d,p,_⟩:=FX g e c (ig l);refine Ic.2 ⟨Re.2 (by rw[<-c.len];exact l),?_⟩;rw[EN,ig l,Option.getD_some,p.op]at b;rw[e.ef,EN,d];exact b
 have hc:=count_range u2.ef ⟨0,0,0,0,[],0⟩ λx=>x.op != 2;unfold mu;rw[o];refine⟨by have:=N0 (f.filter _) a;omega,λ⟨v,x,d,b,hs⟩=>?_⟩;have m:=(jq.1 d).1;have r:v∈(List.range u2.ef.length).filter λj=>(u2.ef.getD j ⟨0,0,0,0,[],0⟩).op != 2:=by
  refine Ic.2 ⟨Re.2 (by rw[e.ef];exact m),?_⟩;rw[e.ef,EN,d];simp[b]
 have:=N0 (A:=v::(fq w Al).filter λn=>(w.ef.getD n ⟨0,0,0,0,[],0⟩).op != 2) (by
  rw[Y2];refine⟨λq=>?_,f.filter _⟩;have:=((iC i).1 (Ic.1 q).1).2
  simp_all) λn h=>by
   rcases Mc.1 h with rfl|h
   ·exact r
   ·exact a n h
 grind
end
