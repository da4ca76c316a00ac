/- Parts. -/
import Derived.Test.YtpfjdlicdljhaaaDoorM33
set_option maxHeartbeats 4000000
namespace Go.Proofs.YtpfjdlicdljhaaaDoor.Un
open Dm
section
variable{u:U}{P:Nat->Prop}(g:Gd u P)
theorem SZ{t v j:Nat} {T:Bk} (d:u.blocks[t]? =some T) (a:At u v t j) (f:j<(T.cR.takeWhile (dK u)).length):dK u v=true:=by
 obtain⟨g,b,c⟩:=a;rw[d]at b;cases b;have e:=VF (p:=dK u) (l:=T.cR);rw[<-e,TN f]at c;exact Ef (zD c)
include g
theorem Ha{t v:Nat} {T:Bk} {tI:Option Nat} {s:Rs} {locals:List Int} (a:u.blocks[t]? =some T) (b:s.val.length=u.cR.length) (c:v ∉ T.cR.takeWhile (dK u)):(jR u locals tI T s).of v=s.of v:=by
 show (yJ s.val _).getD v 0=_;rw[uz _ _ λw d=>by
  obtain⟨k,hk⟩:=kh.1 (VT _ d);rw[b];exact g.gz w t k ⟨T,a,hk⟩,if_neg c]
 rfl
theorem SO{t v:Nat} {T:Bk} {tI:Option Nat} {s:Rs} {locals:List Int} (a:u.blocks[t]? =some T) (b:s.val.length=u.cR.length) (c:v∈T.cR.takeWhile (dK u)):(jR u locals tI T s).of v=qX u locals tI T s.of v:=by
 show (yJ s.val _).getD v 0=_;rw[uz _ _ λw d=>by
  obtain⟨k,hk⟩:=kh.1 (VT _ d);rw[b];exact g.gz w t k ⟨T,a,hk⟩,if_pos c]
omit g in
theorem LK {b t v:Nat} {B T:Bk} (hB:u.blocks[b]? =some B) (hT:u.blocks[t]? =some T) (ht:t∈B.next) (hs:vQ u v t (T.cR.takeWhile (dK u)).length) (hn:v ∉ T.cR.takeWhile (dK u)):vQ u v b B.cR.length:=by
 obtain⟨c,j,Hy,hc⟩:=hs;rcases hc with⟨rfl,hj⟩|⟨Uu,YJ⟩
 ·obtain⟨T',h1,h2⟩:=Hy
  grind[VF,dK,TN,zD]
 ·refine pq hB ⟨c,j,Hy,λl hl=>?_⟩;have ZN:t∈next u b:=by unfold next;rw[hB];exact ht
  have:=YJ _ (.step hl ZN)
  simp_all
omit g in
theorem Ng {v:Nat} {B:Bk} (hB:u.blocks[0]? =some B) (hs:vQ u v 0 (B.cR.takeWhile (dK u)).length):dK u v=true:=by
 obtain⟨c,j,Hy,hc⟩:=hs;rcases hc with⟨rfl,hj⟩|⟨Uu,YJ⟩
 ·grind[SZ]
 ·have:=YJ _ .nil
  simp_all
omit g in
theorem KC {b k v z:Nat} (Hy:At u v b k) (h:vQ u z b (k+1)):z=v\/(z≠v/\vQ u z b k):=by
 obtain⟨c,j,hz,hc⟩:=h;by_cases e:z=v
 ·omega
 refine .inr ⟨e,c,j,hz,?_⟩;rcases hc with⟨rfl,hj⟩|hc
 ·refine .inl ⟨rfl,?_⟩
  grind[absurd,Option.some.inj,At,At]
 simp_all
omit g in
theorem MO {v z:Nat} {x:Vl} {s s1:Rs} {gv:Int} (ho:tk u gv v x s = .inr s1) (hz:z≠v) (hv:v<s.val.length):s1.of z=s.of z:=by
 unfold tk at ho
 repeat' split at ho
 all_goals cases ho
 all_goals first|rfl|exact(uY hv).trans (if_neg hz)
omit g in
theorem TQ {v:Nat} {x:Vl} {s s1:Rs} {gv:Int} (ho:tk u gv v x s = .inr s1):s1.val.length=s.val.length:=by
 grind[tk,Hb]
def KI(u:U)(b k:Nat)(s:Rs):Prop:=∀(v:Nat) (x:Vl),u.cR[v]? =some x->x.op=2->vQ u v b k->s.of v=kK x.n
omit g in
theorem KQ {v:Nat} {x:Vl} (hx:u.cR[v]? =some x) (h2:x.op=2):dK u v=false:=by
 unfold dK;rw[hx];show(x.op == 1 ||x.op == 21)=false
 simp_all
omit g in
theorem KI.start {B:Bk} {s:Rs} (hB:u.blocks[0]? =some B):KI u 0 (B.cR.takeWhile (dK u)).length s:=λv x hx h2 hs=>by
 have:=Ng hB hs
 grind[KQ]
theorem KI.wo{b t:Nat} {B T:Bk} {s:Rs} {locals:List Int} (i:u.blocks[b]? =some B) (a:u.blocks[t]? =some T) (j:t∈B.next) (h:KI u b B.cR.length s) (c:s.val.length=u.cR.length):KI u t (T.cR.takeWhile (dK u)).length (jR u locals (some b) T {s with steps:=s.steps+1}):=λv x d e hs=>by
 have f:v ∉ T.cR.takeWhile (dK u):=by grind[Ef,KQ]
 rw[Ha g a (by exact c) f];exact h v x d e (by grind[LK])
theorem KI.one{b k v:Nat} {x:Vl} {s e:Rs} {gv:Int} (a:At u v b k) (f:u.cR[v]? =some x) (h:KI u b k s) (l:s.val.length=u.cR.length) (c:tk u gv v x s = .inr e):KI u b (k+1) e:=λz y d i hs=>by
 have m:=g.gz _ _ _ a;rcases KC a hs with rfl|⟨j,hs⟩
 ·rw[f]at d;cases d;unfold tk at c;rw[if_neg (by omega),if_neg (by omega),if_neg (by omega),if_neg (by omega)]at c;cases c;refine(uY (by omega)).trans ((if_pos rfl).trans ?_)
  simp_all[HU,if_pos]
 ·rw[MO c j (by omega)];exact h z y d i hs
theorem OM{b:Nat} {B:Bk} (a:u.blocks[b]? =some B) (d:B.fin≠3) (s:Rs):∃t,pV B s=some t:=by
 unfold pV;rcases g.fin b B a with⟨h,c⟩|⟨h,c,_⟩|⟨h,_⟩
 ·simp_all
 ·rw[if_neg (by omega),if_pos h];split <;> exact by simp_all
 omega
end
structure Step (u u':U) (β:Nat->Nat) (R:Nat->Prop):Prop where
 st:u'.cZ=u.cZ
 b0:β 0=0
 r0:R 0
 len:u'.cR.length=u.cR.length
 jB:∀(b:Nat) (B:Bk),u.blocks[b]? =some B->R b->∃a,u'.blocks[β b]? =some a/\a.cR=B.cR/\(B.fin=3->a.fin=3/\a.state=B.state)/\(B.fin≠3->a.fin≠3/\∀(s:Rs) (t:Nat),KI u b B.cR.length s->pV B s=some t->R t/\pV a s=some (β t))
 head:∀v,dK u' v=dK u v
 one:∀(v b k:Nat) (x:Vl),At u v b k->u.cR[v]? =some x->dK u v=false->∃c,u'.cR[v]? =some c/\∀gv s,KI u b k s->tk u' gv v c s=tk u gv v x s
 par:∀(B a:Bk) (locals:List Int) (val:Nat->Int) (v:Nat),u.blocks[0]? =some B->u'.blocks[0]? =some a->v∈B.cR->dK u v=true->qX u' locals none a val v=qX u locals none B val v
 xI:∀(p t:Nat) (B T d:Bk) (s:Rs) (locals:List Int) (val:Nat->Int) (v:Nat),u.blocks[p]? =some B->R p->KI u p B.cR.length s->pV B s=some t->u.blocks[t]? =some T->u'.blocks[β t]? =some d->v∈T.cR->dK u v=true->qX u' locals (some (β p)) d val v=qX u locals (some p) T val v
section
variable{u u':U}{P:Nat->Prop}(g:Gd u P){β:Nat->Nat}{R:Nat->Prop}(S:Step u u' β R){locals:List Int}{gv:Int}{heap:List Int}{fuel:Nat}
include S
theorem M5(s:Rs) (st:Nat):uH u' s st=uH u s st:=by
 unfold uH;rw[S.st]
include g
theorem Iq{b:Nat} {B:Bk} (o:u.blocks[b]? =some B):∀(l:List Nat) (k:Nat) (s:Rs),B.cR.drop k=l->(∀v∈l,dK u v=false)->KI u b k s->s.val.length=u.cR.length->
  tG u' gv fuel l s=tG u gv fuel l s/\∀d,tG u gv fuel l s = .inr d->KI u b B.cR.length d/\d.val.length=u.cR.length
 | [],k,s,hd,_,hI,hl=>⟨rfl,λd h=>by
   cases h;refine⟨λv x f p hs=>hI v x f p ?_,hl⟩;obtain⟨c,j,a,hc⟩:=hs;refine⟨c,j,a,hc.imp (λ⟨e,t⟩=>⟨e,?_⟩) id⟩
   grind[List.drop_eq_nil_iff]⟩
 | v ::l,k,s,hd,hh,hI,hl=>by
   have hk:k<B.cR.length:=by
     have:=congrArg List.length hd;rw[V6,LU]at this;omega
   rw[SE hk]at hd;obtain⟨q,i⟩:=List.cons.inj hd;have a:At u v b k:=⟨B,o,by rw[<-q];exact fg hk⟩
   have m:=g.gz _ _ _ a;have f:=fg m;generalize u.cR[v]=x at f;obtain⟨w,n,r⟩:=S.one v b k x a f (by simp_all);unfold tG;rw[f,n];simp only[r gv s hI];by_cases hf:fuel<=s.steps
   ·simp_all
   simp only[if_neg hf]
   cases hq:tk u gv v x s with
   |inl e=>simp_all
   |inr d=>exact Iq o l (k+1) d i (by simp_all) (hI.one g a f hl hq) ((TQ hq).trans hl)
theorem KG:∀(Hn:Nat) (tI:Option Nat) (b:Nat) (B:Bk) (s:Rs),u.blocks[b]? =some B->R b->s.val.length=u.cR.length->
  ((tI=none/\b=0)\/∃(p:Nat) (P:Bk) (i:Rs),tI=some p/\u.blocks[p]? =some P/\R p/\KI u p P.cR.length i/\i.val.length=u.cR.length/\pV P i=some b/\s = {i with steps:=i.steps+1})->
  runM u' locals gv fuel Hn (tI.map β) (β b) s=runM u locals gv fuel Hn tI b s
 |0,_,_,_,_,_,_,_,_=>rfl
 | Hn+1,tI,b,B,s,hB,hR,hl,he=>by
   obtain ⟨j,h,E,I,J⟩:=S.jB b B hB hR;have k:dK u' = dK u:=funext S.head;have O:∀v∈B.cR,dK u v=true->qX u' locals (tI.map β) j s.of v=qX u locals tI B s.of v:=λv F G=>by
     rcases he with⟨rfl,rfl⟩|⟨p,Q,i,rfl,H,m,n,_,c,rfl⟩
     ·rw[S.b0]at h
      exact S.par B j locals _ v hB h F G
     ·exact S.xI p b Q B j i locals _ v H m n c hB h F G
   have K:jR u' locals (tI.map β) j s=jR u locals tI B s:=by
     unfold jR;rw[k,E]
     have:(B.cR.takeWhile (dK u)).map (λv=>(v,qX u' locals (tI.map β) j s.of v))=(B.cR.takeWhile (dK u)).map λv=>(v,qX u locals tI B s.of v):=
       by grind[MU,VT,Ef]
     simp only[this]
   have q:KI u b (B.cR.takeWhile (dK u)).length (jR u locals tI B s):=by
     rcases he with⟨rfl,rfl⟩|⟨p,Q,i,rfl,H,m,n,L,c,rfl⟩
     ·exact KI.start hB
     ·grind[KI.wo,pV,zD]
   have r:(jR u locals tI B s).val.length=u.cR.length:=(Cu _ _).trans hl;have w:B.cR.drop (B.cR.takeWhile (dK u)).length=B.cR.dropWhile (dK u):=by
     have e:=VF (p:=dK u) (l:=B.cR);generalize B.cR.takeWhile (dK u)=a at e⊢;generalize B.cR.dropWhile (dK u)=d at e⊢;rw[<-e];exact List.drop_left' rfl
   obtain⟨r1,M⟩:=Iq g S (gv:=gv) (fuel:=fuel) hB _ _ _ w (B6 g hB) q r;unfold runM;rw[hB,h];simp only;rw[k,E,K,r1]
   cases hq:tG u gv fuel (B.cR.dropWhile (dK u)) (jR u locals tI B s)with
   |inl e=>rfl
   | inr o =>
     obtain⟨x,y⟩:=M o hq;simp only;by_cases hf:fuel<=o.steps
     ·simp_all
     rw[if_neg hf,if_neg hf];by_cases f:B.fin=3
     ·obtain⟨z,A⟩:=I f
      rw[if_pos f,if_pos z,A,M5 S]
     ·obtain ⟨z,A⟩:=J f
      rw[if_neg f,if_neg z]
      cases c:pV B o with
      | none=>
        obtain⟨t,N⟩:=OM g hB f o
        simp_all
      | some t=>
        obtain ⟨C,e⟩:=A o t x c;rw[e];simp only;have N:t∈B.next:=by
          unfold pV at c
          repeat' split at c
          all_goals grind
        have D:=g.nx b t (by grind[next]);exact KG Hn (some b) t _ _ (fg D) C y (by grind)
end
open Dm
theorem Ex.As.refl:∀e:Ex,e.As e
 | .NI=>trivial
 | .left ..=>⟨iC _,rfl,rfl⟩
 | .stuck=>trivial
theorem Ex.As.trans{a b c:Ex} (h:a.As b) (h':b.As c):a.As c:=by
 cases a <;> cases b <;> cases c <;> simp_all[Ex.As];omega
def pg(u u':U):Prop:=∀(locals:List Int) (gv:Int) (fuel Hn:Nat) (heap:List Int),(runM u locals gv fuel Hn none 0 (kW u heap)).As (runM u' locals gv fuel Hn none 0 (kW u' heap))
theorem pg.trans{a b c:U}(h:pg a b)(h':pg b c):pg a c:=λl w f g p=>(h l w f g p).trans (h' l w f g p)
theorem pg.refl(a:U):pg a a:=λ_ _ _ _ _=> .refl _
theorem Step.Eb{u u':U} {P:Nat->Prop} (g:Gd u P) {β:Nat->Nat} {R:Nat->Prop} (S:Step u u' β R):pg u u':=λlocals gv fuel Hn heap=>by
 have e:kW u' heap=kW u heap:=by
  unfold kW;rw[S.len]
 have:=KG g S (locals:=locals) (gv:=gv) (fuel:=fuel) Hn none 0 _ (kW u heap) (fg g.EE) S.r0 (by simp[kW]) (by simp_all);rw[S.b0]at this;rw[e,show(none:Option Nat)=(none:Option Nat).map β from rfl,this];exact .refl _
def Of(n:Int):Vl:=⟨2,0,0,n,[],0⟩
def Ao(u:U)(v:Nat)(n:Int):U:={u with cR:=u.cR.set v (Of n)}
def Kw(u:U)(v:Nat)(n:Int):Prop:=∃y,u.cR[v]? =some y/\y.op=2/\kK y.n=n
section
variable{u:U}{v:Nat}{x:Vl}{n:Int}
theorem vm(a:u.cR[v]? =some x) {w:Nat}:(Ao u v n).cR[w]? =if w=v then some (Of n) else u.cR[w]?:=by
 grind[gL,Ao]
theorem j9(a:u.cR[v]? =some x) {w:Nat} {y:Vl} (h:(Ao u v n).cR[w]? =some y):(w=v/\y=Of n)\/(w≠v/\u.cR[w]? =some y):=by
 grind[vm]
theorem L4(a:u.cR[v]? =some x) {w:Nat} (h:jo u w):jo (Ao u v n) w:=by
 obtain⟨y,b,c⟩:=h;by_cases e:w=v
 ·exact⟨Of n,by simp_all[vm,if_pos],rfl⟩
 ·exact⟨y,by rw[vm a,if_neg e];exact b,c⟩
theorem OV(g:Good u) (f:u.cR[v]? =some x) (E:3<=x.op) (A:x.op<=14):Good (Ao u v n):=by
 have G:∀{w:Nat},jo u w->jo (Ao u v n) w:=L4 f;have p:(Ao u v n).cR.length=u.cR.length:=Hb
 refine
  { nv:=by rw[p];exact g.nv
    EE:=g.EE
    nb:=g.nb
    ns:=g.ns
    st:=λs fs hs=>?_
    yx:=λw F=>g.yx w (by omega)
    CE:=g.CE
    gz:=λw b k h=>by rw[p];exact g.gz w b k h
    wo:=λw z b k y t e i j C m=>?_
    par:=λw b k y e i j=>?_
    xI:=λw b k y B e i j o=>?_
    op:=λw y d=>?_
    use:=λw y d=>?_
    leave:=λw y d=>?_
    putAt:=λw y d=>?_
    param:=λw y d e=>?_
    fin:=λb B o=>?_
    nx:=g.nx
    c8:=g.c8
    uG:=g.uG
    GJ:=g.GJ
    reach:=g.reach
    uN:=λw b k y e d=>?_
    xo:=λw b k y B e d=>?_
    Ad:=λw b k y fs e d=>?_
    xQ:=g.xQ
    zl:=g.zl}
 ·obtain⟨e,i,j⟩:=g.st s fs hs
  grind
 ·rcases j9 f j with⟨rfl,rfl⟩|⟨_,q⟩
  ·cases m
  ·rcases j9 f C with⟨rfl,rfl⟩|⟨_,D⟩
   ·have:=g.wo w z b k y x e i q f m
    grind[fm]
   ·exact g.wo w z b k y t e i q D m
 ·rcases j9 f i with⟨rfl,rfl⟩|⟨_,i⟩
  ·cases j
  ·exact g.par w b k y e i j
 ·rcases j9 f i with⟨rfl,rfl⟩|⟨_,i⟩
  ·cases j
  ·exact g.xI w b k y B e i j o
 ·rcases j9 f d with⟨rfl,rfl⟩|⟨_,d⟩
  ·exact⟨show 1<=2 by decide,show 2<=23 by decide⟩
  ·exact g.op w y d
 ·rcases j9 f d with⟨rfl,rfl⟩|⟨_,d⟩
  ·exact λz l=>nomatch l
  ·exact λz l=>G (g.use w y d z l)
 ·rcases j9 f d with⟨rfl,rfl⟩|⟨_,d⟩
  ·exact λh=>nomatch h
  ·exact g.leave w y d
 ·rcases j9 f d with⟨rfl,rfl⟩|⟨_,d⟩
  ·exact λh=>nomatch h
  ·exact g.putAt w y d
 ·rcases j9 f d with⟨rfl,rfl⟩|⟨_,d⟩
  ·cases e
  ·obtain⟨a,b,c⟩:=g.param w y d e;refine⟨a,b,λz t r i=>?_⟩;rcases j9 f r with⟨rfl,rfl⟩|⟨_,r⟩
   ·cases i
   simp_all
 ·rcases g.fin b B o with h|⟨e,i,j⟩|h
  ·omega
  ·simp_all
  ·exact .inr (.inr h)
 ·rcases j9 f d with⟨rfl,rfl⟩|⟨_,d⟩
  ·exact λ_ z l=>nomatch l
  ·exact g.uN w b k y e d
 ·rcases j9 f d with⟨rfl,rfl⟩|⟨_,d⟩
  ·exact λh=>nomatch h
  ·exact g.xo w b k y B e d
 ·rcases j9 f d with⟨rfl,rfl⟩|⟨_,d⟩
  ·exact λh=>nomatch h
  ·exact g.Ad w b k y fs e d
structure Fv (u:U) (x:Vl) (n:Int):Prop where
 lo:3<=x.op
 hi:x.op<=14
 kn:∃a b:Int,Kw u x.a a/\(¬(x.op=8\/x.op=9)->Kw u x.b b)/\kK n=uV x.op a b
theorem Ph(g:Good u) (c:u.cR[v]? =some x) (f:Fv u x n):Step u (Ao u v n) id λ_=>True:=by
 obtain ⟨N,A,a,b,O,C,D⟩:=f;have E:∀w,dK (Ao u v n) w=dK u w:=λw=>by
  unfold dK;rw[vm c];by_cases e:w=v
  ·subst e;rw[if_pos rfl,c];show false=(x.op == 1 ||x.op == 21)
   grind
  simp_all
 have P:∀(B:Bk) (locals:List Int) (tI:Option Nat) (val:Nat->Int) (w:Nat),dK u w=true->qX (Ao u v n) locals tI B val w=qX u locals tI B val w:=λB locals tI val w d=>by
  unfold qX;rw[vm c,if_neg λe=>by
   subst e;unfold dK at d;rw[c]at d;have d:(x.op == 1 ||x.op == 21)=true:=d
   grind]
 refine⟨rfl,rfl,trivial,Hb,λb B o _=>⟨B,o,rfl,by omega,by simp_all⟩,E,λw b' k y l q d=>?_,λB F locals val w o i _ d=>?_,λp t B T G s locals val w _ _ _ _ Q j _ d=>?_⟩
 ·by_cases e:w=v
  ·subst e;rw[c]at q;cases q;refine⟨Of n,by rw[vm c,if_pos rfl],λgv s H=>?_⟩;have I:∀z m,z∈fu x->Kw u z m->s.of z=m:=λz m J ⟨y,K,L,M⟩=>by
    rw[<-M];exact H z y K L (g.uN w b' k x l c (by omega) z J)
   have R:x.op=8\/x.op=9\/two x.op=true:=by unfold two;simp;omega
   have S:om x.op=true\/two x.op=true:=by unfold two om;simp;omega
   have eV:HU x s.of s.heap=kK n:=by
    rw[D];unfold HU;rw[if_neg (by omega),if_neg (by omega),if_neg (by omega),if_neg (by omega),if_neg (by omega)];have r:s.of x.a=a:=by grind[AW]
    by_cases h:x.op=8\/x.op=9
    ·rw[if_pos h,r]
     grind[uV]
    ·rw[if_neg h,r,I _ _ (by grind[AW]) (C h)]
   rw[show tk (Ao u w n) gv w (Of n) s = .inr {s with val:=s.val.set w (kK n),steps:=s.steps+1} from rfl];unfold tk
   grind
  ·exact⟨y,by simp_all[vm,if_neg],λ_ _ _=>by rfl⟩
 ·have i:u.blocks[0]? =some F:=i
  simp_all
 ·have j:u.blocks[t]? =some G:=j
  simp_all
theorem OX(g:Good u)(a:u.cR[v]? =some x)(f:Fv u x n):pg u (Ao u v n):=(Ph g a f).Eb g
end
open Dm
structure EH (u u2:U):Prop where
 func:u2.func=u.func
 pc:u2.pc=u.pc
 cR:u2.cR=u.cR
 cZ:u2.cZ=u.cZ
 len:u2.blocks.length=u.blocks.length
 jB:∀(b:Nat) (B:Bk),u.blocks[b]? =some B->u2.blocks[b]? =some B\/(B.fin=2/\∃(n:Int) (t:Nat),Kw u B.cond n/\(if n=0 then B.next[1]? else B.next[0]?)=some t/\u2.blocks[b]? =some {B with fin:=1,cond:=0,next:=[t]})
theorem Pt.suffix{nx:Nat->List Nat} {x:Nat}:∀{b l},Pt nx b l->x∈l->∃a,Pt nx x (x::a)/\(x::a) <:+ l
 | _,_,.nil,h=>by
   obtain rfl:x=0:=by simp_all
   exact⟨[],.nil,List.suffix_refl _⟩
 | _,_,.step (p:=p) (b:=b) (l:=l) h e,c=>by
   rcases HS.1 c with rfl|c
   ·exact⟨l,.step h e,List.suffix_refl _⟩
   ·obtain⟨a,d,f⟩:=Pt.suffix h c
    exact⟨a,d,f.trans (List.suffix_cons _ _)⟩
section
variable{u u2 w:U}{kp:Nat->Bool}(g:Good u)(e:EH u u2)(hk:∀b,kp b=true↔∃l,Pt (next u2) b l)(c:Cut u2 kp w)
include e
theorem zw{b:Nat} {B:Bk} (h:u2.blocks[b]? =some B):∃A,u.blocks[b]? =some A/\B.cR=A.cR/\B.c8=A.c8/\B.state=A.state/\(B=A\/(A.fin=2/\∃(n:Int) (t:Nat),Kw u A.cond n/\(if n=0 then A.next[1]? else A.next[0]?)=some t/\B = {A with fin:=1,cond:=0,next:=[t]})):=by
 have a:=(gL.1 h).1;rw[e.len]at a;have c:=fg a;refine⟨_,c,?_⟩;rcases e.jB b _ c with d|⟨f,n,t,g,i,j⟩
 ·grind
 grind
theorem E4{v b k:Nat}:At u2 v b k↔At u v b k:=by
 constructor
 ·grind[zw,At]
 ·rintro⟨A,c,a⟩;rcases e.jB b A c with d|⟨_,n,t,_,_,f⟩
  ·exact⟨A,d,a⟩
  ·exact⟨_,f,a⟩
theorem GI{b t:Nat} (h:t∈next u2 b):t∈next u b:=by
 unfold next at h
 split at h
 ·rename_i B a;obtain⟨A,c,_,_,_,d⟩:=zw e a;unfold next
  grind
 ·cases h
theorem UW:∀{b l},Pt (next u2) b l->Pt (next u) b l
 |_,_,.nil=> .nil
 |_,_,.step h a=> .step (UW h) (GI e a)
include g
theorem Ze{b:Nat} {l:List Nat} (h:Pt (next u2) b l):b<u.blocks.length:=by
 cases h with
 |nil=>exact g.EE
 |step h a=>exact g.nx _ _ (GI e a)
include hk
theorem N2{b:Nat}(h:kp b=true):b<u.blocks.length:=let⟨_,hl⟩:=(hk b).1 h;Ze g e hl
omit g e in
theorem Vg:kp 0=true:=(hk 0).2 ⟨_,.nil⟩
omit g e in
theorem yr{b t:Nat}(h:kp b=true)(ht:t∈next u2 b):kp t=true:=let⟨_,hl⟩:=(hk b).1 h;(hk t).2 ⟨_,.step hl ht⟩
omit g in
theorem Dy {a b:Nat} (h:kp b=true) (hd:lE (next u) a b):kp a=true:=by
 obtain⟨l,hl⟩:=(hk b).1 h;obtain⟨l',h1,_⟩:=Pt.suffix hl (hd l (UW e hl))
 grind
omit g e hk in
theorem GN {n b:Nat} (hb:b<n) (h:kp b=true):((List.range n).filter kp)[fR kp b]? =some b:=by
 have h1:(List.range n)[b]? =some b:=by simp[hb]
 have:=Fg (p:=kp) h1 h;unfold fR
 grind
omit g e hk in
theorem su {a b:Nat} (ha:kp a=true) (hb:kp b=true) (h:fR kp a=fR kp b):a=b:=by
 have h1:=GN (n:=a+b+1) (by omega) ha
 grind[GN,Option.some.inj]
omit g e in
theorem Lz:fR kp 0=0:=by
 unfold fR;rw[if_pos (Vg hk)];rfl
include c
theorem Ax{b:Nat} {B:Bk} (h:kp b=true) (a:u2.blocks[b]? =some B):w.blocks[fR kp b]? =some {B with next:=B.next.map (fR kp),c8:=gN u2 kp b B.c8}:=by
 rw[c.blocks,w5];unfold iF;rw[e.len,GN (N2 g e hk h) h]
 grind[ze]
omit g hk e in
theorem DV {i:Nat} {C:Bk} (h:w.blocks[i]? =some C):∃b B,kp b=true/\u2.blocks[b]? =some B/\i=fR kp b/\C = {B with next:=B.next.map (fR kp),c8:=gN u2 kp b B.c8}:=by
 rw[c.blocks,w5]at h
 cases hb:(iF u2 kp)[i]? with
 |none=>simp_all
 | some b=>
   rw[hb]at h;obtain⟨h1,h2⟩:=DG.1 (zD hb);have h1:=Mv.1 h1;refine⟨b,u2.blocks[b],h2,fg h1,?_,?_⟩
   ·exact my (UF.filter kp) hb (GN h1 h2)
   grind[Option.some.inj,ze,fg]
theorem KH{v i k:Nat}:At w v i k↔∃b,kp b=true/\i=fR kp b/\At u v b k:=by
 constructor
 ·rintro⟨C,a,j⟩;obtain⟨b,B,d,f,h,rfl⟩:=DV c a;exact⟨b,d,h,(E4 e).1 ⟨B,f,j⟩⟩
 ·rintro⟨b,a,rfl,d⟩;obtain⟨B,f,h⟩:=(E4 e).2 d;exact⟨_,Ax g e hk c a f,h⟩
theorem IX{b:Nat} (h:kp b=true):next w (fR kp b)=(next u2 b).map (fR kp):=by
 have a:=N2 g e hk h;rw[<-e.len]at a;have d:=fg a;unfold next
 rw[Ax g e hk c h d,d]
theorem Zf{b:Nat} {l:List Nat} (h:Pt (next u2) b l):Pt (next w) (fR kp b) (l.map (fR kp)):=by
 induction h with
 | nil=>
   rw[PR,OG,Lz hk]
   exact .nil
 |step h c a=>exact .step a (by grind[IX,W3])
theorem R0{i:Nat} {m:List Nat} (h:Pt (next w) i m):∃b l,i=fR kp b/\m=l.map (fR kp)/\Pt (next u2) b l:=by
 induction h with
 |nil=>exact⟨0,[0],(Lz hk).symm,by rw[PR,OG,Lz hk],.nil⟩
 | step h a d=>
   obtain⟨b,l,rfl,rfl,f⟩:=d;rw[IX g e hk c (by grind)]at a;obtain⟨t,j,rfl⟩:=E7.1 a;exact⟨t,t::l,rfl,rfl,.step f j⟩
theorem JN{a b:Nat} (d:kp b=true) (h:lE (next u) a b):lE (next w) (fR kp a) (fR kp b):=λm f=>by
 obtain⟨b',l,i,rfl,j⟩:=R0 g e hk c f;obtain rfl:=su d (by grind) i;exact W3 (h l (UW e j))
theorem R2{v b k:Nat} (f:kp b=true) (h:vQ u v b k):vQ w v (fR kp b) k:=by
 obtain⟨a,j,l,d⟩:=h;rcases d with⟨rfl,d⟩|⟨d,i⟩
 ·exact⟨_,j,(KH g e hk c).2 (by grind),.inl ⟨rfl,d⟩⟩
 ·have m:=Dy e hk f i;exact⟨_,j,(KH g e hk c).2 (by grind),.inr ⟨λq=>d (su m f q),JN g e hk c f i⟩⟩
theorem DU{v b:Nat} (f:kp b=true) (h:oQ u v b):oQ w v (fR kp b):=by
 obtain⟨a,j,d,i⟩:=h;exact⟨_,j,(KH g e hk c).2 ⟨a,Dy e hk f i,rfl,d⟩,by grind[JN]⟩
end
open Dm
structure N3 (c x:Vl):Prop where
 op:c.op=x.op
 a:c.a=x.a
 b:c.b=x.b
 n:c.n=x.n
 state:c.state=x.state
 ne:x.op≠21->c=x
 args:∀a∈c.args,a∈x.args
theorem N3.fu{b x:Vl} (h:N3 b x):∀a∈fu b,a∈fu x:=by
 by_cases e:x.op=21
 ·unfold Un.fu;rw[h.op,if_pos e,if_pos e];exact h.args
 ·rw[h.ne e]
  simp_all
theorem LM{α:Type} (a:List Nat) (r:Nat->Bool) (f:Nat->α):((List.range a.length).filter λj=>r (a.getD j 0)).map (λj=>f (a.getD j 0))=(a.filter r).map f:=by
 have b:=congrArg (λl=>(l.filter r).map f) (FU a 0);simp only[List.filter_map,List.map_map]at b;exact b
theorem qz(L:List Bk) (b:Nat) (h:∀B∈L,B.next.Nodup):∀n,n<=L.length->gF (L.take n) 0 b=(List.range n).filter λp=>(match L[p]? with|some B=>B.next|none=>[]).contains b
 |0,_=>rfl
 | n + 1,hn=>by
   have a:=fg (show n<L.length by omega);rw[LV (by omega),lX,qz L b h n (by omega),Wn,Xu];congr 1;have c:=h _ (ym (show n<L.length by omega));simp only[gF,GK,JQ,yD,Wb (by omega)];have hs:(match L[n]? with|some B=>B.next|none=>[])=L[n].next:=by rw[a]
   rw[Wf,List.filter_nil,hs];generalize L[n].next=l at c;have e:l.filter (λx=>decide (x=b))=if b∈l then[b] else[]:=by
     clear a hs
     induction l with
     |nil=>simp
     | cons t l d=>
       grind
   grind
section
variable{u u2 w:U}{kp:Nat->Bool}(g:Good u)(e:EH u u2)(hk:∀b,kp b=true↔∃l,Pt (next u2) b l)(c:Cut u2 kp w)
include g
theorem NU{b:Nat} {B:Bk} (a:u.blocks[b]? =some B):B.next.Nodup:=by
 rcases g.fin b B a with⟨h,c⟩|⟨h,c,_⟩|⟨h,c,_⟩
 ·grind
 ·have hc:=g.GJ b B a h
  match hq:B.next,c with
  | [s,t],_=>
    rw[T9];refine⟨λf=>?_,by simp⟩;obtain rfl:s=t:=by simp_all
    have d:=hc s (by rw[hq];simp);have e:=(gL.1 a).1;unfold ahead at d;rw[<-Sj b u.blocks,SE e,lX,Ht]at d
    grind[gF,Option.some.inj,fg]
 simp_all
theorem Oc(b:Nat):ahead u b=(List.range u.blocks.length).filter λp=>(next u p).contains b:=by
 have:=qz u.blocks b (by grind[kh,NU]) _ (iC _);rw[E5]at this;exact this
include e
theorem T2{b:Nat} {B:Bk} (a:u2.blocks[b]? =some B):B.next.Nodup:=by
 obtain⟨A,d,_,_,_,c⟩:=zw e a;rcases c with rfl|⟨_,n,t,_,_,rfl⟩
 ·grind[NU]
 ·simp
include hk c
theorem Oo{i:Nat} {C:Bk} (h:w.blocks[i]? =some C):C.next.Nodup:=by
 obtain⟨b,B,d,f,rfl,rfl⟩:=DV c h;have a:=T2 g e f;have j:∀t∈B.next,kp t=true:=λt n=>yr hk d (by grind[next]);show(B.next.map (fR kp)).Nodup;generalize B.next=l at a j
 induction l with
 |nil=>simp
 | cons t l o=>
   rw[T9]at a;rw[PR,T9];refine⟨λk=>?_,by simp_all⟩;obtain⟨s,p,m⟩:=E7.1 k;obtain rfl:=su (by simp_all) (by simp_all) m
   simp_all
omit g hk in
theorem JR:List.range w.blocks.length=((List.range u.blocks.length).filter kp).map (fR kp):=by
 have hl:w.blocks.length=((List.range u.blocks.length).filter kp).length:=by
  rw[c.blocks,yn];unfold iF;rw[e.len]
 refine Uj λi=>?_;rw[w5,hl]
 cases hb:((List.range u.blocks.length).filter kp)[i]? with
 | none=>
   simp_all
 | some b=>
   have hi:=(gL.1 hb).1;obtain⟨h1,h2⟩:=DG.1 (zD hb);have:=my (UF.filter kp) hb (GN (Mv.1 h1) h2)
   simp_all
theorem E9{b:Nat} {B:Bk} (h:kp b=true) (d:u.blocks[b]? =some B):ahead w (fR kp b)=gN u2 kp b B.c8:=by
 have a:=qz w.blocks (fR kp b) (by grind[kh,Oo]) _ (iC _);rw[E5]at a;show gF w.blocks 0 _=_;rw[a,JR e c];have f:=LM B.c8 (λp=>kp p&&(next u2 p).contains b) (fR kp);show _=((List.range B.c8.length).filter _).map _;rw[f,g.c8 b B d,Oc g,List.filter_map,List.filter_filter,List.filter_filter];congr 1;refine List.filter_congr λp k=>?_
 cases hkp:kp p with
 |false=>simp
 | true=>
   show((next w (fR kp p)).contains (fR kp b)&&true)=_;rw[IX g e hk c hkp,MN];simp only[Bool.and_true,Sv,rm,Wg,E7];constructor
   ·rintro⟨t,i,j⟩
    obtain rfl:=su (yr hk hkp i) h j
    grind[GI]
   grind
omit hk in
theorem EZ {v:Nat} {x:Vl} (hx:u.cR[v]? =some x):∃x',w.cR[v]? =some x'/\N3 x' x/\∀(b k:Nat) (B:Bk),x.op=21->At u v b k->kp b=true->u.blocks[b]? =some B->x'.args=jW u2 kp b B.c8 x.args:=by
 have Zy:u2.cR[v]? =some x:=by rw[e.cR];exact hx
 by_cases h:x.op=21/\∃b k,At u2 v b k/\kp b=true
 ·obtain ⟨h1,b,k,h2,h3⟩:=h;obtain⟨B,hB,hv⟩:=id h2;obtain⟨A,hA,_,hp,_⟩:=zw e hB;refine⟨_,c.xI v b k x B h2 Zy h1 h3 hB,⟨rfl,rfl,rfl,rfl,rfl,by omega,λa ha=>?_⟩,λb' k' B' _ Tj _ Yl=>?_⟩
  ·obtain⟨j,hj,rfl⟩:=E7.1 ha;have hj:=Mv.1 (DG.1 hj).1;have hlen:=(g.xI v b k x A ((E4 e).1 h2) hx h1 hA).2
   simp_all
  ·obtain⟨rfl,_⟩:=g.CE _ _ _ _ _ Tj ((E4 e).1 h2)
   simp_all
 ·refine⟨x,c.same v x Zy h,⟨rfl,rfl,rfl,rfl,rfl,λ_=>rfl,λ_ h=>h⟩,λb k B h1 h2 h3 _=>?_⟩;exact(h ⟨h1,b,k,(E4 e).2 h2,h3⟩).elim
omit hk in
theorem Cl {v:Nat} {x':Vl} (hx:w.cR[v]? =some x'):∃x,u.cR[v]? =some x/\N3 x' x/\∀(b k:Nat) (B:Bk),x.op=21->At u v b k->kp b=true->u.blocks[b]? =some B->x'.args=jW u2 kp b B.c8 x.args:=by
 have hl:=(gL.1 hx).1;rw[c.len,e.cR]at hl
 grind[fg,EZ]
omit hk in
theorem Nt {v:Nat}:jo w v↔jo u v:=by
 constructor
 ·rintro⟨x',h1,h2⟩;obtain⟨x,h3,h4,_⟩:=Cl g e c h1;exact⟨x,h3,by rw[<-h4.op];exact h2⟩
 ·rintro⟨x,h1,h2⟩;obtain⟨x',h3,h4,_⟩:=EZ g e c h1;exact⟨x',h3,by rw[h4.op];exact h2⟩
theorem Ge{as:Nat->Int} (Om:∀(v b k:Nat),At u v b k->kp b=false->as v = -1):Gd w λv=>stays as v=true:=by
 have S:w.cR.length=u.cR.length:=by rw[c.len,e.cR]
 have I:w.cZ=u.cZ:=by rw[c.cZ,e.cZ]
 have ak:w.blocks.length<=u.blocks.length:=by
  have:=congrArg List.length (JR e c);rw[Kc,yn]at this;have:=QY kp (List.range u.blocks.length);rw[Kc]at this;omega
 have h0:fR kp 0=0:=Lz hk;have k0:=Vg hk;have V:=@Cl u u2 w kp g e c;have A:=@KH u u2 w kp g e hk c;have G:=@Nt u u2 w kp g e c;have vb:∀{i:Nat} {C:Bk},w.blocks[i]? =some C->∃b B,kp b=true/\u.blocks[b]? =some B/\i=fR kp b/\C.cR=B.cR/\C.c8=gN u2 kp b B.c8/\C.state=B.state/\((C.fin=B.fin/\C.cond=B.cond/\C.next=B.next.map (fR kp)/\next u2 b=B.next)\/(C.fin=1/\C.next.length=1)):=λ{i C} h=>by
  obtain⟨b,B,F,K,r,rfl⟩:=DV c h;obtain⟨P,T,h5,h6,h7,h8⟩:=zw e K;refine⟨b,P,F,T,r,h5,by rw[<-h6],h7,?_⟩;rcases h8 with rfl|⟨_,n,t,_,_,rfl⟩
  ·exact .inl ⟨rfl,rfl,rfl,by grind[next]⟩
  simp_all
 refine
  { nv:=by rw[S];exact g.nv
    EE:=?_
    nb:=by have:=g.nb;omega
    ns:=by rw[I];exact g.ns
    st:=λs fs hs=>?_
    yx:=λv hv hP=>?_
    CE:=λv b k b' k' h h'=>?_
    gz:=λv b k h=>?_
    wo:=λv z b k x y F K D hy hh=>?_
    par:=λv b k x F D K=>?_
    xI:=λv b k x B F D K H=>?_
    op:=λv x D=>?_
    use:=λv x D z U=>?_
    leave:=λv x D L=>?_
    putAt:=λv x D ac=>?_
    param:=λv x D F=>?_
    fin:=λb C J=>?_
    nx:=λb t W=>?_
    c8:=λb C J=>?_
    uG:=?_
    GJ:=λb C J K t W=>?_
    reach:=λb hb=>?_
    uN:=λv b k x F D E z U=>?_
    xo:=λv b k x C F D E J j z p Q X=>?_
    Ad:=λv b k x fs F D L M z U=>?_
    xQ:=λb C J K=>?_
    zl:=λb C fs J r M z U=>?_}
 ·have L:=g.EE;rw[<-e.len]at L;have:=(gL.1 (Ax g e hk c k0 (fg (show 0<u2.blocks.length from L)))).1;omega
 ·rw[I]at hs;obtain⟨F,K,r⟩:=g.st s fs hs
  grind
 ·rw[S]at hv;obtain⟨b,k,Z⟩:=g.yx v hv trivial;refine⟨fR kp b,k,A.2 ⟨b,?_,rfl,Z⟩⟩
  cases hb:kp b with
  |true=>rfl
  | false=>
    have:=Om v b k Z hb
    simp_all[stays,CG]
 ·obtain⟨a,F,rfl,r⟩:=A.1 h;obtain⟨a',al,rfl,ae⟩:=A.1 h';obtain⟨rfl,rfl⟩:=g.CE _ _ _ _ _ r ae;omega
 ·rw[S];obtain⟨a,_,_,r⟩:=A.1 h;exact g.gz _ _ _ r
 ·obtain⟨a,o,rfl,r⟩:=A.1 F;obtain⟨a',ag,T,h5⟩:=A.1 K;obtain rfl:=su o ag T;obtain⟨f,d,m,_⟩:=V D;obtain⟨y0,Y,sy,_⟩:=V hy;rw[sy.op];exact g.wo v z a k f y0 r h5 d Y (by rw[<-m.op];exact hh)
 ·obtain⟨a,o,rfl,r⟩:=A.1 F;obtain⟨f,d,m,_⟩:=V D;rw[g.par v a k f r d (by rw[<-m.op];exact K)];exact h0
 ·obtain⟨a,o,rfl,r⟩:=A.1 F;obtain⟨f,d,m,sp⟩:=V D;obtain⟨a',P,k2,N,T,_,aa,_⟩:=vb H;obtain rfl:=su o k2 T;have E:f.op=21:=by rw[<-m.op];exact K
  refine⟨λq=>(g.xI v a k f P r d E N).1 (by grind[su]),?_⟩
  grind[jW,gN,yn]
 ·obtain⟨f,d,m,_⟩:=V D;rw[m.op];exact g.op v f d
 ·obtain⟨f,d,m,_⟩:=V D;exact G.2 (g.use v f d z (m.fu z U))
 ·obtain⟨f,d,m,_⟩:=V D;rw[I,m.state];exact g.leave v f d (by rw[<-m.op];exact L)
 ·obtain⟨f,d,m,_⟩:=V D;have ab:f.op=20:=by rw[<-m.op];exact ac
  rw[m.ne (by omega)];exact g.putAt v f d ab
 ·obtain⟨f,d,m,_⟩:=V D;obtain⟨q1,q2,q3⟩:=g.param v f d (by rw[<-m.op];exact F);rw[m.n];refine⟨q1,q2,λz y hy ah ai=>?_⟩;obtain⟨y0,Y,sy,_⟩:=V hy;exact q3 z y0 Y (by rw[<-sy.op];exact ah) (by rw[<-sy.n];exact ai)
 ·obtain ⟨b0,B,o,H,_,_,_,q3,⟨O,q5,q6,_⟩|O⟩:=vb J
  ·rw[O,q5,q6,q3,I];rcases g.fin b0 B H with⟨r1,r2⟩|⟨r1,r2,r3⟩|⟨r1,r2,r3⟩
   ·simp_all
   ·simp_all
   simp_all
  omega
 ·unfold next at W
  split at W
  ·rename_i C J;obtain⟨b0,B,o,H,_,rfl⟩:=DV c J;obtain⟨t0,R,rfl⟩:=E7.1 W;have kt:=yr hk o (t:=t0) (by grind[next]);have L:=N2 g e hk kt;rw[<-e.len]at L;exact(gL.1 (Ax g e hk c kt (fg L))).1
  ·cases W
 ·obtain⟨b0,B,o,H,rfl,_,q2,_⟩:=vb J
  grind[E9]
 ·have H:=fg (show 0<u.blocks.length from g.EE);have:=E9 g e hk c k0 H;rw[h0,g.c8 0 _ H,g.uG]at this;rw[this];rfl
 ·obtain ⟨b0,B,o,H,rfl,_,_,_,⟨O,_,q6,q7⟩|⟨O,_⟩⟩:=vb J
  ·rw [q6]at W;obtain⟨t0,R,rfl⟩:=E7.1 W;have aj:B.fin=2:=by rw[<-O];exact K
   have kt:=yr hk o (t:=t0) (by rw[q7];exact R);have hT:=fg (N2 g e hk kt);have hc:=g.GJ b0 B H aj t0 R;rw[<-g.c8 t0 _ hT]at hc;have hw:=E9 g e hk c kt hT;have hm:fR kp b0∈ahead w (fR kp t0):=pD.2 (by rw[IX g e hk c o,q7];exact W3 R);have am:(ahead w (fR kp t0)).length<=1:=by
    rw[hw];unfold gN m0;rw[yn];refine EY (QY _ _) ?_;rw[Kc];omega
   have:=List.length_pos_of_mem hm;omega
  ·omega
 ·obtain⟨b0,B,o,H,rfl,_⟩:=vb (fg hb);obtain⟨l,L⟩:=(hk b0).1 o;exact⟨_,Zf g e hk c L⟩
 ·obtain⟨a,o,rfl,r⟩:=A.1 F;obtain⟨f,d,m,_⟩:=V D;rw[m.op]at E;exact R2 g e hk c o (g.uN v a k f r d E z (m.fu z U))
 ·obtain ⟨a,o,rfl,r⟩:=A.1 F;obtain⟨f,d,m,sp⟩:=V D;obtain⟨a',P,k2,N,T,_,aa,_⟩:=vb J;obtain rfl:=su o k2 T;rw[m.op]at E;have hlen:=(g.xI v a k f P r d E N).2;rw[sp a k P E r o N]at Q;rw[aa]at X;unfold jW at Q;unfold gN at X;rw[w5]at Q X
  cases hi:(m0 u2 kp a P.c8)[j]? with
  |none=>rw[hi]at Q;cases Q
  | some i=>
    rw[hi]at Q X;obtain⟨i1,i2⟩:=DG.1 (zD hi);have i1:=Mv.1 i1;rw[rm]at i2;have e1:=fg i1;have e2:=fg (show i<f.args.length by omega);rw[Au,e1]at i2;have Q:f.args[i]=z:=by
      have:f.args.getD i 0=z:=Option.some.inj Q
      rwa [Au,e2]at this
    have X:fR kp P.c8[i]=p:=by
      have:fR kp (P.c8.getD i 0)=p:=Option.some.inj X
      rwa [Au,e1]at this
    subst Q X;exact DU g e hk c i2.1 (g.xo v a k f P r d E N i _ _ e2 e1)
 ·obtain⟨a,o,rfl,r⟩:=A.1 F;obtain⟨f,d,m,_⟩:=V D;rw[I,m.state]at M;exact R2 g e hk c o (g.Ad v a k f fs r d (by rw[<-m.op];exact L) M z U)
 ·obtain⟨b0,B,o,H,rfl,_,_,_,⟨O,q5,_⟩|⟨O,_⟩⟩:=vb J
  ·rw[q5];exact DU g e hk c o (g.xQ b0 B H (by rw[<-O];exact K))
  ·omega
 ·obtain⟨b0,B,o,H,rfl,_,_,q3,⟨O,_⟩|⟨O,_⟩⟩:=vb J
  ·rw[I,q3]at M;exact DU g e hk c o (g.zl b0 B fs H (by rw[<-O];exact r) M z U)
  ·omega
end
open Dm
theorem By{L:List Nat} (b:L.Nodup) {j a:Nat} (h:L[j]? =some a):L.findIdx? (·== a)=some j:=by
 obtain⟨c,d⟩:=gL.1 h;rw[List.findIdx?_eq_some_iff_getElem];refine⟨c,by simp[d],λi hi=>?_⟩;intro hc;have:L[i]=a:=by simpa using hc
 have:=my b (fg (show i<L.length by omega)) (by simp_all:L[j]? =some L[i]);omega
section
variable{u u2 w:U}{kp:Nat->Bool}(g:Good u)(e:EH u u2)(hk:∀b,kp b=true↔∃l,Pt (next u2) b l)(c:Cut u2 kp w)
include g e c
theorem UN(v:Nat):dK w v=dK u v:=by
 unfold dK
 cases h:u.cR[v]? with
 | none=>
   rw[List.getElem?_eq_none_iff]at h
   rw[List.getElem?_eq_none_iff.2 (by rw[c.len,e.cR];exact h)]
 | some x=>
   obtain⟨a,b,d,_⟩:=EZ g e c h;rw[b];show fm a.op=fm x.op;rw[d.op]
include hk
theorem U7:Step u w (fR kp) (λb=>kp b=true):=by
 have F:w.cZ=u.cZ:=by rw[c.cZ,e.cZ]
 refine⟨F,Lz hk,Vg hk,by rw[c.len,e.cR],λb B l E=>?_,UN g e c,λv b k x A d f=>?_,λB B' locals val v l X Q f=>?_,λp t B T Y s locals val v l R G hn z Z Q f=>?_⟩
 ·rcases e.jB b B l with m|⟨a,n,t,⟨y,H,I,S⟩,h4,h5⟩
  ·refine ⟨_,Ax g e hk c E m,rfl,by simp_all,λh=>⟨h,λs t _ o=>?_⟩⟩;have hm:t∈B.next:=by
    unfold pV at o
    repeat' split at o
    all_goals grind
   refine⟨yr hk E (by grind[next]),?_⟩;unfold pV at o⊢
   grind
  ·refine⟨_,Ax g e hk c E h5,rfl,by omega,λh=>⟨by simp,λs t' G o=>?_⟩⟩;have hs:=G B.cond y H I (pq l (g.xQ b B l a));unfold pV at o;rw[if_neg (by omega),if_pos a,hs,S,h4]at o;cases o;exact⟨yr hk E (by grind[next]),rfl⟩
 ·obtain ⟨U,m,a,_⟩:=EZ g e c d;have q:x.op≠21:=by
   unfold dK fm at f;rw[d]at f;simp at f;exact f.2
  rw[a.ne q]at m
  grind[tk,uH]
 ·obtain ⟨x,d⟩:∃x,u.cR[v]? =some x:=by
   grind[dK]
  obtain⟨U,m,a,_⟩:=EZ g e c d;unfold qX;rw[d,m];simp only[a.op,a.n]
 ·obtain ⟨x,d⟩:∃x,u.cR[v]? =some x:=by
   grind[dK]
  obtain⟨U,m,a,h3⟩:=EZ g e c d;unfold qX;rw[d,m];simp only[a.op,a.n];by_cases hx1:x.op=1
  ·omega
  rw [if_neg hx1,if_neg hx1];have q:x.op=21:=by
   unfold dK fm at f;rw[d]at f;simp at f;omega
  have r:t∈next u2 p:=by
   rcases e.jB p B l with q1|⟨q2,n,t',⟨y,H,I,S⟩,q4,V⟩
   ·grind[next,pV,zD]
   ·have hs:=G B.cond y H I (pq l (g.xQ p B l q2))
    simp_all[pV,if_neg,if_pos,next]
  have J:=yr hk R r;obtain⟨k,A⟩:∃k,At u v t k:=by
   obtain⟨k,hk⟩:=kh.1 Q;exact⟨k,T,z,hk⟩
  rw [h3 t k T q A J z];have K:Y.c8=gN u2 kp t T.c8:=by
   rcases e.jB t T z with q1|⟨_,n,t',_,_,V⟩
   ·grind[Ax]
   ·have:=Ax g e hk c J V
    grind
  have L:p∈T.c8:=by rw[g.c8 t T z];exact pD.2 (GI e r)
  obtain⟨j,M⟩:=kh.1 L;have N:T.c8.Nodup:=by rw[g.c8 t T z,Oc g];exact UF.filter _
  have C:(gN u2 kp t T.c8).Nodup:=by
   rw[<-E9 g e hk c J z];have W:=qz w.blocks (fR kp t) (by grind[kh,Oo]) _ (iC _);rw[E5]at W;show(gF w.blocks 0 _).Nodup;rw[W];exact UF.filter _
  have O:=(gL.1 M).1;have D:T.c8.getD j 0=p:=by rw[Au,M];rfl
  have P:j∈m0 u2 kp t T.c8:=DG.2 ⟨Mv.2 O,by rw[D,R,Sv,Wg];exact r⟩;obtain⟨i,hi⟩:=kh.1 P;have e1:(gN u2 kp t T.c8)[i]? =some (fR kp p):=by
   unfold gN;rw[w5,hi,<-D];rfl
  rw[By N M,K,By C e1]
  grind[jW]
end
open Dm
theorem Tl{u:U} (g:Good u) {v o b k c j:Nat} {x:Vl} (C:u.cR[v]? =some x) (y:x.op=21) (s:At u v b k) (E:At u o c j) (F:∀a∈x.args,a=v\/a=o):c≠b/\lE (next u) c b:=by
 obtain ⟨B,A,hk⟩:=id s;obtain⟨G,hlen⟩:=g.xI v b k x B s C y A;have r:∀n l,l.length<=n->Pt (next u) b (b::l)->c∈l:=by
  intro n
  induction n with
  | zero=>
    intro l t h;have:l=[]:=by simp_all
    subst this
    cases h with
    |nil=>omega
    |step h _=>cases h
  | succ n H=>
    intro l t h
    cases h with
    |nil=>omega
    | step h e=>
      rename_i p;have I:p∈B.c8:=by rw[g.c8 b B A];exact pD.2 e
      obtain⟨i,hi⟩:=kh.1 I;have J:=(gL.1 hi).1;have K:=fg (show i<x.args.length by omega);have hs:=g.xo v b k x B s C y A i _ p K hi;obtain⟨d,m,z,D⟩:=hs;rcases F _ (ym _:x.args[i]∈x.args)with q|q
      ·rw[q]at z
       obtain⟨rfl,_⟩:=g.CE _ _ _ _ _ z s;obtain⟨w,M,N⟩:=Pt.suffix h (D l h)
       grind
      ·rw[q]at z
       obtain⟨rfl,_⟩:=g.CE _ _ _ _ _ z E;exact D l h
 have f:∀{l},Pt (next u) b l->∃w,l=b::w:=λh=>by
  cases h
  ·omega
  simp_all
 have L:lE (next u) c b:=λl t=>by
  obtain⟨w,rfl⟩:=f t;exact List.mem_cons_of_mem _ (r _ w (iC _) t)
 refine ⟨λq=>?_,L⟩;subst q;have no:∀n l,l.length<=n->¬Pt (next u) c (c::l):=by
  intro n
  induction n with
  | zero=>
    intro l t h;have:=r _ l (iC _) h
    simp_all
  | succ n H=>
    intro l t h;have O:=r _ l (iC _) h
    cases h with
    |nil=>omega
    | step h e=>
      grind[Pt.suffix,LU]
 obtain⟨l,t⟩:=g.reach c (by grind);obtain⟨w,rfl⟩:=f t;exact no _ w (iC _) t
structure Mz (u:U) (as:Nat->Int):Prop where
 out:∀v,u.cR.length<=v->as v = -1
 root:∀v r:Nat,as v=(r:Int)->as r=(r:Int)
 VI:∀(v:Nat) (x:Vl),u.cR[v]? =some x->as v=(v:Int)\/(as v = -1/\x.op=22/\∃n,Kw u x.a n/\n≠0)\/(x.op=21/\∃r:Nat,as v=(r:Int)/\r≠v/\r∈x.args/\∀a∈x.args,a=v\/a=r)
structure Nd (u:U) (kp:Nat->Bool) (as xh:Nat->Int):Prop where
 gone:∀(v b k:Nat),At u v b k->kp b=false->xh v = -1
 same:∀(v:Nat),(¬∃b k,At u v b k/\kp b=false)->xh v=as v
section
variable{u u2 w:U}{kp:Nat->Bool}(g:Good u)(e:EH u u2)(hk:∀b,kp b=true↔∃l,Pt (next u2) b l)(c:Cut u2 kp w){as xh:Nat->Int}(F:Mz u as)(Gn:Nd u kp as xh)
include g F Gn
omit F in
theorem CV {v b k:Nat} (Hy:At u v b k) (hb:kp b=true):xh v=as v:=Gn.same v λ⟨b',k',h1,h2⟩=>by
 obtain⟨rfl,_⟩:=g.CE _ _ _ _ _ Hy h1
 simp_all
theorem Gg{v:Nat} (h:0<=xh v):xh v=as v/\∃b k,At u v b k/\kp b=true:=by
 by_cases hv:v<u.cR.length
 ·obtain ⟨b,k,a⟩:=g.yx v hv trivial
  cases hb:kp b with
  |true=>grind[CV]
  | false=>
    have:=Gn.gone v b k a hb;omega
 ·have c:xh v=as v:=Gn.same v λ⟨b,k,c,_⟩=>hv (g.gz _ _ _ c);have:=F.out v (by omega);omega
theorem Kj{v b k:Nat} (c:At u v b k) (d:kp b=true) (a:jo u v):0<=xh v:=by
 rw[CV g Gn c d];obtain⟨x,e,a⟩:=a;rcases F.VI v x e with h|⟨_,h,_⟩|⟨_,r,h,_⟩
 ·omega
 ·rw[h]at a;cases a
 ·omega
include e hk
theorem JD{v b k r:Nat} (c:At u v b k) (l:kp b=true) (h:xh v=(r:Int)) (p:r≠v):∃d j,At u r d j/\kp d=true/\d≠b/\lE (next u) d b/\∃x,u.cR[v]? =some x/\x.op=21/\r∈x.args/\∀a∈x.args,a=v\/a=r:=by
 have f:=fg (g.gz _ _ _ c);rw[CV g Gn c l]at h;rcases F.VI v _ f with i|⟨i,_⟩|⟨i,r',w,_,q,m⟩
 ·omega
 ·omega
 ·obtain rfl:r=r':=by omega
  have s:jo u r:=g.use v _ f r (by simp_all[fu,if_pos]);obtain⟨y,z,_⟩:=s;obtain⟨d,j,n⟩:=g.yx r (by grind) trivial;obtain⟨t,o⟩:=Tl g f i c n m;exact⟨d,j,n,Dy e hk l o,t,o,_,f,i,q,m⟩
include c
theorem Kh:Fit w xh:=by
 have A:=@KH u u2 w kp g e hk c;have V:=@Cl u u2 w kp g e c;have W:=@Nt u u2 w kp g e c;have pos:∀{v b k:Nat},kp b=true->jo u v->vQ u v b k->0<=xh v:=λ{v b k} m y ⟨d,j,l,hs⟩=>by
  refine Kj g F Gn l ?_ y;rcases hs with⟨rfl,_⟩|⟨_,I⟩
  ·exact m
  ·exact Dy e hk m I
 have D:∀{v b:Nat},kp b=true->jo u v->oQ u v b->0<=xh v:=λ{v b} m y ⟨d,j,l,hs⟩=>Kj g F Gn l (Dy e hk m hs) y;have E:∀{v:Nat},stays xh v=true->∃b k,At u v b k/\kp b=true:=λ{v} h=>by
  unfold stays at h;rw[CG]at h;exact(Gg g F Gn (v:=v) (by omega)).2
 refine⟨λv hv h0=>?_,λv r i k h X=>?_,λv r h y=>?_,λv Y z hs a G=>?_,λv Y fs z hs S o a G=>?_,λi C P J=>?_,λi C fs P K o a G=>?_⟩
 ·obtain⟨p,b,k,l,m⟩:=Gg g F Gn h0;obtain⟨r,N⟩:∃r:Nat,xh v=(r:Int):=⟨(xh v).toNat,by omega⟩
  refine⟨r,N,?_⟩;rw[c.len,e.cR];by_cases Uu:r=v
  ·subst Uu;exact⟨g.gz _ _ _ l,N⟩
  ·obtain⟨d,j,I,kd,_⟩:=JD g e hk F Gn l m N Uu;refine⟨g.gz _ _ _ I,?_⟩;rw[CV g Gn I kd];exact F.root v r (by omega)
 ·obtain⟨b,m,rfl,l⟩:=A.1 X;by_cases Uu:r=v
  ·grind
  ·obtain⟨d,j,I,kd,p,J,_⟩:=JD g e hk F Gn l m h Uu;exact⟨_,j,by grind,.inr ⟨λq=>p (su kd m q),JN g e hk c m J⟩⟩
 ·obtain⟨p,b,k,l,m⟩:=Gg g F Gn (v:=v) (by omega);by_cases Uu:r=v
  ·simp_all
  ·obtain⟨d,j,I,kd,_,_,x,z,s,N,_⟩:=JD g e hk F Gn l m h Uu;exact W.2 (g.use v x z r (by simp_all[fu,if_pos]))
 ·obtain⟨b,k,l,m⟩:=E hs;obtain⟨x,z,L,sp⟩:=V z;have M:=L.fu a G;have y:=g.use v x z a M;by_cases s:x.op=21
  ·obtain⟨B,H,_⟩:=id l;have hlen:=(g.xI v b k x B l z s H).2;unfold fu at G;rw[L.op,if_pos s,sp b k B s l m H]at G;obtain⟨j,Z,rfl⟩:=E7.1 G;obtain⟨Q,R⟩:=DG.1 Z;have Q:=Mv.1 Q;rw[rm]at R;have T:=fg Q;have U:=fg (show j<x.args.length by omega);rw[Au,T]at R;rw[Au,U]at y⊢;exact D R.1 y (g.xo v b k x B l z s H j _ _ U T)
  ·exact pos m y (g.uN v b k x l z s a M)
 ·obtain ⟨b,k,l,m⟩:=E hs;obtain⟨x,z,L,_⟩:=V z;rw[c.cZ,e.cZ,L.state]at o;rw[L.op]at S;have y:jo u a:=by
   obtain⟨f,hf,p⟩:=Sf.1 G;obtain⟨_,_,J⟩:=g.st _ fs o;rcases EC.1 p with p|p
   ·grind
   ·grind
  exact pos m y (g.Ad v b k x fs l z S o a G)
 ·obtain ⟨b,B,m,H,rfl,rfl⟩:=DV c P;obtain⟨A0,O,_,_,_,p|⟨_,n,t,_,_,rfl⟩⟩:=zw e H
  ·subst p;rcases g.fin b B O with⟨K,_⟩|⟨_,_,K⟩|⟨K,_⟩
   ·simp_all
   ·exact D m K (g.xQ b B O J)
   simp_all
  ·cases J
 ·obtain ⟨b,B,m,H,rfl,rfl⟩:=DV c P;obtain⟨A0,O,_,_,_,p|⟨_,n,t,_,_,rfl⟩⟩:=zw e H
  ·subst p;rw[c.cZ,e.cZ]at o;have y:jo u a:=by
    obtain⟨f,hf,p⟩:=Sf.1 G;obtain⟨_,_,J⟩:=g.st _ fs o;rcases EC.1 p with p|p
    ·grind
    ·grind
   exact D m y (g.zl b B fs O K o a G)
  ·cases K
end
open Dm
section
variable{u u2 w:U}{kp:Nat->Bool}(g:Good u)(e:EH u u2)(hk:∀b,kp b=true↔∃l,Pt (next u2) b l)(c:Cut u2 kp w){as xh:Nat->Int}(F:Mz u as)(Gn:Nd u kp as xh)
include g e hk c F Gn
theorem WX{v i k r:Nat} (f:At w v i k) (h:xh v=(r:Int)) (l:r≠v):∃d j,At w r d j/\d≠i/\lE (next w) d i/\∃x,w.cR[v]? =some x/\x.op=21/\∀a∈x.args,a=v\/a=r:=by
 obtain⟨b,o,rfl,q⟩:=(KH g e hk c).1 f;obtain⟨d,j,A,kd,B,s,x,t,m,_,u⟩:=JD g e hk F Gn q o h l;obtain⟨y,n,p,_⟩:=EZ g e c t;exact⟨_,j,(KH g e hk c).2 (by grind),by grind[su],JN g e hk c o s,y,n,by rw[p.op];exact m,λa z=>u a (p.args a z)⟩
theorem Ql(locals:List Int) (gv:Int) (heap:List Int):Way w xh locals gv heap λb k s=>KI w b k s/\∀v r:Nat,xh v=(r:Int)->vQ w v b k->s.of r=s.of v:=by
 have i:=Ge g e hk c (as:=xh) Gn.gone;have D:=@WX u u2 w kp g e hk c as xh F Gn;have U:∀{v:Nat} {x:Vl},w.cR[v]? =some x->x.op=21->dK w v=true:=λ{v x} n h=>by
  unfold dK;rw[n];show(x.op == 1 ||x.op == 21)=true
  simp_all
 have apart:∀{v r b k t j:Nat},xh v=(r:Int)->r≠v->vQ w v t k->t<w.blocks.length->At w r t j->False:=λ{v r b k t j} h f ⟨R,j0,a,hc⟩ E G=>by
  obtain⟨d,j',H,I,V,_⟩:=D a h f;obtain⟨rfl,_⟩:=i.CE _ _ _ _ _ H G;rcases hc with⟨rfl,_⟩|⟨W,J⟩
  ·omega
  ·obtain⟨l,z⟩:=i.reach d E;exact W (J.Ss V z)
 refine⟨λB A=>⟨KI.start A,λv r h hs=>?_⟩,λb t B T s A m E K z=>⟨by grind[KI.wo],λv r h hs=>?_⟩,λb k X x s s1 a n hh K z L=>⟨K.1.one i a n z L,λv r h hs=>?_⟩,by grind⟩
 ·by_cases f:r=v
  ·rw[f]
  ·obtain⟨R,j,a,hc⟩:=hs;obtain⟨_,_,_,_,_,x,n,o,_⟩:=D a h f;obtain⟨Y,M,_⟩:=id a;have N:=(i.xI v R j x Y a n o M).1;rcases hc with⟨q,_⟩|⟨_,H⟩
   ·omega
   ·exact(N (by simpa using H _ .nil)).elim
 ·by_cases f:r=v
  ·rw[f]
  have O:=(gL.1 m).1;have G:r ∉ T.cR.takeWhile (dK w):=λZ=>by
   obtain⟨k,p⟩:=kh.1 (VT _ Z);exact apart (b:=0) h f hs O ⟨T,m,p⟩
  have y:({s with steps:=s.steps+1}:Rs).val.length=w.cR.length:=z;rw[Ha i m y G];show s.of r=_;by_cases hv:v∈T.cR.takeWhile (dK w)
  ·rw[SO i m y hv];obtain⟨k,p⟩:=kh.1 (VT _ hv);have a:At w v t k:=⟨T,m,p⟩
   obtain⟨_,_,_,_,_,x,n,o,ha⟩:=D a h f;have hlen:=(i.xI v t k x T a n o m).2;have P:t∈next w b:=by unfold next;rw[A];exact E
   have aa:b∈T.c8:=by rw[i.c8 t T m];exact pD.2 P
   unfold qX;rw[n];simp only;rw[if_neg (by omega)]
   cases hf:T.c8.findIdx? (·== b)with
   | none=>
     grind
   | some j=>
     obtain⟨hj,I,_⟩:=List.findIdx?_eq_some_iff_getElem.1 hf;have I:T.c8[j]=b:=by simpa using I
     have S:=fg (show j<x.args.length by omega);simp only;rw[Au,S];show s.of r=s.of x.args[j];rcases ha _ (ym _:x.args[j]∈x.args)with q|q
     ·rw[q]
      have ab:=i.xo v t k x T a n o m j _ _ S (fg hj)
      grind[pq]
     ·rw[q]
  ·rw[Ha i m y hv];exact K.2 v r h (LK A m E hs hv)
 ·by_cases f:r=v
  ·rw[f]
  have C:X<s.val.length:=by rw[z];exact by grind
  obtain⟨B,A,_⟩:=id a;have Q:=(gL.1 A).1;rcases KC a hs with rfl|⟨hz,hs⟩
  ·grind
  ·rw[MO L hz C,MO L (λq=>apart (b:=0) h f hs Q (by rw[q];exact a)) C]
   grind
theorem Pb:pg u (ey w xh):=by
 have m:=Ge g e hk c (as:=xh) Gn.gone;refine(Step.Eb g (U7 g e hk c)).trans λlocals gv fuel Hn heap=>SJ m (by grind[Kh]) (Ql g e hk c F Gn locals gv heap) (λv i k q f o hs=>?_) Hn;obtain⟨b,r,rfl,t⟩:=(KH g e hk c).1 f;obtain⟨x,h,d,_⟩:=Cl g e c o;have z:=CV g Gn t r;rw[d.op,d.a];rcases F.VI v x h with A|⟨_,B,n,⟨y,C,D,E⟩,G⟩|⟨A,_⟩
 ·grind[stays]
 ·refine ⟨by omega,by omega,λ_ s H=>?_,by omega⟩;obtain⟨I,j,p,_⟩:=EZ g e c C;have l:=m.uN v _ k q f o (by rw[d.op];omega) x.a (by
   rw[<-d.a];refine AW.2 ?_ (by rw[d.op];omega);rw[d.op,B];rfl)
  rw[H.1 x.a I j (by rw[p.op];exact D) l,p.n,E];exact G
 omega
theorem PI:Good (ey w xh):=O1 (Ge g e hk c (as:=xh) Gn.gone) (by grind[Kh])
end
open Dm
def mu(u:U):Nat:=u.cR.countP (λx=>x.op != 2)+u.blocks.countP (λB=>B.fin == 2)
def Yo(u:U)(v:Nat):Prop:=∀x n,u.cR[v]? =some x->¬Fv u x n
theorem Nq{u:U} {v:Nat} {x:Vl} (a:u.cR[v]? =some x) (b:x.op≠2) (n:Int):mu (Ao u v n)<mu u:=by
 obtain ⟨c,e⟩:=gL.1 a;have d:0<u.cR.countP (λx=>x.op != 2):=List.countP_pos_iff.2 ⟨x,zD a,by simp[b]⟩;have:(u.cR.set v (Of n)).countP (λx=>x.op != 2)=u.cR.countP (λx=>x.op != 2)-1:=by
  rw[List.countP_set c,e];simp[b,Of]
 show(u.cR.set v (Of n)).countP _+_<_;rw[this];unfold mu;show _+u.blocks.countP _<_;omega
structure LZ (a:U->Prop) (u u':U) (c:Bool) (D:Nat->Prop):Prop where
 yS:Good u'
 Eb:pg u u'
 func:u'.func=u.func
 pc:u'.pc=u.pc
 blocks:u'.blocks=u.blocks
 cZ:u'.cZ=u.cZ
 len:u'.cR.length=u.cR.length
 args:a u'
 ops:∀p:Nat->Prop,p 2->(∀x∈u.cR,p x.op)->∀y∈u'.cR,p y.op
 mu:mu u'<=mu u
 less:c=true->Un.mu u' < Un.mu u
 same:c=false->u' = u/\∀v,D v->Yo u v
theorem LZ.start{a:U->Prop}{u:U}(g:Good u)(b:a u):LZ a u u false λ_=>False:=⟨g,.refl _,rfl,rfl,rfl,rfl,rfl,b,λ_ _ h=>h,iC _,λh=>(nomatch h),λ_=>⟨rfl,λ_ h=>h.elim⟩⟩
theorem LZ.more{a:U->Prop} {u u':U} {c:Bool} {D D':Nat->Prop} (t:LZ a u u' c D) (h:c=false->∀v,D' v->D v\/Yo u v):LZ a u u' c D':=
 {t with same:=λhc=>⟨(t.same hc).1,λv b=>(h hc v b).elim ((t.same hc).2 v) id⟩ }
theorem LZ.step{b:U->Prop} {u u':U} {c:Bool} {D:Nat->Prop} (t:LZ b u u' c D) {v:Nat} {x:Vl} {n:Int} (a:u'.cR[v]? =some x) (f:Fv u' x n) (e:b (Ao u' v n)) (D':Nat->Prop):LZ b u (Ao u' v n) true D' where
 yS:=OV t.yS a f.lo f.hi
 Eb:=t.Eb.trans (OX t.yS a f)
 func:=t.func
 pc:=t.pc
 blocks:=t.blocks
 cZ:=t.cZ
 len:=Hb.trans t.len
 args:=e
 ops p d h y hy:=by
  rcases List.mem_or_eq_of_mem_set (show y∈u'.cR.set v (Of n) from hy)with g|rfl
  ·exact t.ops p d h y g
  ·exact d
 mu:=Nat.le_of_lt (EP (Nq a (by have:=f.lo;omega) n) t.mu)
 less _:=EP (Nq a (by have:=f.lo;omega) n) t.mu
 same h:=nomatch h
structure zz (u u2:U) (c:Bool) (D:Nat->Prop):Prop where
 e:EH u u2
 mu:mu u2<=mu u
 less:c=true->Un.mu u2<Un.mu u
 same:c=false->u2=u/\∀b B n,D b->u.blocks[b]? =some B->B.fin=2->¬Kw u B.cond n
def MP(B:Bk)(t:Nat):Bk:={B with fin:=1,cond:=0,next:=[t]}
theorem zz.start(u:U):zz u u false λ_=>False:=⟨⟨rfl,rfl,rfl,rfl,rfl,λ_ _ h=> .inl h⟩,iC _,λh=>(nomatch h),λ_=>⟨rfl,λ_ _ _ h=>h.elim⟩⟩
theorem zz.more{u u2:U} {c:Bool} {D D':Nat->Prop} (t:zz u u2 c D) (h:c=false->∀b,D' b->D b\/∀B n,u.blocks[b]? =some B->B.fin=2->¬Kw u B.cond n):zz u u2 c D':=
 {t with same:=λhc=>⟨(t.same hc).1,λb B n e a d=>(h hc b e).elim (λq=>(t.same hc).2 b B n q a d) λq=>q B n a d⟩ }
theorem zz.step{u u2:U} {c:Bool} {D:Nat->Prop} (t:zz u u2 c D) {b to:Nat} {B:Bk} {n:Int} (j:u.blocks[b]? =some B) (a:u2.blocks[b]? =some B) (d:B.fin=2) (k:Kw u B.cond n) (l:(if n=0 then B.next[1]? else B.next[0]?)=some to) (D':Nat->Prop):zz u {u2 with blocks:=u2.blocks.set b (MP B to)} true D':=by
 obtain ⟨g,e⟩:=gL.1 a;have m:Un.mu {u2 with blocks:=u2.blocks.set b (MP B to)} < Un.mu u2:=by
  have o:0<u2.blocks.countP (λB=>B.fin == 2):=List.countP_pos_iff.2 ⟨B,zD a,by simp[d]⟩;have:(u2.blocks.set b (MP B to)).countP (λB=>B.fin == 2)=u2.blocks.countP (λB=>B.fin == 2)-1:=by
   rw[List.countP_set g,e];simp[d,MP]
  show _+(u2.blocks.set b (MP B to)).countP _<_;rw[this];unfold Un.mu;show u2.cR.countP _+_<_;omega
 refine⟨⟨t.e.func,t.e.pc,t.e.cR,t.e.cZ,by show(u2.blocks.set _ _).length=_;rw[Hb];exact t.e.len,λi A f=>?_⟩,by have:=t.mu;omega,λ_=>by have:=t.mu;omega,λh=>(nomatch h)⟩;by_cases q:i=b
 ·subst q;rw[j]at f;cases f;exact .inr ⟨d,n,to,k,l,HT g⟩
 ·show(u2.blocks.set b _)[i]? =_\/_/\∃_ _,_/\_/\(u2.blocks.set b _)[i]? =_;rw[CL λz=>q z.symm];exact t.e.jB i A f
open Dm
theorem Ja{A T:List Nat} (c:A.Nodup) (hs:∀x∈A,x∈T):A.length<=T.length:=by
 have h:(A.map T.idxOf).Nodup:=by
  induction A with
  |nil=>simp
  | cons a A f=>
    rw[T9]at c;rw[PR,T9];refine⟨λd=>?_,by simp_all⟩;obtain⟨b,g,e⟩:=E7.1 d;have:=J0 (by simp_all) (by simp_all) e
    simp_all
 have:=gq T.length _ h (by grind)
 simp_all
theorem getD_map{α:Type} (l:List α) (d:α):(List.range l.length).map (λj=>l.getD j d)=l:=by
 refine Uj λj=>?_
 grind
theorem count_range{α:Type} (l:List α) (d:α) (p:α->Bool):l.countP p=((List.range l.length).filter λj=>p (l.getD j d)).length:=by
 conv=>lhs;rw[<-getD_map l d,List.countP_map]
 rw[List.countP_eq_length_filter];rfl
section
variable{u u2 w:U}{kp:Nat->Bool}(g:Good u)(e:EH u u2)(hk:∀b,kp b=true↔∃l,Pt (next u2) b l)(c:Cut u2 kp w){xh:Nat->Int}(Om:∀(v b k:Nat),At u v b k->kp b=false->xh v = -1)
include g e hk c Om
theorem TY:mu (ey w xh)<=mu u2/\((∃v x,u.cR[v]? =some x/\x.op≠2/\stays xh v=false)->mu (ey w xh)<mu u2):=by
 have i:=Ge g e hk c Om;have f:=wG (as:=xh) i;have s:(ey w xh).blocks.countP (λB=>B.fin == 2)<=u2.blocks.countP λB=>B.fin == 2:=by
  show(w.blocks.map (iG w xh)).countP _<=_;rw[List.countP_map,show((λB:Bk=>B.fin == 2) ∘ iG w xh)=λB=>B.fin == 2 from rfl,c.blocks,List.countP_map,count_range u2.blocks HB,List.countP_eq_length_filter];unfold iF;rw[List.filter_filter];refine Ja (UF.filter _) λx d=>?_;obtain⟨k,b⟩:=DG.1 d;rw[rm]at b;exact DG.2 ⟨k,b.1⟩
 have o:(ey w xh).cR.countP (λx=>x.op != 2)=((de w xh).filter λn=>(w.cR.getD n ⟨0,0,0,0,[],0⟩).op != 2).length:=by
  show((de w xh).map _).countP _=_;rw[List.countP_map,List.countP_eq_length_filter];rfl
 have a:∀n∈(de w xh).filter (λn=>(w.cR.getD n ⟨0,0,0,0,[],0⟩).op != 2),n∈(List.range u2.cR.length).filter λj=>(u2.cR.getD j ⟨0,0,0,0,[],0⟩).op != 2:=λn h=>by
  obtain⟨k,b⟩:=DG.1 h;have l:=((ft i).1 k).1;obtain⟨x,d,p,_⟩:=Cl g e c (fg l);refine DG.2 ⟨Mv.2 (by rw[<-c.len];exact l),?_⟩;rw[Au,fg l,VN,p.op]at b;rw[e.cR,Au,d];exact b
 have hc:=count_range u2.cR ⟨0,0,0,0,[],0⟩ λx=>x.op != 2;unfold mu;rw[o];refine⟨by have:=Ja (f.filter _) a;omega,λ⟨v,x,d,b,hs⟩=>?_⟩;have m:=(gL.1 d).1;have r:v∈(List.range u2.cR.length).filter λj=>(u2.cR.getD j ⟨0,0,0,0,[],0⟩).op != 2:=by
  refine DG.2 ⟨Mv.2 (by rw[e.cR];exact m),?_⟩;rw[e.cR,Au,d];simp[b]
 have:=Ja (A:=v::(de w xh).filter λn=>(w.cR.getD n ⟨0,0,0,0,[],0⟩).op != 2) (by
  rw[T9];refine⟨λq=>?_,f.filter _⟩;have:=((ft i).1 (DG.1 q).1).2
  simp_all) λn h=>by
   rcases HS.1 h with rfl|h
   ·exact r
   ·exact a n h
 grind
end
