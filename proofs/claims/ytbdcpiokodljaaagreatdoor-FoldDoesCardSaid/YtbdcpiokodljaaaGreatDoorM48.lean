/- Parts. -/
import Derived.Test.YtbdcpiokodljaaaGreatDoorM33
set_option maxHeartbeats 4000000
namespace Go.Proofs.YtbdcpiokodljaaaGreatDoor.Un
open Dm
section
variable{u:U}{P:Nat->Prop}(g:Gd u P)
theorem zaK{t v j:Nat} {T:Bk} (d:u.blocks[t]? =some T) (a:At u v t j) (f:j<(T.ef.takeWhile (fR u)).length):fR u v=true:=by
 obtain⟨g,b,c⟩:=a;rw[d]at b;cases b;have e:=wAt (p:=fR u) (l:=T.ef);rw[<-e,Wx f]at c;exact Lb (DQ c)
include g
theorem Ni{t v:Nat} {T:Bk} {mN:Option Nat} {s:Rs} {locals:List Int} (a:u.blocks[t]? =some T) (b:s.val.length=u.ef.length) (hv:v ∉ T.ef.takeWhile (fR u)):(kP u locals mN T s).of v=s.of v:=by
 show (xB s.val _).getD v 0=_;rw[A6 _ _ λw c=>by
  obtain⟨k,hk⟩:=nT.1 (wBK _ c);rw[b];exact g.jW w t k ⟨T,a,hk⟩,if_neg hv]
 rfl
theorem zbT{t v:Nat} {T:Bk} {mN:Option Nat} {s:Rs} {locals:List Int} (a:u.blocks[t]? =some T) (b:s.val.length=u.ef.length) (hv:v∈T.ef.takeWhile (fR u)):(kP u locals mN T s).of v=ta u locals mN T s.of v:=by
 show (xB s.val _).getD v 0=_;rw[A6 _ _ λw c=>by
  obtain⟨k,hk⟩:=nT.1 (wBK _ c);rw[b];exact g.jW w t k ⟨T,a,hk⟩,if_pos hv]
omit g in
theorem TC {b t v:Nat} {B T:Bk} (hB:u.blocks[b]? =some B) (hT:u.blocks[t]? =some T) (ht:t∈B.next) (hs:BI u v t (T.ef.takeWhile (fR u)).length) (hn:v ∉ T.ef.takeWhile (fR u)):BI u v b B.ef.length:=by
 obtain⟨c,j,Kj,hc⟩:=hs;rcases hc with⟨rfl,hj⟩|⟨hne,hdm⟩
 ·obtain⟨T',h1,h2⟩:=Kj
  grind[wAt,fR,Wx,DQ]
 ·refine vx hB ⟨c,j,Kj,λl hl=>?_⟩;have htn:t∈next u b:=by unfold next;rw[hB];exact ht
  have:=hdm _ (.step hl htn)
  simp_all
omit g in
theorem UJ {v:Nat} {B:Bk} (hB:u.blocks[0]? =some B) (hs:BI u v 0 (B.ef.takeWhile (fR u)).length):fR u v=true:=by
 obtain⟨c,j,Kj,hc⟩:=hs;rcases hc with⟨rfl,hj⟩|⟨hne,hdm⟩
 ·grind[zaK]
 ·have:=hdm _ .nil
  simp_all
omit g in
theorem TU {b k v z:Nat} (Kj:At u v b k) (h:BI u z b (k+1)):z=v\/(z≠v/\BI u z b k):=by
 obtain⟨c,j,hz,hc⟩:=h;by_cases e:z=v
 ·omega
 refine .inr ⟨e,c,j,hz,?_⟩;rcases hc with⟨rfl,hj⟩|hc
 ·refine .inl ⟨rfl,?_⟩
  grind[absurd,Option.some.inj,At,At]
 simp_all
omit g in
theorem Vd {v z:Nat} {x:Vl} {s s1:Rs} {gw:Int} (ho:qk u gw v x s = .inr s1) (hz:z≠v) (hv:v<s.val.length):s1.of z=s.of z:=by
 unfold qk at ho
 repeat' split at ho
 all_goals cases ho
 all_goals first|rfl|exact(DZ hv).trans (if_neg hz)
omit g in
theorem zaT {v:Nat} {x:Vl} {s s1:Rs} {gw:Int} (ho:qk u gw v x s = .inr s1):s1.val.length=s.val.length:=by
 grind[qk,MC]
def KI(u:U)(b k:Nat)(s:Rs):Prop:=∀(v:Nat) (x:Vl),u.ef[v]? =some x->x.op=2->BI u v b k->s.of v=qo x.n
omit g in
theorem Td {v:Nat} {x:Vl} (hx:u.ef[v]? =some x) (h2:x.op=2):fR u v=false:=by
 unfold fR;rw[hx];show(x.op == 1 ||x.op == 21)=false
 simp_all
omit g in
theorem KI.start {B:Bk} {s:Rs} (hB:u.blocks[0]? =some B):KI u 0 (B.ef.takeWhile (fR u)).length s:=λv x hx h2 hs=>by
 have:=UJ hB hs
 grind[Td]
theorem KI.Cs{b t:Nat} {B T:Bk} {s:Rs} {locals:List Int} (i:u.blocks[b]? =some B) (a:u.blocks[t]? =some T) (j:t∈B.next) (h:KI u b B.ef.length s) (c:s.val.length=u.ef.length):KI u t (T.ef.takeWhile (fR u)).length (kP u locals (some b) T {s with steps:=s.steps+1}):=λv x d e hs=>by
 have f:v ∉ T.ef.takeWhile (fR u):=by grind[Lb,Td]
 rw[Ni g a (by exact c) f];exact h v x d e (by grind[TC])
theorem KI.one{b k v:Nat} {x:Vl} {s e:Rs} {gw:Int} (a:At u v b k) (f:u.ef[v]? =some x) (h:KI u b k s) (l:s.val.length=u.ef.length) (c:qk u gw v x s = .inr e):KI u b (k+1) e:=λz y d i hs=>by
 have hv:=g.jW _ _ _ a;rcases TU a hs with rfl|⟨j,hs⟩
 ·rw[f]at d;cases d;unfold qk at c;rw[if_neg (by omega),if_neg (by omega),if_neg (by omega),if_neg (by omega)]at c;cases c;refine(DZ (by omega)).trans ((if_pos rfl).trans ?_)
  simp_all[Hg,if_pos]
 ·rw[Vd c j (by omega)];exact h z y d i hs
theorem W3{b:Nat} {B:Bk} (a:u.blocks[b]? =some B) (d:B.fin≠3) (s:Rs):∃t,pT B s=some t:=by
 unfold pT;rcases g.fin b B a with⟨h,c⟩|⟨h,c,_⟩|⟨h,_⟩
 ·simp_all
 ·rw[if_neg (by omega),if_pos h];split <;> exact by simp_all
 omega
end
structure Step (u u':U) (β:Nat->Nat) (R:Nat->Prop):Prop where
 st:u'.eh=u.eh
 b0:β 0=0
 r0:R 0
 len:u'.ef.length=u.ef.length
 nV:∀(b:Nat) (B:Bk),u.blocks[b]? =some B->R b->∃a,u'.blocks[β b]? =some a/\a.ef=B.ef/\(B.fin=3->a.fin=3/\a.state=B.state)/\(B.fin≠3->a.fin≠3/\∀(s:Rs) (t:Nat),KI u b B.ef.length s->pT B s=some t->R t/\pT a s=some (β t))
 head:∀v,fR u' v=fR u v
 one:∀(v b k:Nat) (x:Vl),At u v b k->u.ef[v]? =some x->fR u v=false->∃c,u'.ef[v]? =some c/\∀gw s,KI u b k s->qk u' gw v c s=qk u gw v x s
 par:∀(B a:Bk) (locals:List Int) (val:Nat->Int) (v:Nat),u.blocks[0]? =some B->u'.blocks[0]? =some a->v∈B.ef->fR u v=true->ta u' locals none a val v=ta u locals none B val v
 Dz:∀(p t:Nat) (B T d:Bk) (s:Rs) (locals:List Int) (val:Nat->Int) (v:Nat),u.blocks[p]? =some B->R p->KI u p B.ef.length s->pT B s=some t->u.blocks[t]? =some T->u'.blocks[β t]? =some d->v∈T.ef->fR u v=true->ta u' locals (some (β p)) d val v=ta u locals (some p) T val v
section
variable{u u':U}{P:Nat->Prop}(g:Gd u P){β:Nat->Nat}{R:Nat->Prop}(S:Step u u' β R){locals:List Int}{gw:Int}{heap:List Int}{fuel:Nat}
include S
theorem U5(s:Rs) (st:Nat):rz u' s st=rz u s st:=by
 unfold rz;rw[S.st]
include g
theorem Ql{b:Nat} {B:Bk} (o:u.blocks[b]? =some B):∀(l:List Nat) (k:Nat) (s:Rs),B.ef.drop k=l->(∀v∈l,fR u v=false)->KI u b k s->s.val.length=u.ef.length->
  oW u' gw fuel l s=oW u gw fuel l s/\∀d,oW u gw fuel l s = .inr d->KI u b B.ef.length d/\d.val.length=u.ef.length
 | [],k,s,hd,_,hI,hl=>⟨rfl,λd h=>by
   cases h;refine⟨λv x f p hs=>hI v x f p ?_,hl⟩;obtain⟨c,j,a,hc⟩:=hs;refine⟨c,j,a,hc.imp (λ⟨e,r⟩=>⟨e,?_⟩) id⟩
   grind[List.drop_eq_nil_iff]⟩
 | v ::l,k,s,hd,hh,hI,hl=>by
   have hk:k<B.ef.length:=by
     have:=congrArg List.length hd;rw[wB1,Rb]at this;omega
   rw[Yq hk]at hd;obtain⟨hv,i⟩:=List.cons.inj hd;have a:At u v b k:=⟨B,o,by rw[<-hv];exact hO hk⟩
   have m:=g.jW _ _ _ a;have f:=hO m;generalize u.ef[v]=x at f;obtain⟨t,n,q⟩:=S.one v b k x a f (by simp_all);unfold oW;rw[f,n];simp only[q gw s hI];by_cases hf:fuel<=s.steps
   ·simp_all
   simp only[if_neg hf]
   cases hq:qk u gw v x s with
   |inl e=>simp_all
   |inr d=>exact Ql o l (k+1) d i (by simp_all) (hI.one g a f hl hq) ((zaT hq).trans hl)
theorem TV:∀(Cu:Nat) (mN:Option Nat) (b:Nat) (B:Bk) (s:Rs),u.blocks[b]? =some B->R b->s.val.length=u.ef.length->
  ((mN=none/\b=0)\/∃(p:Nat) (P:Bk) (i:Rs),mN=some p/\u.blocks[p]? =some P/\R p/\KI u p P.ef.length i/\i.val.length=u.ef.length/\pT P i=some b/\s = {i with steps:=i.steps+1})->
  runM u' locals gw fuel Cu (mN.map β) (β b) s=runM u locals gw fuel Cu mN b s
 |0,_,_,_,_,_,_,_,_=>rfl
 | Cu+1,mN,b,B,s,hB,hR,hl,he=>by
   obtain ⟨j,h,hv,H,I⟩:=S.nV b B hB hR;have k:fR u' = fR u:=funext S.head;have N:∀v∈B.ef,fR u v=true->ta u' locals (mN.map β) j s.of v=ta u locals mN B s.of v:=λv E F=>by
     rcases he with⟨rfl,rfl⟩|⟨p,Q,i,rfl,G,m,n,_,c,rfl⟩
     ·rw[S.b0]at h
      exact S.par B j locals _ v hB h E F
     ·exact S.Dz p b Q B j i locals _ v G m n c hB h E F
   have J:kP u' locals (mN.map β) j s=kP u locals mN B s:=by
     unfold kP;rw[k,hv]
     have:(B.ef.takeWhile (fR u)).map (λv=>(v,ta u' locals (mN.map β) j s.of v))=(B.ef.takeWhile (fR u)).map λv=>(v,ta u locals mN B s.of v):=
       by grind[Yo,wBK,Lb]
     simp only[this]
   have q:KI u b (B.ef.takeWhile (fR u)).length (kP u locals mN B s):=by
     rcases he with⟨rfl,rfl⟩|⟨p,Q,i,rfl,G,m,n,K,c,rfl⟩
     ·exact KI.start hB
     ·grind[KI.Cs,pT,DQ]
   have r:(kP u locals mN B s).val.length=u.ef.length:=(A7 _ _).trans hl;have w:B.ef.drop (B.ef.takeWhile (fR u)).length=B.ef.dropWhile (fR u):=by
     have e:=wAt (p:=fR u) (l:=B.ef);generalize B.ef.takeWhile (fR u)=a at e⊢;generalize B.ef.dropWhile (fR u)=d at e⊢;rw[<-e];exact List.drop_left' rfl
   obtain⟨r1,L⟩:=Ql g S (gw:=gw) (fuel:=fuel) hB _ _ _ w (Fq g hB) q r;unfold runM;rw[hB,h];simp only;rw[k,hv,J,r1]
   cases hq:oW u gw fuel (B.ef.dropWhile (fR u)) (kP u locals mN B s)with
   |inl e=>rfl
   | inr o =>
     obtain⟨x,y⟩:=L o hq;simp only;by_cases hf:fuel<=o.steps
     ·simp_all
     rw[if_neg hf,if_neg hf];by_cases f:B.fin=3
     ·obtain⟨z,A⟩:=H f
      rw[if_pos f,if_pos z,A,U5 S]
     ·obtain ⟨z,A⟩:=I f
      rw[if_neg f,if_neg z]
      cases c:pT B o with
      | none=>
        obtain⟨t,M⟩:=W3 g hB f o
        simp_all
      | some t=>
        obtain ⟨C,e⟩:=A o t x c;rw[e];simp only;have M:t∈B.next:=by
          unfold pT at c
          repeat' split at c
          all_goals grind
        have D:=g.nx b t (by grind[next]);exact TV Cu (some b) t _ _ (hO D) C y (by grind)
end
open Dm
theorem Ex.As.refl:∀e:Ex,e.As e
 | .Ac=>trivial
 | .left ..=>⟨ju _,rfl,rfl⟩
 | .stuck=>trivial
theorem Ex.As.trans{a b c:Ex} (h:a.As b) (h':b.As c):a.As c:=by
 cases a <;> cases b <;> cases c <;> simp_all[Ex.As];omega
def xQ(u u':U):Prop:=∀(locals:List Int) (gw:Int) (fuel Cu:Nat) (heap:List Int),(runM u locals gw fuel Cu none 0 (qx u heap)).As (runM u' locals gw fuel Cu none 0 (qx u' heap))
theorem xQ.trans{a b c:U}(h:xQ a b)(h':xQ b c):xQ a c:=λl w f g p=>(h l w f g p).trans (h' l w f g p)
theorem xQ.refl(a:U):xQ a a:=λ_ _ _ _ _=> .refl _
theorem Step.KD{u u':U} {P:Nat->Prop} (g:Gd u P) {β:Nat->Nat} {R:Nat->Prop} (S:Step u u' β R):xQ u u':=λlocals gw fuel Cu heap=>by
 have e:qx u' heap=qx u heap:=by
  unfold qx;rw[S.len]
 have:=TV g S (locals:=locals) (gw:=gw) (fuel:=fuel) Cu none 0 _ (qx u heap) (hO g.L2) S.r0 (by simp[qx]) (by simp_all);rw[S.b0]at this;rw[e,show(none:Option Nat)=(none:Option Nat).map β from rfl,this];exact .refl _
def VX(n:Int):Vl:=⟨2,0,0,n,[],0⟩
def HH(u:U)(v:Nat)(n:Int):U:={u with ef:=u.ef.set v (VX n)}
def Kw(u:U)(v:Nat)(n:Int):Prop:=∃y,u.ef[v]? =some y/\y.op=2/\qo y.n=n
section
variable{u:U}{v:Nat}{x:Vl}{n:Int}
theorem BA(a:u.ef[v]? =some x) {w:Nat}:(HH u v n).ef[w]? =if w=v then some (VX n) else u.ef[w]?:=by
 grind[kj,HH]
theorem pP(a:u.ef[v]? =some x) {w:Nat} {y:Vl} (h:(HH u v n).ef[w]? =some y):(w=v/\y=VX n)\/(w≠v/\u.ef[w]? =some y):=by
 grind[BA]
theorem UX(a:u.ef[v]? =some x) {w:Nat} (h:oJ u w):oJ (HH u v n) w:=by
 obtain⟨y,b,c⟩:=h;by_cases e:w=v
 ·exact⟨VX n,by simp_all[BA,if_pos],rfl⟩
 ·exact⟨y,by rw[BA a,if_neg e];exact b,c⟩
theorem Ya(g:Good u) (f:u.ef[v]? =some x) (E:3<=x.op) (A:x.op<=14):Good (HH u v n):=by
 have G:∀{w:Nat},oJ u w->oJ (HH u v n) w:=UX f;have p:(HH u v n).ef.length=u.ef.length:=MC
 refine
  { nv:=by rw[p];exact g.nv
    L2:=g.L2
    nb:=g.nb
    ns:=g.ns
    st:=λs fs hs=>?_
    FU:=λw F=>g.FU w (by omega)
    KZ:=g.KZ
    jW:=λw b k h=>by rw[p];exact g.jW w b k h
    Cs:=λw z b k y t e i j C m=>?_
    par:=λw b k y e i j=>?_
    Dz:=λw b k y B e i j o=>?_
    op:=λw y d=>?_
    use:=λw y d=>?_
    leave:=λw y d=>?_
    putAt:=λw y d=>?_
    param:=λw y d e=>?_
    fin:=λb B o=>?_
    nx:=g.nx
    eQ:=g.eQ
    Di:=g.Di
    IB:=g.IB
    reach:=g.reach
    DD:=λw b k y e d=>?_
    DO:=λw b k y B e d=>?_
    GW:=λw b k y fs e d=>?_
    El:=g.El
    Hc:=g.Hc}
 ·obtain⟨e,i,j⟩:=g.st s fs hs
  grind
 ·rcases pP f j with⟨rfl,rfl⟩|⟨_,q⟩
  ·cases m
  ·rcases pP f C with⟨rfl,rfl⟩|⟨_,D⟩
   ·have:=g.Cs w z b k y x e i q f m
    grind[ir]
   ·exact g.Cs w z b k y t e i q D m
 ·rcases pP f i with⟨rfl,rfl⟩|⟨_,i⟩
  ·cases j
  ·exact g.par w b k y e i j
 ·rcases pP f i with⟨rfl,rfl⟩|⟨_,i⟩
  ·cases j
  ·exact g.Dz w b k y B e i j o
 ·rcases pP f d with⟨rfl,rfl⟩|⟨_,d⟩
  ·exact⟨show 1<=2 by decide,show 2<=23 by decide⟩
  ·exact g.op w y d
 ·rcases pP f d with⟨rfl,rfl⟩|⟨_,d⟩
  ·exact λz l=>nomatch l
  ·exact λz l=>G (g.use w y d z l)
 ·rcases pP f d with⟨rfl,rfl⟩|⟨_,d⟩
  ·exact λh=>nomatch h
  ·exact g.leave w y d
 ·rcases pP f d with⟨rfl,rfl⟩|⟨_,d⟩
  ·exact λh=>nomatch h
  ·exact g.putAt w y d
 ·rcases pP f d with⟨rfl,rfl⟩|⟨_,d⟩
  ·cases e
  ·obtain⟨a,b,c⟩:=g.param w y d e;refine⟨a,b,λz t r i=>?_⟩;rcases pP f r with⟨rfl,rfl⟩|⟨_,r⟩
   ·cases i
   simp_all
 ·rcases g.fin b B o with h|⟨e,i,j⟩|h
  ·omega
  ·simp_all
  ·exact .inr (.inr h)
 ·rcases pP f d with⟨rfl,rfl⟩|⟨_,d⟩
  ·exact λ_ z l=>nomatch l
  ·exact g.DD w b k y e d
 ·rcases pP f d with⟨rfl,rfl⟩|⟨_,d⟩
  ·exact λh=>nomatch h
  ·exact g.DO w b k y B e d
 ·rcases pP f d with⟨rfl,rfl⟩|⟨_,d⟩
  ·exact λh=>nomatch h
  ·exact g.GW w b k y fs e d
structure Fv (u:U) (x:Vl) (n:Int):Prop where
 lo:3<=x.op
 hi:x.op<=14
 kn:∃a b:Int,Kw u x.a a/\(¬(x.op=8\/x.op=9)->Kw u x.b b)/\qo n=BC x.op a b
theorem Xb(g:Good u) (c:u.ef[v]? =some x) (f:Fv u x n):Step u (HH u v n) id λ_=>True:=by
 obtain ⟨N,A,a,b,O,C,D⟩:=f;have E:∀w,fR (HH u v n) w=fR u w:=λw=>by
  unfold fR;rw[BA c];by_cases e:w=v
  ·subst e;rw[if_pos rfl,c];show false=(x.op == 1 ||x.op == 21)
   grind
  simp_all
 have P:∀(B:Bk) (locals:List Int) (mN:Option Nat) (val:Nat->Int) (w:Nat),fR u w=true->ta (HH u v n) locals mN B val w=ta u locals mN B val w:=λB locals mN val w d=>by
  unfold ta;rw[BA c,if_neg λe=>by
   subst e;unfold fR at d;rw[c]at d;have d:(x.op == 1 ||x.op == 21)=true:=d
   grind]
 refine⟨rfl,rfl,trivial,MC,λb B o _=>⟨B,o,rfl,by omega,by simp_all⟩,E,λw b' k y l q d=>?_,λB F locals val w o i _ d=>?_,λp t B T G s locals val w _ _ _ _ Q j _ d=>?_⟩
 ·by_cases e:w=v
  ·subst e;rw[c]at q;cases q;refine⟨VX n,by rw[BA c,if_pos rfl],λgw s H=>?_⟩;have I:∀z m,z∈iP x->Kw u z m->s.of z=m:=λz m J ⟨y,K,L,M⟩=>by
    rw[<-M];exact H z y K L (g.DD w b' k x l c (by omega) z J)
   have R:x.op=8\/x.op=9\/two x.op=true:=by unfold two;simp;omega
   have S:nW x.op=true\/two x.op=true:=by unfold two nW;simp;omega
   have eV:Hg x s.of s.heap=qo n:=by
    rw[D];unfold Hg;rw[if_neg (by omega),if_neg (by omega),if_neg (by omega),if_neg (by omega),if_neg (by omega)];have r:s.of x.a=a:=by grind[EK]
    by_cases h:x.op=8\/x.op=9
    ·rw[if_pos h,r]
     grind[BC]
    ·rw[if_neg h,r,I _ _ (by grind[EK]) (C h)]
   rw[show qk (HH u w n) gw w (VX n) s = .inr {s with val:=s.val.set w (qo n),steps:=s.steps+1} from rfl];unfold qk
   grind
  ·exact⟨y,by simp_all[BA,if_neg],λ_ _ _=>by rfl⟩
 ·have i:u.blocks[0]? =some F:=i
  simp_all
 ·have j:u.blocks[t]? =some G:=j
  simp_all
theorem Yf(g:Good u)(a:u.ef[v]? =some x)(f:Fv u x n):xQ u (HH u v n):=(Xb g a f).KD g
end
open Dm
structure Mn (u u2:U):Prop where
 func:u2.func=u.func
 pc:u2.pc=u.pc
 ef:u2.ef=u.ef
 eh:u2.eh=u.eh
 len:u2.blocks.length=u.blocks.length
 nV:∀(b:Nat) (B:Bk),u.blocks[b]? =some B->u2.blocks[b]? =some B\/(B.fin=2/\∃(n:Int) (t:Nat),Kw u B.cond n/\(if n=0 then B.next[1]? else B.next[0]?)=some t/\u2.blocks[b]? =some {B with fin:=1,cond:=0,next:=[t]})
theorem Pt.suffix{nx:Nat->List Nat} {x:Nat}:∀{b l},Pt nx b l->x∈l->∃a,Pt nx x (x::a)/\(x::a) <:+ l
 | _,_,.nil,h=>by
   obtain rfl:x=0:=by simp_all
   exact⟨[],.nil,List.suffix_refl _⟩
 | _,_,.step (p:=p) (b:=b) (l:=l) h e,c=>by
   rcases Pd.1 c with rfl|c
   ·exact⟨l,.step h e,List.suffix_refl _⟩
   ·obtain⟨a,d,f⟩:=Pt.suffix h c
    exact⟨a,d,f.trans (List.suffix_cons _ _)⟩
section
variable{u u2 w:U}{kp:Nat->Bool}(g:Good u)(e:Mn u u2)(hk:∀b,kp b=true↔∃l,Pt (next u2) b l)(c:Cut u2 kp w)
include e
theorem FZ{b:Nat} {B:Bk} (h:u2.blocks[b]? =some B):∃A,u.blocks[b]? =some A/\B.ef=A.ef/\B.eQ=A.eQ/\B.state=A.state/\(B=A\/(A.fin=2/\∃(n:Int) (t:Nat),Kw u A.cond n/\(if n=0 then A.next[1]? else A.next[0]?)=some t/\B = {A with fin:=1,cond:=0,next:=[t]})):=by
 have a:=(kj.1 h).1;rw[e.len]at a;have c:=hO a;refine⟨_,c,?_⟩;rcases e.nV b _ c with d|⟨f,n,t,g,i,j⟩
 ·grind
 grind
theorem MM{v b k:Nat}:At u2 v b k↔At u v b k:=by
 constructor
 ·grind[FZ,At]
 ·rintro⟨A,c,a⟩;rcases e.nV b A c with d|⟨_,n,t,_,_,f⟩
  ·exact⟨A,d,a⟩
  ·exact⟨_,f,a⟩
theorem Nk{b t:Nat} (h:t∈next u2 b):t∈next u b:=by
 unfold next at h
 split at h
 ·rename_i B a;obtain⟨A,c,_,_,_,d⟩:=FZ e a;unfold next
  grind
 ·cases h
theorem zde:∀{b l},Pt (next u2) b l->Pt (next u) b l
 |_,_,.nil=> .nil
 |_,_,.step h a=> .step (zde h) (Nk e a)
include g
theorem zf4{b:Nat} {l:List Nat} (h:Pt (next u2) b l):b<u.blocks.length:=by
 cases h with
 |nil=>exact g.L2
 |step h a=>exact g.nx _ _ (Nk e a)
include hk
theorem Wy{b:Nat}(h:kp b=true):b<u.blocks.length:=let⟨_,hl⟩:=(hk b).1 h;zf4 g e hl
omit g e in
theorem zdU:kp 0=true:=(hk 0).2 ⟨_,.nil⟩
omit g e in
theorem FL{b t:Nat}(h:kp b=true)(ht:t∈next u2 b):kp t=true:=let⟨_,hl⟩:=(hk b).1 h;(hk t).2 ⟨_,.step hl ht⟩
omit g in
theorem KO {a b:Nat} (h:kp b=true) (hd:qM (next u) a b):kp a=true:=by
 obtain⟨l,hl⟩:=(hk b).1 h;obtain⟨l',h1,_⟩:=Pt.suffix hl (hd l (zde e hl))
 grind
omit g e hk in
theorem NW {n b:Nat} (hb:b<n) (h:kp b=true):((List.range n).filter kp)[jR kp b]? =some b:=by
 have h1:(List.range n)[b]? =some b:=by simp[hb]
 have:=MU (p:=kp) h1 h;unfold jR
 grind
omit g e hk in
theorem zf {a b:Nat} (ha:kp a=true) (hb:kp b=true) (h:jR kp a=jR kp b):a=b:=by
 have h1:=NW (n:=a+b+1) (by omega) ha
 grind[NW,Option.some.inj]
omit g e in
theorem Sa:jR kp 0=0:=by
 unfold jR;rw[if_pos (zdU hk)];rfl
include c
theorem G9{b:Nat} {B:Bk} (h:kp b=true) (a:u2.blocks[b]? =some B):w.blocks[jR kp b]? =some {B with next:=B.next.map (jR kp),eQ:=kR u2 kp b B.eQ}:=by
 rw[c.blocks,AX];unfold mz;rw[e.len,NW (Wy g e hk h) h]
 grind[EE]
omit g hk e in
theorem Ll {i:Nat} {C:Bk} (h:w.blocks[i]? =some C):∃b B,kp b=true/\u2.blocks[b]? =some B/\i=jR kp b/\C = {B with next:=B.next.map (jR kp),eQ:=kR u2 kp b B.eQ}:=by
 rw[c.blocks,AX]at h
 cases hb:(mz u2 kp)[i]? with
 |none=>simp_all
 | some b=>
   rw[hb]at h;obtain⟨h1,h2⟩:=LC.1 (DQ hb);have h1:=Ve.1 h1;refine⟨b,u2.blocks[b],h2,hO h1,?_,?_⟩
   ·exact vY (wBZ.filter kp) hb (NW h1 h2)
   grind[Option.some.inj,EE,hO]
theorem Sy{v i k:Nat}:At w v i k↔∃b,kp b=true/\i=jR kp b/\At u v b k:=by
 constructor
 ·rintro⟨C,a,j⟩;obtain⟨b,B,d,f,h,rfl⟩:=Ll c a;exact⟨b,d,h,(MM e).1 ⟨B,f,j⟩⟩
 ·rintro⟨b,a,rfl,d⟩;obtain⟨B,f,h⟩:=(MM e).2 d;exact⟨_,G9 g e hk c a f,h⟩
theorem RO{b:Nat} (h:kp b=true):next w (jR kp b)=(next u2 b).map (jR kp):=by
 have a:=Wy g e hk h;rw[<-e.len]at a;have d:=hO a;unfold next
 rw[G9 g e hk c h d,d]
theorem zf3{b:Nat} {l:List Nat} (h:Pt (next u2) b l):Pt (next w) (jR kp b) (l.map (jR kp)):=by
 induction h with
 | nil=>
   rw[wBe,YE,Sa hk]
   exact .nil
 |step h c a=>exact .step a (by grind[RO,wBn])
theorem ZI{i:Nat} {m:List Nat} (h:Pt (next w) i m):∃b l,i=jR kp b/\m=l.map (jR kp)/\Pt (next u2) b l:=by
 induction h with
 |nil=>exact⟨0,[0],(Sa hk).symm,by rw[wBe,YE,Sa hk],.nil⟩
 | step h a d=>
   obtain⟨b,l,rfl,rfl,f⟩:=d;rw[RO g e hk c (by grind)]at a;obtain⟨t,j,rfl⟩:=Mv.1 a;exact⟨t,t::l,rfl,rfl,.step f j⟩
theorem Q9{a b:Nat} (d:kp b=true) (h:qM (next u) a b):qM (next w) (jR kp a) (jR kp b):=λm f=>by
 obtain⟨b',l,i,rfl,j⟩:=ZI g e hk c f;obtain rfl:=zf d (by grind) i;exact wBn (h l (zde e j))
theorem zal{v b k:Nat} (f:kp b=true) (h:BI u v b k):BI w v (jR kp b) k:=by
 obtain⟨a,j,l,d⟩:=h;rcases d with⟨rfl,d⟩|⟨d,i⟩
 ·exact⟨_,j,(Sy g e hk c).2 (by grind),.inl ⟨rfl,d⟩⟩
 ·have m:=KO e hk f i;exact⟨_,j,(Sy g e hk c).2 (by grind),.inr ⟨λq=>d (zf m f q),Q9 g e hk c f i⟩⟩
theorem LI{v b:Nat} (f:kp b=true) (h:rX u v b):rX w v (jR kp b):=by
 obtain⟨a,j,d,i⟩:=h;exact⟨_,j,(Sy g e hk c).2 ⟨a,KO e hk f i,rfl,d⟩,by grind[Q9]⟩
end
open Dm
structure Wt (c x:Vl):Prop where
 op:c.op=x.op
 a:c.a=x.a
 b:c.b=x.b
 n:c.n=x.n
 state:c.state=x.state
 ne:x.op≠21->c=x
 args:∀a∈c.args,a∈x.args
theorem Wt.iP{b x:Vl} (h:Wt b x):∀a∈iP b,a∈iP x:=by
 by_cases e:x.op=21
 ·unfold Un.iP;rw[h.op,if_pos e,if_pos e];exact h.args
 ·rw[h.ne e]
  simp_all
theorem SY{α:Type} (ps:List Nat) (r:Nat->Bool) (f:Nat->α):((List.range ps.length).filter λj=>r (ps.getD j 0)).map (λj=>f (ps.getD j 0))=(ps.filter r).map f:=by
 have a:=congrArg (λl=>(l.filter r).map f) (ON ps 0);simp only[List.filter_map,List.map_map]at a;exact a
theorem xX(L:List Bk) (b:Nat) (h:∀B∈L,B.next.Nodup):∀n,n<=L.length->kh (L.take n) 0 b=(List.range n).filter λp=>(match L[p]? with|some B=>B.next|none=>[]).contains b
 |0,_=>rfl
 | n + 1,hn=>by
   have a:=hO (show n<L.length by omega);rw[OX (by omega),rA,xX L b h n (by omega),wBO,wB3];congr 1;have c:=h _ (AU (show n<L.length by omega));simp only[kh,JY,NM,zO,wBk (by omega)];have hs:(match L[n]? with|some B=>B.next|none=>[])=L[n].next:=by rw[a]
   rw[wB0,List.filter_nil,hs];generalize L[n].next=l at c;have e:l.filter (λx=>decide (x=b))=if b∈l then[b] else[]:=by
     clear a hs
     induction l with
     |nil=>simp
     | cons t l d=>
       grind
   grind
section
variable{u u2 w:U}{kp:Nat->Bool}(g:Good u)(e:Mn u u2)(hk:∀b,kp b=true↔∃l,Pt (next u2) b l)(c:Cut u2 kp w)
include g
theorem Wr{b:Nat} {B:Bk} (a:u.blocks[b]? =some B):B.next.Nodup:=by
 rcases g.fin b B a with⟨h,c⟩|⟨h,c,_⟩|⟨h,c,_⟩
 ·grind
 ·have hc:=g.IB b B a h
  match hq:B.next,c with
  | [s,t],_=>
    rw[wBl];refine⟨λf=>?_,by simp⟩;obtain rfl:s=t:=by simp_all
    have d:=hc s (by rw[hq];simp);have e:=(kj.1 a).1;unfold ahead at d;rw[<-Zb b u.blocks,Yq e,rA,K8]at d
    grind[kh,Option.some.inj,hO]
 simp_all
theorem Wc(b:Nat):ahead u b=(List.range u.blocks.length).filter λp=>(next u p).contains b:=by
 have:=xX u.blocks b (by grind[nT,Wr]) _ (ju _);rw[Lp]at this;exact this
include e
theorem zaL{b:Nat} {B:Bk} (a:u2.blocks[b]? =some B):B.next.Nodup:=by
 obtain⟨A,d,_,_,_,c⟩:=FZ e a;rcases c with rfl|⟨_,n,t,_,_,rfl⟩
 ·grind[Wr]
 ·simp
include hk c
theorem Wh{i:Nat} {C:Bk} (h:w.blocks[i]? =some C):C.next.Nodup:=by
 obtain⟨b,B,d,f,rfl,rfl⟩:=Ll c h;have a:=zaL g e f;have j:∀t∈B.next,kp t=true:=λt n=>FL hk d (by grind[next]);show(B.next.map (jR kp)).Nodup;generalize B.next=l at a j
 induction l with
 |nil=>simp
 | cons t l o=>
   rw[wBl]at a;rw[wBe,wBl];refine⟨λk=>?_,by simp_all⟩;obtain⟨s,p,m⟩:=Mv.1 k;obtain rfl:=zf (by simp_all) (by simp_all) m
   simp_all
omit g hk in
theorem RA:List.range w.blocks.length=((List.range u.blocks.length).filter kp).map (jR kp):=by
 have hl:w.blocks.length=((List.range u.blocks.length).filter kp).length:=by
  rw[c.blocks,EN];unfold mz;rw[e.len]
 refine wBR λi=>?_;rw[AX,hl]
 cases hb:((List.range u.blocks.length).filter kp)[i]? with
 | none=>
   simp_all
 | some b=>
   have hi:=(kj.1 hb).1;obtain⟨h1,h2⟩:=LC.1 (DQ hb);have:=vY (wBZ.filter kp) hb (NW (Ve.1 h1) h2)
   simp_all
theorem MV{b:Nat} {B:Bk} (h:kp b=true) (d:u.blocks[b]? =some B):ahead w (jR kp b)=kR u2 kp b B.eQ:=by
 have a:=xX w.blocks (jR kp b) (by grind[nT,Wh]) _ (ju _);rw[Lp]at a;show kh w.blocks 0 _=_;rw[a,RA e c];have f:=SY B.eQ (λp=>kp p&&(next u2 p).contains b) (jR kp);show _=((List.range B.eQ.length).filter _).map _;rw[f,g.eQ b B d,Wc g,List.filter_map,List.filter_filter,List.filter_filter];congr 1;refine List.filter_congr λp hp=>?_
 cases hkp:kp p with
 |false=>simp
 | true=>
   show((next w (jR kp p)).contains (jR kp b)&&true)=_;rw[RO g e hk c hkp,Ue];simp only[Bool.and_true,wBc,yl,wBQ,Mv];constructor
   ·rintro⟨t,i,j⟩
    obtain rfl:=zf (FL hk hkp i) h j
    grind[Nk]
   grind
omit hk in
theorem Mo {v:Nat} {x:Vl} (hx:u.ef[v]? =some x):∃x',w.ef[v]? =some x'/\Wt x' x/\∀(b k:Nat) (B:Bk),x.op=21->At u v b k->kp b=true->u.blocks[b]? =some B->x'.args=pD u2 kp b B.eQ x.args:=by
 have hx2:u2.ef[v]? =some x:=by rw[e.ef];exact hx
 by_cases h:x.op=21/\∃b k,At u2 v b k/\kp b=true
 ·obtain ⟨h1,b,k,h2,h3⟩:=h;obtain⟨B,hB,hv⟩:=id h2;obtain⟨A,hA,_,hp,_⟩:=FZ e hB;refine⟨_,c.Dz v b k x B h2 hx2 h1 h3 hB,⟨rfl,rfl,rfl,rfl,rfl,by omega,λa ha=>?_⟩,λb' k' B' _ zbB _ hB'=>?_⟩
  ·obtain⟨j,hj,rfl⟩:=Mv.1 ha;have hj:=Ve.1 (LC.1 hj).1;have hlen:=(g.Dz v b k x A ((MM e).1 h2) hx h1 hA).2
   simp_all
  ·obtain⟨rfl,_⟩:=g.KZ _ _ _ _ _ zbB ((MM e).1 h2)
   simp_all
 ·refine⟨x,c.same v x hx2 h,⟨rfl,rfl,rfl,rfl,rfl,λ_=>rfl,λ_ h=>h⟩,λb k B h1 h2 h3 _=>?_⟩;exact(h ⟨h1,b,k,(MM e).2 h2,h3⟩).elim
omit hk in
theorem JU {v:Nat} {x':Vl} (hx:w.ef[v]? =some x'):∃x,u.ef[v]? =some x/\Wt x' x/\∀(b k:Nat) (B:Bk),x.op=21->At u v b k->kp b=true->u.blocks[b]? =some B->x'.args=pD u2 kp b B.eQ x.args:=by
 have hl:=(kj.1 hx).1;rw[c.len,e.ef]at hl
 grind[hO,Mo]
omit hk in
theorem WL {v:Nat}:oJ w v↔oJ u v:=by
 constructor
 ·rintro⟨x',h1,h2⟩;obtain⟨x,h3,h4,_⟩:=JU g e c h1;exact⟨x,h3,by rw[<-h4.op];exact h2⟩
 ·rintro⟨x,h1,h2⟩;obtain⟨x',h3,h4,_⟩:=Mo g e c h1;exact⟨x',h3,by rw[h4.op];exact h2⟩
theorem NO{as:Nat->Int} (VN:∀(v b k:Nat),At u v b k->kp b=false->as v = -1):Gd w λv=>stays as v=true:=by
 have S:w.ef.length=u.ef.length:=by rw[c.len,e.ef]
 have I:w.eh=u.eh:=by rw[c.eh,e.eh]
 have aj:w.blocks.length<=u.blocks.length:=by
  have:=congrArg List.length (RA e c);rw[UB,EN]at this;have:=wBD kp (List.range u.blocks.length);rw[UB]at this;omega
 have h0:jR kp 0=0:=Sa hk;have k0:=zdU hk;have V:=@JU u u2 w kp g e c;have A:=@Sy u u2 w kp g e hk c;have G:=@WL u u2 w kp g e c;have vb:∀{i:Nat} {C:Bk},w.blocks[i]? =some C->∃b B,kp b=true/\u.blocks[b]? =some B/\i=jR kp b/\C.ef=B.ef/\C.eQ=kR u2 kp b B.eQ/\C.state=B.state/\((C.fin=B.fin/\C.cond=B.cond/\C.next=B.next.map (jR kp)/\next u2 b=B.next)\/(C.fin=1/\C.next.length=1)):=λ{i C} h=>by
  obtain⟨b,B,F,K,r,rfl⟩:=Ll c h;obtain⟨P,T,h5,h6,h7,h8⟩:=FZ e K;refine⟨b,P,F,T,r,h5,by rw[<-h6],h7,?_⟩;rcases h8 with rfl|⟨_,n,t,_,_,rfl⟩
  ·exact .inl ⟨rfl,rfl,rfl,by grind[next]⟩
  simp_all
 refine
  { nv:=by rw[S];exact g.nv
    L2:=?_
    nb:=by have:=g.nb;omega
    ns:=by rw[I];exact g.ns
    st:=λs fs hs=>?_
    FU:=λv hv hP=>?_
    KZ:=λv b k b' k' h h'=>?_
    jW:=λv b k h=>?_
    Cs:=λv z b k x y F K D hy hh=>?_
    par:=λv b k x F D K=>?_
    Dz:=λv b k x B F D K H=>?_
    op:=λv x D=>?_
    use:=λv x D z U=>?_
    leave:=λv x D L=>?_
    putAt:=λv x D ab=>?_
    param:=λv x D F=>?_
    fin:=λb C J=>?_
    nx:=λb t W=>?_
    eQ:=λb C J=>?_
    Di:=?_
    IB:=λb C J K t W=>?_
    reach:=λb hb=>?_
    DD:=λv b k x F D E z U=>?_
    DO:=λv b k x C F D E J j z p Q hp=>?_
    GW:=λv b k x fs F D L M z U=>?_
    El:=λb C J K=>?_
    Hc:=λb C fs J r M z U=>?_}
 ·have L:=g.L2;rw[<-e.len]at L;have:=(kj.1 (G9 g e hk c k0 (hO (show 0<u2.blocks.length from L)))).1;omega
 ·rw[I]at hs;obtain⟨F,K,r⟩:=g.st s fs hs
  grind
 ·rw[S]at hv;obtain⟨b,k,Y⟩:=g.FU v hv trivial;refine⟨jR kp b,k,A.2 ⟨b,?_,rfl,Y⟩⟩
  cases hb:kp b with
  |true=>rfl
  | false=>
    have:=VN v b k Y hb
    simp_all[stays,IE]
 ·obtain⟨a,F,rfl,r⟩:=A.1 h;obtain⟨a',ak,rfl,ac⟩:=A.1 h';obtain⟨rfl,rfl⟩:=g.KZ _ _ _ _ _ r ac;omega
 ·rw[S];obtain⟨a,_,_,r⟩:=A.1 h;exact g.jW _ _ _ r
 ·obtain⟨a,o,rfl,r⟩:=A.1 F;obtain⟨a',ae,T,h5⟩:=A.1 K;obtain rfl:=zf o ae T;obtain⟨f,d,m,_⟩:=V D;obtain⟨y0,X,sy,_⟩:=V hy;rw[sy.op];exact g.Cs v z a k f y0 r h5 d X (by rw[<-m.op];exact hh)
 ·obtain⟨a,o,rfl,r⟩:=A.1 F;obtain⟨f,d,m,_⟩:=V D;rw[g.par v a k f r d (by rw[<-m.op];exact K)];exact h0
 ·obtain⟨a,o,rfl,r⟩:=A.1 F;obtain⟨f,d,m,sp⟩:=V D;obtain⟨a',P,k2,N,T,_,Z,_⟩:=vb H;obtain rfl:=zf o k2 T;have E:f.op=21:=by rw[<-m.op];exact K
  refine⟨λq=>(g.Dz v a k f P r d E N).1 (by grind[zf]),?_⟩
  grind[pD,kR,EN]
 ·obtain⟨f,d,m,_⟩:=V D;rw[m.op];exact g.op v f d
 ·obtain⟨f,d,m,_⟩:=V D;exact G.2 (g.use v f d z (m.iP z U))
 ·obtain⟨f,d,m,_⟩:=V D;rw[I,m.state];exact g.leave v f d (by rw[<-m.op];exact L)
 ·obtain⟨f,d,m,_⟩:=V D;have aa:f.op=20:=by rw[<-m.op];exact ab
  rw[m.ne (by omega)];exact g.putAt v f d aa
 ·obtain⟨f,d,m,_⟩:=V D;obtain⟨q1,q2,q3⟩:=g.param v f d (by rw[<-m.op];exact F);rw[m.n];refine⟨q1,q2,λz y hy ag ah=>?_⟩;obtain⟨y0,X,sy,_⟩:=V hy;exact q3 z y0 X (by rw[<-sy.op];exact ag) (by rw[<-sy.n];exact ah)
 ·obtain ⟨b0,B,o,H,_,_,_,q3,⟨O,q5,q6,_⟩|O⟩:=vb J
  ·rw[O,q5,q6,q3,I];rcases g.fin b0 B H with⟨r1,r2⟩|⟨r1,r2,r3⟩|⟨r1,r2,r3⟩
   ·simp_all
   ·simp_all
   simp_all
  omega
 ·unfold next at W
  split at W
  ·rename_i C J;obtain⟨b0,B,o,H,_,rfl⟩:=Ll c J;obtain⟨t0,R,rfl⟩:=Mv.1 W;have kt:=FL hk o (t:=t0) (by grind[next]);have L:=Wy g e hk kt;rw[<-e.len]at L;exact(kj.1 (G9 g e hk c kt (hO L))).1
  ·cases W
 ·obtain⟨b0,B,o,H,rfl,_,q2,_⟩:=vb J
  grind[MV]
 ·have H:=hO (show 0<u.blocks.length from g.L2);have:=MV g e hk c k0 H;rw[h0,g.eQ 0 _ H,g.Di]at this;rw[this];rfl
 ·obtain ⟨b0,B,o,H,rfl,_,_,_,⟨O,_,q6,q7⟩|⟨O,_⟩⟩:=vb J
  ·rw [q6]at W;obtain⟨t0,R,rfl⟩:=Mv.1 W;have ai:B.fin=2:=by rw[<-O];exact K
   have kt:=FL hk o (t:=t0) (by rw[q7];exact R);have hT:=hO (Wy g e hk kt);have hc:=g.IB b0 B H ai t0 R;rw[<-g.eQ t0 _ hT]at hc;have hw:=MV g e hk c kt hT;have hm:jR kp b0∈ahead w (jR kp t0):=we.2 (by rw[RO g e hk c o,q7];exact wBn R);have al:(ahead w (jR kp t0)).length<=1:=by
    rw[hw];unfold kR tx;rw[EN];refine Ix (wBD _ _) ?_;rw[UB];omega
   have:=List.length_pos_of_mem hm;omega
  ·omega
 ·obtain⟨b0,B,o,H,rfl,_⟩:=vb (hO hb);obtain⟨l,L⟩:=(hk b0).1 o;exact⟨_,zf3 g e hk c L⟩
 ·obtain⟨a,o,rfl,r⟩:=A.1 F;obtain⟨f,d,m,_⟩:=V D;rw[m.op]at E;exact zal g e hk c o (g.DD v a k f r d E z (m.iP z U))
 ·obtain ⟨a,o,rfl,r⟩:=A.1 F;obtain⟨f,d,m,sp⟩:=V D;obtain⟨a',P,k2,N,T,_,Z,_⟩:=vb J;obtain rfl:=zf o k2 T;rw[m.op]at E;have hlen:=(g.Dz v a k f P r d E N).2;rw[sp a k P E r o N]at Q;rw[Z]at hp;unfold pD at Q;unfold kR at hp;rw[AX]at Q hp
  cases hi:(tx u2 kp a P.eQ)[j]? with
  |none=>rw[hi]at Q;cases Q
  | some i=>
    rw[hi]at Q hp;obtain⟨i1,i2⟩:=LC.1 (DQ hi);have i1:=Ve.1 i1;rw[yl]at i2;have e1:=hO i1;have e2:=hO (show i<f.args.length by omega);rw[ED,e1]at i2;have Q:f.args[i]=z:=by
      have:f.args.getD i 0=z:=Option.some.inj Q
      rwa [ED,e2]at this
    have hp:jR kp P.eQ[i]=p:=by
      have:jR kp (P.eQ.getD i 0)=p:=Option.some.inj hp
      rwa [ED,e1]at this
    subst Q hp;exact LI g e hk c i2.1 (g.DO v a k f P r d E N i _ _ e2 e1)
 ·obtain⟨a,o,rfl,r⟩:=A.1 F;obtain⟨f,d,m,_⟩:=V D;rw[I,m.state]at M;exact zal g e hk c o (g.GW v a k f fs r d (by rw[<-m.op];exact L) M z U)
 ·obtain⟨b0,B,o,H,rfl,_,_,_,⟨O,q5,_⟩|⟨O,_⟩⟩:=vb J
  ·rw[q5];exact LI g e hk c o (g.El b0 B H (by rw[<-O];exact K))
  ·omega
 ·obtain⟨b0,B,o,H,rfl,_,_,q3,⟨O,_⟩|⟨O,_⟩⟩:=vb J
  ·rw[I,q3]at M;exact LI g e hk c o (g.Hc b0 B fs H (by rw[<-O];exact r) M z U)
  ·omega
end
open Dm
theorem I5{L:List Nat} (b:L.Nodup) {j a:Nat} (h:L[j]? =some a):L.findIdx? (·== a)=some j:=by
 obtain⟨c,d⟩:=kj.1 h;rw[wBV];refine⟨c,by simp[d],λi hi=>?_⟩;intro hc;have:L[i]=a:=by simpa using hc
 have:=vY b (hO (show i<L.length by omega)) (by simp_all:L[j]? =some L[i]);omega
section
variable{u u2 w:U}{kp:Nat->Bool}(g:Good u)(e:Mn u u2)(hk:∀b,kp b=true↔∃l,Pt (next u2) b l)(c:Cut u2 kp w)
include g e c
theorem zdx(v:Nat):fR w v=fR u v:=by
 unfold fR
 cases h:u.ef[v]? with
 | none=>
   rw[List.getElem?_eq_none_iff]at h
   rw[List.getElem?_eq_none_iff.2 (by rw[c.len,e.ef];exact h)]
 | some x=>
   obtain⟨a,b,d,_⟩:=Mo g e c h;rw[b];show ir a.op=ir x.op;rw[d.op]
include hk
theorem zda:Step u w (jR kp) (λb=>kp b=true):=by
 have F:w.eh=u.eh:=by rw[c.eh,e.eh]
 refine⟨F,Sa hk,zdU hk,by rw[c.len,e.ef],λb B l E=>?_,zdx g e c,λv b k x A d f=>?_,λB B' locals val v l V hv f=>?_,λp t B T W s locals val v l hp G hn z X hv f=>?_⟩
 ·rcases e.nV b B l with m|⟨a,n,t,⟨y,H,I,Q⟩,Y,Z⟩
  ·refine ⟨_,G9 g e hk c E m,rfl,by simp_all,λh=>⟨h,λs t _ o=>?_⟩⟩;have hm:t∈B.next:=by
    unfold pT at o
    repeat' split at o
    all_goals grind
   refine⟨FL hk E (by grind[next]),?_⟩;unfold pT at o⊢
   grind
  ·refine⟨_,G9 g e hk c E Z,rfl,by omega,λh=>⟨by simp,λs t' G o=>?_⟩⟩;have hs:=G B.cond y H I (vx l (g.El b B l a));unfold pT at o;rw[if_neg (by omega),if_pos a,hs,Q,Y]at o;cases o;exact⟨FL hk E (by grind[next]),rfl⟩
 ·obtain ⟨R,m,a,_⟩:=Mo g e c d;have q:x.op≠21:=by
   unfold fR ir at f;rw[d]at f;simp at f;exact f.2
  rw[a.ne q]at m
  grind[qk,rz]
 ·obtain ⟨x,d⟩:∃x,u.ef[v]? =some x:=by
   grind[fR]
  obtain⟨R,m,a,_⟩:=Mo g e c d;unfold ta;rw[d,m];simp only[a.op,a.n]
 ·obtain ⟨x,d⟩:∃x,u.ef[v]? =some x:=by
   grind[fR]
  obtain⟨R,m,a,h3⟩:=Mo g e c d;unfold ta;rw[d,m];simp only[a.op,a.n];by_cases hx1:x.op=1
  ·omega
  rw [if_neg hx1,if_neg hx1];have q:x.op=21:=by
   unfold fR ir at f;rw[d]at f;simp at f;omega
  have r:t∈next u2 p:=by
   rcases e.nV p B l with q1|⟨q2,n,t',⟨y,H,I,Q⟩,q4,S⟩
   ·grind[next,pT,DQ]
   ·have hs:=G B.cond y H I (vx l (g.El p B l q2))
    simp_all[pT,if_neg,if_pos,next]
  have J:=FL hk hp r;obtain⟨k,A⟩:∃k,At u v t k:=by
   obtain⟨k,hk⟩:=nT.1 hv;exact⟨k,T,z,hk⟩
  rw [h3 t k T q A J z];have K:W.eQ=kR u2 kp t T.eQ:=by
   rcases e.nV t T z with q1|⟨_,n,t',_,_,S⟩
   ·grind[G9]
   ·have:=G9 g e hk c J S
    grind
  have L:p∈T.eQ:=by rw[g.eQ t T z];exact we.2 (Nk e r)
  obtain⟨j,M⟩:=nT.1 L;have N:T.eQ.Nodup:=by rw[g.eQ t T z,Wc g];exact wBZ.filter _
  have C:(kR u2 kp t T.eQ).Nodup:=by
   rw[<-MV g e hk c J z];have U:=xX w.blocks (jR kp t) (by grind[nT,Wh]) _ (ju _);rw[Lp]at U;show(kh w.blocks 0 _).Nodup;rw[U];exact wBZ.filter _
  have O:=(kj.1 M).1;have D:T.eQ.getD j 0=p:=by rw[ED,M];rfl
  have P:j∈tx u2 kp t T.eQ:=LC.2 ⟨Ve.2 O,by rw[D,hp,wBc,wBQ];exact r⟩;obtain⟨i,hi⟩:=nT.1 P;have e1:(kR u2 kp t T.eQ)[i]? =some (jR kp p):=by
   unfold kR;rw[AX,hi,<-D];rfl
  rw[I5 N M,K,I5 C e1]
  grind[pD]
end
open Dm
theorem zbi{u:U} (g:Good u) {v o b k c j:Nat} {x:Vl} (C:u.ef[v]? =some x) (y:x.op=21) (s:At u v b k) (E:At u o c j) (F:∀a∈x.args,a=v\/a=o):c≠b/\qM (next u) c b:=by
 obtain ⟨B,A,hk⟩:=id s;obtain⟨G,hlen⟩:=g.Dz v b k x B s C y A;have r:∀n l,l.length<=n->Pt (next u) b (b::l)->c∈l:=by
  intro n
  induction n with
  | zero=>
    intro l t h;have:l=[]:=by simp_all
    subst this
    cases h with
    |nil=>omega
    |step h _=>cases h
  | succ n H=>
    intro l t h
    cases h with
    |nil=>omega
    | step h e=>
      rename_i p;have hp:p∈B.eQ:=by rw[g.eQ b B A];exact we.2 e
      obtain⟨i,hi⟩:=nT.1 hp;have I:=(kj.1 hi).1;have J:=hO (show i<x.args.length by omega);have hs:=g.DO v b k x B s C y A i _ p J hi;obtain⟨d,m,z,D⟩:=hs;rcases F _ (AU _:x.args[i]∈x.args)with q|q
      ·rw[q]at z
       obtain⟨rfl,_⟩:=g.KZ _ _ _ _ _ z s;obtain⟨w,L,M⟩:=Pt.suffix h (D l h)
       grind
      ·rw[q]at z
       obtain⟨rfl,_⟩:=g.KZ _ _ _ _ _ z E;exact D l h
 have f:∀{l},Pt (next u) b l->∃w,l=b::w:=λh=>by
  cases h
  ·omega
  simp_all
 have K:qM (next u) c b:=λl t=>by
  obtain⟨w,rfl⟩:=f t;exact List.mem_cons_of_mem _ (r _ w (ju _) t)
 refine ⟨λq=>?_,K⟩;subst q;have no:∀n l,l.length<=n->¬Pt (next u) c (c::l):=by
  intro n
  induction n with
  | zero=>
    intro l t h;have:=r _ l (ju _) h
    simp_all
  | succ n H=>
    intro l t h;have N:=r _ l (ju _) h
    cases h with
    |nil=>omega
    | step h e=>
      grind[Pt.suffix,Rb]
 obtain⟨l,t⟩:=g.reach c (by grind);obtain⟨w,rfl⟩:=f t;exact no _ w (ju _) t
structure Vs (u:U) (as:Nat->Int):Prop where
 out:∀v,u.ef.length<=v->as v = -1
 root:∀v r:Nat,as v=(r:Int)->as r=(r:Int)
 cas:∀(v:Nat) (x:Vl),u.ef[v]? =some x->as v=(v:Int)\/(as v = -1/\x.op=22/\∃n,Kw u x.a n/\n≠0)\/(x.op=21/\∃r:Nat,as v=(r:Int)/\r≠v/\r∈x.args/\∀a∈x.args,a=v\/a=r)
structure U7 (u:U) (kp:Nat->Bool) (as Df:Nat->Int):Prop where
 gone:∀(v b k:Nat),At u v b k->kp b=false->Df v = -1
 same:∀(v:Nat),(¬∃b k,At u v b k/\kp b=false)->Df v=as v
section
variable{u u2 w:U}{kp:Nat->Bool}(g:Good u)(e:Mn u u2)(hk:∀b,kp b=true↔∃l,Pt (next u2) b l)(c:Cut u2 kp w){as Df:Nat->Int}(F:Vs u as)(Gn:U7 u kp as Df)
include g F Gn
omit F in
theorem K0 {v b k:Nat} (Kj:At u v b k) (hb:kp b=true):Df v=as v:=Gn.same v λ⟨b',k',h1,h2⟩=>by
 obtain⟨rfl,_⟩:=g.KZ _ _ _ _ _ Kj h1
 simp_all
theorem N7{v:Nat} (h:0<=Df v):Df v=as v/\∃b k,At u v b k/\kp b=true:=by
 by_cases hv:v<u.ef.length
 ·obtain ⟨b,k,a⟩:=g.FU v hv trivial
  cases hb:kp b with
  |true=>grind[K0]
  | false=>
    have:=Gn.gone v b k a hb;omega
 ·have c:Df v=as v:=Gn.same v λ⟨b,k,c,_⟩=>hv (g.jW _ _ _ c);have:=F.out v (by omega);omega
theorem SA{v b k:Nat} (c:At u v b k) (d:kp b=true) (a:oJ u v):0<=Df v:=by
 rw[K0 g Gn c d];obtain⟨x,e,a⟩:=a;rcases F.cas v x e with h|⟨_,h,_⟩|⟨_,r,h,_⟩
 ·omega
 ·rw[h]at a;cases a
 ·omega
include e hk
theorem Rr{v b k r:Nat} (c:At u v b k) (l:kp b=true) (h:Df v=(r:Int)) (p:r≠v):∃d j,At u r d j/\kp d=true/\d≠b/\qM (next u) d b/\∃x,u.ef[v]? =some x/\x.op=21/\r∈x.args/\∀a∈x.args,a=v\/a=r:=by
 have f:=hO (g.jW _ _ _ c);rw[K0 g Gn c l]at h;rcases F.cas v _ f with i|⟨i,_⟩|⟨i,r',w,_,q,m⟩
 ·omega
 ·omega
 ·obtain rfl:r=r':=by omega
  have s:oJ u r:=g.use v _ f r (by simp_all[iP,if_pos]);obtain⟨y,z,_⟩:=s;obtain⟨d,j,n⟩:=g.FU r (by grind) trivial;obtain⟨t,o⟩:=zbi g f i c n m;exact⟨d,j,n,KO e hk l o,t,o,_,f,i,q,m⟩
include c
theorem T7:Fit w Df:=by
 have A:=@Sy u u2 w kp g e hk c;have V:=@JU u u2 w kp g e c;have W:=@WL u u2 w kp g e c;have pos:∀{v b k:Nat},kp b=true->oJ u v->BI u v b k->0<=Df v:=λ{v b k} m y ⟨d,j,l,hs⟩=>by
  refine SA g F Gn l ?_ y;rcases hs with⟨rfl,_⟩|⟨_,I⟩
  ·exact m
  ·exact KO e hk m I
 have D:∀{v b:Nat},kp b=true->oJ u v->rX u v b->0<=Df v:=λ{v b} m y ⟨d,j,l,hs⟩=>SA g F Gn l (KO e hk m hs) y;have E:∀{v:Nat},stays Df v=true->∃b k,At u v b k/\kp b=true:=λ{v} h=>by
  unfold stays at h;rw[IE]at h;exact(N7 g F Gn (v:=v) (by omega)).2
 refine⟨λv hv h0=>?_,λv r i k h X=>?_,λv r h y=>?_,λv Y z hs a G=>?_,λv Y fs z hs S o a G=>?_,λi C P J=>?_,λi C fs P K o a G=>?_⟩
 ·obtain⟨p,b,k,l,m⟩:=N7 g F Gn h0;obtain⟨r,N⟩:∃r:Nat,Df v=(r:Int):=⟨(Df v).toNat,by omega⟩
  refine⟨r,N,?_⟩;rw[c.len,e.ef];by_cases hne:r=v
  ·subst hne;exact⟨g.jW _ _ _ l,N⟩
  ·obtain⟨d,j,I,kd,_⟩:=Rr g e hk F Gn l m N hne;refine⟨g.jW _ _ _ I,?_⟩;rw[K0 g Gn I kd];exact F.root v r (by omega)
 ·obtain⟨b,m,rfl,l⟩:=A.1 X;by_cases hne:r=v
  ·grind
  ·obtain⟨d,j,I,kd,p,J,_⟩:=Rr g e hk F Gn l m h hne;exact⟨_,j,by grind,.inr ⟨λq=>p (zf kd m q),Q9 g e hk c m J⟩⟩
 ·obtain⟨p,b,k,l,m⟩:=N7 g F Gn (v:=v) (by omega);by_cases hne:r=v
  ·simp_all
  ·obtain⟨d,j,I,kd,_,_,x,z,s,N,_⟩:=Rr g e hk F Gn l m h hne;exact W.2 (g.use v x z r (by simp_all[iP,if_pos]))
 ·obtain⟨b,k,l,m⟩:=E hs;obtain⟨x,z,L,sp⟩:=V z;have M:=L.iP a G;have y:=g.use v x z a M;by_cases s:x.op=21
  ·obtain⟨B,H,_⟩:=id l;have hlen:=(g.Dz v b k x B l z s H).2;unfold iP at G;rw[L.op,if_pos s,sp b k B s l m H]at G;obtain⟨j,Z,rfl⟩:=Mv.1 G;obtain⟨Q,R⟩:=LC.1 Z;have Q:=Ve.1 Q;rw[yl]at R;have T:=hO Q;have U:=hO (show j<x.args.length by omega);rw[ED,T]at R;rw[ED,U]at y⊢;exact D R.1 y (g.DO v b k x B l z s H j _ _ U T)
  ·exact pos m y (g.DD v b k x l z s a M)
 ·obtain ⟨b,k,l,m⟩:=E hs;obtain⟨x,z,L,_⟩:=V z;rw[c.eh,e.eh,L.state]at o;rw[L.op]at S;have y:oJ u a:=by
   obtain⟨f,hf,p⟩:=Yk.1 G;obtain⟨_,_,J⟩:=g.st _ fs o;rcases JT.1 p with p|p
   ·grind
   ·grind
  exact pos m y (g.GW v b k x fs l z S o a G)
 ·obtain ⟨b,B,m,H,rfl,rfl⟩:=Ll c P;obtain⟨A0,O,_,_,_,p|⟨_,n,t,_,_,rfl⟩⟩:=FZ e H
  ·subst p;rcases g.fin b B O with⟨K,_⟩|⟨_,_,K⟩|⟨K,_⟩
   ·simp_all
   ·exact D m K (g.El b B O J)
   simp_all
  ·cases J
 ·obtain ⟨b,B,m,H,rfl,rfl⟩:=Ll c P;obtain⟨A0,O,_,_,_,p|⟨_,n,t,_,_,rfl⟩⟩:=FZ e H
  ·subst p;rw[c.eh,e.eh]at o;have y:oJ u a:=by
    obtain⟨f,hf,p⟩:=Yk.1 G;obtain⟨_,_,J⟩:=g.st _ fs o;rcases JT.1 p with p|p
    ·grind
    ·grind
   exact D m y (g.Hc b B fs O K o a G)
  ·cases K
end
open Dm
section
variable{u u2 w:U}{kp:Nat->Bool}(g:Good u)(e:Mn u u2)(hk:∀b,kp b=true↔∃l,Pt (next u2) b l)(c:Cut u2 kp w){as Df:Nat->Int}(F:Vs u as)(Gn:U7 u kp as Df)
include g e hk c F Gn
theorem zeP{v i k r:Nat} (f:At w v i k) (h:Df v=(r:Int)) (l:r≠v):∃d j,At w r d j/\d≠i/\qM (next w) d i/\∃x,w.ef[v]? =some x/\x.op=21/\∀a∈x.args,a=v\/a=r:=by
 obtain⟨b,o,rfl,q⟩:=(Sy g e hk c).1 f;obtain⟨d,j,A,kd,B,s,x,t,m,_,u⟩:=Rr g e hk F Gn q o h l;obtain⟨y,n,p,_⟩:=Mo g e c t;exact⟨_,j,(Sy g e hk c).2 (by grind),by grind[zf],Q9 g e hk c o s,y,n,by rw[p.op];exact m,λa z=>u a (p.args a z)⟩
theorem Zk(locals:List Int) (gw:Int) (heap:List Int):Way w Df locals gw heap λb k s=>KI w b k s/\∀v r:Nat,Df v=(r:Int)->BI w v b k->s.of r=s.of v:=by
 have i:=NO g e hk c (as:=Df) Gn.gone;have D:=@zeP u u2 w kp g e hk c as Df F Gn;have U:∀{v:Nat} {x:Vl},w.ef[v]? =some x->x.op=21->fR w v=true:=λ{v x} n h=>by
  unfold fR;rw[n];show(x.op == 1 ||x.op == 21)=true
  simp_all
 have apart:∀{v r b k t j:Nat},Df v=(r:Int)->r≠v->BI w v t k->t<w.blocks.length->At w r t j->False:=λ{v r b k t j} h f ⟨R,j0,a,hc⟩ E G=>by
  obtain⟨d,j',H,I,V,_⟩:=D a h f;obtain⟨rfl,_⟩:=i.KZ _ _ _ _ _ H G;rcases hc with⟨rfl,_⟩|⟨W,J⟩
  ·omega
  ·obtain⟨l,z⟩:=i.reach d E;exact W (J.zaA V z)
 refine⟨λB A=>⟨KI.start A,λv r h hs=>?_⟩,λb t B T s A m E K z=>⟨by grind[KI.Cs],λv r h hs=>?_⟩,λb k X x s s1 a n hh K z L=>⟨K.1.one i a n z L,λv r h hs=>?_⟩,by grind⟩
 ·by_cases f:r=v
  ·rw[f]
  ·obtain⟨R,j,a,hc⟩:=hs;obtain⟨_,_,_,_,_,x,n,o,_⟩:=D a h f;obtain⟨Y,M,_⟩:=id a;have N:=(i.Dz v R j x Y a n o M).1;rcases hc with⟨q,_⟩|⟨_,H⟩
   ·omega
   ·exact(N (by simpa using H _ .nil)).elim
 ·by_cases f:r=v
  ·rw[f]
  have O:=(kj.1 m).1;have G:r ∉ T.ef.takeWhile (fR w):=λZ=>by
   obtain⟨k,p⟩:=nT.1 (wBK _ Z);exact apart (b:=0) h f hs O ⟨T,m,p⟩
  have y:({s with steps:=s.steps+1}:Rs).val.length=w.ef.length:=z;rw[Ni i m y G];show s.of r=_;by_cases hv:v∈T.ef.takeWhile (fR w)
  ·rw[zbT i m y hv];obtain⟨k,p⟩:=nT.1 (wBK _ hv);have a:At w v t k:=⟨T,m,p⟩
   obtain⟨_,_,_,_,_,x,n,o,ha⟩:=D a h f;have hlen:=(i.Dz v t k x T a n o m).2;have P:t∈next w b:=by unfold next;rw[A];exact E
   have aa:b∈T.eQ:=by rw[i.eQ t T m];exact we.2 P
   unfold ta;rw[n];simp only;rw[if_neg (by omega)]
   cases hf:T.eQ.findIdx? (·== b)with
   | none=>
     grind
   | some j=>
     obtain⟨hj,I,_⟩:=wBV.1 hf;have I:T.eQ[j]=b:=by simpa using I
     have S:=hO (show j<x.args.length by omega);simp only;rw[ED,S];show s.of r=s.of x.args[j];rcases ha _ (AU _:x.args[j]∈x.args)with q|q
     ·rw[q]
      have ab:=i.DO v t k x T a n o m j _ _ S (hO hj)
      grind[vx]
     ·rw[q]
  ·rw[Ni i m y hv];exact K.2 v r h (TC A m E hs hv)
 ·by_cases f:r=v
  ·rw[f]
  have C:X<s.val.length:=by rw[z];exact by grind
  obtain⟨B,A,_⟩:=id a;have Q:=(kj.1 A).1;rcases TU a hs with rfl|⟨hz,hs⟩
  ·grind
  ·rw[Vd L hz C,Vd L (λq=>apart (b:=0) h f hs Q (by rw[q];exact a)) C]
   grind
theorem W6:xQ u (iz w Df):=by
 have m:=NO g e hk c (as:=Df) Gn.gone;refine(Step.KD g (zda g e hk c)).trans λlocals gw fuel Cu heap=>zbG m (by grind[T7]) (Zk g e hk c F Gn locals gw heap) (λv i k q f o hs=>?_) Cu;obtain⟨b,r,rfl,t⟩:=(Sy g e hk c).1 f;obtain⟨x,h,d,_⟩:=JU g e c o;have z:=K0 g Gn t r;rw[d.op,d.a];rcases F.cas v x h with A|⟨_,B,n,⟨y,C,D,E⟩,G⟩|⟨A,_⟩
 ·grind[stays]
 ·refine ⟨by omega,by omega,λ_ s H=>?_,by omega⟩;obtain⟨I,j,p,_⟩:=Mo g e c C;have l:=m.DD v _ k q f o (by rw[d.op];omega) x.a (by
   rw[<-d.a];refine EK.2 ?_ (by rw[d.op];omega);rw[d.op,B];rfl)
  rw[H.1 x.a I j (by rw[p.op];exact D) l,p.n,E];exact G
 omega
theorem Xl:Good (iz w Df):=XX (NO g e hk c (as:=Df) Gn.gone) (by grind[T7])
end
open Dm
def mu(u:U):Nat:=u.ef.countP (λx=>x.op != 2)+u.blocks.countP (λB=>B.fin == 2)
def Unf(u:U)(v:Nat):Prop:=∀x n,u.ef[v]? =some x->¬Fv u x n
theorem VZ{u:U} {v:Nat} {x:Vl} (a:u.ef[v]? =some x) (b:x.op≠2) (n:Int):mu (HH u v n)<mu u:=by
 obtain ⟨hv,e⟩:=kj.1 a;have hp:0<u.ef.countP (λx=>x.op != 2):=List.countP_pos_iff.2 ⟨x,DQ a,by simp[b]⟩;have:(u.ef.set v (VX n)).countP (λx=>x.op != 2)=u.ef.countP (λx=>x.op != 2)-1:=by
  rw[List.countP_set hv,e];simp[b,VX]
 show(u.ef.set v (VX n)).countP _+_<_;rw[this];unfold mu;show _+u.blocks.countP _<_;omega
structure Uc (a:U->Prop) (u u':U) (c:Bool) (D:Nat->Prop):Prop where
 GD:Good u'
 KD:xQ u u'
 func:u'.func=u.func
 pc:u'.pc=u.pc
 blocks:u'.blocks=u.blocks
 eh:u'.eh=u.eh
 len:u'.ef.length=u.ef.length
 args:a u'
 ops:∀p:Nat->Prop,p 2->(∀x∈u.ef,p x.op)->∀y∈u'.ef,p y.op
 mu:mu u'<=mu u
 less:c=true->Un.mu u' < Un.mu u
 same:c=false->u' = u/\∀v,D v->Unf u v
theorem Uc.start{a:U->Prop}{u:U}(g:Good u)(b:a u):Uc a u u false λ_=>False:=⟨g,.refl _,rfl,rfl,rfl,rfl,rfl,b,λ_ _ h=>h,ju _,λh=>(nomatch h),λ_=>⟨rfl,λ_ h=>h.elim⟩⟩
theorem Uc.more{a:U->Prop} {u u':U} {c:Bool} {D D':Nat->Prop} (t:Uc a u u' c D) (h:c=false->∀v,D' v->D v\/Unf u v):Uc a u u' c D':=
 {t with same:=λhc=>⟨(t.same hc).1,λv hv=>(h hc v hv).elim ((t.same hc).2 v) id⟩ }
theorem Uc.step{b:U->Prop} {u u':U} {c:Bool} {D:Nat->Prop} (t:Uc b u u' c D) {v:Nat} {x:Vl} {n:Int} (a:u'.ef[v]? =some x) (f:Fv u' x n) (e:b (HH u' v n)) (D':Nat->Prop):Uc b u (HH u' v n) true D' where
 GD:=Ya t.GD a f.lo f.hi
 KD:=t.KD.trans (Yf t.GD a f)
 func:=t.func
 pc:=t.pc
 blocks:=t.blocks
 eh:=t.eh
 len:=MC.trans t.len
 args:=e
 ops p d h y hy:=by
  rcases List.mem_or_eq_of_mem_set (show y∈u'.ef.set v (VX n) from hy)with g|rfl
  ·exact t.ops p d h y g
  ·exact d
 mu:=Nat.le_of_lt (ET (VZ a (by have:=f.lo;omega) n) t.mu)
 less _:=ET (VZ a (by have:=f.lo;omega) n) t.mu
 same h:=nomatch h
structure Gm (u u2:U) (c:Bool) (D:Nat->Prop):Prop where
 e:Mn u u2
 mu:mu u2<=mu u
 less:c=true->Un.mu u2<Un.mu u
 same:c=false->u2=u/\∀b B n,D b->u.blocks[b]? =some B->B.fin=2->¬Kw u B.cond n
def UO(B:Bk)(t:Nat):Bk:={B with fin:=1,cond:=0,next:=[t]}
theorem Gm.start(u:U):Gm u u false λ_=>False:=⟨⟨rfl,rfl,rfl,rfl,rfl,λ_ _ h=> .inl h⟩,ju _,λh=>(nomatch h),λ_=>⟨rfl,λ_ _ _ h=>h.elim⟩⟩
theorem Gm.more{u u2:U} {c:Bool} {D D':Nat->Prop} (t:Gm u u2 c D) (h:c=false->∀b,D' b->D b\/∀B n,u.blocks[b]? =some B->B.fin=2->¬Kw u B.cond n):Gm u u2 c D':=
 {t with same:=λhc=>⟨(t.same hc).1,λb B n e a d=>(h hc b e).elim (λq=>(t.same hc).2 b B n q a d) λq=>q B n a d⟩ }
theorem Gm.step{u u2:U} {c:Bool} {D:Nat->Prop} (t:Gm u u2 c D) {b to:Nat} {B:Bk} {n:Int} (j:u.blocks[b]? =some B) (a:u2.blocks[b]? =some B) (d:B.fin=2) (k:Kw u B.cond n) (l:(if n=0 then B.next[1]? else B.next[0]?)=some to) (D':Nat->Prop):Gm u {u2 with blocks:=u2.blocks.set b (UO B to)} true D':=by
 obtain ⟨g,e⟩:=kj.1 a;have m:Un.mu {u2 with blocks:=u2.blocks.set b (UO B to)} < Un.mu u2:=by
  have hp:0<u2.blocks.countP (λB=>B.fin == 2):=List.countP_pos_iff.2 ⟨B,DQ a,by simp[d]⟩;have:(u2.blocks.set b (UO B to)).countP (λB=>B.fin == 2)=u2.blocks.countP (λB=>B.fin == 2)-1:=by
   rw[List.countP_set g,e];simp[d,UO]
  show _+(u2.blocks.set b (UO B to)).countP _<_;rw[this];unfold Un.mu;show u2.ef.countP _+_<_;omega
 refine⟨⟨t.e.func,t.e.pc,t.e.ef,t.e.eh,by show(u2.blocks.set _ _).length=_;rw[MC];exact t.e.len,λi A f=>?_⟩,by have:=t.mu;omega,λ_=>by have:=t.mu;omega,λh=>(nomatch h)⟩;by_cases q:i=b
 ·subst q;rw[j]at f;cases f;exact .inr ⟨d,n,to,k,l,Qd g⟩
 ·show(u2.blocks.set b _)[i]? =_\/_/\∃_ _,_/\_/\(u2.blocks.set b _)[i]? =_;rw[K6 λz=>q z.symm];exact t.e.nV i A f
open Dm
theorem Rc{A T:List Nat} (c:A.Nodup) (hs:∀x∈A,x∈T):A.length<=T.length:=by
 have h:(A.map T.idxOf).Nodup:=by
  induction A with
  |nil=>simp
  | cons a A f=>
    rw[wBl]at c;rw[wBe,wBl];refine⟨λd=>?_,by simp_all⟩;obtain⟨b,g,e⟩:=Mv.1 d;have:=QE (by simp_all) (by simp_all) e
    simp_all
 have:=jA T.length _ h (by grind)
 simp_all
theorem getD_map{α:Type} (l:List α) (d:α):(List.range l.length).map (λj=>l.getD j d)=l:=by
 refine wBR λj=>?_
 grind
theorem count_range{α:Type} (l:List α) (d:α) (p:α->Bool):l.countP p=((List.range l.length).filter λj=>p (l.getD j d)).length:=by
 conv=>lhs;rw[<-getD_map l d,List.countP_map]
 rw[List.countP_eq_length_filter];rfl
section
variable{u u2 w:U}{kp:Nat->Bool}(g:Good u)(e:Mn u u2)(hk:∀b,kp b=true↔∃l,Pt (next u2) b l)(c:Cut u2 kp w){Df:Nat->Int}(VN:∀(v b k:Nat),At u v b k->kp b=false->Df v = -1)
include g e hk c VN
theorem zaE:mu (iz w Df)<=mu u2/\((∃v x,u.ef[v]? =some x/\x.op≠2/\stays Df v=false)->mu (iz w Df)<mu u2):=by
 have i:=NO g e hk c VN;have f:=CA (as:=Df) i;have r:(iz w Df).blocks.countP (λB=>B.fin == 2)<=u2.blocks.countP λB=>B.fin == 2:=by
  show(w.blocks.map (nz w Df)).countP _<=_;rw[List.countP_map,show((λB:Bk=>B.fin == 2) ∘ nz w Df)=λB=>B.fin == 2 from rfl,c.blocks,List.countP_map,count_range u2.blocks Ph,List.countP_eq_length_filter];unfold mz;rw[List.filter_filter];refine Rc (wBZ.filter _) λx d=>?_;obtain⟨k,b⟩:=LC.1 d;rw[yl]at b;exact LC.2 ⟨k,b.1⟩
 have hv:(iz w Df).ef.countP (λx=>x.op != 2)=((fK w Df).filter λn=>(w.ef.getD n ⟨0,0,0,0,[],0⟩).op != 2).length:=by
  show((fK w Df).map _).countP _=_;rw[List.countP_map,List.countP_eq_length_filter];rfl
 have a:∀n∈(fK w Df).filter (λn=>(w.ef.getD n ⟨0,0,0,0,[],0⟩).op != 2),n∈(List.range u2.ef.length).filter λj=>(u2.ef.getD j ⟨0,0,0,0,[],0⟩).op != 2:=λn h=>by
  obtain⟨k,b⟩:=LC.1 h;have l:=((jl i).1 k).1;obtain⟨x,d,o,_⟩:=JU g e c (hO l);refine LC.2 ⟨Ve.2 (by rw[<-c.len];exact l),?_⟩;rw[ED,hO l,Option.getD_some,o.op]at b;rw[e.ef,ED,d];exact b
 have hc:=count_range u2.ef ⟨0,0,0,0,[],0⟩ λx=>x.op != 2;unfold mu;rw[hv];refine⟨by have:=Rc (f.filter _) a;omega,λ⟨v,x,d,b,hs⟩=>?_⟩;have m:=(kj.1 d).1;have p:v∈(List.range u2.ef.length).filter λj=>(u2.ef.getD j ⟨0,0,0,0,[],0⟩).op != 2:=by
  refine LC.2 ⟨Ve.2 (by rw[e.ef];exact m),?_⟩;rw[e.ef,ED,d];simp[b]
 have:=Rc (A:=v::(fK w Df).filter λn=>(w.ef.getD n ⟨0,0,0,0,[],0⟩).op != 2) (by
  rw[wBl];refine⟨λq=>?_,f.filter _⟩;have:=((jl i).1 (LC.1 q).1).2
  simp_all) λn h=>by
   rcases Pd.1 h with rfl|h
   ·exact p
   ·exact a n h
 grind
end
