/- Parts. -/
import Derived.Test.YtflkbfabonggkaaGreatDoorM33
set_option maxHeartbeats 4000000
namespace Go.Proofs.YtflkbfabonggkaaGreatDoor.Un
open Dm
section
variable{u:U}{P:Nat->Prop}(g:Gd u P)
theorem za3{t v j:Nat} {T:Bk} (d:u.blocks[t]? =some T) (a:At u v t j) (f:j<(T.ef.takeWhile (fP u)).length):fP u v=true:=by
 obtain⟨g,b,c⟩:=a;rw[d]at b;cases b;have e:=wAt (p:=fP u) (l:=T.ef);rw[<-e,Vx f]at c;exact K3 (Dh c)
include g
theorem Nu{t v:Nat} {T:Bk} {l0:Option Nat} {s:Rs} {locals:List Int} (a:u.blocks[t]? =some T) (b:s.val.length=u.ef.length) (hv:v ∉ T.ef.takeWhile (fP u)):(ka u locals l0 T s).of v=s.of v:=by
 show (vX s.val _).getD v 0=_;rw[Az _ _ λw c=>by
  obtain⟨k,hk⟩:=mQ.1 (wBL _ c);rw[b];exact g.jE w t k ⟨T,a,hk⟩,if_neg hv]
 rfl
theorem zaB{t v:Nat} {T:Bk} {l0:Option Nat} {s:Rs} {locals:List Int} (a:u.blocks[t]? =some T) (b:s.val.length=u.ef.length) (hv:v∈T.ef.takeWhile (fP u)):(ka u locals l0 T s).of v=sB u locals l0 T s.of v:=by
 show (vX s.val _).getD v 0=_;rw[Az _ _ λw c=>by
  obtain⟨k,hk⟩:=mQ.1 (wBL _ c);rw[b];exact g.jE w t k ⟨T,a,hk⟩,if_pos hv]
omit g in
theorem SL {b t v:Nat} {B T:Bk} (hB:u.blocks[b]? =some B) (hT:u.blocks[t]? =some T) (ht:t∈B.next) (hs:Bn u v t (T.ef.takeWhile (fP u)).length) (hn:v ∉ T.ef.takeWhile (fP u)):Bn u v b B.ef.length:=by
 obtain⟨c,j,OE,hc⟩:=hs;rcases hc with⟨rfl,hj⟩|⟨hne,hdm⟩
 ·obtain⟨T',h1,h2⟩:=OE
  grind[wAt,fP,Vx,Dh]
 ·refine uz hB ⟨c,j,OE,λl hl=>?_⟩;have htn:t∈next u b:=by unfold next;rw[hB];exact ht
  have:=hdm _ (.step hl htn)
  simp_all
omit g in
theorem UB {v:Nat} {B:Bk} (hB:u.blocks[0]? =some B) (hs:Bn u v 0 (B.ef.takeWhile (fP u)).length):fP u v=true:=by
 obtain⟨c,j,OE,hc⟩:=hs;rcases hc with⟨rfl,hj⟩|⟨hne,hdm⟩
 ·grind[za3]
 ·have:=hdm _ .nil
  simp_all
omit g in
theorem RK {b k v z:Nat} (OE:At u v b k) (h:Bn u z b (k+1)):z=v\/(z≠v/\Bn u z b k):=by
 obtain⟨c,j,hz,hc⟩:=h;by_cases e:z=v
 ·omega
 refine .inr ⟨e,c,j,hz,?_⟩;rcases hc with⟨rfl,hj⟩|hc
 ·refine .inl ⟨rfl,?_⟩
  grind[absurd,Option.some.inj,At,At]
 simp_all
omit g in
theorem UK {v z:Nat} {x:Vl} {s s1:Rs} {gw:Int} (ho:pw u gw v x s = .inr s1) (hz:z≠v) (hv:v<s.val.length):s1.of z=s.of z:=by
 unfold pw at ho
 repeat' split at ho
 all_goals cases ho
 all_goals first|rfl|exact(DQ hv).trans (if_neg hz)
omit g in
theorem zaP {v:Nat} {x:Vl} {s s1:Rs} {gw:Int} (ho:pw u gw v x s = .inr s1):s1.val.length=s.val.length:=by
 grind[pw,LU]
def KI(u:U)(b k:Nat)(s:Rs):Prop:=∀(v:Nat) (x:Vl),u.ef[v]? =some x->x.op=2->Bn u v b k->s.of v=pz x.n
omit g in
theorem RP {v:Nat} {x:Vl} (hx:u.ef[v]? =some x) (h2:x.op=2):fP u v=false:=by
 unfold fP;rw[hx];show(x.op == 1 ||x.op == 21)=false
 simp_all
omit g in
theorem KI.start {B:Bk} {s:Rs} (hB:u.blocks[0]? =some B):KI u 0 (B.ef.takeWhile (fP u)).length s:=λv x hx h2 hs=>by
 have:=UB hB hs
 grind[RP]
theorem KI.B4{b t:Nat} {B T:Bk} {s:Rs} {locals:List Int} (i:u.blocks[b]? =some B) (a:u.blocks[t]? =some T) (j:t∈B.next) (h:KI u b B.ef.length s) (c:s.val.length=u.ef.length):KI u t (T.ef.takeWhile (fP u)).length (ka u locals (some b) T {s with steps:=s.steps+1}):=λv x d e hs=>by
 have f:v ∉ T.ef.takeWhile (fP u):=by grind[K3,RP]
 rw[Nu g a (by exact c) f];exact h v x d e (by grind[SL])
theorem KI.one{b k v:Nat} {x:Vl} {s e:Rs} {gw:Int} (a:At u v b k) (f:u.ef[v]? =some x) (h:KI u b k s) (l:s.val.length=u.ef.length) (c:pw u gw v x s = .inr e):KI u b (k+1) e:=λz y d i hs=>by
 have hv:=g.jE _ _ _ a;rcases RK a hs with rfl|⟨j,hs⟩
 ·rw[f]at d;cases d;unfold pw at c;rw[if_neg (by omega),if_neg (by omega),if_neg (by omega),if_neg (by omega)]at c;cases c;refine(DQ (by omega)).trans ((if_pos rfl).trans ?_)
  simp_all[E9,if_pos]
 ·rw[UK c j (by omega)];exact h z y d i hs
theorem WL{b:Nat} {B:Bk} (a:u.blocks[b]? =some B) (d:B.fin≠3) (s:Rs):∃t,oY B s=some t:=by
 unfold oY;rcases g.fin b B a with⟨h,c⟩|⟨h,c,_⟩|⟨h,_⟩
 ·simp_all
 ·rw[if_neg (by omega),if_pos h];split <;> exact by simp_all
 omega
end
structure Step (u u':U) (β:Nat->Nat) (R:Nat->Prop):Prop where
 st:u'.eh=u.eh
 b0:β 0=0
 r0:R 0
 len:u'.ef.length=u.ef.length
 nf:∀(b:Nat) (B:Bk),u.blocks[b]? =some B->R b->∃a,u'.blocks[β b]? =some a/\a.ef=B.ef/\(B.fin=3->a.fin=3/\a.state=B.state)/\(B.fin≠3->a.fin≠3/\∀(s:Rs) (t:Nat),KI u b B.ef.length s->oY B s=some t->R t/\oY a s=some (β t))
 head:∀v,fP u' v=fP u v
 one:∀(v b k:Nat) (x:Vl),At u v b k->u.ef[v]? =some x->fP u v=false->∃c,u'.ef[v]? =some c/\∀gw s,KI u b k s->pw u' gw v c s=pw u gw v x s
 par:∀(B a:Bk) (locals:List Int) (val:Nat->Int) (v:Nat),u.blocks[0]? =some B->u'.blocks[0]? =some a->v∈B.ef->fP u v=true->sB u' locals none a val v=sB u locals none B val v
 CJ:∀(p t:Nat) (B T d:Bk) (s:Rs) (locals:List Int) (val:Nat->Int) (v:Nat),u.blocks[p]? =some B->R p->KI u p B.ef.length s->oY B s=some t->u.blocks[t]? =some T->u'.blocks[β t]? =some d->v∈T.ef->fP u v=true->sB u' locals (some (β p)) d val v=sB u locals (some p) T val v
section
variable{u u':U}{P:Nat->Prop}(g:Gd u P){β:Nat->Nat}{R:Nat->Prop}(S:Step u u' β R){locals:List Int}{gw:Int}{heap:List Int}{fuel:Nat}
include S
theorem TW(s:Rs) (st:Nat):qi u' s st=qi u s st:=by
 unfold qi;rw[S.st]
include g
theorem O2{b:Nat} {B:Bk} (o:u.blocks[b]? =some B):∀(l:List Nat) (k:Nat) (s:Rs),B.ef.drop k=l->(∀v∈l,fP u v=false)->KI u b k s->s.val.length=u.ef.length->
  nB u' gw fuel l s=nB u gw fuel l s/\∀d,nB u gw fuel l s = .inr d->KI u b B.ef.length d/\d.val.length=u.ef.length
 | [],k,s,hd,_,hI,hl=>⟨rfl,λd h=>by
   cases h;refine⟨λv x f p hs=>hI v x f p ?_,hl⟩;obtain⟨c,j,a,hc⟩:=hs;refine⟨c,j,a,hc.imp (λ⟨e,r⟩=>⟨e,?_⟩) id⟩
   grind[List.drop_eq_nil_iff]⟩
 | v ::l,k,s,hd,hh,hI,hl=>by
   have hk:k<B.ef.length:=by
     have:=congrArg List.length hd;rw[wB1,QN]at this;omega
   rw[Xx hk]at hd;obtain⟨hv,i⟩:=List.cons.inj hd;have a:At u v b k:=⟨B,o,by rw[<-hv];exact gW hk⟩
   have m:=g.jE _ _ _ a;have f:=gW m;generalize u.ef[v]=x at f;obtain⟨t,n,q⟩:=S.one v b k x a f (by simp_all);unfold nB;rw[f,n];simp only[q gw s hI];by_cases hf:fuel<=s.steps
   ·simp_all
   simp only[if_neg hf]
   cases hq:pw u gw v x s with
   |inl e=>simp_all
   |inr d=>exact O2 o l (k+1) d i (by simp_all) (hI.one g a f hl hq) ((zaP hq).trans hl)
theorem Q2:∀(BM:Nat) (l0:Option Nat) (b:Nat) (B:Bk) (s:Rs),u.blocks[b]? =some B->R b->s.val.length=u.ef.length->
  ((l0=none/\b=0)\/∃(p:Nat) (P:Bk) (i:Rs),l0=some p/\u.blocks[p]? =some P/\R p/\KI u p P.ef.length i/\i.val.length=u.ef.length/\oY P i=some b/\s = {i with steps:=i.steps+1})->
  runM u' locals gw fuel BM (l0.map β) (β b) s=runM u locals gw fuel BM l0 b s
 |0,_,_,_,_,_,_,_,_=>rfl
 | BM+1,l0,b,B,s,hB,hR,hl,he=>by
   obtain ⟨j,h,hv,H,I⟩:=S.nf b B hB hR;have k:fP u' = fP u:=funext S.head;have N:∀v∈B.ef,fP u v=true->sB u' locals (l0.map β) j s.of v=sB u locals l0 B s.of v:=λv E F=>by
     rcases he with⟨rfl,rfl⟩|⟨p,Q,i,rfl,G,m,n,_,c,rfl⟩
     ·rw[S.b0]at h
      exact S.par B j locals _ v hB h E F
     ·exact S.CJ p b Q B j i locals _ v G m n c hB h E F
   have J:ka u' locals (l0.map β) j s=ka u locals l0 B s:=by
     unfold ka;rw[k,hv]
     have:(B.ef.takeWhile (fP u)).map (λv=>(v,sB u' locals (l0.map β) j s.of v))=(B.ef.takeWhile (fP u)).map λv=>(v,sB u locals l0 B s.of v):=
       by grind[Xv,wBL,K3]
     simp only[this]
   have q:KI u b (B.ef.takeWhile (fP u)).length (ka u locals l0 B s):=by
     rcases he with⟨rfl,rfl⟩|⟨p,Q,i,rfl,G,m,n,K,c,rfl⟩
     ·exact KI.start hB
     ·grind[KI.B4,oY,Dh]
   have r:(ka u locals l0 B s).val.length=u.ef.length:=(Aq _ _).trans hl;have w:B.ef.drop (B.ef.takeWhile (fP u)).length=B.ef.dropWhile (fP u):=by
     have e:=wAt (p:=fP u) (l:=B.ef);generalize B.ef.takeWhile (fP u)=a at e⊢;generalize B.ef.dropWhile (fP u)=d at e⊢;rw[<-e];exact List.drop_left' rfl
   obtain⟨r1,L⟩:=O2 g S (gw:=gw) (fuel:=fuel) hB _ _ _ w (E0 g hB) q r;unfold runM;rw[hB,h];simp only;rw[k,hv,J,r1]
   cases hq:nB u gw fuel (B.ef.dropWhile (fP u)) (ka u locals l0 B s)with
   |inl e=>rfl
   | inr o =>
     obtain⟨x,y⟩:=L o hq;simp only;by_cases hf:fuel<=o.steps
     ·simp_all
     rw[if_neg hf,if_neg hf];by_cases f:B.fin=3
     ·obtain⟨z,A⟩:=H f
      rw[if_pos f,if_pos z,A,TW S]
     ·obtain ⟨z,A⟩:=I f
      rw[if_neg f,if_neg z]
      cases c:oY B o with
      | none=>
        obtain⟨t,M⟩:=WL g hB f o
        simp_all
      | some t=>
        obtain ⟨C,e⟩:=A o t x c;rw[e];simp only;have M:t∈B.next:=by
          unfold oY at c
          repeat' split at c
          all_goals grind
        have D:=g.nx b t (by grind[next]);exact Q2 BM (some b) t _ _ (gW D) C y (by grind)
end
open Dm
theorem Ex.As.refl:∀e:Ex,e.As e
 | .zB=>trivial
 | .left ..=>⟨iZ _,rfl,rfl⟩
 | .stuck=>trivial
theorem Ex.As.trans{a b c:Ex} (h:a.As b) (h':b.As c):a.As c:=by
 cases a <;> cases b <;> cases c <;> simp_all[Ex.As];omega
def wY(u u':U):Prop:=∀(locals:List Int) (gw:Int) (fuel BM:Nat) (heap:List Int),(runM u locals gw fuel BM none 0 (pK u heap)).As (runM u' locals gw fuel BM none 0 (pK u' heap))
theorem wY.trans{a b c:U}(h:wY a b)(h':wY b c):wY a c:=λl w f g p=>(h l w f g p).trans (h' l w f g p)
theorem wY.refl(a:U):wY a a:=λ_ _ _ _ _=> .refl _
theorem Step.Jy{u u':U} {P:Nat->Prop} (g:Gd u P) {β:Nat->Nat} {R:Nat->Prop} (S:Step u u' β R):wY u u':=λlocals gw fuel BM heap=>by
 have e:pK u' heap=pK u heap:=by
  unfold pK;rw[S.len]
 have:=Q2 g S (locals:=locals) (gw:=gw) (fuel:=fuel) BM none 0 _ (pK u heap) (gW g.KC) S.r0 (by simp[pK]) (by simp_all);rw[S.b0]at this;rw[e,show(none:Option Nat)=(none:Option Nat).map β from rfl,this];exact .refl _
def Vj(n:Int):Vl:=⟨2,0,0,n,[],0⟩
def Gx(u:U)(v:Nat)(n:Int):U:={u with ef:=u.ef.set v (Vj n)}
def Kw(u:U)(v:Nat)(n:Int):Prop:=∃y,u.ef[v]? =some y/\y.op=2/\pz y.n=n
section
variable{u:U}{v:Nat}{x:Vl}{n:Int}
theorem Ar(a:u.ef[v]? =some x) {w:Nat}:(Gx u v n).ef[w]? =if w=v then some (Vj n) else u.ef[w]?:=by
 grind[jP,Gx]
theorem oK(a:u.ef[v]? =some x) {w:Nat} {y:Vl} (h:(Gx u v n).ef[w]? =some y):(w=v/\y=Vj n)\/(w≠v/\u.ef[w]? =some y):=by
 grind[Ar]
theorem T2(a:u.ef[v]? =some x) {w:Nat} (h:nt u w):nt (Gx u v n) w:=by
 obtain⟨y,b,c⟩:=h;by_cases e:w=v
 ·exact⟨Vj n,by simp_all[Ar,if_pos],rfl⟩
 ·exact⟨y,by rw[Ar a,if_neg e];exact b,c⟩
theorem WX(g:Good u) (f:u.ef[v]? =some x) (E:3<=x.op) (A:x.op<=14):Good (Gx u v n):=by
 have G:∀{w:Nat},nt u w->nt (Gx u v n) w:=T2 f;have p:(Gx u v n).ef.length=u.ef.length:=LU
 refine
  { nv:=by rw[p];exact g.nv
    KC:=g.KC
    nb:=g.nb
    ns:=g.ns
    st:=λs fs hs=>?_
    Fi:=λw F=>g.Fi w (by omega)
    Ju:=g.Ju
    jE:=λw b k h=>by rw[p];exact g.jE w b k h
    B4:=λw z b k y t e i j C m=>?_
    par:=λw b k y e i j=>?_
    CJ:=λw b k y B e i j o=>?_
    op:=λw y d=>?_
    use:=λw y d=>?_
    leave:=λw y d=>?_
    putAt:=λw y d=>?_
    param:=λw y d e=>?_
    fin:=λb B o=>?_
    nx:=g.nx
    eQ:=g.eQ
    Cl:=g.Cl
    HC:=g.HC
    reach:=g.reach
    DD:=λw b k y e d=>?_
    Dn:=λw b k y B e d=>?_
    Gb:=λw b k y fs e d=>?_
    Dk:=g.Dk
    Gc:=g.Gc}
 ·obtain⟨e,i,j⟩:=g.st s fs hs
  grind
 ·rcases oK f j with⟨rfl,rfl⟩|⟨_,q⟩
  ·cases m
  ·rcases oK f C with⟨rfl,rfl⟩|⟨_,D⟩
   ·have:=g.B4 w z b k y x e i q f m
    grind[hZ]
   ·exact g.B4 w z b k y t e i q D m
 ·rcases oK f i with⟨rfl,rfl⟩|⟨_,i⟩
  ·cases j
  ·exact g.par w b k y e i j
 ·rcases oK f i with⟨rfl,rfl⟩|⟨_,i⟩
  ·cases j
  ·exact g.CJ w b k y B e i j o
 ·rcases oK f d with⟨rfl,rfl⟩|⟨_,d⟩
  ·exact⟨show 1<=2 by decide,show 2<=23 by decide⟩
  ·exact g.op w y d
 ·rcases oK f d with⟨rfl,rfl⟩|⟨_,d⟩
  ·exact λz l=>nomatch l
  ·exact λz l=>G (g.use w y d z l)
 ·rcases oK f d with⟨rfl,rfl⟩|⟨_,d⟩
  ·exact λh=>nomatch h
  ·exact g.leave w y d
 ·rcases oK f d with⟨rfl,rfl⟩|⟨_,d⟩
  ·exact λh=>nomatch h
  ·exact g.putAt w y d
 ·rcases oK f d with⟨rfl,rfl⟩|⟨_,d⟩
  ·cases e
  ·obtain⟨a,b,c⟩:=g.param w y d e;refine⟨a,b,λz t r i=>?_⟩;rcases oK f r with⟨rfl,rfl⟩|⟨_,r⟩
   ·cases i
   simp_all
 ·rcases g.fin b B o with h|⟨e,i,j⟩|h
  ·omega
  ·simp_all
  ·exact .inr (.inr h)
 ·rcases oK f d with⟨rfl,rfl⟩|⟨_,d⟩
  ·exact λ_ z l=>nomatch l
  ·exact g.DD w b k y e d
 ·rcases oK f d with⟨rfl,rfl⟩|⟨_,d⟩
  ·exact λh=>nomatch h
  ·exact g.Dn w b k y B e d
 ·rcases oK f d with⟨rfl,rfl⟩|⟨_,d⟩
  ·exact λh=>nomatch h
  ·exact g.Gb w b k y fs e d
structure Fv (u:U) (x:Vl) (n:Int):Prop where
 lo:3<=x.op
 hi:x.op<=14
 kn:∃a b:Int,Kw u x.a a/\(¬(x.op=8\/x.op=9)->Kw u x.b b)/\pz n=A4 x.op a b
theorem Xi(g:Good u) (c:u.ef[v]? =some x) (f:Fv u x n):Step u (Gx u v n) id λ_=>True:=by
 obtain ⟨N,A,a,b,O,C,D⟩:=f;have E:∀w,fP (Gx u v n) w=fP u w:=λw=>by
  unfold fP;rw[Ar c];by_cases e:w=v
  ·subst e;rw[if_pos rfl,c];show false=(x.op == 1 ||x.op == 21)
   grind
  simp_all
 have P:∀(B:Bk) (locals:List Int) (l0:Option Nat) (val:Nat->Int) (w:Nat),fP u w=true->sB (Gx u v n) locals l0 B val w=sB u locals l0 B val w:=λB locals l0 val w d=>by
  unfold sB;rw[Ar c,if_neg λe=>by
   subst e;unfold fP at d;rw[c]at d;have d:(x.op == 1 ||x.op == 21)=true:=d
   grind]
 refine⟨rfl,rfl,trivial,LU,λb B o _=>⟨B,o,rfl,by omega,by simp_all⟩,E,λw b' k y l q d=>?_,λB F locals val w o i _ d=>?_,λp t B T G s locals val w _ _ _ _ Q j _ d=>?_⟩
 ·by_cases e:w=v
  ·subst e;rw[c]at q;cases q;refine⟨Vj n,by rw[Ar c,if_pos rfl],λgw s H=>?_⟩;have I:∀z m,z∈iH x->Kw u z m->s.of z=m:=λz m J ⟨y,K,L,M⟩=>by
    rw[<-M];exact H z y K L (g.DD w b' k x l c (by omega) z J)
   have R:x.op=8\/x.op=9\/two x.op=true:=by unfold two;simp;omega
   have S:na x.op=true\/two x.op=true:=by unfold two na;simp;omega
   have eV:E9 x s.of s.heap=pz n:=by
    rw[D];unfold E9;rw[if_neg (by omega),if_neg (by omega),if_neg (by omega),if_neg (by omega),if_neg (by omega)];have r:s.of x.a=a:=by grind[EG]
    by_cases h:x.op=8\/x.op=9
    ·rw[if_pos h,r]
     grind[A4]
    ·rw[if_neg h,r,I _ _ (by grind[EG]) (C h)]
   rw[show pw (Gx u w n) gw w (Vj n) s = .inr {s with val:=s.val.set w (pz n),steps:=s.steps+1} from rfl];unfold pw
   grind
  ·exact⟨y,by simp_all[Ar,if_neg],λ_ _ _=>by rfl⟩
 ·have i:u.blocks[0]? =some F:=i
  simp_all
 ·have j:u.blocks[t]? =some G:=j
  simp_all
theorem Wy(g:Good u)(a:u.ef[v]? =some x)(f:Fv u x n):wY u (Gx u v n):=(Xi g a f).Jy g
end
open Dm
structure Lq (u u2:U):Prop where
 func:u2.func=u.func
 pc:u2.pc=u.pc
 ef:u2.ef=u.ef
 eh:u2.eh=u.eh
 len:u2.blocks.length=u.blocks.length
 nf:∀(b:Nat) (B:Bk),u.blocks[b]? =some B->u2.blocks[b]? =some B\/(B.fin=2/\∃(n:Int) (t:Nat),Kw u B.cond n/\(if n=0 then B.next[1]? else B.next[0]?)=some t/\u2.blocks[b]? =some {B with fin:=1,cond:=0,next:=[t]})
theorem Pt.suffix{nx:Nat->List Nat} {x:Nat}:∀{b l},Pt nx b l->x∈l->∃a,Pt nx x (x::a)/\(x::a) <:+ l
 | _,_,.nil,h=>by
   obtain rfl:x=0:=by simp_all
   exact⟨[],.nil,List.suffix_refl _⟩
 | _,_,.step (p:=p) (b:=b) (l:=l) h e,c=>by
   rcases OC.1 c with rfl|c
   ·exact⟨l,.step h e,List.suffix_refl _⟩
   ·obtain⟨a,d,f⟩:=Pt.suffix h c
    exact⟨a,d,f.trans (List.suffix_cons _ _)⟩
section
variable{u u2 w:U}{kp:Nat->Bool}(g:Good u)(e:Lq u u2)(hk:∀b,kp b=true↔∃l,Pt (next u2) b l)(c:Cut u2 kp w)
include e
theorem Ff{b:Nat} {B:Bk} (h:u2.blocks[b]? =some B):∃A,u.blocks[b]? =some A/\B.ef=A.ef/\B.eQ=A.eQ/\B.state=A.state/\(B=A\/(A.fin=2/\∃(n:Int) (t:Nat),Kw u A.cond n/\(if n=0 then A.next[1]? else A.next[0]?)=some t/\B = {A with fin:=1,cond:=0,next:=[t]})):=by
 have a:=(jP.1 h).1;rw[e.len]at a;have c:=gW a;refine⟨_,c,?_⟩;rcases e.nf b _ c with d|⟨f,n,t,g,i,j⟩
 ·grind
 grind
theorem L3{v b k:Nat}:At u2 v b k↔At u v b k:=by
 constructor
 ·grind[Ff,At]
 ·rintro⟨A,c,a⟩;rcases e.nf b A c with d|⟨_,n,t,_,_,f⟩
  ·exact⟨A,d,a⟩
  ·exact⟨_,f,a⟩
theorem NL{b t:Nat} (h:t∈next u2 b):t∈next u b:=by
 unfold next at h
 split at h
 ·rename_i B a;obtain⟨A,c,_,_,_,d⟩:=Ff e a;unfold next
  grind
 ·cases h
theorem zcD:∀{b l},Pt (next u2) b l->Pt (next u) b l
 |_,_,.nil=> .nil
 |_,_,.step h a=> .step (zcD h) (NL e a)
include g
theorem zfz{b:Nat} {l:List Nat} (h:Pt (next u2) b l):b<u.blocks.length:=by
 cases h with
 |nil=>exact g.KC
 |step h a=>exact g.nx _ _ (NL e a)
include hk
theorem UY{b:Nat}(h:kp b=true):b<u.blocks.length:=let⟨_,hl⟩:=(hk b).1 h;zfz g e hl
omit g e in
theorem zc6:kp 0=true:=(hk 0).2 ⟨_,.nil⟩
omit g e in
theorem Ek{b t:Nat}(h:kp b=true)(ht:t∈next u2 b):kp t=true:=let⟨_,hl⟩:=(hk b).1 h;(hk t).2 ⟨_,.step hl ht⟩
omit g in
theorem JQ {a b:Nat} (h:kp b=true) (hd:qd (next u) a b):kp a=true:=by
 obtain⟨l,hl⟩:=(hk b).1 h;obtain⟨l',h1,_⟩:=Pt.suffix hl (hd l (zcD e hl))
 grind
omit g e hk in
theorem N3 {n b:Nat} (hb:b<n) (h:kp b=true):((List.range n).filter kp)[jA kp b]? =some b:=by
 have h1:(List.range n)[b]? =some b:=by simp[hb]
 have:=L5 (p:=kp) h1 h;unfold jA
 grind
omit g e hk in
theorem yD {a b:Nat} (ha:kp a=true) (hb:kp b=true) (h:jA kp a=jA kp b):a=b:=by
 have h1:=N3 (n:=a+b+1) (by omega) ha
 grind[N3,Option.some.inj]
omit g e in
theorem RA:jA kp 0=0:=by
 unfold jA;rw[if_pos (zc6 hk)];rfl
include c
theorem GO{b:Nat} {B:Bk} (h:kp b=true) (a:u2.blocks[b]? =some B):w.blocks[jA kp b]? =some {B with next:=B.next.map (jA kp),eQ:=ku u2 kp b B.eQ}:=by
 rw[c.blocks,CH];unfold lR;rw[e.len,N3 (UY g e hk h) h]
 grind[Eu]
omit g hk e in
theorem KP {i:Nat} {C:Bk} (h:w.blocks[i]? =some C):∃b B,kp b=true/\u2.blocks[b]? =some B/\i=jA kp b/\C = {B with next:=B.next.map (jA kp),eQ:=ku u2 kp b B.eQ}:=by
 rw[c.blocks,CH]at h
 cases hb:(lR u2 kp)[i]? with
 |none=>simp_all
 | some b=>
   rw[hb]at h;obtain⟨h1,h2⟩:=Ks.1 (Dh hb);have h1:=TZ.1 h1;refine⟨b,u2.blocks[b],h2,gW h1,?_,?_⟩
   ·exact qX (wBa.filter kp) hb (N3 h1 h2)
   grind[Option.some.inj,Eu,gW]
theorem Sp{v i k:Nat}:At w v i k↔∃b,kp b=true/\i=jA kp b/\At u v b k:=by
 constructor
 ·rintro⟨C,a,j⟩;obtain⟨b,B,d,f,h,rfl⟩:=KP c a;exact⟨b,d,h,(L3 e).1 ⟨B,f,j⟩⟩
 ·rintro⟨b,a,rfl,d⟩;obtain⟨B,f,h⟩:=(L3 e).2 d;exact⟨_,GO g e hk c a f,h⟩
theorem Qm{b:Nat} (h:kp b=true):next w (jA kp b)=(next u2 b).map (jA kp):=by
 have a:=UY g e hk h;rw[<-e.len]at a;have d:=gW a;unfold next
 rw[GO g e hk c h d,d]
theorem zfg{b:Nat} {l:List Nat} (h:Pt (next u2) b l):Pt (next w) (jA kp b) (l.map (jA kp)):=by
 induction h with
 | nil=>
   rw[ZQ,Y1,RA hk]
   exact .nil
 |step h c a=>exact .step a (by grind[Qm,wBp])
theorem ZD{i:Nat} {m:List Nat} (h:Pt (next w) i m):∃b l,i=jA kp b/\m=l.map (jA kp)/\Pt (next u2) b l:=by
 induction h with
 |nil=>exact⟨0,[0],(RA hk).symm,by rw[ZQ,Y1,RA hk],.nil⟩
 | step h a d=>
   obtain⟨b,l,rfl,rfl,f⟩:=d;rw[Qm g e hk c (by grind)]at a;obtain⟨t,j,rfl⟩:=LB.1 a;exact⟨t,t::l,rfl,rfl,.step f j⟩
theorem QM{a b:Nat} (d:kp b=true) (h:qd (next u) a b):qd (next w) (jA kp a) (jA kp b):=λm f=>by
 obtain⟨b',l,i,rfl,j⟩:=ZD g e hk c f;obtain rfl:=yD d (by grind) i;exact wBp (h l (zcD e j))
theorem XZ{v b k:Nat} (f:kp b=true) (h:Bn u v b k):Bn w v (jA kp b) k:=by
 obtain⟨a,j,l,d⟩:=h;rcases d with⟨rfl,d⟩|⟨d,i⟩
 ·exact⟨_,j,(Sp g e hk c).2 (by grind),.inl ⟨rfl,d⟩⟩
 ·have m:=JQ e hk f i;exact⟨_,j,(Sp g e hk c).2 (by grind),.inr ⟨λq=>d (yD m f q),QM g e hk c f i⟩⟩
theorem K7{v b:Nat} (f:kp b=true) (h:rh u v b):rh w v (jA kp b):=by
 obtain⟨a,j,d,i⟩:=h;exact⟨_,j,(Sp g e hk c).2 ⟨a,JQ e hk f i,rfl,d⟩,by grind[QM]⟩
end
open Dm
structure U6 (c x:Vl):Prop where
 op:c.op=x.op
 a:c.a=x.a
 b:c.b=x.b
 n:c.n=x.n
 state:c.state=x.state
 ne:x.op≠21->c=x
 args:∀a∈c.args,a∈x.args
theorem U6.iH{b x:Vl} (h:U6 b x):∀a∈iH b,a∈iH x:=by
 by_cases e:x.op=21
 ·unfold Un.iH;rw[h.op,if_pos e,if_pos e];exact h.args
 ·rw[h.ne e]
  simp_all
theorem SH{α:Type} (ps:List Nat) (r:Nat->Bool) (f:Nat->α):((List.range ps.length).filter λj=>r (ps.getD j 0)).map (λj=>f (ps.getD j 0))=(ps.filter r).map f:=by
 have a:=congrArg (λl=>(l.filter r).map f) (Mu ps 0);simp only[List.filter_map,List.map_map]at a;exact a
theorem xz(L:List Bk) (b:Nat) (h:∀B∈L,B.next.Nodup):∀n,n<=L.length->jQ (L.take n) 0 b=(List.range n).filter λp=>(match L[p]? with|some B=>B.next|none=>[]).contains b
 |0,_=>rfl
 | n + 1,hn=>by
   have a:=gW (show n<L.length by omega);rw[N6 (by omega),qh,xz L b h n (by omega),Yr,wB3];congr 1;have c:=h _ (AW (show n<L.length by omega));simp only[jQ,Jk,Mo,zj,wBm (by omega)];have hs:(match L[n]? with|some B=>B.next|none=>[])=L[n].next:=by rw[a]
   rw[wB0,List.filter_nil,hs];generalize L[n].next=l at c;have e:l.filter (λx=>decide (x=b))=if b∈l then[b] else[]:=by
     clear a hs
     induction l with
     |nil=>simp
     | cons t l d=>
       grind
   grind
section
variable{u u2 w:U}{kp:Nat->Bool}(g:Good u)(e:Lq u u2)(hk:∀b,kp b=true↔∃l,Pt (next u2) b l)(c:Cut u2 kp w)
include g
theorem Ve{b:Nat} {B:Bk} (a:u.blocks[b]? =some B):B.next.Nodup:=by
 rcases g.fin b B a with⟨h,c⟩|⟨h,c,_⟩|⟨h,c,_⟩
 ·grind
 ·have hc:=g.HC b B a h
  match hq:B.next,c with
  | [s,t],_=>
    rw[wBn];refine⟨λf=>?_,by simp⟩;obtain rfl:s=t:=by simp_all
    have d:=hc s (by rw[hq];simp);have e:=(jP.1 a).1;unfold ahead at d;rw[<-Zp b u.blocks,Xx e,qh,Ji]at d
    grind[jQ,Option.some.inj,gW]
 simp_all
theorem VN(b:Nat):ahead u b=(List.range u.blocks.length).filter λp=>(next u p).contains b:=by
 have:=xz u.blocks b (by grind[mQ,Ve]) _ (iZ _);rw[JC]at this;exact this
include e
theorem zaN{b:Nat} {B:Bk} (a:u2.blocks[b]? =some B):B.next.Nodup:=by
 obtain⟨A,d,_,_,_,c⟩:=Ff e a;rcases c with rfl|⟨_,n,t,_,_,rfl⟩
 ·grind[Ve]
 ·simp
include hk c
theorem U3{i:Nat} {C:Bk} (h:w.blocks[i]? =some C):C.next.Nodup:=by
 obtain⟨b,B,d,f,rfl,rfl⟩:=KP c h;have a:=zaN g e f;have j:∀t∈B.next,kp t=true:=λt n=>Ek hk d (by grind[next]);show(B.next.map (jA kp)).Nodup;generalize B.next=l at a j
 induction l with
 |nil=>simp
 | cons t l o=>
   rw[wBn]at a;rw[ZQ,wBn];refine⟨λk=>?_,by simp_all⟩;obtain⟨s,p,m⟩:=LB.1 k;obtain rfl:=yD (by simp_all) (by simp_all) m
   simp_all
omit g hk in
theorem QI:List.range w.blocks.length=((List.range u.blocks.length).filter kp).map (jA kp):=by
 have hl:w.blocks.length=((List.range u.blocks.length).filter kp).length:=by
  rw[c.blocks,DL];unfold lR;rw[e.len]
 refine wBR λi=>?_;rw[CH,hl]
 cases hb:((List.range u.blocks.length).filter kp)[i]? with
 | none=>
   simp_all
 | some b=>
   have hi:=(jP.1 hb).1;obtain⟨h1,h2⟩:=Ks.1 (Dh hb);have:=qX (wBa.filter kp) hb (N3 (TZ.1 h1) h2)
   simp_all
theorem Ma{b:Nat} {B:Bk} (h:kp b=true) (d:u.blocks[b]? =some B):ahead w (jA kp b)=ku u2 kp b B.eQ:=by
 have a:=xz w.blocks (jA kp b) (by grind[mQ,U3]) _ (iZ _);rw[JC]at a;show jQ w.blocks 0 _=_;rw[a,QI e c];have f:=SH B.eQ (λp=>kp p&&(next u2 p).contains b) (jA kp);show _=((List.range B.eQ.length).filter _).map _;rw[f,g.eQ b B d,VN g,List.filter_map,List.filter_filter,List.filter_filter];congr 1;refine List.filter_congr λp hp=>?_
 cases hkp:kp p with
 |false=>simp
 | true=>
   show((next w (jA kp p)).contains (jA kp b)&&true)=_;rw[Qm g e hk c hkp,Tf];simp only[Bool.and_true,ZR,xg,wBQ,LB];constructor
   ·rintro⟨t,i,j⟩
    obtain rfl:=yD (Ek hk hkp i) h j
    grind[NL]
   grind
omit hk in
theorem Lk {v:Nat} {x:Vl} (hx:u.ef[v]? =some x):∃x',w.ef[v]? =some x'/\U6 x' x/\∀(b k:Nat) (B:Bk),x.op=21->At u v b k->kp b=true->u.blocks[b]? =some B->x'.args=oE u2 kp b B.eQ x.args:=by
 have hx2:u2.ef[v]? =some x:=by rw[e.ef];exact hx
 by_cases h:x.op=21/\∃b k,At u2 v b k/\kp b=true
 ·obtain ⟨h1,b,k,h2,h3⟩:=h;obtain⟨B,hB,hv⟩:=id h2;obtain⟨A,hA,_,hp,_⟩:=Ff e hB;refine⟨_,c.CJ v b k x B h2 hx2 h1 h3 hB,⟨rfl,rfl,rfl,rfl,rfl,by omega,λa ha=>?_⟩,λb' k' B' _ Z6 _ hB'=>?_⟩
  ·obtain⟨j,hj,rfl⟩:=LB.1 ha;have hj:=TZ.1 (Ks.1 hj).1;have hlen:=(g.CJ v b k x A ((L3 e).1 h2) hx h1 hA).2
   simp_all
  ·obtain⟨rfl,_⟩:=g.Ju _ _ _ _ _ Z6 ((L3 e).1 h2)
   simp_all
 ·refine⟨x,c.same v x hx2 h,⟨rfl,rfl,rfl,rfl,rfl,λ_=>rfl,λ_ h=>h⟩,λb k B h1 h2 h3 _=>?_⟩;exact(h ⟨h1,b,k,(L3 e).2 h2,h3⟩).elim
omit hk in
theorem I2 {v:Nat} {x':Vl} (hx:w.ef[v]? =some x'):∃x,u.ef[v]? =some x/\U6 x' x/\∀(b k:Nat) (B:Bk),x.op=21->At u v b k->kp b=true->u.blocks[b]? =some B->x'.args=oE u2 kp b B.eQ x.args:=by
 have hl:=(jP.1 hx).1;rw[c.len,e.ef]at hl
 grind[gW,Lk]
omit hk in
theorem VH {v:Nat}:nt w v↔nt u v:=by
 constructor
 ·rintro⟨x',h1,h2⟩;obtain⟨x,h3,h4,_⟩:=I2 g e c h1;exact⟨x,h3,by rw[<-h4.op];exact h2⟩
 ·rintro⟨x,h1,h2⟩;obtain⟨x',h3,h4,_⟩:=Lk g e c h1;exact⟨x',h3,by rw[h4.op];exact h2⟩
theorem MO{as:Nat->Int} (Vd:∀(v b k:Nat),At u v b k->kp b=false->as v = -1):Gd w λv=>stays as v=true:=by
 have S:w.ef.length=u.ef.length:=by rw[c.len,e.ef]
 have I:w.eh=u.eh:=by rw[c.eh,e.eh]
 have aj:w.blocks.length<=u.blocks.length:=by
  have:=congrArg List.length (QI e c);rw[Tz,DL]at this;have:=X6 kp (List.range u.blocks.length);rw[Tz]at this;omega
 have h0:jA kp 0=0:=RA hk;have k0:=zc6 hk;have V:=@I2 u u2 w kp g e c;have A:=@Sp u u2 w kp g e hk c;have G:=@VH u u2 w kp g e c;have vb:∀{i:Nat} {C:Bk},w.blocks[i]? =some C->∃b B,kp b=true/\u.blocks[b]? =some B/\i=jA kp b/\C.ef=B.ef/\C.eQ=ku u2 kp b B.eQ/\C.state=B.state/\((C.fin=B.fin/\C.cond=B.cond/\C.next=B.next.map (jA kp)/\next u2 b=B.next)\/(C.fin=1/\C.next.length=1)):=λ{i C} h=>by
  obtain⟨b,B,F,K,r,rfl⟩:=KP c h;obtain⟨P,T,h5,h6,h7,h8⟩:=Ff e K;refine⟨b,P,F,T,r,h5,by rw[<-h6],h7,?_⟩;rcases h8 with rfl|⟨_,n,t,_,_,rfl⟩
  ·exact .inl ⟨rfl,rfl,rfl,by grind[next]⟩
  simp_all
 refine
  { nv:=by rw[S];exact g.nv
    KC:=?_
    nb:=by have:=g.nb;omega
    ns:=by rw[I];exact g.ns
    st:=λs fs hs=>?_
    Fi:=λv hv hP=>?_
    Ju:=λv b k b' k' h h'=>?_
    jE:=λv b k h=>?_
    B4:=λv z b k x y F K D hy hh=>?_
    par:=λv b k x F D K=>?_
    CJ:=λv b k x B F D K H=>?_
    op:=λv x D=>?_
    use:=λv x D z U=>?_
    leave:=λv x D L=>?_
    putAt:=λv x D ab=>?_
    param:=λv x D F=>?_
    fin:=λb C J=>?_
    nx:=λb t W=>?_
    eQ:=λb C J=>?_
    Cl:=?_
    HC:=λb C J K t W=>?_
    reach:=λb hb=>?_
    DD:=λv b k x F D E z U=>?_
    Dn:=λv b k x C F D E J j z p Q hp=>?_
    Gb:=λv b k x fs F D L M z U=>?_
    Dk:=λb C J K=>?_
    Gc:=λb C fs J r M z U=>?_}
 ·have L:=g.KC;rw[<-e.len]at L;have:=(jP.1 (GO g e hk c k0 (gW (show 0<u2.blocks.length from L)))).1;omega
 ·rw[I]at hs;obtain⟨F,K,r⟩:=g.st s fs hs
  grind
 ·rw[S]at hv;obtain⟨b,k,Y⟩:=g.Fi v hv trivial;refine⟨jA kp b,k,A.2 ⟨b,?_,rfl,Y⟩⟩
  cases hb:kp b with
  |true=>rfl
  | false=>
    have:=Vd v b k Y hb
    simp_all[stays,HR]
 ·obtain⟨a,F,rfl,r⟩:=A.1 h;obtain⟨a',ak,rfl,ac⟩:=A.1 h';obtain⟨rfl,rfl⟩:=g.Ju _ _ _ _ _ r ac;omega
 ·rw[S];obtain⟨a,_,_,r⟩:=A.1 h;exact g.jE _ _ _ r
 ·obtain⟨a,o,rfl,r⟩:=A.1 F;obtain⟨a',ae,T,h5⟩:=A.1 K;obtain rfl:=yD o ae T;obtain⟨f,d,m,_⟩:=V D;obtain⟨y0,X,sy,_⟩:=V hy;rw[sy.op];exact g.B4 v z a k f y0 r h5 d X (by rw[<-m.op];exact hh)
 ·obtain⟨a,o,rfl,r⟩:=A.1 F;obtain⟨f,d,m,_⟩:=V D;rw[g.par v a k f r d (by rw[<-m.op];exact K)];exact h0
 ·obtain⟨a,o,rfl,r⟩:=A.1 F;obtain⟨f,d,m,sp⟩:=V D;obtain⟨a',P,k2,N,T,_,Z,_⟩:=vb H;obtain rfl:=yD o k2 T;have E:f.op=21:=by rw[<-m.op];exact K
  refine⟨λq=>(g.CJ v a k f P r d E N).1 (by grind[yD]),?_⟩
  grind[oE,ku,DL]
 ·obtain⟨f,d,m,_⟩:=V D;rw[m.op];exact g.op v f d
 ·obtain⟨f,d,m,_⟩:=V D;exact G.2 (g.use v f d z (m.iH z U))
 ·obtain⟨f,d,m,_⟩:=V D;rw[I,m.state];exact g.leave v f d (by rw[<-m.op];exact L)
 ·obtain⟨f,d,m,_⟩:=V D;have aa:f.op=20:=by rw[<-m.op];exact ab
  rw[m.ne (by omega)];exact g.putAt v f d aa
 ·obtain⟨f,d,m,_⟩:=V D;obtain⟨q1,q2,q3⟩:=g.param v f d (by rw[<-m.op];exact F);rw[m.n];refine⟨q1,q2,λz y hy ag ah=>?_⟩;obtain⟨y0,X,sy,_⟩:=V hy;exact q3 z y0 X (by rw[<-sy.op];exact ag) (by rw[<-sy.n];exact ah)
 ·obtain ⟨b0,B,o,H,_,_,_,q3,⟨O,q5,q6,_⟩|O⟩:=vb J
  ·rw[O,q5,q6,q3,I];rcases g.fin b0 B H with⟨r1,r2⟩|⟨r1,r2,r3⟩|⟨r1,r2,r3⟩
   ·simp_all
   ·simp_all
   simp_all
  omega
 ·unfold next at W
  split at W
  ·rename_i C J;obtain⟨b0,B,o,H,_,rfl⟩:=KP c J;obtain⟨t0,R,rfl⟩:=LB.1 W;have kt:=Ek hk o (t:=t0) (by grind[next]);have L:=UY g e hk kt;rw[<-e.len]at L;exact(jP.1 (GO g e hk c kt (gW L))).1
  ·cases W
 ·obtain⟨b0,B,o,H,rfl,_,q2,_⟩:=vb J
  grind[Ma]
 ·have H:=gW (show 0<u.blocks.length from g.KC);have:=Ma g e hk c k0 H;rw[h0,g.eQ 0 _ H,g.Cl]at this;rw[this];rfl
 ·obtain ⟨b0,B,o,H,rfl,_,_,_,⟨O,_,q6,q7⟩|⟨O,_⟩⟩:=vb J
  ·rw [q6]at W;obtain⟨t0,R,rfl⟩:=LB.1 W;have ai:B.fin=2:=by rw[<-O];exact K
   have kt:=Ek hk o (t:=t0) (by rw[q7];exact R);have hT:=gW (UY g e hk kt);have hc:=g.HC b0 B H ai t0 R;rw[<-g.eQ t0 _ hT]at hc;have hw:=Ma g e hk c kt hT;have hm:jA kp b0∈ahead w (jA kp t0):=vO.2 (by rw[Qm g e hk c o,q7];exact wBp R);have al:(ahead w (jA kp t0)).length<=1:=by
    rw[hw];unfold ku ry;rw[DL];refine Ie (X6 _ _) ?_;rw[Tz];omega
   have:=List.length_pos_of_mem hm;omega
  ·omega
 ·obtain⟨b0,B,o,H,rfl,_⟩:=vb (gW hb);obtain⟨l,L⟩:=(hk b0).1 o;exact⟨_,zfg g e hk c L⟩
 ·obtain⟨a,o,rfl,r⟩:=A.1 F;obtain⟨f,d,m,_⟩:=V D;rw[m.op]at E;exact XZ g e hk c o (g.DD v a k f r d E z (m.iH z U))
 ·obtain ⟨a,o,rfl,r⟩:=A.1 F;obtain⟨f,d,m,sp⟩:=V D;obtain⟨a',P,k2,N,T,_,Z,_⟩:=vb J;obtain rfl:=yD o k2 T;rw[m.op]at E;have hlen:=(g.CJ v a k f P r d E N).2;rw[sp a k P E r o N]at Q;rw[Z]at hp;unfold oE at Q;unfold ku at hp;rw[CH]at Q hp
  cases hi:(ry u2 kp a P.eQ)[j]? with
  |none=>rw[hi]at Q;cases Q
  | some i=>
    rw[hi]at Q hp;obtain⟨i1,i2⟩:=Ks.1 (Dh hi);have i1:=TZ.1 i1;rw[xg]at i2;have e1:=gW i1;have e2:=gW (show i<f.args.length by omega);rw[DY,e1]at i2;have Q:f.args[i]=z:=by
      have:f.args.getD i 0=z:=Option.some.inj Q
      rwa [DY,e2]at this
    have hp:jA kp P.eQ[i]=p:=by
      have:jA kp (P.eQ.getD i 0)=p:=Option.some.inj hp
      rwa [DY,e1]at this
    subst Q hp;exact K7 g e hk c i2.1 (g.Dn v a k f P r d E N i _ _ e2 e1)
 ·obtain⟨a,o,rfl,r⟩:=A.1 F;obtain⟨f,d,m,_⟩:=V D;rw[I,m.state]at M;exact XZ g e hk c o (g.Gb v a k f fs r d (by rw[<-m.op];exact L) M z U)
 ·obtain⟨b0,B,o,H,rfl,_,_,_,⟨O,q5,_⟩|⟨O,_⟩⟩:=vb J
  ·rw[q5];exact K7 g e hk c o (g.Dk b0 B H (by rw[<-O];exact K))
  ·omega
 ·obtain⟨b0,B,o,H,rfl,_,_,q3,⟨O,_⟩|⟨O,_⟩⟩:=vb J
  ·rw[I,q3]at M;exact K7 g e hk c o (g.Gc b0 B fs H (by rw[<-O];exact r) M z U)
  ·omega
end
open Dm
theorem Ij{L:List Nat} (b:L.Nodup) {j a:Nat} (h:L[j]? =some a):L.findIdx? (·== a)=some j:=by
 obtain⟨c,d⟩:=jP.1 h;rw[wBV];refine⟨c,by simp[d],λi hi=>?_⟩;intro hc;have:L[i]=a:=by simpa using hc
 have:=qX b (gW (show i<L.length by omega)) (by simp_all:L[j]? =some L[i]);omega
section
variable{u u2 w:U}{kp:Nat->Bool}(g:Good u)(e:Lq u u2)(hk:∀b,kp b=true↔∃l,Pt (next u2) b l)(c:Cut u2 kp w)
include g e c
theorem zcT(v:Nat):fP w v=fP u v:=by
 unfold fP
 cases h:u.ef[v]? with
 | none=>
   rw[List.getElem?_eq_none_iff]at h
   rw[List.getElem?_eq_none_iff.2 (by rw[c.len,e.ef];exact h)]
 | some x=>
   obtain⟨a,b,d,_⟩:=Lk g e c h;rw[b];show hZ a.op=hZ x.op;rw[d.op]
include hk
theorem zcz:Step u w (jA kp) (λb=>kp b=true):=by
 have F:w.eh=u.eh:=by rw[c.eh,e.eh]
 refine⟨F,RA hk,zc6 hk,by rw[c.len,e.ef],λb B l E=>?_,zcT g e c,λv b k x A d f=>?_,λB B' locals val v l V hv f=>?_,λp t B T W s locals val v l hp G hn z X hv f=>?_⟩
 ·rcases e.nf b B l with m|⟨a,n,t,⟨y,H,I,Q⟩,Y,Z⟩
  ·refine ⟨_,GO g e hk c E m,rfl,by simp_all,λh=>⟨h,λs t _ o=>?_⟩⟩;have hm:t∈B.next:=by
    unfold oY at o
    repeat' split at o
    all_goals grind
   refine⟨Ek hk E (by grind[next]),?_⟩;unfold oY at o⊢
   grind
  ·refine⟨_,GO g e hk c E Z,rfl,by omega,λh=>⟨by simp,λs t' G o=>?_⟩⟩;have hs:=G B.cond y H I (uz l (g.Dk b B l a));unfold oY at o;rw[if_neg (by omega),if_pos a,hs,Q,Y]at o;cases o;exact⟨Ek hk E (by grind[next]),rfl⟩
 ·obtain ⟨R,m,a,_⟩:=Lk g e c d;have q:x.op≠21:=by
   unfold fP hZ at f;rw[d]at f;simp at f;exact f.2
  rw[a.ne q]at m
  grind[pw,qi]
 ·obtain ⟨x,d⟩:∃x,u.ef[v]? =some x:=by
   grind[fP]
  obtain⟨R,m,a,_⟩:=Lk g e c d;unfold sB;rw[d,m];simp only[a.op,a.n]
 ·obtain ⟨x,d⟩:∃x,u.ef[v]? =some x:=by
   grind[fP]
  obtain⟨R,m,a,h3⟩:=Lk g e c d;unfold sB;rw[d,m];simp only[a.op,a.n];by_cases hx1:x.op=1
  ·omega
  rw [if_neg hx1,if_neg hx1];have q:x.op=21:=by
   unfold fP hZ at f;rw[d]at f;simp at f;omega
  have r:t∈next u2 p:=by
   rcases e.nf p B l with q1|⟨q2,n,t',⟨y,H,I,Q⟩,q4,S⟩
   ·grind[next,oY,Dh]
   ·have hs:=G B.cond y H I (uz l (g.Dk p B l q2))
    simp_all[oY,if_neg,if_pos,next]
  have J:=Ek hk hp r;obtain⟨k,A⟩:∃k,At u v t k:=by
   obtain⟨k,hk⟩:=mQ.1 hv;exact⟨k,T,z,hk⟩
  rw [h3 t k T q A J z];have K:W.eQ=ku u2 kp t T.eQ:=by
   rcases e.nf t T z with q1|⟨_,n,t',_,_,S⟩
   ·grind[GO]
   ·have:=GO g e hk c J S
    grind
  have L:p∈T.eQ:=by rw[g.eQ t T z];exact vO.2 (NL e r)
  obtain⟨j,M⟩:=mQ.1 L;have N:T.eQ.Nodup:=by rw[g.eQ t T z,VN g];exact wBa.filter _
  have C:(ku u2 kp t T.eQ).Nodup:=by
   rw[<-Ma g e hk c J z];have U:=xz w.blocks (jA kp t) (by grind[mQ,U3]) _ (iZ _);rw[JC]at U;show(jQ w.blocks 0 _).Nodup;rw[U];exact wBa.filter _
  have O:=(jP.1 M).1;have D:T.eQ.getD j 0=p:=by rw[DY,M];rfl
  have P:j∈ry u2 kp t T.eQ:=Ks.2 ⟨TZ.2 O,by rw[D,hp,ZR,wBQ];exact r⟩;obtain⟨i,hi⟩:=mQ.1 P;have e1:(ku u2 kp t T.eQ)[i]? =some (jA kp p):=by
   unfold ku;rw[CH,hi,<-D];rfl
  rw[Ij N M,K,Ij C e1]
  grind[oE]
end
open Dm
theorem zaA{u:U} (g:Good u) {v o b k c j:Nat} {x:Vl} (C:u.ef[v]? =some x) (y:x.op=21) (s:At u v b k) (E:At u o c j) (F:∀a∈x.args,a=v\/a=o):c≠b/\qd (next u) c b:=by
 obtain ⟨B,A,hk⟩:=id s;obtain⟨G,hlen⟩:=g.CJ v b k x B s C y A;have r:∀n l,l.length<=n->Pt (next u) b (b::l)->c∈l:=by
  intro n
  induction n with
  | zero=>
    intro l t h;have:l=[]:=by simp_all
    subst this
    cases h with
    |nil=>omega
    |step h _=>cases h
  | succ n H=>
    intro l t h
    cases h with
    |nil=>omega
    | step h e=>
      rename_i p;have hp:p∈B.eQ:=by rw[g.eQ b B A];exact vO.2 e
      obtain⟨i,hi⟩:=mQ.1 hp;have I:=(jP.1 hi).1;have J:=gW (show i<x.args.length by omega);have hs:=g.Dn v b k x B s C y A i _ p J hi;obtain⟨d,m,z,D⟩:=hs;rcases F _ (AW _:x.args[i]∈x.args)with q|q
      ·rw[q]at z
       obtain⟨rfl,_⟩:=g.Ju _ _ _ _ _ z s;obtain⟨w,L,M⟩:=Pt.suffix h (D l h)
       grind
      ·rw[q]at z
       obtain⟨rfl,_⟩:=g.Ju _ _ _ _ _ z E;exact D l h
 have f:∀{l},Pt (next u) b l->∃w,l=b::w:=λh=>by
  cases h
  ·omega
  simp_all
 have K:qd (next u) c b:=λl t=>by
  obtain⟨w,rfl⟩:=f t;exact List.mem_cons_of_mem _ (r _ w (iZ _) t)
 refine ⟨λq=>?_,K⟩;subst q;have no:∀n l,l.length<=n->¬Pt (next u) c (c::l):=by
  intro n
  induction n with
  | zero=>
    intro l t h;have:=r _ l (iZ _) h
    simp_all
  | succ n H=>
    intro l t h;have N:=r _ l (iZ _) h
    cases h with
    |nil=>omega
    | step h e=>
      grind[Pt.suffix,QN]
 obtain⟨l,t⟩:=g.reach c (by grind);obtain⟨w,rfl⟩:=f t;exact no _ w (iZ _) t
structure Tv (u:U) (as:Nat->Int):Prop where
 out:∀v,u.ef.length<=v->as v = -1
 root:∀v r:Nat,as v=(r:Int)->as r=(r:Int)
 cas:∀(v:Nat) (x:Vl),u.ef[v]? =some x->as v=(v:Int)\/(as v = -1/\x.op=22/\∃n,Kw u x.a n/\n≠0)\/(x.op=21/\∃r:Nat,as v=(r:Int)/\r≠v/\r∈x.args/\∀a∈x.args,a=v\/a=r)
structure T0 (u:U) (kp:Nat->Bool) (as Cd:Nat->Int):Prop where
 gone:∀(v b k:Nat),At u v b k->kp b=false->Cd v = -1
 same:∀(v:Nat),(¬∃b k,At u v b k/\kp b=false)->Cd v=as v
section
variable{u u2 w:U}{kp:Nat->Bool}(g:Good u)(e:Lq u u2)(hk:∀b,kp b=true↔∃l,Pt (next u2) b l)(c:Cut u2 kp w){as Cd:Nat->Int}(F:Tv u as)(Gn:T0 u kp as Cd)
include g F Gn
omit F in
theorem Jq {v b k:Nat} (OE:At u v b k) (hb:kp b=true):Cd v=as v:=Gn.same v λ⟨b',k',h1,h2⟩=>by
 obtain⟨rfl,_⟩:=g.Ju _ _ _ _ _ OE h1
 simp_all
theorem Nm{v:Nat} (h:0<=Cd v):Cd v=as v/\∃b k,At u v b k/\kp b=true:=by
 by_cases hv:v<u.ef.length
 ·obtain ⟨b,k,a⟩:=g.Fi v hv trivial
  cases hb:kp b with
  |true=>grind[Jq]
  | false=>
    have:=Gn.gone v b k a hb;omega
 ·have c:Cd v=as v:=Gn.same v λ⟨b,k,c,_⟩=>hv (g.jE _ _ _ c);have:=F.out v (by omega);omega
theorem R0{v b k:Nat} (c:At u v b k) (d:kp b=true) (a:nt u v):0<=Cd v:=by
 rw[Jq g Gn c d];obtain⟨x,e,a⟩:=a;rcases F.cas v x e with h|⟨_,h,_⟩|⟨_,r,h,_⟩
 ·omega
 ·rw[h]at a;cases a
 ·omega
include e hk
theorem QS{v b k r:Nat} (c:At u v b k) (l:kp b=true) (h:Cd v=(r:Int)) (p:r≠v):∃d j,At u r d j/\kp d=true/\d≠b/\qd (next u) d b/\∃x,u.ef[v]? =some x/\x.op=21/\r∈x.args/\∀a∈x.args,a=v\/a=r:=by
 have f:=gW (g.jE _ _ _ c);rw[Jq g Gn c l]at h;rcases F.cas v _ f with i|⟨i,_⟩|⟨i,r',w,_,q,m⟩
 ·omega
 ·omega
 ·obtain rfl:r=r':=by omega
  have s:nt u r:=g.use v _ f r (by simp_all[iH,if_pos]);obtain⟨y,z,_⟩:=s;obtain⟨d,j,n⟩:=g.Fi r (by grind) trivial;obtain⟨t,o⟩:=zaA g f i c n m;exact⟨d,j,n,JQ e hk l o,t,o,_,f,i,q,m⟩
include c
theorem So:Fit w Cd:=by
 have A:=@Sp u u2 w kp g e hk c;have V:=@I2 u u2 w kp g e c;have W:=@VH u u2 w kp g e c;have pos:∀{v b k:Nat},kp b=true->nt u v->Bn u v b k->0<=Cd v:=λ{v b k} m y ⟨d,j,l,hs⟩=>by
  refine R0 g F Gn l ?_ y;rcases hs with⟨rfl,_⟩|⟨_,I⟩
  ·exact m
  ·exact JQ e hk m I
 have D:∀{v b:Nat},kp b=true->nt u v->rh u v b->0<=Cd v:=λ{v b} m y ⟨d,j,l,hs⟩=>R0 g F Gn l (JQ e hk m hs) y;have E:∀{v:Nat},stays Cd v=true->∃b k,At u v b k/\kp b=true:=λ{v} h=>by
  unfold stays at h;rw[HR]at h;exact(Nm g F Gn (v:=v) (by omega)).2
 refine⟨λv hv h0=>?_,λv r i k h X=>?_,λv r h y=>?_,λv Y z hs a G=>?_,λv Y fs z hs S o a G=>?_,λi C P J=>?_,λi C fs P K o a G=>?_⟩
 ·obtain⟨p,b,k,l,m⟩:=Nm g F Gn h0;obtain⟨r,N⟩:∃r:Nat,Cd v=(r:Int):=⟨(Cd v).toNat,by omega⟩
  refine⟨r,N,?_⟩;rw[c.len,e.ef];by_cases hne:r=v
  ·subst hne;exact⟨g.jE _ _ _ l,N⟩
  ·obtain⟨d,j,I,kd,_⟩:=QS g e hk F Gn l m N hne;refine⟨g.jE _ _ _ I,?_⟩;rw[Jq g Gn I kd];exact F.root v r (by omega)
 ·obtain⟨b,m,rfl,l⟩:=A.1 X;by_cases hne:r=v
  ·grind
  ·obtain⟨d,j,I,kd,p,J,_⟩:=QS g e hk F Gn l m h hne;exact⟨_,j,by grind,.inr ⟨λq=>p (yD kd m q),QM g e hk c m J⟩⟩
 ·obtain⟨p,b,k,l,m⟩:=Nm g F Gn (v:=v) (by omega);by_cases hne:r=v
  ·simp_all
  ·obtain⟨d,j,I,kd,_,_,x,z,s,N,_⟩:=QS g e hk F Gn l m h hne;exact W.2 (g.use v x z r (by simp_all[iH,if_pos]))
 ·obtain⟨b,k,l,m⟩:=E hs;obtain⟨x,z,L,sp⟩:=V z;have M:=L.iH a G;have y:=g.use v x z a M;by_cases s:x.op=21
  ·obtain⟨B,H,_⟩:=id l;have hlen:=(g.CJ v b k x B l z s H).2;unfold iH at G;rw[L.op,if_pos s,sp b k B s l m H]at G;obtain⟨j,Z,rfl⟩:=LB.1 G;obtain⟨Q,R⟩:=Ks.1 Z;have Q:=TZ.1 Q;rw[xg]at R;have T:=gW Q;have U:=gW (show j<x.args.length by omega);rw[DY,T]at R;rw[DY,U]at y⊢;exact D R.1 y (g.Dn v b k x B l z s H j _ _ U T)
  ·exact pos m y (g.DD v b k x l z s a M)
 ·obtain ⟨b,k,l,m⟩:=E hs;obtain⟨x,z,L,_⟩:=V z;rw[c.eh,e.eh,L.state]at o;rw[L.op]at S;have y:nt u a:=by
   obtain⟨f,hf,p⟩:=Xq.1 G;obtain⟨_,_,J⟩:=g.st _ fs o;rcases I8.1 p with p|p
   ·grind
   ·grind
  exact pos m y (g.Gb v b k x fs l z S o a G)
 ·obtain ⟨b,B,m,H,rfl,rfl⟩:=KP c P;obtain⟨A0,O,_,_,_,p|⟨_,n,t,_,_,rfl⟩⟩:=Ff e H
  ·subst p;rcases g.fin b B O with⟨K,_⟩|⟨_,_,K⟩|⟨K,_⟩
   ·simp_all
   ·exact D m K (g.Dk b B O J)
   simp_all
  ·cases J
 ·obtain ⟨b,B,m,H,rfl,rfl⟩:=KP c P;obtain⟨A0,O,_,_,_,p|⟨_,n,t,_,_,rfl⟩⟩:=Ff e H
  ·subst p;rw[c.eh,e.eh]at o;have y:nt u a:=by
    obtain⟨f,hf,p⟩:=Xq.1 G;obtain⟨_,_,J⟩:=g.st _ fs o;rcases I8.1 p with p|p
    ·grind
    ·grind
   exact D m y (g.Gc b B fs O K o a G)
  ·cases K
end
open Dm
section
variable{u u2 w:U}{kp:Nat->Bool}(g:Good u)(e:Lq u u2)(hk:∀b,kp b=true↔∃l,Pt (next u2) b l)(c:Cut u2 kp w){as Cd:Nat->Int}(F:Tv u as)(Gn:T0 u kp as Cd)
include g e hk c F Gn
theorem zeZ{v i k r:Nat} (f:At w v i k) (h:Cd v=(r:Int)) (l:r≠v):∃d j,At w r d j/\d≠i/\qd (next w) d i/\∃x,w.ef[v]? =some x/\x.op=21/\∀a∈x.args,a=v\/a=r:=by
 obtain⟨b,o,rfl,q⟩:=(Sp g e hk c).1 f;obtain⟨d,j,A,kd,B,s,x,t,m,_,u⟩:=QS g e hk F Gn q o h l;obtain⟨y,n,p,_⟩:=Lk g e c t;exact⟨_,j,(Sp g e hk c).2 (by grind),by grind[yD],QM g e hk c o s,y,n,by rw[p.op];exact m,λa z=>u a (p.args a z)⟩
theorem X5(locals:List Int) (gw:Int) (heap:List Int):Way w Cd locals gw heap λb k s=>KI w b k s/\∀v r:Nat,Cd v=(r:Int)->Bn w v b k->s.of r=s.of v:=by
 have i:=MO g e hk c (as:=Cd) Gn.gone;have D:=@zeZ u u2 w kp g e hk c as Cd F Gn;have U:∀{v:Nat} {x:Vl},w.ef[v]? =some x->x.op=21->fP w v=true:=λ{v x} n h=>by
  unfold fP;rw[n];show(x.op == 1 ||x.op == 21)=true
  simp_all
 have apart:∀{v r b k t j:Nat},Cd v=(r:Int)->r≠v->Bn w v t k->t<w.blocks.length->At w r t j->False:=λ{v r b k t j} h f ⟨R,j0,a,hc⟩ E G=>by
  obtain⟨d,j',H,I,V,_⟩:=D a h f;obtain⟨rfl,_⟩:=i.Ju _ _ _ _ _ H G;rcases hc with⟨rfl,_⟩|⟨W,J⟩
  ·omega
  ·obtain⟨l,z⟩:=i.reach d E;exact W (J.zaW V z)
 refine⟨λB A=>⟨KI.start A,λv r h hs=>?_⟩,λb t B T s A m E K z=>⟨by grind[KI.B4],λv r h hs=>?_⟩,λb k X x s s1 a n hh K z L=>⟨K.1.one i a n z L,λv r h hs=>?_⟩,by grind⟩
 ·by_cases f:r=v
  ·rw[f]
  ·obtain⟨R,j,a,hc⟩:=hs;obtain⟨_,_,_,_,_,x,n,o,_⟩:=D a h f;obtain⟨Y,M,_⟩:=id a;have N:=(i.CJ v R j x Y a n o M).1;rcases hc with⟨q,_⟩|⟨_,H⟩
   ·omega
   ·exact(N (by simpa using H _ .nil)).elim
 ·by_cases f:r=v
  ·rw[f]
  have O:=(jP.1 m).1;have G:r ∉ T.ef.takeWhile (fP w):=λZ=>by
   obtain⟨k,p⟩:=mQ.1 (wBL _ Z);exact apart (b:=0) h f hs O ⟨T,m,p⟩
  have y:({s with steps:=s.steps+1}:Rs).val.length=w.ef.length:=z;rw[Nu i m y G];show s.of r=_;by_cases hv:v∈T.ef.takeWhile (fP w)
  ·rw[zaB i m y hv];obtain⟨k,p⟩:=mQ.1 (wBL _ hv);have a:At w v t k:=⟨T,m,p⟩
   obtain⟨_,_,_,_,_,x,n,o,ha⟩:=D a h f;have hlen:=(i.CJ v t k x T a n o m).2;have P:t∈next w b:=by unfold next;rw[A];exact E
   have aa:b∈T.eQ:=by rw[i.eQ t T m];exact vO.2 P
   unfold sB;rw[n];simp only;rw[if_neg (by omega)]
   cases hf:T.eQ.findIdx? (·== b)with
   | none=>
     grind
   | some j=>
     obtain⟨hj,I,_⟩:=wBV.1 hf;have I:T.eQ[j]=b:=by simpa using I
     have S:=gW (show j<x.args.length by omega);simp only;rw[DY,S];show s.of r=s.of x.args[j];rcases ha _ (AW _:x.args[j]∈x.args)with q|q
     ·rw[q]
      have ab:=i.Dn v t k x T a n o m j _ _ S (gW hj)
      grind[uz]
     ·rw[q]
  ·rw[Nu i m y hv];exact K.2 v r h (SL A m E hs hv)
 ·by_cases f:r=v
  ·rw[f]
  have C:X<s.val.length:=by rw[z];exact by grind
  obtain⟨B,A,_⟩:=id a;have Q:=(jP.1 A).1;rcases RK a hs with rfl|⟨hz,hs⟩
  ·grind
  ·rw[UK L hz C,UK L (λq=>apart (b:=0) h f hs Q (by rw[q];exact a)) C]
   grind
theorem Xb:wY u (ic w Cd):=by
 have m:=MO g e hk c (as:=Cd) Gn.gone;refine(Step.Jy g (zcz g e hk c)).trans λlocals gw fuel BM heap=>za5 m (by grind[So]) (X5 g e hk c F Gn locals gw heap) (λv i k q f o hs=>?_) BM;obtain⟨b,r,rfl,t⟩:=(Sp g e hk c).1 f;obtain⟨x,h,d,_⟩:=I2 g e c o;have z:=Jq g Gn t r;rw[d.op,d.a];rcases F.cas v x h with A|⟨_,B,n,⟨y,C,D,E⟩,G⟩|⟨A,_⟩
 ·grind[stays]
 ·refine ⟨by omega,by omega,λ_ s H=>?_,by omega⟩;obtain⟨I,j,p,_⟩:=Lk g e c C;have l:=m.DD v _ k q f o (by rw[d.op];omega) x.a (by
   rw[<-d.a];refine EG.2 ?_ (by rw[d.op];omega);rw[d.op,B];rfl)
  rw[H.1 x.a I j (by rw[p.op];exact D) l,p.n,E];exact G
 omega
theorem Xj:Good (ic w Cd):=Wu (MO g e hk c (as:=Cd) Gn.gone) (by grind[So])
end
open Dm
def mu(u:U):Nat:=u.ef.countP (λx=>x.op != 2)+u.blocks.countP (λB=>B.fin == 2)
def Unf(u:U)(v:Nat):Prop:=∀x n,u.ef[v]? =some x->¬Fv u x n
theorem VB{u:U} {v:Nat} {x:Vl} (a:u.ef[v]? =some x) (b:x.op≠2) (n:Int):mu (Gx u v n)<mu u:=by
 obtain ⟨hv,e⟩:=jP.1 a;have hp:0<u.ef.countP (λx=>x.op != 2):=List.countP_pos_iff.2 ⟨x,Dh a,by simp[b]⟩;have:(u.ef.set v (Vj n)).countP (λx=>x.op != 2)=u.ef.countP (λx=>x.op != 2)-1:=by
  rw[List.countP_set hv,e];simp[b,Vj]
 show(u.ef.set v (Vj n)).countP _+_<_;rw[this];unfold mu;show _+u.blocks.countP _<_;omega
structure Td (a:U->Prop) (u u':U) (c:Bool) (D:Nat->Prop):Prop where
 DW:Good u'
 Jy:wY u u'
 func:u'.func=u.func
 pc:u'.pc=u.pc
 blocks:u'.blocks=u.blocks
 eh:u'.eh=u.eh
 len:u'.ef.length=u.ef.length
 args:a u'
 ops:∀p:Nat->Prop,p 2->(∀x∈u.ef,p x.op)->∀y∈u'.ef,p y.op
 mu:mu u'<=mu u
 less:c=true->Un.mu u' < Un.mu u
 same:c=false->u' = u/\∀v,D v->Unf u v
theorem Td.start{a:U->Prop}{u:U}(g:Good u)(b:a u):Td a u u false λ_=>False:=⟨g,.refl _,rfl,rfl,rfl,rfl,rfl,b,λ_ _ h=>h,iZ _,λh=>(nomatch h),λ_=>⟨rfl,λ_ h=>h.elim⟩⟩
theorem Td.more{a:U->Prop} {u u':U} {c:Bool} {D D':Nat->Prop} (t:Td a u u' c D) (h:c=false->∀v,D' v->D v\/Unf u v):Td a u u' c D':=
 {t with same:=λhc=>⟨(t.same hc).1,λv hv=>(h hc v hv).elim ((t.same hc).2 v) id⟩ }
theorem Td.step{b:U->Prop} {u u':U} {c:Bool} {D:Nat->Prop} (t:Td b u u' c D) {v:Nat} {x:Vl} {n:Int} (a:u'.ef[v]? =some x) (f:Fv u' x n) (e:b (Gx u' v n)) (D':Nat->Prop):Td b u (Gx u' v n) true D' where
 DW:=WX t.DW a f.lo f.hi
 Jy:=t.Jy.trans (Wy t.DW a f)
 func:=t.func
 pc:=t.pc
 blocks:=t.blocks
 eh:=t.eh
 len:=LU.trans t.len
 args:=e
 ops p d h y hy:=by
  rcases List.mem_or_eq_of_mem_set (show y∈u'.ef.set v (Vj n) from hy)with g|rfl
  ·exact t.ops p d h y g
  ·exact d
 mu:=Nat.le_of_lt (EL (VB a (by have:=f.lo;omega) n) t.mu)
 less _:=EL (VB a (by have:=f.lo;omega) n) t.mu
 same h:=nomatch h
structure FH (u u2:U) (c:Bool) (D:Nat->Prop):Prop where
 e:Lq u u2
 mu:mu u2<=mu u
 less:c=true->Un.mu u2<Un.mu u
 same:c=false->u2=u/\∀b B n,D b->u.blocks[b]? =some B->B.fin=2->¬Kw u B.cond n
def TO(B:Bk)(t:Nat):Bk:={B with fin:=1,cond:=0,next:=[t]}
theorem FH.start(u:U):FH u u false λ_=>False:=⟨⟨rfl,rfl,rfl,rfl,rfl,λ_ _ h=> .inl h⟩,iZ _,λh=>(nomatch h),λ_=>⟨rfl,λ_ _ _ h=>h.elim⟩⟩
theorem FH.more{u u2:U} {c:Bool} {D D':Nat->Prop} (t:FH u u2 c D) (h:c=false->∀b,D' b->D b\/∀B n,u.blocks[b]? =some B->B.fin=2->¬Kw u B.cond n):FH u u2 c D':=
 {t with same:=λhc=>⟨(t.same hc).1,λb B n e a d=>(h hc b e).elim (λq=>(t.same hc).2 b B n q a d) λq=>q B n a d⟩ }
theorem FH.step{u u2:U} {c:Bool} {D:Nat->Prop} (t:FH u u2 c D) {b to:Nat} {B:Bk} {n:Int} (j:u.blocks[b]? =some B) (a:u2.blocks[b]? =some B) (d:B.fin=2) (k:Kw u B.cond n) (l:(if n=0 then B.next[1]? else B.next[0]?)=some to) (D':Nat->Prop):FH u {u2 with blocks:=u2.blocks.set b (TO B to)} true D':=by
 obtain ⟨g,e⟩:=jP.1 a;have m:Un.mu {u2 with blocks:=u2.blocks.set b (TO B to)} < Un.mu u2:=by
  have hp:0<u2.blocks.countP (λB=>B.fin == 2):=List.countP_pos_iff.2 ⟨B,Dh a,by simp[d]⟩;have:(u2.blocks.set b (TO B to)).countP (λB=>B.fin == 2)=u2.blocks.countP (λB=>B.fin == 2)-1:=by
   rw[List.countP_set g,e];simp[d,TO]
  show _+(u2.blocks.set b (TO B to)).countP _<_;rw[this];unfold Un.mu;show u2.ef.countP _+_<_;omega
 refine⟨⟨t.e.func,t.e.pc,t.e.ef,t.e.eh,by show(u2.blocks.set _ _).length=_;rw[LU];exact t.e.len,λi A f=>?_⟩,by have:=t.mu;omega,λ_=>by have:=t.mu;omega,λh=>(nomatch h)⟩;by_cases q:i=b
 ·subst q;rw[j]at f;cases f;exact .inr ⟨d,n,to,k,l,O9 g⟩
 ·show(u2.blocks.set b _)[i]? =_\/_/\∃_ _,_/\_/\(u2.blocks.set b _)[i]? =_;rw[Kk λz=>q z.symm];exact t.e.nf i A f
open Dm
theorem PB{A T:List Nat} (c:A.Nodup) (hs:∀x∈A,x∈T):A.length<=T.length:=by
 have h:(A.map T.idxOf).Nodup:=by
  induction A with
  |nil=>simp
  | cons a A f=>
    rw[wBn]at c;rw[ZQ,wBn];refine⟨λd=>?_,by simp_all⟩;obtain⟨b,g,e⟩:=LB.1 d;have:=QQ (by simp_all) (by simp_all) e
    simp_all
 have:=jj T.length _ h (by grind)
 simp_all
theorem getD_map{α:Type} (l:List α) (d:α):(List.range l.length).map (λj=>l.getD j d)=l:=by
 refine wBR λj=>?_
 grind
theorem count_range{α:Type} (l:List α) (d:α) (p:α->Bool):l.countP p=((List.range l.length).filter λj=>p (l.getD j d)).length:=by
 conv=>lhs;rw[<-getD_map l d,List.countP_map]
 rw[List.countP_eq_length_filter];rfl
section
variable{u u2 w:U}{kp:Nat->Bool}(g:Good u)(e:Lq u u2)(hk:∀b,kp b=true↔∃l,Pt (next u2) b l)(c:Cut u2 kp w){Cd:Nat->Int}(Vd:∀(v b k:Nat),At u v b k->kp b=false->Cd v = -1)
include g e hk c Vd
theorem zam:mu (ic w Cd)<=mu u2/\((∃v x,u.ef[v]? =some x/\x.op≠2/\stays Cd v=false)->mu (ic w Cd)<mu u2):=by
 have i:=MO g e hk c Vd;have f:=BP (as:=Cd) i;have r:(ic w Cd).blocks.countP (λB=>B.fin == 2)<=u2.blocks.countP λB=>B.fin == 2:=by
  show(w.blocks.map (mf w Cd)).countP _<=_;rw[List.countP_map,show((λB:Bk=>B.fin == 2) ∘ mf w Cd)=λB=>B.fin == 2 from rfl,c.blocks,List.countP_map,count_range u2.blocks Oc,List.countP_eq_length_filter];unfold lR;rw[List.filter_filter];refine PB (wBa.filter _) λx d=>?_;obtain⟨k,b⟩:=Ks.1 d;rw[xg]at b;exact Ks.2 ⟨k,b.1⟩
 have hv:(ic w Cd).ef.countP (λx=>x.op != 2)=((fG w Cd).filter λn=>(w.ef.getD n ⟨0,0,0,0,[],0⟩).op != 2).length:=by
  show((fG w Cd).map _).countP _=_;rw[List.countP_map,List.countP_eq_length_filter];rfl
 have a:∀n∈(fG w Cd).filter (λn=>(w.ef.getD n ⟨0,0,0,0,[],0⟩).op != 2),n∈(List.range u2.ef.length).filter λj=>(u2.ef.getD j ⟨0,0,0,0,[],0⟩).op != 2:=λn h=>by
  obtain⟨k,b⟩:=Ks.1 h;have l:=((iU i).1 k).1;obtain⟨x,d,o,_⟩:=I2 g e c (gW l);refine Ks.2 ⟨TZ.2 (by rw[<-c.len];exact l),?_⟩;rw[DY,gW l,Option.getD_some,o.op]at b;rw[e.ef,DY,d];exact b
 have hc:=count_range u2.ef ⟨0,0,0,0,[],0⟩ λx=>x.op != 2;unfold mu;rw[hv];refine⟨by have:=PB (f.filter _) a;omega,λ⟨v,x,d,b,hs⟩=>?_⟩;have m:=(jP.1 d).1;have p:v∈(List.range u2.ef.length).filter λj=>(u2.ef.getD j ⟨0,0,0,0,[],0⟩).op != 2:=by
  refine Ks.2 ⟨TZ.2 (by rw[e.ef];exact m),?_⟩;rw[e.ef,DY,d];simp[b]
 have:=PB (A:=v::(fG w Cd).filter λn=>(w.ef.getD n ⟨0,0,0,0,[],0⟩).op != 2) (by
  rw[wBn];refine⟨λq=>?_,f.filter _⟩;have:=((iU i).1 (Ks.1 q).1).2
  simp_all) λn h=>by
   rcases OC.1 h with rfl|h
   ·exact p
   ·exact a n h
 grind
end
