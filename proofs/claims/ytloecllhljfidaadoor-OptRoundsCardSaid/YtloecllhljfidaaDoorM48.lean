/- Parts. -/
import Derived.Test.YtloecllhljfidaaDoorM33
set_option maxHeartbeats 4000000
namespace Go.Proofs.YtloecllhljfidaaDoor.Un
open Dm
section
variable{u:U}{P:Nat->Prop}(g:Gd u P)
theorem ZK{t v j:Nat} {T:Bk} (d:u.blocks[t]? =some T) (a:At u v t j) (f:j<(T.ef.takeWhile (fY u)).length):fY u v=true:=by
 obtain⟨g,b,c⟩:=a;rw[d]at b;cases b;have e:=wA9 (p:=fY u) (l:=T.ef);rw[<-e,Vb f]at c;exact IK (yC c)
include g
theorem Kt{t v:Nat} {T:Bk} {wB:Option Nat} {s:Rs} {locals:List Int} (a:u.blocks[t]? =some T) (b:s.val.length=u.ef.length) (hv:v ∉ T.ef.takeWhile (fY u)):(nQ u locals wB T s).of v=s.of v:=by
 show (A7 s.val _).getD v 0=_;rw[yM _ _ λw c=>by
  obtain⟨k,hk⟩:=mr.1 (wBL _ c);rw[b];exact g.jz w t k ⟨T,a,hk⟩,if_neg hv]
 rfl
theorem ZP{t v:Nat} {T:Bk} {wB:Option Nat} {s:Rs} {locals:List Int} (a:u.blocks[t]? =some T) (b:s.val.length=u.ef.length) (hv:v∈T.ef.takeWhile (fY u)):(nQ u locals wB T s).of v=tA u locals wB T s.of v:=by
 show (A7 s.val _).getD v 0=_;rw[yM _ _ λw c=>by
  obtain⟨k,hk⟩:=mr.1 (wBL _ c);rw[b];exact g.jz w t k ⟨T,a,hk⟩,if_pos hv]
omit g in
theorem Q7 {b t v:Nat} {B T:Bk} (hB:u.blocks[b]? =some B) (hT:u.blocks[t]? =some T) (ht:t∈B.next) (hs:zh u v t (T.ef.takeWhile (fY u)).length) (hn:v ∉ T.ef.takeWhile (fY u)):zh u v b B.ef.length:=by
 obtain⟨c,j,Mf,hc⟩:=hs;rcases hc with⟨rfl,hj⟩|⟨hne,hdm⟩
 ·obtain⟨T',h1,h2⟩:=Mf
  grind[wA9,fY,Vb,yC]
 ·refine rJ hB ⟨c,j,Mf,λl hl=>?_⟩;have htn:t∈next u b:=by unfold next;rw[hB];exact ht
  have:=hdm _ (.step hl htn)
  simp_all
omit g in
theorem RM {v:Nat} {B:Bk} (hB:u.blocks[0]? =some B) (hs:zh u v 0 (B.ef.takeWhile (fY u)).length):fY u v=true:=by
 obtain⟨c,j,Mf,hc⟩:=hs;rcases hc with⟨rfl,hj⟩|⟨hne,hdm⟩
 ·grind[ZK]
 ·have:=hdm _ .nil
  simp_all
omit g in
theorem Qj {b k v z:Nat} (Mf:At u v b k) (h:zh u z b (k+1)):z=v\/(z≠v/\zh u z b k):=by
 obtain⟨c,j,hz,hc⟩:=h;by_cases e:z=v
 ·omega
 refine .inr ⟨e,c,j,hz,?_⟩;rcases hc with⟨rfl,hj⟩|hc
 ·refine .inl ⟨rfl,?_⟩
  grind[absurd,Option.some.inj,At,At]
 simp_all
omit g in
theorem Sr {v z:Nat} {x:Vl} {s s1:Rs} {jH:Int} (ho:xW u jH v x s = .inr s1) (hz:z≠v) (hv:v<s.val.length):s1.of z=s.of z:=by
 unfold xW at ho
 repeat' split at ho
 all_goals cases ho
 all_goals first|rfl|exact(Ax hv).trans (if_neg hz)
omit g in
theorem ZW {v:Nat} {x:Vl} {s s1:Rs} {jH:Int} (ho:xW u jH v x s = .inr s1):s1.val.length=s.val.length:=by
 grind[xW,Lm]
def KI(u:U)(b k:Nat)(s:Rs):Prop:=∀(v:Nat) (x:Vl),u.ef[v]? =some x->x.op=2->zh u v b k->s.of v=tm x.n
omit g in
theorem Qf {v:Nat} {x:Vl} (hx:u.ef[v]? =some x) (h2:x.op=2):fY u v=false:=by
 unfold fY;rw[hx];show(x.op == 1 ||x.op == 21)=false
 simp_all
omit g in
theorem KI.start {B:Bk} {s:Rs} (hB:u.blocks[0]? =some B):KI u 0 (B.ef.takeWhile (fY u)).length s:=λv x hx h2 hs=>by
 have:=RM hB hs
 grind[Qf]
theorem KI.uS{b t:Nat} {B T:Bk} {s:Rs} {locals:List Int} (f:u.blocks[b]? =some B) (a:u.blocks[t]? =some T) (ht:t∈B.next) (h:KI u b B.ef.length s) (c:s.val.length=u.ef.length):KI u t (T.ef.takeWhile (fY u)).length (nQ u locals (some b) T {s with steps:=s.steps+1}):=λv x hx d hs=>by
 have e:v ∉ T.ef.takeWhile (fY u):=by grind[IK,Qf]
 rw[Kt g a (by exact c) e];exact h v x hx d (by grind[Q7])
theorem KI.one{b k v:Nat} {x:Vl} {s e:Rs} {jH:Int} (a:At u v b k) (hx:u.ef[v]? =some x) (h:KI u b k s) (j:s.val.length=u.ef.length) (c:xW u jH v x s = .inr e):KI u b (k+1) e:=λz y d f hs=>by
 have hv:=g.jz _ _ _ a;rcases Qj a hs with rfl|⟨i,hs⟩
 ·rw[hx]at d;cases d;unfold xW at c;rw[if_neg (by omega),if_neg (by omega),if_neg (by omega),if_neg (by omega)]at c;cases c;refine(Ax (by omega)).trans ((if_pos rfl).trans ?_)
  simp_all[QV,if_pos]
 ·rw[Sr c i (by omega)];exact h z y d f hs
theorem UA{b:Nat} {B:Bk} (a:u.blocks[b]? =some B) (d:B.fin≠3) (s:Rs):∃t,rR B s=some t:=by
 unfold rR;rcases g.fin b B a with⟨h,c⟩|⟨h,c,_⟩|⟨h,_⟩
 ·simp_all
 ·rw[if_neg (by omega),if_pos h];split <;> exact by simp_all
 omega
end
structure Step (u u':U) (β:Nat->Nat) (R:Nat->Prop):Prop where
 st:u'.eh=u.eh
 b0:β 0=0
 r0:R 0
 len:u'.ef.length=u.ef.length
 vf:∀(b:Nat) (B:Bk),u.blocks[b]? =some B->R b->∃a,u'.blocks[β b]? =some a/\a.ef=B.ef/\(B.fin=3->a.fin=3/\a.state=B.state)/\(B.fin≠3->a.fin≠3/\∀(s:Rs) (t:Nat),KI u b B.ef.length s->rR B s=some t->R t/\rR a s=some (β t))
 head:∀v,fY u' v=fY u v
 one:∀(v b k:Nat) (x:Vl),At u v b k->u.ef[v]? =some x->fY u v=false->∃c,u'.ef[v]? =some c/\∀jH s,KI u b k s->xW u' jH v c s=xW u jH v x s
 par:∀(B a:Bk) (locals:List Int) (val:Nat->Int) (v:Nat),u.blocks[0]? =some B->u'.blocks[0]? =some a->v∈B.ef->fY u v=true->tA u' locals none a val v=tA u locals none B val v
 Ae:∀(p t:Nat) (B T d:Bk) (s:Rs) (locals:List Int) (val:Nat->Int) (v:Nat),u.blocks[p]? =some B->R p->KI u p B.ef.length s->rR B s=some t->u.blocks[t]? =some T->u'.blocks[β t]? =some d->v∈T.ef->fY u v=true->tA u' locals (some (β p)) d val v=tA u locals (some p) T val v
section
variable{u u':U}{P:Nat->Prop}(g:Gd u P){β:Nat->Nat}{R:Nat->Prop}(S:Step u u' β R){locals:List Int}{jH:Int}{heap:List Int}{fuel:Nat}
include S
theorem Rl(s:Rs) (st:Nat):Ah u' s st=Ah u s st:=by
 unfold Ah;rw[S.st]
include g
theorem Np{b:Nat} {B:Bk} (n:u.blocks[b]? =some B):∀(l:List Nat) (k:Nat) (s:Rs),B.ef.drop k=l->(∀v∈l,fY u v=false)->KI u b k s->s.val.length=u.ef.length->
  Cr u' jH fuel l s=Cr u jH fuel l s/\∀d,Cr u jH fuel l s = .inr d->KI u b B.ef.length d/\d.val.length=u.ef.length
 | [],k,s,hd,_,hI,hl=>⟨rfl,λd h=>by
   cases h;refine⟨λv x hx o hs=>hI v x hx o ?_,hl⟩;obtain⟨c,j,a,hc⟩:=hs;refine⟨c,j,a,hc.imp (λ⟨e,q⟩=>⟨e,?_⟩) id⟩
   grind[List.drop_eq_nil_iff]⟩
 | v ::l,k,s,hd,hh,hI,hl=>by
   have hk:k<B.ef.length:=by
     have:=congrArg List.length hd;rw[wB3,Pb]at this;omega
   rw[VV hk]at hd;obtain⟨hv,f⟩:=List.cons.inj hd;have a:At u v b k:=⟨B,n,by rw[<-hv];exact g0 hk⟩
   have i:=g.jz _ _ _ a;have hx:=g0 i;generalize u.ef[v]=x at hx;obtain⟨r,m,p⟩:=S.one v b k x a hx (by simp_all);unfold Cr;rw[hx,m];simp only[p jH s hI];by_cases hf:fuel<=s.steps
   ·simp_all
   simp only[if_neg hf]
   cases hq:xW u jH v x s with
   |inl e=>simp_all
   |inr d=>exact Np n l (k+1) d f (by simp_all) (hI.one g a hx hl hq) ((ZW hq).trans hl)
theorem Qb:∀(Md:Nat) (wB:Option Nat) (b:Nat) (B:Bk) (s:Rs),u.blocks[b]? =some B->R b->s.val.length=u.ef.length->
  ((wB=none/\b=0)\/∃(p:Nat) (P:Bk) (i:Rs),wB=some p/\u.blocks[p]? =some P/\R p/\KI u p P.ef.length i/\i.val.length=u.ef.length/\rR P i=some b/\s = {i with steps:=i.steps+1})->
  runM u' locals jH fuel Md (wB.map β) (β b) s=runM u locals jH fuel Md wB b s
 |0,_,_,_,_,_,_,_,_=>rfl
 | Md+1,wB,b,B,s,hB,hR,hl,he=>by
   obtain ⟨j,h,hv,H,I⟩:=S.vf b B hB hR;have k:fY u' = fY u:=funext S.head;have L:∀v∈B.ef,fY u v=true->tA u' locals (wB.map β) j s.of v=tA u locals wB B s.of v:=λv E F=>by
     rcases he with⟨rfl,rfl⟩|⟨p,Q,i,rfl,G,m,n,_,c,rfl⟩
     ·rw[S.b0]at h
      exact S.par B j locals _ v hB h E F
     ·exact S.Ae p b Q B j i locals _ v G m n c hB h E F
   have J:nQ u' locals (wB.map β) j s=nQ u locals wB B s:=by
     unfold nQ;rw[k,hv]
     have:(B.ef.takeWhile (fY u)).map (λv=>(v,tA u' locals (wB.map β) j s.of v))=(B.ef.takeWhile (fY u)).map λv=>(v,tA u locals wB B s.of v):=
       by grind[Xf,wBL,IK]
     simp only[this]
   have q:KI u b (B.ef.takeWhile (fY u)).length (nQ u locals wB B s):=by
     rcases he with⟨rfl,rfl⟩|⟨p,Q,i,rfl,G,m,n,K,c,rfl⟩
     ·exact KI.start hB
     ·grind[KI.uS,rR,yC]
   have r:(nQ u locals wB B s).val.length=u.ef.length:=(Ge _ _).trans hl;have w:B.ef.drop (B.ef.takeWhile (fY u)).length=B.ef.dropWhile (fY u):=by
     have e:=wA9 (p:=fY u) (l:=B.ef);generalize B.ef.takeWhile (fY u)=a at e⊢;generalize B.ef.dropWhile (fY u)=d at e⊢;rw[<-e];exact List.drop_left' rfl
   obtain⟨r1,r2⟩:=Np g S (jH:=jH) (fuel:=fuel) hB _ _ _ w (FH g hB) q r;unfold runM;rw[hB,h];simp only;rw[k,hv,J,r1]
   cases hq:Cr u jH fuel (B.ef.dropWhile (fY u)) (nQ u locals wB B s)with
   |inl e=>rfl
   | inr o =>
     obtain⟨x,y⟩:=r2 o hq;simp only;by_cases hf:fuel<=o.steps
     ·simp_all
     rw[if_neg hf,if_neg hf];by_cases f:B.fin=3
     ·obtain⟨z,A⟩:=H f
      rw[if_pos f,if_pos z,A,Rl S]
     ·obtain ⟨z,A⟩:=I f
      rw[if_neg f,if_neg z]
      cases c:rR B o with
      | none=>
        obtain⟨t,ht⟩:=UA g hB f o
        simp_all
      | some t=>
        obtain ⟨C,e⟩:=A o t x c;rw[e];simp only;have ht:t∈B.next:=by
          unfold rR at c
          repeat' split at c
          all_goals grind
        have D:=g.nx b t (by grind[next]);exact Qb Md (some b) t _ _ (g0 D) C y (by grind)
end
open Dm
theorem Ex.As.refl:∀e:Ex,e.As e
 | .Ue=>trivial
 | .left ..=>⟨jb _,rfl,rfl⟩
 | .stuck=>trivial
theorem Ex.As.trans{a b c:Ex} (h:a.As b) (h':b.As c):a.As c:=by
 cases a <;> cases b <;> cases c <;> simp_all[Ex.As];omega
def tQ(u u':U):Prop:=∀(locals:List Int) (jH:Int) (fuel Md:Nat) (heap:List Int),(runM u locals jH fuel Md none 0 (vM u heap)).As (runM u' locals jH fuel Md none 0 (vM u' heap))
theorem tQ.trans{a b c:U}(h:tQ a b)(h':tQ b c):tQ a c:=λl w f g p=>(h l w f g p).trans (h' l w f g p)
theorem tQ.refl(a:U):tQ a a:=λ_ _ _ _ _=> .refl _
theorem Step.JF{u u':U} {P:Nat->Prop} (g:Gd u P) {β:Nat->Nat} {R:Nat->Prop} (S:Step u u' β R):tQ u u':=λlocals jH fuel Md heap=>by
 have e:vM u' heap=vM u heap:=by
  unfold vM;rw[S.len]
 have:=Qb g S (locals:=locals) (jH:=jH) (fuel:=fuel) Md none 0 _ (vM u heap) (g0 g.JN) S.r0 (by simp[vM]) (by simp_all);rw[S.b0]at this;rw[e,show(none:Option Nat)=(none:Option Nat).map β from rfl,this];exact .refl _
def Ns(n:Int):Vl:=⟨2,0,0,n,[],0⟩
def BR(u:U)(v:Nat)(n:Int):U:={u with ef:=u.ef.set v (Ns n)}
def Kw(u:U)(v:Nat)(n:Int):Prop:=∃y,u.ef[v]? =some y/\y.op=2/\tm y.n=n
section
variable{u:U}{v:Nat}{x:Vl}{n:Int}
theorem wI(hx:u.ef[v]? =some x) {w:Nat}:(BR u v n).ef[w]? =if w=v then some (Ns n) else u.ef[w]?:=by
 grind[jk,BR]
theorem nz(hx:u.ef[v]? =some x) {w:Nat} {y:Vl} (h:(BR u v n).ef[w]? =some y):(w=v/\y=Ns n)\/(w≠v/\u.ef[w]? =some y):=by
 grind[wI]
theorem Sw(hx:u.ef[v]? =some x) {w:Nat} (h:mq u w):mq (BR u v n) w:=by
 obtain⟨y,a,b⟩:=h;by_cases e:w=v
 ·exact⟨Ns n,by simp_all[wI,if_pos],rfl⟩
 ·exact⟨y,by rw[wI hx,if_neg e];exact a,b⟩
theorem U4(g:Good u) (hx:u.ef[v]? =some x) (C:3<=x.op) (q:x.op<=14):Good (BR u v n):=by
 have G:∀{w:Nat},mq u w->mq (BR u v n) w:=Sw hx;have o:(BR u v n).ef.length=u.ef.length:=Lm
 refine
  { nv:=by rw[o];exact g.nv
    JN:=g.JN
    nb:=g.nb
    ns:=g.ns
    st:=λs fs hs=>?_
    xM:=λw D=>g.xM w (by omega)
    AH:=g.AH
    jz:=λw b k h=>by rw[o];exact g.jz w b k h
    uS:=λw z b k y t e f i r l=>?_
    par:=λw b k y e f i=>?_
    Ae:=λw b k y B e f i m=>?_
    op:=λw y d=>?_
    use:=λw y d=>?_
    leave:=λw y d=>?_
    putAt:=λw y d=>?_
    param:=λw y d e=>?_
    fin:=λb B m=>?_
    nx:=g.nx
    ez:=g.ez
    yA:=g.yA
    DN:=g.DN
    reach:=g.reach
    xG:=λw b k y e d=>?_
    zE:=λw b k y B e d=>?_
    Cn:=λw b k y fs e d=>?_
    zO:=g.zO
    Cf:=g.Cf}
 ·obtain⟨e,f,i⟩:=g.st s fs hs
  grind
 ·rcases nz hx i with⟨rfl,rfl⟩|⟨_,p⟩
  ·cases l
  ·rcases nz hx r with⟨rfl,rfl⟩|⟨_,A⟩
   ·have:=g.uS w z b k y x e f p hx l
    grind[iF]
   ·exact g.uS w z b k y t e f p A l
 ·rcases nz hx f with⟨rfl,rfl⟩|⟨_,f⟩
  ·cases i
  ·exact g.par w b k y e f i
 ·rcases nz hx f with⟨rfl,rfl⟩|⟨_,f⟩
  ·cases i
  ·exact g.Ae w b k y B e f i m
 ·rcases nz hx d with⟨rfl,rfl⟩|⟨_,d⟩
  ·exact⟨show 1<=2 by decide,show 2<=23 by decide⟩
  ·exact g.op w y d
 ·rcases nz hx d with⟨rfl,rfl⟩|⟨_,d⟩
  ·exact λz j=>nomatch j
  ·exact λz j=>G (g.use w y d z j)
 ·rcases nz hx d with⟨rfl,rfl⟩|⟨_,d⟩
  ·exact λh=>nomatch h
  ·exact g.leave w y d
 ·rcases nz hx d with⟨rfl,rfl⟩|⟨_,d⟩
  ·exact λh=>nomatch h
  ·exact g.putAt w y d
 ·rcases nz hx d with⟨rfl,rfl⟩|⟨_,d⟩
  ·cases e
  ·obtain⟨a,b,c⟩:=g.param w y d e;refine⟨a,b,λz t ht f=>?_⟩;rcases nz hx ht with⟨rfl,rfl⟩|⟨_,ht⟩
   ·cases f
   simp_all
 ·rcases g.fin b B m with h|⟨e,f,i⟩|h
  ·omega
  ·simp_all
  ·exact .inr (.inr h)
 ·rcases nz hx d with⟨rfl,rfl⟩|⟨_,d⟩
  ·exact λ_ z j=>nomatch j
  ·exact g.xG w b k y e d
 ·rcases nz hx d with⟨rfl,rfl⟩|⟨_,d⟩
  ·exact λh=>nomatch h
  ·exact g.zE w b k y B e d
 ·rcases nz hx d with⟨rfl,rfl⟩|⟨_,d⟩
  ·exact λh=>nomatch h
  ·exact g.Cn w b k y fs e d
structure Fv (u:U) (x:Vl) (n:Int):Prop where
 lo:3<=x.op
 hi:x.op<=14
 kn:∃a b:Int,Kw u x.a a/\(¬(x.op=8\/x.op=9)->Kw u x.b b)/\tm n=CC x.op a b
theorem Vq(g:Good u) (hx:u.ef[v]? =some x) (f:Fv u x n):Step u (BR u v n) id λ_=>True:=by
 obtain ⟨L,r,a,b,M,hb,A⟩:=f;have C:∀w,fY (BR u v n) w=fY u w:=λw=>by
  unfold fY;rw[wI hx];by_cases e:w=v
  ·subst e;rw[if_pos rfl,hx];show false=(x.op == 1 ||x.op == 21)
   grind
  simp_all
 have N:∀(B:Bk) (locals:List Int) (wB:Option Nat) (val:Nat->Int) (w:Nat),fY u w=true->tA (BR u v n) locals wB B val w=tA u locals wB B val w:=λB locals wB val w c=>by
  unfold tA;rw[wI hx,if_neg λe=>by
   subst e;unfold fY at c;rw[hx]at c;have c:(x.op == 1 ||x.op == 21)=true:=c
   grind]
 refine⟨rfl,rfl,trivial,Lm,λb B l _=>⟨B,l,rfl,by omega,by simp_all⟩,C,λw b' k y j o c=>?_,λB D locals val w l h _ c=>?_,λp t B T E s locals val w _ _ _ _ O i _ c=>?_⟩
 ·by_cases e:w=v
  ·subst e;rw[hx]at o;cases o;refine⟨Ns n,by rw[wI hx,if_pos rfl],λjH s F=>?_⟩;have G:∀z m,z∈gO x->Kw u z m->s.of z=m:=λz m H ⟨y,I,J,K⟩=>by
    rw[<-K];exact F z y I J (g.xG w b' k x j hx (by omega) z H)
   have ht:x.op=8\/x.op=9\/two x.op=true:=by unfold two;simp;omega
   have P:pe x.op=true\/two x.op=true:=by unfold two pe;simp;omega
   have eV:QV x s.of s.heap=tm n:=by
    rw[A];unfold QV;rw[if_neg (by omega),if_neg (by omega),if_neg (by omega),if_neg (by omega),if_neg (by omega)];have q:s.of x.a=a:=by grind[En]
    by_cases d:x.op=8\/x.op=9
    ·rw[if_pos d,q]
     grind[CC]
    ·rw[if_neg d,q,G _ _ (by grind[En]) (hb d)]
   rw[show xW (BR u w n) jH w (Ns n) s = .inr {s with val:=s.val.set w (tm n),steps:=s.steps+1} from rfl];unfold xW
   grind
  ·exact⟨y,by simp_all[wI,if_neg],λ_ _ _=>by rfl⟩
 ·have h:u.blocks[0]? =some D:=h
  simp_all
 ·have i:u.blocks[t]? =some E:=i
  simp_all
theorem UU(g:Good u)(hx:u.ef[v]? =some x)(f:Fv u x n):tQ u (BR u v n):=(Vq g hx f).JF g
end
open Dm
structure Hg (u u2:U):Prop where
 func:u2.func=u.func
 pc:u2.pc=u.pc
 ef:u2.ef=u.ef
 eh:u2.eh=u.eh
 len:u2.blocks.length=u.blocks.length
 vf:∀(b:Nat) (B:Bk),u.blocks[b]? =some B->u2.blocks[b]? =some B\/(B.fin=2/\∃(n:Int) (t:Nat),Kw u B.cond n/\(if n=0 then B.next[1]? else B.next[0]?)=some t/\u2.blocks[b]? =some {B with fin:=1,cond:=0,next:=[t]})
theorem Pt.suffix{nx:Nat->List Nat} {x:Nat}:∀{b l},Pt nx b l->x∈l->∃a,Pt nx x (x::a)/\(x::a) <:+ l
 | _,_,.nil,h=>by
   obtain rfl:x=0:=by simp_all
   exact⟨[],.nil,List.suffix_refl _⟩
 | _,_,.step (p:=p) (b:=b) (l:=l) h e,hx=>by
   rcases FZ.1 hx with rfl|hx
   ·exact⟨l,.step h e,List.suffix_refl _⟩
   ·obtain⟨a,c,d⟩:=Pt.suffix h hx
    exact⟨a,c,d.trans (List.suffix_cons _ _)⟩
section
variable{u u2 w:U}{kp:Nat->Bool}(g:Good u)(e:Hg u u2)(hk:∀b,kp b=true↔∃l,Pt (next u2) b l)(c:Cut u2 kp w)
include e
theorem Cc{b:Nat} {B:Bk} (h:u2.blocks[b]? =some B):∃A,u.blocks[b]? =some A/\B.ef=A.ef/\B.ez=A.ez/\B.state=A.state/\(B=A\/(A.fin=2/\∃(n:Int) (t:Nat),Kw u A.cond n/\(if n=0 then A.next[1]? else A.next[0]?)=some t/\B = {A with fin:=1,cond:=0,next:=[t]})):=by
 have a:=(jk.1 h).1;rw[e.len]at a;have c:=g0 a;refine⟨_,c,?_⟩;rcases e.vf b _ c with d|⟨f,n,t,g,i,j⟩
 ·grind
 grind
theorem JH{v b k:Nat}:At u2 v b k↔At u v b k:=by
 constructor
 ·grind[Cc,At]
 ·rintro⟨A,c,a⟩;rcases e.vf b A c with d|⟨_,n,t,_,_,f⟩
  ·exact⟨A,d,a⟩
  ·exact⟨_,f,a⟩
theorem Kx{b t:Nat} (h:t∈next u2 b):t∈next u b:=by
 unfold next at h
 split at h
 ·rename_i B a;obtain⟨A,c,_,_,_,d⟩:=Cc e a;unfold next
  grind
 ·cases h
theorem zbf:∀{b l},Pt (next u2) b l->Pt (next u) b l
 |_,_,.nil=> .nil
 |_,_,.step h a=> .step (zbf h) (Kx e a)
include g
theorem zc2{b:Nat} {l:List Nat} (h:Pt (next u2) b l):b<u.blocks.length:=by
 cases h with
 |nil=>exact g.JN
 |step h a=>exact g.nx _ _ (Kx e a)
include hk
theorem Ti{b:Nat}(h:kp b=true):b<u.blocks.length:=let⟨_,hl⟩:=(hk b).1 h;zc2 g e hl
omit g e in
theorem zbd:kp 0=true:=(hk 0).2 ⟨_,.nil⟩
omit g e in
theorem BN{b t:Nat}(h:kp b=true)(ht:t∈next u2 b):kp t=true:=let⟨_,hl⟩:=(hk b).1 h;(hk t).2 ⟨_,.step hl ht⟩
omit g in
theorem GQ {a b:Nat} (h:kp b=true) (hd:kV (next u) a b):kp a=true:=by
 obtain⟨l,hl⟩:=(hk b).1 h;obtain⟨l',h1,_⟩:=Pt.suffix hl (hd l (zbf e hl))
 grind
omit g e hk in
theorem LQ {n b:Nat} (hb:b<n) (h:kp b=true):((List.range n).filter kp)[jj kp b]? =some b:=by
 have h1:(List.range n)[b]? =some b:=by simp[hb]
 have:=JR (p:=kp) h1 h;unfold jj
 grind
omit g e hk in
theorem vT {a b:Nat} (ha:kp a=true) (hb:kp b=true) (h:jj kp a=jj kp b):a=b:=by
 have h1:=LQ (n:=a+b+1) (by omega) ha
 grind[LQ,Option.some.inj]
omit g e in
theorem Qy:jj kp 0=0:=by
 unfold jj;rw[if_pos (zbd hk)];rfl
include c
theorem Dc{b:Nat} {B:Bk} (h:kp b=true) (a:u2.blocks[b]? =some B):w.blocks[jj kp b]? =some {B with next:=B.next.map (jj kp),ez:=jO u2 kp b B.ez}:=by
 rw[c.blocks,xk];unfold lG;rw[e.len,LQ (Ti g e hk h) h]
 grind[Bz]
omit g hk e in
theorem IC {i:Nat} {C:Bk} (h:w.blocks[i]? =some C):∃b B,kp b=true/\u2.blocks[b]? =some B/\i=jj kp b/\C = {B with next:=B.next.map (jj kp),ez:=jO u2 kp b B.ez}:=by
 rw[c.blocks,xk]at h
 cases hb:(lG u2 kp)[i]? with
 |none=>simp_all
 | some b=>
   rw[hb]at h;obtain⟨h1,h2⟩:=HS.1 (yC hb);have h1:=Rf.1 h1;refine⟨b,u2.blocks[b],h2,g0 h1,?_,?_⟩
   ·exact oG (ZB.filter kp) hb (LQ h1 h2)
   grind[Option.some.inj,Bz,g0]
theorem Qx{v i k:Nat}:At w v i k↔∃b,kp b=true/\i=jj kp b/\At u v b k:=by
 constructor
 ·rintro⟨C,a,j⟩;obtain⟨b,B,d,f,h,rfl⟩:=IC c a;exact⟨b,d,h,(JH e).1 ⟨B,f,j⟩⟩
 ·rintro⟨b,a,rfl,d⟩;obtain⟨B,f,h⟩:=(JH e).2 d;exact⟨_,Dc g e hk c a f,h⟩
theorem Nz{b:Nat} (h:kp b=true):next w (jj kp b)=(next u2 b).map (jj kp):=by
 have a:=Ti g e hk h;rw[<-e.len]at a;have d:=g0 a;unfold next
 rw[Dc g e hk c h d,d]
theorem zdc{b:Nat} {l:List Nat} (h:Pt (next u2) b l):Pt (next w) (jj kp b) (l.map (jj kp)):=by
 induction h with
 | nil=>
   rw[Yb,W7,Qy hk]
   exact .nil
 |step h c a=>exact .step a (by grind[Nz,wBn])
theorem W8{i:Nat} {m:List Nat} (h:Pt (next w) i m):∃b l,i=jj kp b/\m=l.map (jj kp)/\Pt (next u2) b l:=by
 induction h with
 |nil=>exact⟨0,[0],(Qy hk).symm,by rw[Yb,W7,Qy hk],.nil⟩
 | step h a d=>
   obtain⟨b,l,rfl,rfl,f⟩:=d;rw[Nz g e hk c (by grind)]at a;obtain⟨t,j,rfl⟩:=GL.1 a;exact⟨t,t::l,rfl,rfl,.step f j⟩
theorem NY{a b:Nat} (hb:kp b=true) (h:kV (next u) a b):kV (next w) (jj kp a) (jj kp b):=λm d=>by
 obtain⟨b',l,f,rfl,i⟩:=W8 g e hk c d;obtain rfl:=vT hb (by grind) f;exact wBn (h l (zbf e i))
theorem WM{v b k:Nat} (hb:kp b=true) (h:zh u v b k):zh w v (jj kp b) k:=by
 obtain⟨a,j,i,d⟩:=h;rcases d with⟨rfl,d⟩|⟨d,f⟩
 ·exact⟨_,j,(Qx g e hk c).2 (by grind),.inl ⟨rfl,d⟩⟩
 ·have l:=GQ e hk hb f;exact⟨_,j,(Qx g e hk c).2 (by grind),.inr ⟨λq=>d (vT l hb q),NY g e hk c hb f⟩⟩
theorem IA{v b:Nat} (hb:kp b=true) (h:rC u v b):rC w v (jj kp b):=by
 obtain⟨a,j,d,f⟩:=h;exact⟨_,j,(Qx g e hk c).2 ⟨a,GQ e hk hb f,rfl,d⟩,by grind[NY]⟩
end
open Dm
structure TP (c x:Vl):Prop where
 op:c.op=x.op
 a:c.a=x.a
 b:c.b=x.b
 n:c.n=x.n
 state:c.state=x.state
 ne:x.op≠21->c=x
 args:∀a∈c.args,a∈x.args
theorem TP.gO{b x:Vl} (h:TP b x):∀a∈gO b,a∈gO x:=by
 by_cases e:x.op=21
 ·unfold Un.gO;rw[h.op,if_pos e,if_pos e];exact h.args
 ·rw[h.ne e]
  simp_all
theorem Qk{α:Type} (ps:List Nat) (r:Nat->Bool) (f:Nat->α):((List.range ps.length).filter λj=>r (ps.getD j 0)).map (λj=>f (ps.getD j 0))=(ps.filter r).map f:=by
 have a:=congrArg (λl=>(l.filter r).map f) (K5 ps 0);simp only[List.filter_map,List.map_map]at a;exact a
theorem tY(L:List Bk) (b:Nat) (h:∀B∈L,B.next.Nodup):∀n,n<=L.length->jv (L.take n) 0 b=(List.range n).filter λp=>(match L[p]? with|some B=>B.next|none=>[]).contains b
 |0,_=>rfl
 | n + 1,hn=>by
   have a:=g0 (show n<L.length by omega);rw[Qs (by omega),pT,tY L b h n (by omega),VR,wBu];congr 1;have c:=h _ (EA (show n<L.length by omega));simp only[jv,HU,JT,wO,wBy (by omega)];have hs:(match L[n]? with|some B=>B.next|none=>[])=L[n].next:=by rw[a]
   rw[wBb,List.filter_nil,hs];generalize L[n].next=l at c;have e:l.filter (λx=>decide (x=b))=if b∈l then[b] else[]:=by
     clear a hs
     induction l with
     |nil=>simp
     | cons t l d=>
       grind
   grind
section
variable{u u2 w:U}{kp:Nat->Bool}(g:Good u)(e:Hg u u2)(hk:∀b,kp b=true↔∃l,Pt (next u2) b l)(c:Cut u2 kp w)
include g
theorem Te{b:Nat} {B:Bk} (a:u.blocks[b]? =some B):B.next.Nodup:=by
 rcases g.fin b B a with⟨h,c⟩|⟨h,c,_⟩|⟨h,c,_⟩
 ·grind
 ·have hc:=g.DN b B a h
  match hq:B.next,c with
  | [s,t],_=>
    rw[ZO];refine⟨λf=>?_,by simp⟩;obtain rfl:s=t:=by simp_all
    have d:=hc s (by rw[hq];simp);have e:=(jk.1 a).1;unfold ahead at d;rw[<-VY b u.blocks,VV e,pT,KC]at d
    grind[jv,Option.some.inj,g0]
 simp_all
theorem SY(b:Nat):ahead u b=(List.range u.blocks.length).filter λp=>(next u p).contains b:=by
 have:=tY u.blocks b (by grind[mr,Te]) _ (jb _);rw[Hj]at this;exact this
include e
theorem ZF{b:Nat} {B:Bk} (a:u2.blocks[b]? =some B):B.next.Nodup:=by
 obtain⟨A,d,_,_,_,c⟩:=Cc e a;rcases c with rfl|⟨_,n,t,_,_,rfl⟩
 ·grind[Te]
 ·simp
include hk c
theorem T8{i:Nat} {C:Bk} (h:w.blocks[i]? =some C):C.next.Nodup:=by
 obtain⟨b,B,d,f,rfl,rfl⟩:=IC c h;have a:=ZF g e f;have j:∀t∈B.next,kp t=true:=λt ht=>BN hk d (by grind[next]);show(B.next.map (jj kp)).Nodup;generalize B.next=l at a j
 induction l with
 |nil=>simp
 | cons t l n=>
   rw[ZO]at a;rw[Yb,ZO];refine⟨λk=>?_,by simp_all⟩;obtain⟨s,o,m⟩:=GL.1 k;obtain rfl:=vT (by simp_all) (by simp_all) m
   simp_all
omit g hk in
theorem NM:List.range w.blocks.length=((List.range u.blocks.length).filter kp).map (jj kp):=by
 have hl:w.blocks.length=((List.range u.blocks.length).filter kp).length:=by
  rw[c.blocks,B5];unfold lG;rw[e.len]
 refine So λi=>?_;rw[xk,hl]
 cases hb:((List.range u.blocks.length).filter kp)[i]? with
 | none=>
   simp_all
 | some b=>
   have hi:=(jk.1 hb).1;obtain⟨h1,h2⟩:=HS.1 (yC hb);have:=oG (ZB.filter kp) hb (LQ (Rf.1 h1) h2)
   simp_all
theorem JW{b:Nat} {B:Bk} (h:kp b=true) (d:u.blocks[b]? =some B):ahead w (jj kp b)=jO u2 kp b B.ez:=by
 have a:=tY w.blocks (jj kp b) (by grind[mr,T8]) _ (jb _);rw[Hj]at a;show jv w.blocks 0 _=_;rw[a,NM e c];have f:=Qk B.ez (λp=>kp p&&(next u2 p).contains b) (jj kp);show _=((List.range B.ez.length).filter _).map _;rw[f,g.ez b B d,SY g,List.filter_map,List.filter_filter,List.filter_filter];congr 1;refine List.filter_congr λp k=>?_
 cases hkp:kp p with
 |false=>simp
 | true=>
   show((next w (jj kp p)).contains (jj kp b)&&true)=_;rw[Nz g e hk c hkp,Th];simp only[Bool.and_true,Yl,uF,wBG,GL];constructor
   ·rintro⟨t,i,j⟩
    obtain rfl:=vT (BN hk hkp i) h j
    grind[Kx]
   grind
omit hk in
theorem Jq {v:Nat} {x:Vl} (hx:u.ef[v]? =some x):∃x',w.ef[v]? =some x'/\TP x' x/\∀(b k:Nat) (B:Bk),x.op=21->At u v b k->kp b=true->u.blocks[b]? =some B->x'.args=nq u2 kp b B.ez x.args:=by
 have hx2:u2.ef[v]? =some x:=by rw[e.ef];exact hx
 by_cases h:x.op=21/\∃b k,At u2 v b k/\kp b=true
 ·obtain ⟨h1,b,k,h2,h3⟩:=h;obtain⟨B,hB,hv⟩:=id h2;obtain⟨A,hA,_,hp,_⟩:=Cc e hB;refine⟨_,c.Ae v b k x B h2 hx2 h1 h3 hB,⟨rfl,rfl,rfl,rfl,rfl,by omega,λa ha=>?_⟩,λb' k' B' _ Yq _ hB'=>?_⟩
  ·obtain⟨j,hj,rfl⟩:=GL.1 ha;have hj:=Rf.1 (HS.1 hj).1;have hlen:=(g.Ae v b k x A ((JH e).1 h2) hx h1 hA).2
   simp_all
  ·obtain⟨rfl,_⟩:=g.AH _ _ _ _ _ Yq ((JH e).1 h2)
   simp_all
 ·refine⟨x,c.same v x hx2 h,⟨rfl,rfl,rfl,rfl,rfl,λ_=>rfl,λ_ h=>h⟩,λb k B h1 h2 h3 _=>?_⟩;exact(h ⟨h1,b,k,(JH e).2 h2,h3⟩).elim
omit hk in
theorem Gz {v:Nat} {x':Vl} (hx:w.ef[v]? =some x'):∃x,u.ef[v]? =some x/\TP x' x/\∀(b k:Nat) (B:Bk),x.op=21->At u v b k->kp b=true->u.blocks[b]? =some B->x'.args=nq u2 kp b B.ez x.args:=by
 have hl:=(jk.1 hx).1;rw[c.len,e.ef]at hl
 grind[g0,Jq]
omit hk in
theorem Us {v:Nat}:mq w v↔mq u v:=by
 constructor
 ·rintro⟨x',h1,h2⟩;obtain⟨x,h3,h4,_⟩:=Gz g e c h1;exact⟨x,h3,by rw[<-h4.op];exact h2⟩
 ·rintro⟨x,h1,h2⟩;obtain⟨x',h3,h4,_⟩:=Jq g e c h1;exact⟨x',h3,by rw[h4.op];exact h2⟩
theorem L4{as:Nat->Int} (TN:∀(v b k:Nat),At u v b k->kp b=false->as v = -1):Gd w λv=>stays as v=true:=by
 have R:w.ef.length=u.ef.length:=by rw[c.len,e.ef]
 have H:w.eh=u.eh:=by rw[c.eh,e.eh]
 have ai:w.blocks.length<=u.blocks.length:=by
  have:=congrArg List.length (NM e c);rw[SB,B5]at this;have:=U7 kp (List.range u.blocks.length);rw[SB]at this;omega
 have h0:jj kp 0=0:=Qy hk;have k0:=zbd hk;have V:=@Gz u u2 w kp g e c;have A:=@Qx u u2 w kp g e hk c;have G:=@Us u u2 w kp g e c;have vb:∀{i:Nat} {C:Bk},w.blocks[i]? =some C->∃b B,kp b=true/\u.blocks[b]? =some B/\i=jj kp b/\C.ef=B.ef/\C.ez=jO u2 kp b B.ez/\C.state=B.state/\((C.fin=B.fin/\C.cond=B.cond/\C.next=B.next.map (jj kp)/\next u2 b=B.next)\/(C.fin=1/\C.next.length=1)):=λ{i C} h=>by
  obtain⟨b,B,E,J,r,rfl⟩:=IC c h;obtain⟨O,S,h5,h6,h7,h8⟩:=Cc e J;refine⟨b,O,E,S,r,h5,by rw[<-h6],h7,?_⟩;rcases h8 with rfl|⟨_,n,t,_,_,rfl⟩
  ·exact .inl ⟨rfl,rfl,rfl,by grind[next]⟩
  simp_all
 refine
  { nv:=by rw[R];exact g.nv
    JN:=?_
    nb:=by have:=g.nb;omega
    ns:=by rw[H];exact g.ns
    st:=λs fs hs=>?_
    xM:=λv hv hP=>?_
    AH:=λv b k b' k' h h'=>?_
    jz:=λv b k h=>?_
    uS:=λv z b k x y E J hx hy hh=>?_
    par:=λv b k x E hx J=>?_
    Ae:=λv b k x B E hx J F=>?_
    op:=λv x hx=>?_
    use:=λv x hx z T=>?_
    leave:=λv x hx K=>?_
    putAt:=λv x hx aa=>?_
    param:=λv x hx E=>?_
    fin:=λb C I=>?_
    nx:=λb t ht=>?_
    ez:=λb C I=>?_
    yA:=?_
    DN:=λb C I J t ht=>?_
    reach:=λb hb=>?_
    xG:=λv b k x E hx D z T=>?_
    zE:=λv b k x C E hx D I j z p P U=>?_
    Cn:=λv b k x fs E hx K L z T=>?_
    zO:=λb C I J=>?_
    Cf:=λb C fs I r L z T=>?_}
 ·have K:=g.JN;rw[<-e.len]at K;have:=(jk.1 (Dc g e hk c k0 (g0 (show 0<u2.blocks.length from K)))).1;omega
 ·rw[H]at hs;obtain⟨E,J,r⟩:=g.st s fs hs
  grind
 ·rw[R]at hv;obtain⟨b,k,X⟩:=g.xM v hv trivial;refine⟨jj kp b,k,A.2 ⟨b,?_,rfl,X⟩⟩
  cases hb:kp b with
  |true=>rfl
  | false=>
    have:=TN v b k X hb
    simp_all[stays,EE]
 ·obtain⟨a,E,rfl,r⟩:=A.1 h;obtain⟨a',aj,rfl,ab⟩:=A.1 h';obtain⟨rfl,rfl⟩:=g.AH _ _ _ _ _ r ab;omega
 ·rw[R];obtain⟨a,_,_,r⟩:=A.1 h;exact g.jz _ _ _ r
 ·obtain⟨a,o,rfl,r⟩:=A.1 E;obtain⟨a',ac,S,h5⟩:=A.1 J;obtain rfl:=vT o ac S;obtain⟨f,d,m,_⟩:=V hx;obtain⟨y0,W,sy,_⟩:=V hy;rw[sy.op];exact g.uS v z a k f y0 r h5 d W (by rw[<-m.op];exact hh)
 ·obtain⟨a,o,rfl,r⟩:=A.1 E;obtain⟨f,d,m,_⟩:=V hx;rw[g.par v a k f r d (by rw[<-m.op];exact J)];exact h0
 ·obtain⟨a,o,rfl,r⟩:=A.1 E;obtain⟨f,d,m,sp⟩:=V hx;obtain⟨a',O,k2,M,S,_,Y,_⟩:=vb F;obtain rfl:=vT o k2 S;have D:f.op=21:=by rw[<-m.op];exact J
  refine⟨λq=>(g.Ae v a k f O r d D M).1 (by grind[vT]),?_⟩
  grind[nq,jO,B5]
 ·obtain⟨f,d,m,_⟩:=V hx;rw[m.op];exact g.op v f d
 ·obtain⟨f,d,m,_⟩:=V hx;exact G.2 (g.use v f d z (m.gO z T))
 ·obtain⟨f,d,m,_⟩:=V hx;rw[H,m.state];exact g.leave v f d (by rw[<-m.op];exact K)
 ·obtain⟨f,d,m,_⟩:=V hx;have Z:f.op=20:=by rw[<-m.op];exact aa
  rw[m.ne (by omega)];exact g.putAt v f d Z
 ·obtain⟨f,d,m,_⟩:=V hx;obtain⟨q1,q2,q3⟩:=g.param v f d (by rw[<-m.op];exact E);rw[m.n];refine⟨q1,q2,λz y hy ae ag=>?_⟩;obtain⟨y0,W,sy,_⟩:=V hy;exact q3 z y0 W (by rw[<-sy.op];exact ae) (by rw[<-sy.n];exact ag)
 ·obtain ⟨b0,B,o,F,_,_,_,q3,⟨N,q5,q6,_⟩|N⟩:=vb I
  ·rw[N,q5,q6,q3,H];rcases g.fin b0 B F with⟨r1,r2⟩|⟨r1,r2,r3⟩|⟨r1,r2,r3⟩
   ·simp_all
   ·simp_all
   simp_all
  omega
 ·unfold next at ht
  split at ht
  ·rename_i C I;obtain⟨b0,B,o,F,_,rfl⟩:=IC c I;obtain⟨t0,Q,rfl⟩:=GL.1 ht;have kt:=BN hk o (t:=t0) (by grind[next]);have K:=Ti g e hk kt;rw[<-e.len]at K;exact(jk.1 (Dc g e hk c kt (g0 K))).1
  ·cases ht
 ·obtain⟨b0,B,o,F,rfl,_,q2,_⟩:=vb I
  grind[JW]
 ·have F:=g0 (show 0<u.blocks.length from g.JN);have:=JW g e hk c k0 F;rw[h0,g.ez 0 _ F,g.yA]at this;rw[this];rfl
 ·obtain ⟨b0,B,o,F,rfl,_,_,_,⟨N,_,q6,q7⟩|⟨N,_⟩⟩:=vb I
  ·rw [q6]at ht;obtain⟨t0,Q,rfl⟩:=GL.1 ht;have ah:B.fin=2:=by rw[<-N];exact J
   have kt:=BN hk o (t:=t0) (by rw[q7];exact Q);have hT:=g0 (Ti g e hk kt);have hc:=g.DN b0 B F ah t0 Q;rw[<-g.ez t0 _ hT]at hc;have hw:=JW g e hk c kt hT;have hm:jj kp b0∈ahead w (jj kp t0):=sY.2 (by rw[Nz g e hk c o,q7];exact wBn Q);have ak:(ahead w (jj kp t0)).length<=1:=by
    rw[hw];unfold jO qu;rw[B5];refine BX (U7 _ _) ?_;rw[SB];omega
   have:=List.length_pos_of_mem hm;omega
  ·omega
 ·obtain⟨b0,B,o,F,rfl,_⟩:=vb (g0 hb);obtain⟨l,K⟩:=(hk b0).1 o;exact⟨_,zdc g e hk c K⟩
 ·obtain⟨a,o,rfl,r⟩:=A.1 E;obtain⟨f,d,m,_⟩:=V hx;rw[m.op]at D;exact WM g e hk c o (g.xG v a k f r d D z (m.gO z T))
 ·obtain ⟨a,o,rfl,r⟩:=A.1 E;obtain⟨f,d,m,sp⟩:=V hx;obtain⟨a',O,k2,M,S,_,Y,_⟩:=vb I;obtain rfl:=vT o k2 S;rw[m.op]at D;have hlen:=(g.Ae v a k f O r d D M).2;rw[sp a k O D r o M]at P;rw[Y]at U;unfold nq at P;unfold jO at U;rw[xk]at P U
  cases hi:(qu u2 kp a O.ez)[j]? with
  |none=>rw[hi]at P;cases P
  | some i=>
    rw[hi]at P U;obtain⟨i1,i2⟩:=HS.1 (yC hi);have i1:=Rf.1 i1;rw[uF]at i2;have e1:=g0 i1;have e2:=g0 (show i<f.args.length by omega);rw[CM,e1]at i2;have P:f.args[i]=z:=by
      have:f.args.getD i 0=z:=Option.some.inj P
      rwa [CM,e2]at this
    have U:jj kp O.ez[i]=p:=by
      have:jj kp (O.ez.getD i 0)=p:=Option.some.inj U
      rwa [CM,e1]at this
    subst P U;exact IA g e hk c i2.1 (g.zE v a k f O r d D M i _ _ e2 e1)
 ·obtain⟨a,o,rfl,r⟩:=A.1 E;obtain⟨f,d,m,_⟩:=V hx;rw[H,m.state]at L;exact WM g e hk c o (g.Cn v a k f fs r d (by rw[<-m.op];exact K) L z T)
 ·obtain⟨b0,B,o,F,rfl,_,_,_,⟨N,q5,_⟩|⟨N,_⟩⟩:=vb I
  ·rw[q5];exact IA g e hk c o (g.zO b0 B F (by rw[<-N];exact J))
  ·omega
 ·obtain⟨b0,B,o,F,rfl,_,_,q3,⟨N,_⟩|⟨N,_⟩⟩:=vb I
  ·rw[H,q3]at L;exact IA g e hk c o (g.Cf b0 B fs F (by rw[<-N];exact r) L z T)
  ·omega
end
open Dm
theorem Fj{L:List Nat} (b:L.Nodup) {j a:Nat} (h:L[j]? =some a):L.findIdx? (·== a)=some j:=by
 obtain⟨c,d⟩:=jk.1 h;rw[List.findIdx?_eq_some_iff_getElem];refine⟨c,by simp[d],λi hi=>?_⟩;intro hc;have:L[i]=a:=by simpa using hc
 have:=oG b (g0 (show i<L.length by omega)) (by simp_all:L[j]? =some L[i]);omega
section
variable{u u2 w:U}{kp:Nat->Bool}(g:Good u)(e:Hg u u2)(hk:∀b,kp b=true↔∃l,Pt (next u2) b l)(c:Cut u2 kp w)
include g e c
theorem zaS(v:Nat):fY w v=fY u v:=by
 unfold fY
 cases h:u.ef[v]? with
 | none=>
   rw[List.getElem?_eq_none_iff]at h
   rw[List.getElem?_eq_none_iff.2 (by rw[c.len,e.ef];exact h)]
 | some x=>
   obtain⟨a,b,d,_⟩:=Jq g e c h;rw[b];show iF a.op=iF x.op;rw[d.op]
include hk
theorem zbe:Step u w (jj kp) (λb=>kp b=true):=by
 have C:w.eh=u.eh:=by rw[c.eh,e.eh]
 refine⟨C,Qy hk,zbd hk,by rw[c.len,e.ef],λb B f hb=>?_,zaS g e c,λv b k x r hx d=>?_,λB B' locals val v f S hv d=>?_,λp t B T U s locals val v f N D hn q V hv d=>?_⟩
 ·rcases e.vf b B f with l|⟨a,n,t,⟨y,E,F,O⟩,W,X⟩
  ·refine ⟨_,Dc g e hk c hb l,rfl,by simp_all,λh=>⟨h,λs t _ ht=>?_⟩⟩;have hm:t∈B.next:=by
    unfold rR at ht
    repeat' split at ht
    all_goals grind
   refine⟨BN hk hb (by grind[next]),?_⟩;unfold rR at ht⊢
   grind
  ·refine⟨_,Dc g e hk c hb X,rfl,by omega,λh=>⟨by simp,λs t' D ht=>?_⟩⟩;have hs:=D B.cond y E F (rJ f (g.zO b B f a));unfold rR at ht;rw[if_neg (by omega),if_pos a,hs,O,W]at ht;cases ht;exact⟨BN hk hb (by grind[next]),rfl⟩
 ·obtain ⟨P,l,a,_⟩:=Jq g e c hx;have m:x.op≠21:=by
   unfold fY iF at d;rw[hx]at d;simp at d;exact d.2
  rw[a.ne m]at l
  grind[xW,Ah]
 ·obtain ⟨x,hx⟩:∃x,u.ef[v]? =some x:=by
   grind[fY]
  obtain⟨P,l,a,_⟩:=Jq g e c hx;unfold tA;rw[hx,l];simp only[a.op,a.n]
 ·obtain ⟨x,hx⟩:∃x,u.ef[v]? =some x:=by
   grind[fY]
  obtain⟨P,l,a,Y⟩:=Jq g e c hx;unfold tA;rw[hx,l];simp only[a.op,a.n];by_cases hx1:x.op=1
  ·omega
  rw [if_neg hx1,if_neg hx1];have m:x.op=21:=by
   unfold fY iF at d;rw[hx]at d;simp at d;omega
  have o:t∈next u2 p:=by
   rcases e.vf p B f with Z|⟨q2,n,t',⟨y,E,F,O⟩,q4,Q⟩
   ·grind[next,rR,yC]
   ·have hs:=D B.cond y E F (rJ f (g.zO p B f q2))
    simp_all[rR,if_neg,if_pos,next]
  have G:=BN hk N o;obtain⟨k,r⟩:∃k,At u v t k:=by
   obtain⟨k,hk⟩:=mr.1 hv;exact⟨k,T,q,hk⟩
  rw [Y t k T m r G q];have H:U.ez=jO u2 kp t T.ez:=by
   rcases e.vf t T q with Z|⟨_,n,t',_,_,Q⟩
   ·grind[Dc]
   ·have:=Dc g e hk c G Q
    grind
  have I:p∈T.ez:=by rw[g.ez t T q];exact sY.2 (Kx e o)
  obtain⟨j,J⟩:=mr.1 I;have K:T.ez.Nodup:=by rw[g.ez t T q,SY g];exact ZB.filter _
  have z:(jO u2 kp t T.ez).Nodup:=by
   rw[<-JW g e hk c G q];have R:=tY w.blocks (jj kp t) (by grind[mr,T8]) _ (jb _);rw[Hj]at R;show(jv w.blocks 0 _).Nodup;rw[R];exact ZB.filter _
  have L:=(jk.1 J).1;have A:T.ez.getD j 0=p:=by rw[CM,J];rfl
  have M:j∈qu u2 kp t T.ez:=HS.2 ⟨Rf.2 L,by rw[A,N,Yl,wBG];exact o⟩;obtain⟨i,hi⟩:=mr.1 M;have e1:(jO u2 kp t T.ez)[i]? =some (jj kp p):=by
   unfold jO;rw[xk,hi,<-A];rfl
  rw[Fj K J,H,Fj z e1]
  grind[nq]
end
open Dm
theorem Yt{u:U} (g:Good u) {v o b k c j:Nat} {x:Vl} (hx:u.ef[v]? =some x) (y:x.op=21) (s:At u v b k) (D:At u o c j) (E:∀a∈x.args,a=v\/a=o):c≠b/\kV (next u) c b:=by
 obtain ⟨B,A,hk⟩:=id s;obtain⟨F,hlen⟩:=g.Ae v b k x B s hx y A;have r:∀n l,l.length<=n->Pt (next u) b (b::l)->c∈l:=by
  intro n
  induction n with
  | zero=>
    intro l t h;have:l=[]:=by simp_all
    subst this
    cases h with
    |nil=>omega
    |step h _=>cases h
  | succ n G=>
    intro l t h
    cases h with
    |nil=>omega
    | step h e=>
      rename_i p;have H:p∈B.ez:=by rw[g.ez b B A];exact sY.2 e
      obtain⟨i,hi⟩:=mr.1 H;have I:=(jk.1 hi).1;have J:=g0 (show i<x.args.length by omega);have hs:=g.zE v b k x B s hx y A i _ p J hi;obtain⟨d,m,z,C⟩:=hs;rcases E _ (EA _:x.args[i]∈x.args)with q|q
      ·rw[q]at z
       obtain⟨rfl,_⟩:=g.AH _ _ _ _ _ z s;obtain⟨w,L,M⟩:=Pt.suffix h (C l h)
       grind
      ·rw[q]at z
       obtain⟨rfl,_⟩:=g.AH _ _ _ _ _ z D;exact C l h
 have f:∀{l},Pt (next u) b l->∃w,l=b::w:=λh=>by
  cases h
  ·omega
  simp_all
 have K:kV (next u) c b:=λl t=>by
  obtain⟨w,rfl⟩:=f t;exact wBU _ (r _ w (jb _) t)
 refine ⟨λq=>?_,K⟩;subst q;have no:∀n l,l.length<=n->¬Pt (next u) c (c::l):=by
  intro n
  induction n with
  | zero=>
    intro l t h;have:=r _ l (jb _) h
    simp_all
  | succ n G=>
    intro l t h;have N:=r _ l (jb _) h
    cases h with
    |nil=>omega
    | step h e=>
      grind[Pt.suffix,Pb]
 obtain⟨l,t⟩:=g.reach c (by grind);obtain⟨w,rfl⟩:=f t;exact no _ w (jb _) t
structure Sq (u:U) (as:Nat->Int):Prop where
 out:∀v,u.ef.length<=v->as v = -1
 root:∀v r:Nat,as v=(r:Int)->as r=(r:Int)
 cas:∀(v:Nat) (x:Vl),u.ef[v]? =some x->as v=(v:Int)\/(as v = -1/\x.op=22/\∃n,Kw u x.a n/\n≠0)\/(x.op=21/\∃r:Nat,as v=(r:Int)/\r≠v/\r∈x.args/\∀a∈x.args,a=v\/a=r)
structure Sl (u:U) (kp:Nat->Bool) (as oX:Nat->Int):Prop where
 gone:∀(v b k:Nat),At u v b k->kp b=false->oX v = -1
 same:∀(v:Nat),(¬∃b k,At u v b k/\kp b=false)->oX v=as v
section
variable{u u2 w:U}{kp:Nat->Bool}(g:Good u)(e:Hg u u2)(hk:∀b,kp b=true↔∃l,Pt (next u2) b l)(c:Cut u2 kp w){as oX:Nat->Int}(F:Sq u as)(Gn:Sl u kp as oX)
include g F Gn
omit F in
theorem Hm {v b k:Nat} (Mf:At u v b k) (hb:kp b=true):oX v=as v:=Gn.same v λ⟨b',k',h1,h2⟩=>by
 obtain⟨rfl,_⟩:=g.AH _ _ _ _ _ Mf h1
 simp_all
theorem L1{v:Nat} (h:0<=oX v):oX v=as v/\∃b k,At u v b k/\kp b=true:=by
 by_cases hv:v<u.ef.length
 ·obtain ⟨b,k,a⟩:=g.xM v hv trivial
  cases hb:kp b with
  |true=>grind[Hm]
  | false=>
    have:=Gn.gone v b k a hb;omega
 ·have c:oX v=as v:=Gn.same v λ⟨b,k,c,_⟩=>hv (g.jz _ _ _ c);have:=F.out v (by omega);omega
theorem Qw{v b k:Nat} (c:At u v b k) (hb:kp b=true) (a:mq u v):0<=oX v:=by
 rw[Hm g Gn c hb];obtain⟨x,hx,a⟩:=a;rcases F.cas v x hx with h|⟨_,h,_⟩|⟨_,r,h,_⟩
 ·omega
 ·rw[h]at a;cases a
 ·omega
include e hk
theorem Oo{v b k r:Nat} (c:At u v b k) (hb:kp b=true) (h:oX v=(r:Int)) (n:r≠v):∃d j,At u r d j/\kp d=true/\d≠b/\kV (next u) d b/\∃x,u.ef[v]? =some x/\x.op=21/\r∈x.args/\∀a∈x.args,a=v\/a=r:=by
 have hx:=g0 (g.jz _ _ _ c);rw[Hm g Gn c hb]at h;rcases F.cas v _ hx with f|⟨f,_⟩|⟨f,r',s,_,o,i⟩
 ·omega
 ·omega
 ·obtain rfl:r=r':=by omega
  have p:mq u r:=g.use v _ hx r (by simp_all[gO,if_pos]);obtain⟨y,t,_⟩:=p;obtain⟨d,j,l⟩:=g.xM r (by grind) trivial;obtain⟨q,m⟩:=Yt g hx f c l i;exact⟨d,j,l,GQ e hk hb m,q,m,_,hx,f,o,i⟩
include c
theorem QP:Fit w oX:=by
 have A:=@Qx u u2 w kp g e hk c;have V:=@Gz u u2 w kp g e c;have T:=@Us u u2 w kp g e c;have pos:∀{v b k:Nat},kp b=true->mq u v->zh u v b k->0<=oX v:=λ{v b k} hb s ⟨d,j,l,hs⟩=>by
  refine Qw g F Gn l ?_ s;rcases hs with⟨rfl,_⟩|⟨_,G⟩
  ·exact hb
  ·exact GQ e hk hb G
 have y:∀{v b:Nat},kp b=true->mq u v->rC u v b->0<=oX v:=λ{v b} hb s ⟨d,j,l,hs⟩=>Qw g F Gn l (GQ e hk hb hs) s;have z:∀{v:Nat},stays oX v=true->∃b k,At u v b k/\kp b=true:=λ{v} h=>by
  unfold stays at h;rw[EE]at h;exact(L1 g F Gn (v:=v) (by omega)).2
 refine⟨λv hv h0=>?_,λv r i k h U=>?_,λv r h s=>?_,λv W hx hs a D=>?_,λv W fs hx hs Q m a D=>?_,λi C N H=>?_,λi C fs N I m a D=>?_⟩
 ·obtain⟨o,b,k,l,hb⟩:=L1 g F Gn h0;obtain⟨r,L⟩:∃r:Nat,oX v=(r:Int):=⟨(oX v).toNat,by omega⟩
  refine⟨r,L,?_⟩;rw[c.len,e.ef];by_cases hne:r=v
  ·subst hne;exact⟨g.jz _ _ _ l,L⟩
  ·obtain⟨d,j,G,kd,_⟩:=Oo g e hk F Gn l hb L hne;refine⟨g.jz _ _ _ G,?_⟩;rw[Hm g Gn G kd];exact F.root v r (by omega)
 ·obtain⟨b,hb,rfl,l⟩:=A.1 U;by_cases hne:r=v
  ·grind
  ·obtain⟨d,j,G,kd,o,H,_⟩:=Oo g e hk F Gn l hb h hne;exact⟨_,j,by grind,.inr ⟨λq=>o (vT kd hb q),NY g e hk c hb H⟩⟩
 ·obtain⟨o,b,k,l,hb⟩:=L1 g F Gn (v:=v) (by omega);by_cases hne:r=v
  ·simp_all
  ·obtain⟨d,j,G,kd,_,_,x,hx,p,L,_⟩:=Oo g e hk F Gn l hb h hne;exact T.2 (g.use v x hx r (by simp_all[gO,if_pos]))
 ·obtain⟨b,k,l,hb⟩:=z hs;obtain⟨x,hx,J,sp⟩:=V hx;have K:=J.gO a D;have s:=g.use v x hx a K;by_cases p:x.op=21
  ·obtain⟨B,E,_⟩:=id l;have hlen:=(g.Ae v b k x B l hx p E).2;unfold gO at D;rw[J.op,if_pos p,sp b k B p l hb E]at D;obtain⟨j,X,rfl⟩:=GL.1 D;obtain⟨O,P⟩:=HS.1 X;have O:=Rf.1 O;rw[uF]at P;have R:=g0 O;have S:=g0 (show j<x.args.length by omega);rw[CM,R]at P;rw[CM,S]at s⊢;exact y P.1 s (g.zE v b k x B l hx p E j _ _ S R)
  ·exact pos hb s (g.xG v b k x l hx p a K)
 ·obtain ⟨b,k,l,hb⟩:=z hs;obtain⟨x,hx,J,_⟩:=V hx;rw[c.eh,e.eh,J.state]at m;rw[J.op]at Q;have s:mq u a:=by
   obtain⟨f,Y,o⟩:=Tu.1 D;obtain⟨_,_,H⟩:=g.st _ fs m;rcases Bm.1 o with o|o
   ·grind
   ·grind
  exact pos hb s (g.Cn v b k x fs l hx Q m a D)
 ·obtain ⟨b,B,hb,E,rfl,rfl⟩:=IC c N;obtain⟨Z,M,_,_,_,o|⟨_,n,t,_,_,rfl⟩⟩:=Cc e E
  ·subst o;rcases g.fin b B M with⟨I,_⟩|⟨_,_,I⟩|⟨I,_⟩
   ·simp_all
   ·exact y hb I (g.zO b B M H)
   simp_all
  ·cases H
 ·obtain ⟨b,B,hb,E,rfl,rfl⟩:=IC c N;obtain⟨Z,M,_,_,_,o|⟨_,n,t,_,_,rfl⟩⟩:=Cc e E
  ·subst o;rw[c.eh,e.eh]at m;have s:mq u a:=by
    obtain⟨f,Y,o⟩:=Tu.1 D;obtain⟨_,_,H⟩:=g.st _ fs m;rcases Bm.1 o with o|o
    ·grind
    ·grind
   exact y hb s (g.Cf b B fs M I m a D)
  ·cases I
end
open Dm
section
variable{u u2 w:U}{kp:Nat->Bool}(g:Good u)(e:Hg u u2)(hk:∀b,kp b=true↔∃l,Pt (next u2) b l)(c:Cut u2 kp w){as oX:Nat->Int}(F:Sq u as)(Gn:Sl u kp as oX)
include g e hk c F Gn
theorem zbY{v i k r:Nat} (f:At w v i k) (h:oX v=(r:Int)) (l:r≠v):∃d j,At w r d j/\d≠i/\kV (next w) d i/\∃x,w.ef[v]? =some x/\x.op=21/\∀a∈x.args,a=v\/a=r:=by
 obtain⟨b,hb,rfl,p⟩:=(Qx g e hk c).1 f;obtain⟨d,j,y,kd,z,q,x,hx,m,_,s⟩:=Oo g e hk F Gn p hb h l;obtain⟨t,n,o,_⟩:=Jq g e c hx;exact⟨_,j,(Qx g e hk c).2 (by grind),by grind[vT],NY g e hk c hb q,t,n,by rw[o.op];exact m,λa u=>s a (o.args a u)⟩
theorem Xa(locals:List Int) (jH:Int) (heap:List Int):Way w oX locals jH heap λb k s=>KI w b k s/\∀v r:Nat,oX v=(r:Int)->zh w v b k->s.of r=s.of v:=by
 have i:=L4 g e hk c (as:=oX) Gn.gone;have D:=@zbY u u2 w kp g e hk c as oX F Gn;have R:∀{v:Nat} {x:Vl},w.ef[v]? =some x->x.op=21->fY w v=true:=λ{v x} hx h=>by
  unfold fY;rw[hx];show(x.op == 1 ||x.op == 21)=true
  simp_all
 have apart:∀{v r b k t j:Nat},oX v=(r:Int)->r≠v->zh w v t k->t<w.blocks.length->At w r t j->False:=λ{v r b k t j} h f ⟨P,j0,a,hc⟩ ht C=>by
  obtain⟨d,j',E,G,S,_⟩:=D a h f;obtain⟨rfl,_⟩:=i.AH _ _ _ _ _ E C;rcases hc with⟨rfl,_⟩|⟨U,H⟩
  ·omega
  ·obtain⟨l,y⟩:=i.reach d ht;exact U (H.Yi S y)
 refine⟨λB z=>⟨KI.start z,λv r h hs=>?_⟩,λb t B T s z m ht I y=>⟨by grind[KI.uS],λv r h hs=>?_⟩,λb k V x s s1 a hx hh I y J=>⟨I.1.one i a hx y J,λv r h hs=>?_⟩,by grind⟩
 ·by_cases f:r=v
  ·rw[f]
  ·obtain⟨P,j,a,hc⟩:=hs;obtain⟨_,_,_,_,_,x,hx,n,_⟩:=D a h f;obtain⟨W,K,_⟩:=id a;have L:=(i.Ae v P j x W a hx n K).1;rcases hc with⟨q,_⟩|⟨_,E⟩
   ·omega
   ·exact(L (by simpa using E _ .nil)).elim
 ·by_cases f:r=v
  ·rw[f]
  have M:=(jk.1 m).1;have C:r ∉ T.ef.takeWhile (fY w):=λX=>by
   obtain⟨k,o⟩:=mr.1 (wBL _ X);exact apart (b:=0) h f hs M ⟨T,m,o⟩
  have p:({s with steps:=s.steps+1}:Rs).val.length=w.ef.length:=y;rw[Kt i m p C];show s.of r=_;by_cases hv:v∈T.ef.takeWhile (fY w)
  ·rw[ZP i m p hv];obtain⟨k,o⟩:=mr.1 (wBL _ hv);have a:At w v t k:=⟨T,m,o⟩
   obtain⟨_,_,_,_,_,x,hx,n,Y⟩:=D a h f;have hlen:=(i.Ae v t k x T a hx n m).2;have N:t∈next w b:=by unfold next;rw[z];exact ht
   have Z:b∈T.ez:=by rw[i.ez t T m];exact sY.2 N
   unfold tA;rw[hx];simp only;rw[if_neg (by omega)]
   cases hf:T.ez.findIdx? (·== b)with
   | none=>
     grind
   | some j=>
     obtain⟨hj,G,_⟩:=List.findIdx?_eq_some_iff_getElem.1 hf;have G:T.ez[j]=b:=by simpa using G
     have Q:=g0 (show j<x.args.length by omega);simp only;rw[CM,Q];show s.of r=s.of x.args[j];rcases Y _ (EA _:x.args[j]∈x.args)with q|q
     ·rw[q]
      have aa:=i.zE v t k x T a hx n m j _ _ Q (g0 hj)
      grind[rJ]
     ·rw[q]
  ·rw[Kt i m p hv];exact I.2 v r h (Q7 z m ht hs hv)
 ·by_cases f:r=v
  ·rw[f]
  have A:V<s.val.length:=by rw[y];exact by grind
  obtain⟨B,z,_⟩:=id a;have O:=(jk.1 z).1;rcases Qj a hs with rfl|⟨hz,hs⟩
  ·grind
  ·rw[Sr J hz A,Sr J (λq=>apart (b:=0) h f hs O (by rw[q];exact a)) A]
   grind
theorem UN:tQ u (gG w oX):=by
 have m:=L4 g e hk c (as:=oX) Gn.gone;refine(Step.JF g (zbe g e hk c)).trans λlocals jH fuel Md heap=>Yp m (by grind[QP]) (Xa g e hk c F Gn locals jH heap) (λv i k p f hx hs=>?_) Md;obtain⟨b,hb,rfl,q⟩:=(Qx g e hk c).1 f;obtain⟨x,h,d,_⟩:=Gz g e c hx;have r:=Hm g Gn q hb;rw[d.op,d.a];rcases F.cas v x h with t|⟨_,z,n,⟨y,A,B,C⟩,D⟩|⟨t,_⟩
 ·grind[stays]
 ·refine ⟨by omega,by omega,λ_ s E=>?_,by omega⟩;obtain⟨G,j,o,_⟩:=Jq g e c A;have l:=m.xG v _ k p f hx (by rw[d.op];omega) x.a (by
   rw[<-d.a];refine En.2 ?_ (by rw[d.op];omega);rw[d.op,z];rfl)
  rw[E.1 x.a G j (by rw[o.op];exact B) l,o.n,C];exact D
 omega
theorem U8:Good (gG w oX):=IF (L4 g e hk c (as:=oX) Gn.gone) (by grind[QP])
end
open Dm
def mu(u:U):Nat:=u.ef.countP (λx=>x.op != 2)+u.blocks.countP (λB=>B.fin == 2)
def Unf(u:U)(v:Nat):Prop:=∀x n,u.ef[v]? =some x->¬Fv u x n
theorem TU{u:U} {v:Nat} {x:Vl} (hx:u.ef[v]? =some x) (a:x.op≠2) (n:Int):mu (BR u v n)<mu u:=by
 obtain ⟨hv,e⟩:=jk.1 hx;have b:0<u.ef.countP (λx=>x.op != 2):=List.countP_pos_iff.2 ⟨x,yC hx,by simp[a]⟩;have:(u.ef.set v (Ns n)).countP (λx=>x.op != 2)=u.ef.countP (λx=>x.op != 2)-1:=by
  rw[List.countP_set hv,e];simp[a,Ns]
 show(u.ef.set v (Ns n)).countP _+_<_;rw[this];unfold mu;show _+u.blocks.countP _<_;omega
structure Ri (a:U->Prop) (u u':U) (c:Bool) (D:Nat->Prop):Prop where
 BB:Good u'
 JF:tQ u u'
 func:u'.func=u.func
 pc:u'.pc=u.pc
 blocks:u'.blocks=u.blocks
 eh:u'.eh=u.eh
 len:u'.ef.length=u.ef.length
 args:a u'
 ops:∀p:Nat->Prop,p 2->(∀x∈u.ef,p x.op)->∀y∈u'.ef,p y.op
 mu:mu u'<=mu u
 less:c=true->Un.mu u' < Un.mu u
 same:c=false->u' = u/\∀v,D v->Unf u v
theorem Ri.start{a:U->Prop}{u:U}(g:Good u)(b:a u):Ri a u u false λ_=>False:=⟨g,.refl _,rfl,rfl,rfl,rfl,rfl,b,λ_ _ h=>h,jb _,λh=>(nomatch h),λ_=>⟨rfl,λ_ h=>h.elim⟩⟩
theorem Ri.more{a:U->Prop} {u u':U} {c:Bool} {D D':Nat->Prop} (t:Ri a u u' c D) (h:c=false->∀v,D' v->D v\/Unf u v):Ri a u u' c D':=
 {t with same:=λhc=>⟨(t.same hc).1,λv hv=>(h hc v hv).elim ((t.same hc).2 v) id⟩ }
theorem Ri.step{a:U->Prop} {u u':U} {c:Bool} {D:Nat->Prop} (t:Ri a u u' c D) {v:Nat} {x:Vl} {n:Int} (hx:u'.ef[v]? =some x) (f:Fv u' x n) (d:a (BR u' v n)) (D':Nat->Prop):Ri a u (BR u' v n) true D' where
 BB:=U4 t.BB hx f.lo f.hi
 JF:=t.JF.trans (UU t.BB hx f)
 func:=t.func
 pc:=t.pc
 blocks:=t.blocks
 eh:=t.eh
 len:=Lm.trans t.len
 args:=d
 ops p b h y hy:=by
  rcases List.mem_or_eq_of_mem_set (show y∈u'.ef.set v (Ns n) from hy)with e|rfl
  ·exact t.ops p b h y e
  ·exact b
 mu:=Nat.le_of_lt (BF (TU hx (by have:=f.lo;omega) n) t.mu)
 less _:=BF (TU hx (by have:=f.lo;omega) n) t.mu
 same h:=nomatch h
structure CJ (u u2:U) (c:Bool) (D:Nat->Prop):Prop where
 e:Hg u u2
 mu:mu u2<=mu u
 less:c=true->Un.mu u2<Un.mu u
 same:c=false->u2=u/\∀b B n,D b->u.blocks[b]? =some B->B.fin=2->¬Kw u B.cond n
def Od(B:Bk)(t:Nat):Bk:={B with fin:=1,cond:=0,next:=[t]}
theorem CJ.start(u:U):CJ u u false λ_=>False:=⟨⟨rfl,rfl,rfl,rfl,rfl,λ_ _ h=> .inl h⟩,jb _,λh=>(nomatch h),λ_=>⟨rfl,λ_ _ _ h=>h.elim⟩⟩
theorem CJ.more{u u2:U} {c:Bool} {D D':Nat->Prop} (t:CJ u u2 c D) (h:c=false->∀b,D' b->D b\/∀B n,u.blocks[b]? =some B->B.fin=2->¬Kw u B.cond n):CJ u u2 c D':=
 {t with same:=λhc=>⟨(t.same hc).1,λb B n hb a d=>(h hc b hb).elim (λq=>(t.same hc).2 b B n q a d) λq=>q B n a d⟩ }
theorem CJ.step{u u2:U} {c:Bool} {D:Nat->Prop} (t:CJ u u2 c D) {b to:Nat} {B:Bk} {n:Int} (j:u.blocks[b]? =some B) (a:u2.blocks[b]? =some B) (d:B.fin=2) (k:Kw u B.cond n) (ht:(if n=0 then B.next[1]? else B.next[0]?)=some to) (D':Nat->Prop):CJ u {u2 with blocks:=u2.blocks.set b (Od B to)} true D':=by
 obtain ⟨g,e⟩:=jk.1 a;have l:Un.mu {u2 with blocks:=u2.blocks.set b (Od B to)} < Un.mu u2:=by
  have m:0<u2.blocks.countP (λB=>B.fin == 2):=List.countP_pos_iff.2 ⟨B,yC a,by simp[d]⟩;have:(u2.blocks.set b (Od B to)).countP (λB=>B.fin == 2)=u2.blocks.countP (λB=>B.fin == 2)-1:=by
   rw[List.countP_set g,e];simp[d,Od]
  show _+(u2.blocks.set b (Od B to)).countP _<_;rw[this];unfold Un.mu;show u2.ef.countP _+_<_;omega
 refine⟨⟨t.e.func,t.e.pc,t.e.ef,t.e.eh,by show(u2.blocks.set _ _).length=_;rw[Lm];exact t.e.len,λi A f=>?_⟩,by have:=t.mu;omega,λ_=>by have:=t.mu;omega,λh=>(nomatch h)⟩;by_cases q:i=b
 ·subst q;rw[j]at f;cases f;exact .inr ⟨d,n,to,k,ht,Mt g⟩
 ·show(u2.blocks.set b _)[i]? =_\/_/\∃_ _,_/\_/\(u2.blocks.set b _)[i]? =_;rw[IB λz=>q z.symm];exact t.e.vf i A f
open Dm
theorem NL{A T:List Nat} (c:A.Nodup) (hs:∀x∈A,x∈T):A.length<=T.length:=by
 have h:(A.map T.idxOf).Nodup:=by
  induction A with
  |nil=>simp
  | cons a A f=>
    rw[ZO]at c;rw[Yb,ZO];refine⟨λd=>?_,by simp_all⟩;obtain⟨b,hb,e⟩:=GL.1 d;have:=N7 (by simp_all) (by simp_all) e
    simp_all
 have:=jr T.length _ h (by grind)
 simp_all
theorem getD_map{α:Type} (l:List α) (d:α):(List.range l.length).map (λj=>l.getD j d)=l:=by
 refine So λj=>?_
 grind
theorem count_range{α:Type} (l:List α) (d:α) (p:α->Bool):l.countP p=((List.range l.length).filter λj=>p (l.getD j d)).length:=by
 conv=>lhs;rw[<-getD_map l d,List.countP_map]
 rw[List.countP_eq_length_filter];rfl
section
variable{u u2 w:U}{kp:Nat->Bool}(g:Good u)(e:Hg u u2)(hk:∀b,kp b=true↔∃l,Pt (next u2) b l)(c:Cut u2 kp w){oX:Nat->Int}(TN:∀(v b k:Nat),At u v b k->kp b=false->oX v = -1)
include g e hk c TN
theorem YA:mu (gG w oX)<=mu u2/\((∃v x,u.ef[v]? =some x/\x.op≠2/\stays oX v=false)->mu (gG w oX)<mu u2):=by
 have h:=L4 g e hk c TN;have d:=zy (as:=oX) h;have hb:(gG w oX).blocks.countP (λB=>B.fin == 2)<=u2.blocks.countP λB=>B.fin == 2:=by
  show(w.blocks.map (lM w oX)).countP _<=_;rw[List.countP_map,show((λB:Bk=>B.fin == 2) ∘ lM w oX)=λB=>B.fin == 2 from rfl,c.blocks,List.countP_map,count_range u2.blocks Mo,List.countP_eq_length_filter];unfold lG;rw[List.filter_filter];refine NL (ZB.filter _) λx hx=>?_;obtain⟨i,b⟩:=HS.1 hx;rw[uF]at b;exact HS.2 ⟨i,b.1⟩
 have hv:(gG w oX).ef.countP (λx=>x.op != 2)=((fu w oX).filter λn=>(w.ef.getD n ⟨0,0,0,0,[],0⟩).op != 2).length:=by
  show((fu w oX).map _).countP _=_;rw[List.countP_map,List.countP_eq_length_filter];rfl
 have a:∀n∈(fu w oX).filter (λn=>(w.ef.getD n ⟨0,0,0,0,[],0⟩).op != 2),n∈(List.range u2.ef.length).filter λj=>(u2.ef.getD j ⟨0,0,0,0,[],0⟩).op != 2:=λn f=>by
  obtain⟨i,b⟩:=HS.1 f;have k:=((iJ h).1 i).1;obtain⟨x,hx,m,_⟩:=Gz g e c (g0 k);refine HS.2 ⟨Rf.2 (by rw[<-c.len];exact k),?_⟩;rw[CM,g0 k,Option.getD_some,m.op]at b;rw[e.ef,CM,hx];exact b
 have hc:=count_range u2.ef ⟨0,0,0,0,[],0⟩ λx=>x.op != 2;unfold mu;rw[hv];refine⟨by have:=NL (d.filter _) a;omega,λ⟨v,x,hx,b,hs⟩=>?_⟩;have l:=(jk.1 hx).1;have o:v∈(List.range u2.ef.length).filter λj=>(u2.ef.getD j ⟨0,0,0,0,[],0⟩).op != 2:=by
  refine HS.2 ⟨Rf.2 (by rw[e.ef];exact l),?_⟩;rw[e.ef,CM,hx];simp[b]
 have:=NL (A:=v::(fu w oX).filter λn=>(w.ef.getD n ⟨0,0,0,0,[],0⟩).op != 2) (by
  rw[ZO];refine⟨λq=>?_,d.filter _⟩;have:=((iJ h).1 (HS.1 q).1).2
  simp_all) λn f=>by
   rcases FZ.1 f with rfl|f
   ·exact o
   ·exact a n f
 grind
end
open Dm
inductive Rg (u:U):Nat->Int->Prop
 |con {v:Nat} {x:Vl} (hx:u.ef[v]? =some x) (d:x.op=2):Rg u v (tm x.n)
 |op {v:Nat} {x:Vl} {a b:Int} (hx:u.ef[v]? =some x) (e:3<=x.op) (c:x.op<=14) (f:Rg u x.a a) (hb:¬(x.op=8\/x.op=9)->Rg u x.b b):Rg u v (CC x.op a b)
theorem Ze{op:Nat} {a b c:Int} (h:op=8\/op=9):CC op a b=CC op a c:=by
 rcases h with rfl|rfl <;> rfl
theorem Rg.uniq{u:U} {v:Nat} {a b:Int} (h:Rg u v a) (h':Rg u v b):a=b:=by
 induction h generalizing b with
 | con hx j=>
   cases h' with
   |con d _=>rw[hx]at d;cases d;rfl
   |op d k _ _ _=>rw[hx]at d;cases d;omega
 | @op v x a b' hx k l m hb e f=>
   cases h' with
   |con d j=>rw[hx]at d;cases d;omega
   | op d _ _ g i=>
     rw[hx]at d;cases d;rw[e g];by_cases c:x.op=8\/x.op=9
     ·exact Ze c
     ·rw[f c (i c)]
theorem zaa(n:Int):0<=tm n/\tm n<18446744073709551616:=by unfold tm;omega
theorem zbh(op:Nat) (a b:Int):0<=CC op a b/\CC op a b<18446744073709551616:=by
 have f:∀c:Bool,0<=B7 c/\B7 c<18446744073709551616:=λc=>by cases c <;> simp[B7]
 have i:∀{p:Prop} [Decidable p] {x y:Int},(0<=x/\x<18446744073709551616)->(0<=y/\y<18446744073709551616)->(0<=(if p then x else y)/\(if p then x else y)<18446744073709551616):=λhx d=>by split <;> assumption
 unfold CC
 repeat' first|exact zaa _|exact f _|exact⟨Int.le_refl _,by decide⟩|refine i ?_ ?_
theorem SZ{w:Int} (h:0<=w/\w<18446744073709551616):tm (wQ w)=w:=by
 unfold tm wQ;split <;> omega
theorem Rg.wd{u:U} {v:Nat} {a:Int} (h:Rg u v a):0<=a/\a<18446744073709551616:=by
 cases h with
 |con _ _=>exact zaa _
 |op _ _ _ _ _=>exact zbh _ _ _
structure VP (u u':U) (D:Nat->Prop):Prop where
 func:u'.func=u.func
 pc:u'.pc=u.pc
 blocks:u'.blocks=u.blocks
 eh:u'.eh=u.eh
 len:u'.ef.length=u.ef.length
 uH:∀(v:Nat) (x:Vl),u.ef[v]? =some x->u'.ef[v]? =some x\/(x.op≠2/\∃w,Rg u v w/\u'.ef[v]? =some (Ns (wQ w)))
 done:∀(v:Nat) (x:Vl) (w:Int),D v->u.ef[v]? =some x->x.op≠2->Rg u v w->u'.ef[v]? =some (Ns (wQ w))
theorem VP.start(u:U):VP u u λ_=>False:=⟨rfl,rfl,rfl,rfl,rfl,λ_ _ h=> .inl h,λ_ _ _ h=>h.elim⟩
theorem VP.more{u u':U} {D D':Nat->Prop} (p:VP u u' D) (h:∀v,D' v->D v\/∀(x:Vl) (w:Int),u.ef[v]? =some x->x.op≠2->Rg u v w->u'.ef[v]? =some (Ns (wQ w))):VP u u' D':=
 {p with done:=λv x w hv hx a hk=>(h v hv).elim (λq=>p.done v x w q hx a hk) λq=>q x w hx a hk}
theorem VP.uniq{u a b:U} (p:VP u a λv=>v<u.ef.length) (q:VP u b λv=>v<u.ef.length):a=b:=by
 have hv:a.ef=b.ef:=by
  refine So λv=>?_;by_cases hl:v<u.ef.length
  ·have hx:=g0 hl;rcases p.uH v _ hx with c|⟨f,w,e,c⟩
   ·rcases q.uH v _ hx with d|⟨g,w,e,d⟩
    ·rw[c,d]
    ·rw[p.done v _ w hl hx g e,d]
   ·rw[c,q.done v _ w hl hx f e]
  ·rw[JA (by rw[p.len];omega),JA (by rw[q.len];omega)]
 cases a;cases b;have c:=p.func.trans q.func.symm;have f:=p.pc.trans q.pc.symm;have d:=p.blocks.trans q.blocks.symm;have g:=p.eh.trans q.eh.symm
 simp_all
theorem VP.kn{u u':U} {D:Nat->Prop} (p:VP u u' D) {v:Nat} {n:Int} (h:Kw u' v n):Rg u v n:=by
 obtain⟨y,b,e,rfl⟩:=h;have c:=(jk.1 b).1;rw[p.len]at c;rcases p.uH v _ (g0 c)with a|⟨_,w,d,a⟩
 ·rw[b]at a;cases a;exact .con (g0 c) e
 ·rw[b]at a;cases a;rw[show(Ns (wQ w)).n=wQ w from rfl,SZ d.wd];exact d
theorem VP.set{u u':U} {D:Nat->Prop} (p:VP u u' D) {v:Nat} {x:Vl} {a b:Int} (hx:u'.ef[v]? =some x) (i:3<=x.op) (h:x.op<=14) (l:Kw u' x.a a) (hb:¬(x.op=8\/x.op=9)->Kw u' x.b b) (D':Nat->Prop) (m:∀w,D' w->D w\/w=v):VP u (BR u' v (wQ (CC x.op a b))) D':=by
 have n:=(jk.1 hx).1;have j:u.ef[v]? =some x:=by
  have h0:=g0 (show v<u.ef.length by rw[<-p.len];exact n);rcases p.uH v _ h0 with d|⟨_,w,_,d⟩
  ·rw[hx]at d;cases d;exact h0
  ·rw[hx]at d;cases d;exact absurd i (by decide:¬3<=2)
 have hk:Rg u v (CC x.op a b):= .op j i h (p.kn l) λc=>p.kn (hb c);have k:∀w,(BR u' v (wQ (CC x.op a b))).ef[w]? =if w=v then some (Ns (wQ (CC x.op a b))) else u'.ef[w]?:=λw=>wI hx
 refine⟨p.func,p.pc,p.blocks,p.eh,(Lm).trans p.len,λw y f=>?_,λw y z o f q g=>?_⟩
 ·rw[k];by_cases e:w=v
  ·subst e;rw[j]at f;cases f;rw[if_pos rfl];exact .inr ⟨by omega,_,hk,rfl⟩
  ·rw[if_neg e];exact p.uH w y f
 ·rw[k];by_cases e:w=v
  ·subst e;rw[if_pos rfl,hk.uniq g]
  ·rw[if_neg e];exact p.done w y z ((m w o).resolve_right e) f q g
theorem VP.skip{u u':U} {D:Nat->Prop} (p:VP u u' D) {v:Nat} {x:Vl} (hx:u'.ef[v]? =some x) (o:u.ef[v]? =some x->x.op<=14->3<=x.op->∀w∈gO x,D w)
  (f:∀a b:Int,3<=x.op->x.op<=14->Kw u' x.a a->(¬(x.op=8\/x.op=9)->Kw u' x.b b)->False) (q:3<=x.op->x.op<=14->x.a∈gO x/\(¬(x.op=8\/x.op=9)->x.b∈gO x)) :
  ∀(y:Vl) (w:Int),u.ef[v]? =some y->y.op≠2->Rg u v w->u'.ef[v]? =some (Ns (wQ w)):=λy w h k hk=>by
 rcases p.uH v y h with g|⟨_,w',l,g⟩
 ·rw [hx]at g;cases g;have e:∀{a n},D a->Rg u a n->Kw u' a n:=λ{a n} r f=>by
   have s:a<u.ef.length:=by cases f <;> exact(jk.1 ‹u.ef[a]? =some _›).1
   have h0:=g0 s;by_cases c:u.ef[a].op=2
   ·rcases p.uH a _ h0 with g|⟨k,_⟩
    ·rw[(f.uniq (.con h0 c))];exact⟨_,g,c,rfl⟩
    ·exact absurd c k
   ·exact⟨_,p.done a _ n r h0 c f,rfl,SZ f.wd⟩
  cases hk with
  |con i m=>rw[h]at i;cases i;exact absurd m k
  | op i j d t hb=>
    rw[h]at i;cases i;obtain⟨z,A⟩:=q j d;exact(f _ _ j d (e (o h d j _ z) t) λc=>e (o h d j _ (A c)) (hb c)).elim
 ·rw[hk.uniq l];exact g
theorem zbs{n:Nat} {nx:Nat->List Nat} {seen:List Bool} {post:List Nat} (G:CL n nx seen post []):∀(m:Nat) (l r:List Nat) (b c:Nat),r.length<=m->post=l++b::r->kV nx c b->c=b\/c∈r:=by
 have f:∀(m:Nat) (l r:List Nat) (b:Nat),r.length<=m->post=l++b::r->∃p,Pt nx b p/\∀c∈p,c=b\/c∈r:=by
  intro m
  induction m with
  | zero=>
    intro l r b e h;rcases G.early l b r h with rfl|⟨p,_,a|a⟩
    ·exact⟨_,.nil,λc hc=> .inl (by simpa using hc)⟩
    ·obtain rfl:r=[]:=List.length_eq_zero_iff.1 (by omega)
     cases a
    ·cases a
  | succ m g=>
    intro l r b e h;rcases G.early l b r h with rfl|⟨p,i,a|a⟩
    ·exact⟨_,.nil,λc hc=> .inl (by simpa using hc)⟩
    ·obtain ⟨r1,r2,rfl⟩:=wB7 a
     obtain⟨q,hq,hc⟩:=g (l++b::r1) r2 p (by simp at e;omega) (by rw[h];simp);refine⟨_,.step hq i,λc d=>?_⟩;rcases FZ.1 d with rfl|d
     ·exact .inl rfl
     ·rcases hc c d with rfl|h'
      ·exact .inr a
      ·exact .inr (by simp[h'])
    ·cases a
 intro m l r b c e h j;obtain⟨p,k,hc⟩:=f m l r b e h;exact hc c (j p k)
theorem zav{n:Nat} {nx:Nat->List Nat} {seen:List Bool} {post:List Nat} (G:CL n nx seen post []) {i b c:Nat} (h:post.reverse[i]? =some b) (d:kV nx c b):c=b\/∃m,m<i/\post.reverse[m]? =some c:=by
 obtain ⟨hi,e⟩:=jk.1 h;have hs:post.reverse=post.reverse.take i++b::post.reverse.drop (i+1):=by
  conv=>lhs;rw[<-VY i post.reverse,VV hi,e]
 have f:post=(post.reverse.drop (i+1)).reverse++b::(post.reverse.take i).reverse:=by
  have:=congrArg List.reverse hs;simpa using this
 rcases zbs G _ _ _ b c (jb _) f d with h|h
 ·exact .inl h
 ·obtain⟨m,a⟩:=mr.1 (Xq.1 h);rw[List.getElem?_take]at a;split at a
  ·exact .inr ⟨m,‹_›,a⟩
  ·cases a
open Dm
theorem Sy{nx:Nat->List Nat} {a c b:Nat} {l:List Nat} (g:Pt nx b l) (s:kV nx a b) (hc:kV nx c b):kV nx a c\/kV nx c a:=by
 refine Classical.byContradiction λr=>?_;obtain⟨p,t,k⟩:∃p,Pt nx c p/\a ∉ p:=Classical.byContradiction λq=>r (.inl λl g=>Classical.byContradiction λz=>q ⟨l,g,z⟩);obtain⟨q,hq,i⟩:∃p,Pt nx a p/\c ∉ p:=Classical.byContradiction λq=>r (.inr λl g=>Classical.byContradiction λz=>q ⟨l,g,z⟩);have n:∀{b l},Pt nx b l->b∈l:=λh=>by cases h <;> simp
 have o:∀{b l},Pt nx b l->(∃m,Pt nx b m/\a ∉ m)\/∃m,Pt nx b m/\c ∉ m:=λh=>by
  induction h with
  | nil=>
    by_cases e:a=0
    ·subst e
     exact .inr ⟨q,hq,i⟩
    ·exact .inl ⟨_,.nil,by simpa using e⟩
  | @step v b l h e u=>
    rcases u with⟨m,d,f⟩|⟨m,d,f⟩
    ·by_cases j:a=b
     ·subst j;exact .inr ⟨q,hq,i⟩
     ·exact .inl ⟨_,.step d e,by simp[j,f]⟩
    ·by_cases j:c=b
     ·subst j;exact .inl ⟨p,t,k⟩
     ·exact .inr ⟨_,.step d e,by simp[j,f]⟩
 rcases o g with⟨m,d,f⟩|⟨m,d,f⟩
 ·exact f (s m d)
 ·exact f (hc m d)
section
variable{u:U}(g:Good u)
include g
theorem Pj{v w z:Nat} (h:xF u w v) (h':xF u z v):w=z\/xF u w z\/xF u z w:=by
 obtain⟨c,j,b,k,d,i,o⟩:=h;obtain⟨c',a,b',k',f,p,r⟩:=h';obtain⟨rfl,rfl⟩:=g.AH _ _ _ _ _ i p;have hb:b<u.blocks.length:=let⟨_,q,_⟩:=i;(jk.1 q).1
 obtain⟨l,s⟩:=g.reach b hb;by_cases e:c=c'
 ·subst e;by_cases t:j=a
  ·subst t;obtain⟨B,x,y⟩:=d;obtain⟨D,m,n⟩:=f;rw[x]at m;cases m;rw[y]at n;cases n;exact .inl rfl
  ·by_cases A:j<a
   ·exact .inr (.inl ⟨c,j,c,a,d,f,.inl ⟨rfl,A⟩⟩)
   ·exact .inr (.inr ⟨c,a,c,j,f,d,.inl ⟨rfl,by omega⟩⟩)
 ·have d1:kV (next u) c b:=o.elim (λq=>q.1▸kV.self _ _) λq=>q.2;have C:kV (next u) c' b:=r.elim (λq=>q.1▸kV.self _ _) λq=>q.2;rcases Sy s d1 C with h|h
  ·exact .inr (.inl ⟨c,j,c',a,d,f,.inr ⟨e,h⟩⟩)
  ·exact .inr (.inr ⟨c',a,c,j,f,d,.inr ⟨λq=>e q.symm,h⟩⟩)
theorem Xb{as bs : Nat->Int} (d:Hh u as) (e:Hh u bs):∀v,v<u.ef.length->as v=bs v:=by
  have M:∀(n b : Nat) (l:List Nat),Pt (next u) b l->l.length<=n->∀(k v:Nat) (x:Vl),At u v b k->u.ef[v]? =some x->as v=bs v/\(jG x.op=true->keyOf as x=keyOf bs x):=by
    intro n
    induction n with
    |zero=>intro b l E S;cases E <;> simp at S
    | succ n V =>
      intro b l E S k
      induction k using Nat.strongRecOn with
      | _ k N =>
        intro v x a hx;have fr:∀w,xF u w v->as w=bs w/\∀y,u.ef[w]? =some y->jG y.op=true->keyOf as y=keyOf bs y:=λw ⟨c,j,b',k',s,o,m⟩=>by
          obtain⟨rfl,rfl⟩:=g.AH _ _ _ _ _ a o;have K:=g0 (g.jz _ _ _ s);rcases m with⟨rfl,m⟩|⟨m,I⟩
          ·obtain⟨A,B⟩:=N j m w _ s K
           exact⟨A,λy f=>by rw[K]at f;cases f;exact B⟩
          ·obtain⟨W,O,hs⟩:=Pt.short E (I l E) m
           obtain⟨A,B⟩:=V c W O (by omega) j w _ s K;exact⟨A,λy f=>by rw[K]at f;cases f;exact B⟩
        have F:jG x.op=true->keyOf as x=keyOf bs x:=λp=>pJ λw P=>(fr w (BH g a hx p P)).1;refine⟨?_,F⟩
        cases p:jG x.op with
        |false=>rw[d.stay v x hx p,e.stay v x hx p]
        | true =>
          have F:=F p;rcases d.num v x hx p with⟨s,o⟩|⟨w,y,s,o,m,I,Q,T⟩
          ·rcases e.num v x hx p with⟨J,_⟩|⟨w,y,J,G,H,C,i,D⟩
           ·rw[s,J]
           ·obtain⟨A,B⟩:=fr w i
            exact absurd (by rw[B y G H,D,F]) (o w y G H (by rw[A];exact C) i)
          ·obtain ⟨A,B⟩:=fr w Q
           rcases e.num v x hx p with⟨J,R⟩|⟨z,t,J,G,H,C,i,D⟩
           ·exact absurd (by rw[<-B y o m,T,F]) (R w y o m (by rw[<-A];exact I) Q)
           ·obtain ⟨X,Y⟩:=fr z i
            have U:keyOf as y=keyOf as t:=by rw[T,Y t G H,D,F]
            have L:as z=(z:Int):=by rw[X];exact C
            have one:∀{w z:Nat} {y t:Vl},u.ef[w]? =some y->u.ef[z]? =some t->jG y.op=true->jG t.op=true->as w=(w:Int)->as z=(z:Int)->keyOf as y=keyOf as t->¬xF u w z:=λ{w z y t} P L p1 Z s1 s2 hk hf=>by
              rcases d.num z t L Z with⟨_,h⟩|⟨r,y',r1,_,_,_,r5,_⟩
              ·exact h w y P p1 s1 hf hk
              ·have:r=z:=by omega
               subst this;obtain⟨c,j,b',k',a1,a2,a3⟩:=r5;obtain⟨rfl,rfl⟩:=g.AH _ _ _ _ _ a1 a2;rcases a3 with⟨_,a3⟩|⟨a3,_⟩
               ·omega
               ·exact a3 rfl
            rcases Pj g Q i with rfl|h|h
            ·rw[s,J]
            ·exact(one o G m H I L U h).elim
            ·exact(one G o H m L I U.symm h).elim
  intro v hv;obtain⟨b,k,a⟩:=g.xM v hv trivial;have hb:b<u.blocks.length:=let⟨_,q,_⟩:=a;(jk.1 q).1
  obtain⟨l,E⟩:=g.reach b hb;exact(M l.length b l E (jb _) k v _ a (g0 hv)).1
omit g in
theorem UK {as bs:Nat->Int} (d:IM u as) (e:IM u bs):∀v,v<u.ef.length->as v=bs v:=λv hv=>by
 rcases d v hv with⟨h1,h2⟩|⟨h1,h2⟩ <;> rcases e v hv with⟨h3,h4⟩|⟨h3,h4⟩
 ·rw[h1,h3]
 ·exact absurd h2 h4
 ·exact absurd h4 h2
 ·rw[h1,h3]
end
