/- Parts. -/
import Derived.Test.YtpnddokajmjpbaaDoorM30
namespace Go.Proofs.YtpnddokajmjpbaaDoor.Hx
open Go.Proofs.YtpnddokajmjpbaaDoor.Un Go.Proofs.YtpnddokajmjpbaaDoor.Dm
def noVl:Vl:=⟨0,0,0,0,[],0⟩
def wV (xs:List (Vl×V))(n:Nat):V:=match xs[n]? with
 |some x=>x.2
 |none=> .undef
def yOf (u:U)(A:Nat->Int)(xs:List (Vl×V))(n:Nat):Vl×V:=(trVal u A (u.vals.getD n noVl),wV xs n)
section
variable{F F':Nat->Prop}{h h':Hp}{cs ds:List Pc}{Q:QP1}{u:U}{wv wb ws asv num:V}{lt Tt l1 T1 l2 l3 l4 T4 lm lb Tb lr Tr:Nat}{az:List Int}{ns:List Nat}{xs:List (Vl×V)}{bs:List (Bk×V)}{fa fn:Nat->Option (List Nat×V)}{ss:List (List (Fm×V×V))}{fl:KF->Option (List Nat×V)}
theorem Dj (g:Numable u az)(a:∀v,v<u.vals.length->ns[v]? =some (if v∈stayL u (asF az) then(stayL u (asF az)).idxOf v else 0)){v:Nat}(d:v<u.vals.length):nmL ns az v=nm u (asF az) v:=by
 have b:=Eg («as»:=asF az) (n:=u.vals.length) (λw e=>by
  have c:=wAA (show w<az.length by rw[g.len];exact e);have f:=g.sub w _ c;rw[CR c];have:=g.len;omega) (u.vals.length+1) v d
 unfold nmL nm;rw[g.len,wAL,a _ b];rfl
structure NV (u:U) (az:List Int) (ns:List Nat) (xs:List (Vl×V)) (ss:List (List (Fm×V×V))) (i:Nat) (fa:Nat->Option (List Nat×V)) (S:Int->Option V) (fl:KF->Option (List Nat×V)) (a:List (List (Fm×V×V))):Prop where
 row:∀v x w,xs[v]? =some (x,w)->fa v=some (if v∈(stayL u (asF az)).take i then(trVal u (asF az) x).args else x.args,w)
 st:StS ss (nmL ns az) (firsts (refsV u ((stayL u (asF az)).take i))) S fl a
theorem Kw (g:Numable u az)(hc:CpV u.vals xs fa)(ab:CpS u.states ss fl){p:V}(aK:ns.length=u.vals.length)(aC:∀v,v<u.vals.length->ns[v]? =some (if v∈stayL u (asF az) then(stayL u (asF az)).idxOf v else 0))
  (H0:Hold F h (Nx l1 T1 l4 T4 lt Tt num ns [.int .i64 u.func,.int .i64 u.pc,wv,wb,ws] asv az (Sx fl ss ws lm (λ_=>none) lb Tb lr Tr l4 l1 l3 tyUnit (.int .i64 u.func) (.int .i64 u.pc) .nilSlice .nilSlice .nilSlice []
    (rowP eVx tyVal xs wv::rowP eKx tyBlock bs wb::rowsP tyInt fa::rowsP tyInt fn::rowP eVx tyVal [] .nilSlice::rowP eKx tyBlock [] .nilSlice::cellP l2 tyUnit [.int .i64 0,.int .i64 0,.nilSlice,.nilSlice,.nilSlice]::rowP eN tyInt (stayL u (asF az)) p::cs))))
  (H:∀h' f S t z wvo wso,Sn F h F h'->NV u az ns xs ss (stayL u (asF az)).length f S t z->
   Hold F h' (Nx l1 T1 l4 T4 lt Tt num ns [.int .i64 u.func,.int .i64 u.pc,wv,wb,ws] asv az (Sx t ss ws lm S lb Tb lr Tr l4 l1 l3 tyUnit (.int .i64 u.func) (.int .i64 u.pc) wvo .nilSlice wso z
    (rowP eVx tyVal xs wv::rowP eKx tyBlock bs wb::rowsP tyInt f::rowsP tyInt fn::rowP eVx tyVal ((stayL u (asF az)).map (yOf u (asF az) xs)) wvo::rowP eKx tyBlock [] .nilSlice::cellP l2 tyUnit [.int .i64 0,.int .i64 0,.nilSlice,.nilSlice,.nilSlice]::rowP eN tyInt (stayL u (asF az)) p::cs)))->
   hJ CS Q [.ptr l1 0,.ptr l2 0,.ptr l3 0,.ptr l4 0,.func ex [] [.ptr lb 0,.ptr l3 0,.ptr l1 0,.ptr lr 0],wb,.int .i64 bs.length,.int .i64 0] h') :
  hH CS Q [.ptr l1 0,.ptr l2 0,.ptr l3 0,.ptr l4 0,.ptr lr 0,.func ex [] [.ptr lb 0,.ptr l3 0,.ptr l1 0,.ptr lr 0],p,.int .i64 ((stayL u (asF az)).length:Nat),.int .i64 0] h:=by
 have nv:=g.nv;have gl:=g.len;have aL:xs.length=u.vals.length:=by rw[<-hc.fst,wAb]
 have lss:ss.length=u.states.length:=by rw[<-ab.fst,wAb]
 have pn:∀{l o:Nat},pNil (.ptr l o)=some (.ptr l o):=fc _ _;have pf:∀{l o k:Nat},pFA k (.ptr l o)=some (.ptr l (o+k)):=ed _ _ _;obtain⟨A,hA⟩:∃A,asF az=A:=⟨_,rfl⟩
 have ac:∀v,v<u.vals.length->nmL ns az v=nm u A v:=λv J=>by rw[<-hA];exact Dj g aC J
 have aj:=rN («as»:=A) g.once;have aM:(stayL u A).length<=u.vals.length:=iy _ _ aj λv J=>xy g.atlt J
 obtain ⟨I,hI⟩:∃I:Nat->LP,I=λk l h'=>∃(i:Nat) (f:Nat->Option (List Nat×V)) (S:Int->Option V) (t:KF->Option (List Nat×V)) (z:List (List (Fm×V×V))) (wvo wso:V),l=[.ptr l1 0,.ptr l2 0,.ptr l3 0,.ptr l4 0,.ptr lr 0,.func ex [] [.ptr lb 0,.ptr l3 0,.ptr l1 0,.ptr lr 0],p,.int .i64 ((stayL u A).length:Nat),.int .i64 i]/\i+k=(stayL u A).length/\Sn F h F h'/\NV u az ns xs ss i f S t z/\
   Hold F h' (Nx l1 T1 l4 T4 lt Tt num ns [.int .i64 u.func,.int .i64 u.pc,wv,wb,ws] asv az (Sx t ss ws lm S lb Tb lr Tr l4 l1 l3 tyUnit (.int .i64 u.func) (.int .i64 u.pc) wvo .nilSlice wso z
    (rowP eVx tyVal xs wv::rowP eKx tyBlock bs wb::rowsP tyInt f::rowsP tyInt fn::rowP eVx tyVal (((stayL u A).take i).map (yOf u A xs)) wvo::rowP eKx tyBlock [] .nilSlice::cellP l2 tyUnit [.int .i64 0,.int .i64 0,.nilSlice,.nilSlice,.nilSlice]::rowP eN tyInt (stayL u A) p::cs))):=⟨_,rfl⟩
 rw[hA]at H0 H⊢;refine uj I (λk x1 x2 x3 x4 aN aO aP aQ aR h1 hi=>?_) (k:=(stayL u A).length) ?_
 ·rw [hI]at hi;obtain⟨i,f,S,t,z,wvo,wso,⟨⟩,hk,s1,hN,O⟩:=hi;unfold mM;by_cases hi:i<(stayL u A).length
  ·refine ltYes ?_;have hx:=wAA hi;have ae:=rQ hx;have aS:=xy g.atlt (wAR hi);have aD:(stayL u A)[i] ∉ (stayL u A).take i:=λhm=>by
    obtain⟨j,hj⟩:=wAD.1 hm;have aE:=(wAB.1 hj).1;rw[wAc]at aE;rw[wBA (by omega)]at hj;have:=qm aj hj hx;omega
   generalize (stayL u A)[i]=n at*;obtain⟨⟨x,w⟩,K⟩:∃y,xs[n]? =some y:=⟨_,wAA (by omega)⟩
   have ag:u.vals[n]? =some x:=by rw[<-hc.fst,wAQ,K];rfl
   have aF:yOf u A xs n=(trVal u A x,w):=by unfold yOf wV;rw[K,wAL,ag];rfl
   obtain ⟨p1,p2,p3,p4,p5⟩:=g.parts n x ag;obtain⟨la,oa,y1,y2⟩:=O.natR 19 rfl hx .i64;obtain⟨lv,ov,wl,z1,z2,⟨rfl,w1⟩,_⟩:=O.ixF 12 rfl K .i64;have z1:pIx 6 wv (.int .i64 n)=some (.ptr lv ov):=z1;refine d9 y1 (d9 y2 (d9 (O.ld 0 rfl rfl) (d9 pn (d9 pf (oF (O.ld 2 rfl rfl) (d9 z1 (d9 z2 ?_)))))));refine fU O rfl rfl (by simp only[vlC,ee];simp only[show w.one=true from w1];rfl) λZ P s2=>?_;generalize h1.next=lx at*;have P:Hold F Z (Nx l1 T1 l4 T4 lt Tt num ns [.int .i64 u.func,.int .i64 u.pc,wv,wb,ws] asv az (Sx t ss ws lm S lb Tb lr Tr l4 l1 l3 tyUnit (.int .i64 u.func) (.int .i64 u.pc) wvo .nilSlice wso z (cellP lx 42 (vlC x w)::_))):=P.toTail 12 (by simp);have al:∀d:Nat->Option (List Nat×V),(∀v,v≠n->d v=f v)->d n=some ((trVal u A x).args,w)->∀v y b,xs[v]? =some (y,b)->d v=some (if v∈(stayL u A).take (i+1) then(trVal u A y).args else y.args,b):=λd h1 Z v y b J=>by
    rw[ae];by_cases e:v=n
    ·subst e;rw[K]at J;cases J;rw[Z,if_pos (by simp)]
    ·rw[h1 v e];have:=hN.row v y b J;rw[hA]at this;rw[this];simp[e]
   have am:f n=some (x.args,w):=by
    have:=hN.row n x w K;rw[hA,if_neg aD]at this;exact this
   have ah:=hN.st;rw[hA]at ah
   have an:∀m d S2 T D L,Sn F h F m->(∀v,v≠n->d v=f v)->d n=some ((trVal u A x).args,w)->StS ss (nmL ns az) (firsts (refsV u ((stayL u A).take (i+1)))) S2 T D->
     Hold F m (Nx l1 T1 l4 T4 lt Tt num ns [.int .i64 u.func,.int .i64 u.pc,wv,wb,ws] asv az (Sx T ss ws lm S2 lb Tb lr Tr l4 l1 l3 tyUnit (.int .i64 u.func) (.int .i64 u.pc) wvo .nilSlice L D
      (cellP lx 42 (vlC (trVal u A x) w)::rowP eVx tyVal xs wv::rowP eKx tyBlock bs wb::rowsP tyInt d::rowsP tyInt fn::rowP eVx tyVal (((stayL u A).take i).map (yOf u A xs)) wvo::rowP eKx tyBlock [] .nilSlice::cellP l2 tyUnit [.int .i64 0,.int .i64 0,.nilSlice,.nilSlice,.nilSlice]::rowP eN tyInt (stayL u A) p::cs)))->
     gM CS Q (ltI I k) [.ptr l1 0,.ptr l2 0,.ptr l3 0,.ptr l4 0,.ptr lr 0,.func ex [] [.ptr lb 0,.ptr l3 0,.ptr l1 0,.ptr lr 0],.ptr lx 0,p,.int .i64 ((stayL u A).length:Nat),.int .i64 i] m:=by
    intro m d S2 T D L R U W hS B;refine tx ?_;unfold lO;refine oF (B.ld 10 rfl rfl) (d9 (B.ldA 12 rfl rfl) ?_);rw[lD (sz:=6) (w:=vlC (trVal u A x) w) rfl rfl (by simp only[vlC,ee];simp only[show w.one=true from w1];rfl),ev];obtain⟨E,G,e4,_,C,X⟩:=B.app1 17 rfl (by_:=64) (ety:=42) (y:=(trVal u A x,w)) (w:=vlC (trVal u A x) w) (ro:=false) ⟨rfl,w1⟩ (by decide) (by decide) (by simp;omega);have M:happend 42 6 64 wvo (.slice m.next 0 1) (m.new (.cells 42 6 true false (vlC (trVal u A x) w)))=some (.val E G):=e4;rw[M,ec];simp only[wAC,wAE]at C;obtain⟨h5,e5,_,H5,s5⟩:=C.st 10 (o:=2) (u:=E) rfl (by simp) (C.one 17 rfl);refine d9 pf ?_;have ai:pSt 1 (.ptr l3 (0+2)) E G=some (.val .undef h5):=by rw[wAY];exact e5
    rw[ai,ec];simp only[wAC,wAE]at H5;refine addOne ⟨k-1,by omega,?_⟩;rw[hI];refine⟨i+1,d,S2,T,D,E,L,rfl,by omega,(R.trans X).trans s5,⟨λv y b J=>by rw[hA];exact al d U W v y b J,by rw[hA];exact hS⟩,?_⟩;have H6:=H5.fromTail 12 (by simp);rw[ae,wAx,wBO,wBa,aF];exact H6
   have Y:refsV u ((stayL u A).take (i+1))=refsV u ((stayL u A).take i)++(if leaves x.op=true then[x.state] else[]):=by
    rw[ae];unfold refsV;rw[List.filterMap_append,List.filterMap_cons];simp only[ag];by_cases e:leaves x.op=true
    ·rw[if_pos e,if_pos e];rfl
    ·rw[if_neg e,if_neg e];rfl
   have ao:firsts (refsV u ((stayL u A).take (i+1))) <+: stL u A:=by
    have:stRefs u A=refsV u ((stayL u A).take (i+1))++(refsV u ((stayL u A).drop (i+1))++refsB u.blocks):=by
     rw[CG,<-wAU];congr 1
     conv=>lhs;rw[<-wA8 (i+1) (stayL u A)]
     exact List.filterMap_append
    unfold stL;rw[this];exact yv _ _
   have ap:∀m d,Sn F h F m->(∀v,v≠n->d v=f v)->d n=some ((trVal u A x).args,w)->
     Hold F m (Nx l1 T1 l4 T4 lt Tt num ns [.int .i64 u.func,.int .i64 u.pc,wv,wb,ws] asv az (Sx t ss ws lm S lb Tb lr Tr l4 l1 l3 tyUnit (.int .i64 u.func) (.int .i64 u.pc) wvo .nilSlice wso z
      (cellP lx 42 (vlC {x with a:=(trVal u A x).a,b:=(trVal u A x).b} w)::rowP eVx tyVal xs wv::rowP eKx tyBlock bs wb::rowsP tyInt d::rowsP tyInt fn::rowP eVx tyVal (((stayL u A).take i).map (yOf u A xs)) wvo::rowP eKx tyBlock [] .nilSlice::cellP l2 tyUnit [.int .i64 0,.int .i64 0,.nilSlice,.nilSlice,.nilSlice]::rowP eN tyInt (stayL u A) p::cs)))->
     gL CS Q (ltI I k) [.ptr l1 0,.ptr l2 0,.ptr l3 0,.ptr l4 0,.ptr lr 0,.func ex [] [.ptr lb 0,.ptr l3 0,.ptr l1 0,.ptr lr 0],.ptr lx 0,p,.int .i64 ((stayL u A).length:Nat),.int .i64 i] m:=by
    intro m d R U W B;refine tm ?_;unfold ma;refine oF (B.ld 12 rfl rfl) (zX (st_b ?_));by_cases hlv:leaves x.op=true
    ·refine if_t hlv (oF (B.ld 12 rfl rfl) ?_);show cP CS ex [.int .i64 x.state,.ptr lb 0,.ptr l3 0,.ptr l1 0,.ptr lr 0] m _;obtain⟨sl,aa⟩:∃sl,ss[x.state]? =some sl:=⟨_,wAA (by have:=p5 hlv;omega)⟩
     have aG:u.states[x.state]? =some (sl.map Prod.fst):=by rw[<-ab.fst,wAQ,aa];rfl
     obtain⟨q1,q2⟩:=g.st _ _ aG;rw[wAb]at q1;refine Cu B ah (by omega) (by omega) g.sub aa (by have:=g.ns;omega) q1 (λy hy=>?_) λG aH S4 aq ar X au C=>?_
     ·obtain⟨r1,r2,r3,r4⟩:=q2 y.1 (wCF hy);rw[gl];exact⟨r1,r2,r3,r4⟩
     rw[if_pos hlv]at Y;have aI:addS (firsts (refsV u ((stayL u A).take i))) x.state=firsts (refsV u ((stayL u A).take (i+1))):=by rw[Y,qX];rfl
     rw [aI]at au⊢;have aw:x.state∈firsts (refsV u ((stayL u A).take (i+1))):=(ll _ _).2 (by rw[Y];simp);have aJ:(firsts (refsV u ((stayL u A).take (i+1)))).idxOf x.state=(trVal u A x).state:=by
      rw[<-BS ao aw];show _=if leaves x.op=true then(stL u A).idxOf x.state else x.state
      rw[if_pos hlv]
     rw[aJ];obtain⟨h5,e5,_,H5,s5⟩:=C.st 12 (o:=5) (u:= .int .i64 ((trVal u A x).state:Nat)) rfl (by simp[vlC]) rfl;refine d9 pf ?_;have ai:pSt 1 (.ptr lx (0+5)) (.int .i64 ((trVal u A x).state:Nat)) G=some (.val .undef h5):=by rw[wAY];exact e5
     rw[ai,ec];simp only[wAC,wAE]at H5;exact an h5 d S4 aH aq ar ((R.trans X).trans s5) U W au H5
    ·refine if_f hlv (an m d S t z wso R U W ?_ ?_)
     ·rw[Y,if_neg hlv,wAa];exact ah
     ·have hs:(trVal u A x).state=x.state:=if_neg hlv;have:vlC (trVal u A x) w=vlC {x with a:=(trVal u A x).a,b:=(trVal u A x).b} w:=by
       unfold vlC;rw[hs];rfl
      rw[this];exact B
   have ax:∀m,Sn F h F m->Hold F m (Nx l1 T1 l4 T4 lt Tt num ns [.int .i64 u.func,.int .i64 u.pc,wv,wb,ws] asv az (Sx t ss ws lm S lb Tb lr Tr l4 l1 l3 tyUnit (.int .i64 u.func) (.int .i64 u.pc) wvo .nilSlice wso z
      (cellP lx 42 (vlC {x with a:=(trVal u A x).a,b:=(trVal u A x).b} w)::rowP eVx tyVal xs wv::rowP eKx tyBlock bs wb::rowsP tyInt f::rowsP tyInt fn::rowP eVx tyVal (((stayL u A).take i).map (yOf u A xs)) wvo::rowP eKx tyBlock [] .nilSlice::cellP l2 tyUnit [.int .i64 0,.int .i64 0,.nilSlice,.nilSlice,.nilSlice]::rowP eN tyInt (stayL u A) p::cs)))->
     gK CS Q (ltI I k) [.ptr l1 0,.ptr l2 0,.ptr l3 0,.ptr l4 0,.ptr lr 0,.func ex [] [.ptr lb 0,.ptr l3 0,.ptr l1 0,.ptr lr 0],.ptr lx 0,p,.int .i64 ((stayL u A).length:Nat),.int .i64 i] m:=by
    intro m R B;refine tD ?_;unfold lI;refine oF (B.ld 12 rfl rfl) (fu ?_);have e0:pLd (.ptr lx (0+0)) m=some (.int .i64 x.op):=B.ld 12 rfl rfl;have eq:pOr (V.bool (decide ((x.op:Int)=21))) (oB (pFA 0 (.ptr lx 0)) λay=>oB (pLd ay m) λaA=>hbin .eql 3 aA (V.int .i64 20))=some (.bool (decide (x.op=21\/x.op=20))):=by
     rw[pf,en,e0,en,fF,sU];congr 2;by_cases c1:x.op=21
     ·rw[wBF (show(x.op:Int)=21 by omega),wBF (Or.inl c1)];rfl
     ·rw[wBL (show ¬(x.op:Int)=21 by omega),Bool.false_or];by_cases c2:x.op=20
      ·rw[wBF (Or.inr c2)];exact wAt.2 (by omega)
      ·rw[wBL (λh=>h.elim c1 c2)];exact wAz.2 (by omega)
    refine d9 eq (st_b ?_);have N:(trVal u A x).args=if x.op=21\/x.op=20 then x.args.map (nm u A) else x.args:=rfl
    by_cases c:x.op=21\/x.op=20
    ·refine if_t (wBF c) (d9 (B.ld 9 rfl rfl) (oF (B.ld 12 rfl rfl) ?_));show cP CS fH [w,.ptr l4 0,.ptr l1 0] m _;refine zL 10 B rfl am rfl (by omega) (by omega) g.sub (λy hy=>by rw[gl];exact p4 c y hy) (by omega) λG X C=>?_;simp only[wAC,wAE]at C;have hm:x.args.map (nmL ns az)=(trVal u A x).args:=by
      rw[N,if_pos c];exact wBS λy hy=>ac y (p4 c y hy)
     rw[hm]at C;exact ap G _ (R.trans X) (λv J=>fP _ _ J) (fS _ _ _) C
    ·refine if_f (by rw[wAe];exact c) (ap m f R (λ_ _=>rfl) ?_ B);rw[N,if_neg c];exact am
   have aB:∀m,Sn F h F m->Hold F m (Nx l1 T1 l4 T4 lt Tt num ns [.int .i64 u.func,.int .i64 u.pc,wv,wb,ws] asv az (Sx t ss ws lm S lb Tb lr Tr l4 l1 l3 tyUnit (.int .i64 u.func) (.int .i64 u.pc) wvo .nilSlice wso z
      (cellP lx 42 (vlC {x with a:=(trVal u A x).a} w)::rowP eVx tyVal xs wv::rowP eKx tyBlock bs wb::rowsP tyInt f::rowsP tyInt fn::rowP eVx tyVal (((stayL u A).take i).map (yOf u A xs)) wvo::rowP eKx tyBlock [] .nilSlice::cellP l2 tyUnit [.int .i64 0,.int .i64 0,.nilSlice,.nilSlice,.nilSlice]::rowP eN tyInt (stayL u A) p::cs)))->
     gP CS Q (ltI I k) [.ptr l1 0,.ptr l2 0,.ptr l3 0,.ptr l4 0,.ptr lr 0,.func ex [] [.ptr lb 0,.ptr l3 0,.ptr l1 0,.ptr lr 0],.ptr lx 0,p,.int .i64 ((stayL u A).length:Nat),.int .i64 i] m:=by
    intro m R B;refine th ?_;unfold lP;refine oF (B.ld 12 rfl rfl) (Bl (tS ?_));have hb:(trVal u A x).b=if two x.op=true then nm u A x.b else x.b:=rfl
    by_cases c:two x.op=true
    ·refine if_t (by show(1:Int)<(partsN x.op:Nat);unfold partsN;rw[if_pos c];decide) ?_;refine d9 (B.ld 1 rfl rfl) (d9 (B.ld 0 rfl rfl) (oF (B.ld 12 rfl rfl) ?_));refine zb B rfl (by omega) (by omega) g.sub (by rw[gl];exact p3 c) λr q e1 e2=>⟨wAF _,d9 e1 (d9 e2 (d9 pf ⟨B.ld 1 rfl rfl,?_⟩))⟩
     obtain⟨G,e4,n4,C,X⟩:=B.st 12 (o:=2) (u:= .int .i64 (nmL ns az x.b:Nat)) rfl (by simp[vlC]) rfl;have M:pSt 1 (.ptr lx (0+2)) (.int .i64 (nmL ns az x.b:Nat)) m=some (.val .undef G):=by rw[wAY];exact e4
     rw[M,ec];simp only[wAC,wAE]at C;have hq:nmL ns az x.b=(trVal u A x).b:=by rw[hb,if_pos c];exact ac _ (p3 c)
     rw[hq]at C;exact⟨n4,ax G (R.trans X) C⟩
    ·refine if_f (by show ¬(1:Int)<(partsN x.op:Nat);unfold partsN;rw[if_neg c];split <;> decide) (ax m R ?_);have:({x with a:=(trVal u A x).a,b:=(trVal u A x).b}:Vl) = {x with a:=(trVal u A x).a}:=by rw[hb,if_neg c]
     rw[this];exact B
   refine oF (P.ld 12 rfl rfl) (Bl (tS ?_));have ha:(trVal u A x).a=if 0<partsN x.op then nm u A x.a else x.a:=rfl
   by_cases c:0<partsN x.op
   ·have c':oneP x.op=true\/two x.op=true:=by
     unfold partsN at c;by_cases h1:two x.op=true
     ·exact .inr h1
     ·rw[if_neg h1]at c;by_cases Z:oneP x.op=true
      ·exact .inl Z
      ·rw[if_neg Z]at c;omega
    refine if_t (by omega) ?_;refine d9 (P.ld 1 rfl rfl) (d9 (P.ld 0 rfl rfl) (oF (P.ld 12 rfl rfl) ?_));refine zb P rfl (by omega) (by omega) g.sub (by rw[gl];exact p2 c') λr q e1 e2=>⟨wAF _,d9 e1 (d9 e2 (d9 pf ⟨P.ld 1 rfl rfl,?_⟩))⟩
    obtain⟨G,e4,n4,C,X⟩:=P.st 12 (o:=1) (u:= .int .i64 (nmL ns az x.a:Nat)) rfl (by simp[vlC]) rfl;have M:pSt 1 (.ptr lx (0+1)) (.int .i64 (nmL ns az x.a:Nat)) Z=some (.val .undef G):=by rw[wAY];exact e4
    rw[M,ec];simp only[wAC,wAE]at C;have hq:nmL ns az x.a=(trVal u A x).a:=by rw[ha,if_pos c];exact ac _ (p2 c')
    rw[hq]at C;exact⟨n4,aB G ((s1.trans s2).trans X) C⟩
   ·refine if_f (by omega) (aB Z (s1.trans s2) ?_);have:({x with a:=(trVal u A x).a}:Vl)=x:=by rw[ha,if_neg c]
    rw[this];exact P
  ·refine ltNo ?_;obtain rfl:i=(stayL u A).length:=by omega
   rw[wAg]at O;refine d9 (O.ld 0 rfl rfl) (d9 pn (d9 pf (oF (O.ld 2 rfl rfl) (d9 (O.len 13 rfl) ?_))));exact H h1 f S t z wvo wso s1 hN O
 ·rw[hI];refine⟨0,fa,λ_=>none,fl,[],.nilSlice,.nilSlice,rfl,by omega,Sn.refl _ _,⟨λv x w hx=>?_,λs=>rfl,rfl,λs l k x a w hs hl=>?_,List.nodup_nil,λ_ h=>by cases h⟩,H0⟩
  ·rw[hc.row v x w hx];rfl
  ·exact ab.loc s l k x a w hs hl
end
open Go.Proofs.YtpnddokajmjpbaaDoor.Un Go.Proofs.YtpnddokajmjpbaaDoor.Dm
section
variable{F F':Nat->Prop}{h h':Hp}{cs ds:List Pc}{Q:QP1}{u:U}{wv wb ws asv num wvo:V}{lt Tt l1 T1 l2 l3 l4 T4 lm lb Tb lr Tr:Nat}{az:List Int}{ns:List Nat}{xs ys:List (Vl×V)}{bs0 bs:List (Bk×V)}{fa fn:Nat->Option (List Nat×V)}{ss:List (List (Fm×V×V))}{fl:KF->Option (List Nat×V)}
def kOf (u:U)(A:Nat->Int)(bs:List (Bk×V))(b:Nat):Bk×V:=(trBlk u A (u.blocks.getD b noBk),wOf bs b)
theorem KB (g:Numable u az)(hb:CpB u.blocks bs0 fn)(U:ss.map (λl=>l.map Prod.fst)=u.states)(W:NbB u az u.blocks.length bs0 bs){S:Int->Option V}{a:List (List (Fm×V×V))}{wso:V}(aA:ns.length=u.vals.length)(ai:∀v,v<u.vals.length->ns[v]? =some (if v∈stayL u (asF az) then(stayL u (asF az)).idxOf v else 0))
  (X:StS ss (nmL ns az) (firsts (refsV u (stayL u (asF az)))) S fl a)
  (H0:Hold F h (Nx l1 T1 l4 T4 lt Tt num ns [.int .i64 u.func,.int .i64 u.pc,wv,wb,ws] asv az (Sx fl ss ws lm S lb Tb lr Tr l4 l1 l3 tyUnit (.int .i64 u.func) (.int .i64 u.pc) wvo .nilSlice wso a
    (rowP eVx tyVal xs wv::rowP eKx tyBlock bs wb::rowsP tyInt fa::rowsP tyInt fn::rowP eVx tyVal ys wvo::rowP eKx tyBlock [] .nilSlice::cellP l2 tyUnit [.int .i64 0,.int .i64 0,.nilSlice,.nilSlice,.nilSlice]::ds))))
  (H:∀h' S c a b wso,Sn F h F h'->StS ss (nmL ns az) (stL u (asF az)) S c a->
   Hold F h' (Nx l1 T1 l4 T4 lt Tt num ns [.int .i64 u.func,.int .i64 u.pc,wv,wb,ws] asv az (Sx c ss ws lm S lb Tb lr Tr l4 l1 l3 tyUnit (.int .i64 u.func) (.int .i64 u.pc) wvo b wso a
    (rowP eVx tyVal xs wv::rowP eKx tyBlock bs wb::rowsP tyInt fa::rowsP tyInt fn::rowP eVx tyVal ys wvo::rowP eKx tyBlock ((List.range u.blocks.length).map (kOf u (asF az) bs0)) b::cellP l2 tyUnit [.int .i64 u.func,.int .i64 u.pc,wvo,b,wso]::ds)))->
   Q (.agg [.int .i64 u.func,.int .i64 u.pc,wvo,b,wso]) h') :
  hJ CS Q [.ptr l1 0,.ptr l2 0,.ptr l3 0,.ptr l4 0,.func ex [] [.ptr lb 0,.ptr l3 0,.ptr l1 0,.ptr lr 0],wb,.int .i64 bs.length,.int .i64 0] h:=by
 have nv:=g.nv;have nb:=g.nb;have gl:=g.len;have Y:bs0.length=u.blocks.length:=by rw[<-hb.fst,wAb]
 have Z:bs.length=u.blocks.length:=by rw[W.len,Y]
 have lss:ss.length=u.states.length:=by rw[<-U,wAb]
 have pn:∀{l o:Nat},pNil (.ptr l o)=some (.ptr l o):=fc _ _;have pf:∀{l o k:Nat},pFA k (.ptr l o)=some (.ptr l (o+k)):=ed _ _ _;obtain⟨A,hA⟩:∃A,asF az=A:=⟨_,rfl⟩
 have aj:∀v,v<u.vals.length->nmL ns az v=nm u A v:=λv hv=>by rw[<-hA];exact Dj g ai hv
 rw[hA]at H X;have E:=W.row;rw[hA]at E
 obtain ⟨I,hI⟩:∃I:Nat->LP,I=λk l h'=>∃(i:Nat) (S:Int->Option V) (c:KF->Option (List Nat×V)) (a:List (List (Fm×V×V))) (b wso:V),l=[.ptr l1 0,.ptr l2 0,.ptr l3 0,.ptr l4 0,.func ex [] [.ptr lb 0,.ptr l3 0,.ptr l1 0,.ptr lr 0],wb,.int .i64 bs.length,.int .i64 i]/\i+k=bs.length/\Sn F h F h'/\StS ss (nmL ns az) (firsts (refsV u (stayL u A)++refsB (u.blocks.take i))) S c a/\
   Hold F h' (Nx l1 T1 l4 T4 lt Tt num ns [.int .i64 u.func,.int .i64 u.pc,wv,wb,ws] asv az (Sx c ss ws lm S lb Tb lr Tr l4 l1 l3 tyUnit (.int .i64 u.func) (.int .i64 u.pc) wvo b wso a
    (rowP eVx tyVal xs wv::rowP eKx tyBlock bs wb::rowsP tyInt fa::rowsP tyInt fn::rowP eVx tyVal ys wvo::rowP eKx tyBlock ((List.range i).map (kOf u A bs0)) b::cellP l2 tyUnit [.int .i64 0,.int .i64 0,.nilSlice,.nilSlice,.nilSlice]::ds))):=⟨_,rfl⟩
 refine ua I (λk x1 x2 x3 x4 aB aw ax ay h1 hi=>?_) (k:=bs.length) ?_
 ·rw [hI]at hi;obtain⟨i,S,c,a,b,wso,⟨⟩,hk,s1,hN,J⟩:=hi;unfold mU;by_cases hi:i<bs.length
  ·refine ltYes ?_;obtain⟨⟨B,w⟩,K⟩:∃y,bs0[i]? =some y:=⟨_,wAA (by omega)⟩
   have hB:u.blocks[i]? =some B:=by rw[<-hb.fst,wAQ,K];rfl
   have aa:=E i B w K;rw[if_pos (by omega)]at aa;have al:kOf u A bs0 i=(trBlk u A B,w):=by unfold kOf wOf;rw[K,wAL,hB];rfl
   have am:=rQ hB;obtain⟨e1,e2⟩:=g.ends i B hB;obtain⟨lv,ov,wl,z1,z2,⟨t,x,rfl,iv,ip,w1⟩,_⟩:=J.ixF 13 rfl aa .i64;have z1:pIx 6 wb (.int .i64 i)=some (.ptr lv ov):=z1;refine d9 z1 (d9 z2 ?_);refine fU J rfl rfl (by simp only[bkC,ee,iv.one,ip.one];simp only[show w.one=true from w1];rfl) λL f s2=>?_;generalize h1.next=lx at*;have iv:=iv.since s2;have ip:=ip.since s2;have f:Hold F L (Nx l1 T1 l4 T4 lt Tt num ns [.int .i64 u.func,.int .i64 u.pc,wv,wb,ws] asv az (Sx c ss ws lm S lb Tb lr Tr l4 l1 l3 tyUnit (.int .i64 u.func) (.int .i64 u.pc) wvo b wso a (cellP lx 44 (bkC {B with vals:=(B.vals.filter (stays A)).map (stayL u A).idxOf} t w x)::_))):=f.toTail 12 (by simp)
   have M:∀R S2 C m z,Sn F L F R->StS ss (nmL ns az) (firsts (refsV u (stayL u A)++refsB (u.blocks.take (i+1)))) S2 C m->
     Hold F R (Nx l1 T1 l4 T4 lt Tt num ns [.int .i64 u.func,.int .i64 u.pc,wv,wb,ws] asv az (Sx C ss ws lm S2 lb Tb lr Tr l4 l1 l3 tyUnit (.int .i64 u.func) (.int .i64 u.pc) wvo b z m
      (cellP lx 44 (bkC (trBlk u A B) t w x)::rowP eVx tyVal xs wv::rowP eKx tyBlock bs wb::rowsP tyInt fa::rowsP tyInt fn::rowP eVx tyVal ys wvo::rowP eKx tyBlock ((List.range i).map (kOf u A bs0)) b::cellP l2 tyUnit [.int .i64 0,.int .i64 0,.nilSlice,.nilSlice,.nilSlice]::ds)))->
     f5 CS Q (ltI I k) [.ptr l1 0,.ptr l2 0,.ptr l3 0,.ptr l4 0,.func ex [] [.ptr lb 0,.ptr l3 0,.ptr l1 0,.ptr lr 0],.ptr lx 0,wb,.int .i64 bs.length,.int .i64 i] R:=by
    intro R S2 C m z s3 hS H3;have an:=iv.since s3;have ao:=ip.since s3;refine tA ?_;unfold mI;refine oF (H3.ld 10 rfl rfl) (d9 (H3.ldA 12 rfl rfl) ?_);rw[lD (sz:=6) (w:=bkC (trBlk u A B) t w x) rfl rfl (by simp only[bkC,ee,iv.one,ip.one];simp only[show w.one=true from w1];rfl),ev];obtain⟨p,N,e4,_,D,s4⟩:=H3.app1 18 rfl (by_:=96) (ety:=44) (y:=(trBlk u A B,w)) (w:=bkC (trBlk u A B) t w x) (ro:=false) ⟨t,x,rfl,an,ao,w1⟩ (by decide) (by decide) (by simp;omega);have O:happend 44 6 96 b (.slice R.next 0 1) (R.new (.cells 44 6 true false (bkC (trBlk u A B) t w x)))=some (.val p N):=e4;rw[O,ec];simp only[wAC,wAE]at D;obtain⟨h5,e5,_,T,s5⟩:=D.st 10 (o:=3) (u:=p) rfl (by simp) (D.one 18 rfl);refine d9 pf ?_;have P:pSt 1 (.ptr l3 (0+3)) p N=some (.val .undef h5):=by rw[wAY];exact e5
    rw[P,ec];simp only[wAC,wAE]at T;refine addOne ⟨k-1,by omega,?_⟩;rw[hI];refine⟨i+1,S2,C,m,p,z,rfl,by omega,(((s1.trans s2).trans s3).trans s4).trans s5,hS,?_⟩;have H6:=T.fromTail 12 (by simp);rw[wBg,wAx,wBO,wBa,al];exact H6
   have s:refsB (u.blocks.take (i+1))=refsB (u.blocks.take i)++(if B.fin=3 then[B.state] else[]):=by
    rw[am];unfold refsB;rw[List.filterMap_append,List.filterMap_cons];by_cases e:B.fin=3
    ·rw[if_pos e,if_pos e];rfl
    ·rw[if_neg e,if_neg e];rfl
   have ab:firsts (refsV u (stayL u A)++refsB (u.blocks.take (i+1))) <+: stL u A:=by
    have:stRefs u A=(refsV u (stayL u A)++refsB (u.blocks.take (i+1)))++refsB (u.blocks.drop (i+1)):=by
     rw[CG,wAU];congr 1
     conv=>lhs;rw[<-wA8 (i+1) u.blocks]
     exact List.filterMap_append
    unfold stL;rw[this];exact yv _ _
   have j:(trBlk u A B).cond=if B.fin=2 then nm u A B.cond else B.cond:=rfl
   have d:(trBlk u A B).state=if B.fin=3 then(stL u A).idxOf B.state else B.state:=rfl
   refine oF (f.ld 12 rfl rfl) (fk ?_);by_cases c2:B.fin=2
   ·rw [if_neg (show ¬B.fin=3 by omega),wAa]at s;refine if_t (by show(B.fin:Int)=2;omega) ?_;refine d9 (f.ld 1 rfl rfl) (d9 (f.ld 0 rfl rfl) (oF (f.ld 12 rfl rfl) ?_));refine zb f rfl (by omega) (by omega) g.sub (by rw[gl];exact e1 c2) λr q q1 q2=>⟨wAF _,d9 q1 (d9 q2 (d9 pf ⟨f.ld 1 rfl rfl,?_⟩))⟩
    obtain⟨N,e4,n4,D,s4⟩:=f.st 12 (o:=2) (u:= .int .i64 (nmL ns az B.cond:Nat)) rfl (by simp[bkC]) rfl;have O:pSt 1 (.ptr lx (0+2)) (.int .i64 (nmL ns az B.cond:Nat)) L=some (.val .undef N):=by rw[wAY];exact e4
    rw [show({B with vals:=(B.vals.filter (stays A)).map (stayL u A).idxOf}:Bk).cond=B.cond from rfl,O,ec];simp only[wAC,wAE]at D;have hq:(bkC {B with vals:=(B.vals.filter (stays A)).map (stayL u A).idxOf} t w x).set 2 (.int .i64 (nmL ns az B.cond:Nat))=bkC (trBlk u A B) t w x:=by
     unfold bkC;rw[j,d,if_pos c2,if_neg (by omega),aj _ (e1 c2)];rfl
    rw[hq]at D;exact⟨n4,M N S c a wso s4 (by rw[s];exact hN) D⟩
   ·refine if_f (by show ¬(B.fin:Int)=2;omega) (fk ?_);by_cases c3:B.fin=3
    ·refine if_t (by show(B.fin:Int)=3;omega) (oF (f.ld 12 rfl rfl) ?_);show cP CS ex [.int .i64 B.state,.ptr lb 0,.ptr l3 0,.ptr l1 0,.ptr lr 0] L _;obtain⟨sl,G⟩:∃sl,ss[B.state]? =some sl:=⟨_,wAA (by have:=e2 c3;omega)⟩
     have ap:u.states[B.state]? =some (sl.map Prod.fst):=by rw[<-U,wAQ,G];rfl
     obtain⟨q1,q2⟩:=g.st _ _ ap;rw[wAb]at q1;refine Cu f hN (by omega) (by omega) g.sub G (by have:=g.ns;omega) q1 (λy hy=>?_) λN aq S4 ac ae s4 ag D=>?_
     ·obtain⟨r1,r2,r3,r4⟩:=q2 y.1 (wCF hy);rw[gl];exact⟨r1,r2,r3,r4⟩
     rw[if_pos c3]at s;have ar:addS (firsts (refsV u (stayL u A)++refsB (u.blocks.take i))) B.state=firsts (refsV u (stayL u A)++refsB (u.blocks.take (i+1))):=by rw[s,<-wAU,qX];rfl
     rw [ar]at ag⊢;have ah:B.state∈firsts (refsV u (stayL u A)++refsB (u.blocks.take (i+1))):=(ll _ _).2 (by rw[s];simp);have au:(firsts (refsV u (stayL u A)++refsB (u.blocks.take (i+1)))).idxOf B.state=(trBlk u A B).state:=by
      rw[<-BS ab ah,d,if_pos c3]
     rw[au];obtain⟨h5,e5,_,T,s5⟩:=D.st 12 (o:=5) (u:= .int .i64 ((trBlk u A B).state:Nat)) rfl (by simp[bkC]) rfl;refine d9 pf ?_;have P:pSt 1 (.ptr lx (0+5)) (.int .i64 ((trBlk u A B).state:Nat)) N=some (.val .undef h5):=by rw[wAY];exact e5
     rw [P,ec];simp only[wAC,wAE]at T;have hq:(bkC {B with vals:=(B.vals.filter (stays A)).map (stayL u A).idxOf} t w x).set 5 (.int .i64 ((trBlk u A B).state:Nat))=bkC (trBlk u A B) t w x:=by
      unfold bkC;rw[j,if_neg c2];rfl
     rw[hq]at T;exact M h5 S4 aq ac ae (s4.trans s5) ag T
    ·refine if_f (by show ¬(B.fin:Int)=3;omega) (M L S c a wso (Sn.refl _ _) ?_ ?_)
     ·rw[s,if_neg c3,wAa];exact hN
     ·have:bkC (trBlk u A B) t w x=bkC {B with vals:=(B.vals.filter (stays A)).map (stayL u A).idxOf} t w x:=by
       unfold bkC;rw[j,d,if_neg c2,if_neg c3];rfl
      rw[this];exact f
  ·refine ltNo ?_;obtain rfl:i=bs.length:=by omega
   refine d9 (J.ldA 10 rfl rfl) ?_;obtain⟨L,e2,_,f,s2⟩:=J.stA 18 (ws:=[.int .i64 u.func,.int .i64 u.pc,wvo,b,wso]) (n:=5) rfl rfl rfl (by simp only[ee,J.one 16 rfl,J.one 17 rfl,J.one 11 rfl];rfl);rw[e2,ec];simp only[wAC,wAE]at f;refine d9 (f.ldA 18 rfl rfl) ?_;rw[Z,wAg]at hN;rw[Z]at f;exact H L S c a b wso (s1.trans s2) hN f
 ·rw[hI];exact⟨0,S,fl,a,.nilSlice,wso,rfl,by omega,Sn.refl _ _,by rw[wBU];show StS _ _ (firsts (_++[])) _ _ _;rw[wAa];exact X,H0⟩
end
open Go.Proofs.YtpnddokajmjpbaaDoor.Un Go.Proofs.YtpnddokajmjpbaaDoor.Dm
section
variable{F F':Nat->Prop}{h h':Hp}{cs ds:List Pc}{Q:QP1}{u:U}{wv wb ws asv:V}{lt Tt:Nat}{az:List Int}{xs:List (Vl×V)}{bs:List (Bk×V)}{fa fn:Nat->Option (List Nat×V)}{ss:List (List (Fm×V×V))}{fl:KF->Option (List Nat×V)}
theorem Hold.freezeN' (H:Hold F h cs)(n:Nat):∃G,Hold G h (cs.drop n)/\Sn F h G h/\∀(i:Nat)(c:Pc),i<n->cs[i]? =some c->∀l,c.foot l->G l:=by
 have g:∀{i:Nat} {c:Pc},(cs.take n)[i]? =some c->i<n/\cs[i]? =some c:=λ{i c} hc=>by
  have a:=(wAB.1 hc).1;rw[wAc]at a;rw[wBA (by omega)]at hc;exact⟨by omega,hc⟩
 refine⟨λl=>F l\/feet (cs.take n) l,⟨λl a=>a.elim (H.fl l) λ⟨i,c,hc,e⟩=>(c.inn (H.ok i c (g hc).2) l e).1,λi c hc=>?_,λi j c d hc b m=>?_⟩,⟨wAF _,λ_ _=>rfl,λ_ h=> .inl h⟩,λi c hi hc l a=> .inr ⟨i,c,by rw[wBA hi];exact hc,a⟩⟩
 ·rw[wBI]at hc;refine c.mono (H.ok _ c hc) (λ_ h=> .inl h) λl a f=>?_;rcases f with f|⟨j,d,b,e⟩
  ·exact(c.inn (H.ok _ c hc) l a).2 f
  ·obtain⟨o,k⟩:=g b;exact H.dis (n+i) j c d hc k (by omega) l a e
 ·rw[wBI]at hc b;exact H.dis (n+i) (n+j) c d hc b (by omega)
section
variable{G:Nat->Prop}
theorem SlR.ofRow {α β:Type}{E:Enc α} {E':Enc β}(H:Hold F h cs)(i:Nat){ty:Nat}{xs:List α}{ys:List β}{v:V}(hi:cs[i]? =some (rowP E ty xs v))(g:∀l,F l->G l)(j:∀l,Loc v l->G l)(m:E'.sz=E.sz)(b:ys.length=xs.length)(c:∀(k:Nat) x y cs,xs[k]? =some x->ys[k]? =some y->E.rel F h x cs->E'.rel G h y cs):SlR E' G h ys v:=by
 have d:=(wAB.1 hi).1;exact((H.reR (E':=E.fix F h) i hi rfl rfl λk x y cs e a c=>by rw[e]at a;cases a;exact c).row i (wAK d)).read.reR m (λl b=>b.elim (g l) (j l)) b λk x y cs e a f=>c k x y cs e a f
theorem rowsR (H:Hold F h cs)(j:Nat){ι:Type}{ty:Nat}{f:ι->Option (List Nat×V)}(a:cs[j]? =some (rowsP ty f))(b:∀l,F l->G l)(c:∀l,(rowsP ty f).foot l->G l){i:ι}{xs:List Nat}{v:V}(hi:f i=some (xs,v)):SlR eN G h xs v:=
 (H.rows j a hi).slR b λl d=>c l ⟨i,xs,v,hi,d⟩
end
theorem E3 (g:Numable u az)(hc:CpV u.vals xs fa)(A:CpB u.blocks bs fn)(p:CpS u.states ss fl)
  (H0:Hold F h (rowP eVx tyVal xs wv::rowP eKx tyBlock bs wb::rowsP tyInt fa::rowsP tyInt fn::rowP eZ tyInt az asv::cellP lt Tt [.int .i64 u.func,.int .i64 u.pc,wv,wb,ws,asv]::rowP (eL eFx) tyState ss ws::rowsP tyInt fl::cs))
  (H:∀F' h' vv vb vs,Sn F h F' h'->Hold F' h' cs->URd F' h' (trimA u (asF az)) vv vb vs->Q (.agg (uC (trimA u (asF az)) vv vb vs)) h') :
  cP CS gR [.ptr lt 0] h Q:=by
 refine DQ g hc A H0 λF1 h1 l1 T1 l2 l3 l4 T4 lm lb Tb lr Tr num ns ac ae s1 P C i H1=>?_;refine Kw g hc p C i H1 λh2 ag S2 ah aa wvo wso s2 hN H2=>?_;have D:=hN.st;rw[wAg]at D;refine KB g A p.fst P C i D H2 λR S3 ai ab S E s3 O m=>?_;obtain⟨G,H4,s4,q⟩:=m.freezeN' 20;have e:∀l,F1 l->G l:=λl hl=>s4.mono l hl;refine H G R wvo S E (((s1.trans s2).trans s3).trans s4) H4 ⟨?_,?_,?_⟩
 ·refine SlR.ofRow m 16 rfl e (q 16 _ (by decide) rfl) rfl (by simp[trimA]) λk x y ws c b o=>?_;rw[wAQ]at c;have b:((stayL u (asF az)).map λn=>trVal u (asF az) (u.vals.getD n noVl))[k]? =some y:=b;rw[wAQ]at b
  cases hk:(stayL u (asF az))[k]? with
  |none=>rw[hk]at c;cases c
  | some n=>
    rw[hk]at c b;cases c;cases b;obtain⟨rfl,_⟩:=o;have T:=xy g.atlt (wAI hk);obtain⟨⟨x,w⟩,r⟩:∃y,xs[n]? =some y:=⟨_,wAA (by rw[<-wAb (f:=Prod.fst),hc.fst];exact T)⟩
    have I:u.vals[n]? =some x:=by rw[<-hc.fst,wAQ,r];rfl
    have U:yOf u (asF az) xs n=(trVal u (asF az) x,w):=by unfold yOf wV;rw[r,wAL,I];rfl
    have J:=hN.row n x w r;rw[wAg,if_pos (wAI hk)]at J;have V:u.vals.getD n noVl=x:=by rw[wAL,I];rfl
    show eV.rel G R (trVal u (asF az) (u.vals.getD n noVl)) _;rw[U,V];exact⟨w,rfl,rowsR m 14 rfl e (q 14 _ (by decide) rfl) J⟩
 ·refine SlR.ofRow m 17 rfl e (q 17 _ (by decide) rfl) rfl (by simp[trimA]) λk x y ws c b o=>?_;rw[wAQ]at c;have b:(u.blocks.map (trBlk u (asF az)))[k]? =some y:=b;rw[wAQ]at b
  cases hB:u.blocks[k]? with
  |none=>rw[hB]at b;cases b
  | some B=>
    rw[hB]at b;cases b;have K:=(wAB.1 hB).1;rw[wBm K]at c;cases c;obtain⟨⟨B',w⟩,t⟩:∃y,bs[k]? =some y:=⟨_,wAA (by rw[<-wAb (f:=Prod.fst),A.fst];exact K)⟩
    have L:u.blocks[k]? =some B':=by rw[<-A.fst,wAQ,t];rfl
    rw[hB]at L;cases L;have W:kOf u (asF az) bs k=(trBlk u (asF az) B,w):=by unfold kOf wOf;rw[t,wAL,hB];rfl
    rw[W]at o;obtain⟨bv,bp,rfl,iv,ip,_⟩:=o;exact⟨bv,w,bp,rfl,iv.mono e,rowsR m 15 rfl e (q 15 _ (by decide) rfl) (A.row k B w t),ip.mono e⟩
 ·refine SlR.ofRow m 11 rfl e (q 11 _ (by decide) rfl) rfl (by simp[trimA,O.out]) λk x y ws c b o=>?_;rw[O.out,wAQ]at c;have b:((stL u (asF az)).map λs=>(u.states.getD s []).map (trFm u (asF az)))[k]? =some y:=b;rw[wAQ]at b
  cases hk:(stL u (asF az))[k]? with
  |none=>rw[hk]at c;cases c
  | some s=>
    rw[hk]at c b;cases c;cases b;have M:=wAI hk;have X:=O.lt s M;obtain⟨l,d⟩:∃l,ss[s]? =some l:=⟨_,wAA X⟩
    have N:u.states[s]? =some (l.map Prod.fst):=by rw[<-p.fst,wAQ,d];rfl
    have g1:ss.getD s []=l:=by rw[wAL,d];rfl
    have g2:u.states.getD s []=l.map Prod.fst:=by rw[wAL,N];rfl
    show(eL eF).rel G R ((u.states.getD s []).map (trFm u (asF az))) ws;rw[g2];obtain⟨f,rfl,Y⟩:=o;dsimp only at Y;rw[g1]at Y;refine⟨f,rfl,Y.reR rfl e (by simp) λj z y cs Z b o=>?_⟩;rw[List.map_map,wAQ,Z]at b;cases b;obtain⟨z,a,w⟩:=z;obtain⟨rfl,_,_⟩:=o;obtain⟨r1,r2⟩:=O.rows s l j z a w d Z;rw[if_pos M]at r1 r2;obtain⟨_,q2⟩:=g.st s _ N;obtain⟨_,_,q3,q4⟩:=q2 z (wCF (f:=Prod.fst) (wAI Z));rw[wBS λv hv=>Dj g i (q3 v hv)]at r1;rw[wBS λv hv=>Dj g i (q4 v hv)]at r2;exact⟨a,w,rfl,rowsR m 5 rfl e (q 5 _ (by decide) rfl) r1,rowsR m 5 rfl e (q 5 _ (by decide) rfl) r2⟩
end
open Go.Proofs.YtpnddokajmjpbaaDoor.Un Go.Proofs.YtpnddokajmjpbaaDoor.Dm
section
variable{F F':Nat->Prop}{h h':Hp}{cs ds:List Pc}{Q:QP1}{u:U}{vv vb vs asv:V}{az:List Int}
theorem Hc (g:Sized u)(C:Cutable u)(m:az.length=u.vals.length)(D:∀kp u' a seen post,Go_ u.blocks.length (next u) seen post []->kp=(λb=>post.reverse.contains b)->Cut u kp u'->CutAs u kp az a->Numable u' a)
  (s:Hold F h (rowP eZ tyInt az asv::cs)) (v:URd F h u vv vb vs)
  (H:∀F' h' kp u' a seen post wv wb ws,Sn F h F' h'->Hold F' h' cs->Go_ u.blocks.length (next u) seen post []->kp=(λb=>post.reverse.contains b)->Cut u kp u'->CutAs u kp az a->URd F' h' (trimA u' (asF a)) wv wb ws->Q (.agg (uC (trimA u' (asF a)) wv wb ws)) h') :
  cP CS sQ [.agg (uC u vv vb vs),asv] h Q:=by
 refine EU rfl rfl ?_;unfold Bi;refine kh s v.one λE I w=>uG I λh2 x y=>?_;generalize h.next=l1 at*;generalize E.next=l2 at*;have J:=(v.since w).since y;refine d9 (x.ldA 1 rfl rfl) ?_;refine IF g x J λF3 K wv wb ws xs bs ss fa fn fl L hc M hs d=>?_;have N:pBuild [.int .i64 0,.int .i64 0,.nilSlice,.nilSlice,.nilSlice,.nilSlice] [(0,5),(5,1)] [(0,V.agg (uC u wv wb ws)),(1,asv)]=some (V.agg [.int .i64 u.func,.int .i64 u.pc,wv,wb,ws,asv]):=by
  rcases s.row 0 rfl with⟨rfl,_⟩|⟨t,O,rfl,_⟩ <;> rfl
 refine d9 N ?_;refine kh d (by simp only[ee,d.one 0 rfl,d.one 1 rfl,d.one 2 rfl,d.one 8 rfl];rfl) λh4 P R=>?_;generalize K.next=lt at*;have S:=P.perm [1,2,4,5,9,0,3,6,7,8] 10 (by decide) (by decide) (by simp);refine Gj C hc M m (d.one 2 rfl) S λF6 h6 seen post kp u' T U W X a Y Z G e c o p f z=>?_;have gn:=D kp u' a seen post G e c f;have e1:=c.func;have e2:=c.pc;rw[<-e1,<-e2]at z;refine E3 gn o p (by rw[c.states];exact hs) z λA h7 i j k s7 q l=>?_;have q:Hold A h7 (cellP l2 tyUnit _::cellP l1 tyUnit _::cs):=q;obtain⟨h8,e8,_,r,B⟩:=q.stA 0 (ws:=uC (trimA u' (asF a)) i j k) (n:=5) rfl rfl rfl l.one;rw[e8,ec];simp only[wAC]at r;refine d9 (r.ldA 0 rfl rfl) ?_;exact H A h8 kp u' a seen post i j k ((((((w.trans y).trans L).trans R).trans Z).trans s7).trans B) r.tail.tail G e c f (l.since B)
theorem Hj {n:Nat}{nx:Nat->List Nat}{seen:List Bool}{post:List Nat}(G:Go_ n nx seen post []):∀{b:Nat}{l:List Nat},Pt nx b l->b∈post
 | _,_,.nil=>by
   obtain⟨p,c⟩:=G.last rfl
   rw[c];simp
 | _,_,.step h e=>by
   rcases(G.iff _).1 (G.closed _ (Hj G h) _ e)with a|a
   ·exact a
   ·simp at a
theorem C7 (g:Good u)(f:Args u):Cutable u:=⟨Co g,g.nv,g.at2,g.atlt,λb B c=>⟨yO g c,λp d=>by
 rw[g.preds b B c]at d;obtain⟨q,j,a,_,e⟩:=nT.1 d;have:=(wAB.1 a).1;omega⟩,λv b k x B a h e i=>(g.phi v b k x B a h e i).2,f⟩
theorem Dr (g:Good u)(r:Args u)(k:az.length=u.vals.length)(d:∀(v:Nat)(a:Int),az[v]? =some a->a<az.length):Numable u az where
 nv:=g.nv
 nb:=g.nb
 ns:=g.ns
 once:=g.at2
 atlt:=g.atlt
 len:=k
 sub:=d
 parts v x hx:=by
  have c:∀w∈uses x,w<u.vals.length:=λw l=>qC (g.use v x hx w l);unfold uses at c;refine⟨r v x hx,?_⟩;by_cases i:x.op=21
  ·rw[if_pos i]at c;have p:two x.op=false:=by rw[i];rfl
   have t:oneP x.op=false:=by rw[i];rfl
   exact⟨λh=>(by rw[p,t]at h;simp at h),λh=>(by rw[p]at h;cases h),λ_=>c,g.leave v x hx⟩
  ·rw [if_neg i]at c;by_cases c2:x.op=20
   ·rw[if_pos c2]at c;have j:=g.putAt v x hx c2;rw[wA1 (by omega)]at c;exact⟨λ_=>c _ (by simp),λ_=>c _ (by simp),λ_ w l=>c w (by simp[l]),g.leave v x hx⟩
   ·rw [if_neg c2]at c;refine⟨λh=>?_,λh=>?_,λh=>absurd h (by omega),g.leave v x hx⟩
    ·by_cases m:two x.op=true
     ·rw[if_pos m]at c;exact c _ (by simp)
     ·rw[if_neg m,if_pos (h.resolve_right m)]at c;exact c _ (by simp)
    ·rw[if_pos h]at c;exact c _ (by simp)
 ends b B hB:=by
  rcases g.fin b B hB with⟨j,_⟩|⟨j,_,e⟩|⟨j,_,e⟩
  ·exact⟨λh=>by omega,λh=>by omega⟩
  ·exact⟨λ_=>qC e,λh=>by omega⟩
  ·exact⟨λh=>by omega,λ_=>e⟩
 st s fs hfs:=by
  obtain⟨j,e⟩:=rV g s fs hfs;refine⟨by omega,λf n=>?_⟩;obtain⟨y,z⟩:=e f n;have q:=qi g hfs;refine⟨by omega,by omega,λv o=>q v ?_,λv o=>q v ?_⟩
  ·exact wAy.2 ⟨f,n,wAu _ o⟩
  ·exact wAy.2 ⟨f,n,wBc _ o⟩
theorem IH (g:Good u)(n:Args u)(j:az.length=u.vals.length)(k:∀(v:Nat)(a:Int),az[v]? =some a->a<az.length)(p:Hold F h (rowP eZ tyInt az asv::cs))(q:URd F h u vv vb vs)
  (H:∀F' h' wv wb ws,Sn F h F' h'->Hold F' h' cs->URd F' h' (trimA u (asF az)) wv wb ws->Q (.agg (uC (trimA u (asF az)) wv wb ws)) h') :
  cP CS sQ [.agg (uC u vv vb vs),asv] h Q:=by
 have m:∀kp u' d seen post,Go_ u.blocks.length (next u) seen post []->kp=(λb=>post.reverse.contains b)->Cut u kp u'->CutAs u kp az d->u' = u/\d=az:=λkp u' d seen post G e c f=>by
  have i:∀b,b<u.blocks.length->kp b=true:=λb r=>by
   obtain⟨l,s⟩:=g.reach b r;rw[e];exact List.contains_iff_mem.2 (wBD.2 (Hj G s))
  exact⟨c.eq g i,f.eq i⟩
 refine Hc (EK g n) (C7 g n) j (λkp u' d seen post G e c f=>?_) p q λF' h' kp u' d seen post wv wb ws t w G e c f o=>?_
 ·obtain⟨rfl,rfl⟩:=m kp u' d seen post G e c f;exact Dr g n j k
 ·obtain⟨rfl,rfl⟩:=m kp u' d seen post G e c f;exact H F' h' wv wb ws t w o
end
