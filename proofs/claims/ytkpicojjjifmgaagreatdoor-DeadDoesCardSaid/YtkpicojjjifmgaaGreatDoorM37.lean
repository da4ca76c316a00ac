/- Parts. -/
import Derived.Test.YtkpicojjjifmgaaGreatDoorM30
namespace Go.Proofs.YtkpicojjjifmgaaGreatDoor.Hx
open Un Dm
def ZZ:Vl:=⟨0,0,0,0,[],0⟩
def wV(xs:List (Vl×V))(n:Nat):V:=match xs[n]? with
 |some x=>x.2
 |none=> .undef
def Yu(u:U)(A:Nat->Int)(xs:List (Vl×V))(n:Nat):Vl×V:=(ij u A (u.eh.getD n ZZ),wV xs n)
section
variable{F F':Nat->Prop}{h h':Hp}{cs ds:List Pc}{Q:fy}{u:U}{wv wb ws pP num:V}{lt Tt l1 T1 l2 l3 l4 T4 lm lb Tb lr Tr:Nat}{az:List Int}{ns:List Nat}{xs:List (Vl×V)}{bs:List (Bk×V)}{fa fn:Nat->Option (List Nat×V)}{ss:List (List (Fm×V×V))}{fl:KF->Option (List Nat×V)}
theorem Pb(g:Dc u az)(a:∀v,v<u.eh.length->ns[v]? =some (if v∈fL u (qZ az) then(fL u (qZ az)).idxOf v else 0)){v:Nat}(hv:v<u.eh.length):Bq ns az v=nm u (qZ az) v:=by
 have b:=QB («as»:=qZ az) (n:=u.eh.length) (λw d=>by
  have c:=hO (show w<az.length by rw[g.len];exact d);have e:=g.sub w _ c;rw[PR c];have:=g.len;omega) (u.eh.length+1) v hv
 unfold Bq nm;rw[g.len,G2,a _ b];rfl
structure NV (u:U) (az:List Int) (ns:List Nat) (xs:List (Vl×V)) (ss:List (List (Fm×V×V))) (i:Nat) (fa:Nat->Option (List Nat×V)) (S:Int->Option V) (fl:KF->Option (List Nat×V)) (a:List (List (Fm×V×V))):Prop where
 row:∀v x w,xs[v]? =some (x,w)->fa v=some (if v∈(fL u (qZ az)).take i then(ij u (qZ az) x).args else x.args,w)
 st:Z1 ss (Bq ns az) (lY (sW u ((fL u (qZ az)).take i))) S fl a
theorem zdD(g:Dc u az)(hc:XW u.eh xs fa)(Z:CpS u.en ss fl){p:V}(aH:ns.length=u.eh.length)(ay:∀v,v<u.eh.length->ns[v]? =some (if v∈fL u (qZ az) then(fL u (qZ az)).idxOf v else 0))
  (H0:eo F h (Nx l1 T1 l4 T4 lt Tt num ns [.I u.func,.I u.pc,wv,wb,ws] pP az (Sx fl ss ws lm (λ_=>none) lb Tb lr Tr l4 l1 l3 gZ (.I u.func) (.I u.pc) .ef .ef .ef []
    (eR yh hK xs wv::eR vP fR bs wb::fS eJ fa::fS eJ fn::eR yh hK [] .ef::eR vP fR [] .ef::ez l2 gZ [.I 0,.I 0,.ef,.ef,.ef]::eR eN eJ (fL u (qZ az)) p::cs))))
  (H:∀h' f S t z G7 EO,Sn F h F h'->NV u az ns xs ss (fL u (qZ az)).length f S t z->
   eo F h' (Nx l1 T1 l4 T4 lt Tt num ns [.I u.func,.I u.pc,wv,wb,ws] pP az (Sx t ss ws lm S lb Tb lr Tr l4 l1 l3 gZ (.I u.func) (.I u.pc) G7 .ef EO z
    (eR yh hK xs wv::eR vP fR bs wb::fS eJ f::fS eJ fn::eR yh hK ((fL u (qZ az)).map (Yu u (qZ az) xs)) G7::eR vP fR [] .ef::ez l2 gZ [.I 0,.I 0,.ef,.ef,.ef]::eR eN eJ (fL u (qZ az)) p::cs)))->
   lP CS Q [.ptr l1 0,.ptr l2 0,.ptr l3 0,.ptr l4 0,.func fQ [] [.ptr lb 0,.ptr l3 0,.ptr l1 0,.ptr lr 0],wb,.I bs.length,.I 0] h') :
  lM CS Q [.ptr l1 0,.ptr l2 0,.ptr l3 0,.ptr l4 0,.ptr lr 0,.func fQ [] [.ptr lb 0,.ptr l3 0,.ptr l1 0,.ptr lr 0],p,.I ((fL u (qZ az)).length:Nat),.I 0] h:=by
 have nv:=g.nv;have gl:=g.len;have aI:xs.length=u.eh.length:=by rw[<-hc.fst,GM]
 have lss:ss.length=u.en.length:=by rw[<-Z.fst,GM]
 obtain⟨A,hA⟩:∃A,qZ az=A:=⟨_,rfl⟩
 have aa:∀v,v<u.eh.length->Bq ns az v=nm u A v:=λv hv=>by rw[<-hA];exact Pb g ay hv
 have ah:=zK («as»:=A) g.once;have mM:(fL u A).length<=u.eh.length:=kj _ _ ah λv hv=>Gl g.mH hv
 obtain ⟨I,hI⟩:∃I:Nat->LP,I=λk l h'=>∃(i:Nat) (f:Nat->Option (List Nat×V)) (S:Int->Option V) (t:KF->Option (List Nat×V)) (z:List (List (Fm×V×V))) (G7 EO:V),l=[.ptr l1 0,.ptr l2 0,.ptr l3 0,.ptr l4 0,.ptr lr 0,.func fQ [] [.ptr lb 0,.ptr l3 0,.ptr l1 0,.ptr lr 0],p,.I ((fL u A).length:Nat),.I i]/\i+k=(fL u A).length/\Sn F h F h'/\NV u az ns xs ss i f S t z/\
   eo F h' (Nx l1 T1 l4 T4 lt Tt num ns [.I u.func,.I u.pc,wv,wb,ws] pP az (Sx t ss ws lm S lb Tb lr Tr l4 l1 l3 gZ (.I u.func) (.I u.pc) G7 .ef EO z
    (eR yh hK xs wv::eR vP fR bs wb::fS eJ f::fS eJ fn::eR yh hK (((fL u A).take i).map (Yu u A xs)) G7::eR vP fR [] .ef::ez l2 gZ [.I 0,.I 0,.ef,.ef,.ef]::eR eN eJ (fL u A) p::cs))):=⟨_,rfl⟩
 rw[hA]at H0 H⊢;refine B5 I (λk x1 x2 x3 x4 aJ aK aL aM aN h1 hi=>?_) (k:=(fL u A).length) ?_
 ·rw [hI]at hi;obtain⟨i,f,S,t,z,G7,EO,⟨⟩,hk,s1,hN,N⟩:=hi;unfold tD;by_cases hi:i<(fL u A).length
  ·refine gB ?_;have hx:=hO hi;have ab:=zE hx;have aO:=Gl g.mH (zd hi);have aA:(fL u A)[i] ∉ (fL u A).take i:=λhm=>by
    obtain⟨j,hj⟩:=oD.1 hm;have aB:=(jR.1 hj).1;rw[Ip]at aB;rw[wBI (by omega)]at hj;have:=zS ah hj hx;omega
   generalize (fL u A)[i]=n at*;obtain⟨⟨x,w⟩,J⟩:∃y,xs[n]? =some y:=⟨_,hO (by omega)⟩
   have ac:u.eh[n]? =some x:=by rw[<-hc.fst,Cq,J];rfl
   have aC:Yu u A xs n=(ij u A x,w):=by unfold Yu wV;rw[J,G2,ac];rfl
   obtain ⟨p1,p2,p3,p4,p5⟩:=g.parts n x ac;obtain⟨la,oa,y1,y2⟩:=N.K7 19 rfl hx .i64;obtain⟨lv,ov,wl,z1,z2,⟨rfl,w1⟩,_⟩:=N.X1 12 rfl J .i64;have z1:gJ 6 wv (.I n)=some (.ptr lv ov):=z1;refine ee y1 (ee y2 (ee (N.ld 0 rfl rfl) (ee pn (ee pf (oF (N.ld 2 rfl rfl) (ee z1 (ee z2 ?_)))))));refine gY N rfl rfl (by simp only[mI,ey];simp only[show w.one=true from w1];rfl) λX O s2=>?_;generalize h1.next=lx at*;have O:eo F X (Nx l1 T1 l4 T4 lt Tt num ns [.I u.func,.I u.pc,wv,wb,ws] pP az (Sx t ss ws lm S lb Tb lr Tr l4 l1 l3 gZ (.I u.func) (.I u.pc) G7 .ef EO z (ez lx 45 (mI x w)::_))):=O.JK 12 (by simp);have ai:∀d:Nat->Option (List Nat×V),(∀v,v≠n->d v=f v)->d n=some ((ij u A x).args,w)->∀v y b,xs[v]? =some (y,b)->d v=some (if v∈(fL u A).take (i+1) then(ij u A y).args else y.args,b):=λd h1 X v y b hv=>by
    rw[ab];by_cases e:v=n
    ·subst e;rw[J]at hv;cases hv;rw[X,if_pos (by simp)]
    ·rw[h1 v e];have:=hN.row v y b hv;rw[hA]at this;rw[this];simp[e]
   have aj:f n=some (x.args,w):=by
    have:=hN.row n x w J;rw[hA,if_neg aA]at this;exact this
   have ae:=hN.st;rw[hA]at ae
   have ak:∀m d S2 R D K,Sn F h F m->(∀v,v≠n->d v=f v)->d n=some ((ij u A x).args,w)->Z1 ss (Bq ns az) (lY (sW u ((fL u A).take (i+1)))) S2 R D->
     eo F m (Nx l1 T1 l4 T4 lt Tt num ns [.I u.func,.I u.pc,wv,wb,ws] pP az (Sx R ss ws lm S2 lb Tb lr Tr l4 l1 l3 gZ (.I u.func) (.I u.pc) G7 .ef K D
      (ez lx 45 (mI (ij u A x) w)::eR yh hK xs wv::eR vP fR bs wb::fS eJ d::fS eJ fn::eR yh hK (((fL u A).take i).map (Yu u A xs)) G7::eR vP fR [] .ef::ez l2 gZ [.I 0,.I 0,.ef,.ef,.ef]::eR eN eJ (fL u A) p::cs)))->
     kW CS Q (Db I k) [.ptr l1 0,.ptr l2 0,.ptr l3 0,.ptr l4 0,.ptr lr 0,.func fQ [] [.ptr lb 0,.ptr l3 0,.ptr l1 0,.ptr lr 0],.ptr lx 0,p,.I ((fL u A).length:Nat),.I i] m:=by
    intro m d S2 R D K P T U hS B;refine AH ?_;unfold rL;refine oF (B.ld 10 rfl rfl) (ee (B.rh 12 rfl rfl) ?_);rw[qa (sz:=6) (w:=mI (ij u A x) w) rfl rfl (by simp only[mI,ey];simp only[show w.one=true from w1];rfl),fG];obtain⟨E,G,e4,_,C,s4⟩:=B.uD 17 rfl (j7:=64) (Ca:=45) (y:=(ij u A x,w)) (w:=mI (ij u A x) w) (ro:=false) ⟨rfl,w1⟩ (by decide) (by decide) (by simp;omega);have L:fg 45 6 64 G7 (.slice m.next 0 1) (m.new (.cells 45 6 true false (mI (ij u A x) w)))=some (.val E G):=e4;rw[L,ei];simp only[jo,l0]at C;obtain⟨h5,e5,_,H5,s5⟩:=C.st 10 (o:=2) (u:=E) rfl (by simp) (C.one 17 rfl);refine ee pf ?_;have ag:gM 1 (.ptr l3 (0+2)) E G=some (.val .undef h5):=by rw[zA];exact e5
    rw[ag,ei];simp only[jo,l0]at H5;refine fM ⟨k-1,by omega,?_⟩;rw[hI];refine⟨i+1,d,S2,R,D,E,K,rfl,by omega,(P.trans s4).trans s5,⟨λv y b hv=>by rw[hA];exact ai d T U v y b hv,by rw[hA];exact hS⟩,?_⟩;have H6:=H5.CZ 12 (by simp);rw[ab,Nh,wCC,Yp,aC];exact H6
   have W:sW u ((fL u A).take (i+1))=sW u ((fL u A).take i)++(if leaves x.op=true then[x.state] else[]):=by
    rw[ab];unfold sW;rw[List.filterMap_append,List.filterMap_cons];simp only[ac];by_cases e:leaves x.op=true
    ·rw[if_pos e,if_pos e];rfl
    ·rw[if_neg e,if_neg e];rfl
   have al:lY (sW u ((fL u A).take (i+1))) <+: GL u A:=by
    have:JZ u A=sW u ((fL u A).take (i+1))++(sW u ((fL u A).drop (i+1))++BA u.blocks):=by
     rw[Om,<-Ii];congr 1
     conv=>lhs;rw[<-Ym (i+1) (fL u A)]
     exact List.filterMap_append
    unfold GL;rw[this];exact He _ _
   have am:∀m d,Sn F h F m->(∀v,v≠n->d v=f v)->d n=some ((ij u A x).args,w)->
     eo F m (Nx l1 T1 l4 T4 lt Tt num ns [.I u.func,.I u.pc,wv,wb,ws] pP az (Sx t ss ws lm S lb Tb lr Tr l4 l1 l3 gZ (.I u.func) (.I u.pc) G7 .ef EO z
      (ez lx 45 (mI {x with a:=(ij u A x).a,b:=(ij u A x).b} w)::eR yh hK xs wv::eR vP fR bs wb::fS eJ d::fS eJ fn::eR yh hK (((fL u A).take i).map (Yu u A xs)) G7::eR vP fR [] .ef::ez l2 gZ [.I 0,.I 0,.ef,.ef,.ef]::eR eN eJ (fL u A) p::cs)))->
     kY CS Q (Db I k) [.ptr l1 0,.ptr l2 0,.ptr l3 0,.ptr l4 0,.ptr lr 0,.func fQ [] [.ptr lb 0,.ptr l3 0,.ptr l1 0,.ptr lr 0],.ptr lx 0,p,.I ((fL u A).length:Nat),.I i] m:=by
    intro m d P T U B;refine AO ?_;unfold tg;refine oF (B.ld 12 rfl rfl) (GJ (jd ?_));by_cases hlv:leaves x.op=true
    ·refine gv hlv (oF (B.ld 12 rfl rfl) ?_);show cP CS fQ [.I x.state,.ptr lb 0,.ptr l3 0,.ptr l1 0,.ptr lr 0] m _;obtain⟨sl,Y⟩:∃sl,ss[x.state]? =some sl:=⟨_,hO (by have:=p5 hlv;omega)⟩
     have aD:u.en[x.state]? =some (sl.map Prod.fst):=by rw[<-Z.fst,Cq,Y];rfl
     obtain⟨q1,q2⟩:=g.st _ _ aD;rw[GM]at q1;refine NZ B ae (by omega) (by omega) g.sub Y (by have:=g.ns;omega) q1 (λy hy=>?_) λG aE S4 an ao s4 ap C=>?_
     ·obtain⟨r1,r2,r3,r4⟩:=q2 y.1 (wB8 hy);rw[gl];exact⟨r1,r2,r3,r4⟩
     rw[if_pos hlv]at W;have aF:U9 (lY (sW u ((fL u A).take i))) x.state=lY (sW u ((fL u A).take (i+1))):=by rw[W,yB];rfl
     rw [aF]at ap⊢;have aq:x.state∈lY (sW u ((fL u A).take (i+1))):=(uz _ _).2 (by rw[W];simp);have aG:(lY (sW u ((fL u A).take (i+1)))).idxOf x.state=(ij u A x).state:=by
      rw[<-MR al aq];show _=if leaves x.op=true then(GL u A).idxOf x.state else x.state
      rw[if_pos hlv]
     rw[aG];obtain⟨h5,e5,_,H5,s5⟩:=C.st 12 (o:=5) (u:= .I ((ij u A x).state:Nat)) rfl (by simp[mI]) rfl;refine ee pf ?_;have ag:gM 1 (.ptr lx (0+5)) (.I ((ij u A x).state:Nat)) G=some (.val .undef h5):=by rw[zA];exact e5
     rw[ag,ei];simp only[jo,l0]at H5;exact ak h5 d S4 aE an ao ((P.trans s4).trans s5) T U ap H5
    ·refine gg hlv (ak m d S t z EO P T U ?_ ?_)
     ·rw[W,if_neg hlv,GP];exact ae
     ·have hs:(ij u A x).state=x.state:=if_neg hlv;have:mI (ij u A x) w=mI {x with a:=(ij u A x).a,b:=(ij u A x).b} w:=by
       unfold mI;rw[hs];rfl
      rw[this];exact B
   have ar:∀m,Sn F h F m->eo F m (Nx l1 T1 l4 T4 lt Tt num ns [.I u.func,.I u.pc,wv,wb,ws] pP az (Sx t ss ws lm S lb Tb lr Tr l4 l1 l3 gZ (.I u.func) (.I u.pc) G7 .ef EO z
      (ez lx 45 (mI {x with a:=(ij u A x).a,b:=(ij u A x).b} w)::eR yh hK xs wv::eR vP fR bs wb::fS eJ f::fS eJ fn::eR yh hK (((fL u A).take i).map (Yu u A xs)) G7::eR vP fR [] .ef::ez l2 gZ [.I 0,.I 0,.ef,.ef,.ef]::eR eN eJ (fL u A) p::cs)))->
     kV CS Q (Db I k) [.ptr l1 0,.ptr l2 0,.ptr l3 0,.ptr l4 0,.ptr lr 0,.func fQ [] [.ptr lb 0,.ptr l3 0,.ptr l1 0,.ptr lr 0],.ptr lx 0,p,.I ((fL u A).length:Nat),.I i] m:=by
    intro m P B;refine AV ?_;unfold rz;refine oF (B.ld 12 rfl rfl) (il ?_);have e0:eQ (.ptr lx (0+0)) m=some (.I x.op):=B.ld 12 rfl rfl;have eq:nt (V.bool (decide ((x.op:Int)=21))) (oB (fI 0 (.ptr lx 0)) λau=>oB (eQ au m) λaw=>ev .eql 3 aw (V.I 20))=some (.bool (decide (x.op=21\/x.op=20))):=by
     rw[pf,fi,e0,fi,gI,qK];congr 2;by_cases c1:x.op=21
     ·rw[Ke (show(x.op:Int)=21 by omega),Ke (Or.inl c1)];rfl
     ·rw[Lh (show ¬(x.op:Int)=21 by omega),Bool.false_or];by_cases c2:x.op=20
      ·rw[Ke (Or.inr c2)];exact C9.2 (by omega)
      ·rw[Lh (λh=>h.elim c1 c2)];exact Nj.2 (by omega)
    refine ee eq (jd ?_);have M:(ij u A x).args=if x.op=21\/x.op=20 then x.args.map (nm u A) else x.args:=rfl
    by_cases c:x.op=21\/x.op=20
    ·refine gv (Ke c) (ee (B.ld 9 rfl rfl) (oF (B.ld 12 rfl rfl) ?_));show cP CS iE [w,.ptr l4 0,.ptr l1 0] m _;refine J0 10 B rfl aj rfl (by omega) (by omega) g.sub (λy hy=>by rw[gl];exact p4 c y hy) (by omega) λG s4 C=>?_;simp only[jo,l0]at C;have hm:x.args.map (Bq ns az)=(ij u A x).args:=by
      rw[M,if_pos c];exact Wx λy hy=>aa y (p4 c y hy)
     rw[hm]at C;exact am G _ (P.trans s4) (λv hv=>jt _ _ hv) (jx _ _ _) C
    ·refine gg (by rw[BP];exact c) (am m f P (λ_ _=>rfl) ?_ B);rw[M,if_neg c];exact aj
   have ax:∀m,Sn F h F m->eo F m (Nx l1 T1 l4 T4 lt Tt num ns [.I u.func,.I u.pc,wv,wb,ws] pP az (Sx t ss ws lm S lb Tb lr Tr l4 l1 l3 gZ (.I u.func) (.I u.pc) G7 .ef EO z
      (ez lx 45 (mI {x with a:=(ij u A x).a} w)::eR yh hK xs wv::eR vP fR bs wb::fS eJ f::fS eJ fn::eR yh hK (((fL u A).take i).map (Yu u A xs)) G7::eR vP fR [] .ef::ez l2 gZ [.I 0,.I 0,.ef,.ef,.ef]::eR eN eJ (fL u A) p::cs)))->
     lj CS Q (Db I k) [.ptr l1 0,.ptr l2 0,.ptr l3 0,.ptr l4 0,.ptr lr 0,.func fQ [] [.ptr lb 0,.ptr l3 0,.ptr l1 0,.ptr lr 0],.ptr lx 0,p,.I ((fL u A).length:Nat),.I i] m:=by
    intro m P B;refine Bn ?_;unfold rG;refine oF (B.ld 12 rfl rfl) (Mf (El ?_));have hb:(ij u A x).b=if two x.op=true then nm u A x.b else x.b:=rfl
    by_cases c:two x.op=true
    ·refine gv (by show(1:Int)<(tu x.op:Nat);unfold tu;rw[if_pos c];decide) ?_;refine ee (B.ld 1 rfl rfl) (ee (B.ld 0 rfl rfl) (oF (B.ld 12 rfl rfl) ?_));refine IQ B rfl (by omega) (by omega) g.sub (by rw[gl];exact p3 c) λr q e1 e2=>⟨jK _,ee e1 (ee e2 (ee pf ⟨B.ld 1 rfl rfl,?_⟩))⟩
     obtain⟨G,e4,n4,C,s4⟩:=B.st 12 (o:=2) (u:= .I (Bq ns az x.b:Nat)) rfl (by simp[mI]) rfl;have L:gM 1 (.ptr lx (0+2)) (.I (Bq ns az x.b:Nat)) m=some (.val .undef G):=by rw[zA];exact e4
     rw[L,ei];simp only[jo,l0]at C;have hq:Bq ns az x.b=(ij u A x).b:=by rw[hb,if_pos c];exact aa _ (p3 c)
     rw[hq]at C;exact⟨n4,ar G (P.trans s4) C⟩
    ·refine gg (by show ¬(1:Int)<(tu x.op:Nat);unfold tu;rw[if_neg c];split <;> decide) (ar m P ?_);have:({x with a:=(ij u A x).a,b:=(ij u A x).b}:Vl) = {x with a:=(ij u A x).a}:=by rw[hb,if_neg c]
     rw[this];exact B
   refine oF (O.ld 12 rfl rfl) (Mf (El ?_));have ha:(ij u A x).a=if 0<tu x.op then nm u A x.a else x.a:=rfl
   by_cases c:0<tu x.op
   ·have c':pY x.op=true\/two x.op=true:=by
     unfold tu at c;by_cases h1:two x.op=true
     ·exact .inr h1
     ·rw[if_neg h1]at c;by_cases X:pY x.op=true
      ·exact .inl X
      ·rw[if_neg X]at c;omega
    refine gv (by omega) ?_;refine ee (O.ld 1 rfl rfl) (ee (O.ld 0 rfl rfl) (oF (O.ld 12 rfl rfl) ?_));refine IQ O rfl (by omega) (by omega) g.sub (by rw[gl];exact p2 c') λr q e1 e2=>⟨jK _,ee e1 (ee e2 (ee pf ⟨O.ld 1 rfl rfl,?_⟩))⟩
    obtain⟨G,e4,n4,C,s4⟩:=O.st 12 (o:=1) (u:= .I (Bq ns az x.a:Nat)) rfl (by simp[mI]) rfl;have L:gM 1 (.ptr lx (0+1)) (.I (Bq ns az x.a:Nat)) X=some (.val .undef G):=by rw[zA];exact e4
    rw[L,ei];simp only[jo,l0]at C;have hq:Bq ns az x.a=(ij u A x).a:=by rw[ha,if_pos c];exact aa _ (p2 c')
    rw[hq]at C;exact⟨n4,ax G ((s1.trans s2).trans s4) C⟩
   ·refine gg (by omega) (ax X (s1.trans s2) ?_);have:({x with a:=(ij u A x).a}:Vl)=x:=by rw[ha,if_neg c]
    rw[this];exact O
  ·refine iJ ?_;obtain rfl:i=(fL u A).length:=by omega
   rw[JF]at N;refine ee (N.ld 0 rfl rfl) (ee pn (ee pf (oF (N.ld 2 rfl rfl) (ee (N.len 13 rfl) ?_))));exact H h1 f S t z G7 EO s1 hN N
 ·rw[hI];refine⟨0,fa,λ_=>none,fl,[],.ef,.ef,rfl,by omega,Sn.refl _ _,⟨λv x w hx=>?_,λs=>rfl,rfl,λs l k x a w hs hl=>?_,List.nodup_nil,λ_ h=>by cases h⟩,H0⟩
  ·rw[hc.row v x w hx];rfl
  ·exact Z.loc s l k x a w hs hl
end
open Un Dm
section
variable{F F':Nat->Prop}{h h':Hp}{cs ds:List Pc}{Q:fy}{u:U}{wv wb ws pP num G7:V}{lt Tt l1 T1 l2 l3 l4 T4 lm lb Tb lr Tr:Nat}{az:List Int}{ns:List Nat}{xs ys:List (Vl×V)}{bs0 bs:List (Bk×V)}{fa fn:Nat->Option (List Nat×V)}{ss:List (List (Fm×V×V))}{fl:KF->Option (List Nat×V)}
def kOf(u:U)(A:Nat->Int)(bs:List (Bk×V))(b:Nat):Bk×V:=(na u A (u.blocks.getD b PG),PL bs b)
theorem zdL(g:Dc u az)(hb:V1 u.blocks bs0 fn)(R:ss.map (λl=>l.map Prod.fst)=u.en)(T:NbB u az u.blocks.length bs0 bs){S:Int->Option V}{a:List (List (Fm×V×V))}{EO:V}(ax:ns.length=u.eh.length)(ah:∀v,v<u.eh.length->ns[v]? =some (if v∈fL u (qZ az) then(fL u (qZ az)).idxOf v else 0))
  (U:Z1 ss (Bq ns az) (lY (sW u (fL u (qZ az)))) S fl a)
  (H0:eo F h (Nx l1 T1 l4 T4 lt Tt num ns [.I u.func,.I u.pc,wv,wb,ws] pP az (Sx fl ss ws lm S lb Tb lr Tr l4 l1 l3 gZ (.I u.func) (.I u.pc) G7 .ef EO a
    (eR yh hK xs wv::eR vP fR bs wb::fS eJ fa::fS eJ fn::eR yh hK ys G7::eR vP fR [] .ef::ez l2 gZ [.I 0,.I 0,.ef,.ef,.ef]::ds))))
  (H:∀h' S c a b EO,Sn F h F h'->Z1 ss (Bq ns az) (GL u (qZ az)) S c a->
   eo F h' (Nx l1 T1 l4 T4 lt Tt num ns [.I u.func,.I u.pc,wv,wb,ws] pP az (Sx c ss ws lm S lb Tb lr Tr l4 l1 l3 gZ (.I u.func) (.I u.pc) G7 b EO a
    (eR yh hK xs wv::eR vP fR bs wb::fS eJ fa::fS eJ fn::eR yh hK ys G7::eR vP fR ((List.range u.blocks.length).map (kOf u (qZ az) bs0)) b::ez l2 gZ [.I u.func,.I u.pc,G7,b,EO]::ds)))->
   Q (.agg [.I u.func,.I u.pc,G7,b,EO]) h') :
  lP CS Q [.ptr l1 0,.ptr l2 0,.ptr l3 0,.ptr l4 0,.func fQ [] [.ptr lb 0,.ptr l3 0,.ptr l1 0,.ptr lr 0],wb,.I bs.length,.I 0] h:=by
 have nv:=g.nv;have nb:=g.nb;have gl:=g.len;have W:bs0.length=u.blocks.length:=by rw[<-hb.fst,GM]
 have X:bs.length=u.blocks.length:=by rw[T.len,W]
 have lss:ss.length=u.en.length:=by rw[<-R,GM]
 obtain⟨A,hA⟩:∃A,qZ az=A:=⟨_,rfl⟩
 have ai:∀v,v<u.eh.length->Bq ns az v=nm u A v:=λv hv=>by rw[<-hA];exact Pb g ah hv
 rw[hA]at H U;have C:=T.row;rw[hA]at C
 obtain ⟨I,hI⟩:∃I:Nat->LP,I=λk l h'=>∃(i:Nat) (S:Int->Option V) (c:KF->Option (List Nat×V)) (a:List (List (Fm×V×V))) (b EO:V),l=[.ptr l1 0,.ptr l2 0,.ptr l3 0,.ptr l4 0,.func fQ [] [.ptr lb 0,.ptr l3 0,.ptr l1 0,.ptr lr 0],wb,.I bs.length,.I i]/\i+k=bs.length/\Sn F h F h'/\Z1 ss (Bq ns az) (lY (sW u (fL u A)++BA (u.blocks.take i))) S c a/\
   eo F h' (Nx l1 T1 l4 T4 lt Tt num ns [.I u.func,.I u.pc,wv,wb,ws] pP az (Sx c ss ws lm S lb Tb lr Tr l4 l1 l3 gZ (.I u.func) (.I u.pc) G7 b EO a
    (eR yh hK xs wv::eR vP fR bs wb::fS eJ fa::fS eJ fn::eR yh hK ys G7::eR vP fR ((List.range i).map (kOf u A bs0)) b::ez l2 gZ [.I 0,.I 0,.ef,.ef,.ef]::ds))):=⟨_,rfl⟩
 refine B7 I (λk x1 x2 x3 x4 ay ar au aw h1 hi=>?_) (k:=bs.length) ?_
 ·rw [hI]at hi;obtain⟨i,S,c,a,b,EO,⟨⟩,hk,s1,Y,E⟩:=hi;unfold tP;by_cases hi:i<bs.length
  ·refine gB ?_;obtain⟨⟨B,w⟩,G⟩:∃y,bs0[i]? =some y:=⟨_,hO (by omega)⟩
   have hB:u.blocks[i]? =some B:=by rw[<-hb.fst,Cq,G];rfl
   have Z:=C i B w G;rw[if_pos (by omega)]at Z;have aj:kOf u A bs0 i=(na u A B,w):=by unfold kOf PL;rw[G,G2,hB];rfl
   have ak:=zE hB;obtain⟨e1,e2⟩:=g.ends i B hB;obtain⟨lv,ov,wl,z1,z2,⟨bv,bp,rfl,iv,ip,w1⟩,_⟩:=E.X1 13 rfl Z .i64;have z1:gJ 6 wb (.I i)=some (.ptr lv ov):=z1;refine ee z1 (ee z2 ?_);refine gY E rfl rfl (by simp only[kE,ey,iv.one,ip.one];simp only[show w.one=true from w1];rfl) λJ f s2=>?_;generalize h1.next=lx at*;have iv:=iv.since s2;have ip:=ip.since s2;have f:eo F J (Nx l1 T1 l4 T4 lt Tt num ns [.I u.func,.I u.pc,wv,wb,ws] pP az (Sx c ss ws lm S lb Tb lr Tr l4 l1 l3 gZ (.I u.func) (.I u.pc) G7 b EO a (ez lx 43 (kE {B with eh:=(B.eh.filter (stays A)).map (fL u A).idxOf} bv w bp)::_))):=f.JK 12 (by simp)
   have K:∀O S2 x m t,Sn F J F O->Z1 ss (Bq ns az) (lY (sW u (fL u A)++BA (u.blocks.take (i+1)))) S2 x m->
     eo F O (Nx l1 T1 l4 T4 lt Tt num ns [.I u.func,.I u.pc,wv,wb,ws] pP az (Sx x ss ws lm S2 lb Tb lr Tr l4 l1 l3 gZ (.I u.func) (.I u.pc) G7 b t m
      (ez lx 43 (kE (na u A B) bv w bp)::eR yh hK xs wv::eR vP fR bs wb::fS eJ fa::fS eJ fn::eR yh hK ys G7::eR vP fR ((List.range i).map (kOf u A bs0)) b::ez l2 gZ [.I 0,.I 0,.ef,.ef,.ef]::ds)))->
     jP CS Q (Db I k) [.ptr l1 0,.ptr l2 0,.ptr l3 0,.ptr l4 0,.func fQ [] [.ptr lb 0,.ptr l3 0,.ptr l1 0,.ptr lr 0],.ptr lx 0,wb,.I bs.length,.I i] O:=by
    intro O S2 x m t s3 hS H3;have al:=iv.since s3;have am:=ip.since s3;refine AP ?_;unfold sB;refine oF (H3.ld 10 rfl rfl) (ee (H3.rh 12 rfl rfl) ?_);rw[qa (sz:=6) (w:=kE (na u A B) bv w bp) rfl rfl (by simp only[kE,ey,iv.one,ip.one];simp only[show w.one=true from w1];rfl),fG];obtain⟨p,L,e4,_,z,s4⟩:=H3.uD 18 rfl (j7:=96) (Ca:=43) (y:=(na u A B,w)) (w:=kE (na u A B) bv w bp) (ro:=false) ⟨bv,bp,rfl,al,am,w1⟩ (by decide) (by decide) (by simp;omega);have M:fg 43 6 96 b (.slice O.next 0 1) (O.new (.cells 43 6 true false (kE (na u A B) bv w bp)))=some (.val p L):=e4;rw[M,ei];simp only[jo,l0]at z;obtain⟨h5,e5,_,P,s5⟩:=z.st 10 (o:=3) (u:=p) rfl (by simp) (z.one 18 rfl);refine ee pf ?_;have N:gM 1 (.ptr l3 (0+3)) p L=some (.val .undef h5):=by rw[zA];exact e5
    rw[N,ei];simp only[jo,l0]at P;refine fM ⟨k-1,by omega,?_⟩;rw[hI];refine⟨i+1,S2,x,m,p,t,rfl,by omega,(((s1.trans s2).trans s3).trans s4).trans s5,hS,?_⟩;have H6:=P.CZ 12 (by simp);rw[Yl,Nh,wCC,Yp,aj];exact H6
   have s:BA (u.blocks.take (i+1))=BA (u.blocks.take i)++(if B.fin=3 then[B.state] else[]):=by
    rw[ak];unfold BA;rw[List.filterMap_append,List.filterMap_cons];by_cases e:B.fin=3
    ·rw[if_pos e,if_pos e];rfl
    ·rw[if_neg e,if_neg e];rfl
   have aa:lY (sW u (fL u A)++BA (u.blocks.take (i+1))) <+: GL u A:=by
    have:JZ u A=(sW u (fL u A)++BA (u.blocks.take (i+1)))++BA (u.blocks.drop (i+1)):=by
     rw[Om,Ii];congr 1
     conv=>lhs;rw[<-Ym (i+1) u.blocks]
     exact List.filterMap_append
    unfold GL;rw[this];exact He _ _
   have j:(na u A B).cond=if B.fin=2 then nm u A B.cond else B.cond:=rfl
   have d:(na u A B).state=if B.fin=3 then(GL u A).idxOf B.state else B.state:=rfl
   refine oF (f.ld 12 rfl rfl) (gi ?_);by_cases c2:B.fin=2
   ·rw [if_neg (show ¬B.fin=3 by omega),GP]at s;refine gv (by show(B.fin:Int)=2;omega) ?_;refine ee (f.ld 1 rfl rfl) (ee (f.ld 0 rfl rfl) (oF (f.ld 12 rfl rfl) ?_));refine IQ f rfl (by omega) (by omega) g.sub (by rw[gl];exact e1 c2) λr q q1 q2=>⟨jK _,ee q1 (ee q2 (ee pf ⟨f.ld 1 rfl rfl,?_⟩))⟩
    obtain⟨L,e4,n4,z,s4⟩:=f.st 12 (o:=2) (u:= .I (Bq ns az B.cond:Nat)) rfl (by simp[kE]) rfl;have M:gM 1 (.ptr lx (0+2)) (.I (Bq ns az B.cond:Nat)) J=some (.val .undef L):=by rw[zA];exact e4
    rw [show({B with eh:=(B.eh.filter (stays A)).map (fL u A).idxOf}:Bk).cond=B.cond from rfl,M,ei];simp only[jo,l0]at z;have hq:(kE {B with eh:=(B.eh.filter (stays A)).map (fL u A).idxOf} bv w bp).set 2 (.I (Bq ns az B.cond:Nat))=kE (na u A B) bv w bp:=by
     unfold kE;rw[j,d,if_pos c2,if_neg (by omega),ai _ (e1 c2)];rfl
    rw[hq]at z;exact⟨n4,K L S c a EO s4 (by rw[s];exact Y) z⟩
   ·refine gg (by show ¬(B.fin:Int)=2;omega) (gi ?_);by_cases c3:B.fin=3
    ·refine gv (by show(B.fin:Int)=3;omega) (oF (f.ld 12 rfl rfl) ?_);show cP CS fQ [.I B.state,.ptr lb 0,.ptr l3 0,.ptr l1 0,.ptr lr 0] J _;obtain⟨sl,D⟩:∃sl,ss[B.state]? =some sl:=⟨_,hO (by have:=e2 c3;omega)⟩
     have an:u.en[B.state]? =some (sl.map Prod.fst):=by rw[<-R,Cq,D];rfl
     obtain⟨q1,q2⟩:=g.st _ _ an;rw[GM]at q1;refine NZ f Y (by omega) (by omega) g.sub D (by have:=g.ns;omega) q1 (λy hy=>?_) λL ao S4 ab ac s4 ae z=>?_
     ·obtain⟨r1,r2,r3,r4⟩:=q2 y.1 (wB8 hy);rw[gl];exact⟨r1,r2,r3,r4⟩
     rw[if_pos c3]at s;have ap:U9 (lY (sW u (fL u A)++BA (u.blocks.take i))) B.state=lY (sW u (fL u A)++BA (u.blocks.take (i+1))):=by rw[s,<-Ii,yB];rfl
     rw [ap]at ae⊢;have ag:B.state∈lY (sW u (fL u A)++BA (u.blocks.take (i+1))):=(uz _ _).2 (by rw[s];simp);have aq:(lY (sW u (fL u A)++BA (u.blocks.take (i+1)))).idxOf B.state=(na u A B).state:=by
      rw[<-MR aa ag,d,if_pos c3]
     rw[aq];obtain⟨h5,e5,_,P,s5⟩:=z.st 12 (o:=5) (u:= .I ((na u A B).state:Nat)) rfl (by simp[kE]) rfl;refine ee pf ?_;have N:gM 1 (.ptr lx (0+5)) (.I ((na u A B).state:Nat)) L=some (.val .undef h5):=by rw[zA];exact e5
     rw [N,ei];simp only[jo,l0]at P;have hq:(kE {B with eh:=(B.eh.filter (stays A)).map (fL u A).idxOf} bv w bp).set 5 (.I ((na u A B).state:Nat))=kE (na u A B) bv w bp:=by
      unfold kE;rw[j,if_neg c2];rfl
     rw[hq]at P;exact K h5 S4 ao ab ac (s4.trans s5) ae P
    ·refine gg (by show ¬(B.fin:Int)=3;omega) (K J S c a EO (Sn.refl _ _) ?_ ?_)
     ·rw[s,if_neg c3,GP];exact Y
     ·have:kE (na u A B) bv w bp=kE {B with eh:=(B.eh.filter (stays A)).map (fL u A).idxOf} bv w bp:=by
       unfold kE;rw[j,d,if_neg c2,if_neg c3];rfl
      rw[this];exact f
  ·refine iJ ?_;obtain rfl:i=bs.length:=by omega
   refine ee (E.rh 10 rfl rfl) ?_;obtain⟨J,e2,_,f,s2⟩:=E.WS 18 (ws:=[.I u.func,.I u.pc,G7,b,EO]) (n:=5) rfl rfl rfl (by simp only[ey,E.one 16 rfl,E.one 17 rfl,E.one 11 rfl];rfl);rw[e2,ei];simp only[jo,l0]at f;refine ee (f.rh 18 rfl rfl) ?_;rw[X,JF]at Y;rw[X]at f;exact H J S c a b EO (s1.trans s2) Y f
 ·rw[hI];exact⟨0,S,fl,a,.ef,EO,rfl,by omega,Sn.refl _ _,by rw[wBv];show Z1 _ _ (lY (_++[])) _ _ _;rw[GP];exact U,H0⟩
end
open Un Dm
section
variable{F F':Nat->Prop}{h h':Hp}{cs ds:List Pc}{Q:fy}{u:U}{wv wb ws pP:V}{lt Tt:Nat}{az:List Int}{xs:List (Vl×V)}{bs:List (Bk×V)}{fa fn:Nat->Option (List Nat×V)}{ss:List (List (Fm×V×V))}{fl:KF->Option (List Nat×V)}
theorem eo.RI(H:eo F h cs)(n:Nat):∃G,eo G h (cs.drop n)/\Sn F h G h/\∀(i:Nat)(c:Pc),i<n->cs[i]? =some c->∀l,c.mw l->G l:=by
 have g:∀{i:Nat} {c:Pc},(cs.take n)[i]? =some c->i<n/\cs[i]? =some c:=λ{i c} hc=>by
  have a:=(jR.1 hc).1;rw[Ip]at a;rw[wBI (by omega)]at hc;exact⟨by omega,hc⟩
 refine⟨λl=>F l\/Mb (cs.take n) l,⟨λl a=>a.elim (H.fl l) λ⟨i,c,hc,e⟩=>(c.Nz (H.ok i c (g hc).2) l e).1,λi c hc=>?_,λi j c d hc b m=>?_⟩,⟨jK _,λ_ _=>rfl,λ_ h=> .inl h⟩,λi c hi hc l a=> .inr ⟨i,c,by rw[wBI hi];exact hc,a⟩⟩
 ·rw[wBN]at hc;refine c.mono (H.ok _ c hc) (λ_ h=> .inl h) λl a f=>?_;rcases f with f|⟨j,d,b,e⟩
  ·exact(c.Nz (H.ok _ c hc) l a).2 f
  ·obtain⟨o,k⟩:=g b;exact H.D0 (n+i) j c d hc k (by omega) l a e
 ·rw[wBN]at hc b;exact H.D0 (n+i) (n+j) c d hc b (by omega)
section
variable{G:Nat->Prop}
theorem iq.ofRow{α β:Type}{E:ri α} {E':ri β}(H:eo F h cs)(i:Nat){ty:Nat}{xs:List α}{ys:List β}{v:V}(hi:cs[i]? =some (eR E ty xs v))(g:∀l,F l->G l)(j:∀l,Loc v l->G l)(m:E'.sz=E.sz)(b:ys.length=xs.length)(c:∀(k:Nat) x y cs,xs[k]? =some x->ys[k]? =some y->E.rel F h x cs->E'.rel G h y cs):iq E' G h ys v:=by
 have d:=(jR.1 hi).1;exact((H.Zt (E':=E.fix F h) i hi rfl rfl λk x y cs e a c=>by rw[e]at a;cases a;exact c).row i (Hf d)).read.Zt m (λl b=>b.elim (g l) (j l)) b λk x y cs e a f=>c k x y cs e a f
theorem Kx(H:eo F h cs)(j:Nat){ι:Type}{ty:Nat}{f:ι->Option (List Nat×V)}(a:cs[j]? =some (fS ty f))(b:∀l,F l->G l)(c:∀l,(fS ty f).mw l->G l){i:ι}{xs:List Nat}{v:V}(hi:f i=some (xs,v)):iq eN G h xs v:=
 (H.rows j a hi).ZS b λl d=>c l ⟨i,xs,v,hi,d⟩
end
theorem Sl(g:Dc u az)(hc:XW u.eh xs fa)(A:V1 u.blocks bs fn)(p:CpS u.en ss fl)
  (H0:eo F h (eR yh hK xs wv::eR vP fR bs wb::fS eJ fa::fS eJ fn::eR eZ eJ az pP::ez lt Tt [.I u.func,.I u.pc,wv,wb,ws,pP]::eR (eL PY) me ss ws::fS eJ fl::cs))
  (H:∀F' h' vv vb vs,Sn F h F' h'->eo F' h' cs->ym F' h' (ji u (qZ az)) vv vb vs->Q (.agg (uC (ji u (qZ az)) vv vb vs)) h') :
  cP CS lD [.ptr lt 0] h Q:=by
 refine Q7 g hc A H0 λF1 h1 l1 T1 l2 l3 l4 T4 lm lb Tb lr Tr num ns ac ae s1 P C i H1=>?_;refine zdD g hc p C i H1 λh2 ag S2 ah aa G7 EO s2 hN H2=>?_;have D:=hN.st;rw[JF]at D;refine zdL g A p.fst P C i D H2 λR S3 ai ab S E s3 O m=>?_;obtain⟨G,H4,s4,q⟩:=m.RI 20;have e:∀l,F1 l->G l:=λl hl=>s4.mono l hl;refine H G R G7 S E (((s1.trans s2).trans s3).trans s4) H4 ⟨?_,?_,?_⟩
 ·refine iq.ofRow m 16 rfl e (q 16 _ (by decide) rfl) rfl (by simp[ji]) λk x y ws c b o=>?_;rw[Cq]at c;have b:((fL u (qZ az)).map λn=>ij u (qZ az) (u.eh.getD n ZZ))[k]? =some y:=b;rw[Cq]at b
  cases hk:(fL u (qZ az))[k]? with
  |none=>rw[hk]at c;cases c
  | some n=>
    rw[hk]at c b;cases c;cases b;obtain⟨rfl,_⟩:=o;have T:=Gl g.mH (Ik hk);obtain⟨⟨x,w⟩,r⟩:∃y,xs[n]? =some y:=⟨_,hO (by rw[<-GM (f:=Prod.fst),hc.fst];exact T)⟩
    have I:u.eh[n]? =some x:=by rw[<-hc.fst,Cq,r];rfl
    have U:Yu u (qZ az) xs n=(ij u (qZ az) x,w):=by unfold Yu wV;rw[r,G2,I];rfl
    have J:=hN.row n x w r;rw[JF,if_pos (Ik hk)]at J;have V:u.eh.getD n ZZ=x:=by rw[G2,I];rfl
    show eV.rel G R (ij u (qZ az) (u.eh.getD n ZZ)) _;rw[U,V];exact⟨w,rfl,Kx m 14 rfl e (q 14 _ (by decide) rfl) J⟩
 ·refine iq.ofRow m 17 rfl e (q 17 _ (by decide) rfl) rfl (by simp[ji]) λk x y ws c b o=>?_;rw[Cq]at c;have b:(u.blocks.map (na u (qZ az)))[k]? =some y:=b;rw[Cq]at b
  cases hB:u.blocks[k]? with
  |none=>rw[hB]at b;cases b
  | some B=>
    rw[hB]at b;cases b;have K:=(jR.1 hB).1;rw[wBo K]at c;cases c;obtain⟨⟨B',w⟩,t⟩:∃y,bs[k]? =some y:=⟨_,hO (by rw[<-GM (f:=Prod.fst),A.fst];exact K)⟩
    have L:u.blocks[k]? =some B':=by rw[<-A.fst,Cq,t];rfl
    rw[hB]at L;cases L;have W:kOf u (qZ az) bs k=(na u (qZ az) B,w):=by unfold kOf PL;rw[t,G2,hB];rfl
    rw[W]at o;obtain⟨bv,bp,rfl,iv,ip,_⟩:=o;exact⟨bv,w,bp,rfl,iv.mono e,Kx m 15 rfl e (q 15 _ (by decide) rfl) (A.row k B w t),ip.mono e⟩
 ·refine iq.ofRow m 11 rfl e (q 11 _ (by decide) rfl) rfl (by simp[ji,O.out]) λk x y ws c b o=>?_;rw[O.out,Cq]at c;have b:((GL u (qZ az)).map λs=>(u.en.getD s []).map (U8 u (qZ az)))[k]? =some y:=b;rw[Cq]at b
  cases hk:(GL u (qZ az))[k]? with
  |none=>rw[hk]at c;cases c
  | some s=>
    rw[hk]at c b;cases c;cases b;have M:=Ik hk;have mM:=O.lt s M;obtain⟨l,d⟩:∃l,ss[s]? =some l:=⟨_,hO mM⟩
    have N:u.en[s]? =some (l.map Prod.fst):=by rw[<-p.fst,Cq,d];rfl
    have g1:ss.getD s []=l:=by rw[G2,d];rfl
    have g2:u.en.getD s []=l.map Prod.fst:=by rw[G2,N];rfl
    show(eL eF).rel G R ((u.en.getD s []).map (U8 u (qZ az))) ws;rw[g2];obtain⟨f,rfl,X⟩:=o;dsimp only at X;rw[g1]at X;refine⟨f,rfl,X.Zt rfl e (by simp) λj z y cs Y b o=>?_⟩;rw[List.map_map,Cq,Y]at b;cases b;obtain⟨z,a,w⟩:=z;obtain⟨rfl,_,_⟩:=o;obtain⟨r1,Z⟩:=O.rows s l j z a w d Y;rw[if_pos M]at r1 Z;obtain⟨_,q2⟩:=g.st s _ N;obtain⟨_,_,q3,q4⟩:=q2 z (wB8 (f:=Prod.fst) (Ik Y));rw[Wx λv hv=>Pb g i (q3 v hv)]at r1;rw[Wx λv hv=>Pb g i (q4 v hv)]at Z;exact⟨a,w,rfl,Kx m 5 rfl e (q 5 _ (by decide) rfl) r1,Kx m 5 rfl e (q 5 _ (by decide) rfl) Z⟩
end
section
variable{F:Nat->Prop}{h:Hp}{cs:List Pc}{u:U}{wv wb ws:V}{xs:List (Vl×V)}{bs:List (Bk×V)}{ss:List (List (Fm×V×V))}{fa fn:Nat->Option (List Nat×V)}{fl:KF->Option (List Nat×V)}
theorem eo.Wj(hc:XW u.eh xs fa)(i:V1 u.blocks bs fn)(hs:CpS u.en ss fl)(H:eo F h (eR yh hK xs wv::eR vP fR bs wb::eR (eL PY) me ss ws::fS eJ fa::fS eJ fn::fS eJ fl::cs)) :
  ∃G,eo G h cs/\Sn F h G h/\ym G h u wv wb ws:=by
 obtain⟨G,n,s4,e⟩:=H.RI 6;have c:∀l,F l->G l:=λl o=>s4.mono l o;refine⟨G,n,s4,⟨?_,?_,?_⟩⟩
 ·refine iq.ofRow H 0 rfl c (e 0 _ (by decide) rfl) rfl (by rw[<-hc.fst];simp) λk x y ws d b g=>?_;obtain⟨x,w⟩:=x;rw[<-hc.fst,Cq,d]at b;cases b;obtain⟨rfl,_⟩:=g;exact⟨w,rfl,Kx H 3 rfl c (e 3 _ (by decide) rfl) (hc.row k x w d)⟩
 ·refine iq.ofRow H 1 rfl c (e 1 _ (by decide) rfl) rfl (by rw[<-i.fst];simp) λk x y ws d b g=>?_;obtain⟨x,w⟩:=x;rw[<-i.fst,Cq,d]at b;cases b;obtain⟨bv,bp,rfl,p,ip,_⟩:=g;exact⟨bv,w,bp,rfl,p.mono c,Kx H 4 rfl c (e 4 _ (by decide) rfl) (i.row k x w d),ip.mono c⟩
 ·refine iq.ofRow H 2 rfl c (e 2 _ (by decide) rfl) rfl (by rw[<-hs.fst];simp) λk x y ws d b g=>?_;rw[<-hs.fst,Cq,d]at b;cases b;obtain⟨f,rfl,q⟩:=g;refine⟨f,rfl,q.Zt rfl c (by simp) λj z y cs m b g=>?_⟩;rw[Cq,m]at b;cases b;obtain⟨z,a,w⟩:=z;obtain⟨rfl,_,_⟩:=g;obtain⟨r1,r⟩:=hs.loc k x j z a w d m;exact⟨a,w,rfl,Kx H 5 rfl c (e 5 _ (by decide) rfl) r1,Kx H 5 rfl c (e 5 _ (by decide) rfl) r⟩
end
open Un Dm
section
variable{F F':Nat->Prop}{h h':Hp}{cs ds:List Pc}{Q:fy}{u:U}{vv vb vs pP:V}{az:List Int}
theorem WQ(g:UG u)(C:Ls u)(m:az.length=u.eh.length)(D:∀kp u' a seen post,IH u.blocks.length (next u) seen post []->kp=(λb=>post.reverse.contains b)->Cut u kp u'->Ox u kp az a->Dc u' a)
  (s:eo F h (eR eZ eJ az pP::cs)) (v:ym F h u vv vb vs)
  (H:∀F' h' kp u' a seen post wv wb ws,Sn F h F' h'->eo F' h' cs->IH u.blocks.length (next u) seen post []->kp=(λb=>post.reverse.contains b)->Cut u kp u'->Ox u kp az a->ym F' h' (ji u' (qZ a)) wv wb ws->Q (.agg (uC (ji u' (qZ a)) wv wb ws)) h') :
  cP CS Ap [.agg (uC u vv vb vs),pP] h Q:=by
 refine TB rfl rfl ?_;unfold LG;refine jS s v.one λE I w=>Aa I λh2 x y=>?_;generalize h.next=l1 at*;generalize E.next=l2 at*;have J:=(v.since w).since y;refine ee (x.rh 1 rfl rfl) ?_;refine UM g x J λF3 K wv wb ws xs bs ss fa fn fl L hc M hs d=>?_;have hp:fV [.I 0,.I 0,.ef,.ef,.ef,.ef] [(0,5),(5,1)] [(0,V.agg (uC u wv wb ws)),(1,pP)]=some (V.agg [.I u.func,.I u.pc,wv,wb,ws,pP]):=by
  rcases s.row 0 rfl with⟨rfl,_⟩|⟨t,N,rfl,_⟩ <;> rfl
 refine ee hp ?_;refine jS d (by simp only[ey,d.one 0 rfl,d.one 1 rfl,d.one 2 rfl,d.one 8 rfl];rfl) λh4 O s4=>?_;generalize K.next=lt at*;have P:=O.perm [1,2,4,5,9,0,3,6,7,8] 10 (by decide) (by decide) (by simp);refine Vz C hc M m (d.one 2 rfl) P λF6 h6 seen post kp u' R S T U a W X G e c o p f z=>?_;have gn:=D kp u' a seen post G e c f;have Y:=c.func;have Z:=c.pc;rw[<-Y,<-Z]at z;refine Sl gn o p (by rw[c.en];exact hs) z λA h7 i j k s7 q l=>?_;have q:eo A h7 (ez l2 gZ _::ez l1 gZ _::cs):=q;obtain⟨h8,e8,_,r,B⟩:=q.WS 0 (ws:=uC (ji u' (qZ a)) i j k) (n:=5) rfl rfl rfl l.one;rw[e8,ei];simp only[jo]at r;refine ee (r.rh 0 rfl rfl) ?_;exact H A h8 kp u' a seen post i j k ((((((w.trans y).trans L).trans s4).trans X).trans s7).trans B) r.tail.tail G e c f (l.since B)
theorem XD{n:Nat}{nx:Nat->List Nat}{seen:List Bool}{post:List Nat}(G:IH n nx seen post []):∀{b:Nat}{l:List Nat},Pt nx b l->b∈post
 | _,_,.nil=>by
   obtain⟨p,hp⟩:=G.last rfl
   rw[hp];simp
 | _,_,.step h e=>by
   rcases(G.iff _).1 (G.closed _ (XD G h) _ e)with a|a
   ·exact a
   ·simp at a
theorem OQ(g:Good u)(e:Qz u):Ls u:=⟨Ol g,g.nv,g.Px,g.mH,λb B c=>⟨Am g c,λp hp=>by
 rw[g.fh b B c]at hp;obtain⟨q,i,a,_,d⟩:=uG.1 hp;have:=(jR.1 a).1;omega⟩,λv b k x B a f d h=>(g.KO v b k x B a f d h).2,e⟩
theorem OX(g:Good u)(q:Qz u)(k:az.length=u.eh.length)(d:∀(v:Nat)(a:Int),az[v]? =some a->a<az.length):Dc u az where
 nv:=g.nv
 nb:=g.nb
 ns:=g.ns
 once:=g.Px
 mH:=g.mH
 len:=k
 sub:=d
 parts v x hx:=by
  have c:∀w∈jk x,w<u.eh.length:=λw l=>xj (g.use v x hx w l);unfold jk at c;refine⟨q v x hx,?_⟩;by_cases i:x.op=21
  ·rw[if_pos i]at c;have o:two x.op=false:=by rw[i];rfl
   have r:pY x.op=false:=by rw[i];rfl
   exact⟨λh=>(by rw[o,r]at h;simp at h),λh=>(by rw[o]at h;cases h),λ_=>c,g.leave v x hx⟩
  ·rw [if_neg i]at c;by_cases c2:x.op=20
   ·rw[if_pos c2]at c;have j:=g.putAt v x hx c2;rw[Yq (by omega)]at c;exact⟨λ_=>c _ (by simp),λ_=>c _ (by simp),λ_ w l=>c w (by simp[l]),g.leave v x hx⟩
   ·rw [if_neg c2]at c;refine⟨λh=>?_,λh=>?_,λh=>absurd h (by omega),g.leave v x hx⟩
    ·by_cases m:two x.op=true
     ·rw[if_pos m]at c;exact c _ (by simp)
     ·rw[if_neg m,if_pos (h.resolve_right m)]at c;exact c _ (by simp)
    ·rw[if_pos h]at c;exact c _ (by simp)
 ends b B hB:=by
  rcases g.fin b B hB with⟨j,_⟩|⟨j,_,e⟩|⟨j,_,e⟩
  ·exact⟨λh=>by omega,λh=>by omega⟩
  ·exact⟨λ_=>xj e,λh=>by omega⟩
  ·exact⟨λh=>by omega,λ_=>e⟩
 st s fs hfs:=by
  obtain⟨j,e⟩:=zN g s fs hfs;refine⟨by omega,λf n=>?_⟩;obtain⟨t,y⟩:=e f n;have p:=CT g hfs;refine⟨by omega,by omega,λv hv=>p v ?_,λv hv=>p v ?_⟩
  ·exact RT.2 ⟨f,n,TX _ hv⟩
  ·exact RT.2 ⟨f,n,wBR _ hv⟩
theorem YX(g:Good u)(n:Qz u)(j:az.length=u.eh.length)(k:∀(v:Nat)(a:Int),az[v]? =some a->a<az.length)(p:eo F h (eR eZ eJ az pP::cs))(q:ym F h u vv vb vs)
  (H:∀F' h' wv wb ws,Sn F h F' h'->eo F' h' cs->ym F' h' (ji u (qZ az)) wv wb ws->Q (.agg (uC (ji u (qZ az)) wv wb ws)) h') :
  cP CS Ap [.agg (uC u vv vb vs),pP] h Q:=by
 have m:∀kp u' d seen post,IH u.blocks.length (next u) seen post []->kp=(λb=>post.reverse.contains b)->Cut u kp u'->Ox u kp az d->u' = u/\d=az:=λkp u' d seen post G e c f=>by
  have i:∀b,b<u.blocks.length->kp b=true:=λb r=>by
   obtain⟨l,s⟩:=g.reach b r;rw[e];exact List.contains_iff_mem.2 (wBP.2 (XD G s))
  exact⟨c.eq g i,f.eq i⟩
 refine WQ (IB g n) (OQ g n) j (λkp u' d seen post G e c f=>?_) p q λF' h' kp u' d seen post wv wb ws t w G e c f o=>?_
 ·obtain⟨rfl,rfl⟩:=m kp u' d seen post G e c f;exact OX g n j k
 ·obtain⟨rfl,rfl⟩:=m kp u' d seen post G e c f;exact H F' h' wv wb ws t w o
end
