/- Parts. -/
import Derived.Test.YtjgjgngfjopaaaaDoorM30
namespace Go.Proofs.YtjgjgngfjopaaaaDoor.Hx
open Un Dm
def YO:Vl:=⟨0,0,0,0,[],0⟩
def wV(xs:List (Vl×V))(n:Nat):V:=match xs[n]? with
 |some x=>x.2
 |none=> .undef
def XX(u:U)(A:Nat->Int)(xs:List (Vl×V))(n:Nat):Vl×V:=(gW u A (u.ef.getD n YO),wV xs n)
section
variable{F F':Nat->Prop}{h h':Hp}{cs ds:List Pc}{Q:fy}{u:U}{wv wb ws oT num:V}{lt Tt l1 T1 l2 l3 l4 T4 lm lb Tb lr Tr:Nat}{az:List Int}{ns:List Nat}{xs:List (Vl×V)}{bs:List (Bk×V)}{fa fn:Nat->Option (List Nat×V)}{ss:List (List (Fm×V×V))}{fl:KF->Option (List Nat×V)}
theorem Oh(g:CH u az)(a:∀v,v<u.ef.length->ns[v]? =some (if v∈fI u (pC az) then(fI u (pC az)).idxOf v else 0)){v:Nat}(hv:v<u.ef.length):AZ ns az v=nm u (pC az) v:=by
 have b:=Rc («as»:=pC az) (n:=u.ef.length) (λw d=>by
  have c:=gP (show w<az.length by rw[g.len];exact d);have e:=g.sub w _ c;rw[OL c];have:=g.len;omega) (u.ef.length+1) v hv
 unfold AZ nm;rw[g.len,BO,a _ b];rfl
structure NV (u:U) (az:List Int) (ns:List Nat) (xs:List (Vl×V)) (ss:List (List (Fm×V×V))) (i:Nat) (fa:Nat->Option (List Nat×V)) (S:Int->Option V) (fl:KF->Option (List Nat×V)) (a:List (List (Fm×V×V))):Prop where
 row:∀v x w,xs[v]? =some (x,w)->fa v=some (if v∈(fI u (pC az)).take i then(gW u (pC az) x).args else x.args,w)
 st:Yk ss (AZ ns az) (kP (rU u ((fI u (pC az)).take i))) S fl a
theorem zcY(g:CH u az)(hc:XW u.ef xs fa)(Z:CpS u.eh ss fl){p:V}(aH:ns.length=u.ef.length)(ay:∀v,v<u.ef.length->ns[v]? =some (if v∈fI u (pC az) then(fI u (pC az)).idxOf v else 0))
  (H0:en F h (Nx l1 T1 l4 T4 lt Tt num ns [.I u.func,.I u.pc,wv,wb,ws] oT az (Sx fl ss ws lm (λ_=>none) lb Tb lr Tr l4 l1 l3 gY (.I u.func) (.I u.pc) .ee .ee .ee []
    (eR yj hH xs wv::eR vf fQ bs wb::fT ey fa::fT ey fn::eR yj hH [] .ee::eR vf fQ [] .ee::ev l2 gY [.I 0,.I 0,.ee,.ee,.ee]::eR eN ey (fI u (pC az)) p::cs))))
  (H:∀h' f S t z G0 Ew,Sn F h F h'->NV u az ns xs ss (fI u (pC az)).length f S t z->
   en F h' (Nx l1 T1 l4 T4 lt Tt num ns [.I u.func,.I u.pc,wv,wb,ws] oT az (Sx t ss ws lm S lb Tb lr Tr l4 l1 l3 gY (.I u.func) (.I u.pc) G0 .ee Ew z
    (eR yj hH xs wv::eR vf fQ bs wb::fT ey f::fT ey fn::eR yj hH ((fI u (pC az)).map (XX u (pC az) xs)) G0::eR vf fQ [] .ee::ev l2 gY [.I 0,.I 0,.ee,.ee,.ee]::eR eN ey (fI u (pC az)) p::cs)))->
   kY CS Q [.ptr l1 0,.ptr l2 0,.ptr l3 0,.ptr l4 0,.func fO [] [.ptr lb 0,.ptr l3 0,.ptr l1 0,.ptr lr 0],wb,.I bs.length,.I 0] h') :
  lg CS Q [.ptr l1 0,.ptr l2 0,.ptr l3 0,.ptr l4 0,.ptr lr 0,.func fO [] [.ptr lb 0,.ptr l3 0,.ptr l1 0,.ptr lr 0],p,.I ((fI u (pC az)).length:Nat),.I 0] h:=by
 have nv:=g.nv;have gl:=g.len;have aI:xs.length=u.ef.length:=by rw[<-hc.fst,CD]
 have lss:ss.length=u.eh.length:=by rw[<-Z.fst,CD]
 have pn:∀{l o:Nat},ij (.ptr l o)=some (.ptr l o):=fX _ _;have pf:∀{l o k:Nat},fH k (.ptr l o)=some (.ptr l (o+k)):=eJ _ _ _;obtain⟨A,hA⟩:∃A,pC az=A:=⟨_,rfl⟩
 have aa:∀v,v<u.ef.length->AZ ns az v=nm u A v:=λv hv=>by rw[<-hA];exact Oh g ay hv
 have ah:=zs («as»:=A) g.once;have lT:(fI u A).length<=u.ef.length:=jK _ _ ah λv hv=>FN g.mb hv
 obtain ⟨I,hI⟩:∃I:Nat->LP,I=λk l h'=>∃(i:Nat) (f:Nat->Option (List Nat×V)) (S:Int->Option V) (t:KF->Option (List Nat×V)) (z:List (List (Fm×V×V))) (G0 Ew:V),l=[.ptr l1 0,.ptr l2 0,.ptr l3 0,.ptr l4 0,.ptr lr 0,.func fO [] [.ptr lb 0,.ptr l3 0,.ptr l1 0,.ptr lr 0],p,.I ((fI u A).length:Nat),.I i]/\i+k=(fI u A).length/\Sn F h F h'/\NV u az ns xs ss i f S t z/\
   en F h' (Nx l1 T1 l4 T4 lt Tt num ns [.I u.func,.I u.pc,wv,wb,ws] oT az (Sx t ss ws lm S lb Tb lr Tr l4 l1 l3 gY (.I u.func) (.I u.pc) G0 .ee Ew z
    (eR yj hH xs wv::eR vf fQ bs wb::fT ey f::fT ey fn::eR yj hH (((fI u A).take i).map (XX u A xs)) G0::eR vf fQ [] .ee::ev l2 gY [.I 0,.I 0,.ee,.ee,.ee]::eR eN ey (fI u A) p::cs))):=⟨_,rfl⟩
 rw[hA]at H0 H⊢;refine BG I (λk x1 x2 x3 x4 aJ aK aL aM aN h1 hi=>?_) (k:=(fI u A).length) ?_
 ·rw [hI]at hi;obtain⟨i,f,S,t,z,G0,Ew,⟨⟩,hk,s1,hN,N⟩:=hi;unfold tB;by_cases hi:i<(fI u A).length
  ·refine gG ?_;have hx:=gP hi;have ab:=zd hx;have aO:=FN g.mb (zq hi);have aA:(fI u A)[i] ∉ (fI u A).take i:=λhm=>by
    obtain⟨j,hj⟩:=mK.1 hm;have aB:=(iR.1 hj).1;rw[GX]at aB;rw[Y0 (by omega)]at hj;have:=xA ah hj hx;omega
   generalize (fI u A)[i]=n at*;obtain⟨⟨x,w⟩,J⟩:∃y,xs[n]? =some y:=⟨_,gP (by omega)⟩
   have ac:u.ef[n]? =some x:=by rw[<-hc.fst,zG,J];rfl
   have aC:XX u A xs n=(gW u A x,w):=by unfold XX wV;rw[J,BO,ac];rfl
   obtain ⟨p1,p2,p3,p4,p5⟩:=g.parts n x ac;obtain⟨la,oa,y1,y2⟩:=N.KO 19 rfl hx .i64;obtain⟨lv,ov,wl,z1,z2,⟨rfl,w1⟩,_⟩:=N.WJ 12 rfl J .i64;have z1:gD 6 wv (.I n)=some (.ptr lv ov):=z1;refine ed y1 (ed y2 (ed (N.ld 0 rfl rfl) (ed pn (ed pf (oF (N.ld 2 rfl rfl) (ed z1 (ed z2 ?_)))))));refine iG N rfl rfl (by simp only[mz,eQ];simp only[show w.one=true from w1];rfl) λX O s2=>?_;generalize h1.next=lx at*;have O:en F X (Nx l1 T1 l4 T4 lt Tt num ns [.I u.func,.I u.pc,wv,wb,ws] oT az (Sx t ss ws lm S lb Tb lr Tr l4 l1 l3 gY (.I u.func) (.I u.pc) G0 .ee Ew z (ev lx 46 (mz x w)::_))):=O.J8 12 (by simp);have ai:∀d:Nat->Option (List Nat×V),(∀v,v≠n->d v=f v)->d n=some ((gW u A x).args,w)->∀v y b,xs[v]? =some (y,b)->d v=some (if v∈(fI u A).take (i+1) then(gW u A y).args else y.args,b):=λd h1 X v y b hv=>by
    rw[ab];by_cases e:v=n
    ·subst e;rw[J]at hv;cases hv;rw[X,if_pos (by simp)]
    ·rw[h1 v e];have:=hN.row v y b hv;rw[hA]at this;rw[this];simp[e]
   have aj:f n=some (x.args,w):=by
    have:=hN.row n x w J;rw[hA,if_neg aA]at this;exact this
   have ae:=hN.st;rw[hA]at ae
   have ak:∀m d S2 R D K,Sn F h F m->(∀v,v≠n->d v=f v)->d n=some ((gW u A x).args,w)->Yk ss (AZ ns az) (kP (rU u ((fI u A).take (i+1)))) S2 R D->
     en F m (Nx l1 T1 l4 T4 lt Tt num ns [.I u.func,.I u.pc,wv,wb,ws] oT az (Sx R ss ws lm S2 lb Tb lr Tr l4 l1 l3 gY (.I u.func) (.I u.pc) G0 .ee K D
      (ev lx 46 (mz (gW u A x) w)::eR yj hH xs wv::eR vf fQ bs wb::fT ey d::fT ey fn::eR yj hH (((fI u A).take i).map (XX u A xs)) G0::eR vf fQ [] .ee::ev l2 gY [.I 0,.I 0,.ee,.ee,.ee]::eR eN ey (fI u A) p::cs)))->
     kJ CS Q (CE I k) [.ptr l1 0,.ptr l2 0,.ptr l3 0,.ptr l4 0,.ptr lr 0,.func fO [] [.ptr lb 0,.ptr l3 0,.ptr l1 0,.ptr lr 0],.ptr lx 0,p,.I ((fI u A).length:Nat),.I i] m:=by
    intro m d S2 R D K P T U hS B;refine AO ?_;unfold rk;refine oF (B.ld 10 rfl rfl) (ed (B.wS 12 rfl rfl) ?_);rw[pP (sz:=6) (w:=mz (gW u A x) w) rfl rfl (by simp only[mz,eQ];simp only[show w.one=true from w1];rfl),fE];obtain⟨E,G,e4,_,C,s4⟩:=B.tU 17 rfl (jM:=64) (BN:=46) (y:=(gW u A x,w)) (w:=mz (gW u A x) w) (ro:=false) ⟨rfl,w1⟩ (by decide) (by decide) (by simp;omega);have L:fe 46 6 64 G0 (.slice m.next 0 1) (m.new (.cells 46 6 true false (mz (gW u A x) w)))=some (.val E G):=e4;rw[L,ei];simp only[iY,lj]at C;obtain⟨h5,e5,_,H5,s5⟩:=C.st 10 (o:=2) (u:=E) rfl (by simp) (C.one 17 rfl);refine ed pf ?_;have ag:gK 1 (.ptr l3 (0+2)) E G=some (.val .undef h5):=by rw[yC];exact e5
    rw[ag,ei];simp only[iY,lj]at H5;refine fN ⟨k-1,by omega,?_⟩;rw[hI];refine⟨i+1,d,S2,R,D,E,K,rfl,by omega,(P.trans s4).trans s5,⟨λv y b hv=>by rw[hA];exact ai d T U v y b hv,by rw[hA];exact hS⟩,?_⟩;have H6:=H5.B1 12 (by simp);rw[ab,Ji,Sp,SM,aC];exact H6
   have W:rU u ((fI u A).take (i+1))=rU u ((fI u A).take i)++(if leaves x.op=true then[x.state] else[]):=by
    rw[ab];unfold rU;rw[List.filterMap_append,List.filterMap_cons];simp only[ac];by_cases e:leaves x.op=true
    ·rw[if_pos e,if_pos e];rfl
    ·rw[if_neg e,if_neg e];rfl
   have al:kP (rU u ((fI u A).take (i+1))) <+: CG u A:=by
    have:CO u A=rU u ((fI u A).take (i+1))++(rU u ((fI u A).drop (i+1))++Ba u.blocks):=by
     rw[Nr,<-Ek];congr 1
     conv=>lhs;rw[<-X5 (i+1) (fI u A)]
     exact List.filterMap_append
    unfold CG;rw[this];exact Hc _ _
   have am:∀m d,Sn F h F m->(∀v,v≠n->d v=f v)->d n=some ((gW u A x).args,w)->
     en F m (Nx l1 T1 l4 T4 lt Tt num ns [.I u.func,.I u.pc,wv,wb,ws] oT az (Sx t ss ws lm S lb Tb lr Tr l4 l1 l3 gY (.I u.func) (.I u.pc) G0 .ee Ew z
      (ev lx 46 (mz {x with a:=(gW u A x).a,b:=(gW u A x).b} w)::eR yj hH xs wv::eR vf fQ bs wb::fT ey d::fT ey fn::eR yj hH (((fI u A).take i).map (XX u A xs)) G0::eR vf fQ [] .ee::ev l2 gY [.I 0,.I 0,.ee,.ee,.ee]::eR eN ey (fI u A) p::cs)))->
     kG CS Q (CE I k) [.ptr l1 0,.ptr l2 0,.ptr l3 0,.ptr l4 0,.ptr lr 0,.func fO [] [.ptr lb 0,.ptr l3 0,.ptr l1 0,.ptr lr 0],.ptr lx 0,p,.I ((fI u A).length:Nat),.I i] m:=by
    intro m d P T U B;refine AT ?_;unfold rM;refine oF (B.ld 12 rfl rfl) (J5 (js ?_));by_cases hlv:leaves x.op=true
    ·refine gw hlv (oF (B.ld 12 rfl rfl) ?_);show cP CS fO [.I x.state,.ptr lb 0,.ptr l3 0,.ptr l1 0,.ptr lr 0] m _;obtain⟨sl,Y⟩:∃sl,ss[x.state]? =some sl:=⟨_,gP (by have:=p5 hlv;omega)⟩
     have aD:u.eh[x.state]? =some (sl.map Prod.fst):=by rw[<-Z.fst,zG,Y];rfl
     obtain⟨q1,q2⟩:=g.st _ _ aD;rw[CD]at q1;refine NH B ae (by omega) (by omega) g.sub Y (by have:=g.ns;omega) q1 (λy hy=>?_) λG aE S4 an ao s4 ap C=>?_
     ·obtain⟨r1,r2,r3,r4⟩:=q2 y.1 (wCJ hy);rw[gl];exact⟨r1,r2,r3,r4⟩
     rw[if_pos hlv]at W;have aF:U1 (kP (rU u ((fI u A).take i))) x.state=kP (rU u ((fI u A).take (i+1))):=by rw[W,xX];rfl
     rw [aF]at ap⊢;have aq:x.state∈kP (rU u ((fI u A).take (i+1))):=(oQ _ _).2 (by rw[W];simp);have aG:(kP (rU u ((fI u A).take (i+1)))).idxOf x.state=(gW u A x).state:=by
      rw[<-Lw al aq];show _=if leaves x.op=true then(CG u A).idxOf x.state else x.state
      rw[if_pos hlv]
     rw[aG];obtain⟨h5,e5,_,H5,s5⟩:=C.st 12 (o:=5) (u:= .I ((gW u A x).state:Nat)) rfl (by simp[mz]) rfl;refine ed pf ?_;have ag:gK 1 (.ptr lx (0+5)) (.I ((gW u A x).state:Nat)) G=some (.val .undef h5):=by rw[yC];exact e5
     rw[ag,ei];simp only[iY,lj]at H5;exact ak h5 d S4 aE an ao ((P.trans s4).trans s5) T U ap H5
    ·refine gi hlv (ak m d S t z Ew P T U ?_ ?_)
     ·rw[W,if_neg hlv,Eo];exact ae
     ·have hs:(gW u A x).state=x.state:=if_neg hlv;have:mz (gW u A x) w=mz {x with a:=(gW u A x).a,b:=(gW u A x).b} w:=by
       unfold mz;rw[hs];rfl
      rw[this];exact B
   have ar:∀m,Sn F h F m->en F m (Nx l1 T1 l4 T4 lt Tt num ns [.I u.func,.I u.pc,wv,wb,ws] oT az (Sx t ss ws lm S lb Tb lr Tr l4 l1 l3 gY (.I u.func) (.I u.pc) G0 .ee Ew z
      (ev lx 46 (mz {x with a:=(gW u A x).a,b:=(gW u A x).b} w)::eR yj hH xs wv::eR vf fQ bs wb::fT ey f::fT ey fn::eR yj hH (((fI u A).take i).map (XX u A xs)) G0::eR vf fQ [] .ee::ev l2 gY [.I 0,.I 0,.ee,.ee,.ee]::eR eN ey (fI u A) p::cs)))->
     kK CS Q (CE I k) [.ptr l1 0,.ptr l2 0,.ptr l3 0,.ptr l4 0,.ptr lr 0,.func fO [] [.ptr lb 0,.ptr l3 0,.ptr l1 0,.ptr lr 0],.ptr lx 0,p,.I ((fI u A).length:Nat),.I i] m:=by
    intro m P B;refine Ax ?_;unfold rN;refine oF (B.ld 12 rfl rfl) (hZ ?_);have e0:ez (.ptr lx (0+0)) m=some (.I x.op):=B.ld 12 rfl rfl;have eq:oD (V.bool (decide ((x.op:Int)=21))) (oB (fH 0 (.ptr lx 0)) λau=>oB (ez au m) λaw=>eo .eql 3 aw (V.I 20))=some (.bool (decide (x.op=21\/x.op=20))):=by
     rw[pf,fj,e0,fj,gQ,xQ];congr 2;by_cases c1:x.op=21
     ·rw[J6 (show(x.op:Int)=21 by omega),J6 (Or.inl c1)];rfl
     ·rw[La (show ¬(x.op:Int)=21 by omega),Bool.false_or];by_cases c2:x.op=20
      ·rw[J6 (Or.inr c2)];exact z8.2 (by omega)
      ·rw[La (λh=>h.elim c1 c2)];exact MU.2 (by omega)
    refine ed eq (js ?_);have M:(gW u A x).args=if x.op=21\/x.op=20 then x.args.map (nm u A) else x.args:=rfl
    by_cases c:x.op=21\/x.op=20
    ·refine gw (J6 c) (ed (B.ld 9 rfl rfl) (oF (B.ld 12 rfl rfl) ?_));show cP CS iA [w,.ptr l4 0,.ptr l1 0] m _;refine Jm 10 B rfl aj rfl (by omega) (by omega) g.sub (λy hy=>by rw[gl];exact p4 c y hy) (by omega) λG s4 C=>?_;simp only[iY,lj]at C;have hm:x.args.map (AZ ns az)=(gW u A x).args:=by
      rw[M,if_pos c];exact Wr λy hy=>aa y (p4 c y hy)
     rw[hm]at C;exact am G _ (P.trans s4) (λv hv=>iZ _ _ hv) (ji _ _ _) C
    ·refine gi (by rw[AW];exact c) (am m f P (λ_ _=>rfl) ?_ B);rw[M,if_neg c];exact aj
   have ax:∀m,Sn F h F m->en F m (Nx l1 T1 l4 T4 lt Tt num ns [.I u.func,.I u.pc,wv,wb,ws] oT az (Sx t ss ws lm S lb Tb lr Tr l4 l1 l3 gY (.I u.func) (.I u.pc) G0 .ee Ew z
      (ev lx 46 (mz {x with a:=(gW u A x).a} w)::eR yj hH xs wv::eR vf fQ bs wb::fT ey f::fT ey fn::eR yj hH (((fI u A).take i).map (XX u A xs)) G0::eR vf fQ [] .ee::ev l2 gY [.I 0,.I 0,.ee,.ee,.ee]::eR eN ey (fI u A) p::cs)))->
     kH CS Q (CE I k) [.ptr l1 0,.ptr l2 0,.ptr l3 0,.ptr l4 0,.ptr lr 0,.func fO [] [.ptr lb 0,.ptr l3 0,.ptr l1 0,.ptr lr 0],.ptr lx 0,p,.I ((fI u A).length:Nat),.I i] m:=by
    intro m P B;refine Aw ?_;unfold rD;refine oF (B.ld 12 rfl rfl) (Mb (DY ?_));have hb:(gW u A x).b=if two x.op=true then nm u A x.b else x.b:=rfl
    by_cases c:two x.op=true
    ·refine gw (by show(1:Int)<(sQ x.op:Nat);unfold sQ;rw[if_pos c];decide) ?_;refine ed (B.ld 1 rfl rfl) (ed (B.ld 0 rfl rfl) (oF (B.ld 12 rfl rfl) ?_));refine Ix B rfl (by omega) (by omega) g.sub (by rw[gl];exact p3 c) λr q e1 e2=>⟨jj _,ed e1 (ed e2 (ed pf ⟨B.ld 1 rfl rfl,?_⟩))⟩
     obtain⟨G,e4,n4,C,s4⟩:=B.st 12 (o:=2) (u:= .I (AZ ns az x.b:Nat)) rfl (by simp[mz]) rfl;have L:gK 1 (.ptr lx (0+2)) (.I (AZ ns az x.b:Nat)) m=some (.val .undef G):=by rw[yC];exact e4
     rw[L,ei];simp only[iY,lj]at C;have hq:AZ ns az x.b=(gW u A x).b:=by rw[hb,if_pos c];exact aa _ (p3 c)
     rw[hq]at C;exact⟨n4,ar G (P.trans s4) C⟩
    ·refine gi (by show ¬(1:Int)<(sQ x.op:Nat);unfold sQ;rw[if_neg c];split <;> decide) (ar m P ?_);have:({x with a:=(gW u A x).a,b:=(gW u A x).b}:Vl) = {x with a:=(gW u A x).a}:=by rw[hb,if_neg c]
     rw[this];exact B
   refine oF (O.ld 12 rfl rfl) (Mb (DY ?_));have ha:(gW u A x).a=if 0<sQ x.op then nm u A x.a else x.a:=rfl
   by_cases c:0<sQ x.op
   ·have c':pg x.op=true\/two x.op=true:=by
     unfold sQ at c;by_cases h1:two x.op=true
     ·exact .inr h1
     ·rw[if_neg h1]at c;by_cases X:pg x.op=true
      ·exact .inl X
      ·rw[if_neg X]at c;omega
    refine gw (by omega) ?_;refine ed (O.ld 1 rfl rfl) (ed (O.ld 0 rfl rfl) (oF (O.ld 12 rfl rfl) ?_));refine Ix O rfl (by omega) (by omega) g.sub (by rw[gl];exact p2 c') λr q e1 e2=>⟨jj _,ed e1 (ed e2 (ed pf ⟨O.ld 1 rfl rfl,?_⟩))⟩
    obtain⟨G,e4,n4,C,s4⟩:=O.st 12 (o:=1) (u:= .I (AZ ns az x.a:Nat)) rfl (by simp[mz]) rfl;have L:gK 1 (.ptr lx (0+1)) (.I (AZ ns az x.a:Nat)) X=some (.val .undef G):=by rw[yC];exact e4
    rw[L,ei];simp only[iY,lj]at C;have hq:AZ ns az x.a=(gW u A x).a:=by rw[ha,if_pos c];exact aa _ (p2 c')
    rw[hq]at C;exact⟨n4,ax G ((s1.trans s2).trans s4) C⟩
   ·refine gi (by omega) (ax X (s1.trans s2) ?_);have:({x with a:=(gW u A x).a}:Vl)=x:=by rw[ha,if_neg c]
    rw[this];exact O
  ·refine iI ?_;obtain rfl:i=(fI u A).length:=by omega
   rw[Jh]at N;refine ed (N.ld 0 rfl rfl) (ed pn (ed pf (oF (N.ld 2 rfl rfl) (ed (N.len 13 rfl) ?_))));exact H h1 f S t z G0 Ew s1 hN N
 ·rw[hI];refine⟨0,fa,λ_=>none,fl,[],.ee,.ee,rfl,by omega,Sn.refl _ _,⟨λv x w hx=>?_,λs=>rfl,rfl,λs l k x a w hs hl=>?_,List.nodup_nil,λ_ h=>by cases h⟩,H0⟩
  ·rw[hc.row v x w hx];rfl
  ·exact Z.loc s l k x a w hs hl
end
open Un Dm
section
variable{F F':Nat->Prop}{h h':Hp}{cs ds:List Pc}{Q:fy}{u:U}{wv wb ws oT num G0:V}{lt Tt l1 T1 l2 l3 l4 T4 lm lb Tb lr Tr:Nat}{az:List Int}{ns:List Nat}{xs ys:List (Vl×V)}{bs0 bs:List (Bk×V)}{fa fn:Nat->Option (List Nat×V)}{ss:List (List (Fm×V×V))}{fl:KF->Option (List Nat×V)}
def kOf(u:U)(A:Nat->Int)(bs:List (Bk×V))(b:Nat):Bk×V:=(mF u A (u.blocks.getD b Pg),OP bs b)
theorem zcM(g:CH u az)(hb:Xk u.blocks bs0 fn)(R:ss.map (λl=>l.map Prod.fst)=u.eh)(T:NbB u az u.blocks.length bs0 bs){S:Int->Option V}{a:List (List (Fm×V×V))}{Ew:V}(ax:ns.length=u.ef.length)(ah:∀v,v<u.ef.length->ns[v]? =some (if v∈fI u (pC az) then(fI u (pC az)).idxOf v else 0))
  (U:Yk ss (AZ ns az) (kP (rU u (fI u (pC az)))) S fl a)
  (H0:en F h (Nx l1 T1 l4 T4 lt Tt num ns [.I u.func,.I u.pc,wv,wb,ws] oT az (Sx fl ss ws lm S lb Tb lr Tr l4 l1 l3 gY (.I u.func) (.I u.pc) G0 .ee Ew a
    (eR yj hH xs wv::eR vf fQ bs wb::fT ey fa::fT ey fn::eR yj hH ys G0::eR vf fQ [] .ee::ev l2 gY [.I 0,.I 0,.ee,.ee,.ee]::ds))))
  (H:∀h' S c a b Ew,Sn F h F h'->Yk ss (AZ ns az) (CG u (pC az)) S c a->
   en F h' (Nx l1 T1 l4 T4 lt Tt num ns [.I u.func,.I u.pc,wv,wb,ws] oT az (Sx c ss ws lm S lb Tb lr Tr l4 l1 l3 gY (.I u.func) (.I u.pc) G0 b Ew a
    (eR yj hH xs wv::eR vf fQ bs wb::fT ey fa::fT ey fn::eR yj hH ys G0::eR vf fQ ((List.range u.blocks.length).map (kOf u (pC az) bs0)) b::ev l2 gY [.I u.func,.I u.pc,G0,b,Ew]::ds)))->
   Q (.agg [.I u.func,.I u.pc,G0,b,Ew]) h') :
  kY CS Q [.ptr l1 0,.ptr l2 0,.ptr l3 0,.ptr l4 0,.func fO [] [.ptr lb 0,.ptr l3 0,.ptr l1 0,.ptr lr 0],wb,.I bs.length,.I 0] h:=by
 have nv:=g.nv;have nb:=g.nb;have gl:=g.len;have W:bs0.length=u.blocks.length:=by rw[<-hb.fst,CD]
 have X:bs.length=u.blocks.length:=by rw[T.len,W]
 have lss:ss.length=u.eh.length:=by rw[<-R,CD]
 have pn:∀{l o:Nat},ij (.ptr l o)=some (.ptr l o):=fX _ _;have pf:∀{l o k:Nat},fH k (.ptr l o)=some (.ptr l (o+k)):=eJ _ _ _;obtain⟨A,hA⟩:∃A,pC az=A:=⟨_,rfl⟩
 have ai:∀v,v<u.ef.length->AZ ns az v=nm u A v:=λv hv=>by rw[<-hA];exact Oh g ah hv
 rw[hA]at H U;have C:=T.row;rw[hA]at C
 obtain ⟨I,hI⟩:∃I:Nat->LP,I=λk l h'=>∃(i:Nat) (S:Int->Option V) (c:KF->Option (List Nat×V)) (a:List (List (Fm×V×V))) (b Ew:V),l=[.ptr l1 0,.ptr l2 0,.ptr l3 0,.ptr l4 0,.func fO [] [.ptr lb 0,.ptr l3 0,.ptr l1 0,.ptr lr 0],wb,.I bs.length,.I i]/\i+k=bs.length/\Sn F h F h'/\Yk ss (AZ ns az) (kP (rU u (fI u A)++Ba (u.blocks.take i))) S c a/\
   en F h' (Nx l1 T1 l4 T4 lt Tt num ns [.I u.func,.I u.pc,wv,wb,ws] oT az (Sx c ss ws lm S lb Tb lr Tr l4 l1 l3 gY (.I u.func) (.I u.pc) G0 b Ew a
    (eR yj hH xs wv::eR vf fQ bs wb::fT ey fa::fT ey fn::eR yj hH ys G0::eR vf fQ ((List.range i).map (kOf u A bs0)) b::ev l2 gY [.I 0,.I 0,.ee,.ee,.ee]::ds))):=⟨_,rfl⟩
 refine Bl I (λk x1 x2 x3 x4 ay ar au aw h1 hi=>?_) (k:=bs.length) ?_
 ·rw [hI]at hi;obtain⟨i,S,c,a,b,Ew,⟨⟩,hk,s1,Y,E⟩:=hi;unfold tg;by_cases hi:i<bs.length
  ·refine gG ?_;obtain⟨⟨B,w⟩,G⟩:∃y,bs0[i]? =some y:=⟨_,gP (by omega)⟩
   have hB:u.blocks[i]? =some B:=by rw[<-hb.fst,zG,G];rfl
   have Z:=C i B w G;rw[if_pos (by omega)]at Z;have aj:kOf u A bs0 i=(mF u A B,w):=by unfold kOf OP;rw[G,BO,hB];rfl
   have ak:=zd hB;obtain⟨e1,e2⟩:=g.ends i B hB;obtain⟨lv,ov,wl,z1,z2,⟨bv,bp,rfl,iv,ip,w1⟩,_⟩:=E.WJ 13 rfl Z .i64;have z1:gD 6 wb (.I i)=some (.ptr lv ov):=z1;refine ed z1 (ed z2 ?_);refine iG E rfl rfl (by simp only[kr,eQ,iv.one,ip.one];simp only[show w.one=true from w1];rfl) λJ f s2=>?_;generalize h1.next=lx at*;have iv:=iv.since s2;have ip:=ip.since s2;have f:en F J (Nx l1 T1 l4 T4 lt Tt num ns [.I u.func,.I u.pc,wv,wb,ws] oT az (Sx c ss ws lm S lb Tb lr Tr l4 l1 l3 gY (.I u.func) (.I u.pc) G0 b Ew a (ev lx 50 (kr {B with ef:=(B.ef.filter (stays A)).map (fI u A).idxOf} bv w bp)::_))):=f.J8 12 (by simp)
   have K:∀O S2 x m t,Sn F J F O->Yk ss (AZ ns az) (kP (rU u (fI u A)++Ba (u.blocks.take (i+1)))) S2 x m->
     en F O (Nx l1 T1 l4 T4 lt Tt num ns [.I u.func,.I u.pc,wv,wb,ws] oT az (Sx x ss ws lm S2 lb Tb lr Tr l4 l1 l3 gY (.I u.func) (.I u.pc) G0 b t m
      (ev lx 50 (kr (mF u A B) bv w bp)::eR yj hH xs wv::eR vf fQ bs wb::fT ey fa::fT ey fn::eR yj hH ys G0::eR vf fQ ((List.range i).map (kOf u A bs0)) b::ev l2 gY [.I 0,.I 0,.ee,.ee,.ee]::ds)))->
     jB CS Q (CE I k) [.ptr l1 0,.ptr l2 0,.ptr l3 0,.ptr l4 0,.func fO [] [.ptr lb 0,.ptr l3 0,.ptr l1 0,.ptr lr 0],.ptr lx 0,wb,.I bs.length,.I i] O:=by
    intro O S2 x m t s3 hS H3;have al:=iv.since s3;have am:=ip.since s3;refine Ak ?_;unfold rS;refine oF (H3.ld 10 rfl rfl) (ed (H3.wS 12 rfl rfl) ?_);rw[pP (sz:=6) (w:=kr (mF u A B) bv w bp) rfl rfl (by simp only[kr,eQ,iv.one,ip.one];simp only[show w.one=true from w1];rfl),fE];obtain⟨p,L,e4,_,z,s4⟩:=H3.tU 18 rfl (jM:=96) (BN:=50) (y:=(mF u A B,w)) (w:=kr (mF u A B) bv w bp) (ro:=false) ⟨bv,bp,rfl,al,am,w1⟩ (by decide) (by decide) (by simp;omega);have M:fe 50 6 96 b (.slice O.next 0 1) (O.new (.cells 50 6 true false (kr (mF u A B) bv w bp)))=some (.val p L):=e4;rw[M,ei];simp only[iY,lj]at z;obtain⟨h5,e5,_,P,s5⟩:=z.st 10 (o:=3) (u:=p) rfl (by simp) (z.one 18 rfl);refine ed pf ?_;have N:gK 1 (.ptr l3 (0+3)) p L=some (.val .undef h5):=by rw[yC];exact e5
    rw[N,ei];simp only[iY,lj]at P;refine fN ⟨k-1,by omega,?_⟩;rw[hI];refine⟨i+1,S2,x,m,p,t,rfl,by omega,(((s1.trans s2).trans s3).trans s4).trans s5,hS,?_⟩;have H6:=P.B1 12 (by simp);rw[XY,Ji,Sp,SM,aj];exact H6
   have s:Ba (u.blocks.take (i+1))=Ba (u.blocks.take i)++(if B.fin=3 then[B.state] else[]):=by
    rw[ak];unfold Ba;rw[List.filterMap_append,List.filterMap_cons];by_cases e:B.fin=3
    ·rw[if_pos e,if_pos e];rfl
    ·rw[if_neg e,if_neg e];rfl
   have aa:kP (rU u (fI u A)++Ba (u.blocks.take (i+1))) <+: CG u A:=by
    have:CO u A=(rU u (fI u A)++Ba (u.blocks.take (i+1)))++Ba (u.blocks.drop (i+1)):=by
     rw[Nr,Ek];congr 1
     conv=>lhs;rw[<-X5 (i+1) u.blocks]
     exact List.filterMap_append
    unfold CG;rw[this];exact Hc _ _
   have j:(mF u A B).cond=if B.fin=2 then nm u A B.cond else B.cond:=rfl
   have d:(mF u A B).state=if B.fin=3 then(CG u A).idxOf B.state else B.state:=rfl
   refine oF (f.ld 12 rfl rfl) (gj ?_);by_cases c2:B.fin=2
   ·rw [if_neg (show ¬B.fin=3 by omega),Eo]at s;refine gw (by show(B.fin:Int)=2;omega) ?_;refine ed (f.ld 1 rfl rfl) (ed (f.ld 0 rfl rfl) (oF (f.ld 12 rfl rfl) ?_));refine Ix f rfl (by omega) (by omega) g.sub (by rw[gl];exact e1 c2) λr q q1 q2=>⟨jj _,ed q1 (ed q2 (ed pf ⟨f.ld 1 rfl rfl,?_⟩))⟩
    obtain⟨L,e4,n4,z,s4⟩:=f.st 12 (o:=2) (u:= .I (AZ ns az B.cond:Nat)) rfl (by simp[kr]) rfl;have M:gK 1 (.ptr lx (0+2)) (.I (AZ ns az B.cond:Nat)) J=some (.val .undef L):=by rw[yC];exact e4
    rw [show({B with ef:=(B.ef.filter (stays A)).map (fI u A).idxOf}:Bk).cond=B.cond from rfl,M,ei];simp only[iY,lj]at z;have hq:(kr {B with ef:=(B.ef.filter (stays A)).map (fI u A).idxOf} bv w bp).set 2 (.I (AZ ns az B.cond:Nat))=kr (mF u A B) bv w bp:=by
     unfold kr;rw[j,d,if_pos c2,if_neg (by omega),ai _ (e1 c2)];rfl
    rw[hq]at z;exact⟨n4,K L S c a Ew s4 (by rw[s];exact Y) z⟩
   ·refine gi (by show ¬(B.fin:Int)=2;omega) (gj ?_);by_cases c3:B.fin=3
    ·refine gw (by show(B.fin:Int)=3;omega) (oF (f.ld 12 rfl rfl) ?_);show cP CS fO [.I B.state,.ptr lb 0,.ptr l3 0,.ptr l1 0,.ptr lr 0] J _;obtain⟨sl,D⟩:∃sl,ss[B.state]? =some sl:=⟨_,gP (by have:=e2 c3;omega)⟩
     have an:u.eh[B.state]? =some (sl.map Prod.fst):=by rw[<-R,zG,D];rfl
     obtain⟨q1,q2⟩:=g.st _ _ an;rw[CD]at q1;refine NH f Y (by omega) (by omega) g.sub D (by have:=g.ns;omega) q1 (λy hy=>?_) λL ao S4 ab ac s4 ae z=>?_
     ·obtain⟨r1,r2,r3,r4⟩:=q2 y.1 (wCJ hy);rw[gl];exact⟨r1,r2,r3,r4⟩
     rw[if_pos c3]at s;have ap:U1 (kP (rU u (fI u A)++Ba (u.blocks.take i))) B.state=kP (rU u (fI u A)++Ba (u.blocks.take (i+1))):=by rw[s,<-Ek,xX];rfl
     rw [ap]at ae⊢;have ag:B.state∈kP (rU u (fI u A)++Ba (u.blocks.take (i+1))):=(oQ _ _).2 (by rw[s];simp);have aq:(kP (rU u (fI u A)++Ba (u.blocks.take (i+1)))).idxOf B.state=(mF u A B).state:=by
      rw[<-Lw aa ag,d,if_pos c3]
     rw[aq];obtain⟨h5,e5,_,P,s5⟩:=z.st 12 (o:=5) (u:= .I ((mF u A B).state:Nat)) rfl (by simp[kr]) rfl;refine ed pf ?_;have N:gK 1 (.ptr lx (0+5)) (.I ((mF u A B).state:Nat)) L=some (.val .undef h5):=by rw[yC];exact e5
     rw [N,ei];simp only[iY,lj]at P;have hq:(kr {B with ef:=(B.ef.filter (stays A)).map (fI u A).idxOf} bv w bp).set 5 (.I ((mF u A B).state:Nat))=kr (mF u A B) bv w bp:=by
      unfold kr;rw[j,if_neg c2];rfl
     rw[hq]at P;exact K h5 S4 ao ab ac (s4.trans s5) ae P
    ·refine gi (by show ¬(B.fin:Int)=3;omega) (K J S c a Ew (Sn.refl _ _) ?_ ?_)
     ·rw[s,if_neg c3,Eo];exact Y
     ·have:kr (mF u A B) bv w bp=kr {B with ef:=(B.ef.filter (stays A)).map (fI u A).idxOf} bv w bp:=by
       unfold kr;rw[j,d,if_neg c2,if_neg c3];rfl
      rw[this];exact f
  ·refine iI ?_;obtain rfl:i=bs.length:=by omega
   refine ed (E.wS 10 rfl rfl) ?_;obtain⟨J,e2,_,f,s2⟩:=E.XP 18 (ws:=[.I u.func,.I u.pc,G0,b,Ew]) (n:=5) rfl rfl rfl (by simp only[eQ,E.one 16 rfl,E.one 17 rfl,E.one 11 rfl];rfl);rw[e2,ei];simp only[iY,lj]at f;refine ed (f.wS 18 rfl rfl) ?_;rw[X,Jh]at Y;rw[X]at f;exact H J S c a b Ew (s1.trans s2) Y f
 ·rw[hI];exact⟨0,S,fl,a,.ee,Ew,rfl,by omega,Sn.refl _ _,by rw[YZ];show Yk _ _ (kP (_++[])) _ _ _;rw[Eo];exact U,H0⟩
end
open Un Dm
section
variable{F F':Nat->Prop}{h h':Hp}{cs ds:List Pc}{Q:fy}{u:U}{wv wb ws oT:V}{lt Tt:Nat}{az:List Int}{xs:List (Vl×V)}{bs:List (Bk×V)}{fa fn:Nat->Option (List Nat×V)}{ss:List (List (Fm×V×V))}{fl:KF->Option (List Nat×V)}
theorem en.V5(H:en F h cs)(n:Nat):∃G,en G h (cs.drop n)/\Sn F h G h/\∀(i:Nat)(c:Pc),i<n->cs[i]? =some c->∀l,c.lX l->G l:=by
 have g:∀{i:Nat} {c:Pc},(cs.take n)[i]? =some c->i<n/\cs[i]? =some c:=λ{i c} hc=>by
  have a:=(iR.1 hc).1;rw[GX]at a;rw[Y0 (by omega)]at hc;exact⟨by omega,hc⟩
 refine⟨λl=>F l\/LC (cs.take n) l,⟨λl a=>a.elim (H.fl l) λ⟨i,c,hc,e⟩=>(c.JC (H.ok i c (g hc).2) l e).1,λi c hc=>?_,λi j c d hc b m=>?_⟩,⟨jj _,λ_ _=>rfl,λ_ h=> .inl h⟩,λi c hi hc l a=> .inr ⟨i,c,by rw[Y0 hi];exact hc,a⟩⟩
 ·rw[Vr]at hc;refine c.mono (H.ok _ c hc) (λ_ h=> .inl h) λl a f=>?_;rcases f with f|⟨j,d,b,e⟩
  ·exact(c.JC (H.ok _ c hc) l a).2 f
  ·obtain⟨o,k⟩:=g b;exact H.Dl (n+i) j c d hc k (by omega) l a e
 ·rw[Vr]at hc b;exact H.Dl (n+i) (n+j) c d hc b (by omega)
section
variable{G:Nat->Prop}
theorem iC.ofRow{α β:Type}{E:qA α} {E':qA β}(H:en F h cs)(i:Nat){ty:Nat}{xs:List α}{ys:List β}{v:V}(hi:cs[i]? =some (eR E ty xs v))(g:∀l,F l->G l)(j:∀l,Loc v l->G l)(m:E'.sz=E.sz)(b:ys.length=xs.length)(c:∀(k:Nat) x y cs,xs[k]? =some x->ys[k]? =some y->E.rel F h x cs->E'.rel G h y cs):iC E' G h ys v:=by
 have d:=(iR.1 hi).1;exact((H.reR (E':=E.fix F h) i hi rfl rfl λk x y cs e a c=>by rw[e]at a;cases a;exact c).row i (EK d)).read.reR m (λl b=>b.elim (g l) (j l)) b λk x y cs e a f=>c k x y cs e a f
theorem Tn(H:en F h cs)(j:Nat){ι:Type}{ty:Nat}{f:ι->Option (List Nat×V)}(a:cs[j]? =some (fT ty f))(b:∀l,F l->G l)(c:∀l,(fT ty f).lX l->G l){i:ι}{xs:List Nat}{v:V}(hi:f i=some (xs,v)):iC eN G h xs v:=
 (H.rows j a hi).Yo b λl d=>c l ⟨i,xs,v,hi,d⟩
end
theorem SH(g:CH u az)(hc:XW u.ef xs fa)(A:Xk u.blocks bs fn)(p:CpS u.eh ss fl)
  (H0:en F h (eR yj hH xs wv::eR vf fQ bs wb::fT ey fa::fT ey fn::eR eZ ey az oT::ev lt Tt [.I u.func,.I u.pc,wv,wb,ws,oT]::eR (eL PO) ml ss ws::fT ey fl::cs))
  (H:∀F' h' vv vb vs,Sn F h F' h'->en F' h' cs->A0 F' h' (gZ u (pC az)) vv vb vs->Q (.agg (uC (gZ u (pC az)) vv vb vs)) h') :
  cP CS kM [.ptr lt 0] h Q:=by
 refine Qo g hc A H0 λF1 h1 l1 T1 l2 l3 l4 T4 lm lb Tb lr Tr num ns ac ae s1 P C i H1=>?_;refine zcY g hc p C i H1 λh2 ag S2 ah aa G0 Ew s2 hN H2=>?_;have D:=hN.st;rw[Jh]at D;refine zcM g A p.fst P C i D H2 λR S3 ai ab S E s3 O m=>?_;obtain⟨G,H4,s4,q⟩:=m.V5 20;have e:∀l,F1 l->G l:=λl hl=>s4.mono l hl;refine H G R G0 S E (((s1.trans s2).trans s3).trans s4) H4 ⟨?_,?_,?_⟩
 ·refine iC.ofRow m 16 rfl e (q 16 _ (by decide) rfl) rfl (by simp[gZ]) λk x y ws c b o=>?_;rw[zG]at c;have b:((fI u (pC az)).map λn=>gW u (pC az) (u.ef.getD n YO))[k]? =some y:=b;rw[zG]at b
  cases hk:(fI u (pC az))[k]? with
  |none=>rw[hk]at c;cases c
  | some n=>
    rw[hk]at c b;cases c;cases b;obtain⟨rfl,_⟩:=o;have T:=FN g.mb (A7 hk);obtain⟨⟨x,w⟩,r⟩:∃y,xs[n]? =some y:=⟨_,gP (by rw[<-CD (f:=Prod.fst),hc.fst];exact T)⟩
    have I:u.ef[n]? =some x:=by rw[<-hc.fst,zG,r];rfl
    have U:XX u (pC az) xs n=(gW u (pC az) x,w):=by unfold XX wV;rw[r,BO,I];rfl
    have J:=hN.row n x w r;rw[Jh,if_pos (A7 hk)]at J;have V:u.ef.getD n YO=x:=by rw[BO,I];rfl
    show eV.rel G R (gW u (pC az) (u.ef.getD n YO)) _;rw[U,V];exact⟨w,rfl,Tn m 14 rfl e (q 14 _ (by decide) rfl) J⟩
 ·refine iC.ofRow m 17 rfl e (q 17 _ (by decide) rfl) rfl (by simp[gZ]) λk x y ws c b o=>?_;rw[zG]at c;have b:(u.blocks.map (mF u (pC az)))[k]? =some y:=b;rw[zG]at b
  cases hB:u.blocks[k]? with
  |none=>rw[hB]at b;cases b
  | some B=>
    rw[hB]at b;cases b;have K:=(iR.1 hB).1;rw[wBq K]at c;cases c;obtain⟨⟨B',w⟩,t⟩:∃y,bs[k]? =some y:=⟨_,gP (by rw[<-CD (f:=Prod.fst),A.fst];exact K)⟩
    have L:u.blocks[k]? =some B':=by rw[<-A.fst,zG,t];rfl
    rw[hB]at L;cases L;have W:kOf u (pC az) bs k=(mF u (pC az) B,w):=by unfold kOf OP;rw[t,BO,hB];rfl
    rw[W]at o;obtain⟨bv,bp,rfl,iv,ip,_⟩:=o;exact⟨bv,w,bp,rfl,iv.mono e,Tn m 15 rfl e (q 15 _ (by decide) rfl) (A.row k B w t),ip.mono e⟩
 ·refine iC.ofRow m 11 rfl e (q 11 _ (by decide) rfl) rfl (by simp[gZ,O.out]) λk x y ws c b o=>?_;rw[O.out,zG]at c;have b:((CG u (pC az)).map λs=>(u.eh.getD s []).map (Qb u (pC az)))[k]? =some y:=b;rw[zG]at b
  cases hk:(CG u (pC az))[k]? with
  |none=>rw[hk]at c;cases c
  | some s=>
    rw[hk]at c b;cases c;cases b;have M:=A7 hk;have lT:=O.lt s M;obtain⟨l,d⟩:∃l,ss[s]? =some l:=⟨_,gP lT⟩
    have N:u.eh[s]? =some (l.map Prod.fst):=by rw[<-p.fst,zG,d];rfl
    have g1:ss.getD s []=l:=by rw[BO,d];rfl
    have g2:u.eh.getD s []=l.map Prod.fst:=by rw[BO,N];rfl
    show(eL eF).rel G R ((u.eh.getD s []).map (Qb u (pC az))) ws;rw[g2];obtain⟨f,rfl,X⟩:=o;dsimp only at X;rw[g1]at X;refine⟨f,rfl,X.reR rfl e (by simp) λj z y cs Y b o=>?_⟩;rw[List.map_map,zG,Y]at b;cases b;obtain⟨z,a,w⟩:=z;obtain⟨rfl,_,_⟩:=o;obtain⟨r1,Z⟩:=O.rows s l j z a w d Y;rw[if_pos M]at r1 Z;obtain⟨_,q2⟩:=g.st s _ N;obtain⟨_,_,q3,q4⟩:=q2 z (wCJ (f:=Prod.fst) (A7 Y));rw[Wr λv hv=>Oh g i (q3 v hv)]at r1;rw[Wr λv hv=>Oh g i (q4 v hv)]at Z;exact⟨a,w,rfl,Tn m 5 rfl e (q 5 _ (by decide) rfl) r1,Tn m 5 rfl e (q 5 _ (by decide) rfl) Z⟩
end
open Un Dm
section
variable{F F':Nat->Prop}{h h':Hp}{cs ds:List Pc}{Q:fy}{u:U}{vv vb vs oT:V}{az:List Int}
theorem Wm(g:Xq u)(C:K7 u)(m:az.length=u.ef.length)(D:∀kp u' a seen post,Ie u.blocks.length (next u) seen post []->kp=(λb=>post.reverse.contains b)->Cut u kp u'->N3 u kp az a->CH u' a)
  (s:en F h (eR eZ ey az oT::cs)) (v:A0 F h u vv vb vs)
  (H:∀F' h' kp u' a seen post wv wb ws,Sn F h F' h'->en F' h' cs->Ie u.blocks.length (next u) seen post []->kp=(λb=>post.reverse.contains b)->Cut u kp u'->N3 u kp az a->A0 F' h' (gZ u' (pC a)) wv wb ws->Q (.agg (uC (gZ u' (pC a)) wv wb ws)) h') :
  cP CS Ab [.agg (uC u vv vb vs),oT] h Q:=by
 refine Rv rfl rfl ?_;unfold MM;refine mH s v.one λE I w=>zO I λh2 x y=>?_;generalize h.next=l1 at*;generalize E.next=l2 at*;have J:=(v.since w).since y;refine ed (x.wS 1 rfl rfl) ?_;refine Yq g x J λF3 K wv wb ws xs bs ss fa fn fl L hc M hs d=>?_;have hp:fV [.I 0,.I 0,.ee,.ee,.ee,.ee] [(0,5),(5,1)] [(0,V.agg (uC u wv wb ws)),(1,oT)]=some (V.agg [.I u.func,.I u.pc,wv,wb,ws,oT]):=by
  rcases s.row 0 rfl with⟨rfl,_⟩|⟨t,N,rfl,_⟩ <;> rfl
 refine ed hp ?_;refine mH d (by simp only[eQ,d.one 0 rfl,d.one 1 rfl,d.one 2 rfl,d.one 8 rfl];rfl) λh4 O s4=>?_;generalize K.next=lt at*;have P:=O.perm [1,2,4,5,9,0,3,6,7,8] 10 (by decide) (by decide) (by simp);refine UA C hc M m (d.one 2 rfl) P λF6 h6 seen post kp u' R S T U a W X G e c o p f z=>?_;have gn:=D kp u' a seen post G e c f;have Y:=c.func;have Z:=c.pc;rw[<-Y,<-Z]at z;refine SH gn o p (by rw[c.eh];exact hs) z λA h7 i j k s7 q l=>?_;have q:en A h7 (ev l2 gY _::ev l1 gY _::cs):=q;obtain⟨h8,e8,_,r,B⟩:=q.XP 0 (ws:=uC (gZ u' (pC a)) i j k) (n:=5) rfl rfl rfl l.one;rw[e8,ei];simp only[iY]at r;refine ed (r.wS 0 rfl rfl) ?_;exact H A h8 kp u' a seen post i j k ((((((w.trans y).trans L).trans s4).trans X).trans s7).trans B) r.tail.tail G e c f (l.since B)
theorem WW{n:Nat}{nx:Nat->List Nat}{seen:List Bool}{post:List Nat}(G:Ie n nx seen post []):∀{b:Nat}{l:List Nat},Pt nx b l->b∈post
 | _,_,.nil=>by
   obtain⟨p,hp⟩:=G.last rfl
   rw[hp];simp
 | _,_,.step h e=>by
   rcases(G.iff _).1 (G.closed _ (WW G h) _ e)with a|a
   ·exact a
   ·simp at a
theorem OG(g:Good u)(e:M1 u):K7 u:=⟨NM g,g.nv,g.OM,g.mb,λb B c=>⟨Dn g c,λp hp=>by
 rw[g.fg b B c]at hp;obtain⟨q,i,a,_,d⟩:=uk.1 hp;have:=(iR.1 a).1;omega⟩,λv b k x B a f d h=>(g.Ko v b k x B a f d h).2,e⟩
theorem O4(g:Good u)(q:M1 u)(k:az.length=u.ef.length)(d:∀(v:Nat)(a:Int),az[v]? =some a->a<az.length):CH u az where
 nv:=g.nv
 nb:=g.nb
 ns:=g.ns
 once:=g.OM
 mb:=g.mb
 len:=k
 sub:=d
 parts v x hx:=by
  have c:∀w∈je x,w<u.ef.length:=λw l=>vD (g.use v x hx w l);unfold je at c;refine⟨q v x hx,?_⟩;by_cases i:x.op=21
  ·rw[if_pos i]at c;have o:two x.op=false:=by rw[i];rfl
   have r:pg x.op=false:=by rw[i];rfl
   exact⟨λh=>(by rw[o,r]at h;simp at h),λh=>(by rw[o]at h;cases h),λ_=>c,g.leave v x hx⟩
  ·rw [if_neg i]at c;by_cases c2:x.op=20
   ·rw[if_pos c2]at c;have j:=g.putAt v x hx c2;rw[X0 (by omega)]at c;exact⟨λ_=>c _ (by simp),λ_=>c _ (by simp),λ_ w l=>c w (by simp[l]),g.leave v x hx⟩
   ·rw [if_neg c2]at c;refine⟨λh=>?_,λh=>?_,λh=>absurd h (by omega),g.leave v x hx⟩
    ·by_cases m:two x.op=true
     ·rw[if_pos m]at c;exact c _ (by simp)
     ·rw[if_neg m,if_pos (h.resolve_right m)]at c;exact c _ (by simp)
    ·rw[if_pos h]at c;exact c _ (by simp)
 ends b B hB:=by
  rcases g.fin b B hB with⟨j,_⟩|⟨j,_,e⟩|⟨j,_,e⟩
  ·exact⟨λh=>by omega,λh=>by omega⟩
  ·exact⟨λ_=>vD e,λh=>by omega⟩
  ·exact⟨λh=>by omega,λ_=>e⟩
 st s fs hfs:=by
  obtain⟨j,e⟩:=zg g s fs hfs;refine⟨by omega,λf n=>?_⟩;obtain⟨t,y⟩:=e f n;have p:=Cj g hfs;refine⟨by omega,by omega,λv hv=>p v ?_,λv hv=>p v ?_⟩
  ·exact Ni.2 ⟨f,n,Rh _ hv⟩
  ·exact Ni.2 ⟨f,n,wBW _ hv⟩
theorem Yx(g:Good u)(n:M1 u)(j:az.length=u.ef.length)(k:∀(v:Nat)(a:Int),az[v]? =some a->a<az.length)(p:en F h (eR eZ ey az oT::cs))(q:A0 F h u vv vb vs)
  (H:∀F' h' wv wb ws,Sn F h F' h'->en F' h' cs->A0 F' h' (gZ u (pC az)) wv wb ws->Q (.agg (uC (gZ u (pC az)) wv wb ws)) h') :
  cP CS Ab [.agg (uC u vv vb vs),oT] h Q:=by
 have m:∀kp u' d seen post,Ie u.blocks.length (next u) seen post []->kp=(λb=>post.reverse.contains b)->Cut u kp u'->N3 u kp az d->u' = u/\d=az:=λkp u' d seen post G e c f=>by
  have i:∀b,b<u.blocks.length->kp b=true:=λb r=>by
   obtain⟨l,s⟩:=g.reach b r;rw[e];exact List.contains_iff_mem.2 (Xd.2 (WW G s))
  exact⟨c.eq g i,f.eq i⟩
 refine Wm (SO g n) (OG g n) j (λkp u' d seen post G e c f=>?_) p q λF' h' kp u' d seen post wv wb ws t w G e c f o=>?_
 ·obtain⟨rfl,rfl⟩:=m kp u' d seen post G e c f;exact O4 g n j k
 ·obtain⟨rfl,rfl⟩:=m kp u' d seen post G e c f;exact H F' h' wv wb ws t w o
end
