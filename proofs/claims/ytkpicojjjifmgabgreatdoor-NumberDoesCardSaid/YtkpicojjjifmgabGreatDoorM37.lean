/- Parts. -/
import Derived.Test.YtkpicojjjifmgabGreatDoorM30
set_option maxHeartbeats 4000000
namespace Go.Proofs.YtkpicojjjifmgabGreatDoor.Hx
open Un Dm
def za5:Vl:=⟨0,0,0,0,[],0⟩
def wV(xs:List (Vl×V))(n:Nat):V:=match xs[n]? with
 |some x=>x.2
 |none=> .undef
def ZO(u:U)(A:Nat->Int)(xs:List (Vl×V))(n:Nat):Vl×V:=(iF u A (u.ej.getD n za5),wV xs n)
section
variable{F F':Nat->Prop}{h h':Hp}{cs ds:List Pc}{Q:fD}{u:U}{wv wb ws mQ num:V}{lt Tt l1 T1 l2 l3 l4 T4 lm lb Tb lr Tr:Nat}{az:List Int}{ns:List Nat}{xs:List (Vl×V)}{bs:List (Bk×V)}{fa fn:Nat->Option (List Nat×V)}{ss:List (List (Fm×V×V))}{fl:KF->Option (List Nat×V)}
theorem Qc(g:E5 u az)(a:∀v,v<u.ej.length->ns[v]? =some (if v∈fN u (mm az) then(fN u (mm az)).idxOf v else 0)){v:Nat}(hv:v<u.ej.length):Cl ns az v=nm u (mm az) v:=by
 have b:=Tf («as»:=mm az) (n:=u.ej.length) (λw d=>by
  have c:=iy (show w<az.length by rw[g.len];exact d);have e:=g.sub w _ c;rw[JG c];have:=g.len;omega) (u.ej.length+1) v hv
 unfold Cl nm;rw[g.len,Je,a _ b];rfl
structure NV (u:U) (az:List Int) (ns:List Nat) (xs:List (Vl×V)) (ss:List (List (Fm×V×V))) (i:Nat) (fa:Nat->Option (List Nat×V)) (S:Int->Option V) (fl:KF->Option (List Nat×V)) (a:List (List (Fm×V×V))):Prop where
 row:∀v x w,xs[v]? =some (x,w)->fa v=some (if v∈(fN u (mm az)).take i then(iF u (mm az) x).args else x.args,w)
 st:StS ss (Cl ns az) (mw (sR u ((fN u (mm az)).take i))) S fl a
theorem zdM(g:E5 u az)(hc:X7 u.ej xs fa)(W:CpS u.ev ss fl){j:V}(aC:ns.length=u.ej.length)(aD:∀v,v<u.ej.length->ns[v]? =some (if v∈fN u (mm az) then(fN u (mm az)).idxOf v else 0))
  (H0:eo F h (Nx l1 T1 l4 T4 lt Tt num ns [.I u.func,.I u.pc,wv,wb,ws] mQ az (Sx fl ss ws lm (λ_=>none) lb Tb lr Tr l4 l1 l3 gR (.I u.func) (.I u.pc) .ei .ei .ei []
    (fg zh hH xs wv::fg wU fS bs wb::fX eR fa::fX eR fn::fg zh hH [] .ei::fg wU fS [] .ei::eQ l2 gR [.I 0,.I 0,.ei,.ei,.ei]::fg eN eR (fN u (mm az)) j::cs))))
  (H:∀h' m S p t Jn Gy,Sn F h F h'->NV u az ns xs ss (fN u (mm az)).length m S p t->
   eo F h' (Nx l1 T1 l4 T4 lt Tt num ns [.I u.func,.I u.pc,wv,wb,ws] mQ az (Sx p ss ws lm S lb Tb lr Tr l4 l1 l3 gR (.I u.func) (.I u.pc) Jn .ei Gy t
    (fg zh hH xs wv::fg wU fS bs wb::fX eR m::fX eR fn::fg zh hH ((fN u (mm az)).map (ZO u (mm az) xs)) Jn::fg wU fS [] .ei::eQ l2 gR [.I 0,.I 0,.ei,.ei,.ei]::fg eN eR (fN u (mm az)) j::cs)))->
   mc CS Q [.ptr l1 0,.ptr l2 0,.ptr l3 0,.ptr l4 0,.func fT [] [.ptr lb 0,.ptr l3 0,.ptr l1 0,.ptr lr 0],wb,.I bs.length,.I 0] h') :
  mf CS Q [.ptr l1 0,.ptr l2 0,.ptr l3 0,.ptr l4 0,.ptr lr 0,.func fT [] [.ptr lb 0,.ptr l3 0,.ptr l1 0,.ptr lr 0],j,.I ((fN u (mm az)).length:Nat),.I 0] h:=by
 have nv:=g.nv;have gl:=g.len;have aE:xs.length=u.ej.length:=by rw[<-hc.fst,Ik]
 have lss:ss.length=u.ev.length:=by rw[<-W.fst,Ik]
 obtain⟨A,hA⟩:∃A,mm az=A:=⟨_,rfl⟩
 have aF:∀v,v<u.ej.length->Cl ns az v=nm u A v:=by grind[Qc]
 have ar:=AB («as»:=A) g.once;have oh:(fN u A).length<=u.ej.length:=jM _ _ ar λv hv=>Hs g.ko hv
 obtain ⟨I,hI⟩:∃I:Nat->LP,I=λk l h'=>∃(i:Nat) (m:Nat->Option (List Nat×V)) (S:Int->Option V) (p:KF->Option (List Nat×V)) (t:List (List (Fm×V×V))) (Jn Gy:V),l=[.ptr l1 0,.ptr l2 0,.ptr l3 0,.ptr l4 0,.ptr lr 0,.func fT [] [.ptr lb 0,.ptr l3 0,.ptr l1 0,.ptr lr 0],j,.I ((fN u A).length:Nat),.I i]/\i+k=(fN u A).length/\Sn F h F h'/\NV u az ns xs ss i m S p t/\
   eo F h' (Nx l1 T1 l4 T4 lt Tt num ns [.I u.func,.I u.pc,wv,wb,ws] mQ az (Sx p ss ws lm S lb Tb lr Tr l4 l1 l3 gR (.I u.func) (.I u.pc) Jn .ei Gy t
    (fg zh hH xs wv::fg wU fS bs wb::fX eR m::fX eR fn::fg zh hH (((fN u A).take i).map (ZO u A xs)) Jn::fg wU fS [] .ei::eQ l2 gR [.I 0,.I 0,.ei,.ei,.ei]::fg eN eR (fN u A) j::cs))):=⟨_,rfl⟩
 rw[hA]at H0 H⊢;refine Dk I (λk x1 x2 x3 x4 aG aH aI aJ aK h1 hi=>?_) (k:=(fN u A).length) ?_
 ·rw [hI]at hi;obtain⟨i,m,S,p,t,Jn,Gy,⟨⟩,hk,s1,hN,N⟩:=hi;unfold uF;by_cases hi:i<(fN u A).length
  ·refine gK ?_;have hx:=iy hi;have X:=Fz hx;have aL:=Hs g.ko (AY hi);have au:(fN u A)[i] ∉ (fN u A).take i:=by grind[oY,ki,Mq,wBB,yZ]
   generalize (fN u A)[i]=n at*;obtain⟨⟨x,w⟩,O⟩:∃y,xs[n]? =some y:=by simp_all
   have Y:u.ej[n]? =some x:=by rw[<-hc.fst,Dn,O];rfl
   have aw:ZO u A xs n=(iF u A x,w):=by unfold ZO wV;rw[O,Je,Y];rfl
   obtain ⟨p1,p2,p3,p4,p5⟩:=g.parts n x Y;obtain⟨la,oa,y1,y2⟩:=N.Ng 19 rfl hx .i64;obtain⟨lv,ov,wl,z1,z2,⟨rfl,w1⟩,_⟩:=N.YC 12 rfl O .i64;have z1:gB 6 wv (.I n)=some (.ptr lv ov):=z1;refine eh y1 (eh y2 (eh (N.ld 0 rfl rfl) (eh pn (eh pf (oF (N.ld 2 rfl rfl) (eh z1 (eh z2 ?_)))))));refine gZ N rfl rfl (by simp only[mF,eJ];simp only[show w.one=true from w1];rfl) λh2 L s2=>?_;generalize h1.next=lx at*;have L:eo F h2 (Nx l1 T1 l4 T4 lt Tt num ns [.I u.func,.I u.pc,wv,wb,ws] mQ az (Sx p ss ws lm S lb Tb lr Tr l4 l1 l3 gR (.I u.func) (.I u.pc) Jn .ei Gy t (eQ lx 34 (mF x w)::_))):=L.Qw 12 (by simp);have aa:∀d:Nat->Option (List Nat×V),(∀v,v≠n->d v=m v)->d n=some ((iF u A x).args,w)->∀v y b,xs[v]? =some (y,b)->d v=some (if v∈(fN u A).take (i+1) then(iF u A y).args else y.args,b):=λd h1 h2 v y b hv=>by
    rw[X];by_cases e:v=n
    ·simp_all
    ·rw[h1 v e];have:=hN.row v y b hv
     simp_all
   have ab:m n=some (x.args,w):=by
    have:=hN.row n x w O;rw[hA,if_neg au]at this;exact this
   have ac:=hN.st;rw[hA]at ac
   have ae:∀f d S2 P C G,Sn F h F f->(∀v,v≠n->d v=m v)->d n=some ((iF u A x).args,w)->StS ss (Cl ns az) (mw (sR u ((fN u A).take (i+1)))) S2 P C->
     eo F f (Nx l1 T1 l4 T4 lt Tt num ns [.I u.func,.I u.pc,wv,wb,ws] mQ az (Sx P ss ws lm S2 lb Tb lr Tr l4 l1 l3 gR (.I u.func) (.I u.pc) Jn .ei G C
      (eQ lx 34 (mF (iF u A x) w)::fg zh hH xs wv::fg wU fS bs wb::fX eR d::fX eR fn::fg zh hH (((fN u A).take i).map (ZO u A xs)) Jn::fg wU fS [] .ei::eQ l2 gR [.I 0,.I 0,.ei,.ei,.ei]::fg eN eR (fN u A) j::cs)))->
     lD CS Q (Ey I k) [.ptr l1 0,.ptr l2 0,.ptr l3 0,.ptr l4 0,.ptr lr 0,.func fT [] [.ptr lb 0,.ptr l3 0,.ptr l1 0,.ptr lr 0],.ptr lx 0,j,.I ((fN u A).length:Nat),.I i] f:=by
    intro f d S2 P C G M R T hS z;refine BW ?_;unfold td;refine oF (z.ld 10 rfl rfl) (eh (z.pC 12 rfl rfl) ?_);rw[nW (sz:=6) (w:=mF (iF u A x) w) rfl rfl (by simp only[mF,eJ];simp only[show w.one=true from w1];rfl),fE];obtain⟨D,E,e4,_,B,s4⟩:=z.rU 17 rfl (jP:=64) (zL:=34) (y:=(iF u A x,w)) (w:=mF (iF u A x) w) (ro:=false) ⟨rfl,w1⟩ (by decide) (by decide) (by simp;omega);have J:fh 34 6 64 Jn (.slice f.next 0 1) (f.new (.cells 34 6 true false (mF (iF u A x) w)))=some (.val D E):=e4;rw[J,en];simp only[ji,lO]at B;obtain⟨h5,e5,_,H5,s5⟩:=B.st 10 (o:=2) (u:=D) rfl (by simp) (B.one 17 rfl);refine eh pf ?_;have Z:gJ 1 (.ptr l3 (0+2)) D E=some (.val .undef h5):=by rw[zO];exact e5
    rw[Z,en];simp only[ji,lO]at H5;refine fL ⟨k-1,by omega,?_⟩;rw[hI];refine⟨i+1,d,S2,P,C,D,G,rfl,by omega,(M.trans s4).trans s5,⟨λv y b hv=>by rw[hA];exact aa d R T v y b hv,by simp_all⟩,?_⟩;have H6:=H5.Ns 12 (by simp);rw[X,Lj,wB7,wB2,aw];exact H6
   have ag:sR u ((fN u A).take (i+1))=sR u ((fN u A).take i)++(if leaves x.op=true then[x.state] else[]):=by
    rw[X];unfold sR;rw[List.filterMap_append,List.filterMap_cons];simp only[Y];by_cases e:leaves x.op=true
    ·grind
    ·grind
   have ah:mw (sR u ((fN u A).take (i+1))) <+: HO u A:=by
    have:K6 u A=sR u ((fN u A).take (i+1))++(sR u ((fN u A).drop (i+1))++Cv u.blocks):=by
     rw[PA,<-Lb];congr 1
     conv=>lhs;rw[<-ZI (i+1) (fN u A)]
     exact List.filterMap_append
    unfold HO;rw[this];exact IC _ _
   have ai:∀f d,Sn F h F f->(∀v,v≠n->d v=m v)->d n=some ((iF u A x).args,w)->
     eo F f (Nx l1 T1 l4 T4 lt Tt num ns [.I u.func,.I u.pc,wv,wb,ws] mQ az (Sx p ss ws lm S lb Tb lr Tr l4 l1 l3 gR (.I u.func) (.I u.pc) Jn .ei Gy t
      (eQ lx 34 (mF {x with a:=(iF u A x).a,b:=(iF u A x).b} w)::fg zh hH xs wv::fg wU fS bs wb::fX eR d::fX eR fn::fg zh hH (((fN u A).take i).map (ZO u A xs)) Jn::fg wU fS [] .ei::eQ l2 gR [.I 0,.I 0,.ei,.ei,.ei]::fg eN eR (fN u A) j::cs)))->
     lG CS Q (Ey I k) [.ptr l1 0,.ptr l2 0,.ptr l3 0,.ptr l4 0,.ptr lr 0,.func fT [] [.ptr lb 0,.ptr l3 0,.ptr l1 0,.ptr lr 0],.ptr lx 0,j,.I ((fN u A).length:Nat),.I i] f:=by
    intro f d M R T z;refine BJ ?_;unfold tE;refine oF (z.ld 12 rfl rfl) (Hm (jj ?_));by_cases hlv:leaves x.op=true
    ·refine gz hlv (oF (z.ld 12 rfl rfl) ?_);show cP CS fT [.I x.state,.ptr lb 0,.ptr l3 0,.ptr l1 0,.ptr lr 0] f _;obtain⟨sl,U⟩:∃sl,ss[x.state]? =some sl:=⟨_,iy (by have:=p5 hlv;omega)⟩
     have ax:u.ev[x.state]? =some (sl.map Prod.fst):=by rw[<-W.fst,Dn,U];rfl
     obtain⟨q1,q2⟩:=g.st _ _ ax;rw[Ik]at q1;refine PK z ac (by omega) (by omega) g.sub U (by have:=g.ns;omega) q1 (λy hy=>?_) λE ay S4 aj ak s4 al B=>?_
     ·grind
     rw[if_pos hlv]at ag;have aA:Xg (mw (sR u ((fN u A).take i))) x.state=mw (sR u ((fN u A).take (i+1))):=by rw[ag,zi];rfl
     rw[aA]at al⊢;have am:x.state∈mw (sR u ((fN u A).take (i+1))):=(by grind[vt])
     have aB:(mw (sR u ((fN u A).take (i+1)))).idxOf x.state=(iF u A x).state:=by
      rw[<-N6 ah am];show _=if leaves x.op=true then(HO u A).idxOf x.state else x.state
      rw[if_pos hlv]
     rw[aB];obtain⟨h5,e5,_,H5,s5⟩:=B.st 12 (o:=5) (u:= .I ((iF u A x).state:Nat)) rfl (by simp[mF]) rfl;refine eh pf ?_;have Z:gJ 1 (.ptr lx (0+5)) (.I ((iF u A x).state:Nat)) E=some (.val .undef h5):=by rw[zO];exact e5
     rw[Z,en];simp only[ji,lO]at H5;exact ae h5 d S4 ay aj ak ((M.trans s4).trans s5) R T al H5
    ·refine gh hlv (ae f d S p t Gy M R T ?_ ?_)
     ·grind
     ·have hs:(iF u A x).state=x.state:=if_neg hlv
      grind[mF,iF]
   have an:∀f,Sn F h F f->eo F f (Nx l1 T1 l4 T4 lt Tt num ns [.I u.func,.I u.pc,wv,wb,ws] mQ az (Sx p ss ws lm S lb Tb lr Tr l4 l1 l3 gR (.I u.func) (.I u.pc) Jn .ei Gy t
      (eQ lx 34 (mF {x with a:=(iF u A x).a,b:=(iF u A x).b} w)::fg zh hH xs wv::fg wU fS bs wb::fX eR m::fX eR fn::fg zh hH (((fN u A).take i).map (ZO u A xs)) Jn::fg wU fS [] .ei::eQ l2 gR [.I 0,.I 0,.ei,.ei,.ei]::fg eN eR (fN u A) j::cs)))->
     lI CS Q (Ey I k) [.ptr l1 0,.ptr l2 0,.ptr l3 0,.ptr l4 0,.ptr lr 0,.func fT [] [.ptr lb 0,.ptr l3 0,.ptr l1 0,.ptr lr 0],.ptr lx 0,j,.I ((fN u A).length:Nat),.I i] f:=by
    intro f M z;refine BI ?_;unfold su;refine oF (z.ld 12 rfl rfl) (ir ?_);have e0:fe (.ptr lx (0+0)) f=some (.I x.op):=z.ld 12 rfl rfl;have eq:og (V.bool (decide ((x.op:Int)=21))) (oB (fJ 0 (.ptr lx 0)) λao=>oB (fe ao f) λap=>ez .eql 3 ap (V.I 20))=some (.bool (decide (x.op=21\/x.op=20))):=by
     rw[pf,fo,e0,fo,g0,pS];congr 2;by_cases c1:x.op=21
     ·grind
     ·grind
    refine eh eq (jj ?_);have K:(iF u A x).args=if x.op=21\/x.op=20 then x.args.map (nm u A) else x.args:=rfl
    by_cases c:x.op=21\/x.op=20
    ·refine gz (JM c) (eh (z.ld 9 rfl rfl) (oF (z.ld 12 rfl rfl) ?_));show cP CS iK [w,.ptr l4 0,.ptr l1 0] f _;refine KW 10 z rfl ab rfl (by omega) (by omega) g.sub (by grind) (by omega) λE s4 B=>?_;simp only[ji,lO]at B;have hm:x.args.map (Cl ns az)=(iF u A x).args:=by
      rw[K,if_pos c];exact by grind[Xp]
     rw[hm]at B;exact ai E _ (M.trans s4) (by grind[jk]) (jn _ _ _) B
    ·refine gh (by rw[CU];exact c) (ai f m M (λ_ _=>rfl) ?_ z);rw[K,if_neg c];exact ab
   have aq:∀f,Sn F h F f->eo F f (Nx l1 T1 l4 T4 lt Tt num ns [.I u.func,.I u.pc,wv,wb,ws] mQ az (Sx p ss ws lm S lb Tb lr Tr l4 l1 l3 gR (.I u.func) (.I u.pc) Jn .ei Gy t
      (eQ lx 34 (mF {x with a:=(iF u A x).a} w)::fg zh hH xs wv::fg wU fS bs wb::fX eR m::fX eR fn::fg zh hH (((fN u A).take i).map (ZO u A xs)) Jn::fg wU fS [] .ei::eQ l2 gR [.I 0,.I 0,.ei,.ei,.ei]::fg eN eR (fN u A) j::cs)))->
     lK CS Q (Ey I k) [.ptr l1 0,.ptr l2 0,.ptr l3 0,.ptr l4 0,.ptr lr 0,.func fT [] [.ptr lb 0,.ptr l3 0,.ptr l1 0,.ptr lr 0],.ptr lx 0,j,.I ((fN u A).length:Nat),.I i] f:=by
    intro f M z;refine Bx ?_;unfold tx;refine oF (z.ld 12 rfl rfl) (Nv (DT ?_));have hb:(iF u A x).b=if two x.op=true then nm u A x.b else x.b:=rfl
    by_cases c:two x.op=true
    ·refine gz (by show(1:Int)<(om x.op:Nat);unfold om;grind) ?_;refine eh (z.ld 1 rfl rfl) (eh (z.ld 0 rfl rfl) (oF (z.ld 12 rfl rfl) ?_));refine JQ z rfl (by omega) (by omega) g.sub (by grind) λr q e1 e2=>⟨jO _,eh e1 (eh e2 (eh pf ⟨z.ld 1 rfl rfl,?_⟩))⟩
     obtain⟨E,e4,n4,B,s4⟩:=z.st 12 (o:=2) (u:= .I (Cl ns az x.b:Nat)) rfl (by simp[mF]) rfl;have J:gJ 1 (.ptr lx (0+2)) (.I (Cl ns az x.b:Nat)) f=some (.val .undef E):=by rw[zO];exact e4
     rw[J,en];simp only[ji,lO]at B;have hq:Cl ns az x.b=(iF u A x).b:=by rw[hb,if_pos c];exact by grind
     rw[hq]at B;exact⟨n4,an E (M.trans s4) B⟩
    ·refine gh (by show ¬(1:Int)<(om x.op:Nat);unfold om;grind) (an f M ?_)
     grind
   refine oF (L.ld 12 rfl rfl) (Nv (DT ?_));have ha:(iF u A x).a=if 0<om x.op then nm u A x.a else x.a:=rfl
   by_cases c:0<om x.op
   ·have c':nq x.op=true\/two x.op=true:=by
     unfold om at c;by_cases h1:two x.op=true
     ·grind
     ·grind
    refine gz (by omega) ?_;refine eh (L.ld 1 rfl rfl) (eh (L.ld 0 rfl rfl) (oF (L.ld 12 rfl rfl) ?_));refine JQ L rfl (by omega) (by omega) g.sub (by grind) λr q e1 e2=>⟨jO _,eh e1 (eh e2 (eh pf ⟨L.ld 1 rfl rfl,?_⟩))⟩
    obtain⟨E,e4,n4,B,s4⟩:=L.st 12 (o:=1) (u:= .I (Cl ns az x.a:Nat)) rfl (by simp[mF]) rfl;have J:gJ 1 (.ptr lx (0+1)) (.I (Cl ns az x.a:Nat)) h2=some (.val .undef E):=by rw[zO];exact e4
    rw[J,en];simp only[ji,lO]at B;have hq:Cl ns az x.a=(iF u A x).a:=by rw[ha,if_pos c];exact by grind
    rw[hq]at B;exact⟨n4,aq E ((s1.trans s2).trans s4) B⟩
   ·refine gh (by omega) (aq h2 (s1.trans s2) ?_);have:({x with a:=(iF u A x).a}:Vl)=x:=by rw[ha,if_neg c]
    rw[this];exact L
  ·refine iQ ?_;obtain rfl:i=(fN u A).length:=by omega
   rw[Ki]at N;refine eh (N.ld 0 rfl rfl) (eh pn (eh pf (oF (N.ld 2 rfl rfl) (eh (N.len 13 rfl) ?_))))
   grind
 ·rw[hI];refine⟨0,fa,λ_=>none,fl,[],.ei,.ei,rfl,by omega,Sn.refl _ _,⟨λv x w hx=>?_,λs=>rfl,rfl,λs l k x a w hs hl=>?_,List.nodup_nil,λ_ h=>by cases h⟩,H0⟩
  ·rw[hc.row v x w hx];rfl
  ·exact W.loc s l k x a w hs hl
end
open Un Dm
section
variable{F F':Nat->Prop}{h h':Hp}{cs ds:List Pc}{Q:fD}{u:U}{wv wb ws mQ num Jn:V}{lt Tt l1 T1 l2 l3 l4 T4 lm lb Tb lr Tr:Nat}{az:List Int}{ns:List Nat}{xs ys:List (Vl×V)}{bs0 bs:List (Bk×V)}{fa fn:Nat->Option (List Nat×V)}{ss:List (List (Fm×V×V))}{fl:KF->Option (List Nat×V)}
def kOf(u:U)(A:Nat->Int)(bs:List (Bk×V))(b:Nat):Bk×V:=(nQ u A (u.blocks.getD b Qj),Ra bs b)
theorem zeM(g:E5 u az)(hb:Xu u.blocks bs0 fn)(R:ss.map (λl=>l.map Prod.fst)=u.ev)(T:NbB u az u.blocks.length bs0 bs){S:Int->Option V}{a:List (List (Fm×V×V))}{Gy:V}(ax:ns.length=u.ej.length)(ah:∀v,v<u.ej.length->ns[v]? =some (if v∈fN u (mm az) then(fN u (mm az)).idxOf v else 0))
  (U:StS ss (Cl ns az) (mw (sR u (fN u (mm az)))) S fl a)
  (H0:eo F h (Nx l1 T1 l4 T4 lt Tt num ns [.I u.func,.I u.pc,wv,wb,ws] mQ az (Sx fl ss ws lm S lb Tb lr Tr l4 l1 l3 gR (.I u.func) (.I u.pc) Jn .ei Gy a
    (fg zh hH xs wv::fg wU fS bs wb::fX eR fa::fX eR fn::fg zh hH ys Jn::fg wU fS [] .ei::eQ l2 gR [.I 0,.I 0,.ei,.ei,.ei]::ds))))
  (H:∀h' S c a b Gy,Sn F h F h'->StS ss (Cl ns az) (HO u (mm az)) S c a->
   eo F h' (Nx l1 T1 l4 T4 lt Tt num ns [.I u.func,.I u.pc,wv,wb,ws] mQ az (Sx c ss ws lm S lb Tb lr Tr l4 l1 l3 gR (.I u.func) (.I u.pc) Jn b Gy a
    (fg zh hH xs wv::fg wU fS bs wb::fX eR fa::fX eR fn::fg zh hH ys Jn::fg wU fS ((List.range u.blocks.length).map (kOf u (mm az) bs0)) b::eQ l2 gR [.I u.func,.I u.pc,Jn,b,Gy]::ds)))->
   Q (.agg [.I u.func,.I u.pc,Jn,b,Gy]) h') :
  mc CS Q [.ptr l1 0,.ptr l2 0,.ptr l3 0,.ptr l4 0,.func fT [] [.ptr lb 0,.ptr l3 0,.ptr l1 0,.ptr lr 0],wb,.I bs.length,.I 0] h:=by
 have nv:=g.nv;have nb:=g.nb;have gl:=g.len;have W:bs0.length=u.blocks.length:=by rw[<-hb.fst,Ik]
 have X:bs.length=u.blocks.length:=by rw[T.len,W]
 have lss:ss.length=u.ev.length:=by rw[<-R,Ik]
 obtain⟨A,hA⟩:∃A,mm az=A:=⟨_,rfl⟩
 have ai:∀v,v<u.ej.length->Cl ns az v=nm u A v:=λv hv=>by rw[<-hA];exact Qc g ah hv
 rw[hA]at H U;have C:=T.row;rw[hA]at C
 obtain ⟨I,hI⟩:∃I:Nat->LP,I=λk l h'=>∃(i:Nat) (S:Int->Option V) (c:KF->Option (List Nat×V)) (a:List (List (Fm×V×V))) (b Gy:V),l=[.ptr l1 0,.ptr l2 0,.ptr l3 0,.ptr l4 0,.func fT [] [.ptr lb 0,.ptr l3 0,.ptr l1 0,.ptr lr 0],wb,.I bs.length,.I i]/\i+k=bs.length/\Sn F h F h'/\StS ss (Cl ns az) (mw (sR u (fN u A)++Cv (u.blocks.take i))) S c a/\
   eo F h' (Nx l1 T1 l4 T4 lt Tt num ns [.I u.func,.I u.pc,wv,wb,ws] mQ az (Sx c ss ws lm S lb Tb lr Tr l4 l1 l3 gR (.I u.func) (.I u.pc) Jn b Gy a
    (fg zh hH xs wv::fg wU fS bs wb::fX eR fa::fX eR fn::fg zh hH ys Jn::fg wU fS ((List.range i).map (kOf u A bs0)) b::eQ l2 gR [.I 0,.I 0,.ei,.ei,.ei]::ds))):=⟨_,rfl⟩
 refine Db I (λk x1 x2 x3 x4 ay ar au aw h1 hi=>?_) (k:=bs.length) ?_
 ·rw [hI]at hi;obtain⟨i,S,c,a,b,Gy,⟨⟩,hk,s1,Y,E⟩:=hi;unfold uM;by_cases hi:i<bs.length
  ·refine gK ?_;obtain⟨⟨B,w⟩,G⟩:∃y,bs0[i]? =some y:=⟨_,iy (by omega)⟩
   have hB:u.blocks[i]? =some B:=by rw[<-hb.fst,Dn,G];rfl
   have Z:=C i B w G;rw[if_pos (by omega)]at Z;have aj:kOf u A bs0 i=(nQ u A B,w):=by unfold kOf Ra;rw[G,Je,hB];rfl
   have ak:=Fz hB;obtain⟨e1,e2⟩:=g.ends i B hB;obtain⟨lv,ov,wl,z1,z2,⟨bv,bp,rfl,iv,ip,w1⟩,_⟩:=E.YC 13 rfl Z .i64;have z1:gB 6 wb (.I i)=some (.ptr lv ov):=z1;refine eh z1 (eh z2 ?_);refine gZ E rfl rfl (by simp only[km,eJ,iv.one,ip.one];simp only[show w.one=true from w1];rfl) λJ f s2=>?_;generalize h1.next=lx at*;have iv:=iv.since s2;have ip:=ip.since s2;have f:eo F J (Nx l1 T1 l4 T4 lt Tt num ns [.I u.func,.I u.pc,wv,wb,ws] mQ az (Sx c ss ws lm S lb Tb lr Tr l4 l1 l3 gR (.I u.func) (.I u.pc) Jn b Gy a (eQ lx 45 (km {B with ej:=(B.ej.filter (stays A)).map (fN u A).idxOf} bv w bp)::_))):=f.Qw 12 (by simp)
   have K:∀O S2 x m t,Sn F J F O->StS ss (Cl ns az) (mw (sR u (fN u A)++Cv (u.blocks.take (i+1)))) S2 x m->
     eo F O (Nx l1 T1 l4 T4 lt Tt num ns [.I u.func,.I u.pc,wv,wb,ws] mQ az (Sx x ss ws lm S2 lb Tb lr Tr l4 l1 l3 gR (.I u.func) (.I u.pc) Jn b t m
      (eQ lx 45 (km (nQ u A B) bv w bp)::fg zh hH xs wv::fg wU fS bs wb::fX eR fa::fX eR fn::fg zh hH ys Jn::fg wU fS ((List.range i).map (kOf u A bs0)) b::eQ l2 gR [.I 0,.I 0,.ei,.ei,.ei]::ds)))->
     jW CS Q (Ey I k) [.ptr l1 0,.ptr l2 0,.ptr l3 0,.ptr l4 0,.func fT [] [.ptr lb 0,.ptr l3 0,.ptr l1 0,.ptr lr 0],.ptr lx 0,wb,.I bs.length,.I i] O:=by
    intro O S2 x m t s3 hS H3;have al:=iv.since s3;have am:=ip.since s3;refine B4 ?_;unfold r0;refine oF (H3.ld 10 rfl rfl) (eh (H3.pC 12 rfl rfl) ?_);rw[nW (sz:=6) (w:=km (nQ u A B) bv w bp) rfl rfl (by simp only[km,eJ,iv.one,ip.one];simp only[show w.one=true from w1];rfl),fE];obtain⟨p,L,e4,_,z,s4⟩:=H3.rU 18 rfl (jP:=96) (zL:=45) (y:=(nQ u A B,w)) (w:=km (nQ u A B) bv w bp) (ro:=false) ⟨bv,bp,rfl,al,am,w1⟩ (by decide) (by decide) (by simp;omega);have M:fh 45 6 96 b (.slice O.next 0 1) (O.new (.cells 45 6 true false (km (nQ u A B) bv w bp)))=some (.val p L):=e4;rw[M,en];simp only[ji,lO]at z;obtain⟨h5,e5,_,P,s5⟩:=z.st 10 (o:=3) (u:=p) rfl (by simp) (z.one 18 rfl);refine eh pf ?_;have N:gJ 1 (.ptr l3 (0+3)) p L=some (.val .undef h5):=by rw[zO];exact e5
    rw[N,en];simp only[ji,lO]at P;refine fL ⟨k-1,by omega,?_⟩;rw[hI];refine⟨i+1,S2,x,m,p,t,rfl,by omega,(((s1.trans s2).trans s3).trans s4).trans s5,hS,?_⟩;have H6:=P.Ns 12 (by simp);rw[Yl,Lj,wB7,wB2,aj];exact H6
   have s:Cv (u.blocks.take (i+1))=Cv (u.blocks.take i)++(if B.fin=3 then[B.state] else[]):=by
    rw[ak];unfold Cv;rw[List.filterMap_append,List.filterMap_cons];by_cases e:B.fin=3
    ·rw[if_pos e,if_pos e];rfl
    ·rw[if_neg e,if_neg e];rfl
   have aa:mw (sR u (fN u A)++Cv (u.blocks.take (i+1))) <+: HO u A:=by
    have:K6 u A=(sR u (fN u A)++Cv (u.blocks.take (i+1)))++Cv (u.blocks.drop (i+1)):=by
     rw[PA,Lb];congr 1
     conv=>lhs;rw[<-ZI (i+1) u.blocks]
     exact List.filterMap_append
    unfold HO;rw[this];exact IC _ _
   have j:(nQ u A B).cond=if B.fin=2 then nm u A B.cond else B.cond:=rfl
   have d:(nQ u A B).state=if B.fin=3 then(HO u A).idxOf B.state else B.state:=rfl
   refine oF (f.ld 12 rfl rfl) (gy ?_);by_cases c2:B.fin=2
   ·rw [if_neg (show ¬B.fin=3 by omega),JL]at s;refine gz (by show(B.fin:Int)=2;omega) ?_;refine eh (f.ld 1 rfl rfl) (eh (f.ld 0 rfl rfl) (oF (f.ld 12 rfl rfl) ?_));refine JQ f rfl (by omega) (by omega) g.sub (by rw[gl];exact e1 c2) λr q q1 q2=>⟨jO _,eh q1 (eh q2 (eh pf ⟨f.ld 1 rfl rfl,?_⟩))⟩
    obtain⟨L,e4,n4,z,s4⟩:=f.st 12 (o:=2) (u:= .I (Cl ns az B.cond:Nat)) rfl (by simp[km]) rfl;have M:gJ 1 (.ptr lx (0+2)) (.I (Cl ns az B.cond:Nat)) J=some (.val .undef L):=by rw[zO];exact e4
    rw [show({B with ej:=(B.ej.filter (stays A)).map (fN u A).idxOf}:Bk).cond=B.cond from rfl,M,en];simp only[ji,lO]at z;have hq:(km {B with ej:=(B.ej.filter (stays A)).map (fN u A).idxOf} bv w bp).set 2 (.I (Cl ns az B.cond:Nat))=km (nQ u A B) bv w bp:=by
     unfold km;rw[j,d,if_pos c2,if_neg (by omega),ai _ (e1 c2)];rfl
    rw[hq]at z;exact⟨n4,K L S c a Gy s4 (by rw[s];exact Y) z⟩
   ·refine gh (by show ¬(B.fin:Int)=2;omega) (gy ?_);by_cases c3:B.fin=3
    ·refine gz (by show(B.fin:Int)=3;omega) (oF (f.ld 12 rfl rfl) ?_);show cP CS fT [.I B.state,.ptr lb 0,.ptr l3 0,.ptr l1 0,.ptr lr 0] J _;obtain⟨sl,D⟩:∃sl,ss[B.state]? =some sl:=⟨_,iy (by have:=e2 c3;omega)⟩
     have an:u.ev[B.state]? =some (sl.map Prod.fst):=by rw[<-R,Dn,D];rfl
     obtain⟨q1,q2⟩:=g.st _ _ an;rw[Ik]at q1;refine PK f Y (by omega) (by omega) g.sub D (by have:=g.ns;omega) q1 (λy hy=>?_) λL ao S4 ab ac s4 ae z=>?_
     ·obtain⟨r1,r2,r3,r4⟩:=q2 y.1 (List.mem_map_of_mem hy);rw[gl];exact⟨r1,r2,r3,r4⟩
     rw[if_pos c3]at s;have ap:Xg (mw (sR u (fN u A)++Cv (u.blocks.take i))) B.state=mw (sR u (fN u A)++Cv (u.blocks.take (i+1))):=by rw[s,<-Lb,zi];rfl
     rw [ap]at ae⊢;have ag:B.state∈mw (sR u (fN u A)++Cv (u.blocks.take (i+1))):=(vt _ _).2 (by rw[s];simp);have aq:(mw (sR u (fN u A)++Cv (u.blocks.take (i+1)))).idxOf B.state=(nQ u A B).state:=by
      rw[<-N6 aa ag,d,if_pos c3]
     rw[aq];obtain⟨h5,e5,_,P,s5⟩:=z.st 12 (o:=5) (u:= .I ((nQ u A B).state:Nat)) rfl (by simp[km]) rfl;refine eh pf ?_;have N:gJ 1 (.ptr lx (0+5)) (.I ((nQ u A B).state:Nat)) L=some (.val .undef h5):=by rw[zO];exact e5
     rw [N,en];simp only[ji,lO]at P;have hq:(km {B with ej:=(B.ej.filter (stays A)).map (fN u A).idxOf} bv w bp).set 5 (.I ((nQ u A B).state:Nat))=km (nQ u A B) bv w bp:=by
      unfold km;rw[j,if_neg c2];rfl
     rw[hq]at P;exact K h5 S4 ao ab ac (s4.trans s5) ae P
    ·refine gh (by show ¬(B.fin:Int)=3;omega) (K J S c a Gy (Sn.refl _ _) ?_ ?_)
     ·rw[s,if_neg c3,JL];exact Y
     ·have:km (nQ u A B) bv w bp=km {B with ej:=(B.ej.filter (stays A)).map (fN u A).idxOf} bv w bp:=by
       unfold km;rw[j,d,if_neg c2,if_neg c3];rfl
      rw[this];exact f
  ·refine iQ ?_;obtain rfl:i=bs.length:=by omega
   refine eh (E.pC 10 rfl rfl) ?_;obtain⟨J,e2,_,f,s2⟩:=E.U1 18 (ws:=[.I u.func,.I u.pc,Jn,b,Gy]) (n:=5) rfl rfl rfl (by simp only[eJ,E.one 16 rfl,E.one 17 rfl,E.one 11 rfl];rfl);rw[e2,en];simp only[ji,lO]at f;refine eh (f.pC 18 rfl rfl) ?_;rw[X,Ki]at Y;rw[X]at f;exact H J S c a b Gy (s1.trans s2) Y f
 ·rw[hI];exact⟨0,S,fl,a,.ei,Gy,rfl,by omega,Sn.refl _ _,by rw[wB4];show StS _ _ (mw (_++[])) _ _ _;rw[JL];exact U,H0⟩
end
open Un Dm
section
variable{F F':Nat->Prop}{h h':Hp}{cs ds:List Pc}{Q:fD}{u:U}{wv wb ws mQ:V}{lt Tt:Nat}{az:List Int}{xs:List (Vl×V)}{bs:List (Bk×V)}{fa fn:Nat->Option (List Nat×V)}{ss:List (List (Fm×V×V))}{fl:KF->Option (List Nat×V)}
theorem eo.TC(H:eo F h cs)(n:Nat):∃G,eo G h (cs.drop n)/\Sn F h G h/\∀(i:Nat)(c:Pc),i<n->cs[i]? =some c->∀l,c.mn l->G l:=by
 have ht:∀{i:Nat} {c:Pc},(cs.take n)[i]? =some c->i<n/\cs[i]? =some c:=λ{i c} hc=>by
  have a:=(ki.1 hc).1;rw[Mq]at a;rw[wBB (by omega)]at hc;exact⟨by omega,hc⟩
 refine⟨λl=>F l\/Oh (cs.take n) l,⟨λl a=>a.elim (H.fl l) λ⟨i,c,hc,e⟩=>(c.MB (H.ok i c (ht hc).2) l e).1,λi c hc=>?_,λi j c d hc b k=>?_⟩,⟨jO _,λ_ _=>rfl,λ_ h=> .inl h⟩,λi c hi hc l a=> .inr ⟨i,c,by rw[wBB hi];exact hc,a⟩⟩
 ·rw[wBL]at hc;refine c.mono (H.ok _ c hc) (λ_ h=> .inl h) λl a f=>?_;rcases f with f|⟨j,d,b,e⟩
  ·exact(c.MB (H.ok _ c hc) l a).2 f
  ·obtain⟨m,g⟩:=ht b;exact H.Ew (n+i) j c d hc g (by omega) l a e
 ·rw[wBL]at hc b;exact H.Ew (n+i) (n+j) c d hc b (by omega)
section
variable{G:Nat->Prop}
theorem im.ofRow{α β:Type}{E:qp α} {E':qp β}(H:eo F h cs)(i:Nat){ty:Nat}{xs:List α}{ys:List β}{v:V}(hi:cs[i]? =some (fg E ty xs v))(f:∀l,F l->G l)(g:∀l,Loc v l->G l)(j:E'.sz=E.sz)(b:ys.length=xs.length)(c:∀(k:Nat) x y cs,xs[k]? =some x->ys[k]? =some y->E.rel F h x cs->E'.rel G h y cs):im E' G h ys v:=by
 have d:=(ki.1 hi).1;exact((H.ZW (E':=E.fix F h) i hi rfl rfl λk x y cs hx a c=>by rw[hx]at a;cases a;exact c).row i (NZ d)).read.ZW j (λl b=>b.elim (f l) (g l)) b λk x y cs hx a e=>c k x y cs hx a e
theorem LZ(H:eo F h cs)(j:Nat){ι:Type}{ty:Nat}{f:ι->Option (List Nat×V)}(a:cs[j]? =some (fX ty f))(b:∀l,F l->G l)(c:∀l,(fX ty f).mn l->G l){i:ι}{xs:List Nat}{v:V}(hi:f i=some (xs,v)):im eN G h xs v:=
 (H.rows j a hi).Z8 b λl d=>c l ⟨i,xs,v,hi,d⟩
end
theorem UW(g:E5 u az)(hc:X7 u.ej xs fa)(hb:Xu u.blocks bs fn)(o:CpS u.ev ss fl)
  (H0:eo F h (fg zh hH xs wv::fg wU fS bs wb::fX eR fa::fX eR fn::fg eZ eR az mQ::eQ lt Tt [.I u.func,.I u.pc,wv,wb,ws,mQ]::fg (eL Rr) mO ss ws::fX eR fl::cs))
  (H:∀F' h' vv vb vs,Sn F h F' h'->eo F' h' cs->wW F' h' (jo u (mm az)) vv vb vs->Q (.agg (uC (jo u (mm az)) vv vb vs)) h') :
  cP CS lM [.ptr lt 0] h Q:=by
 refine SY g hc hb H0 λF1 h1 l1 T1 l2 l3 l4 T4 lm lb Tb lr Tr num ns aa ab s1 N t e H1=>?_;refine zdM g hc o t e H1 λh2 ac S2 ae X Jn Gy s2 Y H2=>?_;have A:=Y.st;rw[Ki]at A;refine zeM g hb o.fst N t e A H2 λO S3 ag Z P C s3 M i=>?_;obtain⟨G,H4,s4,p⟩:=i.TC 20;have d:∀l,F1 l->G l:=λl hl=>s4.mono l hl;refine H G O Jn P C (((s1.trans s2).trans s3).trans s4) H4 ⟨?_,?_,?_⟩
 ·refine im.ofRow i 16 rfl d (p 16 _ (by decide) rfl) rfl (by simp[jo]) λk x y ws hx b m=>?_;rw[Dn]at hx;have b:((fN u (mm az)).map λn=>iF u (mm az) (u.ej.getD n za5))[k]? =some y:=b;rw[Dn]at b
  cases hk:(fN u (mm az))[k]? with
  |none=>rw[hk]at hx;cases hx
  | some n=>
    rw[hk]at hx b;cases hx;cases b;obtain⟨rfl,_⟩:=m;have R:=Hs g.ko (DG hk);obtain⟨⟨x,w⟩,q⟩:∃y,xs[n]? =some y:=⟨_,iy (by rw[<-Ik (f:=Prod.fst),hc.fst];exact R)⟩
    have D:u.ej[n]? =some x:=by rw[<-hc.fst,Dn,q];rfl
    have S:ZO u (mm az) xs n=(iF u (mm az) x,w):=by unfold ZO wV;rw[q,Je,D];rfl
    have E:=Y.row n x w q;rw[Ki,if_pos (DG hk)]at E;have T:u.ej.getD n za5=x:=by rw[Je,D];rfl
    show eV.rel G O (iF u (mm az) (u.ej.getD n za5)) _;rw[S,T];exact⟨w,rfl,LZ i 14 rfl d (p 14 _ (by decide) rfl) E⟩
 ·refine im.ofRow i 17 rfl d (p 17 _ (by decide) rfl) rfl (by simp[jo]) λk x y ws hx b m=>?_;rw[Dn]at hx;have b:(u.blocks.map (nQ u (mm az)))[k]? =some y:=b;rw[Dn]at b
  cases hB:u.blocks[k]? with
  |none=>rw[hB]at b;cases b
  | some B=>
    rw[hB]at b;cases b;have I:=(ki.1 hB).1;rw[wBw I]at hx;cases hx;obtain⟨⟨B',w⟩,r⟩:∃y,bs[k]? =some y:=⟨_,iy (by rw[<-Ik (f:=Prod.fst),hb.fst];exact I)⟩
    have J:u.blocks[k]? =some B':=by rw[<-hb.fst,Dn,r];rfl
    rw[hB]at J;cases J;have U:kOf u (mm az) bs k=(nQ u (mm az) B,w):=by unfold kOf Ra;rw[r,Je,hB];rfl
    rw[U]at m;obtain⟨bv,bp,rfl,iv,ip,_⟩:=m;exact⟨bv,w,bp,rfl,iv.mono d,LZ i 15 rfl d (p 15 _ (by decide) rfl) (hb.row k B w r),ip.mono d⟩
 ·refine im.ofRow i 11 rfl d (p 11 _ (by decide) rfl) rfl (by simp[jo,M.out]) λk x y ws hx b m=>?_;rw[M.out,Dn]at hx;have b:((HO u (mm az)).map λs=>(u.ev.getD s []).map (Wf u (mm az)))[k]? =some y:=b;rw[Dn]at b
  cases hk:(HO u (mm az))[k]? with
  |none=>rw[hk]at hx;cases hx
  | some s=>
    rw[hk]at hx b;cases hx;cases b;have K:=DG hk;have oh:=M.lt s K;obtain⟨l,c⟩:∃l,ss[s]? =some l:=⟨_,iy oh⟩
    have L:u.ev[s]? =some (l.map Prod.fst):=by rw[<-o.fst,Dn,c];rfl
    have g1:ss.getD s []=l:=by rw[Je,c];rfl
    have g2:u.ev.getD s []=l.map Prod.fst:=by rw[Je,L];rfl
    show(eL eF).rel G O ((u.ev.getD s []).map (Wf u (mm az))) ws;rw[g2];obtain⟨f,rfl,V⟩:=m;dsimp only at V;rw[g1]at V;refine⟨f,rfl,V.ZW rfl d (by simp) λj z y cs W b m=>?_⟩;rw[List.map_map,Dn,W]at b;cases b;obtain⟨z,a,w⟩:=z;obtain⟨rfl,_,_⟩:=m;obtain⟨r1,r2⟩:=M.rows s l j z a w c W;rw[if_pos K]at r1 r2;obtain⟨_,q2⟩:=g.st s _ L;obtain⟨_,_,q3,q4⟩:=q2 z (List.mem_map_of_mem (f:=Prod.fst) (DG W));rw[Xp λv hv=>Qc g e (q3 v hv)]at r1;rw[Xp λv hv=>Qc g e (q4 v hv)]at r2;exact⟨a,w,rfl,LZ i 5 rfl d (p 5 _ (by decide) rfl) r1,LZ i 5 rfl d (p 5 _ (by decide) rfl) r2⟩
end
section
variable{F:Nat->Prop}{h:Hp}{cs:List Pc}{u:U}{wv wb ws:V}{xs:List (Vl×V)}{bs:List (Bk×V)}{ss:List (List (Fm×V×V))}{fa fn:Nat->Option (List Nat×V)}{fl:KF->Option (List Nat×V)}
theorem eo.SC(hc:X7 u.ej xs fa)(hb:Xu u.blocks bs fn)(hs:CpS u.ev ss fl)(H:eo F h (fg zh hH xs wv::fg wU fS bs wb::fg (eL Rr) mO ss ws::fX eR fa::fX eR fn::fX eR fl::cs)) :
  ∃G,eo G h cs/\Sn F h G h/\wW G h u wv wb ws:=by
 obtain⟨G,i,s4,d⟩:=H.TC 6;have c:∀l,F l->G l:=λl m=>s4.mono l m;refine⟨G,i,s4,⟨?_,?_,?_⟩⟩
 ·refine im.ofRow H 0 rfl c (d 0 _ (by decide) rfl) rfl (by rw[<-hc.fst];simp) λk x y ws hx b e=>?_;obtain⟨x,w⟩:=x;rw[<-hc.fst,Dn,hx]at b;cases b;obtain⟨rfl,_⟩:=e;exact⟨w,rfl,LZ H 3 rfl c (d 3 _ (by decide) rfl) (hc.row k x w hx)⟩
 ·refine im.ofRow H 1 rfl c (d 1 _ (by decide) rfl) rfl (by rw[<-hb.fst];simp) λk x y ws hx b e=>?_;obtain⟨x,w⟩:=x;rw[<-hb.fst,Dn,hx]at b;cases b;obtain⟨bv,bp,rfl,n,ip,_⟩:=e;exact⟨bv,w,bp,rfl,n.mono c,LZ H 4 rfl c (d 4 _ (by decide) rfl) (hb.row k x w hx),ip.mono c⟩
 ·refine im.ofRow H 2 rfl c (d 2 _ (by decide) rfl) rfl (by rw[<-hs.fst];simp) λk x y ws hx b e=>?_;rw[<-hs.fst,Dn,hx]at b;cases b;obtain⟨f,rfl,o⟩:=e;refine⟨f,rfl,o.ZW rfl c (by simp) λj z y cs g b e=>?_⟩;rw[Dn,g]at b;cases b;obtain⟨z,a,w⟩:=z;obtain⟨rfl,_,_⟩:=e;obtain⟨r1,r2⟩:=hs.loc k x j z a w hx g;exact⟨a,w,rfl,LZ H 5 rfl c (d 5 _ (by decide) rfl) r1,LZ H 5 rfl c (d 5 _ (by decide) rfl) r2⟩
end
open Un Dm
section
variable{F F':Nat->Prop}{h h':Hp}{cs ds:List Pc}{Q:fD}{u:U}{vv vb vs mQ:V}{az:List Int}
theorem Ze(g:U4 u)(C:MK u)(m:az.length=u.ej.length)(D:∀kp u' a seen post,JN u.blocks.length (next u) seen post []->kp=(λb=>post.reverse.contains b)->Cut u kp u'->Pq u kp az a->E5 u' a)
  (s:eo F h (fg eZ eR az mQ::cs)) (v:wW F h u vv vb vs)
  (H:∀F' h' kp u' a seen post wv wb ws,Sn F h F' h'->eo F' h' cs->JN u.blocks.length (next u) seen post []->kp=(λb=>post.reverse.contains b)->Cut u kp u'->Pq u kp az a->wW F' h' (jo u' (mm a)) wv wb ws->Q (.agg (uC (jo u' (mm a)) wv wb ws)) h') :
  cP CS AW [.agg (uC u vv vb vs),mQ] h Q:=by
 refine T7 rfl rfl ?_;unfold M6;refine jH s v.one λE I w=>xz I λh2 x y=>?_;generalize h.next=l1 at*;generalize E.next=l2 at*;have J:=(v.since w).since y;refine eh (x.pC 1 rfl rfl) ?_;refine Qf g x J λF3 K wv wb ws xs bs ss fa fn fl L hc hb hs d=>?_;have hp:fV [.I 0,.I 0,.ei,.ei,.ei,.ei] [(0,5),(5,1)] [(0,V.agg (uC u wv wb ws)),(1,mQ)]=some (V.agg [.I u.func,.I u.pc,wv,wb,ws,mQ]):=by
  rcases s.row 0 rfl with⟨rfl,_⟩|⟨t,M,rfl,_⟩ <;> rfl
 refine eh hp ?_;refine jH d (by simp only[eJ,d.one 0 rfl,d.one 1 rfl,d.one 2 rfl,d.one 8 rfl];rfl) λh4 N s4=>?_;generalize K.next=lt at*;have O:=N.perm [1,2,4,5,9,0,3,6,7,8] 10 (by decide) (by decide) (by simp);refine Wi C hc hb m (d.one 2 rfl) O λF6 h6 seen post kp u' P R S T a U W G e c o p f z=>?_;have gn:=D kp u' a seen post G e c f;have X:=c.func;have Y:=c.pc;rw[<-X,<-Y]at z;refine UW gn o p (by rw[c.ev];exact hs) z λA Z i j k s7 q l=>?_;have q:eo A Z (eQ l2 gR _::eQ l1 gR _::cs):=q;obtain⟨h8,e8,_,r,B⟩:=q.U1 0 (ws:=uC (jo u' (mm a)) i j k) (n:=5) rfl rfl rfl l.one;rw[e8,en];simp only[ji]at r;refine eh (r.pC 0 rfl rfl) ?_;exact H A h8 kp u' a seen post i j k ((((((w.trans y).trans L).trans s4).trans W).trans s7).trans B) r.tail.tail G e c f (l.since B)
theorem Yh{n:Nat}{nx:Nat->List Nat}{seen:List Bool}{post:List Nat}(G:JN n nx seen post []):∀{b:Nat}{l:List Nat},Pt nx b l->b∈post
 | _,_,.nil=>by
   obtain⟨p,hp⟩:=G.last rfl
   rw[hp];simp
 | _,_,.step h e=>by
   rcases(G.iff _).1 (G.closed _ (Yh G h) _ e)with a|a
   ·exact a
   ·simp at a
theorem Qa(g:Good u)(e:OV u):MK u:=⟨Po g,g.nv,g.FQ,g.ko,λb B c=>⟨AU g c,λp hp=>by
 rw[g.fi b B c]at hp;obtain⟨q,i,a,_,d⟩:=wA.1 hp;have:=(ki.1 a).1;omega⟩,λv b k x B a f d h=>(g.KN v b k x B a f d h).2,e⟩
theorem Q8(g:Good u)(q:OV u)(k:az.length=u.ej.length)(d:∀(v:Nat)(a:Int),az[v]? =some a->a<az.length):E5 u az where
 nv:=g.nv
 nb:=g.nb
 ns:=g.ns
 once:=g.FQ
 ko:=g.ko
 len:=k
 sub:=d
 parts v x hx:=by
  have c:∀w∈hK x,w<u.ej.length:=λw l=>zK (g.use v x hx w l);unfold hK at c;refine⟨q v x hx,?_⟩;by_cases i:x.op=21
  ·rw[if_pos i]at c;have o:two x.op=false:=by rw[i];rfl
   have r:nq x.op=false:=by rw[i];rfl
   exact⟨λh=>(by rw[o,r]at h;simp at h),λh=>(by rw[o]at h;cases h),λ_=>c,g.leave v x hx⟩
  ·rw [if_neg i]at c;by_cases c2:x.op=20
   ·rw[if_pos c2]at c;have j:=g.putAt v x hx c2;rw[ZJ (by omega)]at c;exact⟨λ_=>c _ (by simp),λ_=>c _ (by simp),λ_ w l=>c w (by simp[l]),g.leave v x hx⟩
   ·rw [if_neg c2]at c;refine⟨λh=>?_,λh=>?_,λh=>absurd h (by omega),g.leave v x hx⟩
    ·by_cases m:two x.op=true
     ·rw[if_pos m]at c;exact c _ (by simp)
     ·rw[if_neg m,if_pos (h.resolve_right m)]at c;exact c _ (by simp)
    ·rw[if_pos h]at c;exact c _ (by simp)
 ends b B hB:=by
  rcases g.fin b B hB with⟨j,_⟩|⟨j,_,e⟩|⟨j,_,e⟩
  ·exact⟨λh=>by omega,λh=>by omega⟩
  ·exact⟨λ_=>zK e,λh=>by omega⟩
  ·exact⟨λh=>by omega,λ_=>e⟩
 st s fs hfs:=by
  obtain⟨j,e⟩:=EN g s fs hfs;refine⟨by omega,λf n=>?_⟩;obtain⟨t,y⟩:=e f n;have p:=O5 g hfs;refine⟨by omega,by omega,λv hv=>p v ?_,λv hv=>p v ?_⟩
  ·exact Xr.2 ⟨f,n,SN _ hv⟩
  ·exact Xr.2 ⟨f,n,wBR _ hv⟩
theorem zag(g:Good u)(n:OV u)(j:az.length=u.ej.length)(k:∀(v:Nat)(a:Int),az[v]? =some a->a<az.length)(p:eo F h (fg eZ eR az mQ::cs))(q:wW F h u vv vb vs)
  (H:∀F' h' wv wb ws,Sn F h F' h'->eo F' h' cs->wW F' h' (jo u (mm az)) wv wb ws->Q (.agg (uC (jo u (mm az)) wv wb ws)) h') :
  cP CS AW [.agg (uC u vv vb vs),mQ] h Q:=by
 have m:∀kp u' d seen post,JN u.blocks.length (next u) seen post []->kp=(λb=>post.reverse.contains b)->Cut u kp u'->Pq u kp az d->u' = u/\d=az:=λkp u' d seen post G e c f=>by
  have i:∀b,b<u.blocks.length->kp b=true:=λb hb=>by
   obtain⟨l,r⟩:=g.reach b hb;rw[e];exact List.contains_iff_mem.2 (wBY.2 (Yh G r))
  exact⟨c.eq g i,f.eq i⟩
 refine Ze (Fe g n) (Qa g n) j (λkp u' d seen post G e c f=>?_) p q λF' h' kp u' d seen post wv wb ws s t G e c f o=>?_
 ·obtain⟨rfl,rfl⟩:=m kp u' d seen post G e c f;exact Q8 g n j k
 ·obtain⟨rfl,rfl⟩:=m kp u' d seen post G e c f;exact H F' h' wv wb ws s t o
end
