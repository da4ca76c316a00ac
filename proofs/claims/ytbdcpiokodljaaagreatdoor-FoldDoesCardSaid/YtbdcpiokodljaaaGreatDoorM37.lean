/- Parts. -/
import Derived.Test.YtbdcpiokodljaaaGreatDoorM30
set_option maxHeartbeats 4000000
namespace Go.Proofs.YtbdcpiokodljaaaGreatDoor.Hx
open Un Dm
def zaS:Vl:=⟨0,0,0,0,[],0⟩
def wV(xs:List (Vl×V))(n:Nat):V:=match xs[n]? with
 |some x=>x.2
 |none=> .undef
def yOf(u:U)(A:Nat->Int)(xs:List (Vl×V))(n:Nat):Vl×V:=(iF u A (u.ef.getD n zaS),wV xs n)
section
variable{F F':Nat->Prop}{h h':Hp}{cs ds:List Pc}{Q:fo}{u:U}{wv wb ws mf num:V}{lt Tt l1 T1 l2 l3 l4 T4 lm lb Tb lr Tr:Nat}{az:List Int}{ns:List Nat}{xs:List (Vl×V)}{bs:List (Bk×V)}{fa fn:Nat->Option (List Nat×V)}{ss:List (List (Fm×V×V))}{fl:KF->Option (List Nat×V)}
theorem QK(g:Aw u az)(a:∀v,v<u.ef.length->ns[v]? =some (if v∈fK u (oD az) then(fK u (oD az)).idxOf v else 0)){v:Nat}(hv:v<u.ef.length):Cw ns az v=nm u (oD az) v:=by
 have b:=Sv («as»:=oD az) (λw d=>by
  have c:=hO (by rw[g.len];exact d);have e:=g.sub w _ c;rw[VD c];have:=g.len;omega) (u.ef.length+1) v hv
 unfold Cw nm;rw[g.len,ED,a _ b];rfl
structure NV (u:U) (az:List Int) (ns:List Nat) (xs:List (Vl×V)) (ss:List (List (Fm×V×V))) (i:Nat) (fa:Nat->Option (List Nat×V)) (S:Int->Option V) (fl:KF->Option (List Nat×V)) (a:List (List (Fm×V×V))):Prop where
 row:∀v x w,xs[v]? =some (x,w)->fa v=some (if v∈(fK u (oD az)).take i then(iF u (oD az) x).args else x.args,w)
 st:StS ss (Cw ns az) (mj (sX u ((fK u (oD az)).take i))) S fl a
theorem zeh(g:Aw u az)(hc:Yn u.ef xs fa)(W:CpS u.eh ss fl){j:V}(aA:ns.length=u.ef.length)(aB:∀v,v<u.ef.length->ns[v]? =some (if v∈fK u (oD az) then(fK u (oD az)).idxOf v else 0))
  (H0:ej F h (Nx l1 T1 l4 T4 lt Tt num ns [.I u.func,.I u.pc,wv,wb,ws] mf az (Sx fl ss ws lm (λ_=>none) lb Tb lr Tr l4 l1 l3 im (.I u.func) (.I u.pc) .ee .ee .ee []
    (eJ yV gP xs wv::eJ wC fJ bs wb::fT ev fa::fT ev fn::eJ yV gP [] .ee::eJ wC fJ [] .ee::ey l2 im [.I 0,.I 0,.ee,.ee,.ee]::eJ eN ev (fK u (oD az)) j::cs))))
  (H:∀h' m S p t JX Iv,Sn F h F h'->NV u az ns xs ss (fK u (oD az)).length m S p t->
   ej F h' (Nx l1 T1 l4 T4 lt Tt num ns [.I u.func,.I u.pc,wv,wb,ws] mf az (Sx p ss ws lm S lb Tb lr Tr l4 l1 l3 im (.I u.func) (.I u.pc) JX .ee Iv t
    (eJ yV gP xs wv::eJ wC fJ bs wb::fT ev m::fT ev fn::eJ yV gP ((fK u (oD az)).map (yOf u (oD az) xs)) JX::eJ wC fJ [] .ee::ey l2 im [.I 0,.I 0,.ee,.ee,.ee]::eJ eN ev (fK u (oD az)) j::cs)))->
   l0 CS Q [.ptr l1 0,.ptr l2 0,.ptr l3 0,.ptr l4 0,.func fQ [] [.ptr lb 0,.ptr l3 0,.ptr l1 0,.ptr lr 0],wb,.I bs.length,.I 0] h') :
  mh CS Q [.ptr l1 0,.ptr l2 0,.ptr l3 0,.ptr l4 0,.ptr lr 0,.func fQ [] [.ptr lb 0,.ptr l3 0,.ptr l1 0,.ptr lr 0],j,.I ((fK u (oD az)).length:Nat),.I 0] h:=by
 have nv:=g.nv;have gl:=g.len;have aC:xs.length=u.ef.length:=by rw[<-hc.fst,EN]
 have lss:ss.length=u.eh.length:=by rw[<-W.fst,EN]
 obtain⟨A,hA⟩:∃A,oD az=A:=⟨_,rfl⟩
 have aD:∀v,v<u.ef.length->Cw ns az v=nm u A v:=by grind[QK]
 have ap:=AA («as»:=A) g.once;have oV:=jA _ _ ap λv hv=>Iq g.jW hv
 obtain ⟨I,hI⟩:∃I,I=λk l h'=>∃(i:Nat) (m:Nat->Option (List Nat×V)) (S:Int->Option V) (p:KF->Option (List Nat×V)) (t:List (List (Fm×V×V))) (JX Iv:V),l=[.ptr l1 0,.ptr l2 0,.ptr l3 0,.ptr l4 0,.ptr lr 0,.func fQ [] [.ptr lb 0,.ptr l3 0,.ptr l1 0,.ptr lr 0],j,.I ((fK u A).length:Nat),.I i]/\i+k=(fK u A).length/\Sn F h F h'/\NV u az ns xs ss i m S p t/\
   ej F h' (Nx l1 T1 l4 T4 lt Tt num ns [.I u.func,.I u.pc,wv,wb,ws] mf az (Sx p ss ws lm S lb Tb lr Tr l4 l1 l3 im (.I u.func) (.I u.pc) JX .ee Iv t
    (eJ yV gP xs wv::eJ wC fJ bs wb::fT ev m::fT ev fn::eJ yV gP (((fK u A).take i).map (yOf u A xs)) JX::eJ wC fJ [] .ee::ey l2 im [.I 0,.I 0,.ee,.ee,.ee]::eJ eN ev (fK u A) j::cs))):=⟨_,rfl⟩
 rw[hA]at H0 H⊢;refine C9 I (λk x1 x2 x3 x4 aE aF aG aH aI h1 hi=>?_) (k:=(fK u A).length) ?_
 ·rw [hI]at hi;obtain⟨i,m,S,p,t,JX,Iv,⟨⟩,hk,s1,hN,N⟩:=hi;unfold uU;by_cases hi:i<(fK u A).length
  ·refine gy ?_;have hx:=hO hi;have X:=E3 hx;have aJ:=Iq g.jW (AU hi);have aq:(fK u A)[i] ∉ (fK u A).take i:=by grind[nT,kj]
   generalize (fK u A)[i]=n at*;obtain⟨⟨x,w⟩,O⟩:∃y,xs[n]? =some y:=by simp_all
   have Y:u.ef[n]? =some x:=by rw[<-hc.fst,AX,O];rfl
   have ar:yOf u A xs n=(iF u A x,w):=by unfold yOf wV;rw[O,ED,Y];rfl
   let⟨p1,p2,p3,p4,p5⟩:=g.parts n x Y
   let⟨la,oa,y1,y2⟩:=N.MK 19 rfl hx .i64
   obtain ⟨lv,ov,wl,z1,z2,⟨rfl,w1⟩,_⟩:=N.Z8 12 rfl O .i64;have z1:=z1;refine ed y1 (ed y2 (ed (N.ld 0 rfl rfl) (ed pn (ed pf (oF (N.ld 2 rfl rfl) (ed z1 (ed z2 ?_)))))));refine gW N rfl rfl (by simp only[mW,eo];simp only[show w.one=true from w1];rfl) λh2 L s2=>?_;generalize h1.next=lx at*;have L:ej F h2 (Nx l1 T1 l4 T4 lt Tt num ns [.I u.func,.I u.pc,wv,wb,ws] mf az (Sx p ss ws lm S lb Tb lr Tr l4 l1 l3 im (.I u.func) (.I u.pc) JX .ee Iv t (ey lx 45 (mW x w)::_))):=L.U4 12 (by simp);have aa:∀d:Nat->Option (List Nat×V),(∀v,v≠n->d v=m v)->d n=some ((iF u A x).args,w)->∀v y b,xs[v]? =some (y,b)->d v=some (if v∈(fK u A).take (i+1) then(iF u A y).args else y.args,b):=λd h1 h2 v y b hv=>by
    rw[X];by_cases e:v=n
    ·simp_all
    ·rw[h1 v e];have:=hN.row v y b hv
     simp_all
   have ab:m n=some (x.args,w):=by
    have:=hN.row n x w O;rw[hA,if_neg aq]at this;exact this
   have ac:=hN.st;rw[hA]at ac
   have Ry:∀f d S2 P B E,Sn F h F f->(∀v,v≠n->d v=m v)->d n=some ((iF u A x).args,w)->StS ss (Cw ns az) (mj (sX u ((fK u A).take (i+1)))) S2 P B->
     ej F f (Nx l1 T1 l4 T4 lt Tt num ns [.I u.func,.I u.pc,wv,wb,ws] mf az (Sx P ss ws lm S2 lb Tb lr Tr l4 l1 l3 im (.I u.func) (.I u.pc) JX .ee E B
      (ey lx 45 (mW (iF u A x) w)::eJ yV gP xs wv::eJ wC fJ bs wb::fT ev d::fT ev fn::eJ yV gP (((fK u A).take i).map (yOf u A xs)) JX::eJ wC fJ [] .ee::ey l2 im [.I 0,.I 0,.ee,.ee,.ee]::eJ eN ev (fK u A) j::cs)))->
     lG CS Q (BY I k) [.ptr l1 0,.ptr l2 0,.ptr l3 0,.ptr l4 0,.ptr lr 0,.func fQ [] [.ptr lb 0,.ptr l3 0,.ptr l1 0,.ptr lr 0],.ptr lx 0,j,.I ((fK u A).length:Nat),.I i] f:=by
    intro f d S2 P B E M R T hS z;refine B3 ?_;unfold sZ;refine oF (z.ld 10 rfl rfl) (ed (z.tK 12 rfl rfl) ?_);rw[rW (sz:=6) rfl rfl (by simp only[mW,eo];simp only[show w.one=true from w1];rfl),fE];obtain⟨G,D,e4,_,C,s4⟩:=z.wR 17 rfl (kL:=64) (y:=(iF u A x,w)) ⟨rfl,w1⟩ (by decide) (by decide) (by simp;omega);have J:eR 45 6 64 JX (.slice f.next 0 1) (f.new (.cells 45 6 true false (mW (iF u A x) w)))=some (.val G D):=e4;rw[J,ei]
    let⟨h5,e5,_,H5,s5⟩:=C.st 10 (o:=2) rfl (by simp) (C.one 17 rfl)
    refine ed pf ?_;have Z:gJ 1 (.ptr l3 (0+2)) G D=some (.val .undef h5):=by rw[zO];exact e5
    rw[Z,ei];refine fI ⟨k-1,by omega,?_⟩;rw[hI];refine⟨i+1,d,S2,P,B,G,E,rfl,by omega,(M.trans s4).trans s5,⟨λv y b hv=>by rw[hA];exact aa d R T v y b hv,by simp_all⟩,?_⟩;have H6:=H5.NR 12 (by simp);rw[X,PO,wBe,YE,ar];exact H6
   have ae:sX u ((fK u A).take (i+1))=sX u ((fK u A).take i)++(if leaves x.op=true then[x.state] else[]):=by
    rw[X];unfold sX;rw[List.filterMap_append,List.filterMap_cons];simp only[Y];by_cases e:leaves x.op=true
    ·grind
    ·grind
   have ag:mj (sX u ((fK u A).take (i+1))) <+: HR u A:=by
    have:L0 u A=sX u ((fK u A).take (i+1))++(sX u ((fK u A).drop (i+1))++CD u.blocks):=by
     rw[Qi,<-M6];congr 1
     conv=>lhs;rw[<-Zb (i+1) (fK u A)]
     exact List.filterMap_append
    unfold HR;rw[this];exact Jl _ _
   have ah:∀f d,Sn F h F f->(∀v,v≠n->d v=m v)->d n=some ((iF u A x).args,w)->
     ej F f (Nx l1 T1 l4 T4 lt Tt num ns [.I u.func,.I u.pc,wv,wb,ws] mf az (Sx p ss ws lm S lb Tb lr Tr l4 l1 l3 im (.I u.func) (.I u.pc) JX .ee Iv t
      (ey lx 45 (mW {x with a:=(iF u A x).a,b:=(iF u A x).b} w)::eJ yV gP xs wv::eJ wC fJ bs wb::fT ev d::fT ev fn::eJ yV gP (((fK u A).take i).map (yOf u A xs)) JX::eJ wC fJ [] .ee::ey l2 im [.I 0,.I 0,.ee,.ee,.ee]::eJ eN ev (fK u A) j::cs)))->
     lH CS Q (BY I k) [.ptr l1 0,.ptr l2 0,.ptr l3 0,.ptr l4 0,.ptr lr 0,.func fQ [] [.ptr lb 0,.ptr l3 0,.ptr l1 0,.ptr lr 0],.ptr lx 0,j,.I ((fK u A).length:Nat),.I i] f:=by
    intro f d M R T z;refine BH ?_;unfold sS;refine oF (z.ld 12 rfl rfl) (HV (iJ ?_));by_cases hlv:leaves x.op=true
    ·refine gj hlv (oF (z.ld 12 rfl rfl) ?_);show cP CS fQ [.I x.state,.ptr lb 0,.ptr l3 0,.ptr l1 0,.ptr lr 0] f _;obtain⟨sl,U⟩:∃sl,ss[x.state]? =some sl:=⟨_,hO (by have:=p5 hlv;omega)⟩
     have au:u.eh[x.state]? =some (sl.map Prod.fst):=by rw[<-W.fst,AX,U];rfl
     let⟨q1,q2⟩:=g.st _ _ au
     rw[EN]at q1;refine Qh z ac (by omega) (by omega) g.sub U (by have:=g.ns;omega) q1 (λy hy=>?_) λD aw S4 ai aj s4 ak C=>?_
     ·grind
     rw[if_pos hlv]at ae;have ax:Xk (mj (sX u ((fK u A).take i))) x.state=mj (sX u ((fK u A).take (i+1))):=by rw[ae,zw];rfl
     rw[ax]at ak⊢;have al:x.state∈mj (sX u ((fK u A).take (i+1))):=(by grind[vm])
     have ay:(mj (sX u ((fK u A).take (i+1)))).idxOf x.state=(iF u A x).state:=by
      rw[<-OF ag al];show _=if leaves x.op=true then(HR u A).idxOf x.state else x.state
      rw[if_pos hlv]
     rw[ay]
     let⟨h5,e5,_,H5,s5⟩:=C.st 12 (o:=5) (u:= .I ((iF u A x).state:Nat)) rfl (by simp[mW]) rfl
     refine ed pf ?_;have Z:gJ 1 (.ptr lx (0+5)) (.I ((iF u A x).state:Nat)) D=some (.val .undef h5):=by rw[zO];exact e5
     rw[Z,ei];exact Ry h5 d S4 aw ai aj ((M.trans s4).trans s5) R T ak H5
    ·refine fU hlv (Ry f d S p t Iv M R T ?_ ?_)
     ·grind
     ·have hs:(iF u A x).state=x.state:=if_neg hlv
      grind[mW,iF]
   have RZ:∀f,Sn F h F f->ej F f (Nx l1 T1 l4 T4 lt Tt num ns [.I u.func,.I u.pc,wv,wb,ws] mf az (Sx p ss ws lm S lb Tb lr Tr l4 l1 l3 im (.I u.func) (.I u.pc) JX .ee Iv t
      (ey lx 45 (mW {x with a:=(iF u A x).a,b:=(iF u A x).b} w)::eJ yV gP xs wv::eJ wC fJ bs wb::fT ev m::fT ev fn::eJ yV gP (((fK u A).take i).map (yOf u A xs)) JX::eJ wC fJ [] .ee::ey l2 im [.I 0,.I 0,.ee,.ee,.ee]::eJ eN ev (fK u A) j::cs)))->
     lD CS Q (BY I k) [.ptr l1 0,.ptr l2 0,.ptr l3 0,.ptr l4 0,.ptr lr 0,.func fQ [] [.ptr lb 0,.ptr l3 0,.ptr l1 0,.ptr lr 0],.ptr lx 0,j,.I ((fK u A).length:Nat),.I i] f:=by
    intro f M z;refine BS ?_;unfold tJ;refine oF (z.ld 12 rfl rfl) (ij ?_);have e0:ez (.ptr lx (0+0)) f=some (.I x.op):=z.ld 12 rfl rfl;have eq:nt (V.bool (decide ((x.op:Int)=21))) (oB (fF 0 (.ptr lx 0)) λam=>oB (ez am f) λan=>en .eql 3 an (V.I 20))=some (.bool (decide (x.op=21\/x.op=20))):=by
     rw[pf,fe,e0,fe,gO,pK];congr 2;by_cases c1:x.op=21
     ·grind
     ·grind
    refine ed eq (iJ ?_);have K:(iF u A x).args=if x.op=21\/x.op=20 then x.args.map (nm u A) else x.args:=rfl
    by_cases c:x.op=21\/x.op=20
    ·refine gj (Ml c) (ed (z.ld 9 rfl rfl) (oF (z.ld 12 rfl rfl) ?_));show cP CS iG [w,.ptr l4 0,.ptr l1 0] f _;refine LK 10 z rfl ab rfl (by omega) (by omega) g.sub (by grind) (by omega) λD s4 C=>?_;have hm:x.args.map (Cw ns az)=(iF u A x).args:=by
      rw[K,if_pos c];exact by grind[Yo]
     rw[hm]at C;exact ah D _ (M.trans s4) (by grind[jL]) (lZ _ _ _) C
    ·refine fU (by rw[A4];exact c) (ah f m M (λ_ _=>rfl) ?_ z);rw[K,if_neg c];exact ab
   have ao:∀f,Sn F h F f->ej F f (Nx l1 T1 l4 T4 lt Tt num ns [.I u.func,.I u.pc,wv,wb,ws] mf az (Sx p ss ws lm S lb Tb lr Tr l4 l1 l3 im (.I u.func) (.I u.pc) JX .ee Iv t
      (ey lx 45 (mW {x with a:=(iF u A x).a} w)::eJ yV gP xs wv::eJ wC fJ bs wb::fT ev m::fT ev fn::eJ yV gP (((fK u A).take i).map (yOf u A xs)) JX::eJ wC fJ [] .ee::ey l2 im [.I 0,.I 0,.ee,.ee,.ee]::eJ eN ev (fK u A) j::cs)))->
     lI CS Q (BY I k) [.ptr l1 0,.ptr l2 0,.ptr l3 0,.ptr l4 0,.ptr lr 0,.func fQ [] [.ptr lb 0,.ptr l3 0,.ptr l1 0,.ptr lr 0],.ptr lx 0,j,.I ((fK u A).length:Nat),.I i] f:=by
    intro f M z;refine BO ?_;unfold su;refine oF (z.ld 12 rfl rfl) (OB (IY ?_));have hb:(iF u A x).b=if two x.op=true then nm u A x.b else x.b:=rfl
    by_cases c:two x.op=true
    ·refine gj (by show(1:Int)<(og x.op:Nat);unfold og;grind) ?_;refine ed (z.ld 1 rfl rfl) (ed (z.ld 0 rfl rfl) (oF (z.ld 12 rfl rfl) ?_));refine Ka z rfl (by omega) (by omega) g.sub (by grind) λr q e1 e2=>⟨ju _,ed e1 (ed e2 (ed pf ⟨z.ld 1 rfl rfl,?_⟩))⟩
     let⟨D,e4,n4,C,s4⟩:=z.st 12 (o:=2) (u:= .I (Cw ns az x.b:Nat)) rfl (by simp[mW]) rfl
     have J:gJ 1 (.ptr lx (0+2)) (.I (Cw ns az x.b:Nat)) f=some (.val .undef D):=by rw[zO];exact e4
     rw[J,ei];have hq:Cw ns az x.b=(iF u A x).b:=by rw[hb,if_pos c];exact by grind
     rw[hq]at C;exact⟨n4,RZ D (M.trans s4) C⟩
    ·refine fU (by show ¬(1:Int)<(og x.op:Nat);unfold og;grind) (RZ f M ?_)
     grind
   refine oF (L.ld 12 rfl rfl) (OB (IY ?_));have ha:(iF u A x).a=if 0<og x.op then nm u A x.a else x.a:=rfl
   by_cases c:0<og x.op
   ·have c':nW x.op=true\/two x.op=true:=by
     unfold og at c;by_cases h1:two x.op=true
     ·grind
     ·grind
    refine gj (by omega) ?_;refine ed (L.ld 1 rfl rfl) (ed (L.ld 0 rfl rfl) (oF (L.ld 12 rfl rfl) ?_));refine Ka L rfl (by omega) (by omega) g.sub (by grind) λr q e1 e2=>⟨ju _,ed e1 (ed e2 (ed pf ⟨L.ld 1 rfl rfl,?_⟩))⟩
    let⟨D,e4,n4,C,s4⟩:=L.st 12 (o:=1) (u:= .I (Cw ns az x.a:Nat)) rfl (by simp[mW]) rfl
    have J:gJ 1 (.ptr lx (0+1)) (.I (Cw ns az x.a:Nat)) h2=some (.val .undef D):=by rw[zO];exact e4
    rw[J,ei];have hq:Cw ns az x.a=(iF u A x).a:=by rw[ha,if_pos c];exact by grind
    rw[hq]at C;exact⟨n4,ao D ((s1.trans s2).trans s4) C⟩
   ·refine fU (by omega) (ao h2 (s1.trans s2) ?_);have:({x with a:=(iF u A x).a}:Vl)=x:=by rw[ha,if_neg c]
    rw[this];exact L
  ·refine iI ?_;obtain rfl:i=(fK u A).length:=by omega
   rw[Lp]at N;refine ed (N.ld 0 rfl rfl) (ed pn (ed pf (oF (N.ld 2 rfl rfl) (ed (N.len 13 rfl) ?_))))
   grind
 ·rw[hI];refine⟨0,fa,λ_=>none,fl,[],.ee,.ee,rfl,by omega,Sn.refl _ _,⟨λv x w hx=>?_,λs=>rfl,rfl,λs l k x a w hs hl=>?_,List.nodup_nil,λ_ h=>by cases h⟩,H0⟩
  ·rw[hc.row v x w hx];rfl
  ·exact W.loc s l k x a w hs hl
end
open Un Dm
section
variable{F F':Nat->Prop}{h h':Hp}{cs ds:List Pc}{Q:fo}{u:U}{wv wb ws mf num JX:V}{lt Tt l1 T1 l2 l3 l4 T4 lm lb Tb lr Tr:Nat}{az:List Int}{ns:List Nat}{xs ys:List (Vl×V)}{bs0 bs:List (Bk×V)}{fa fn:Nat->Option (List Nat×V)}{ss:List (List (Fm×V×V))}{fl:KF->Option (List Nat×V)}
def kOf(u:U)(A:Nat->Int)(bs:List (Bk×V))(b:Nat):Bk×V:=(nz u A (u.blocks.getD b Ph),RQ bs b)
theorem zfA(g:Aw u az)(hb:Xp u.blocks bs0 fn)(R:ss.map (λl=>l.map Prod.fst)=u.eh)(T:NbB u az u.blocks.length bs0 bs){S:Int->Option V}{a:List (List (Fm×V×V))}{Iv:V}(ax:ns.length=u.ef.length)(ah:∀v,v<u.ef.length->ns[v]? =some (if v∈fK u (oD az) then(fK u (oD az)).idxOf v else 0))
  (U:StS ss (Cw ns az) (mj (sX u (fK u (oD az)))) S fl a)
  (H0:ej F h (Nx l1 T1 l4 T4 lt Tt num ns [.I u.func,.I u.pc,wv,wb,ws] mf az (Sx fl ss ws lm S lb Tb lr Tr l4 l1 l3 im (.I u.func) (.I u.pc) JX .ee Iv a
    (eJ yV gP xs wv::eJ wC fJ bs wb::fT ev fa::fT ev fn::eJ yV gP ys JX::eJ wC fJ [] .ee::ey l2 im [.I 0,.I 0,.ee,.ee,.ee]::ds))))
  (H:∀h' S c a b Iv,Sn F h F h'->StS ss (Cw ns az) (HR u (oD az)) S c a->
   ej F h' (Nx l1 T1 l4 T4 lt Tt num ns [.I u.func,.I u.pc,wv,wb,ws] mf az (Sx c ss ws lm S lb Tb lr Tr l4 l1 l3 im (.I u.func) (.I u.pc) JX b Iv a
    (eJ yV gP xs wv::eJ wC fJ bs wb::fT ev fa::fT ev fn::eJ yV gP ys JX::eJ wC fJ ((List.range u.blocks.length).map (kOf u (oD az) bs0)) b::ey l2 im [.I u.func,.I u.pc,JX,b,Iv]::ds)))->
   Q (.agg [.I u.func,.I u.pc,JX,b,Iv]) h') :
  l0 CS Q [.ptr l1 0,.ptr l2 0,.ptr l3 0,.ptr l4 0,.func fQ [] [.ptr lb 0,.ptr l3 0,.ptr l1 0,.ptr lr 0],wb,.I bs.length,.I 0] h:=by
 have nv:=g.nv;have nb:=g.nb;have gl:=g.len;have W:bs0.length=u.blocks.length:=by rw[<-hb.fst,EN]
 have X:bs.length=u.blocks.length:=by rw[T.len,W]
 have lss:ss.length=u.eh.length:=by rw[<-R,EN]
 obtain⟨A,hA⟩:∃A,oD az=A:=⟨_,rfl⟩
 have ai:∀v,v<u.ef.length->Cw ns az v=nm u A v:=λv hv=>by rw[<-hA];exact QK g ah hv
 rw[hA]at H U;have C:=T.row;rw[hA]at C
 obtain ⟨I,hI⟩:∃I,I=λk l h'=>∃i S c a b Iv,l=[.ptr l1 0,.ptr l2 0,.ptr l3 0,.ptr l4 0,.func fQ [] [.ptr lb 0,.ptr l3 0,.ptr l1 0,.ptr lr 0],wb,.I bs.length,.I (i:Nat)]/\i+k=bs.length/\Sn F h F h'/\StS ss (Cw ns az) (mj (sX u (fK u A)++CD (u.blocks.take i))) S c a/\
   ej F h' (Nx l1 T1 l4 T4 lt Tt num ns [.I u.func,.I u.pc,wv,wb,ws] mf az (Sx c ss ws lm S lb Tb lr Tr l4 l1 l3 im (.I u.func) (.I u.pc) JX b Iv a
    (eJ yV gP xs wv::eJ wC fJ bs wb::fT ev fa::fT ev fn::eJ yV gP ys JX::eJ wC fJ ((List.range i).map (kOf u A bs0)) b::ey l2 im [.I 0,.I 0,.ee,.ee,.ee]::ds))):=⟨_,rfl⟩
 refine Dj I (λk x1 x2 x3 x4 ay ar au aw h1 hi=>?_) (k:=bs.length) ?_
 ·rw [hI]at hi;obtain⟨i,S,c,a,b,Iv,⟨⟩,hk,s1,Y,E⟩:=hi;unfold uw;by_cases hi:i<bs.length
  ·refine gy ?_;obtain⟨⟨B,w⟩,G⟩:∃y,bs0[i]? =some y:=⟨_,hO (by omega)⟩
   have hB:u.blocks[i]? =some B:=by rw[<-hb.fst,AX,G];rfl
   have Z:=C i B w G;rw[if_pos (by omega)]at Z;have aj:kOf u A bs0 i=(nz u A B,w):=by unfold kOf RQ;rw[G,ED,hB];rfl
   have ak:=E3 hB
   let⟨e1,e2⟩:=g.ends i B hB
   obtain⟨lv,ov,wl,z1,z2,⟨bv,bp,rfl,iv,ip,w1⟩,_⟩:=E.Z8 13 rfl Z .i64;have z1:=z1;refine ed z1 (ed z2 ?_);refine gW E rfl rfl (by simp only[lB,eo,iv.one,ip.one];simp only[show w.one=true from w1];rfl) λN f s2=>?_;generalize h1.next=lx at*;have iv:=iv.since s2;have ip:=ip.since s2;have f:=f.U4 12 (by simp)
   have J:∀O S2 x m s,Sn F N F O->StS ss (Cw ns az) (mj (sX u (fK u A)++CD (u.blocks.take (i+1)))) S2 x m->
     ej F O (Nx l1 T1 l4 T4 lt Tt num ns [.I u.func,.I u.pc,wv,wb,ws] mf az (Sx x ss ws lm S2 lb Tb lr Tr l4 l1 l3 im (.I u.func) (.I u.pc) JX b s m
      (ey lx 43 (lB (nz u A B) bv w bp)::eJ yV gP xs wv::eJ wC fJ bs wb::fT ev fa::fT ev fn::eJ yV gP ys JX::eJ wC fJ ((List.range i).map (kOf u A bs0)) b::ey l2 im [.I 0,.I 0,.ee,.ee,.ee]::ds)))->
     jS CS Q (BY I k) [.ptr l1 0,.ptr l2 0,.ptr l3 0,.ptr l4 0,.func fQ [] [.ptr lb 0,.ptr l3 0,.ptr l1 0,.ptr lr 0],.ptr lx 0,wb,.I bs.length,.I i] O:=by
    intro O S2 x m s s3 hS H3;have al:=iv.since s3;have am:=ip.since s3;refine BM ?_;unfold tN;refine oF (H3.ld 10 rfl rfl) (ed (H3.tK 12 rfl rfl) ?_);rw[rW (sz:=6) rfl rfl (by simp only[lB,eo,iv.one,ip.one];simp only[show w.one=true from w1];rfl),fE];obtain⟨t,K,e4,_,z,s4⟩:=H3.wR 18 rfl (kL:=96) (y:=(nz u A B,w)) ⟨bv,bp,rfl,al,am,w1⟩ (by decide) (by decide) (by simp;omega);have L:eR 43 6 96 b (.slice O.next 0 1) (O.new (.cells 43 6 true false (lB (nz u A B) bv w bp)))=some (.val t K):=e4;rw[L,ei];simp[mP,rV]at z
    let⟨h5,e5,_,P,s5⟩:=z.st 10 (o:=3) rfl (by simp) (z.one 18 rfl)
    refine ed pf ?_;have M:gJ 1 (.ptr l3 (0+3)) t K=some (.val .undef h5):=by rw[zO];exact e5
    rw[M,ei];simp[mP,rV]at P;refine fI ⟨k-1,by omega,?_⟩;rw[hI];refine⟨i+1,S2,x,m,t,s,rfl,by omega,(((s1.trans s2).trans s3).trans s4).trans s5,hS,?_⟩;have H6:=P.NR 12 (by simp);rw[wBO,PO,wBe,YE,aj];exact H6
   have p:CD (u.blocks.take (i+1))=CD (u.blocks.take i)++(if B.fin=3 then[B.state] else[]):=by
    rw[ak];unfold CD;rw[List.filterMap_append,List.filterMap_cons];by_cases e:B.fin=3
    ·rw[if_pos e,if_pos e];rfl
    ·rw[if_neg e,if_neg e];rfl
   have aa:mj (sX u (fK u A)++CD (u.blocks.take (i+1))) <+: HR u A:=by
    have:L0 u A=(sX u (fK u A)++CD (u.blocks.take (i+1)))++CD (u.blocks.drop (i+1)):=by
     rw[Qi,M6];congr 1
     conv=>lhs;rw[<-Zb (i+1) u.blocks]
     exact List.filterMap_append
    unfold HR;rw[this];exact Jl _ _
   have j:(nz u A B).cond=if B.fin=2 then nm u A B.cond else B.cond:=rfl
   have d:(nz u A B).state=if B.fin=3 then(HR u A).idxOf B.state else B.state:=rfl
   refine oF (f.ld 12 rfl rfl) (fZ ?_);by_cases c2:B.fin=2
   ·rw [if_neg (by omega),JY]at p;refine gj (by show(B.fin:Int)=2;omega) ?_;refine ed (f.ld 1 rfl rfl) (ed (f.ld 0 rfl rfl) (oF (f.ld 12 rfl rfl) ?_));refine Ka f rfl (by omega) (by omega) g.sub (by rw[gl];exact e1 c2) λr q q1 q2=>⟨ju _,ed q1 (ed q2 (ed pf ⟨f.ld 1 rfl rfl,?_⟩))⟩
    let⟨K,e4,n4,z,s4⟩:=f.st 12 (o:=2) (u:= .I (Cw ns az B.cond:Nat)) rfl (by simp[lB]) rfl
    have L:gJ 1 (.ptr lx (0+2)) (.I (Cw ns az B.cond:Nat)) N=some (.val .undef K):=by rw[zO];exact e4
    rw [show({B with ef:=(B.ef.filter (stays A)).map (fK u A).idxOf}:Bk).cond=B.cond from rfl,L,ei];simp[mP,rV]at z;have hq:(lB {B with ef:=(B.ef.filter (stays A)).map (fK u A).idxOf} bv w bp).set 2 (.I (Cw ns az B.cond:Nat))=lB (nz u A B) bv w bp:=by
     unfold lB;rw[j,d,if_pos c2,if_neg (by omega),ai _ (e1 c2)];rfl
    rw[hq]at z;exact⟨n4,J K S c a Iv s4 (by rw[p];exact Y) z⟩
   ·refine fU (by show ¬(B.fin:Int)=2;omega) (fZ ?_);by_cases c3:B.fin=3
    ·refine gj (by show(B.fin:Int)=3;omega) (oF (f.ld 12 rfl rfl) ?_);show cP CS fQ [.I B.state,.ptr lb 0,.ptr l3 0,.ptr l1 0,.ptr lr 0] N _;obtain⟨sl,D⟩:∃sl,ss[B.state]? =some sl:=⟨_,hO (by have:=e2 c3;omega)⟩
     have an:u.eh[B.state]? =some (sl.map Prod.fst):=by rw[<-R,AX,D];rfl
     let⟨q1,q2⟩:=g.st _ _ an
     rw[EN]at q1;refine Qh f Y (by omega) (by omega) g.sub D (by have:=g.ns;omega) q1 (λy hy=>?_) λK ao S4 ab ac s4 ae z=>?_
     ·let⟨r1,r2,r3,r4⟩:=q2 y.1 (wBn hy)
      rw[gl];exact⟨r1,r2,r3,r4⟩
     rw[if_pos c3]at p;have ap:Xk (mj (sX u (fK u A)++CD (u.blocks.take i))) B.state=mj (sX u (fK u A)++CD (u.blocks.take (i+1))):=by rw[p,<-M6,zw];rfl
     rw [ap]at ae⊢;have ag:B.state∈mj (sX u (fK u A)++CD (u.blocks.take (i+1))):=(vm _ _).2 (by rw[p];simp);have aq:(mj (sX u (fK u A)++CD (u.blocks.take (i+1)))).idxOf B.state=(nz u A B).state:=by
      rw[<-OF aa ag,d,if_pos c3]
     rw[aq]
     let⟨h5,e5,_,P,s5⟩:=z.st 12 (o:=5) (u:= .I ((nz u A B).state:Nat)) rfl (by simp[lB]) rfl
     refine ed pf ?_;have M:gJ 1 (.ptr lx (0+5)) (.I ((nz u A B).state:Nat)) K=some (.val .undef h5):=by rw[zO];exact e5
     rw [M,ei];simp[mP,rV]at P;have hq:(lB {B with ef:=(B.ef.filter (stays A)).map (fK u A).idxOf} bv w bp).set 5 (.I ((nz u A B).state:Nat))=lB (nz u A B) bv w bp:=by
      unfold lB;rw[j,if_neg c2];rfl
     rw[hq]at P;exact J h5 S4 ao ab ac (s4.trans s5) ae P
    ·refine fU (by show ¬(B.fin:Int)=3;omega) (J N S c a Iv (Sn.refl _ _) ?_ ?_)
     ·rw[p,if_neg c3,JY];exact Y
     ·have:lB (nz u A B) bv w bp=lB {B with ef:=(B.ef.filter (stays A)).map (fK u A).idxOf} bv w bp:=by
       unfold lB;rw[j,d,if_neg c2,if_neg c3];rfl
      rw[this];exact f
  ·refine iI ?_;obtain rfl:i=bs.length:=by omega
   refine ed (E.tK 10 rfl rfl) ?_
   let⟨N,e2,_,f,s2⟩:=E.stA 18 (ws:=[.I u.func,.I u.pc,JX,b,Iv]) (n:=5) rfl rfl rfl (by simp only[eo,E.one 16 rfl,E.one 17 rfl,E.one 11 rfl];rfl)
   rw[e2,ei];simp[mP,rV]at f;refine ed (f.tK 18 rfl rfl) ?_;rw[X,Lp]at Y;rw[X]at f;exact H N S c a b Iv (s1.trans s2) Y f
 ·rw[hI];exact⟨0,S,fl,a,.ee,Iv,rfl,by omega,Sn.refl _ _,by rw[wB8];show StS _ _ (mj (_++[])) _ _ _;rw[JY];exact U,H0⟩
end
open Un Dm
section
variable{F F':Nat->Prop}{h h':Hp}{cs ds:List Pc}{Q:fo}{u:U}{wv wb ws mf:V}{lt Tt:Nat}{az:List Int}{xs:List (Vl×V)}{bs:List (Bk×V)}{fa fn:Nat->Option (List Nat×V)}{ss:List (List (Fm×V×V))}{fl:KF->Option (List Nat×V)}
theorem ej.Nl(H:ej F h cs)(n:Nat):∃G,ej G h (cs.drop n)/\Sn F h G h/\∀(i:Nat)(c:Pc),i<n->cs[i]? =some c->∀l,c.mM l->G l:=by
 have g:∀{i:Nat} {c:Pc},(cs.take n)[i]? =some c->i<n/\cs[i]? =some c:=by grind
 refine⟨λl=>F l\/MG (cs.take n) l,⟨λl a=>a.elim (H.fl l) λ⟨i,c,hc,e⟩=>(c.Pl (H.ok i c (g hc).2) l e).1,λi c hc=>?_,λi j c d hc b m=>?_⟩,⟨ju _,by simp_all,by simp_all⟩,λi c hi hc l a=> .inr ⟨i,c,by rw[wBv hi];exact hc,a⟩⟩
 ·rw[wBW]at hc;refine c.mono (H.ok _ c hc) (by simp_all) λl a f=>?_;rcases f with f|⟨j,d,b,e⟩
  ·exact(c.Pl (H.ok _ c hc) l a).2 f
  ·obtain⟨o,k⟩:=g b;exact H.Fg (n+i) j c d hc k (by omega) l a e
 ·rw[wBW]at hc b;exact H.Fg (n+i) (n+j) c d hc b (by omega)
section
variable{G:Nat->Prop}
theorem ie.ofRow{α β:Type}{E:qH α} {E':qH β}(H:ej F h cs)(i:Nat){ty:Nat}{xs:List α}{ys:List β}{v:V}(hi:cs[i]? =some (eJ E ty xs v))(j:∀l,F l->G l)(m:∀l,Loc v l->G l)(f:E'.sz=E.sz)(g:ys.length=xs.length)(b:∀(k:Nat) x y cs,xs[k]? =some x->ys[k]? =some y->E.rel F h x cs->E'.rel G h y cs):ie E' G h ys v:=by
 have c:=(kj.1 hi).1;exact((H.Wi (E':=E.fix F h) i hi rfl rfl λk x y cs d a b=>by rw[d]at a;cases a;exact b).row i (Qd c)).read.Wi f (by grind) g λk x y cs d a e=>b k x y cs d a e
theorem FW(H:ej F h cs)(j:Nat){ι:Type}{ty:Nat}{f:ι->Option (List Nat×V)}(a:cs[j]? =some (fT ty f))(b:∀l,F l->G l)(c:∀l,(fT ty f).mM l->G l){i:ι}{xs:List Nat}{v:V}(hi:f i=some (xs,v)):ie eN G h xs v:=
 (H.rows j a hi).slR b λl d=>c l ⟨i,xs,v,hi,d⟩
end
theorem SZ(g:Aw u az)(hc:Yn u.ef xs fa)(t:Xp u.blocks bs fn)(m:CpS u.eh ss fl)
  (H0:ej F h (eJ yV gP xs wv::eJ wC fJ bs wb::fT ev fa::fT ev fn::eJ eZ ev az mf::ey lt Tt [.I u.func,.I u.pc,wv,wb,ws,mf]::eJ (eL QC) mb ss ws::fT ev fl::cs))
  (H:∀F' h' vv vb vs,Sn F h F' h'->ej F' h' (eJ eV gP (iz u (oD az)).ef vv::eJ eK fJ (iz u (oD az)).blocks vb::cs)->ie (eL eF) F' h' (iz u (oD az)).eh vs->Q (.agg (uC (iz u (oD az)) vv vb vs)) h') :
  cP CS lO [.ptr lt 0] h Q:=by
 refine SI g hc t H0 λF1 h1 l1 T1 l2 l3 l4 T4 lm lb Tb lr Tr num ns ab ac s1 P A e H1=>?_;refine zeh g hc m A e H1 λh2 ae S2 ag Z JX Iv s2 hN H2=>?_;have C:=hN.st;rw[Lp]at C;refine zfA g t m.fst P A e C H2 λR S3 ah aa S D s3 O q=>?_;have Hp:=q.perm [0,1,2,3,4,5,6,7,8,9,10,11,12,13,14,15,18,19,16,17] 20 (by decide) (by decide) (by simp);obtain⟨G,H4,s4,E⟩:=Hp.Nl 18;have r:∀l,F1 l->G l:=λl hl=>s4.mono l hl;have H5:=H4.Wi 0 (E':=eV) (ys:=(iz u (oD az)).ef) rfl rfl (by simp[iz]) λk x y ws c b i=>by
  rw[AX]at c;have b:((fK u (oD az)).map λn=>iF u (oD az) (u.ef.getD n zaS))[k]? =some y:=b;rw[AX]at b
  cases hk:(fK u (oD az))[k]? with
  |none=>simp_all
  | some n=>
    rw[hk]at c b;cases c;cases b;obtain⟨rfl,_⟩:=i;have T:=Iq g.jW (DQ hk);obtain⟨⟨x,w⟩,o⟩:∃y,xs[n]? =some y:=⟨_,hO (by rw[<-EN (f:=Prod.fst),hc.fst];exact T)⟩
    have I:u.ef[n]? =some x:=by rw[<-hc.fst,AX,o];rfl
    have U:yOf u (oD az) xs n=(iF u (oD az) x,w):=by unfold yOf wV;rw[o,ED,I];rfl
    have J:=hN.row n x w o;rw[Lp,if_pos (DQ hk)]at J;have V:u.ef.getD n zaS=x:=by rw[ED,I];rfl
    show eV.rel G R (iF u (oD az) (u.ef.getD n zaS)) _;rw[U,V];exact⟨w,rfl,FW q 14 rfl r (E 14 _ (by decide) rfl) J⟩
 have H6:=H5.Wi 1 (E':=eK) (ys:=(iz u (oD az)).blocks) rfl rfl (by simp[iz]) λk x y ws c b i=>by
  rw[AX]at c;have b:(u.blocks.map (nz u (oD az)))[k]? =some y:=b;rw[AX]at b
  cases hB:u.blocks[k]? with
  |none=>simp_all
  | some B=>
    rw[hB]at b;cases b;have K:=(kj.1 hB).1;rw[List.getElem?_range K]at c;cases c;obtain⟨⟨B',w⟩,p⟩:∃y,bs[k]? =some y:=⟨_,hO (by rw[<-EN (f:=Prod.fst),t.fst];exact K)⟩
    have L:u.blocks[k]? =some B':=by rw[<-t.fst,AX,p];rfl
    rw[hB]at L;cases L;have W:kOf u (oD az) bs k=(nz u (oD az) B,w):=by unfold kOf RQ;rw[p,ED,hB];rfl
    rw[W]at i;obtain⟨bv,bp,rfl,iv,ip,_⟩:=i;exact⟨bv,w,bp,rfl,iv,FW q 15 rfl r (E 15 _ (by decide) rfl) (t.row k B w p),ip⟩
 refine H G R JX S D (((s1.trans s2).trans s3).trans s4) H6 ?_;refine ie.ofRow q 11 rfl r (E 11 _ (by decide) rfl) rfl (by simp[iz,O.out]) λk x y ws c b i=>?_;rw[O.out,AX]at c;have b:((HR u (oD az)).map λs=>(u.eh.getD s []).map (Xu u (oD az)))[k]? =some y:=b;rw[AX]at b
 cases hk:(HR u (oD az))[k]? with
 |none=>simp_all
 | some s=>
   rw[hk]at c b;cases c;cases b;have M:=DQ hk;have oV:=O.lt s M;obtain⟨l,d⟩:∃l,ss[s]? =some l:=by simp_all
   have N:u.eh[s]? =some (l.map Prod.fst):=by rw[<-m.fst,AX,d];rfl
   have g1:ss.getD s []=l:=by rw[ED,d];rfl
   have g2:u.eh.getD s []=l.map Prod.fst:=by rw[ED,N];rfl
   show(eL eF).rel G R ((u.eh.getD s []).map (Xu u (oD az))) ws;rw[g2];obtain⟨f,rfl,X⟩:=i;dsimp only at X;rw[g1]at X;refine⟨f,rfl,X.Wi rfl r (by simp) λj z y cs hz b i=>?_⟩;rw[List.map_map,AX,hz]at b;cases b;obtain⟨z,a,w⟩:=z;obtain⟨rfl,_,_⟩:=i;obtain⟨r1,Y⟩:=O.rows s l j z a w d hz;rw[if_pos M]at r1 Y;obtain⟨_,q2⟩:=g.st s _ N;obtain⟨_,_,q3,q4⟩:=q2 z (by grind);rw[Yo λv hv=>QK g e (q3 v hv)]at r1;rw[Yo λv hv=>QK g e (q4 v hv)]at Y;exact⟨a,w,rfl,FW q 5 rfl r (E 5 _ (by decide) rfl) r1,FW q 5 rfl r (E 5 _ (by decide) rfl) Y⟩
end
section
variable{F:Nat->Prop}{h:Hp}{cs:List Pc}{u:U}{wv wb ws:V}{xs:List (Vl×V)}{bs:List (Bk×V)}{ss:List (List (Fm×V×V))}{fa fn:Nat->Option (List Nat×V)}{fl:KF->Option (List Nat×V)}
theorem ej.Zu(hc:Yn u.ef xs fa)(i:Xp u.blocks bs fn)(hs:CpS u.eh ss fl)(H:ej F h (eJ yV gP xs wv::eJ wC fJ bs wb::eJ (eL QC) mb ss ws::fT ev fa::fT ev fn::fT ev fl::cs)) :
  ∃G,ej G h cs/\Sn F h G h/\zQ G h u wv wb ws:=by
 obtain⟨G,n,s4,e⟩:=H.Nl 6;have c:∀l,F l->G l:=λl o=>s4.mono l o;refine⟨G,n,s4,⟨?_,?_,?_⟩⟩
 ·refine ie.ofRow H 0 rfl c (e 0 _ (by decide) rfl) rfl (by rw[<-hc.fst];simp) λk x y ws d b g=>?_;obtain⟨x,w⟩:=x;rw[<-hc.fst,AX,d]at b;cases b;obtain⟨rfl,_⟩:=g;exact⟨w,rfl,FW H 3 rfl c (e 3 _ (by decide) rfl) (hc.row k x w d)⟩
 ·refine ie.ofRow H 1 rfl c (e 1 _ (by decide) rfl) rfl (by rw[<-i.fst];simp) λk x y ws d b g=>?_;obtain⟨x,w⟩:=x;rw[<-i.fst,AX,d]at b;cases b;obtain⟨bv,bp,rfl,p,ip,_⟩:=g;exact⟨bv,w,bp,rfl,p.mono c,FW H 4 rfl c (e 4 _ (by decide) rfl) (i.row k x w d),ip.mono c⟩
 ·refine ie.ofRow H 2 rfl c (e 2 _ (by decide) rfl) rfl (by rw[<-hs.fst];simp) λk x y ws d b g=>?_;rw[<-hs.fst,AX,d]at b;cases b;obtain⟨f,rfl,q⟩:=g;refine⟨f,rfl,q.Wi rfl c (by simp) λj z y cs m b g=>?_⟩;rw[AX,m]at b;cases b;obtain⟨z,a,w⟩:=z;obtain⟨rfl,_,_⟩:=g;obtain⟨r1,r⟩:=hs.loc k x j z a w d m;exact⟨a,w,rfl,FW H 5 rfl c (e 5 _ (by decide) rfl) r1,FW H 5 rfl c (e 5 _ (by decide) rfl) r⟩
end
open Un Dm
section
variable{F F':Nat->Prop}{h h':Hp}{cs ds:List Pc}{Q:fo}{u:U}{vv vb vs mf:V}{az:List Int}
theorem TF(g:PV u)(B:Ik u)(m:az.length=u.ef.length)(C:∀kp u' mO seen post,Iy u.blocks.length (next u) seen post []->kp=(λb=>post.reverse.contains b)->Cut u kp u'->My u kp az mO->Aw u' mO)
  (r:ej F h (eJ eZ ev az mf::cs)) (s:zQ F h u vv vb vs)
  (H:∀F' h' kp u' mO seen post wv wb ws,Sn F h F' h'->ej F' h' (eJ eV gP (iz u' (oD mO)).ef wv::eJ eK fJ (iz u' (oD mO)).blocks wb::cs)->Iy u.blocks.length (next u) seen post []->kp=(λb=>post.reverse.contains b)->Cut u kp u'->My u kp az mO->ie (eL eF) F' h' (iz u' (oD mO)).eh ws->Q (.agg (uC (iz u' (oD mO)) wv wb ws)) h') :
  cP CS yT [.agg (uC u vv vb vs),mf] h Q:=by
 refine Vk rfl rfl ?_;unfold OT;refine jM r s.one λD E v=>Be E λh2 w x=>?_;generalize h.next=l1 at*;generalize D.next=l2 at*;have u2:=(s.since v).since x;refine ed (w.tK 1 rfl rfl) ?_;refine QB g w u2 λF3 I wv wb ws xs bs ss fa fn fl J hc K hs e=>?_;have hp:fW [.I 0,.I 0,.ee,.ee,.ee,.ee] [(0,5),(5,1)] [(0,V.agg (uC u wv wb ws)),(1,mf)]=some (V.agg [.I u.func,.I u.pc,wv,wb,ws,mf]):=by
  rcases r.row 0 rfl with⟨rfl,_⟩|⟨t,L,rfl,_⟩ <;> rfl
 refine ed hp ?_;refine jM e (by simp only[eo,e.one 0 rfl,e.one 1 rfl,e.one 2 rfl,e.one 8 rfl];rfl) λh4 M s4=>?_;generalize I.next=lt at*;have N:=M.perm [1,2,4,5,9,0,3,6,7,8] 10 (by decide) (by decide) (by simp);refine Yd B hc K m (e.one 2 rfl) N λF6 h6 seen post kp u' O P R S mO T U G f a o p i y=>?_;have gn:=C kp u' mO seen post G f a i;have W:=a.func;have X:=a.pc;rw[<-W,<-X]at y;refine SZ gn o p (by rw[a.eh];exact hs) y λz Y c d j Z k l=>?_;have k:ej z Y (eJ eV gP (iz u' (oD mO)).ef c::eJ eK fJ (iz u' (oD mO)).blocks d::ey l2 im _::ey l1 im _::cs):=k;obtain⟨h8,e8,_,q,A⟩:=k.stA 2 (ws:=uC (iz u' (oD mO)) c d j) (n:=5) rfl rfl rfl (by simp only[uC,eo,k.one 0 rfl,k.one 1 rfl,l.one];rfl);rw[e8,ei];simp only[mP,rV]at q;refine ed (q.tK 2 rfl rfl) ?_;have H9:=q.perm [2,3,0,1] 4 (by decide) (by decide) (by simp);exact H z h8 kp u' mO seen post c d j ((((((v.trans x).trans J).trans s4).trans U).trans Z).trans A) H9.tail.tail G f a i (l.since A)
theorem Y9(g:PV u)(j:Ik u)(c:az.length=u.ef.length)(k:∀kp u' mO seen post,Iy u.blocks.length (next u) seen post []->kp=(λb=>post.reverse.contains b)->Cut u kp u'->My u kp az mO->Aw u' mO)
  (l:ej F h (eJ eZ ev az mf::cs)) (m:zQ F h u vv vb vs)
  (H:∀F' h' kp u' mO seen post wv wb ws,Sn F h F' h'->ej F' h' cs->Iy u.blocks.length (next u) seen post []->kp=(λb=>post.reverse.contains b)->Cut u kp u'->My u kp az mO->zQ F' h' (iz u' (oD mO)) wv wb ws->Q (.agg (uC (iz u' (oD mO)) wv wb ws)) h') :
  cP CS yT [.agg (uC u vv vb vs),mf] h Q:=
 TF g j c k l m λF' h' kp u' mO seen post wv wb ws n o G d a e r1=>by
  obtain⟨p,i,q⟩:=o.jZ 0 rfl;obtain⟨r,f,r3⟩:=p.jZ 1 rfl;exact H _ h' kp u' mO seen post wv wb ws ((n.trans i).trans f) r.tail.tail G d a e ⟨q.since f,r3,(r1.since i).since f⟩
theorem Ra{n:Nat}{nx:Nat->List Nat}{seen:List Bool}{post:List Nat}(G:Iy n nx seen post []):∀{b:Nat}{l:List Nat},Pt nx b l->b∈post
 | _,_,.nil=>by
   obtain⟨p,hp⟩:=G.last rfl
   simp_all
 | _,_,.step h e=>by
   rcases(G.iff _).1 (G.closed _ (Ra G h) _ e)with a|a
   ·exact a
   simp_all
theorem QZ(g:Good u)(e:AH u):Ik u:=⟨Ln g,g.nv,g.KZ,g.jW,λb B a=>⟨Bj g a,λp hp=>by
 rw[g.eQ b B a]at hp;obtain⟨q,i,c,_,d⟩:=vM.1 hp
 grind⟩,λv b k x B c f d h=>(g.Dz v b k x B c f d h).2,e⟩
theorem RR{P:Nat->Prop}(g:Gd u P)(n:AH u)(j:az.length=u.ef.length)(d:∀(v:Nat)(a:Int),az[v]? =some a->a<az.length):Aw u az where
 nv:=g.nv
 nb:=g.nb
 ns:=g.ns
 once:=g.KZ
 jW:=g.jW
 len:=j
 sub:=d
 parts v x hx:=by
  have c:∀w∈iP x,w<u.ef.length:=λw o=>Bl (g.use v x hx w o);unfold iP at c;refine⟨n v x hx,?_⟩;by_cases e:x.op=21
  ·rw[if_pos e]at c;have p:two x.op=false:=by rw[e];rfl
   have q:nW x.op=false:=by rw[e];rfl
   exact⟨by simp_all,by simp_all,λ_=>c,g.leave v x hx⟩
  ·rw [if_neg e]at c;by_cases c2:x.op=20
   ·rw[if_pos c2]at c;have i:=g.putAt v x hx c2;rw[wA1 (by omega)]at c;exact⟨by simp_all,by simp_all,by simp_all,g.leave v x hx⟩
   ·rw [if_neg c2]at c;refine⟨λh=>?_,λh=>?_,by omega,g.leave v x hx⟩
    ·by_cases r:two x.op=true
     ·simp_all
     simp_all
    simp_all
 ends b B hB:=by
  rcases g.fin b B hB with⟨i,_⟩|⟨i,_,k⟩|⟨i,_,k⟩
  ·omega
  ·grind[Bl]
  omega
 st s fs hfs:=by
  obtain⟨i,k⟩:=HZ g s fs hfs;refine⟨by omega,λf l=>?_⟩;obtain⟨t,y⟩:=k f l;have m:=P9 g hfs;refine⟨by omega,by omega,λv hv=>m v ?_,λv hv=>m v ?_⟩
  ·exact Yk.2 ⟨f,l,Yj _ hv⟩
  ·exact Yk.2 ⟨f,l,List.mem_append_right _ hv⟩
end
