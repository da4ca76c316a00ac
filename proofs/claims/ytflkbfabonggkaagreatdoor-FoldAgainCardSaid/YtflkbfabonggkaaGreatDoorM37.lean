/- Parts. -/
import Derived.Test.YtflkbfabonggkaaGreatDoorM30
set_option maxHeartbeats 4000000
namespace Go.Proofs.YtflkbfabonggkaaGreatDoor.Hx
open Un Dm
def zaI:Vl:=⟨0,0,0,0,[],0⟩
def wV(xs:List (Vl×V))(n:Nat):V:=match xs[n]? with
 |some x=>x.2
 |none=> .undef
def ZM(u:U)(A:Nat->Int)(xs:List (Vl×V))(n:Nat):Vl×V:=(ie u A (u.ef.getD n zaI),wV xs n)
section
variable{F F':Nat->Prop}{h h':Hp}{cs ds:List Pc}{Q:ft}{u:U}{wv wb ws kG num:V}{lt Tt l1 T1 l2 l3 l4 T4 lm lb Tb lr Tr:Nat}{az:List Int}{ns:List Nat}{xs:List (Vl×V)}{bs:List (Bk×V)}{fa fn:Nat->Option (List Nat×V)}{ss:List (List (Fm×V×V))}{fl:KF->Option (List Nat×V)}
theorem Qw(g:zU u az)(a:∀v,v<u.ef.length->ns[v]? =some (if v∈fG u (mX az) then(fG u (mX az)).idxOf v else 0)){v:Nat}(hv:v<u.ef.length):BS ns az v=nm u (mX az) v:=by
 have b:=SR («as»:=mX az) (n:=u.ef.length) (λw d=>by
  have c:=gW (show w<az.length by rw[g.len];exact d);have e:=g.sub w _ c;rw[Ue c];have:=g.len;omega) (u.ef.length+1) v hv
 unfold BS nm;rw[g.len,DY,a _ b];rfl
structure NV (u:U) (az:List Int) (ns:List Nat) (xs:List (Vl×V)) (ss:List (List (Fm×V×V))) (i:Nat) (fa:Nat->Option (List Nat×V)) (S:Int->Option V) (fl:KF->Option (List Nat×V)) (a:List (List (Fm×V×V))):Prop where
 row:∀v x w,xs[v]? =some (x,w)->fa v=some (if v∈(fG u (mX az)).take i then(ie u (mX az) x).args else x.args,w)
 st:StS ss (BS ns az) (lL (sX u ((fG u (mX az)).take i))) S fl a
theorem zev(g:zU u az)(hc:ZG u.ef xs fa)(W:CpS u.eh ss fl){j:V}(aC:ns.length=u.ef.length)(aD:∀v,v<u.ef.length->ns[v]? =some (if v∈fG u (mX az) then(fG u (mX az)).idxOf v else 0))
  (H0:ej F h (Nx l1 T1 l4 T4 lt Tt num ns [.I u.func,.I u.pc,wv,wb,ws] kG az (Sx fl ss ws lm (λ_=>none) lb Tb lr Tr l4 l1 l3 hV (.I u.func) (.I u.pc) .ee .ee .ee []
    (eJ yA gL xs wv::eJ vS fI bs wb::fS eo fa::fS eo fn::eJ yA gL [] .ee::eJ vS fI [] .ee::ev l2 hV [.I 0,.I 0,.ee,.ee,.ee]::eJ eN eo (fG u (mX az)) j::cs))))
  (H:∀h' m S p t IN G4,Sn F h F h'->NV u az ns xs ss (fG u (mX az)).length m S p t->
   ej F h' (Nx l1 T1 l4 T4 lt Tt num ns [.I u.func,.I u.pc,wv,wb,ws] kG az (Sx p ss ws lm S lb Tb lr Tr l4 l1 l3 hV (.I u.func) (.I u.pc) IN .ee G4 t
    (eJ yA gL xs wv::eJ vS fI bs wb::fS eo m::fS eo fn::eJ yA gL ((fG u (mX az)).map (ZM u (mX az) xs)) IN::eJ vS fI [] .ee::ev l2 hV [.I 0,.I 0,.ee,.ee,.ee]::eJ eN eo (fG u (mX az)) j::cs)))->
   lC CS Q [.ptr l1 0,.ptr l2 0,.ptr l3 0,.ptr l4 0,.func fR [] [.ptr lb 0,.ptr l3 0,.ptr l1 0,.ptr lr 0],wb,.I bs.length,.I 0] h') :
  lF CS Q [.ptr l1 0,.ptr l2 0,.ptr l3 0,.ptr l4 0,.ptr lr 0,.func fR [] [.ptr lb 0,.ptr l3 0,.ptr l1 0,.ptr lr 0],j,.I ((fG u (mX az)).length:Nat),.I 0] h:=by
 have nv:=g.nv;have gl:=g.len;have aE:xs.length=u.ef.length:=by rw[<-hc.fst,DL]
 have lss:ss.length=u.eh.length:=by rw[<-W.fst,DL]
 obtain⟨A,hA⟩:∃A,mX az=A:=⟨_,rfl⟩
 have aF:∀v,v<u.ef.length->BS ns az v=nm u A v:=by grind[Qw]
 have ar:=zV («as»:=A) g.once;have ng:(fG u A).length<=u.ef.length:=jj _ _ ar λv hv=>GZ g.jE hv
 obtain ⟨I,hI⟩:∃I:Nat->LP,I=λk l h'=>∃(i:Nat) (m:Nat->Option (List Nat×V)) (S:Int->Option V) (p:KF->Option (List Nat×V)) (t:List (List (Fm×V×V))) (IN G4:V),l=[.ptr l1 0,.ptr l2 0,.ptr l3 0,.ptr l4 0,.ptr lr 0,.func fR [] [.ptr lb 0,.ptr l3 0,.ptr l1 0,.ptr lr 0],j,.I ((fG u A).length:Nat),.I i]/\i+k=(fG u A).length/\Sn F h F h'/\NV u az ns xs ss i m S p t/\
   ej F h' (Nx l1 T1 l4 T4 lt Tt num ns [.I u.func,.I u.pc,wv,wb,ws] kG az (Sx p ss ws lm S lb Tb lr Tr l4 l1 l3 hV (.I u.func) (.I u.pc) IN .ee G4 t
    (eJ yA gL xs wv::eJ vS fI bs wb::fS eo m::fS eo fn::eJ yA gL (((fG u A).take i).map (ZM u A xs)) IN::eJ vS fI [] .ee::ev l2 hV [.I 0,.I 0,.ee,.ee,.ee]::eJ eN eo (fG u A) j::cs))):=⟨_,rfl⟩
 rw[hA]at H0 H⊢;refine Cf I (λk x1 x2 x3 x4 aG aH aI aJ aK h1 hi=>?_) (k:=(fG u A).length) ?_
 ·rw [hI]at hi;obtain⟨i,m,S,p,t,IN,G4,⟨⟩,hk,s1,hN,N⟩:=hi;unfold tU;by_cases hi:i<(fG u A).length
  ·refine gG ?_;have hx:=gW hi;have X:=EO hx;have aL:=GZ g.jE (AW hi);have au:(fG u A)[i] ∉ (fG u A).take i:=by grind[mQ,jP,Mo,wBY,qX]
   generalize (fG u A)[i]=n at*;obtain⟨⟨x,w⟩,O⟩:∃y,xs[n]? =some y:=by simp_all
   have Y:u.ef[n]? =some x:=by rw[<-hc.fst,CH,O];rfl
   have aw:ZM u A xs n=(ie u A x,w):=by unfold ZM wV;rw[O,DY,Y];rfl
   obtain ⟨p1,p2,p3,p4,p5⟩:=g.parts n x Y;obtain⟨la,oa,y1,y2⟩:=N.LW 19 rfl hx .i64;obtain⟨lv,ov,wl,z1,z2,⟨rfl,w1⟩,_⟩:=N.YU 12 rfl O .i64;have z1:gz 6 wv (.I n)=some (.ptr lv ov):=z1;refine ed y1 (ed y2 (ed (N.ld 0 rfl rfl) (ed pn (ed pf (oF (N.ld 2 rfl rfl) (ed z1 (ed z2 ?_)))))));refine ir N rfl rfl (by simp only[my,ey];simp only[show w.one=true from w1];rfl) λh2 L s2=>?_;generalize h1.next=lx at*;have L:ej F h2 (Nx l1 T1 l4 T4 lt Tt num ns [.I u.func,.I u.pc,wv,wb,ws] kG az (Sx p ss ws lm S lb Tb lr Tr l4 l1 l3 hV (.I u.func) (.I u.pc) IN .ee G4 t (ev lx 49 (my x w)::_))):=L.Um 12 (by simp);have aa:∀d:Nat->Option (List Nat×V),(∀v,v≠n->d v=m v)->d n=some ((ie u A x).args,w)->∀v y b,xs[v]? =some (y,b)->d v=some (if v∈(fG u A).take (i+1) then(ie u A y).args else y.args,b):=λd h1 h2 v y b hv=>by
    rw[X];by_cases e:v=n
    ·simp_all
    ·rw[h1 v e];have:=hN.row v y b hv
     simp_all
   have ab:m n=some (x.args,w):=by
    have:=hN.row n x w O;rw[hA,if_neg au]at this;exact this
   have ac:=hN.st;rw[hA]at ac
   have ae:∀f d S2 P C G,Sn F h F f->(∀v,v≠n->d v=m v)->d n=some ((ie u A x).args,w)->StS ss (BS ns az) (lL (sX u ((fG u A).take (i+1)))) S2 P C->
     ej F f (Nx l1 T1 l4 T4 lt Tt num ns [.I u.func,.I u.pc,wv,wb,ws] kG az (Sx P ss ws lm S2 lb Tb lr Tr l4 l1 l3 hV (.I u.func) (.I u.pc) IN .ee G C
      (ev lx 49 (my (ie u A x) w)::eJ yA gL xs wv::eJ vS fI bs wb::fS eo d::fS eo fn::eJ yA gL (((fG u A).take i).map (ZM u A xs)) IN::eJ vS fI [] .ee::ev l2 hV [.I 0,.I 0,.ee,.ee,.ee]::eJ eN eo (fG u A) j::cs)))->
     kJ CS Q (BK I k) [.ptr l1 0,.ptr l2 0,.ptr l3 0,.ptr l4 0,.ptr lr 0,.func fR [] [.ptr lb 0,.ptr l3 0,.ptr l1 0,.ptr lr 0],.ptr lx 0,j,.I ((fG u A).length:Nat),.I i] f:=by
    intro f d S2 P C G M R T hS z;refine BC ?_;unfold rI;refine oF (z.ld 10 rfl rfl) (ed (z.zb 12 rfl rfl) ?_);rw[qY (sz:=6) (w:=my (ie u A x) w) rfl rfl (by simp only[my,ey];simp only[show w.one=true from w1];rfl),fx];obtain⟨D,E,e4,_,B,s4⟩:=z.vR 17 rfl (jW:=64) (DP:=49) (y:=(ie u A x,w)) (w:=my (ie u A x) w) (ro:=false) ⟨rfl,w1⟩ (by decide) (by decide) (by simp;omega);have J:eR 49 6 64 IN (.slice f.next 0 1) (f.new (.cells 49 6 true false (my (ie u A x) w)))=some (.val D E):=e4;rw[J,ei];simp only[je,mA]at B;obtain⟨h5,e5,_,H5,s5⟩:=B.st 10 (o:=2) (u:=D) rfl (by simp) (B.one 17 rfl);refine ed pf ?_;have Z:gI 1 (.ptr l3 (0+2)) D E=some (.val .undef h5):=by rw[zj];exact e5
    rw[Z,ei];simp only[je,mA]at H5;refine fL ⟨k-1,by omega,?_⟩;rw[hI];refine⟨i+1,d,S2,P,C,D,G,rfl,by omega,(M.trans s4).trans s5,⟨λv y b hv=>by rw[hA];exact aa d R T v y b hv,by simp_all⟩,?_⟩;have H6:=H5.N0 12 (by simp);rw[X,Ox,ZQ,Y1,aw];exact H6
   have ag:sX u ((fG u A).take (i+1))=sX u ((fG u A).take i)++(if leaves x.op=true then[x.state] else[]):=by
    rw[X];unfold sX;rw[List.filterMap_append,List.filterMap_cons];simp only[Y];by_cases e:leaves x.op=true
    ·grind
    ·grind
   have ah:lL (sX u ((fG u A).take (i+1))) <+: Hb u A:=by
    have:KN u A=sX u ((fG u A).take (i+1))++(sX u ((fG u A).drop (i+1))++BU u.blocks):=by
     rw[Pl,<-LY];congr 1
     conv=>lhs;rw[<-Zp (i+1) (fG u A)]
     exact List.filterMap_append
    unfold Hb;rw[this];exact Iv _ _
   have ai:∀f d,Sn F h F f->(∀v,v≠n->d v=m v)->d n=some ((ie u A x).args,w)->
     ej F f (Nx l1 T1 l4 T4 lt Tt num ns [.I u.func,.I u.pc,wv,wb,ws] kG az (Sx p ss ws lm S lb Tb lr Tr l4 l1 l3 hV (.I u.func) (.I u.pc) IN .ee G4 t
      (ev lx 49 (my {x with a:=(ie u A x).a,b:=(ie u A x).b} w)::eJ yA gL xs wv::eJ vS fI bs wb::fS eo d::fS eo fn::eJ yA gL (((fG u A).take i).map (ZM u A xs)) IN::eJ vS fI [] .ee::ev l2 hV [.I 0,.I 0,.ee,.ee,.ee]::eJ eN eo (fG u A) j::cs)))->
     kL CS Q (BK I k) [.ptr l1 0,.ptr l2 0,.ptr l3 0,.ptr l4 0,.ptr lr 0,.func fR [] [.ptr lb 0,.ptr l3 0,.ptr l1 0,.ptr lr 0],.ptr lx 0,j,.I ((fG u A).length:Nat),.I i] f:=by
    intro f d M R T z;refine Bi ?_;unfold sh;refine oF (z.ld 12 rfl rfl) (Ld (iO ?_));by_cases hlv:leaves x.op=true
    ·refine gi hlv (oF (z.ld 12 rfl rfl) ?_);show cP CS fR [.I x.state,.ptr lb 0,.ptr l3 0,.ptr l1 0,.ptr lr 0] f _;obtain⟨sl,U⟩:∃sl,ss[x.state]? =some sl:=⟨_,gW (by have:=p5 hlv;omega)⟩
     have ax:u.eh[x.state]? =some (sl.map Prod.fst):=by rw[<-W.fst,CH,U];rfl
     obtain⟨q1,q2⟩:=g.st _ _ ax;rw[DL]at q1;refine Pq z ac (by omega) (by omega) g.sub U (by have:=g.ns;omega) q1 (λy hy=>?_) λE ay S4 aj ak s4 al B=>?_
     ·grind
     rw[if_pos hlv]at ag;have aA:Wx (lL (sX u ((fG u A).take i))) x.state=lL (sX u ((fG u A).take (i+1))):=by rw[ag,yS];rfl
     rw[aA]at al⊢;have am:x.state∈lL (sX u ((fG u A).take (i+1))):=(by grind[uw])
     have aB:(lL (sX u ((fG u A).take (i+1)))).idxOf x.state=(ie u A x).state:=by
      rw[<-Ny ah am];show _=if leaves x.op=true then(Hb u A).idxOf x.state else x.state
      rw[if_pos hlv]
     rw[aB];obtain⟨h5,e5,_,H5,s5⟩:=B.st 12 (o:=5) (u:= .I ((ie u A x).state:Nat)) rfl (by simp[my]) rfl;refine ed pf ?_;have Z:gI 1 (.ptr lx (0+5)) (.I ((ie u A x).state:Nat)) E=some (.val .undef h5):=by rw[zj];exact e5
     rw[Z,ei];simp only[je,mA]at H5;exact ae h5 d S4 ay aj ak ((M.trans s4).trans s5) R T al H5
    ·refine fU hlv (ae f d S p t G4 M R T ?_ ?_)
     ·grind
     ·have hs:(ie u A x).state=x.state:=if_neg hlv
      grind[my,ie]
   have an:∀f,Sn F h F f->ej F f (Nx l1 T1 l4 T4 lt Tt num ns [.I u.func,.I u.pc,wv,wb,ws] kG az (Sx p ss ws lm S lb Tb lr Tr l4 l1 l3 hV (.I u.func) (.I u.pc) IN .ee G4 t
      (ev lx 49 (my {x with a:=(ie u A x).a,b:=(ie u A x).b} w)::eJ yA gL xs wv::eJ vS fI bs wb::fS eo m::fS eo fn::eJ yA gL (((fG u A).take i).map (ZM u A xs)) IN::eJ vS fI [] .ee::ev l2 hV [.I 0,.I 0,.ee,.ee,.ee]::eJ eN eo (fG u A) j::cs)))->
     kP CS Q (BK I k) [.ptr l1 0,.ptr l2 0,.ptr l3 0,.ptr l4 0,.ptr lr 0,.func fR [] [.ptr lb 0,.ptr l3 0,.ptr l1 0,.ptr lr 0],.ptr lx 0,j,.I ((fG u A).length:Nat),.I i] f:=by
    intro f M z;refine Bx ?_;unfold tk;refine oF (z.ld 12 rfl rfl) (gZ ?_);have e0:ez (.ptr lx (0+0)) f=some (.I x.op):=z.ld 12 rfl rfl;have eq:nP (V.bool (decide ((x.op:Int)=21))) (oB (fH 0 (.ptr lx 0)) λao=>oB (ez ao f) λap=>en .eql 3 ap (V.I 20))=some (.bool (decide (x.op=21\/x.op=20))):=by
     rw[pf,fe,e0,fe,ik,pH];congr 2;by_cases c1:x.op=21
     ·grind
     ·grind
    refine ed eq (iO ?_);have K:(ie u A x).args=if x.op=21\/x.op=20 then x.args.map (nm u A) else x.args:=rfl
    by_cases c:x.op=21\/x.op=20
    ·refine gi (Kt c) (ed (z.ld 9 rfl rfl) (oF (z.ld 12 rfl rfl) ?_));show cP CS iD [w,.ptr l4 0,.ptr l1 0] f _;refine KU 10 z rfl ab rfl (by omega) (by omega) g.sub (by grind) (by omega) λE s4 B=>?_;simp only[je,mA]at B;have hm:x.args.map (BS ns az)=(ie u A x).args:=by
      rw[K,if_pos c];exact by grind[Xv]
     rw[hm]at B;exact ai E _ (M.trans s4) (by grind[js]) (lg _ _ _) B
    ·refine fU (by rw[AQ];exact c) (ai f m M (λ_ _=>rfl) ?_ z);rw[K,if_neg c];exact ab
   have aq:∀f,Sn F h F f->ej F f (Nx l1 T1 l4 T4 lt Tt num ns [.I u.func,.I u.pc,wv,wb,ws] kG az (Sx p ss ws lm S lb Tb lr Tr l4 l1 l3 hV (.I u.func) (.I u.pc) IN .ee G4 t
      (ev lx 49 (my {x with a:=(ie u A x).a} w)::eJ yA gL xs wv::eJ vS fI bs wb::fS eo m::fS eo fn::eJ yA gL (((fG u A).take i).map (ZM u A xs)) IN::eJ vS fI [] .ee::ev l2 hV [.I 0,.I 0,.ee,.ee,.ee]::eJ eN eo (fG u A) j::cs)))->
     kN CS Q (BK I k) [.ptr l1 0,.ptr l2 0,.ptr l3 0,.ptr l4 0,.ptr lr 0,.func fR [] [.ptr lb 0,.ptr l3 0,.ptr l1 0,.ptr lr 0],.ptr lx 0,j,.I ((fG u A).length:Nat),.I i] f:=by
    intro f M z;refine Bw ?_;unfold rZ;refine oF (z.ld 12 rfl rfl) (MI (Ik ?_));have hb:(ie u A x).b=if two x.op=true then nm u A x.b else x.b:=rfl
    by_cases c:two x.op=true
    ·refine gi (by show(1:Int)<(mU x.op:Nat);unfold mU;grind) ?_;refine ed (z.ld 1 rfl rfl) (ed (z.ld 0 rfl rfl) (oF (z.ld 12 rfl rfl) ?_));refine Kb z rfl (by omega) (by omega) g.sub (by grind) λr q e1 e2=>⟨iZ _,ed e1 (ed e2 (ed pf ⟨z.ld 1 rfl rfl,?_⟩))⟩
     obtain⟨E,e4,n4,B,s4⟩:=z.st 12 (o:=2) (u:= .I (BS ns az x.b:Nat)) rfl (by simp[my]) rfl;have J:gI 1 (.ptr lx (0+2)) (.I (BS ns az x.b:Nat)) f=some (.val .undef E):=by rw[zj];exact e4
     rw[J,ei];simp only[je,mA]at B;have hq:BS ns az x.b=(ie u A x).b:=by rw[hb,if_pos c];exact by grind
     rw[hq]at B;exact⟨n4,an E (M.trans s4) B⟩
    ·refine fU (by show ¬(1:Int)<(mU x.op:Nat);unfold mU;grind) (an f M ?_)
     grind
   refine oF (L.ld 12 rfl rfl) (MI (Ik ?_));have ha:(ie u A x).a=if 0<mU x.op then nm u A x.a else x.a:=rfl
   by_cases c:0<mU x.op
   ·have c':na x.op=true\/two x.op=true:=by
     unfold mU at c;by_cases h1:two x.op=true
     ·grind
     ·grind
    refine gi (by omega) ?_;refine ed (L.ld 1 rfl rfl) (ed (L.ld 0 rfl rfl) (oF (L.ld 12 rfl rfl) ?_));refine Kb L rfl (by omega) (by omega) g.sub (by grind) λr q e1 e2=>⟨iZ _,ed e1 (ed e2 (ed pf ⟨L.ld 1 rfl rfl,?_⟩))⟩
    obtain⟨E,e4,n4,B,s4⟩:=L.st 12 (o:=1) (u:= .I (BS ns az x.a:Nat)) rfl (by simp[my]) rfl;have J:gI 1 (.ptr lx (0+1)) (.I (BS ns az x.a:Nat)) h2=some (.val .undef E):=by rw[zj];exact e4
    rw[J,ei];simp only[je,mA]at B;have hq:BS ns az x.a=(ie u A x).a:=by rw[ha,if_pos c];exact by grind
    rw[hq]at B;exact⟨n4,aq E ((s1.trans s2).trans s4) B⟩
   ·refine fU (by omega) (aq h2 (s1.trans s2) ?_);have:({x with a:=(ie u A x).a}:Vl)=x:=by rw[ha,if_neg c]
    rw[this];exact L
  ·refine iJ ?_;obtain rfl:i=(fG u A).length:=by omega
   rw[JC]at N;refine ed (N.ld 0 rfl rfl) (ed pn (ed pf (oF (N.ld 2 rfl rfl) (ed (N.len 13 rfl) ?_))))
   grind
 ·rw[hI];refine⟨0,fa,λ_=>none,fl,[],.ee,.ee,rfl,by omega,Sn.refl _ _,⟨λv x w hx=>?_,λs=>rfl,rfl,λs l k x a w hs hl=>?_,List.nodup_nil,λ_ h=>by cases h⟩,H0⟩
  ·rw[hc.row v x w hx];rfl
  ·exact W.loc s l k x a w hs hl
end
open Un Dm
section
variable{F F':Nat->Prop}{h h':Hp}{cs ds:List Pc}{Q:ft}{u:U}{wv wb ws kG num IN:V}{lt Tt l1 T1 l2 l3 l4 T4 lm lb Tb lr Tr:Nat}{az:List Int}{ns:List Nat}{xs ys:List (Vl×V)}{bs0 bs:List (Bk×V)}{fa fn:Nat->Option (List Nat×V)}{ss:List (List (Fm×V×V))}{fl:KF->Option (List Nat×V)}
def kOf(u:U)(A:Nat->Int)(bs:List (Bk×V))(b:Nat):Bk×V:=(mf u A (u.blocks.getD b Oc),Px bs b)
theorem zeB(g:zU u az)(hb:Xs u.blocks bs0 fn)(R:ss.map (λl=>l.map Prod.fst)=u.eh)(T:NbB u az u.blocks.length bs0 bs){S:Int->Option V}{a:List (List (Fm×V×V))}{G4:V}(ax:ns.length=u.ef.length)(ah:∀v,v<u.ef.length->ns[v]? =some (if v∈fG u (mX az) then(fG u (mX az)).idxOf v else 0))
  (U:StS ss (BS ns az) (lL (sX u (fG u (mX az)))) S fl a)
  (H0:ej F h (Nx l1 T1 l4 T4 lt Tt num ns [.I u.func,.I u.pc,wv,wb,ws] kG az (Sx fl ss ws lm S lb Tb lr Tr l4 l1 l3 hV (.I u.func) (.I u.pc) IN .ee G4 a
    (eJ yA gL xs wv::eJ vS fI bs wb::fS eo fa::fS eo fn::eJ yA gL ys IN::eJ vS fI [] .ee::ev l2 hV [.I 0,.I 0,.ee,.ee,.ee]::ds))))
  (H:∀h' S c a b G4,Sn F h F h'->StS ss (BS ns az) (Hb u (mX az)) S c a->
   ej F h' (Nx l1 T1 l4 T4 lt Tt num ns [.I u.func,.I u.pc,wv,wb,ws] kG az (Sx c ss ws lm S lb Tb lr Tr l4 l1 l3 hV (.I u.func) (.I u.pc) IN b G4 a
    (eJ yA gL xs wv::eJ vS fI bs wb::fS eo fa::fS eo fn::eJ yA gL ys IN::eJ vS fI ((List.range u.blocks.length).map (kOf u (mX az) bs0)) b::ev l2 hV [.I u.func,.I u.pc,IN,b,G4]::ds)))->
   Q (.agg [.I u.func,.I u.pc,IN,b,G4]) h') :
  lC CS Q [.ptr l1 0,.ptr l2 0,.ptr l3 0,.ptr l4 0,.func fR [] [.ptr lb 0,.ptr l3 0,.ptr l1 0,.ptr lr 0],wb,.I bs.length,.I 0] h:=by
 have nv:=g.nv;have nb:=g.nb;have gl:=g.len;have W:bs0.length=u.blocks.length:=by rw[<-hb.fst,DL]
 have X:bs.length=u.blocks.length:=by rw[T.len,W]
 have lss:ss.length=u.eh.length:=by rw[<-R,DL]
 obtain⟨A,hA⟩:∃A,mX az=A:=⟨_,rfl⟩
 have ai:∀v,v<u.ef.length->BS ns az v=nm u A v:=λv hv=>by rw[<-hA];exact Qw g ah hv
 rw[hA]at H U;have C:=T.row;rw[hA]at C
 obtain ⟨I,hI⟩:∃I:Nat->LP,I=λk l h'=>∃(i:Nat) (S:Int->Option V) (c:KF->Option (List Nat×V)) (a:List (List (Fm×V×V))) (b G4:V),l=[.ptr l1 0,.ptr l2 0,.ptr l3 0,.ptr l4 0,.func fR [] [.ptr lb 0,.ptr l3 0,.ptr l1 0,.ptr lr 0],wb,.I bs.length,.I i]/\i+k=bs.length/\Sn F h F h'/\StS ss (BS ns az) (lL (sX u (fG u A)++BU (u.blocks.take i))) S c a/\
   ej F h' (Nx l1 T1 l4 T4 lt Tt num ns [.I u.func,.I u.pc,wv,wb,ws] kG az (Sx c ss ws lm S lb Tb lr Tr l4 l1 l3 hV (.I u.func) (.I u.pc) IN b G4 a
    (eJ yA gL xs wv::eJ vS fI bs wb::fS eo fa::fS eo fn::eJ yA gL ys IN::eJ vS fI ((List.range i).map (kOf u A bs0)) b::ev l2 hV [.I 0,.I 0,.ee,.ee,.ee]::ds))):=⟨_,rfl⟩
 refine CG I (λk x1 x2 x3 x4 ay ar au aw h1 hi=>?_) (k:=bs.length) ?_
 ·rw [hI]at hi;obtain⟨i,S,c,a,b,G4,⟨⟩,hk,s1,Y,E⟩:=hi;unfold tA;by_cases hi:i<bs.length
  ·refine gG ?_;obtain⟨⟨B,w⟩,G⟩:∃y,bs0[i]? =some y:=⟨_,gW (by omega)⟩
   have hB:u.blocks[i]? =some B:=by rw[<-hb.fst,CH,G];rfl
   have Z:=C i B w G;rw[if_pos (by omega)]at Z;have aj:kOf u A bs0 i=(mf u A B,w):=by unfold kOf Px;rw[G,DY,hB];rfl
   have ak:=EO hB;obtain⟨e1,e2⟩:=g.ends i B hB;obtain⟨lv,ov,wl,z1,z2,⟨bv,bp,rfl,iv,ip,w1⟩,_⟩:=E.YU 13 rfl Z .i64;have z1:gz 6 wb (.I i)=some (.ptr lv ov):=z1;refine ed z1 (ed z2 ?_);refine ir E rfl rfl (by simp only[kI,ey,iv.one,ip.one];simp only[show w.one=true from w1];rfl) λJ f s2=>?_;generalize h1.next=lx at*;have iv:=iv.since s2;have ip:=ip.since s2;have f:ej F J (Nx l1 T1 l4 T4 lt Tt num ns [.I u.func,.I u.pc,wv,wb,ws] kG az (Sx c ss ws lm S lb Tb lr Tr l4 l1 l3 hV (.I u.func) (.I u.pc) IN b G4 a (ev lx 47 (kI {B with ef:=(B.ef.filter (stays A)).map (fG u A).idxOf} bv w bp)::_))):=f.Um 12 (by simp)
   have K:∀O S2 x m t,Sn F J F O->StS ss (BS ns az) (lL (sX u (fG u A)++BU (u.blocks.take (i+1)))) S2 x m->
     ej F O (Nx l1 T1 l4 T4 lt Tt num ns [.I u.func,.I u.pc,wv,wb,ws] kG az (Sx x ss ws lm S2 lb Tb lr Tr l4 l1 l3 hV (.I u.func) (.I u.pc) IN b t m
      (ev lx 47 (kI (mf u A B) bv w bp)::eJ yA gL xs wv::eJ vS fI bs wb::fS eo fa::fS eo fn::eJ yA gL ys IN::eJ vS fI ((List.range i).map (kOf u A bs0)) b::ev l2 hV [.I 0,.I 0,.ee,.ee,.ee]::ds)))->
     jy CS Q (BK I k) [.ptr l1 0,.ptr l2 0,.ptr l3 0,.ptr l4 0,.func fR [] [.ptr lb 0,.ptr l3 0,.ptr l1 0,.ptr lr 0],.ptr lx 0,wb,.I bs.length,.I i] O:=by
    intro O S2 x m t s3 hS H3;have al:=iv.since s3;have am:=ip.since s3;refine Bg ?_;unfold rl;refine oF (H3.ld 10 rfl rfl) (ed (H3.zb 12 rfl rfl) ?_);rw[qY (sz:=6) (w:=kI (mf u A B) bv w bp) rfl rfl (by simp only[kI,ey,iv.one,ip.one];simp only[show w.one=true from w1];rfl),fx];obtain⟨p,L,e4,_,z,s4⟩:=H3.vR 18 rfl (jW:=96) (DP:=47) (y:=(mf u A B,w)) (w:=kI (mf u A B) bv w bp) (ro:=false) ⟨bv,bp,rfl,al,am,w1⟩ (by decide) (by decide) (by simp;omega);have M:eR 47 6 96 b (.slice O.next 0 1) (O.new (.cells 47 6 true false (kI (mf u A B) bv w bp)))=some (.val p L):=e4;rw[M,ei];simp only[je,mA]at z;obtain⟨h5,e5,_,P,s5⟩:=z.st 10 (o:=3) (u:=p) rfl (by simp) (z.one 18 rfl);refine ed pf ?_;have N:gI 1 (.ptr l3 (0+3)) p L=some (.val .undef h5):=by rw[zj];exact e5
    rw[N,ei];simp only[je,mA]at P;refine fL ⟨k-1,by omega,?_⟩;rw[hI];refine⟨i+1,S2,x,m,p,t,rfl,by omega,(((s1.trans s2).trans s3).trans s4).trans s5,hS,?_⟩;have H6:=P.N0 12 (by simp);rw[Yr,Ox,ZQ,Y1,aj];exact H6
   have s:BU (u.blocks.take (i+1))=BU (u.blocks.take i)++(if B.fin=3 then[B.state] else[]):=by
    rw[ak];unfold BU;rw[List.filterMap_append,List.filterMap_cons];by_cases e:B.fin=3
    ·rw[if_pos e,if_pos e];rfl
    ·rw[if_neg e,if_neg e];rfl
   have aa:lL (sX u (fG u A)++BU (u.blocks.take (i+1))) <+: Hb u A:=by
    have:KN u A=(sX u (fG u A)++BU (u.blocks.take (i+1)))++BU (u.blocks.drop (i+1)):=by
     rw[Pl,LY];congr 1
     conv=>lhs;rw[<-Zp (i+1) u.blocks]
     exact List.filterMap_append
    unfold Hb;rw[this];exact Iv _ _
   have j:(mf u A B).cond=if B.fin=2 then nm u A B.cond else B.cond:=rfl
   have d:(mf u A B).state=if B.fin=3 then(Hb u A).idxOf B.state else B.state:=rfl
   refine oF (f.ld 12 rfl rfl) (fX ?_);by_cases c2:B.fin=2
   ·rw [if_neg (show ¬B.fin=3 by omega),Jk]at s;refine gi (by show(B.fin:Int)=2;omega) ?_;refine ed (f.ld 1 rfl rfl) (ed (f.ld 0 rfl rfl) (oF (f.ld 12 rfl rfl) ?_));refine Kb f rfl (by omega) (by omega) g.sub (by rw[gl];exact e1 c2) λr q q1 q2=>⟨iZ _,ed q1 (ed q2 (ed pf ⟨f.ld 1 rfl rfl,?_⟩))⟩
    obtain⟨L,e4,n4,z,s4⟩:=f.st 12 (o:=2) (u:= .I (BS ns az B.cond:Nat)) rfl (by simp[kI]) rfl;have M:gI 1 (.ptr lx (0+2)) (.I (BS ns az B.cond:Nat)) J=some (.val .undef L):=by rw[zj];exact e4
    rw [show({B with ef:=(B.ef.filter (stays A)).map (fG u A).idxOf}:Bk).cond=B.cond from rfl,M,ei];simp only[je,mA]at z;have hq:(kI {B with ef:=(B.ef.filter (stays A)).map (fG u A).idxOf} bv w bp).set 2 (.I (BS ns az B.cond:Nat))=kI (mf u A B) bv w bp:=by
     unfold kI;rw[j,d,if_pos c2,if_neg (by omega),ai _ (e1 c2)];rfl
    rw[hq]at z;exact⟨n4,K L S c a G4 s4 (by rw[s];exact Y) z⟩
   ·refine fU (by show ¬(B.fin:Int)=2;omega) (fX ?_);by_cases c3:B.fin=3
    ·refine gi (by show(B.fin:Int)=3;omega) (oF (f.ld 12 rfl rfl) ?_);show cP CS fR [.I B.state,.ptr lb 0,.ptr l3 0,.ptr l1 0,.ptr lr 0] J _;obtain⟨sl,D⟩:∃sl,ss[B.state]? =some sl:=⟨_,gW (by have:=e2 c3;omega)⟩
     have an:u.eh[B.state]? =some (sl.map Prod.fst):=by rw[<-R,CH,D];rfl
     obtain⟨q1,q2⟩:=g.st _ _ an;rw[DL]at q1;refine Pq f Y (by omega) (by omega) g.sub D (by have:=g.ns;omega) q1 (λy hy=>?_) λL ao S4 ab ac s4 ae z=>?_
     ·obtain⟨r1,r2,r3,r4⟩:=q2 y.1 (wBp hy);rw[gl];exact⟨r1,r2,r3,r4⟩
     rw[if_pos c3]at s;have ap:Wx (lL (sX u (fG u A)++BU (u.blocks.take i))) B.state=lL (sX u (fG u A)++BU (u.blocks.take (i+1))):=by rw[s,<-LY,yS];rfl
     rw [ap]at ae⊢;have ag:B.state∈lL (sX u (fG u A)++BU (u.blocks.take (i+1))):=(uw _ _).2 (by rw[s];simp);have aq:(lL (sX u (fG u A)++BU (u.blocks.take (i+1)))).idxOf B.state=(mf u A B).state:=by
      rw[<-Ny aa ag,d,if_pos c3]
     rw[aq];obtain⟨h5,e5,_,P,s5⟩:=z.st 12 (o:=5) (u:= .I ((mf u A B).state:Nat)) rfl (by simp[kI]) rfl;refine ed pf ?_;have N:gI 1 (.ptr lx (0+5)) (.I ((mf u A B).state:Nat)) L=some (.val .undef h5):=by rw[zj];exact e5
     rw [N,ei];simp only[je,mA]at P;have hq:(kI {B with ef:=(B.ef.filter (stays A)).map (fG u A).idxOf} bv w bp).set 5 (.I ((mf u A B).state:Nat))=kI (mf u A B) bv w bp:=by
      unfold kI;rw[j,if_neg c2];rfl
     rw[hq]at P;exact K h5 S4 ao ab ac (s4.trans s5) ae P
    ·refine fU (by show ¬(B.fin:Int)=3;omega) (K J S c a G4 (Sn.refl _ _) ?_ ?_)
     ·rw[s,if_neg c3,Jk];exact Y
     ·have:kI (mf u A B) bv w bp=kI {B with ef:=(B.ef.filter (stays A)).map (fG u A).idxOf} bv w bp:=by
       unfold kI;rw[j,d,if_neg c2,if_neg c3];rfl
      rw[this];exact f
  ·refine iJ ?_;obtain rfl:i=bs.length:=by omega
   refine ed (E.zb 10 rfl rfl) ?_;obtain⟨J,e2,_,f,s2⟩:=E.Zx 18 (ws:=[.I u.func,.I u.pc,IN,b,G4]) (n:=5) rfl rfl rfl (by simp only[ey,E.one 16 rfl,E.one 17 rfl,E.one 11 rfl];rfl);rw[e2,ei];simp only[je,mA]at f;refine ed (f.zb 18 rfl rfl) ?_;rw[X,JC]at Y;rw[X]at f;exact H J S c a b G4 (s1.trans s2) Y f
 ·rw[hI];exact⟨0,S,fl,a,.ee,G4,rfl,by omega,Sn.refl _ _,by rw[wB7];show StS _ _ (lL (_++[])) _ _ _;rw[Jk];exact U,H0⟩
end
open Un Dm
section
variable{F F':Nat->Prop}{h h':Hp}{cs ds:List Pc}{Q:ft}{u:U}{wv wb ws kG:V}{lt Tt:Nat}{az:List Int}{xs:List (Vl×V)}{bs:List (Bk×V)}{fa fn:Nat->Option (List Nat×V)}{ss:List (List (Fm×V×V))}{fl:KF->Option (List Nat×V)}
theorem ej.RM(H:ej F h cs)(n:Nat):∃G,ej G h (cs.drop n)/\Sn F h G h/\∀(i:Nat)(c:Pc),i<n->cs[i]? =some c->∀l,c.ma l->G l:=by
 have g:∀{i:Nat} {c:Pc},(cs.take n)[i]? =some c->i<n/\cs[i]? =some c:=by grind
 refine⟨λl=>F l\/L2 (cs.take n) l,⟨λl a=>a.elim (H.fl l) λ⟨i,c,hc,e⟩=>(c.Oa (H.ok i c (g hc).2) l e).1,λi c hc=>?_,λi j c d hc b m=>?_⟩,⟨iZ _,by simp_all,by simp_all⟩,λi c hi hc l a=> .inr ⟨i,c,by rw[wBY hi];exact hc,a⟩⟩
 ·rw[wBW]at hc;refine c.mono (H.ok _ c hc) (by simp_all) λl a f=>?_;rcases f with f|⟨j,d,b,e⟩
  ·exact(c.Oa (H.ok _ c hc) l a).2 f
  ·obtain⟨o,k⟩:=g b;exact H.E2 (n+i) j c d hc k (by omega) l a e
 ·rw[wBW]at hc b;exact H.E2 (n+i) (n+j) c d hc b (by omega)
section
variable{G:Nat->Prop}
theorem iy.ofRow{α β:Type}{E:p8 α} {E':p8 β}(H:ej F h cs)(i:Nat){ty:Nat}{xs:List α}{ys:List β}{v:V}(hi:cs[i]? =some (eJ E ty xs v))(j:∀l,F l->G l)(m:∀l,Loc v l->G l)(f:E'.sz=E.sz)(g:ys.length=xs.length)(b:∀(k:Nat) x y cs,xs[k]? =some x->ys[k]? =some y->E.rel F h x cs->E'.rel G h y cs):iy E' G h ys v:=by
 have c:=(jP.1 hi).1;exact((H.Wh (E':=E.fix F h) i hi rfl rfl λk x y cs d a b=>by rw[d]at a;cases a;exact b).row i (O9 c)).read.Wh f (by grind) g λk x y cs d a e=>b k x y cs d a e
theorem Lz(H:ej F h cs)(j:Nat){ι:Type}{ty:Nat}{f:ι->Option (List Nat×V)}(a:cs[j]? =some (fS ty f))(b:∀l,F l->G l)(c:∀l,(fS ty f).ma l->G l){i:ι}{xs:List Nat}{v:V}(hi:f i=some (xs,v)):iy eN G h xs v:=
 (H.rows j a hi).slR b λl d=>c l ⟨i,xs,v,hi,d⟩
end
theorem St(g:zU u az)(hc:ZG u.ef xs fa)(t:Xs u.blocks bs fn)(m:CpS u.eh ss fl)
  (H0:ej F h (eJ yA gL xs wv::eJ vS fI bs wb::fS eo fa::fS eo fn::eJ eZ eo az kG::ev lt Tt [.I u.func,.I u.pc,wv,wb,ws,kG]::eJ (eL QX) lX ss ws::fS eo fl::cs))
  (H:∀F' h' vv vb vs,Sn F h F' h'->ej F' h' (eJ eV gL (ic u (mX az)).ef vv::eJ eK fI (ic u (mX az)).blocks vb::cs)->iy (eL eF) F' h' (ic u (mX az)).eh vs->Q (.agg (uC (ic u (mX az)) vv vb vs)) h') :
  cP CS kT [.ptr lt 0] h Q:=by
 refine RQ g hc t H0 λF1 h1 l1 T1 l2 l3 l4 T4 lm lb Tb lr Tr num ns ab ac s1 P A e H1=>?_;refine zev g hc m A e H1 λh2 ae S2 ag Z IN G4 s2 hN H2=>?_;have C:=hN.st;rw[JC]at C;refine zeB g t m.fst P A e C H2 λR S3 ah aa S D s3 O q=>?_;have Hp:=q.perm [0,1,2,3,4,5,6,7,8,9,10,11,12,13,14,15,18,19,16,17] 20 (by decide) (by decide) (by simp);obtain⟨G,H4,s4,E⟩:=Hp.RM 18;have r:∀l,F1 l->G l:=λl hl=>s4.mono l hl;have H5:=H4.Wh 0 (E':=eV) (ys:=(ic u (mX az)).ef) rfl rfl (by simp[ic]) λk x y ws c b i=>by
  rw[CH]at c;have b:((fG u (mX az)).map λn=>ie u (mX az) (u.ef.getD n zaI))[k]? =some y:=b;rw[CH]at b
  cases hk:(fG u (mX az))[k]? with
  |none=>simp_all
  | some n=>
    rw[hk]at c b;cases c;cases b;obtain⟨rfl,_⟩:=i;have T:=GZ g.jE (Dh hk);obtain⟨⟨x,w⟩,o⟩:∃y,xs[n]? =some y:=⟨_,gW (by rw[<-DL (f:=Prod.fst),hc.fst];exact T)⟩
    have I:u.ef[n]? =some x:=by rw[<-hc.fst,CH,o];rfl
    have U:ZM u (mX az) xs n=(ie u (mX az) x,w):=by unfold ZM wV;rw[o,DY,I];rfl
    have J:=hN.row n x w o;rw[JC,if_pos (Dh hk)]at J;have V:u.ef.getD n zaI=x:=by rw[DY,I];rfl
    show eV.rel G R (ie u (mX az) (u.ef.getD n zaI)) _;rw[U,V];exact⟨w,rfl,Lz q 14 rfl r (E 14 _ (by decide) rfl) J⟩
 have H6:=H5.Wh 1 (E':=eK) (ys:=(ic u (mX az)).blocks) rfl rfl (by simp[ic]) λk x y ws c b i=>by
  rw[CH]at c;have b:(u.blocks.map (mf u (mX az)))[k]? =some y:=b;rw[CH]at b
  cases hB:u.blocks[k]? with
  |none=>simp_all
  | some B=>
    rw[hB]at b;cases b;have K:=(jP.1 hB).1;rw[List.getElem?_range K]at c;cases c;obtain⟨⟨B',w⟩,p⟩:∃y,bs[k]? =some y:=⟨_,gW (by rw[<-DL (f:=Prod.fst),t.fst];exact K)⟩
    have L:u.blocks[k]? =some B':=by rw[<-t.fst,CH,p];rfl
    rw[hB]at L;cases L;have W:kOf u (mX az) bs k=(mf u (mX az) B,w):=by unfold kOf Px;rw[p,DY,hB];rfl
    rw[W]at i;obtain⟨bv,bp,rfl,iv,ip,_⟩:=i;exact⟨bv,w,bp,rfl,iv,Lz q 15 rfl r (E 15 _ (by decide) rfl) (t.row k B w p),ip⟩
 refine H G R IN S D (((s1.trans s2).trans s3).trans s4) H6 ?_;refine iy.ofRow q 11 rfl r (E 11 _ (by decide) rfl) rfl (by simp[ic,O.out]) λk x y ws c b i=>?_;rw[O.out,CH]at c;have b:((Hb u (mX az)).map λs=>(u.eh.getD s []).map (We u (mX az)))[k]? =some y:=b;rw[CH]at b
 cases hk:(Hb u (mX az))[k]? with
 |none=>simp_all
 | some s=>
   rw[hk]at c b;cases c;cases b;have M:=Dh hk;have ng:=O.lt s M;obtain⟨l,d⟩:∃l,ss[s]? =some l:=by simp_all
   have N:u.eh[s]? =some (l.map Prod.fst):=by rw[<-m.fst,CH,d];rfl
   have g1:ss.getD s []=l:=by rw[DY,d];rfl
   have g2:u.eh.getD s []=l.map Prod.fst:=by rw[DY,N];rfl
   show(eL eF).rel G R ((u.eh.getD s []).map (We u (mX az))) ws;rw[g2];obtain⟨f,rfl,X⟩:=i;dsimp only at X;rw[g1]at X;refine⟨f,rfl,X.Wh rfl r (by simp) λj z y cs hz b i=>?_⟩;rw[List.map_map,CH,hz]at b;cases b;obtain⟨z,a,w⟩:=z;obtain⟨rfl,_,_⟩:=i;obtain⟨r1,Y⟩:=O.rows s l j z a w d hz;rw[if_pos M]at r1 Y;obtain⟨_,q2⟩:=g.st s _ N;obtain⟨_,_,q3,q4⟩:=q2 z (by grind);rw[Xv λv hv=>Qw g e (q3 v hv)]at r1;rw[Xv λv hv=>Qw g e (q4 v hv)]at Y;exact⟨a,w,rfl,Lz q 5 rfl r (E 5 _ (by decide) rfl) r1,Lz q 5 rfl r (E 5 _ (by decide) rfl) Y⟩
end
section
variable{F:Nat->Prop}{h:Hp}{cs:List Pc}{u:U}{wv wb ws:V}{xs:List (Vl×V)}{bs:List (Bk×V)}{ss:List (List (Fm×V×V))}{fa fn:Nat->Option (List Nat×V)}{fl:KF->Option (List Nat×V)}
end
open Un Dm
section
variable{F F':Nat->Prop}{h h':Hp}{cs ds:List Pc}{Q:ft}{u:U}{vv vb vs kG:V}{az:List Int}
theorem RJ(g:RC u)(B:G8 u)(m:az.length=u.ef.length)(C:∀kp u' lO seen post,HS u.blocks.length (next u) seen post []->kp=(λb=>post.reverse.contains b)->Cut u kp u'->LM u kp az lO->zU u' lO)
  (r:ej F h (eJ eZ eo az kG::cs)) (s:DA F h u vv vb vs)
  (H:∀F' h' kp u' lO seen post wv wb ws,Sn F h F' h'->ej F' h' (eJ eV gL (ic u' (mX lO)).ef wv::eJ eK fI (ic u' (mX lO)).blocks wb::cs)->HS u.blocks.length (next u) seen post []->kp=(λb=>post.reverse.contains b)->Cut u kp u'->LM u kp az lO->iy (eL eF) F' h' (ic u' (mX lO)).eh ws->Q (.agg (uC (ic u' (mX lO)) wv wb ws)) h') :
  cP CS yp [.agg (uC u vv vb vs),kG] h Q:=by
 refine TT rfl rfl ?_;unfold M8;refine ml r s.one λD E v=>AU E λh2 w x=>?_;generalize h.next=l1 at*;generalize D.next=l2 at*;have u2:=(s.since v).since x;refine ed (w.zb 1 rfl rfl) ?_;refine UW g w u2 λF3 I wv wb ws xs bs ss fa fn fl J hc K hs e=>?_;have hp:fV [.I 0,.I 0,.ee,.ee,.ee,.ee] [(0,5),(5,1)] [(0,V.agg (uC u wv wb ws)),(1,kG)]=some (V.agg [.I u.func,.I u.pc,wv,wb,ws,kG]):=by
  rcases r.row 0 rfl with⟨rfl,_⟩|⟨t,L,rfl,_⟩ <;> rfl
 refine ed hp ?_;refine ml e (by simp only[ey,e.one 0 rfl,e.one 1 rfl,e.one 2 rfl,e.one 8 rfl];rfl) λh4 M s4=>?_;generalize I.next=lt at*;have N:=M.perm [1,2,4,5,9,0,3,6,7,8] 10 (by decide) (by decide) (by simp);refine Wa B hc K m (e.one 2 rfl) N λF6 h6 seen post kp u' O P R S lO T U G f a o p i y=>?_;have gn:=C kp u' lO seen post G f a i;have W:=a.func;have X:=a.pc;rw[<-W,<-X]at y;refine St gn o p (by rw[a.eh];exact hs) y λz Y c d j Z k l=>?_;have k:ej z Y (eJ eV gL (ic u' (mX lO)).ef c::eJ eK fI (ic u' (mX lO)).blocks d::ev l2 hV _::ev l1 hV _::cs):=k;obtain⟨h8,e8,_,q,A⟩:=k.Zx 2 (ws:=uC (ic u' (mX lO)) c d j) (n:=5) rfl rfl rfl (by simp only[uC,ey,k.one 0 rfl,k.one 1 rfl,l.one];rfl);rw[e8,ei];simp only[je,mA]at q;refine ed (q.zb 2 rfl rfl) ?_;have H9:=q.perm [2,3,0,1] 4 (by decide) (by decide) (by simp);exact H z h8 kp u' lO seen post c d j ((((((v.trans x).trans J).trans s4).trans U).trans Z).trans A) H9.tail.tail G f a i (l.since A)
theorem Zr(g:RC u)(j:G8 u)(c:az.length=u.ef.length)(k:∀kp u' lO seen post,HS u.blocks.length (next u) seen post []->kp=(λb=>post.reverse.contains b)->Cut u kp u'->LM u kp az lO->zU u' lO)
  (l:ej F h (eJ eZ eo az kG::cs)) (m:DA F h u vv vb vs)
  (H:∀F' h' kp u' lO seen post wv wb ws,Sn F h F' h'->ej F' h' cs->HS u.blocks.length (next u) seen post []->kp=(λb=>post.reverse.contains b)->Cut u kp u'->LM u kp az lO->DA F' h' (ic u' (mX lO)) wv wb ws->Q (.agg (uC (ic u' (mX lO)) wv wb ws)) h') :
  cP CS yp [.agg (uC u vv vb vs),kG] h Q:=
 RJ g j c k l m λF' h' kp u' lO seen post wv wb ws n o G d a e r1=>by
  obtain⟨p,i,q⟩:=o.jI 0 rfl;obtain⟨r,f,r3⟩:=p.jI 1 rfl;exact H _ h' kp u' lO seen post wv wb ws ((n.trans i).trans f) r.tail.tail G d a e ⟨q.since f,r3,(r1.since i).since f⟩
theorem QA{n:Nat}{nx:Nat->List Nat}{seen:List Bool}{post:List Nat}(G:HS n nx seen post []):∀{b:Nat}{l:List Nat},Pt nx b l->b∈post
 | _,_,.nil=>by
   obtain⟨p,hp⟩:=G.last rfl
   simp_all
 | _,_,.step h e=>by
   rcases(G.iff _).1 (G.closed _ (QA G h) _ e)with a|a
   ·exact a
   simp_all
theorem PM(g:Good u)(e:AN u):G8 u:=⟨Kl g,g.nv,g.Ju,g.jE,λb B a=>⟨Et g a,λp hp=>by
 rw[g.eQ b B a]at hp;obtain⟨q,i,c,_,d⟩:=uF.1 hp
 grind⟩,λv b k x B c f d h=>(g.CJ v b k x B c f d h).2,e⟩
theorem Qt{P:Nat->Prop}(g:Gd u P)(n:AN u)(j:az.length=u.ef.length)(d:∀(v:Nat)(a:Int),az[v]? =some a->a<az.length):zU u az where
 nv:=g.nv
 nb:=g.nb
 ns:=g.ns
 once:=g.Ju
 jE:=g.jE
 len:=j
 sub:=d
 parts v x hx:=by
  have c:∀w∈iH x,w<u.ef.length:=λw o=>AK (g.use v x hx w o);unfold iH at c;refine⟨n v x hx,?_⟩;by_cases e:x.op=21
  ·rw[if_pos e]at c;have p:two x.op=false:=by rw[e];rfl
   have q:na x.op=false:=by rw[e];rfl
   exact⟨by simp_all,by simp_all,λ_=>c,g.leave v x hx⟩
  ·rw [if_neg e]at c;by_cases c2:x.op=20
   ·rw[if_pos c2]at c;have i:=g.putAt v x hx c2;rw[ZU (by omega)]at c;exact⟨by simp_all,by simp_all,by simp_all,g.leave v x hx⟩
   ·rw [if_neg c2]at c;refine⟨λh=>?_,λh=>?_,by omega,g.leave v x hx⟩
    ·by_cases r:two x.op=true
     ·simp_all
     simp_all
    simp_all
 ends b B hB:=by
  rcases g.fin b B hB with⟨i,_⟩|⟨i,_,k⟩|⟨i,_,k⟩
  ·omega
  ·grind[AK]
  omega
 st s fs hfs:=by
  obtain⟨i,k⟩:=ES g s fs hfs;refine⟨by omega,λf l=>?_⟩;obtain⟨t,y⟩:=k f l;have m:=Pg g hfs;refine⟨by omega,by omega,λv hv=>m v ?_,λv hv=>m v ?_⟩
  ·exact Xq.2 ⟨f,l,Xu _ hv⟩
  ·exact Xq.2 ⟨f,l,List.mem_append_right _ hv⟩
end
