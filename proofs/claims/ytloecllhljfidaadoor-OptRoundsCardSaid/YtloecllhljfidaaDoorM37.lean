/- Parts. -/
import Derived.Test.YtloecllhljfidaaDoorM30
set_option maxHeartbeats 4000000
namespace Go.Proofs.YtloecllhljfidaaDoor.Hx
open Un Dm
def ZS:Vl:=⟨0,0,0,0,[],0⟩
def wV(xs:List (Vl×V))(n:Nat):V:=match xs[n]? with
 |some x=>x.2
 |none=> .undef
def Ye(u:U)(A:Nat->Int)(xs:List (Vl×V))(n:Nat):Vl×V:=(gW u A (u.ef.getD n ZS),wV xs n)
section
variable{F F':Nat->Prop}{h h':Hp}{cs ds:List Pc}{Q:fq}{u:U}{wv wb ws iQ num:V}{lt Tt l1 T1 l2 l3 l4 T4 lm lb Tb lr Tr:Nat}{az:List Int}{ns:List Nat}{xs:List (Vl×V)}{bs:List (Bk×V)}{fa fn:Nat->Option (List Nat×V)}{ss:List (List (Fm×V×V))}{fl:KF->Option (List Nat×V)}
theorem ON(g:xR u az)(a:∀v,v<u.ef.length->ns[v]? =some (if v∈fu u (iL az) then(fu u (iL az)).idxOf v else 0)){v:Nat}(hv:v<u.ef.length):zI ns az v=nm u (iL az) v:=by
 have b:=Q8 («as»:=iL az) (n:=u.ef.length) (λw d=>by
  have c:=g0 (show w<az.length by rw[g.len];exact d);have e:=g.sub w _ c;rw[CX c];have:=g.len;omega) (u.ef.length+1) v hv
 unfold zI nm;rw[g.len,CM,a _ b];rfl
structure NV (u:U) (az:List Int) (ns:List Nat) (xs:List (Vl×V)) (ss:List (List (Fm×V×V))) (i:Nat) (fa:Nat->Option (List Nat×V)) (S:Int->Option V) (fl:KF->Option (List Nat×V)) (a:List (List (Fm×V×V))):Prop where
 row:∀v x w,xs[v]? =some (x,w)->fa v=some (if v∈(fu u (iL az)).take i then(gW u (iL az) x).args else x.args,w)
 st:Y5 ss (zI ns az) (kZ (qt u ((fu u (iL az)).take i))) S fl a
theorem zbP(g:xR u az)(hc:VZ u.ef xs fa)(X:ZC u.eh ss fl){j:V}(aC:ns.length=u.ef.length)(aD:∀v,v<u.ef.length->ns[v]? =some (if v∈fu u (iL az) then(fu u (iL az)).idxOf v else 0))
  (H0:ej F h (Nx l1 T1 l4 T4 lt Tt num ns [.I u.func,.I u.pc,wv,wb,ws] iQ az (Sx fl ss ws lm (λ_=>none) lb Tb lr Tr l4 l1 l3 fT (.I u.func) (.I u.pc) .ee .ee .ee []
    (ev vE gi xs wv::ev ta fo bs wb::fH en fa::fH en fn::ev vE gi [] .ee::ev ta fo [] .ee::er l2 fT [.I 0,.I 0,.ee,.ee,.ee]::ev eN en (fu u (iL az)) j::cs))))
  (H:∀h' m S p t FE Ej,Sn F h F h'->NV u az ns xs ss (fu u (iL az)).length m S p t->
   ej F h' (Nx l1 T1 l4 T4 lt Tt num ns [.I u.func,.I u.pc,wv,wb,ws] iQ az (Sx p ss ws lm S lb Tb lr Tr l4 l1 l3 fT (.I u.func) (.I u.pc) FE .ee Ej t
    (ev vE gi xs wv::ev ta fo bs wb::fH en m::fH en fn::ev vE gi ((fu u (iL az)).map (Ye u (iL az) xs)) FE::ev ta fo [] .ee::er l2 fT [.I 0,.I 0,.ee,.ee,.ee]::ev eN en (fu u (iL az)) j::cs)))->
   kR CS Q [.ptr l1 0,.ptr l2 0,.ptr l3 0,.ptr l4 0,.func fE [] [.ptr lb 0,.ptr l3 0,.ptr l1 0,.ptr lr 0],wb,.I bs.length,.I 0] h') :
  kM CS Q [.ptr l1 0,.ptr l2 0,.ptr l3 0,.ptr l4 0,.ptr lr 0,.func fE [] [.ptr lb 0,.ptr l3 0,.ptr l1 0,.ptr lr 0],j,.I ((fu u (iL az)).length:Nat),.I 0] h:=by
 have nv:=g.nv;have gl:=g.len;have aE:xs.length=u.ef.length:=by rw[<-hc.fst,B5]
 have lss:ss.length=u.eh.length:=by rw[<-X.fst,B5]
 obtain⟨A,hA⟩:∃A,iL az=A:=⟨_,rfl⟩
 have aF:∀v,v<u.ef.length->zI ns az v=nm u A v:=by grind[ON]
 have ar:=xO («as»:=A) g.once;have aG:(fu u A).length<=u.ef.length:=jr _ _ ar λv hv=>EF g.jz hv
 obtain ⟨I,hI⟩:∃I:Nat->LP,I=λk l h'=>∃(i:Nat) (m:Nat->Option (List Nat×V)) (S:Int->Option V) (p:KF->Option (List Nat×V)) (t:List (List (Fm×V×V))) (FE Ej:V),l=[.ptr l1 0,.ptr l2 0,.ptr l3 0,.ptr l4 0,.ptr lr 0,.func fE [] [.ptr lb 0,.ptr l3 0,.ptr l1 0,.ptr lr 0],j,.I ((fu u A).length:Nat),.I i]/\i+k=(fu u A).length/\Sn F h F h'/\NV u az ns xs ss i m S p t/\
   ej F h' (Nx l1 T1 l4 T4 lt Tt num ns [.I u.func,.I u.pc,wv,wb,ws] iQ az (Sx p ss ws lm S lb Tb lr Tr l4 l1 l3 fT (.I u.func) (.I u.pc) FE .ee Ej t
    (ev vE gi xs wv::ev ta fo bs wb::fH en m::fH en fn::ev vE gi (((fu u A).take i).map (Ye u A xs)) FE::ev ta fo [] .ee::er l2 fT [.I 0,.I 0,.ee,.ee,.ee]::ev eN en (fu u A) j::cs))):=⟨_,rfl⟩
 rw[hA]at H0 H⊢;refine zU I (λk x1 x2 x3 x4 aH aI aJ aK aL h1 hi=>?_) (k:=(fu u A).length) ?_
 ·rw [hI]at hi;obtain⟨i,m,S,p,t,FE,Ej,⟨⟩,hk,s1,hN,N⟩:=hi;unfold qT;by_cases hi:i<(fu u A).length
  ·refine gR ?_;have hx:=g0 hi;have Y:=xV hx;have aM:=EF g.jz (EA hi);have au:(fu u A)[i] ∉ (fu u A).take i:=by grind[mr,jk,JT,wBZ,oG]
   generalize (fu u A)[i]=n at*;obtain⟨⟨x,w⟩,O⟩:∃y,xs[n]? =some y:=by simp_all
   have Z:u.ef[n]? =some x:=by rw[<-hc.fst,xk,O];rfl
   have aw:Ye u A xs n=(gW u A x,w):=by unfold Ye wV;rw[O,CM,Z];rfl
   obtain ⟨p1,p2,p3,p4,p5⟩:=g.parts n x Z;obtain⟨la,oa,y1,y2⟩:=N.Ia 19 rfl hx .i64;obtain⟨lv,ov,wl,z1,z2,⟨rfl,w1⟩,_⟩:=N.WG 12 rfl O .i64;have z1:hV 6 wv (.I n)=some (.ptr lv ov):=z1;refine ed y1 (ed y2 (ed (N.ld 0 rfl rfl) (ed pn (ed pf (oF (N.ld 2 rfl rfl) (ed z1 (ed z2 ?_)))))));refine gQ N rfl rfl (by simp only[lW,eo];simp only[show w.one=true from w1];rfl) λh2 L s2=>?_;generalize h1.next=lx at*;have L:ej F h2 (Nx l1 T1 l4 T4 lt Tt num ns [.I u.func,.I u.pc,wv,wb,ws] iQ az (Sx p ss ws lm S lb Tb lr Tr l4 l1 l3 fT (.I u.func) (.I u.pc) FE .ee Ej t (er lx 40 (lW x w)::_))):=L.FQ 12 (by simp);have ab:∀d:Nat->Option (List Nat×V),(∀v,v≠n->d v=m v)->d n=some ((gW u A x).args,w)->∀v y b,xs[v]? =some (y,b)->d v=some (if v∈(fu u A).take (i+1) then(gW u A y).args else y.args,b):=λd h1 h2 v y b hv=>by
    rw[Y];by_cases e:v=n
    ·simp_all
    ·rw[h1 v e];have:=hN.row v y b hv
     simp_all
   have ac:m n=some (x.args,w):=by
    have:=hN.row n x w O;rw[hA,if_neg au]at this;exact this
   have ae:=hN.st;rw[hA]at ae
   have ag:∀f d S2 P C G,Sn F h F f->(∀v,v≠n->d v=m v)->d n=some ((gW u A x).args,w)->Y5 ss (zI ns az) (kZ (qt u ((fu u A).take (i+1)))) S2 P C->
     ej F f (Nx l1 T1 l4 T4 lt Tt num ns [.I u.func,.I u.pc,wv,wb,ws] iQ az (Sx P ss ws lm S2 lb Tb lr Tr l4 l1 l3 fT (.I u.func) (.I u.pc) FE .ee G C
      (er lx 40 (lW (gW u A x) w)::ev vE gi xs wv::ev ta fo bs wb::fH en d::fH en fn::ev vE gi (((fu u A).take i).map (Ye u A xs)) FE::ev ta fo [] .ee::er l2 fT [.I 0,.I 0,.ee,.ee,.ee]::ev eN en (fu u A) j::cs)))->
     j8 CS Q (A4 I k) [.ptr l1 0,.ptr l2 0,.ptr l3 0,.ptr l4 0,.ptr lr 0,.func fE [] [.ptr lb 0,.ptr l3 0,.ptr l1 0,.ptr lr 0],.ptr lx 0,j,.I ((fu u A).length:Nat),.I i] f:=by
    intro f d S2 P C G M R T hS z;refine zf ?_;unfold qD;refine oF (z.ld 10 rfl rfl) (ed (z.oL 12 rfl rfl) ?_);rw[ng (sz:=6) (w:=lW (gW u A x) w) rfl rfl (by simp only[lW,eo];simp only[show w.one=true from w1];rfl),fF];obtain⟨D,E,e4,_,B,U⟩:=z.uI 17 rfl (kj:=64) (B2:=40) (y:=(gW u A x,w)) (w:=lW (gW u A x) w) (ro:=false) ⟨rfl,w1⟩ (by decide) (by decide) (by simp;omega);have J:eR 40 6 64 FE (.slice f.next 0 1) (f.new (.cells 40 6 true false (lW (gW u A x) w)))=some (.val D E):=e4;rw[J,ei];simp only[jx,lU]at B;obtain⟨h5,e5,_,H5,s5⟩:=B.st 10 (o:=2) (u:=D) rfl (by simp) (B.one 17 rfl);refine ed pf ?_;have aa:gh 1 (.ptr l3 (0+2)) D E=some (.val .undef h5):=by rw[wO];exact e5
    rw[aa,ei];simp only[jx,lU]at H5;refine fS ⟨k-1,by omega,?_⟩;rw[hI];refine⟨i+1,d,S2,P,C,D,G,rfl,by omega,(M.trans U).trans s5,⟨λv y b hv=>by rw[hA];exact ab d R T v y b hv,by simp_all⟩,?_⟩;have H6:=H5.AY 12 (by simp);rw[Y,MA,Yb,W7,aw];exact H6
   have ah:qt u ((fu u A).take (i+1))=qt u ((fu u A).take i)++(if leaves x.op=true then[x.state] else[]):=by
    rw[Y];unfold qt;rw[List.filterMap_append,List.filterMap_cons];simp only[Z];by_cases e:leaves x.op=true
    ·grind
    ·grind
   have ai:kZ (qt u ((fu u A).take (i+1))) <+: El u A:=by
    have:IQ u A=qt u ((fu u A).take (i+1))++(qt u ((fu u A).drop (i+1))++zH u.blocks):=by
     rw[MI,<-Mb];congr 1
     conv=>lhs;rw[<-VY (i+1) (fu u A)]
     exact List.filterMap_append
    unfold El;rw[this];exact Fu _ _
   have OE:∀f d,Sn F h F f->(∀v,v≠n->d v=m v)->d n=some ((gW u A x).args,w)->
     ej F f (Nx l1 T1 l4 T4 lt Tt num ns [.I u.func,.I u.pc,wv,wb,ws] iQ az (Sx p ss ws lm S lb Tb lr Tr l4 l1 l3 fT (.I u.func) (.I u.pc) FE .ee Ej t
      (er lx 40 (lW {x with a:=(gW u A x).a,b:=(gW u A x).b} w)::ev vE gi xs wv::ev ta fo bs wb::fH en d::fH en fn::ev vE gi (((fu u A).take i).map (Ye u A xs)) FE::ev ta fo [] .ee::er l2 fT [.I 0,.I 0,.ee,.ee,.ee]::ev eN en (fu u A) j::cs)))->
     j7 CS Q (A4 I k) [.ptr l1 0,.ptr l2 0,.ptr l3 0,.ptr l4 0,.ptr lr 0,.func fE [] [.ptr lb 0,.ptr l3 0,.ptr l1 0,.ptr lr 0],.ptr lx 0,j,.I ((fu u A).length:Nat),.I i] f:=by
    intro f d M R T z;refine zb ?_;unfold qo;refine oF (z.ld 12 rfl rfl) (Ek (jF ?_));by_cases hlv:leaves x.op=true
    ·refine gI hlv (oF (z.ld 12 rfl rfl) ?_);show cP CS fE [.I x.state,.ptr lb 0,.ptr l3 0,.ptr l1 0,.ptr lr 0] f _;obtain⟨sl,W⟩:∃sl,ss[x.state]? =some sl:=⟨_,g0 (by have:=p5 hlv;omega)⟩
     have ax:u.eh[x.state]? =some (sl.map Prod.fst):=by rw[<-X.fst,xk,W];rfl
     obtain⟨q1,q2⟩:=g.st _ _ ax;rw[B5]at q1;refine M4 z ae (by omega) (by omega) g.sub W (by have:=g.ns;omega) q1 (λy hy=>?_) λE ay S4 aj ak U al B=>?_
     ·grind
     rw[if_pos hlv]at ah;have aA:Ve (kZ (qt u ((fu u A).take i))) x.state=kZ (qt u ((fu u A).take (i+1))):=by rw[ah,vU];rfl
     rw[aA]at al⊢;have am:x.state∈kZ (qt u ((fu u A).take (i+1))):=(by grind[rG])
     have aB:(kZ (qt u ((fu u A).take (i+1)))).idxOf x.state=(gW u A x).state:=by
      rw[<-LL ai am];show _=if leaves x.op=true then(El u A).idxOf x.state else x.state
      rw[if_pos hlv]
     rw[aB];obtain⟨h5,e5,_,H5,s5⟩:=B.st 12 (o:=5) (u:= .I ((gW u A x).state:Nat)) rfl (by simp[lW]) rfl;refine ed pf ?_;have aa:gh 1 (.ptr lx (0+5)) (.I ((gW u A x).state:Nat)) E=some (.val .undef h5):=by rw[wO];exact e5
     rw[aa,ei];simp only[jx,lU]at H5;exact ag h5 d S4 ay aj ak ((M.trans U).trans s5) R T al H5
    ·refine gv hlv (ag f d S p t Ej M R T ?_ ?_)
     ·grind
     ·have hs:(gW u A x).state=x.state:=if_neg hlv
      grind[lW,gW]
   have an:∀f,Sn F h F f->ej F f (Nx l1 T1 l4 T4 lt Tt num ns [.I u.func,.I u.pc,wv,wb,ws] iQ az (Sx p ss ws lm S lb Tb lr Tr l4 l1 l3 fT (.I u.func) (.I u.pc) FE .ee Ej t
      (er lx 40 (lW {x with a:=(gW u A x).a,b:=(gW u A x).b} w)::ev vE gi xs wv::ev ta fo bs wb::fH en m::fH en fn::ev vE gi (((fu u A).take i).map (Ye u A xs)) FE::ev ta fo [] .ee::er l2 fT [.I 0,.I 0,.ee,.ee,.ee]::ev eN en (fu u A) j::cs)))->
     j5 CS Q (A4 I k) [.ptr l1 0,.ptr l2 0,.ptr l3 0,.ptr l4 0,.ptr lr 0,.func fE [] [.ptr lb 0,.ptr l3 0,.ptr l1 0,.ptr lr 0],.ptr lx 0,j,.I ((fu u A).length:Nat),.I i] f:=by
    intro f M z;refine zk ?_;unfold qz;refine oF (z.ld 12 rfl rfl) (ju ?_);have e0:eQ (.ptr lx (0+0)) f=some (.I x.op):=z.ld 12 rfl rfl;have eq:uP (V.bool (decide ((x.op:Int)=21))) (oB (fQ 0 (.ptr lx 0)) λao=>oB (eQ ao f) λap=>eJ .eql 3 ap (V.I 20))=some (.bool (decide (x.op=21\/x.op=20))):=by
     rw[pf,fy,e0,fy,ie,pD];congr 2;by_cases c1:x.op=21
     ·grind
     ·grind
    refine ed eq (jF ?_);have K:(gW u A x).args=if x.op=21\/x.op=20 then x.args.map (nm u A) else x.args:=rfl
    by_cases c:x.op=21\/x.op=20
    ·refine gI (O7 c) (ed (z.ld 9 rfl rfl) (oF (z.ld 12 rfl rfl) ?_));show cP CS hX [w,.ptr l4 0,.ptr l1 0] f _;refine IZ 10 z rfl ac rfl (by omega) (by omega) g.sub (by grind) (by omega) λE U B=>?_;simp only[jx,lU]at B;have hm:x.args.map (zI ns az)=(gW u A x).args:=by
      rw[K,if_pos c];exact by grind[Xf]
     rw[hm]at B;exact OE E _ (M.trans U) (by grind[iI]) (jo _ _ _) B
    ·refine gv (by rw[D1];exact c) (OE f m M (λ_ _=>rfl) ?_ z);rw[K,if_neg c];exact ac
   have aq:∀f,Sn F h F f->ej F f (Nx l1 T1 l4 T4 lt Tt num ns [.I u.func,.I u.pc,wv,wb,ws] iQ az (Sx p ss ws lm S lb Tb lr Tr l4 l1 l3 fT (.I u.func) (.I u.pc) FE .ee Ej t
      (er lx 40 (lW {x with a:=(gW u A x).a} w)::ev vE gi xs wv::ev ta fo bs wb::fH en m::fH en fn::ev vE gi (((fu u A).take i).map (Ye u A xs)) FE::ev ta fo [] .ee::er l2 fT [.I 0,.I 0,.ee,.ee,.ee]::ev eN en (fu u A) j::cs)))->
     j6 CS Q (A4 I k) [.ptr l1 0,.ptr l2 0,.ptr l3 0,.ptr l4 0,.ptr lr 0,.func fE [] [.ptr lb 0,.ptr l3 0,.ptr l1 0,.ptr lr 0],.ptr lx 0,j,.I ((fu u A).length:Nat),.I i] f:=by
    intro f M z;refine zi ?_;unfold qf;refine oF (z.ld 12 rfl rfl) (K2 (Co ?_));have hb:(gW u A x).b=if two x.op=true then nm u A x.b else x.b:=rfl
    by_cases c:two x.op=true
    ·refine gI (by show(1:Int)<(mz x.op:Nat);unfold mz;grind) ?_;refine ed (z.ld 1 rfl rfl) (ed (z.ld 0 rfl rfl) (oF (z.ld 12 rfl rfl) ?_));refine GU z rfl (by omega) (by omega) g.sub (by grind) λr q e1 e2=>⟨jb _,ed e1 (ed e2 (ed pf ⟨z.ld 1 rfl rfl,?_⟩))⟩
     obtain⟨E,e4,n4,B,U⟩:=z.st 12 (o:=2) (u:= .I (zI ns az x.b:Nat)) rfl (by simp[lW]) rfl;have J:gh 1 (.ptr lx (0+2)) (.I (zI ns az x.b:Nat)) f=some (.val .undef E):=by rw[wO];exact e4
     rw[J,ei];simp only[jx,lU]at B;have hq:zI ns az x.b=(gW u A x).b:=by rw[hb,if_pos c];exact by grind
     rw[hq]at B;exact⟨n4,an E (M.trans U) B⟩
    ·refine gv (by show ¬(1:Int)<(mz x.op:Nat);unfold mz;grind) (an f M ?_)
     grind
   refine oF (L.ld 12 rfl rfl) (K2 (Co ?_));have ha:(gW u A x).a=if 0<mz x.op then nm u A x.a else x.a:=rfl
   by_cases c:0<mz x.op
   ·have c':pe x.op=true\/two x.op=true:=by
     unfold mz at c;by_cases h1:two x.op=true
     ·grind
     ·grind
    refine gI (by omega) ?_;refine ed (L.ld 1 rfl rfl) (ed (L.ld 0 rfl rfl) (oF (L.ld 12 rfl rfl) ?_));refine GU L rfl (by omega) (by omega) g.sub (by grind) λr q e1 e2=>⟨jb _,ed e1 (ed e2 (ed pf ⟨L.ld 1 rfl rfl,?_⟩))⟩
    obtain⟨E,e4,n4,B,U⟩:=L.st 12 (o:=1) (u:= .I (zI ns az x.a:Nat)) rfl (by simp[lW]) rfl;have J:gh 1 (.ptr lx (0+1)) (.I (zI ns az x.a:Nat)) h2=some (.val .undef E):=by rw[wO];exact e4
    rw[J,ei];simp only[jx,lU]at B;have hq:zI ns az x.a=(gW u A x).a:=by rw[ha,if_pos c];exact by grind
    rw[hq]at B;exact⟨n4,aq E ((s1.trans s2).trans U) B⟩
   ·refine gv (by omega) (aq h2 (s1.trans s2) ?_);have:({x with a:=(gW u A x).a}:Vl)=x:=by rw[ha,if_neg c]
    rw[this];exact L
  ·refine jf ?_;obtain rfl:i=(fu u A).length:=by omega
   rw[Hj]at N;refine ed (N.ld 0 rfl rfl) (ed pn (ed pf (oF (N.ld 2 rfl rfl) (ed (N.len 13 rfl) ?_))))
   grind
 ·rw[hI];refine⟨0,fa,λ_=>none,fl,[],.ee,.ee,rfl,by omega,Sn.refl _ _,⟨λv x w hx=>?_,λs=>rfl,rfl,λs l k x a w hs hl=>?_,List.nodup_nil,λ_ h=>by cases h⟩,H0⟩
  ·rw[hc.row v x w hx];rfl
  ·exact X.loc s l k x a w hs hl
end
open Un Dm
section
variable{F F':Nat->Prop}{h h':Hp}{cs ds:List Pc}{Q:fq}{u:U}{wv wb ws iQ num FE:V}{lt Tt l1 T1 l2 l3 l4 T4 lm lb Tb lr Tr:Nat}{az:List Int}{ns:List Nat}{xs ys:List (Vl×V)}{bs0 bs:List (Bk×V)}{fa fn:Nat->Option (List Nat×V)}{ss:List (List (Fm×V×V))}{fl:KF->Option (List Nat×V)}
def kOf(u:U)(A:Nat->Int)(bs:List (Bk×V))(b:Nat):Bk×V:=(lM u A (u.blocks.getD b Mo),N8 bs b)
theorem zca(g:xR u az)(hb:UX u.blocks bs0 fn)(U:ss.map (λl=>l.map Prod.fst)=u.eh)(W:NbB u az u.blocks.length bs0 bs){S:Int->Option V}{a:List (List (Fm×V×V))}{Ej:V}(ay:ns.length=u.ef.length)(ai:∀v,v<u.ef.length->ns[v]? =some (if v∈fu u (iL az) then(fu u (iL az)).idxOf v else 0))
  (X:Y5 ss (zI ns az) (kZ (qt u (fu u (iL az)))) S fl a)
  (H0:ej F h (Nx l1 T1 l4 T4 lt Tt num ns [.I u.func,.I u.pc,wv,wb,ws] iQ az (Sx fl ss ws lm S lb Tb lr Tr l4 l1 l3 fT (.I u.func) (.I u.pc) FE .ee Ej a
    (ev vE gi xs wv::ev ta fo bs wb::fH en fa::fH en fn::ev vE gi ys FE::ev ta fo [] .ee::er l2 fT [.I 0,.I 0,.ee,.ee,.ee]::ds))))
  (H:∀h' S c a b Ej,Sn F h F h'->Y5 ss (zI ns az) (El u (iL az)) S c a->
   ej F h' (Nx l1 T1 l4 T4 lt Tt num ns [.I u.func,.I u.pc,wv,wb,ws] iQ az (Sx c ss ws lm S lb Tb lr Tr l4 l1 l3 fT (.I u.func) (.I u.pc) FE b Ej a
    (ev vE gi xs wv::ev ta fo bs wb::fH en fa::fH en fn::ev vE gi ys FE::ev ta fo ((List.range u.blocks.length).map (kOf u (iL az) bs0)) b::er l2 fT [.I u.func,.I u.pc,FE,b,Ej]::ds)))->
   Q (.agg [.I u.func,.I u.pc,FE,b,Ej]) h') :
  kR CS Q [.ptr l1 0,.ptr l2 0,.ptr l3 0,.ptr l4 0,.func fE [] [.ptr lb 0,.ptr l3 0,.ptr l1 0,.ptr lr 0],wb,.I bs.length,.I 0] h:=by
 have nv:=g.nv;have nb:=g.nb;have gl:=g.len;have Y:bs0.length=u.blocks.length:=by rw[<-hb.fst,B5]
 have Z:bs.length=u.blocks.length:=by rw[W.len,Y]
 have lss:ss.length=u.eh.length:=by rw[<-U,B5]
 obtain⟨A,hA⟩:∃A,iL az=A:=⟨_,rfl⟩
 have aj:∀v,v<u.ef.length->zI ns az v=nm u A v:=λv hv=>by rw[<-hA];exact ON g ai hv
 rw[hA]at H X;have E:=W.row;rw[hA]at E
 obtain ⟨I,hI⟩:∃I:Nat->LP,I=λk l h'=>∃(i:Nat) (S:Int->Option V) (c:KF->Option (List Nat×V)) (a:List (List (Fm×V×V))) (b Ej:V),l=[.ptr l1 0,.ptr l2 0,.ptr l3 0,.ptr l4 0,.func fE [] [.ptr lb 0,.ptr l3 0,.ptr l1 0,.ptr lr 0],wb,.I bs.length,.I i]/\i+k=bs.length/\Sn F h F h'/\Y5 ss (zI ns az) (kZ (qt u (fu u A)++zH (u.blocks.take i))) S c a/\
   ej F h' (Nx l1 T1 l4 T4 lt Tt num ns [.I u.func,.I u.pc,wv,wb,ws] iQ az (Sx c ss ws lm S lb Tb lr Tr l4 l1 l3 fT (.I u.func) (.I u.pc) FE b Ej a
    (ev vE gi xs wv::ev ta fo bs wb::fH en fa::fH en fn::ev vE gi ys FE::ev ta fo ((List.range i).map (kOf u A bs0)) b::er l2 fT [.I 0,.I 0,.ee,.ee,.ee]::ds))):=⟨_,rfl⟩
 refine zX I (λk x1 x2 x3 x4 aA au aw ax h1 hi=>?_) (k:=bs.length) ?_
 ·rw [hI]at hi;obtain⟨i,S,c,a,b,Ej,⟨⟩,hk,s1,hN,J⟩:=hi;unfold qM;by_cases hi:i<bs.length
  ·refine gR ?_;obtain⟨⟨B,w⟩,K⟩:∃y,bs0[i]? =some y:=⟨_,g0 (by omega)⟩
   have hB:u.blocks[i]? =some B:=by rw[<-hb.fst,xk,K];rfl
   have aa:=E i B w K;rw[if_pos (by omega)]at aa;have ak:kOf u A bs0 i=(lM u A B,w):=by unfold kOf N8;rw[K,CM,hB];rfl
   have al:=xV hB;obtain⟨e1,e2⟩:=g.ends i B hB;obtain⟨lv,ov,wl,z1,z2,⟨t,x,rfl,iv,ip,w1⟩,_⟩:=J.WG 13 rfl aa .i64;have z1:hV 6 wb (.I i)=some (.ptr lv ov):=z1;refine ed z1 (ed z2 ?_);refine gQ J rfl rfl (by simp only[kS,eo,iv.one,ip.one];simp only[show w.one=true from w1];rfl) λL f s2=>?_;generalize h1.next=lx at*;have iv:=iv.since s2;have ip:=ip.since s2;have f:ej F L (Nx l1 T1 l4 T4 lt Tt num ns [.I u.func,.I u.pc,wv,wb,ws] iQ az (Sx c ss ws lm S lb Tb lr Tr l4 l1 l3 fT (.I u.func) (.I u.pc) FE b Ej a (er lx 38 (kS {B with ef:=(B.ef.filter (stays A)).map (fu u A).idxOf} t w x)::_))):=f.FQ 12 (by simp)
   have M:∀R S2 C m z,Sn F L F R->Y5 ss (zI ns az) (kZ (qt u (fu u A)++zH (u.blocks.take (i+1)))) S2 C m->
     ej F R (Nx l1 T1 l4 T4 lt Tt num ns [.I u.func,.I u.pc,wv,wb,ws] iQ az (Sx C ss ws lm S2 lb Tb lr Tr l4 l1 l3 fT (.I u.func) (.I u.pc) FE b z m
      (er lx 38 (kS (lM u A B) t w x)::ev vE gi xs wv::ev ta fo bs wb::fH en fa::fH en fn::ev vE gi ys FE::ev ta fo ((List.range i).map (kOf u A bs0)) b::er l2 fT [.I 0,.I 0,.ee,.ee,.ee]::ds)))->
     ji CS Q (A4 I k) [.ptr l1 0,.ptr l2 0,.ptr l3 0,.ptr l4 0,.func fE [] [.ptr lb 0,.ptr l3 0,.ptr l1 0,.ptr lr 0],.ptr lx 0,wb,.I bs.length,.I i] R:=by
    intro R S2 C m z s3 hS H3;have am:=iv.since s3;have an:=ip.since s3;refine zd ?_;unfold qq;refine oF (H3.ld 10 rfl rfl) (ed (H3.oL 12 rfl rfl) ?_);rw[ng (sz:=6) (w:=kS (lM u A B) t w x) rfl rfl (by simp only[kS,eo,iv.one,ip.one];simp only[show w.one=true from w1];rfl),fF];obtain⟨p,N,e4,_,D,s4⟩:=H3.uI 18 rfl (kj:=96) (B2:=38) (y:=(lM u A B,w)) (w:=kS (lM u A B) t w x) (ro:=false) ⟨t,x,rfl,am,an,w1⟩ (by decide) (by decide) (by simp;omega);have O:eR 38 6 96 b (.slice R.next 0 1) (R.new (.cells 38 6 true false (kS (lM u A B) t w x)))=some (.val p N):=e4;rw[O,ei];simp only[jx,lU]at D;obtain⟨h5,e5,_,T,s5⟩:=D.st 10 (o:=3) (u:=p) rfl (by simp) (D.one 18 rfl);refine ed pf ?_;have P:gh 1 (.ptr l3 (0+3)) p N=some (.val .undef h5):=by rw[wO];exact e5
    rw[P,ei];simp only[jx,lU]at T;refine fS ⟨k-1,by omega,?_⟩;rw[hI];refine⟨i+1,S2,C,m,p,z,rfl,by omega,(((s1.trans s2).trans s3).trans s4).trans s5,hS,?_⟩;have H6:=T.AY 12 (by simp);rw[VR,MA,Yb,W7,ak];exact H6
   have s:zH (u.blocks.take (i+1))=zH (u.blocks.take i)++(if B.fin=3 then[B.state] else[]):=by
    rw[al];unfold zH;rw[List.filterMap_append,List.filterMap_cons];by_cases e:B.fin=3
    ·rw[if_pos e,if_pos e];rfl
    ·rw[if_neg e,if_neg e];rfl
   have ab:kZ (qt u (fu u A)++zH (u.blocks.take (i+1))) <+: El u A:=by
    have:IQ u A=(qt u (fu u A)++zH (u.blocks.take (i+1)))++zH (u.blocks.drop (i+1)):=by
     rw[MI,Mb];congr 1
     conv=>lhs;rw[<-VY (i+1) u.blocks]
     exact List.filterMap_append
    unfold El;rw[this];exact Fu _ _
   have j:(lM u A B).cond=if B.fin=2 then nm u A B.cond else B.cond:=rfl
   have d:(lM u A B).state=if B.fin=3 then(El u A).idxOf B.state else B.state:=rfl
   refine oF (f.ld 12 rfl rfl) (gM ?_);by_cases c2:B.fin=2
   ·rw [if_neg (show ¬B.fin=3 by omega),HU]at s;refine gI (by show(B.fin:Int)=2;omega) ?_;refine ed (f.ld 1 rfl rfl) (ed (f.ld 0 rfl rfl) (oF (f.ld 12 rfl rfl) ?_));refine GU f rfl (by omega) (by omega) g.sub (by rw[gl];exact e1 c2) λr q q1 q2=>⟨jb _,ed q1 (ed q2 (ed pf ⟨f.ld 1 rfl rfl,?_⟩))⟩
    obtain⟨N,e4,n4,D,s4⟩:=f.st 12 (o:=2) (u:= .I (zI ns az B.cond:Nat)) rfl (by simp[kS]) rfl;have O:gh 1 (.ptr lx (0+2)) (.I (zI ns az B.cond:Nat)) L=some (.val .undef N):=by rw[wO];exact e4
    rw [show({B with ef:=(B.ef.filter (stays A)).map (fu u A).idxOf}:Bk).cond=B.cond from rfl,O,ei];simp only[jx,lU]at D;have hq:(kS {B with ef:=(B.ef.filter (stays A)).map (fu u A).idxOf} t w x).set 2 (.I (zI ns az B.cond:Nat))=kS (lM u A B) t w x:=by
     unfold kS;rw[j,d,if_pos c2,if_neg (by omega),aj _ (e1 c2)];rfl
    rw[hq]at D;exact⟨n4,M N S c a Ej s4 (by rw[s];exact hN) D⟩
   ·refine gv (by show ¬(B.fin:Int)=2;omega) (gM ?_);by_cases c3:B.fin=3
    ·refine gI (by show(B.fin:Int)=3;omega) (oF (f.ld 12 rfl rfl) ?_);show cP CS fE [.I B.state,.ptr lb 0,.ptr l3 0,.ptr l1 0,.ptr lr 0] L _;obtain⟨sl,G⟩:∃sl,ss[B.state]? =some sl:=⟨_,g0 (by have:=e2 c3;omega)⟩
     have ao:u.eh[B.state]? =some (sl.map Prod.fst):=by rw[<-U,xk,G];rfl
     obtain⟨q1,q2⟩:=g.st _ _ ao;rw[B5]at q1;refine M4 f hN (by omega) (by omega) g.sub G (by have:=g.ns;omega) q1 (λy hy=>?_) λN ap S4 ac ae s4 ag D=>?_
     ·obtain⟨r1,r2,r3,r4⟩:=q2 y.1 (wBn hy);rw[gl];exact⟨r1,r2,r3,r4⟩
     rw[if_pos c3]at s;have aq:Ve (kZ (qt u (fu u A)++zH (u.blocks.take i))) B.state=kZ (qt u (fu u A)++zH (u.blocks.take (i+1))):=by rw[s,<-Mb,vU];rfl
     rw [aq]at ag⊢;have ah:B.state∈kZ (qt u (fu u A)++zH (u.blocks.take (i+1))):=(rG _ _).2 (by rw[s];simp);have ar:(kZ (qt u (fu u A)++zH (u.blocks.take (i+1)))).idxOf B.state=(lM u A B).state:=by
      rw[<-LL ab ah,d,if_pos c3]
     rw[ar];obtain⟨h5,e5,_,T,s5⟩:=D.st 12 (o:=5) (u:= .I ((lM u A B).state:Nat)) rfl (by simp[kS]) rfl;refine ed pf ?_;have P:gh 1 (.ptr lx (0+5)) (.I ((lM u A B).state:Nat)) N=some (.val .undef h5):=by rw[wO];exact e5
     rw [P,ei];simp only[jx,lU]at T;have hq:(kS {B with ef:=(B.ef.filter (stays A)).map (fu u A).idxOf} t w x).set 5 (.I ((lM u A B).state:Nat))=kS (lM u A B) t w x:=by
      unfold kS;rw[j,if_neg c2];rfl
     rw[hq]at T;exact M h5 S4 ap ac ae (s4.trans s5) ag T
    ·refine gv (by show ¬(B.fin:Int)=3;omega) (M L S c a Ej (Sn.refl _ _) ?_ ?_)
     ·rw[s,if_neg c3,HU];exact hN
     ·have:kS (lM u A B) t w x=kS {B with ef:=(B.ef.filter (stays A)).map (fu u A).idxOf} t w x:=by
       unfold kS;rw[j,d,if_neg c2,if_neg c3];rfl
      rw[this];exact f
  ·refine jf ?_;obtain rfl:i=bs.length:=by omega
   refine ed (J.oL 10 rfl rfl) ?_;obtain⟨L,e2,_,f,s2⟩:=J.Uf 18 (ws:=[.I u.func,.I u.pc,FE,b,Ej]) (n:=5) rfl rfl rfl (by simp only[eo,J.one 16 rfl,J.one 17 rfl,J.one 11 rfl];rfl);rw[e2,ei];simp only[jx,lU]at f;refine ed (f.oL 18 rfl rfl) ?_;rw[Z,Hj]at hN;rw[Z]at f;exact H L S c a b Ej (s1.trans s2) hN f
 ·rw[hI];exact⟨0,S,fl,a,.ee,Ej,rfl,by omega,Sn.refl _ _,by rw[wB4];show Y5 _ _ (kZ (_++[])) _ _ _;rw[HU];exact X,H0⟩
end
open Un Dm
section
variable{F F':Nat->Prop}{h h':Hp}{cs ds:List Pc}{Q:fq}{u:U}{wv wb ws iQ:V}{lt Tt:Nat}{az:List Int}{xs:List (Vl×V)}{bs:List (Bk×V)}{fa fn:Nat->Option (List Nat×V)}{ss:List (List (Fm×V×V))}{fl:KF->Option (List Nat×V)}
theorem ej.Ls(H:ej F h cs)(n:Nat):∃G,ej G h (cs.drop n)/\Sn F h G h/\∀(i:Nat)(c:Pc),i<n->cs[i]? =some c->∀l,c.lh l->G l:=by
 have ht:∀{i:Nat} {c:Pc},(cs.take n)[i]? =some c->i<n/\cs[i]? =some c:=by grind
 refine⟨λl=>F l\/JP (cs.take n) l,⟨λl a=>a.elim (H.fl l) λ⟨i,c,hc,e⟩=>(c.LR (H.ok i c (ht hc).2) l e).1,λi c hc=>?_,λi j c d hc b k=>?_⟩,⟨jb _,by simp_all,by simp_all⟩,λi c hi hc l a=> .inr ⟨i,c,by rw[wBZ hi];exact hc,a⟩⟩
 ·rw[wBr]at hc;refine c.mono (H.ok _ c hc) (by simp_all) λl a f=>?_;rcases f with f|⟨j,d,b,e⟩
  ·exact(c.LR (H.ok _ c hc) l a).2 f
  ·obtain⟨m,g⟩:=ht b;exact H.A5 (n+i) j c d hc g (by omega) l a e
 ·rw[wBr]at hc b;exact H.A5 (n+i) (n+j) c d hc b (by omega)
section
variable{G:Nat->Prop}
theorem iG.ofRow{α β:Type}{E:o0 α} {E':o0 β}(H:ej F h cs)(i:Nat){ty:Nat}{xs:List α}{ys:List β}{v:V}(hi:cs[i]? =some (ev E ty xs v))(g:∀l,F l->G l)(j:∀l,Loc v l->G l)(e:E'.sz=E.sz)(f:ys.length=xs.length)(b:∀(k:Nat) x y cs,xs[k]? =some x->ys[k]? =some y->E.rel F h x cs->E'.rel G h y cs):iG E' G h ys v:=by
 have c:=(jk.1 hi).1;exact((H.Uw (E':=E.fix F h) i hi rfl rfl λk x y cs hx a b=>by rw[hx]at a;cases a;exact b).row i (Mt c)).read.Uw e (by grind) f λk x y cs hx a d=>b k x y cs hx a d
theorem B4(H:ej F h cs)(j:Nat){ι:Type}{ty:Nat}{f:ι->Option (List Nat×V)}(a:cs[j]? =some (fH ty f))(b:∀l,F l->G l)(c:∀l,(fH ty f).lh l->G l){i:ι}{xs:List Nat}{v:V}(hi:f i=some (xs,v)):iG eN G h xs v:=
 (H.rows j a hi).Zm b λl d=>c l ⟨i,xs,v,hi,d⟩
end
theorem Q5(g:xR u az)(hc:VZ u.ef xs fa)(hb:UX u.blocks bs fn)(i:ZC u.eh ss fl)
  (H0:ej F h (ev vE gi xs wv::ev ta fo bs wb::fH en fa::fH en fn::ev eZ en az iQ::er lt Tt [.I u.func,.I u.pc,wv,wb,ws,iQ]::ev (eL OP) kJ ss ws::fH en fl::cs))
  (H:∀F' h' vv vb vs,Sn F h F' h'->ej F' h' (ev eV gi (gG u (iL az)).ef vv::ev eK fo (gG u (iL az)).blocks vb::cs)->iG (eL eF) F' h' (gG u (iL az)).eh vs->Q (.agg (uC (gG u (iL az)) vv vb vs)) h') :
  cP CS j9 [.ptr lt 0] h Q:=by
 refine PZ g hc hb H0 λF1 h1 l1 T1 l2 l3 l4 T4 lm lb Tb lr Tr num ns aa ab s1 N r d H1=>?_;refine zbP g hc i r d H1 λh2 ac S2 ae W FE Ej s2 X H2=>?_;have t:=X.st;rw[Hj]at t;refine zca g hb i.fst N r d t H2 λO S3 ag Y P A s3 M p=>?_;have Hp:=p.perm [0,1,2,3,4,5,6,7,8,9,10,11,12,13,14,15,18,19,16,17] 20 (by decide) (by decide) (by simp);obtain⟨G,H4,Z,C⟩:=Hp.Ls 18;have q:∀l,F1 l->G l:=λl hl=>Z.mono l hl;have H5:=H4.Uw 0 (E':=eV) (ys:=(gG u (iL az)).ef) rfl rfl (by simp[gG]) λk x y ws hx b e=>by
  rw[xk]at hx;have b:((fu u (iL az)).map λn=>gW u (iL az) (u.ef.getD n ZS))[k]? =some y:=b;rw[xk]at b
  cases hk:(fu u (iL az))[k]? with
  |none=>simp_all
  | some n=>
    rw[hk]at hx b;cases hx;cases b;obtain⟨rfl,_⟩:=e;have R:=EF g.jz (yC hk);obtain⟨⟨x,w⟩,m⟩:∃y,xs[n]? =some y:=⟨_,g0 (by rw[<-B5 (f:=Prod.fst),hc.fst];exact R)⟩
    have D:u.ef[n]? =some x:=by rw[<-hc.fst,xk,m];rfl
    have S:Ye u (iL az) xs n=(gW u (iL az) x,w):=by unfold Ye wV;rw[m,CM,D];rfl
    have E:=X.row n x w m;rw[Hj,if_pos (yC hk)]at E;have T:u.ef.getD n ZS=x:=by rw[CM,D];rfl
    show eV.rel G O (gW u (iL az) (u.ef.getD n ZS)) _;rw[S,T];exact⟨w,rfl,B4 p 14 rfl q (C 14 _ (by decide) rfl) E⟩
 have H6:=H5.Uw 1 (E':=eK) (ys:=(gG u (iL az)).blocks) rfl rfl (by simp[gG]) λk x y ws hx b e=>by
  rw[xk]at hx;have b:(u.blocks.map (lM u (iL az)))[k]? =some y:=b;rw[xk]at b
  cases hB:u.blocks[k]? with
  |none=>simp_all
  | some B=>
    rw[hB]at b;cases b;have I:=(jk.1 hB).1;rw[wBm I]at hx;cases hx;obtain⟨⟨B',w⟩,o⟩:∃y,bs[k]? =some y:=⟨_,g0 (by rw[<-B5 (f:=Prod.fst),hb.fst];exact I)⟩
    have J:u.blocks[k]? =some B':=by rw[<-hb.fst,xk,o];rfl
    rw[hB]at J;cases J;have U:kOf u (iL az) bs k=(lM u (iL az) B,w):=by unfold kOf N8;rw[o,CM,hB];rfl
    rw[U]at e;obtain⟨bv,bp,rfl,iv,ip,_⟩:=e;exact⟨bv,w,bp,rfl,iv,B4 p 15 rfl q (C 15 _ (by decide) rfl) (hb.row k B w o),ip⟩
 refine H G O FE P A (((s1.trans s2).trans s3).trans Z) H6 ?_;refine iG.ofRow p 11 rfl q (C 11 _ (by decide) rfl) rfl (by simp[gG,M.out]) λk x y ws hx b e=>?_;rw[M.out,xk]at hx;have b:((El u (iL az)).map λs=>(u.eh.getD s []).map (VG u (iL az)))[k]? =some y:=b;rw[xk]at b
 cases hk:(El u (iL az))[k]? with
 |none=>simp_all
 | some s=>
   rw[hk]at hx b;cases hx;cases b;have K:=yC hk;have ah:=M.lt s K;obtain⟨l,c⟩:∃l,ss[s]? =some l:=by simp_all
   have L:u.eh[s]? =some (l.map Prod.fst):=by rw[<-i.fst,xk,c];rfl
   have g1:ss.getD s []=l:=by rw[CM,c];rfl
   have g2:u.eh.getD s []=l.map Prod.fst:=by rw[CM,L];rfl
   show(eL eF).rel G O ((u.eh.getD s []).map (VG u (iL az))) ws;rw[g2];obtain⟨f,rfl,V⟩:=e;dsimp only at V;rw[g1]at V;refine⟨f,rfl,V.Uw rfl q (by simp) λj z y cs hz b e=>?_⟩;rw[List.map_map,xk,hz]at b;cases b;obtain⟨z,a,w⟩:=z;obtain⟨rfl,_,_⟩:=e;obtain⟨r1,r2⟩:=M.rows s l j z a w c hz;rw[if_pos K]at r1 r2;obtain⟨_,q2⟩:=g.st s _ L;obtain⟨_,_,q3,q4⟩:=q2 z (by grind);rw[Xf λv hv=>ON g d (q3 v hv)]at r1;rw[Xf λv hv=>ON g d (q4 v hv)]at r2;exact⟨a,w,rfl,B4 p 5 rfl q (C 5 _ (by decide) rfl) r1,B4 p 5 rfl q (C 5 _ (by decide) rfl) r2⟩
end
section
variable{F:Nat->Prop}{h:Hp}{cs:List Pc}{u:U}{wv wb ws:V}{xs:List (Vl×V)}{bs:List (Bk×V)}{ss:List (List (Fm×V×V))}{fa fn:Nat->Option (List Nat×V)}{fl:KF->Option (List Nat×V)}
theorem ej.P9(hc:VZ u.ef xs fa)(hb:UX u.blocks bs fn)(hs:ZC u.eh ss fl)(H:ej F h (ev vE gi xs wv::ev ta fo bs wb::ev (eL OP) kJ ss ws::fH en fa::fH en fn::fH en fl::cs)) :
  ∃G,ej G h cs/\Sn F h G h/\tL G h u wv wb ws:=by
 obtain⟨G,m,g,d⟩:=H.Ls 6;have c:∀l,F l->G l:=λl n=>g.mono l n;refine⟨G,m,g,⟨?_,?_,?_⟩⟩
 ·refine iG.ofRow H 0 rfl c (d 0 _ (by decide) rfl) rfl (by rw[<-hc.fst];simp) λk x y ws hx b e=>?_;obtain⟨x,w⟩:=x;rw[<-hc.fst,xk,hx]at b;cases b;obtain⟨rfl,_⟩:=e;exact⟨w,rfl,B4 H 3 rfl c (d 3 _ (by decide) rfl) (hc.row k x w hx)⟩
 ·refine iG.ofRow H 1 rfl c (d 1 _ (by decide) rfl) rfl (by rw[<-hb.fst];simp) λk x y ws hx b e=>?_;obtain⟨x,w⟩:=x;rw[<-hb.fst,xk,hx]at b;cases b;obtain⟨o,p,rfl,q,ip,_⟩:=e;exact⟨o,w,p,rfl,q.mono c,B4 H 4 rfl c (d 4 _ (by decide) rfl) (hb.row k x w hx),ip.mono c⟩
 ·refine iG.ofRow H 2 rfl c (d 2 _ (by decide) rfl) rfl (by rw[<-hs.fst];simp) λk x y ws hx b e=>?_;rw[<-hs.fst,xk,hx]at b;cases b;obtain⟨f,rfl,r⟩:=e;refine⟨f,rfl,r.Uw rfl c (by simp) λj z y cs i b e=>?_⟩;rw[xk,i]at b;cases b;obtain⟨z,a,w⟩:=z;obtain⟨rfl,_,_⟩:=e;obtain⟨r1,r2⟩:=hs.loc k x j z a w hx i;exact⟨a,w,rfl,B4 H 5 rfl c (d 5 _ (by decide) rfl) r1,B4 H 5 rfl c (d 5 _ (by decide) rfl) r2⟩
end
open Un Dm
section
variable{F F':Nat->Prop}{h h':Hp}{cs ds:List Pc}{Q:fq}{u:U}{vv vb vs iQ:V}{az:List Int}
theorem Pq(g:M0 u)(B:EH u)(m:az.length=u.ef.length)(C:∀kp u' iR seen post,CL u.blocks.length (next u) seen post []->kp=(λb=>post.reverse.contains b)->Cut u kp u'->Ce u kp az iR->xR u' iR)
  (r:ej F h (ev eZ en az iQ::cs)) (s:tL F h u vv vb vs)
  (H:∀F' h' kp u' iR seen post wv wb ws,Sn F h F' h'->ej F' h' (ev eV gi (gG u' (iL iR)).ef wv::ev eK fo (gG u' (iL iR)).blocks wb::cs)->CL u.blocks.length (next u) seen post []->kp=(λb=>post.reverse.contains b)->Cut u kp u'->Ce u kp az iR->iG (eL eF) F' h' (gG u' (iL iR)).eh ws->Q (.agg (uC (gG u' (iL iR)) wv wb ws)) h') :
  cP CS nT [.agg (uC u vv vb vs),iQ] h Q:=by
 refine Rv rfl rfl ?_;unfold LV;refine jP r s.one λD E v=>rh E λh2 w x=>?_;generalize h.next=l1 at*;generalize D.next=l2 at*;have u2:=(s.since v).since x;refine ed (w.oL 1 rfl rfl) ?_;refine J2 g w u2 λF3 I wv wb ws xs bs ss fa fn fl J hc hb hs e=>?_;have K:fJ [.I 0,.I 0,.ee,.ee,.ee,.ee] [(0,5),(5,1)] [(0,V.agg (uC u wv wb ws)),(1,iQ)]=some (V.agg [.I u.func,.I u.pc,wv,wb,ws,iQ]):=by
  rcases r.row 0 rfl with⟨rfl,_⟩|⟨t,L,rfl,_⟩ <;> rfl
 refine ed K ?_;refine jP e (by simp only[eo,e.one 0 rfl,e.one 1 rfl,e.one 2 rfl,e.one 8 rfl];rfl) λh4 M N=>?_;generalize I.next=lt at*;have O:=M.perm [1,2,4,5,9,0,3,6,7,8] 10 (by decide) (by decide) (by simp);refine UG B hc hb m (e.one 2 rfl) O λF6 h6 seen post kp u' P R S T iR U W G f a o p i y=>?_;have gn:=C kp u' iR seen post G f a i;have X:=a.func;have Y:=a.pc;rw[<-X,<-Y]at y;refine Q5 gn o p (by rw[a.eh];exact hs) y λz Z c d j s7 k l=>?_;have k:ej z Z (ev eV gi (gG u' (iL iR)).ef c::ev eK fo (gG u' (iL iR)).blocks d::er l2 fT _::er l1 fT _::cs):=k;obtain⟨h8,e8,_,q,A⟩:=k.Uf 2 (ws:=uC (gG u' (iL iR)) c d j) (n:=5) rfl rfl rfl (by simp only[uC,eo,k.one 0 rfl,k.one 1 rfl,l.one];rfl);rw[e8,ei];simp only[jx,lU]at q;refine ed (q.oL 2 rfl rfl) ?_;have H9:=q.perm [2,3,0,1] 4 (by decide) (by decide) (by simp);exact H z h8 kp u' iR seen post c d j ((((((v.trans x).trans J).trans N).trans W).trans s7).trans A) H9.tail.tail G f a i (l.since A)
theorem QJ(g:M0 u)(j:EH u)(c:az.length=u.ef.length)(k:∀kp u' iR seen post,CL u.blocks.length (next u) seen post []->kp=(λb=>post.reverse.contains b)->Cut u kp u'->Ce u kp az iR->xR u' iR)
  (l:ej F h (ev eZ en az iQ::cs)) (m:tL F h u vv vb vs)
  (H:∀F' h' kp u' iR seen post wv wb ws,Sn F h F' h'->ej F' h' cs->CL u.blocks.length (next u) seen post []->kp=(λb=>post.reverse.contains b)->Cut u kp u'->Ce u kp az iR->tL F' h' (gG u' (iL iR)) wv wb ws->Q (.agg (uC (gG u' (iL iR)) wv wb ws)) h') :
  cP CS nT [.agg (uC u vv vb vs),iQ] h Q:=
 Pq g j c k l m λF' h' kp u' iR seen post wv wb ws n o G d a e r1=>by
  obtain⟨p,i,r2⟩:=o.lH 0 rfl;obtain⟨q,f,r3⟩:=p.lH 1 rfl;exact H _ h' kp u' iR seen post wv wb ws ((n.trans i).trans f) q.tail.tail G d a e ⟨r2.since f,r3,(r1.since i).since f⟩
theorem HY{n:Nat}{nx:Nat->List Nat}{seen:List Bool}{post:List Nat}(G:CL n nx seen post []):∀{b:Nat}{l:List Nat},Pt nx b l->b∈post
 | _,_,.nil=>by
   obtain⟨p,c⟩:=G.last rfl
   simp_all
 | _,_,.step h e=>by
   rcases(G.iff _).1 (G.closed _ (HY G h) _ e)with a|a
   ·exact a
   simp_all
theorem Ht(g:Good u)(f:oh u):EH u:=⟨IL g,g.nv,g.AH,g.jz,λb B a=>⟨FJ g a,λp c=>by
 rw[g.ez b B a]at c;obtain⟨q,j,d,_,e⟩:=wA.1 c
 grind⟩,λv b k x B d h e i=>(g.Ae v b k x B d h e i).2,f⟩
theorem GM{P:Nat->Prop}(g:Gd u P)(n:oh u)(j:az.length=u.ef.length)(d:∀(v:Nat)(a:Int),az[v]? =some a->a<az.length):xR u az where
 nv:=g.nv
 nb:=g.nb
 ns:=g.ns
 once:=g.AH
 jz:=g.jz
 len:=j
 sub:=d
 parts v x hx:=by
  have c:∀w∈gO x,w<u.ef.length:=λw o=>yj (g.use v x hx w o);unfold gO at c;refine⟨n v x hx,?_⟩;by_cases e:x.op=21
  ·rw[if_pos e]at c;have p:two x.op=false:=by rw[e];rfl
   have q:pe x.op=false:=by rw[e];rfl
   exact⟨by simp_all,by simp_all,λ_=>c,g.leave v x hx⟩
  ·rw [if_neg e]at c;by_cases c2:x.op=20
   ·rw[if_pos c2]at c;have i:=g.putAt v x hx c2;rw[wBA (by omega)]at c;exact⟨by simp_all,by simp_all,by simp_all,g.leave v x hx⟩
   ·rw [if_neg c2]at c;refine⟨λh=>?_,λh=>?_,by omega,g.leave v x hx⟩
    ·by_cases r:two x.op=true
     ·simp_all
     simp_all
    simp_all
 ends b B hB:=by
  rcases g.fin b B hB with⟨i,_⟩|⟨i,_,k⟩|⟨i,_,k⟩
  ·omega
  ·grind[yj]
  omega
 st s fs hfs:=by
  obtain⟨i,k⟩:=Ol g s fs hfs;refine⟨by omega,λf l=>?_⟩;obtain⟨t,y⟩:=k f l;have m:=EI g hfs;refine⟨by omega,by omega,λv hv=>m v ?_,λv hv=>m v ?_⟩
  ·exact Tu.2 ⟨f,l,My _ hv⟩
  ·exact Tu.2 ⟨f,l,wBt _ hv⟩
theorem TY(g:Good u)(k:oh u)(i:az.length=u.ef.length)(m:∀(v:Nat)(a:Int),az[v]? =some a->a<az.length)(n:ej F h (ev eZ en az iQ::cs))(o:tL F h u vv vb vs)
  (H:∀F' h' wv wb ws,Sn F h F' h'->ej F' h' cs->tL F' h' (gG u (iL az)) wv wb ws->Q (.agg (uC (gG u (iL az)) wv wb ws)) h') :
  cP CS nT [.agg (uC u vv vb vs),iQ] h Q:=by
 have j:∀kp u' iR seen post,CL u.blocks.length (next u) seen post []->kp=(λb=>post.reverse.contains b)->Cut u kp u'->Ce u kp az iR->u' = u/\iR=az:=λkp u' iR seen post G f c d=>by
  have e:∀b,b<u.blocks.length->kp b=true:=λb hb=>by
   obtain⟨l,q⟩:=g.reach b hb
   grind[wBG,HY]
  exact⟨c.eq g e,d.eq e⟩
 refine QJ (vL g k) (Ht g k) i (λkp u' iR seen post G f c d=>?_) n o λF' h' kp u' iR seen post wv wb ws r s G f c d p=>?_
 ·obtain⟨rfl,rfl⟩:=j kp u' iR seen post G f c d
  grind[GM]
 grind
end
