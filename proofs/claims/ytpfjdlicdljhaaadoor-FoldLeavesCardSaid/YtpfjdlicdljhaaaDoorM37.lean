/- Parts. -/
import Derived.Test.YtpfjdlicdljhaaaDoorM30
set_option maxHeartbeats 4000000
namespace Go.Proofs.YtpfjdlicdljhaaaDoor.Hx
open Un Dm
def YW:Vl:=⟨0,0,0,0,[],0⟩
def wV(xs:List (Vl×V))(n:Nat):V:=match xs[n]? with
 |some x=>x.2
 |none=> .undef
def Xg(u:U)(A:Nat->Int)(xs:List (Vl×V))(n:Nat):Vl×V:=(gX u A (u.ef.getD n YW),wV xs n)
section
variable{F F':Nat->Prop}{h h':Hp}{cs ds:List Pc}{Q:fo}{u:U}{wv wb ws jM num:V}{lt Tt l1 T1 l2 l3 l4 T4 lm lb Tb lr Tr:Nat}{az:List Int}{ns:List Nat}{xs:List (Vl×V)}{bs:List (Bk×V)}{fa fn:Nat->Option (List Nat×V)}{ss:List (List (Fm×V×V))}{fl:KF->Option (List Nat×V)}
theorem NW(g:xV u az)(a:∀v,v<u.ef.length->ns[v]? =some (if v∈fq u (kV az) then(fq u (kV az)).idxOf v else 0)){v:Nat}(d:v<u.ef.length):zQ ns az v=nm u (kV az) v:=by
 have b:=Pe («as»:=kV az) (n:=u.ef.length) (λw e=>by
  have c:=ig (show w<az.length by rw[g.len];exact e);have f:=g.sub w _ c;rw[QW c];have:=g.len;omega) (u.ef.length+1) v d
 unfold zQ nm;rw[g.len,EN,a _ b];rfl
structure NV (u:U) (az:List Int) (ns:List Nat) (xs:List (Vl×V)) (ss:List (List (Fm×V×V))) (i:Nat) (fa:Nat->Option (List Nat×V)) (S:Int->Option V) (fl:KF->Option (List Nat×V)) (a:List (List (Fm×V×V))):Prop where
 row:∀v x w,xs[v]? =some (x,w)->fa v=some (if v∈(fq u (kV az)).take i then(gX u (kV az) x).args else x.args,w)
 st:YA ss (zQ ns az) (kF (qo u ((fq u (kV az)).take i))) S fl a
theorem zbI(g:xV u az)(hc:WJ u.ef xs fa)(X:Y9 u.eh ss fl){j:V}(aD:ns.length=u.ef.length)(aE:∀v,v<u.ef.length->ns[v]? =some (if v∈fq u (kV az) then(fq u (kV az)).idxOf v else 0))
  (H0:ei F h (Nx l1 T1 l4 T4 lt Tt num ns [.I u.func,.I u.pc,wv,wb,ws] jM az (Sx fl ss ws lm (λ_=>none) lb Tb lr Tr l4 l1 l3 gS (.I u.func) (.I u.pc) .ee .ee .ee []
    (eJ wk gi xs wv::eJ tM fu bs wb::fG en fa::fG en fn::eJ wk gi [] .ee::eJ tM fu [] .ee::er l2 gS [.I 0,.I 0,.ee,.ee,.ee]::eJ eN en (fq u (kV az)) j::cs))))
  (H:∀h' m S p t Gj Eo,Sn F h F h'->NV u az ns xs ss (fq u (kV az)).length m S p t->
   ei F h' (Nx l1 T1 l4 T4 lt Tt num ns [.I u.func,.I u.pc,wv,wb,ws] jM az (Sx p ss ws lm S lb Tb lr Tr l4 l1 l3 gS (.I u.func) (.I u.pc) Gj .ee Eo t
    (eJ wk gi xs wv::eJ tM fu bs wb::fG en m::fG en fn::eJ wk gi ((fq u (kV az)).map (Xg u (kV az) xs)) Gj::eJ tM fu [] .ee::er l2 gS [.I 0,.I 0,.ee,.ee,.ee]::eJ eN en (fq u (kV az)) j::cs)))->
   ki CS Q [.ptr l1 0,.ptr l2 0,.ptr l3 0,.ptr l4 0,.func fE [] [.ptr lb 0,.ptr l3 0,.ptr l1 0,.ptr lr 0],wb,.I bs.length,.I 0] h') :
  ku CS Q [.ptr l1 0,.ptr l2 0,.ptr l3 0,.ptr l4 0,.ptr lr 0,.func fE [] [.ptr lb 0,.ptr l3 0,.ptr l1 0,.ptr lr 0],j,.I ((fq u (kV az)).length:Nat),.I 0] h:=by
 have nv:=g.nv;have gl:=g.len;have aF:xs.length=u.ef.length:=by rw[<-hc.fst,BW]
 have lss:ss.length=u.eh.length:=by rw[<-X.fst,BW]
 obtain⟨A,hA⟩:∃A,kV az=A:=⟨_,rfl⟩
 have aG:∀v,v<u.ef.length->zQ ns az v=nm u A v:=by grind[NW]
 have au:=yh («as»:=A) g.once;have aH:(fq u A).length<=u.ef.length:=jD _ _ au λv hv=>Ez g.jA hv
 obtain ⟨I,hI⟩:∃I:Nat->LP,I=λk l h'=>∃(i:Nat) (m:Nat->Option (List Nat×V)) (S:Int->Option V) (p:KF->Option (List Nat×V)) (t:List (List (Fm×V×V))) (Gj Eo:V),l=[.ptr l1 0,.ptr l2 0,.ptr l3 0,.ptr l4 0,.ptr lr 0,.func fE [] [.ptr lb 0,.ptr l3 0,.ptr l1 0,.ptr lr 0],j,.I ((fq u A).length:Nat),.I i]/\i+k=(fq u A).length/\Sn F h F h'/\NV u az ns xs ss i m S p t/\
   ei F h' (Nx l1 T1 l4 T4 lt Tt num ns [.I u.func,.I u.pc,wv,wb,ws] jM az (Sx p ss ws lm S lb Tb lr Tr l4 l1 l3 gS (.I u.func) (.I u.pc) Gj .ee Eo t
    (eJ wk gi xs wv::eJ tM fu bs wb::fG en m::fG en fn::eJ wk gi (((fq u A).take i).map (Xg u A xs)) Gj::eJ tM fu [] .ee::er l2 gS [.I 0,.I 0,.ee,.ee,.ee]::eJ eN en (fq u A) j::cs))):=⟨_,rfl⟩
 rw[hA]at H0 H⊢;refine Aq I (λk x1 x2 x3 x4 aI aJ aK aL aM h1 hi=>?_) (k:=(fq u A).length) ?_
 ·rw [hI]at hi;obtain⟨i,m,S,p,t,Gj,Eo,⟨⟩,hk,s1,hN,N⟩:=hi;unfold rO;by_cases hi:i<(fq u A).length
  ·refine gv ?_;have hx:=ig hi;have Y:=BI hx;have aN:=Ez g.jA (BG hi);have aw:(fq u A)[i] ∉ (fq u A).take i:=by grind[mm,jq,KN,wBW,pV]
   generalize (fq u A)[i]=n at*;obtain⟨⟨x,w⟩,O⟩:∃y,xs[n]? =some y:=by simp_all
   have Z:u.ef[n]? =some x:=by rw[<-hc.fst,AJ,O];rfl
   have ax:Xg u A xs n=(gX u A x,w):=by unfold Xg wV;rw[O,EN,Z];rfl
   obtain ⟨p1,p2,p3,p4,p5⟩:=g.parts n x Z;obtain⟨la,oa,y1,y2⟩:=N.Jv 19 rfl hx .i64;obtain⟨lv,ov,wl,z1,z2,⟨rfl,w1⟩,_⟩:=N.VF 12 rfl O .i64;have z1:gI 6 wv (.I n)=some (.ptr lv ov):=z1;refine ed y1 (ed y2 (ed (N.ld 0 rfl rfl) (ed pn (ed pf (oF (N.ld 2 rfl rfl) (ed z1 (ed z2 ?_)))))));refine iH N rfl rfl (by simp only[lT,ev];simp only[show w.one=true from w1];rfl) λh2 L s2=>?_;generalize h1.next=lx at*;have L:ei F h2 (Nx l1 T1 l4 T4 lt Tt num ns [.I u.func,.I u.pc,wv,wb,ws] jM az (Sx p ss ws lm S lb Tb lr Tr l4 l1 l3 gS (.I u.func) (.I u.pc) Gj .ee Eo t (er lx 38 (lT x w)::_))):=L.Rz 12 (by simp);have ab:∀d:Nat->Option (List Nat×V),(∀v,v≠n->d v=m v)->d n=some ((gX u A x).args,w)->∀v y b,xs[v]? =some (y,b)->d v=some (if v∈(fq u A).take (i+1) then(gX u A y).args else y.args,b):=λd h1 h2 v y b hv=>by
    rw[Y];by_cases e:v=n
    ·simp_all
    ·rw[h1 v e];have:=hN.row v y b hv
     simp_all
   have ac:m n=some (x.args,w):=by
    have:=hN.row n x w O;rw[hA,if_neg aw]at this;exact this
   have ae:=hN.st;rw[hA]at ae
   have ag:∀f d S2 P C G,Sn F h F f->(∀v,v≠n->d v=m v)->d n=some ((gX u A x).args,w)->YA ss (zQ ns az) (kF (qo u ((fq u A).take (i+1)))) S2 P C->
     ei F f (Nx l1 T1 l4 T4 lt Tt num ns [.I u.func,.I u.pc,wv,wb,ws] jM az (Sx P ss ws lm S2 lb Tb lr Tr l4 l1 l3 gS (.I u.func) (.I u.pc) Gj .ee G C
      (er lx 38 (lT (gX u A x) w)::eJ wk gi xs wv::eJ tM fu bs wb::fG en d::fG en fn::eJ wk gi (((fq u A).take i).map (Xg u A xs)) Gj::eJ tM fu [] .ee::er l2 gS [.I 0,.I 0,.ee,.ee,.ee]::eJ eN en (fq u A) j::cs)))->
     jT CS Q (Bx I k) [.ptr l1 0,.ptr l2 0,.ptr l3 0,.ptr l4 0,.ptr lr 0,.func fE [] [.ptr lb 0,.ptr l3 0,.ptr l1 0,.ptr lr 0],.ptr lx 0,j,.I ((fq u A).length:Nat),.I i] f:=by
    intro f d S2 P C G M R T hS z;refine yZ ?_;unfold qy;refine oF (z.ld 10 rfl rfl) (ed (z.C9 12 rfl rfl) ?_);rw[se (sz:=6) (w:=lT (gX u A x) w) rfl rfl (by simp only[lT,ev];simp only[show w.one=true from w1];rfl),fw];obtain⟨D,E,e4,_,B,U⟩:=z.yI 17 rfl (kE:=64) (EI:=38) (y:=(gX u A x,w)) (w:=lT (gX u A x) w) (ro:=false) ⟨rfl,w1⟩ (by decide) (by decide) (by simp;omega);have J:eQ 38 6 64 Gj (.slice f.next 0 1) (f.new (.cells 38 6 true false (lT (gX u A x) w)))=some (.val D E):=e4;rw[J,ej];simp only[jx,mZ]at B;obtain⟨h5,e5,_,H5,s5⟩:=B.st 10 (o:=2) (u:=D) rfl (by simp) (B.one 17 rfl);refine ed pf ?_;have aa:gG 1 (.ptr l3 (0+2)) D E=some (.val .undef h5):=by rw[wX];exact e5
    rw[aa,ej];simp only[jx,mZ]at H5;refine fM ⟨k-1,by omega,?_⟩;rw[hI];refine⟨i+1,d,S2,P,C,D,G,rfl,by omega,(M.trans U).trans s5,⟨λv y b hv=>by rw[hA];exact ab d R T v y b hv,by simp_all⟩,?_⟩;have H6:=H5.KC 12 (by simp);rw[Y,Qi,Xb,Vy,ax];exact H6
   have ah:qo u ((fq u A).take (i+1))=qo u ((fq u A).take i)++(if leaves x.op=true then[x.state] else[]):=by
    rw[Y];unfold qo;rw[List.filterMap_append,List.filterMap_cons];simp only[Z];by_cases e:leaves x.op=true
    ·grind
    ·grind
   have ai:kF (qo u ((fq u A).take (i+1))) <+: Eu u A:=by
    have:HX u A=qo u ((fq u A).take (i+1))++(qo u ((fq u A).drop (i+1))++zV u.blocks):=by
     rw[MF,<-Jx];congr 1
     conv=>lhs;rw[<-WN (i+1) (fq u A)]
     exact List.filterMap_append
    unfold Eu;rw[this];exact Fq _ _
   have aj:∀f d,Sn F h F f->(∀v,v≠n->d v=m v)->d n=some ((gX u A x).args,w)->
     ei F f (Nx l1 T1 l4 T4 lt Tt num ns [.I u.func,.I u.pc,wv,wb,ws] jM az (Sx p ss ws lm S lb Tb lr Tr l4 l1 l3 gS (.I u.func) (.I u.pc) Gj .ee Eo t
      (er lx 38 (lT {x with a:=(gX u A x).a,b:=(gX u A x).b} w)::eJ wk gi xs wv::eJ tM fu bs wb::fG en d::fG en fn::eJ wk gi (((fq u A).take i).map (Xg u A xs)) Gj::eJ tM fu [] .ee::er l2 gS [.I 0,.I 0,.ee,.ee,.ee]::eJ eN en (fq u A) j::cs)))->
     jS CS Q (Bx I k) [.ptr l1 0,.ptr l2 0,.ptr l3 0,.ptr l4 0,.ptr lr 0,.func fE [] [.ptr lb 0,.ptr l3 0,.ptr l1 0,.ptr lr 0],.ptr lx 0,j,.I ((fq u A).length:Nat),.I i] f:=by
    intro f d M R T z;refine zs ?_;unfold qb;refine oF (z.ld 12 rfl rfl) (Ik (iI ?_));by_cases hlv:leaves x.op=true
    ·refine gw hlv (oF (z.ld 12 rfl rfl) ?_);show cP CS fE [.I x.state,.ptr lb 0,.ptr l3 0,.ptr l1 0,.ptr lr 0] f _;obtain⟨sl,W⟩:∃sl,ss[x.state]? =some sl:=⟨_,ig (by have:=p5 hlv;omega)⟩
     have ay:u.eh[x.state]? =some (sl.map Prod.fst):=by rw[<-X.fst,AJ,W];rfl
     obtain⟨q1,q2⟩:=g.st _ _ ay;rw[BW]at q1;refine ML z ae (by omega) (by omega) g.sub W (by have:=g.ns;omega) q1 (λy hy=>?_) λE aA S4 ak al U am B=>?_
     ·grind
     rw[if_pos hlv]at ah;have aB:T5 (kF (qo u ((fq u A).take i))) x.state=kF (qo u ((fq u A).take (i+1))):=by rw[ah,wO];rfl
     rw[aB]at am⊢;have an:x.state∈kF (qo u ((fq u A).take (i+1))):=(by grind[sr])
     have aC:(kF (qo u ((fq u A).take (i+1)))).idxOf x.state=(gX u A x).state:=by
      rw[<-LD ai an];show _=if leaves x.op=true then(Eu u A).idxOf x.state else x.state
      rw[if_pos hlv]
     rw[aC];obtain⟨h5,e5,_,H5,s5⟩:=B.st 12 (o:=5) (u:= .I ((gX u A x).state:Nat)) rfl (by simp[lT]) rfl;refine ed pf ?_;have aa:gG 1 (.ptr lx (0+5)) (.I ((gX u A x).state:Nat)) E=some (.val .undef h5):=by rw[wX];exact e5
     rw[aa,ej];simp only[jx,mZ]at H5;exact ag h5 d S4 aA ak al ((M.trans U).trans s5) R T am H5
    ·refine fT hlv (ag f d S p t Eo M R T ?_ ?_)
     ·grind
     ·have hs:(gX u A x).state=x.state:=if_neg hlv
      grind[lT,gX]
   have ao:∀f,Sn F h F f->ei F f (Nx l1 T1 l4 T4 lt Tt num ns [.I u.func,.I u.pc,wv,wb,ws] jM az (Sx p ss ws lm S lb Tb lr Tr l4 l1 l3 gS (.I u.func) (.I u.pc) Gj .ee Eo t
      (er lx 38 (lT {x with a:=(gX u A x).a,b:=(gX u A x).b} w)::eJ wk gi xs wv::eJ tM fu bs wb::fG en m::fG en fn::eJ wk gi (((fq u A).take i).map (Xg u A xs)) Gj::eJ tM fu [] .ee::er l2 gS [.I 0,.I 0,.ee,.ee,.ee]::eJ eN en (fq u A) j::cs)))->
     jR CS Q (Bx I k) [.ptr l1 0,.ptr l2 0,.ptr l3 0,.ptr l4 0,.ptr lr 0,.func fE [] [.ptr lb 0,.ptr l3 0,.ptr l1 0,.ptr lr 0],.ptr lx 0,j,.I ((fq u A).length:Nat),.I i] f:=by
    intro f M z;refine zj ?_;unfold qH;refine oF (z.ld 12 rfl rfl) (gQ ?_);have e0:ey (.ptr lx (0+0)) f=some (.I x.op):=z.ld 12 rfl rfl;have eq:om (V.bool (decide ((x.op:Int)=21))) (oB (fH 0 (.ptr lx 0)) λap=>oB (ey ap f) λaq=>eo .eql 3 aq (V.I 20))=some (.bool (decide (x.op=21\/x.op=20))):=by
     rw[pf,fe,e0,fe,ik,pe];congr 2;by_cases c1:x.op=21
     ·grind
     ·grind
    refine ed eq (iI ?_);have K:(gX u A x).args=if x.op=21\/x.op=20 then x.args.map (nm u A) else x.args:=rfl
    by_cases c:x.op=21\/x.op=20
    ·refine gw (PY c) (ed (z.ld 9 rfl rfl) (oF (z.ld 12 rfl rfl) ?_));show cP CS hX [w,.ptr l4 0,.ptr l1 0] f _;refine IT 10 z rfl ac rfl (by omega) (by omega) g.sub (by grind) (by omega) λE U B=>?_;simp only[jx,mZ]at B;have hm:x.args.map (zQ ns az)=(gX u A x).args:=by
      rw[K,if_pos c];exact by grind[UL]
     rw[hm]at B;exact aj E _ (M.trans U) (by grind[iT]) (ko _ _ _) B
    ·refine fT (by rw[CH];exact c) (aj f m M (λ_ _=>rfl) ?_ z);rw[K,if_neg c];exact ac
   have ar:∀f,Sn F h F f->ei F f (Nx l1 T1 l4 T4 lt Tt num ns [.I u.func,.I u.pc,wv,wb,ws] jM az (Sx p ss ws lm S lb Tb lr Tr l4 l1 l3 gS (.I u.func) (.I u.pc) Gj .ee Eo t
      (er lx 38 (lT {x with a:=(gX u A x).a} w)::eJ wk gi xs wv::eJ tM fu bs wb::fG en m::fG en fn::eJ wk gi (((fq u A).take i).map (Xg u A xs)) Gj::eJ tM fu [] .ee::er l2 gS [.I 0,.I 0,.ee,.ee,.ee]::eJ eN en (fq u A) j::cs)))->
     jP CS Q (Bx I k) [.ptr l1 0,.ptr l2 0,.ptr l3 0,.ptr l4 0,.ptr lr 0,.func fE [] [.ptr lb 0,.ptr l3 0,.ptr l1 0,.ptr lr 0],.ptr lx 0,j,.I ((fq u A).length:Nat),.I i] f:=by
    intro f M z;refine zF ?_;unfold qX;refine oF (z.ld 12 rfl rfl) (Ls (E7 ?_));have hb:(gX u A x).b=if two x.op=true then nm u A x.b else x.b:=rfl
    by_cases c:two x.op=true
    ·refine gw (by show(1:Int)<(mg x.op:Nat);unfold mg;grind) ?_;refine ed (z.ld 1 rfl rfl) (ed (z.ld 0 rfl rfl) (oF (z.ld 12 rfl rfl) ?_));refine HC z rfl (by omega) (by omega) g.sub (by grind) λr q e1 e2=>⟨iZ _,ed e1 (ed e2 (ed pf ⟨z.ld 1 rfl rfl,?_⟩))⟩
     obtain⟨E,e4,n4,B,U⟩:=z.st 12 (o:=2) (u:= .I (zQ ns az x.b:Nat)) rfl (by simp[lT]) rfl;have J:gG 1 (.ptr lx (0+2)) (.I (zQ ns az x.b:Nat)) f=some (.val .undef E):=by rw[wX];exact e4
     rw[J,ej];simp only[jx,mZ]at B;have hq:zQ ns az x.b=(gX u A x).b:=by rw[hb,if_pos c];exact by grind
     rw[hq]at B;exact⟨n4,ao E (M.trans U) B⟩
    ·refine fT (by show ¬(1:Int)<(mg x.op:Nat);unfold mg;grind) (ao f M ?_)
     grind
   refine oF (L.ld 12 rfl rfl) (Ls (E7 ?_));have ha:(gX u A x).a=if 0<mg x.op then nm u A x.a else x.a:=rfl
   by_cases c:0<mg x.op
   ·have c':nP x.op=true\/two x.op=true:=by
     unfold mg at c;by_cases h1:two x.op=true
     ·grind
     ·grind
    refine gw (by omega) ?_;refine ed (L.ld 1 rfl rfl) (ed (L.ld 0 rfl rfl) (oF (L.ld 12 rfl rfl) ?_));refine HC L rfl (by omega) (by omega) g.sub (by grind) λr q e1 e2=>⟨iZ _,ed e1 (ed e2 (ed pf ⟨L.ld 1 rfl rfl,?_⟩))⟩
    obtain⟨E,e4,n4,B,U⟩:=L.st 12 (o:=1) (u:= .I (zQ ns az x.a:Nat)) rfl (by simp[lT]) rfl;have J:gG 1 (.ptr lx (0+1)) (.I (zQ ns az x.a:Nat)) h2=some (.val .undef E):=by rw[wX];exact e4
    rw[J,ej];simp only[jx,mZ]at B;have hq:zQ ns az x.a=(gX u A x).a:=by rw[ha,if_pos c];exact by grind
    rw[hq]at B;exact⟨n4,ar E ((s1.trans s2).trans U) B⟩
   ·refine fT (by omega) (ar h2 (s1.trans s2) ?_);have:({x with a:=(gX u A x).a}:Vl)=x:=by rw[ha,if_neg c]
    rw[this];exact L
  ·refine ir ?_;obtain rfl:i=(fq u A).length:=by omega
   rw[Js]at N;refine ed (N.ld 0 rfl rfl) (ed pn (ed pf (oF (N.ld 2 rfl rfl) (ed (N.len 13 rfl) ?_))))
   grind
 ·rw[hI];refine⟨0,fa,λ_=>none,fl,[],.ee,.ee,rfl,by omega,Sn.refl _ _,⟨λv x w hx=>?_,λs=>rfl,rfl,λs l k x a w hs hl=>?_,List.nodup_nil,λ_ h=>by cases h⟩,H0⟩
  ·rw[hc.row v x w hx];rfl
  ·exact X.loc s l k x a w hs hl
end
open Un Dm
section
variable{F F':Nat->Prop}{h h':Hp}{cs ds:List Pc}{Q:fo}{u:U}{wv wb ws jM num Gj:V}{lt Tt l1 T1 l2 l3 l4 T4 lm lb Tb lr Tr:Nat}{az:List Int}{ns:List Nat}{xs ys:List (Vl×V)}{Zy bs:List (Bk×V)}{fa fn:Nat->Option (List Nat×V)}{ss:List (List (Fm×V×V))}{fl:KF->Option (List Nat×V)}
def kOf(u:U)(A:Nat->Int)(bs:List (Bk×V))(b:Nat):Bk×V:=(kQ u A (u.blocks.getD b L7),NN bs b)
theorem zbf(g:xV u az)(hb:UP u.blocks Zy fn)(U:ss.map (λl=>l.map Prod.fst)=u.eh)(W:NbB u az u.blocks.length Zy bs){S:Int->Option V}{a:List (List (Fm×V×V))}{Eo:V}(ay:ns.length=u.ef.length)(ai:∀v,v<u.ef.length->ns[v]? =some (if v∈fq u (kV az) then(fq u (kV az)).idxOf v else 0))
  (X:YA ss (zQ ns az) (kF (qo u (fq u (kV az)))) S fl a)
  (H0:ei F h (Nx l1 T1 l4 T4 lt Tt num ns [.I u.func,.I u.pc,wv,wb,ws] jM az (Sx fl ss ws lm S lb Tb lr Tr l4 l1 l3 gS (.I u.func) (.I u.pc) Gj .ee Eo a
    (eJ wk gi xs wv::eJ tM fu bs wb::fG en fa::fG en fn::eJ wk gi ys Gj::eJ tM fu [] .ee::er l2 gS [.I 0,.I 0,.ee,.ee,.ee]::ds))))
  (H:∀h' S c a b Eo,Sn F h F h'->YA ss (zQ ns az) (Eu u (kV az)) S c a->
   ei F h' (Nx l1 T1 l4 T4 lt Tt num ns [.I u.func,.I u.pc,wv,wb,ws] jM az (Sx c ss ws lm S lb Tb lr Tr l4 l1 l3 gS (.I u.func) (.I u.pc) Gj b Eo a
    (eJ wk gi xs wv::eJ tM fu bs wb::fG en fa::fG en fn::eJ wk gi ys Gj::eJ tM fu ((List.range u.blocks.length).map (kOf u (kV az) Zy)) b::er l2 gS [.I u.func,.I u.pc,Gj,b,Eo]::ds)))->
   Q (.agg [.I u.func,.I u.pc,Gj,b,Eo]) h') :
  ki CS Q [.ptr l1 0,.ptr l2 0,.ptr l3 0,.ptr l4 0,.func fE [] [.ptr lb 0,.ptr l3 0,.ptr l1 0,.ptr lr 0],wb,.I bs.length,.I 0] h:=by
 have nv:=g.nv;have nb:=g.nb;have gl:=g.len;have Y:Zy.length=u.blocks.length:=by rw[<-hb.fst,BW]
 have Z:bs.length=u.blocks.length:=by rw[W.len,Y]
 have lss:ss.length=u.eh.length:=by rw[<-U,BW]
 obtain⟨A,hA⟩:∃A,kV az=A:=⟨_,rfl⟩
 have aj:∀v,v<u.ef.length->zQ ns az v=nm u A v:=λv hv=>by rw[<-hA];exact NW g ai hv
 rw[hA]at H X;have E:=W.row;rw[hA]at E
 obtain ⟨I,hI⟩:∃I:Nat->LP,I=λk l h'=>∃(i:Nat) (S:Int->Option V) (c:KF->Option (List Nat×V)) (a:List (List (Fm×V×V))) (b Eo:V),l=[.ptr l1 0,.ptr l2 0,.ptr l3 0,.ptr l4 0,.func fE [] [.ptr lb 0,.ptr l3 0,.ptr l1 0,.ptr lr 0],wb,.I bs.length,.I i]/\i+k=bs.length/\Sn F h F h'/\YA ss (zQ ns az) (kF (qo u (fq u A)++zV (u.blocks.take i))) S c a/\
   ei F h' (Nx l1 T1 l4 T4 lt Tt num ns [.I u.func,.I u.pc,wv,wb,ws] jM az (Sx c ss ws lm S lb Tb lr Tr l4 l1 l3 gS (.I u.func) (.I u.pc) Gj b Eo a
    (eJ wk gi xs wv::eJ tM fu bs wb::fG en fa::fG en fn::eJ wk gi ys Gj::eJ tM fu ((List.range i).map (kOf u A Zy)) b::er l2 gS [.I 0,.I 0,.ee,.ee,.ee]::ds))):=⟨_,rfl⟩
 refine Ab I (λk x1 x2 x3 x4 aA au aw ax h1 hi=>?_) (k:=bs.length) ?_
 ·rw [hI]at hi;obtain⟨i,S,c,a,b,Eo,⟨⟩,hk,s1,hN,J⟩:=hi;unfold rX;by_cases hi:i<bs.length
  ·refine gv ?_;obtain⟨⟨B,w⟩,K⟩:∃y,Zy[i]? =some y:=⟨_,ig (by omega)⟩
   have hB:u.blocks[i]? =some B:=by rw[<-hb.fst,AJ,K];rfl
   have aa:=E i B w K;rw[if_pos (by omega)]at aa;have ak:kOf u A Zy i=(kQ u A B,w):=by unfold kOf NN;rw[K,EN,hB];rfl
   have al:=BI hB;obtain⟨e1,e2⟩:=g.ends i B hB;obtain⟨lv,ov,wl,z1,z2,⟨t,x,rfl,iv,ip,w1⟩,_⟩:=J.VF 13 rfl aa .i64;have z1:gI 6 wb (.I i)=some (.ptr lv ov):=z1;refine ed z1 (ed z2 ?_);refine iH J rfl rfl (by simp only[lB,ev,iv.one,ip.one];simp only[show w.one=true from w1];rfl) λL f s2=>?_;generalize h1.next=lx at*;have iv:=iv.since s2;have ip:=ip.since s2;have f:ei F L (Nx l1 T1 l4 T4 lt Tt num ns [.I u.func,.I u.pc,wv,wb,ws] jM az (Sx c ss ws lm S lb Tb lr Tr l4 l1 l3 gS (.I u.func) (.I u.pc) Gj b Eo a (er lx 41 (lB {B with ef:=(B.ef.filter (stays A)).map (fq u A).idxOf} t w x)::_))):=f.Rz 12 (by simp)
   have M:∀R S2 C m z,Sn F L F R->YA ss (zQ ns az) (kF (qo u (fq u A)++zV (u.blocks.take (i+1)))) S2 C m->
     ei F R (Nx l1 T1 l4 T4 lt Tt num ns [.I u.func,.I u.pc,wv,wb,ws] jM az (Sx C ss ws lm S2 lb Tb lr Tr l4 l1 l3 gS (.I u.func) (.I u.pc) Gj b z m
      (er lx 41 (lB (kQ u A B) t w x)::eJ wk gi xs wv::eJ tM fu bs wb::fG en fa::fG en fn::eJ wk gi ys Gj::eJ tM fu ((List.range i).map (kOf u A Zy)) b::er l2 gS [.I 0,.I 0,.ee,.ee,.ee]::ds)))->
     iX CS Q (Bx I k) [.ptr l1 0,.ptr l2 0,.ptr l3 0,.ptr l4 0,.func fE [] [.ptr lb 0,.ptr l3 0,.ptr l1 0,.ptr lr 0],.ptr lx 0,wb,.I bs.length,.I i] R:=by
    intro R S2 C m z s3 hS H3;have am:=iv.since s3;have an:=ip.since s3;refine zf ?_;unfold qK;refine oF (H3.ld 10 rfl rfl) (ed (H3.C9 12 rfl rfl) ?_);rw[se (sz:=6) (w:=lB (kQ u A B) t w x) rfl rfl (by simp only[lB,ev,iv.one,ip.one];simp only[show w.one=true from w1];rfl),fw];obtain⟨p,N,e4,_,D,s4⟩:=H3.yI 18 rfl (kE:=96) (EI:=41) (y:=(kQ u A B,w)) (w:=lB (kQ u A B) t w x) (ro:=false) ⟨t,x,rfl,am,an,w1⟩ (by decide) (by decide) (by simp;omega);have O:eQ 41 6 96 b (.slice R.next 0 1) (R.new (.cells 41 6 true false (lB (kQ u A B) t w x)))=some (.val p N):=e4;rw[O,ej];simp only[jx,mZ]at D;obtain⟨h5,e5,_,T,s5⟩:=D.st 10 (o:=3) (u:=p) rfl (by simp) (D.one 18 rfl);refine ed pf ?_;have P:gG 1 (.ptr l3 (0+3)) p N=some (.val .undef h5):=by rw[wX];exact e5
    rw[P,ej];simp only[jx,mZ]at T;refine fM ⟨k-1,by omega,?_⟩;rw[hI];refine⟨i+1,S2,C,m,p,z,rfl,by omega,(((s1.trans s2).trans s3).trans s4).trans s5,hS,?_⟩;have H6:=T.KC 12 (by simp);rw[VX,Qi,Xb,Vy,ak];exact H6
   have s:zV (u.blocks.take (i+1))=zV (u.blocks.take i)++(if B.fin=3 then[B.state] else[]):=by
    rw[al];unfold zV;rw[List.filterMap_append,List.filterMap_cons];by_cases e:B.fin=3
    ·rw[if_pos e,if_pos e];rfl
    ·rw[if_neg e,if_neg e];rfl
   have ab:kF (qo u (fq u A)++zV (u.blocks.take (i+1))) <+: Eu u A:=by
    have:HX u A=(qo u (fq u A)++zV (u.blocks.take (i+1)))++zV (u.blocks.drop (i+1)):=by
     rw[MF,Jx];congr 1
     conv=>lhs;rw[<-WN (i+1) u.blocks]
     exact List.filterMap_append
    unfold Eu;rw[this];exact Fq _ _
   have j:(kQ u A B).cond=if B.fin=2 then nm u A B.cond else B.cond:=rfl
   have d:(kQ u A B).state=if B.fin=3 then(Eu u A).idxOf B.state else B.state:=rfl
   refine oF (f.ld 12 rfl rfl) (fP ?_);by_cases c2:B.fin=2
   ·rw [if_neg (show ¬B.fin=3 by omega),GD]at s;refine gw (by show(B.fin:Int)=2;omega) ?_;refine ed (f.ld 1 rfl rfl) (ed (f.ld 0 rfl rfl) (oF (f.ld 12 rfl rfl) ?_));refine HC f rfl (by omega) (by omega) g.sub (by rw[gl];exact e1 c2) λr q q1 q2=>⟨iZ _,ed q1 (ed q2 (ed pf ⟨f.ld 1 rfl rfl,?_⟩))⟩
    obtain⟨N,e4,n4,D,s4⟩:=f.st 12 (o:=2) (u:= .I (zQ ns az B.cond:Nat)) rfl (by simp[lB]) rfl;have O:gG 1 (.ptr lx (0+2)) (.I (zQ ns az B.cond:Nat)) L=some (.val .undef N):=by rw[wX];exact e4
    rw [show({B with ef:=(B.ef.filter (stays A)).map (fq u A).idxOf}:Bk).cond=B.cond from rfl,O,ej];simp only[jx,mZ]at D;have hq:(lB {B with ef:=(B.ef.filter (stays A)).map (fq u A).idxOf} t w x).set 2 (.I (zQ ns az B.cond:Nat))=lB (kQ u A B) t w x:=by
     unfold lB;rw[j,d,if_pos c2,if_neg (by omega),aj _ (e1 c2)];rfl
    rw[hq]at D;exact⟨n4,M N S c a Eo s4 (by rw[s];exact hN) D⟩
   ·refine fT (by show ¬(B.fin:Int)=2;omega) (fP ?_);by_cases c3:B.fin=3
    ·refine gw (by show(B.fin:Int)=3;omega) (oF (f.ld 12 rfl rfl) ?_);show cP CS fE [.I B.state,.ptr lb 0,.ptr l3 0,.ptr l1 0,.ptr lr 0] L _;obtain⟨sl,G⟩:∃sl,ss[B.state]? =some sl:=⟨_,ig (by have:=e2 c3;omega)⟩
     have ao:u.eh[B.state]? =some (sl.map Prod.fst):=by rw[<-U,AJ,G];rfl
     obtain⟨q1,q2⟩:=g.st _ _ ao;rw[BW]at q1;refine ML f hN (by omega) (by omega) g.sub G (by have:=g.ns;omega) q1 (λy hy=>?_) λN ap S4 ac ae s4 ag D=>?_
     ·obtain⟨r1,r2,r3,r4⟩:=q2 y.1 (wBU hy);rw[gl];exact⟨r1,r2,r3,r4⟩
     rw[if_pos c3]at s;have aq:T5 (kF (qo u (fq u A)++zV (u.blocks.take i))) B.state=kF (qo u (fq u A)++zV (u.blocks.take (i+1))):=by rw[s,<-Jx,wO];rfl
     rw [aq]at ag⊢;have ah:B.state∈kF (qo u (fq u A)++zV (u.blocks.take (i+1))):=(sr _ _).2 (by rw[s];simp);have ar:(kF (qo u (fq u A)++zV (u.blocks.take (i+1)))).idxOf B.state=(kQ u A B).state:=by
      rw[<-LD ab ah,d,if_pos c3]
     rw[ar];obtain⟨h5,e5,_,T,s5⟩:=D.st 12 (o:=5) (u:= .I ((kQ u A B).state:Nat)) rfl (by simp[lB]) rfl;refine ed pf ?_;have P:gG 1 (.ptr lx (0+5)) (.I ((kQ u A B).state:Nat)) N=some (.val .undef h5):=by rw[wX];exact e5
     rw [P,ej];simp only[jx,mZ]at T;have hq:(lB {B with ef:=(B.ef.filter (stays A)).map (fq u A).idxOf} t w x).set 5 (.I ((kQ u A B).state:Nat))=lB (kQ u A B) t w x:=by
      unfold lB;rw[j,if_neg c2];rfl
     rw[hq]at T;exact M h5 S4 ap ac ae (s4.trans s5) ag T
    ·refine fT (by show ¬(B.fin:Int)=3;omega) (M L S c a Eo (Sn.refl _ _) ?_ ?_)
     ·rw[s,if_neg c3,GD];exact hN
     ·have:lB (kQ u A B) t w x=lB {B with ef:=(B.ef.filter (stays A)).map (fq u A).idxOf} t w x:=by
       unfold lB;rw[j,d,if_neg c2,if_neg c3];rfl
      rw[this];exact f
  ·refine ir ?_;obtain rfl:i=bs.length:=by omega
   refine ed (J.C9 10 rfl rfl) ?_;obtain⟨L,e2,_,f,s2⟩:=J.Y0 18 (ws:=[.I u.func,.I u.pc,Gj,b,Eo]) (n:=5) rfl rfl rfl (by simp only[ev,J.one 16 rfl,J.one 17 rfl,J.one 11 rfl];rfl);rw[e2,ej];simp only[jx,mZ]at f;refine ed (f.C9 18 rfl rfl) ?_;rw[Z,Js]at hN;rw[Z]at f;exact H L S c a b Eo (s1.trans s2) hN f
 ·rw[hI];exact⟨0,S,fl,a,.ee,Eo,rfl,by omega,Sn.refl _ _,by rw[wB5];show YA _ _ (kF (_++[])) _ _ _;rw[GD];exact X,H0⟩
end
open Un Dm
section
variable{F F':Nat->Prop}{h h':Hp}{cs ds:List Pc}{Q:fo}{u:U}{wv wb ws jM:V}{lt Tt:Nat}{az:List Int}{xs:List (Vl×V)}{bs:List (Bk×V)}{fa fn:Nat->Option (List Nat×V)}{ss:List (List (Fm×V×V))}{fl:KF->Option (List Nat×V)}
theorem ei.Py(H:ei F h cs)(n:Nat):∃G,ei G h (cs.drop n)/\Sn F h G h/\∀(i:Nat)(c:Pc),i<n->cs[i]? =some c->∀l,c.kX l->G l:=by
 have g:∀{i:Nat} {c:Pc},(cs.take n)[i]? =some c->i<n/\cs[i]? =some c:=by grind
 refine⟨λl=>F l\/Jw (cs.take n) l,⟨λl a=>a.elim (H.fl l) λ⟨i,c,hc,e⟩=>(c.L0 (H.ok i c (g hc).2) l e).1,λi c hc=>?_,λi j c d hc b m=>?_⟩,⟨iZ _,by simp_all,by simp_all⟩,λi c hi hc l a=> .inr ⟨i,c,by rw[wBW hi];exact hc,a⟩⟩
 ·rw[wBn]at hc;refine c.mono (H.ok _ c hc) (by simp_all) λl a f=>?_;rcases f with f|⟨j,d,b,e⟩
  ·exact(c.L0 (H.ok _ c hc) l a).2 f
  ·obtain⟨o,k⟩:=g b;exact H.BS (n+i) j c d hc k (by omega) l a e
 ·rw[wBn]at hc b;exact H.BS (n+i) (n+j) c d hc b (by omega)
section
variable{G:Nat->Prop}
theorem iA.ofRow{α β:Type}{E:pG α} {E':pG β}(H:ei F h cs)(i:Nat){ty:Nat}{xs:List α}{ys:List β}{v:V}(hi:cs[i]? =some (eJ E ty xs v))(j:∀l,F l->G l)(m:∀l,Loc v l->G l)(f:E'.sz=E.sz)(g:ys.length=xs.length)(b:∀(k:Nat) x y cs,xs[k]? =some x->ys[k]? =some y->E.rel F h x cs->E'.rel G h y cs):iA E' G h ys v:=by
 have c:=(jq.1 hi).1;exact((H.Up (E':=E.fix F h) i hi rfl rfl λk x y cs d a b=>by rw[d]at a;cases a;exact b).row i (MT c)).read.Up f (by grind) g λk x y cs d a e=>b k x y cs d a e
theorem Jo(H:ei F h cs)(j:Nat){ι:Type}{ty:Nat}{f:ι->Option (List Nat×V)}(a:cs[j]? =some (fG ty f))(b:∀l,F l->G l)(c:∀l,(fG ty f).kX l->G l){i:ι}{xs:List Nat}{v:V}(hi:f i=some (xs,v)):iA eN G h xs v:=
 (H.rows j a hi).Xp b λl d=>c l ⟨i,xs,v,hi,d⟩
end
theorem PL(g:xV u az)(hc:WJ u.ef xs fa)(t:UP u.blocks bs fn)(m:Y9 u.eh ss fl)
  (H0:ei F h (eJ wk gi xs wv::eJ tM fu bs wb::fG en fa::fG en fn::eJ eZ en az jM::er lt Tt [.I u.func,.I u.pc,wv,wb,ws,jM]::eJ (eL Oi) kS ss ws::fG en fl::cs))
  (H:∀F' h' vv vb vs,Sn F h F' h'->ei F' h' (eJ eV gi (gR u (kV az)).ef vv::eJ eK fu (gR u (kV az)).blocks vb::cs)->iA (eL eF) F' h' (gR u (kV az)).eh vs->Q (.agg (uC (gR u (kV az)) vv vb vs)) h') :
  cP CS j7 [.ptr lt 0] h Q:=by
 refine Ph g hc t H0 λF1 h1 l1 T1 l2 l3 l4 T4 lm lb Tb lr Tr num ns ab ac s1 P A e H1=>?_;refine zbI g hc m A e H1 λh2 ae S2 ag Z Gj Eo s2 hN H2=>?_;have C:=hN.st;rw[Js]at C;refine zbf g t m.fst P A e C H2 λR S3 ah aa S D s3 O q=>?_;have Hp:=q.perm [0,1,2,3,4,5,6,7,8,9,10,11,12,13,14,15,18,19,16,17] 20 (by decide) (by decide) (by simp);obtain⟨G,H4,s4,E⟩:=Hp.Py 18;have r:∀l,F1 l->G l:=λl hl=>s4.mono l hl;have H5:=H4.Up 0 (E':=eV) (ys:=(gR u (kV az)).ef) rfl rfl (by simp[gR]) λk x y ws c b i=>by
  rw[AJ]at c;have b:((fq u (kV az)).map λn=>gX u (kV az) (u.ef.getD n YW))[k]? =some y:=b;rw[AJ]at b
  cases hk:(fq u (kV az))[k]? with
  |none=>simp_all
  | some n=>
    rw[hk]at c b;cases c;cases b;obtain⟨rfl,_⟩:=i;have T:=Ez g.jA (AI hk);obtain⟨⟨x,w⟩,o⟩:∃y,xs[n]? =some y:=⟨_,ig (by rw[<-BW (f:=Prod.fst),hc.fst];exact T)⟩
    have I:u.ef[n]? =some x:=by rw[<-hc.fst,AJ,o];rfl
    have U:Xg u (kV az) xs n=(gX u (kV az) x,w):=by unfold Xg wV;rw[o,EN,I];rfl
    have J:=hN.row n x w o;rw[Js,if_pos (AI hk)]at J;have V:u.ef.getD n YW=x:=by rw[EN,I];rfl
    show eV.rel G R (gX u (kV az) (u.ef.getD n YW)) _;rw[U,V];exact⟨w,rfl,Jo q 14 rfl r (E 14 _ (by decide) rfl) J⟩
 have H6:=H5.Up 1 (E':=eK) (ys:=(gR u (kV az)).blocks) rfl rfl (by simp[gR]) λk x y ws c b i=>by
  rw[AJ]at c;have b:(u.blocks.map (kQ u (kV az)))[k]? =some y:=b;rw[AJ]at b
  cases hB:u.blocks[k]? with
  |none=>simp_all
  | some B=>
    rw[hB]at b;cases b;have K:=(jq.1 hB).1;rw[List.getElem?_range K]at c;cases c;obtain⟨⟨B',w⟩,p⟩:∃y,bs[k]? =some y:=⟨_,ig (by rw[<-BW (f:=Prod.fst),t.fst];exact K)⟩
    have L:u.blocks[k]? =some B':=by rw[<-t.fst,AJ,p];rfl
    rw[hB]at L;cases L;have W:kOf u (kV az) bs k=(kQ u (kV az) B,w):=by unfold kOf NN;rw[p,EN,hB];rfl
    rw[W]at i;obtain⟨bv,bp,rfl,iv,ip,_⟩:=i;exact⟨bv,w,bp,rfl,iv,Jo q 15 rfl r (E 15 _ (by decide) rfl) (t.row k B w p),ip⟩
 refine H G R Gj S D (((s1.trans s2).trans s3).trans s4) H6 ?_;refine iA.ofRow q 11 rfl r (E 11 _ (by decide) rfl) rfl (by simp[gR,O.out]) λk x y ws c b i=>?_;rw[O.out,AJ]at c;have b:((Eu u (kV az)).map λs=>(u.eh.getD s []).map (Us u (kV az)))[k]? =some y:=b;rw[AJ]at b
 cases hk:(Eu u (kV az))[k]? with
 |none=>simp_all
 | some s=>
   rw[hk]at c b;cases c;cases b;have M:=AI hk;have ai:=O.lt s M;obtain⟨l,d⟩:∃l,ss[s]? =some l:=by simp_all
   have N:u.eh[s]? =some (l.map Prod.fst):=by rw[<-m.fst,AJ,d];rfl
   have g1:ss.getD s []=l:=by rw[EN,d];rfl
   have g2:u.eh.getD s []=l.map Prod.fst:=by rw[EN,N];rfl
   show(eL eF).rel G R ((u.eh.getD s []).map (Us u (kV az))) ws;rw[g2];obtain⟨f,rfl,X⟩:=i;dsimp only at X;rw[g1]at X;refine⟨f,rfl,X.Up rfl r (by simp) λj z y cs hz b i=>?_⟩;rw[List.map_map,AJ,hz]at b;cases b;obtain⟨z,a,w⟩:=z;obtain⟨rfl,_,_⟩:=i;obtain⟨r1,r2⟩:=O.rows s l j z a w d hz;rw[if_pos M]at r1 r2;obtain⟨_,q2⟩:=g.st s _ N;obtain⟨_,_,q3,q4⟩:=q2 z (by grind);rw[UL λv Y=>NW g e (q3 v Y)]at r1;rw[UL λv Y=>NW g e (q4 v Y)]at r2;exact⟨a,w,rfl,Jo q 5 rfl r (E 5 _ (by decide) rfl) r1,Jo q 5 rfl r (E 5 _ (by decide) rfl) r2⟩
end
section
variable{F:Nat->Prop}{h:Hp}{cs:List Pc}{u:U}{wv wb ws:V}{xs:List (Vl×V)}{bs:List (Bk×V)}{ss:List (List (Fm×V×V))}{fa fn:Nat->Option (List Nat×V)}{fl:KF->Option (List Nat×V)}
end
open Un Dm
section
variable{F F':Nat->Prop}{h h':Hp}{cs ds:List Pc}{Q:fo}{u:U}{vv vb vs jM:V}{az:List Int}
theorem O0(g:PM u)(B:Ey u)(m:az.length=u.ef.length)(C:∀kp u' kL seen post,E3 u.blocks.length (next u) seen post []->kp=(λb=>post.reverse.contains b)->Cut u kp u'->Jc u kp az kL->xV u' kL)
  (r:ei F h (eJ eZ en az jM::cs)) (s:CL F h u vv vb vs)
  (H:∀F' h' kp u' kL seen post wv wb ws,Sn F h F' h'->ei F' h' (eJ eV gi (gR u' (kV kL)).ef wv::eJ eK fu (gR u' (kV kL)).blocks wb::cs)->E3 u.blocks.length (next u) seen post []->kp=(λb=>post.reverse.contains b)->Cut u kp u'->Jc u kp az kL->iA (eL eF) F' h' (gR u' (kV kL)).eh ws->Q (.agg (uC (gR u' (kV kL)) wv wb ws)) h') :
  cP CS wh [.agg (uC u vv vb vs),jM] h Q:=by
 refine QK rfl rfl ?_;unfold KL;refine nQ r s.one λD E v=>Ec E λh2 w x=>?_;generalize h.next=l1 at*;generalize D.next=l2 at*;have u2:=(s.since v).since x;refine ed (w.C9 1 rfl rfl) ?_;refine Sk g w u2 λF3 I wv wb ws xs bs ss fa fn fl J hc K hs e=>?_;have L:fR [.I 0,.I 0,.ee,.ee,.ee,.ee] [(0,5),(5,1)] [(0,V.agg (uC u wv wb ws)),(1,jM)]=some (V.agg [.I u.func,.I u.pc,wv,wb,ws,jM]):=by
  rcases r.row 0 rfl with⟨rfl,_⟩|⟨t,M,rfl,_⟩ <;> rfl
 refine ed L ?_;refine nQ e (by simp only[ev,e.one 0 rfl,e.one 1 rfl,e.one 2 rfl,e.one 8 rfl];rfl) λh4 N O=>?_;generalize I.next=lt at*;have P:=N.perm [1,2,4,5,9,0,3,6,7,8] 10 (by decide) (by decide) (by simp);refine Ue B hc K m (e.one 2 rfl) P λF6 h6 seen post kp u' R S T U kL W X G f a o p i y=>?_;have gn:=C kp u' kL seen post G f a i;have Y:=a.func;have Z:=a.pc;rw[<-Y,<-Z]at y;refine PL gn o p (by rw[a.eh];exact hs) y λz h7 c d j s7 k l=>?_;have k:ei z h7 (eJ eV gi (gR u' (kV kL)).ef c::eJ eK fu (gR u' (kV kL)).blocks d::er l2 gS _::er l1 gS _::cs):=k;obtain⟨h8,e8,_,q,A⟩:=k.Y0 2 (ws:=uC (gR u' (kV kL)) c d j) (n:=5) rfl rfl rfl (by simp only[uC,ev,k.one 0 rfl,k.one 1 rfl,l.one];rfl);rw[e8,ej];simp only[jx,mZ]at q;refine ed (q.C9 2 rfl rfl) ?_;have H9:=q.perm [2,3,0,1] 4 (by decide) (by decide) (by simp);exact H z h8 kp u' kL seen post c d j ((((((v.trans x).trans J).trans O).trans X).trans s7).trans A) H9.tail.tail G f a i (l.since A)
theorem VR(g:PM u)(j:Ey u)(c:az.length=u.ef.length)(k:∀kp u' kL seen post,E3 u.blocks.length (next u) seen post []->kp=(λb=>post.reverse.contains b)->Cut u kp u'->Jc u kp az kL->xV u' kL)
  (l:ei F h (eJ eZ en az jM::cs)) (m:CL F h u vv vb vs)
  (H:∀F' h' kp u' kL seen post wv wb ws,Sn F h F' h'->ei F' h' cs->E3 u.blocks.length (next u) seen post []->kp=(λb=>post.reverse.contains b)->Cut u kp u'->Jc u kp az kL->CL F' h' (gR u' (kV kL)) wv wb ws->Q (.agg (uC (gR u' (kV kL)) wv wb ws)) h') :
  cP CS wh [.agg (uC u vv vb vs),jM] h Q:=
 O0 g j c k l m λF' h' kp u' kL seen post wv wb ws n o G d a e r1=>by
  obtain⟨p,i,r2⟩:=o.jQ 0 rfl;obtain⟨q,f,r3⟩:=p.jQ 1 rfl;exact H _ h' kp u' kL seen post wv wb ws ((n.trans i).trans f) q.tail.tail G d a e ⟨r2.since f,r3,(r1.since i).since f⟩
theorem NP{n:Nat}{nx:Nat->List Nat}{seen:List Bool}{post:List Nat}(G:E3 n nx seen post []):∀{b:Nat}{l:List Nat},Pt nx b l->b∈post
 | _,_,.nil=>by
   obtain⟨p,c⟩:=G.last rfl
   simp_all
 | _,_,.step h e=>by
   rcases(G.iff _).1 (G.closed _ (NP G h) _ e)with a|a
   ·exact a
   simp_all
theorem Nh(g:Good u)(f:yP u):Ey u:=⟨Io g,g.nv,g.Hy,g.jA,λb B a=>⟨Gt g a,λp c=>by
 rw[g.ez b B a]at c;obtain⟨q,j,d,_,e⟩:=tj.1 c
 grind⟩,λv b k x B d h e i=>(g.By v b k x B d h e i).2,f⟩
theorem Nd{P:Nat->Prop}(g:Gd u P)(o:yP u)(j:az.length=u.ef.length)(d:∀(v:Nat)(a:Int),az[v]? =some a->a<az.length):xV u az where
 nv:=g.nv
 nb:=g.nb
 ns:=g.ns
 once:=g.Hy
 jA:=g.jA
 len:=j
 sub:=d
 parts v x hx:=by
  have c:∀w∈g0 x,w<u.ef.length:=λw p=>Ht (g.use v x hx w p);unfold g0 at c;refine⟨o v x hx,?_⟩;by_cases e:x.op=21
  ·rw[if_pos e]at c;have q:two x.op=false:=by rw[e];rfl
   have r:nP x.op=false:=by rw[e];rfl
   exact⟨by simp_all,by simp_all,λ_=>c,g.leave v x hx⟩
  ·rw [if_neg e]at c;by_cases c2:x.op=20
   ·rw[if_pos c2]at c;have i:=g.putAt v x hx c2;rw[Xj (by omega)]at c;exact⟨by simp_all,by simp_all,by simp_all,g.leave v x hx⟩
   ·rw [if_neg c2]at c;refine⟨λh=>?_,λh=>?_,by omega,g.leave v x hx⟩
    ·by_cases t:two x.op=true
     ·simp_all
     simp_all
    simp_all
 ends b B hB:=by
  rcases g.fin b B hB with⟨i,_⟩|⟨i,_,k⟩|⟨i,_,k⟩
  ·omega
  ·grind[Ht]
  omega
 st s fs hfs:=by
  obtain⟨i,k⟩:=Ek g s fs hfs;refine⟨by omega,λf l=>?_⟩;obtain⟨y,z⟩:=k f l;have n:=TC g hfs;refine⟨by omega,by omega,λv m=>n v ?_,λv m=>n v ?_⟩
  ·exact W9.2 ⟨f,l,Wn _ m⟩
  ·exact W9.2 ⟨f,l,List.mem_append_right _ m⟩
end
