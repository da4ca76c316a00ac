/- Parts. -/
import Derived.Test.YtpfjdlicdljhaaaDoorM30
set_option maxHeartbeats 4000000
namespace Go.Proofs.YtpfjdlicdljhaaaDoor.Hx
open Un Dm
def TA:Vl:=⟨0,0,0,0,[],0⟩
def wV(xs:List (Vl×V))(n:Nat):V:=match xs[n]? with
 |some x=>x.2
 |none=> .undef
def Sc(u:U)(A:Nat->Int)(xs:List (Vl×V))(n:Nat):Vl×V:=(eO u A (u.cR.getD n TA),wV xs n)
section
variable{F F':Nat->Prop}{h h':Hp}{cs ds:List Pc}{Q:dg}{u:U}{wv wb ws gS num:V}{lt Tt l1 T1 l2 l3 l4 T4 lm lb Tb lr Tr:Nat}{az:List Int}{ns:List Nat}{xs:List (Vl×V)}{bs:List (Bk×V)}{fa fn:Nat->Option (List Nat×V)}{ss:List (List (Fm×V×V))}{fl:KF->Option (List Nat×V)}
theorem Jy(g:ug u az)(a:∀v,v<u.cR.length->ns[v]? =some (if v∈de u (iM az) then(de u (iM az)).idxOf v else 0)){v:Nat}(d:v<u.cR.length):wm ns az v=nm u (iM az) v:=by
 have b:=LN («as»:=iM az) (n:=u.cR.length) (λw e=>by
  have c:=fg (show w<az.length by rw[g.len];exact e);have f:=g.sub w _ c;rw[Nf c];have:=g.len;omega) (u.cR.length+1) v d
 unfold wm nm;rw[g.len,Au,a _ b];rfl
structure NV (u:U) (az:List Int) (ns:List Nat) (xs:List (Vl×V)) (ss:List (List (Fm×V×V))) (i:Nat) (fa:Nat->Option (List Nat×V)) (S:Int->Option V) (fl:KF->Option (List Nat×V)) (a:List (List (Fm×V×V))):Prop where
 row:∀v x w,xs[v]? =some (x,w)->fa v=some (if v∈(de u (iM az)).take i then(eO u (iM az) x).args else x.args,w)
 st:Sl ss (wm ns az) (iy (mC u ((de u (iM az)).take i))) S fl a
theorem W1(g:ug u az)(hc:Rt u.cR xs fa)(X:Uc u.cZ ss fl){j:V}(aD:ns.length=u.cR.length)(aE:∀v,v<u.cR.length->ns[v]? =some (if v∈de u (iM az) then(de u (iM az)).idxOf v else 0))
  (H0:cS F h (Nx l1 T1 l4 T4 lt Tt num ns [.I u.func,.I u.pc,wv,wb,ws] gS az (Sx fl ss ws lm (λ_=>none) lb Tb lr Tr l4 l1 l3 fA (.I u.func) (.I u.pc) .cQ .cQ .cQ []
    (cW sr dP xs wv::cW qe dm bs wb::dk cT fa::dk cT fn::cW sr dP [] .cQ::cW qe dm [] .cQ::cV l2 fA [.I 0,.I 0,.cQ,.cQ,.cQ]::cW eN cT (de u (iM az)) j::cs))))
  (H:∀h' m S p t Ce A7,Sn F h F h'->NV u az ns xs ss (de u (iM az)).length m S p t->
   cS F h' (Nx l1 T1 l4 T4 lt Tt num ns [.I u.func,.I u.pc,wv,wb,ws] gS az (Sx p ss ws lm S lb Tb lr Tr l4 l1 l3 fA (.I u.func) (.I u.pc) Ce .cQ A7 t
    (cW sr dP xs wv::cW qe dm bs wb::dk cT m::dk cT fn::cW sr dP ((de u (iM az)).map (Sc u (iM az) xs)) Ce::cW qe dm [] .cQ::cV l2 fA [.I 0,.I 0,.cQ,.cQ,.cQ]::cW eN cT (de u (iM az)) j::cs)))->
   iq CS Q [.ptr l1 0,.ptr l2 0,.ptr l3 0,.ptr l4 0,.func dh [] [.ptr lb 0,.ptr l3 0,.ptr l1 0,.ptr lr 0],wb,.I bs.length,.I 0] h') :
  ik CS Q [.ptr l1 0,.ptr l2 0,.ptr l3 0,.ptr l4 0,.ptr lr 0,.func dh [] [.ptr lb 0,.ptr l3 0,.ptr l1 0,.ptr lr 0],j,.I ((de u (iM az)).length:Nat),.I 0] h:=by
 have nv:=g.nv;have gl:=g.len;have aF:xs.length=u.cR.length:=by rw[<-hc.fst,yn]
 have lss:ss.length=u.cZ.length:=by rw[<-X.fst,yn]
 obtain⟨A,hA⟩:∃A,iM az=A:=⟨_,rfl⟩
 have aG:∀v,v<u.cR.length->wm ns az v=nm u A v:=by grind[Jy]
 have au:=uc («as»:=A) g.once;have aH:(de u A).length<=u.cR.length:=gq _ _ au λv hv=>AV g.gz hv
 obtain ⟨I,hI⟩:∃I:Nat->LP,I=λk l h'=>∃(i:Nat) (m:Nat->Option (List Nat×V)) (S:Int->Option V) (p:KF->Option (List Nat×V)) (t:List (List (Fm×V×V))) (Ce A7:V),l=[.ptr l1 0,.ptr l2 0,.ptr l3 0,.ptr l4 0,.ptr lr 0,.func dh [] [.ptr lb 0,.ptr l3 0,.ptr l1 0,.ptr lr 0],j,.I ((de u A).length:Nat),.I i]/\i+k=(de u A).length/\Sn F h F h'/\NV u az ns xs ss i m S p t/\
   cS F h' (Nx l1 T1 l4 T4 lt Tt num ns [.I u.func,.I u.pc,wv,wb,ws] gS az (Sx p ss ws lm S lb Tb lr Tr l4 l1 l3 fA (.I u.func) (.I u.pc) Ce .cQ A7 t
    (cW sr dP xs wv::cW qe dm bs wb::dk cT m::dk cT fn::cW sr dP (((de u A).take i).map (Sc u A xs)) Ce::cW qe dm [] .cQ::cV l2 fA [.I 0,.I 0,.cQ,.cQ,.cQ]::cW eN cT (de u A) j::cs))):=⟨_,rfl⟩
 rw[hA]at H0 H⊢;refine xd I (λk x1 x2 x3 x4 aI aJ aK aL aM h1 hi=>?_) (k:=(de u A).length) ?_
 ·rw [hI]at hi;obtain⟨i,m,S,p,t,Ce,A7,⟨⟩,hk,s1,hN,N⟩:=hi;unfold oO;by_cases hi:i<(de u A).length
  ·refine dZ ?_;have hx:=fg hi;have Y:=zi hx;have aN:=AV g.gz (ym hi);have aw:(de u A)[i] ∉ (de u A).take i:=by grind[kh,gL,JQ,X2,my]
   generalize (de u A)[i]=n at*;obtain⟨⟨x,w⟩,O⟩:∃y,xs[n]? =some y:=by simp_all
   have Z:u.cR[n]? =some x:=by rw[<-hc.fst,w5,O];rfl
   have ax:Sc u A xs n=(eO u A x,w):=by unfold Sc wV;rw[O,Au,Z];rfl
   obtain ⟨p1,p2,p3,p4,p5⟩:=g.parts n x Z;obtain⟨la,oa,y1,y2⟩:=N.E2 19 rfl hx .i64;obtain⟨lv,ov,wl,z1,z2,⟨rfl,w1⟩,_⟩:=N.RC 12 rfl O .i64;have z1:eX 6 wv (.I n)=some (.ptr lv ov):=z1;refine cO y1 (cO y2 (cO (N.ld 0 rfl rfl) (cO pn (cO pf (oF (N.ld 2 rfl rfl) (cO z1 (cO z2 ?_)))))));refine fo N rfl rfl (by simp only[kN,cY];simp only[show w.one=true from w1];rfl) λh2 L s2=>?_;generalize h1.next=lx at*;have L:cS F h2 (Nx l1 T1 l4 T4 lt Tt num ns [.I u.func,.I u.pc,wv,wb,ws] gS az (Sx p ss ws lm S lb Tb lr Tr l4 l1 l3 fA (.I u.func) (.I u.pc) Ce .cQ A7 t (cV lx 38 (kN x w)::_))):=L.Mc 12 (by simp);have ab:∀d:Nat->Option (List Nat×V),(∀v,v≠n->d v=m v)->d n=some ((eO u A x).args,w)->∀v y b,xs[v]? =some (y,b)->d v=some (if v∈(de u A).take (i+1) then(eO u A y).args else y.args,b):=λd h1 h2 v y b hv=>by
    rw[Y];by_cases e:v=n
    ·simp_all
    ·rw[h1 v e];have:=hN.row v y b hv
     simp_all
   have ac:m n=some (x.args,w):=by
    have:=hN.row n x w O;rw[hA,if_neg aw]at this;exact this
   have ae:=hN.st;rw[hA]at ae
   have ag:∀f d S2 P C G,Sn F h F f->(∀v,v≠n->d v=m v)->d n=some ((eO u A x).args,w)->Sl ss (wm ns az) (iy (mC u ((de u A).take (i+1)))) S2 P C->
     cS F f (Nx l1 T1 l4 T4 lt Tt num ns [.I u.func,.I u.pc,wv,wb,ws] gS az (Sx P ss ws lm S2 lb Tb lr Tr l4 l1 l3 fA (.I u.func) (.I u.pc) Ce .cQ G C
      (cV lx 38 (kN (eO u A x) w)::cW sr dP xs wv::cW qe dm bs wb::dk cT d::dk cT fn::cW sr dP (((de u A).take i).map (Sc u A xs)) Ce::cW qe dm [] .cQ::cV l2 fA [.I 0,.I 0,.cQ,.cQ,.cQ]::cW eN cT (de u A) j::cs)))->
     g9 CS Q (xR I k) [.ptr l1 0,.ptr l2 0,.ptr l3 0,.ptr l4 0,.ptr lr 0,.func dh [] [.ptr lb 0,.ptr l3 0,.ptr l1 0,.ptr lr 0],.ptr lx 0,j,.I ((de u A).length:Nat),.I i] f:=by
    intro f d S2 P C G M R T hS z;refine vy ?_;unfold nz;refine oF (z.ld 10 rfl rfl) (cO (z.zt 12 rfl rfl) ?_);rw[qv (sz:=6) (w:=kN (eO u A x) w) rfl rfl (by simp only[kN,cY];simp only[show w.one=true from w1];rfl),dC];obtain⟨D,E,e4,_,B,U⟩:=z.Cq 17 rfl (ic:=64) (wF:=38) (y:=(eO u A x,w)) (w:=kN (eO u A x) w) (ro:=false) ⟨rfl,w1⟩ (by decide) (by decide) (by simp;omega);have J:c9 38 6 64 Ce (.slice f.next 0 1) (f.new (.cells 38 6 true false (kN (eO u A x) w)))=some (.val D E):=e4;rw[J,cU];simp only[fY,jq]at B;obtain⟨h5,e5,_,H5,s5⟩:=B.st 10 (o:=2) (u:=D) rfl (by simp) (B.one 17 rfl);refine cO pf ?_;have aa:fk 1 (.ptr l3 (0+2)) D E=some (.val .undef h5):=by rw[yD];exact e5
    rw[aa,cU];simp only[fY,jq]at H5;refine du ⟨k-1,by omega,?_⟩;rw[hI];refine⟨i+1,d,S2,P,C,D,G,rfl,by omega,(M.trans U).trans s5,⟨λv y b hv=>by rw[hA];exact ab d R T v y b hv,by simp_all⟩,?_⟩;have H6:=H5.FD 12 (by simp);rw[Y,LX,PR,OG,ax];exact H6
   have ah:mC u ((de u A).take (i+1))=mC u ((de u A).take i)++(if leaves x.op=true then[x.state] else[]):=by
    rw[Y];unfold mC;rw[List.filterMap_append,List.filterMap_cons];simp only[Z];by_cases e:leaves x.op=true
    ·grind
    ·grind
   have ai:iy (mC u ((de u A).take (i+1))) <+: AN u A:=by
    have:DS u A=mC u ((de u A).take (i+1))++(mC u ((de u A).drop (i+1))++wq u.blocks):=by
     rw[Ir,<-Hq];congr 1
     conv=>lhs;rw[<-Sj (i+1) (de u A)]
     exact List.filterMap_append
    unfold AN;rw[this];exact BH _ _
   have aj:∀f d,Sn F h F f->(∀v,v≠n->d v=m v)->d n=some ((eO u A x).args,w)->
     cS F f (Nx l1 T1 l4 T4 lt Tt num ns [.I u.func,.I u.pc,wv,wb,ws] gS az (Sx p ss ws lm S lb Tb lr Tr l4 l1 l3 fA (.I u.func) (.I u.pc) Ce .cQ A7 t
      (cV lx 38 (kN {x with a:=(eO u A x).a,b:=(eO u A x).b} w)::cW sr dP xs wv::cW qe dm bs wb::dk cT d::dk cT fn::cW sr dP (((de u A).take i).map (Sc u A xs)) Ce::cW qe dm [] .cQ::cV l2 fA [.I 0,.I 0,.cQ,.cQ,.cQ]::cW eN cT (de u A) j::cs)))->
     gX CS Q (xR I k) [.ptr l1 0,.ptr l2 0,.ptr l3 0,.ptr l4 0,.ptr lr 0,.func dh [] [.ptr lb 0,.ptr l3 0,.ptr l1 0,.ptr lr 0],.ptr lx 0,j,.I ((de u A).length:Nat),.I i] f:=by
    intro f d M R T z;refine vH ?_;unfold nt;refine oF (z.ld 12 rfl rfl) (DP (fK ?_));by_cases hlv:leaves x.op=true
    ·refine ei hlv (oF (z.ld 12 rfl rfl) ?_);show cP CS dh [.I x.state,.ptr lb 0,.ptr l3 0,.ptr l1 0,.ptr lr 0] f _;obtain⟨sl,W⟩:∃sl,ss[x.state]? =some sl:=⟨_,fg (by have:=p5 hlv;omega)⟩
     have ay:u.cZ[x.state]? =some (sl.map Prod.fst):=by rw[<-X.fst,w5,W];rfl
     obtain⟨q1,q2⟩:=g.st _ _ ay;rw[yn]at q1;refine IH z ae (by omega) (by omega) g.sub W (by have:=g.ns;omega) q1 (λy hy=>?_) λE aA S4 ak al U am B=>?_
     ·grind
     rw[if_pos hlv]at ah;have aB:Po (iy (mC u ((de u A).take i))) x.state=iy (mC u ((de u A).take (i+1))):=by rw[ah,sR];rfl
     rw[aB]at am⊢;have an:x.state∈iy (mC u ((de u A).take (i+1))):=(by grind[pj])
     have aC:(iy (mC u ((de u A).take (i+1)))).idxOf x.state=(eO u A x).state:=by
      rw[<-GX ai an];show _=if leaves x.op=true then(AN u A).idxOf x.state else x.state
      rw[if_pos hlv]
     rw[aC];obtain⟨h5,e5,_,H5,s5⟩:=B.st 12 (o:=5) (u:= .I ((eO u A x).state:Nat)) rfl (by simp[kN]) rfl;refine cO pf ?_;have aa:fk 1 (.ptr lx (0+5)) (.I ((eO u A x).state:Nat)) E=some (.val .undef h5):=by rw[yD];exact e5
     rw[aa,cU];simp only[fY,jq]at H5;exact ag h5 d S4 aA ak al ((M.trans U).trans s5) R T am H5
    ·refine dM hlv (ag f d S p t A7 M R T ?_ ?_)
     ·grind
     ·have hs:(eO u A x).state=x.state:=if_neg hlv
      grind[kN,eO]
   have ao:∀f,Sn F h F f->cS F f (Nx l1 T1 l4 T4 lt Tt num ns [.I u.func,.I u.pc,wv,wb,ws] gS az (Sx p ss ws lm S lb Tb lr Tr l4 l1 l3 fA (.I u.func) (.I u.pc) Ce .cQ A7 t
      (cV lx 38 (kN {x with a:=(eO u A x).a,b:=(eO u A x).b} w)::cW sr dP xs wv::cW qe dm bs wb::dk cT m::dk cT fn::cW sr dP (((de u A).take i).map (Sc u A xs)) Ce::cW qe dm [] .cQ::cV l2 fA [.I 0,.I 0,.cQ,.cQ,.cQ]::cW eN cT (de u A) j::cs)))->
     g0 CS Q (xR I k) [.ptr l1 0,.ptr l2 0,.ptr l3 0,.ptr l4 0,.ptr lr 0,.func dh [] [.ptr lb 0,.ptr l3 0,.ptr l1 0,.ptr lr 0],.ptr lx 0,j,.I ((de u A).length:Nat),.I i] f:=by
    intro f M z;refine wc ?_;unfold mH;refine oF (z.ld 12 rfl rfl) (ev ?_);have e0:df (.ptr lx (0+0)) f=some (.I x.op):=z.ld 12 rfl rfl;have eq:kI (V.bool (decide ((x.op:Int)=21))) (oB (dE 0 (.ptr lx 0)) λap=>oB (df ap f) λaq=>cX .eql 3 aq (V.I 20))=some (.bool (decide (x.op=21\/x.op=20))):=by
     rw[pf,c0,e0,c0,fx,jG];congr 2;by_cases c1:x.op=21
     ·grind
     ·grind
    refine cO eq (fK ?_);have K:(eO u A x).args=if x.op=21\/x.op=20 then x.args.map (nm u A) else x.args:=rfl
    by_cases c:x.op=21\/x.op=20
    ·refine ei (Ka c) (cO (z.ld 9 rfl rfl) (oF (z.ld 12 rfl rfl) ?_));show cP CS eU [w,.ptr l4 0,.ptr l1 0] f _;refine DH 10 z rfl ac rfl (by omega) (by omega) g.sub (by grind) (by omega) λE U B=>?_;simp only[fY,jq]at B;have hm:x.args.map (wm ns az)=(eO u A x).args:=by
      rw[K,if_pos c];exact by grind[MU]
     rw[hm]at B;exact aj E _ (M.trans U) (by grind[fL]) (im _ _ _) B
    ·refine dM (by rw[zv];exact c) (aj f m M (λ_ _=>rfl) ?_ z);rw[K,if_neg c];exact ac
   have ar:∀f,Sn F h F f->cS F f (Nx l1 T1 l4 T4 lt Tt num ns [.I u.func,.I u.pc,wv,wb,ws] gS az (Sx p ss ws lm S lb Tb lr Tr l4 l1 l3 fA (.I u.func) (.I u.pc) Ce .cQ A7 t
      (cV lx 38 (kN {x with a:=(eO u A x).a} w)::cW sr dP xs wv::cW qe dm bs wb::dk cT m::dk cT fn::cW sr dP (((de u A).take i).map (Sc u A xs)) Ce::cW qe dm [] .cQ::cV l2 fA [.I 0,.I 0,.cQ,.cQ,.cQ]::cW eN cT (de u A) j::cs)))->
     g8 CS Q (xR I k) [.ptr l1 0,.ptr l2 0,.ptr l3 0,.ptr l4 0,.ptr lr 0,.func dh [] [.ptr lb 0,.ptr l3 0,.ptr l1 0,.ptr lr 0],.ptr lx 0,j,.I ((de u A).length:Nat),.I i] f:=by
    intro f M z;refine vx ?_;unfold nr;refine oF (z.ld 12 rfl rfl) (G2 (BM ?_));have hb:(eO u A x).b=if two x.op=true then nm u A x.b else x.b:=rfl
    by_cases c:two x.op=true
    ·refine ei (by show(1:Int)<(jv x.op:Nat);unfold jv;grind) ?_;refine cO (z.ld 1 rfl rfl) (cO (z.ld 0 rfl rfl) (oF (z.ld 12 rfl rfl) ?_));refine CT z rfl (by omega) (by omega) g.sub (by grind) λr q e1 e2=>⟨iC _,cO e1 (cO e2 (cO pf ⟨z.ld 1 rfl rfl,?_⟩))⟩
     obtain⟨E,e4,n4,B,U⟩:=z.st 12 (o:=2) (u:= .I (wm ns az x.b:Nat)) rfl (by simp[kN]) rfl;have J:fk 1 (.ptr lx (0+2)) (.I (wm ns az x.b:Nat)) f=some (.val .undef E):=by rw[yD];exact e4
     rw[J,cU];simp only[fY,jq]at B;have hq:wm ns az x.b=(eO u A x).b:=by rw[hb,if_pos c];exact by grind
     rw[hq]at B;exact⟨n4,ao E (M.trans U) B⟩
    ·refine dM (by show ¬(1:Int)<(jv x.op:Nat);unfold jv;grind) (ao f M ?_)
     grind
   refine oF (L.ld 12 rfl rfl) (G2 (BM ?_));have ha:(eO u A x).a=if 0<jv x.op then nm u A x.a else x.a:=rfl
   by_cases c:0<jv x.op
   ·have c':om x.op=true\/two x.op=true:=by
     unfold jv at c;by_cases h1:two x.op=true
     ·grind
     ·grind
    refine ei (by omega) ?_;refine cO (L.ld 1 rfl rfl) (cO (L.ld 0 rfl rfl) (oF (L.ld 12 rfl rfl) ?_));refine CT L rfl (by omega) (by omega) g.sub (by grind) λr q e1 e2=>⟨iC _,cO e1 (cO e2 (cO pf ⟨L.ld 1 rfl rfl,?_⟩))⟩
    obtain⟨E,e4,n4,B,U⟩:=L.st 12 (o:=1) (u:= .I (wm ns az x.a:Nat)) rfl (by simp[kN]) rfl;have J:fk 1 (.ptr lx (0+1)) (.I (wm ns az x.a:Nat)) h2=some (.val .undef E):=by rw[yD];exact e4
    rw[J,cU];simp only[fY,jq]at B;have hq:wm ns az x.a=(eO u A x).a:=by rw[ha,if_pos c];exact by grind
    rw[hq]at B;exact⟨n4,ar E ((s1.trans s2).trans U) B⟩
   ·refine dM (by omega) (ar h2 (s1.trans s2) ?_);have:({x with a:=(eO u A x).a}:Vl)=x:=by rw[ha,if_neg c]
    rw[this];exact L
  ·refine fq ?_;obtain rfl:i=(de u A).length:=by omega
   rw[E5]at N;refine cO (N.ld 0 rfl rfl) (cO pn (cO pf (oF (N.ld 2 rfl rfl) (cO (N.len 13 rfl) ?_))))
   grind
 ·rw[hI];refine⟨0,fa,λ_=>none,fl,[],.cQ,.cQ,rfl,by omega,Sn.refl _ _,⟨λv x w hx=>?_,λs=>rfl,rfl,λs l k x a w hs hl=>?_,List.nodup_nil,λ_ h=>by cases h⟩,H0⟩
  ·rw[hc.row v x w hx];rfl
  ·exact X.loc s l k x a w hs hl
end
open Un Dm
section
variable{F F':Nat->Prop}{h h':Hp}{cs ds:List Pc}{Q:dg}{u:U}{wv wb ws gS num Ce:V}{lt Tt l1 T1 l2 l3 l4 T4 lm lb Tb lr Tr:Nat}{az:List Int}{ns:List Nat}{xs ys:List (Vl×V)}{UG bs:List (Bk×V)}{fa fn:Nat->Option (List Nat×V)}{ss:List (List (Fm×V×V))}{fl:KF->Option (List Nat×V)}
def UU(u:U)(A:Nat->Int)(bs:List (Bk×V))(b:Nat):Bk×V:=(iG u A (u.blocks.getD b HB),JO bs b)
theorem W6(g:ug u az)(hb:PT u.blocks UG fn)(U:ss.map (λl=>l.map Prod.fst)=u.cZ)(W:YN u az u.blocks.length UG bs){S:Int->Option V}{a:List (List (Fm×V×V))}{A7:V}(ay:ns.length=u.cR.length)(ai:∀v,v<u.cR.length->ns[v]? =some (if v∈de u (iM az) then(de u (iM az)).idxOf v else 0))
  (X:Sl ss (wm ns az) (iy (mC u (de u (iM az)))) S fl a)
  (H0:cS F h (Nx l1 T1 l4 T4 lt Tt num ns [.I u.func,.I u.pc,wv,wb,ws] gS az (Sx fl ss ws lm S lb Tb lr Tr l4 l1 l3 fA (.I u.func) (.I u.pc) Ce .cQ A7 a
    (cW sr dP xs wv::cW qe dm bs wb::dk cT fa::dk cT fn::cW sr dP ys Ce::cW qe dm [] .cQ::cV l2 fA [.I 0,.I 0,.cQ,.cQ,.cQ]::ds))))
  (H:∀h' S c a b A7,Sn F h F h'->Sl ss (wm ns az) (AN u (iM az)) S c a->
   cS F h' (Nx l1 T1 l4 T4 lt Tt num ns [.I u.func,.I u.pc,wv,wb,ws] gS az (Sx c ss ws lm S lb Tb lr Tr l4 l1 l3 fA (.I u.func) (.I u.pc) Ce b A7 a
    (cW sr dP xs wv::cW qe dm bs wb::dk cT fa::dk cT fn::cW sr dP ys Ce::cW qe dm ((List.range u.blocks.length).map (UU u (iM az) UG)) b::cV l2 fA [.I u.func,.I u.pc,Ce,b,A7]::ds)))->
   Q (.agg [.I u.func,.I u.pc,Ce,b,A7]) h') :
  iq CS Q [.ptr l1 0,.ptr l2 0,.ptr l3 0,.ptr l4 0,.func dh [] [.ptr lb 0,.ptr l3 0,.ptr l1 0,.ptr lr 0],wb,.I bs.length,.I 0] h:=by
 have nv:=g.nv;have nb:=g.nb;have gl:=g.len;have Y:UG.length=u.blocks.length:=by rw[<-hb.fst,yn]
 have Z:bs.length=u.blocks.length:=by rw[W.len,Y]
 have lss:ss.length=u.cZ.length:=by rw[<-U,yn]
 obtain⟨A,hA⟩:∃A,iM az=A:=⟨_,rfl⟩
 have aj:∀v,v<u.cR.length->wm ns az v=nm u A v:=λv hv=>by rw[<-hA];exact Jy g ai hv
 rw[hA]at H X;have E:=W.row;rw[hA]at E
 obtain ⟨I,hI⟩:∃I:Nat->LP,I=λk l h'=>∃(i:Nat) (S:Int->Option V) (c:KF->Option (List Nat×V)) (a:List (List (Fm×V×V))) (b A7:V),l=[.ptr l1 0,.ptr l2 0,.ptr l3 0,.ptr l4 0,.func dh [] [.ptr lb 0,.ptr l3 0,.ptr l1 0,.ptr lr 0],wb,.I bs.length,.I i]/\i+k=bs.length/\Sn F h F h'/\Sl ss (wm ns az) (iy (mC u (de u A)++wq (u.blocks.take i))) S c a/\
   cS F h' (Nx l1 T1 l4 T4 lt Tt num ns [.I u.func,.I u.pc,wv,wb,ws] gS az (Sx c ss ws lm S lb Tb lr Tr l4 l1 l3 fA (.I u.func) (.I u.pc) Ce b A7 a
    (cW sr dP xs wv::cW qe dm bs wb::dk cT fa::dk cT fn::cW sr dP ys Ce::cW qe dm ((List.range i).map (UU u A UG)) b::cV l2 fA [.I 0,.I 0,.cQ,.cQ,.cQ]::ds))):=⟨_,rfl⟩
 refine wP I (λk x1 x2 x3 x4 aA au aw ax h1 hi=>?_) (k:=bs.length) ?_
 ·rw [hI]at hi;obtain⟨i,S,c,a,b,A7,⟨⟩,hk,s1,hN,J⟩:=hi;unfold ou;by_cases hi:i<bs.length
  ·refine dZ ?_;obtain⟨⟨B,w⟩,K⟩:∃y,UG[i]? =some y:=⟨_,fg (by omega)⟩
   have hB:u.blocks[i]? =some B:=by rw[<-hb.fst,w5,K];rfl
   have aa:=E i B w K;rw[if_pos (by omega)]at aa;have ak:UU u A UG i=(iG u A B,w):=by unfold UU JO;rw[K,Au,hB];rfl
   have al:=zi hB;obtain⟨e1,e2⟩:=g.ends i B hB;obtain⟨lv,ov,wl,z1,z2,⟨t,x,rfl,iv,ip,w1⟩,_⟩:=J.RC 13 rfl aa .i64;have z1:eX 6 wb (.I i)=some (.ptr lv ov):=z1;refine cO z1 (cO z2 ?_);refine fo J rfl rfl (by simp only[nV,cY,iv.one,ip.one];simp only[show w.one=true from w1];rfl) λL f s2=>?_;generalize h1.next=lx at*;have iv:=iv.since s2;have ip:=ip.since s2;have f:cS F L (Nx l1 T1 l4 T4 lt Tt num ns [.I u.func,.I u.pc,wv,wb,ws] gS az (Sx c ss ws lm S lb Tb lr Tr l4 l1 l3 fA (.I u.func) (.I u.pc) Ce b A7 a (cV lx 41 (nV {B with cR:=(B.cR.filter (stays A)).map (de u A).idxOf} t w x)::_))):=f.Mc 12 (by simp)
   have M:∀R S2 C m z,Sn F L F R->Sl ss (wm ns az) (iy (mC u (de u A)++wq (u.blocks.take (i+1)))) S2 C m->
     cS F R (Nx l1 T1 l4 T4 lt Tt num ns [.I u.func,.I u.pc,wv,wb,ws] gS az (Sx C ss ws lm S2 lb Tb lr Tr l4 l1 l3 fA (.I u.func) (.I u.pc) Ce b z m
      (cV lx 41 (nV (iG u A B) t w x)::cW sr dP xs wv::cW qe dm bs wb::dk cT fa::dk cT fn::cW sr dP ys Ce::cW qe dm ((List.range i).map (UU u A UG)) b::cV l2 fA [.I 0,.I 0,.cQ,.cQ,.cQ]::ds)))->
     fP CS Q (xR I k) [.ptr l1 0,.ptr l2 0,.ptr l3 0,.ptr l4 0,.func dh [] [.ptr lb 0,.ptr l3 0,.ptr l1 0,.ptr lr 0],.ptr lx 0,wb,.I bs.length,.I i] R:=by
    intro R S2 C m z s3 hS H3;have am:=iv.since s3;have an:=ip.since s3;refine vL ?_;unfold mE;refine oF (H3.ld 10 rfl rfl) (cO (H3.zt 12 rfl rfl) ?_);rw[qv (sz:=6) (w:=nV (iG u A B) t w x) rfl rfl (by simp only[nV,cY,iv.one,ip.one];simp only[show w.one=true from w1];rfl),dC];obtain⟨p,N,e4,_,D,s4⟩:=H3.Cq 18 rfl (ic:=96) (wF:=41) (y:=(iG u A B,w)) (w:=nV (iG u A B) t w x) (ro:=false) ⟨t,x,rfl,am,an,w1⟩ (by decide) (by decide) (by simp;omega);have O:c9 41 6 96 b (.slice R.next 0 1) (R.new (.cells 41 6 true false (nV (iG u A B) t w x)))=some (.val p N):=e4;rw[O,cU];simp only[fY,jq]at D;obtain⟨h5,e5,_,T,s5⟩:=D.st 10 (o:=3) (u:=p) rfl (by simp) (D.one 18 rfl);refine cO pf ?_;have P:fk 1 (.ptr l3 (0+3)) p N=some (.val .undef h5):=by rw[yD];exact e5
    rw[P,cU];simp only[fY,jq]at T;refine du ⟨k-1,by omega,?_⟩;rw[hI];refine⟨i+1,S2,C,m,p,z,rfl,by omega,(((s1.trans s2).trans s3).trans s4).trans s5,hS,?_⟩;have H6:=T.FD 12 (by simp);rw[Wn,LX,PR,OG,ak];exact H6
   have s:wq (u.blocks.take (i+1))=wq (u.blocks.take i)++(if B.fin=3 then[B.state] else[]):=by
    rw[al];unfold wq;rw[List.filterMap_append,List.filterMap_cons];by_cases e:B.fin=3
    ·rw[if_pos e,if_pos e];rfl
    ·rw[if_neg e,if_neg e];rfl
   have ab:iy (mC u (de u A)++wq (u.blocks.take (i+1))) <+: AN u A:=by
    have:DS u A=(mC u (de u A)++wq (u.blocks.take (i+1)))++wq (u.blocks.drop (i+1)):=by
     rw[Ir,Hq];congr 1
     conv=>lhs;rw[<-Sj (i+1) u.blocks]
     exact List.filterMap_append
    unfold AN;rw[this];exact BH _ _
   have j:(iG u A B).cond=if B.fin=2 then nm u A B.cond else B.cond:=rfl
   have d:(iG u A B).state=if B.fin=3 then(AN u A).idxOf B.state else B.state:=rfl
   refine oF (f.ld 12 rfl rfl) (eh ?_);by_cases c2:B.fin=2
   ·rw [if_neg (show ¬B.fin=3 by omega),GK]at s;refine ei (by show(B.fin:Int)=2;omega) ?_;refine cO (f.ld 1 rfl rfl) (cO (f.ld 0 rfl rfl) (oF (f.ld 12 rfl rfl) ?_));refine CT f rfl (by omega) (by omega) g.sub (by rw[gl];exact e1 c2) λr q q1 q2=>⟨iC _,cO q1 (cO q2 (cO pf ⟨f.ld 1 rfl rfl,?_⟩))⟩
    obtain⟨N,e4,n4,D,s4⟩:=f.st 12 (o:=2) (u:= .I (wm ns az B.cond:Nat)) rfl (by simp[nV]) rfl;have O:fk 1 (.ptr lx (0+2)) (.I (wm ns az B.cond:Nat)) L=some (.val .undef N):=by rw[yD];exact e4
    rw [show({B with cR:=(B.cR.filter (stays A)).map (de u A).idxOf}:Bk).cond=B.cond from rfl,O,cU];simp only[fY,jq]at D;have hq:(nV {B with cR:=(B.cR.filter (stays A)).map (de u A).idxOf} t w x).set 2 (.I (wm ns az B.cond:Nat))=nV (iG u A B) t w x:=by
     unfold nV;rw[j,d,if_pos c2,if_neg (by omega),aj _ (e1 c2)];rfl
    rw[hq]at D;exact⟨n4,M N S c a A7 s4 (by rw[s];exact hN) D⟩
   ·refine dM (by show ¬(B.fin:Int)=2;omega) (eh ?_);by_cases c3:B.fin=3
    ·refine ei (by show(B.fin:Int)=3;omega) (oF (f.ld 12 rfl rfl) ?_);show cP CS dh [.I B.state,.ptr lb 0,.ptr l3 0,.ptr l1 0,.ptr lr 0] L _;obtain⟨sl,G⟩:∃sl,ss[B.state]? =some sl:=⟨_,fg (by have:=e2 c3;omega)⟩
     have ao:u.cZ[B.state]? =some (sl.map Prod.fst):=by rw[<-U,w5,G];rfl
     obtain⟨q1,q2⟩:=g.st _ _ ao;rw[yn]at q1;refine IH f hN (by omega) (by omega) g.sub G (by have:=g.ns;omega) q1 (λy hy=>?_) λN ap S4 ac ae s4 ag D=>?_
     ·obtain⟨r1,r2,r3,r4⟩:=q2 y.1 (W3 hy);rw[gl];exact⟨r1,r2,r3,r4⟩
     rw[if_pos c3]at s;have aq:Po (iy (mC u (de u A)++wq (u.blocks.take i))) B.state=iy (mC u (de u A)++wq (u.blocks.take (i+1))):=by rw[s,<-Hq,sR];rfl
     rw [aq]at ag⊢;have ah:B.state∈iy (mC u (de u A)++wq (u.blocks.take (i+1))):=(pj _ _).2 (by rw[s];simp);have ar:(iy (mC u (de u A)++wq (u.blocks.take (i+1)))).idxOf B.state=(iG u A B).state:=by
      rw[<-GX ab ah,d,if_pos c3]
     rw[ar];obtain⟨h5,e5,_,T,s5⟩:=D.st 12 (o:=5) (u:= .I ((iG u A B).state:Nat)) rfl (by simp[nV]) rfl;refine cO pf ?_;have P:fk 1 (.ptr lx (0+5)) (.I ((iG u A B).state:Nat)) N=some (.val .undef h5):=by rw[yD];exact e5
     rw [P,cU];simp only[fY,jq]at T;have hq:(nV {B with cR:=(B.cR.filter (stays A)).map (de u A).idxOf} t w x).set 5 (.I ((iG u A B).state:Nat))=nV (iG u A B) t w x:=by
      unfold nV;rw[j,if_neg c2];rfl
     rw[hq]at T;exact M h5 S4 ap ac ae (s4.trans s5) ag T
    ·refine dM (by show ¬(B.fin:Int)=3;omega) (M L S c a A7 (Sn.refl _ _) ?_ ?_)
     ·rw[s,if_neg c3,GK];exact hN
     ·have:nV (iG u A B) t w x=nV {B with cR:=(B.cR.filter (stays A)).map (de u A).idxOf} t w x:=by
       unfold nV;rw[j,d,if_neg c2,if_neg c3];rfl
      rw[this];exact f
  ·refine fq ?_;obtain rfl:i=bs.length:=by omega
   refine cO (J.zt 10 rfl rfl) ?_;obtain⟨L,e2,_,f,s2⟩:=J.T7 18 (ws:=[.I u.func,.I u.pc,Ce,b,A7]) (n:=5) rfl rfl rfl (by simp only[cY,J.one 16 rfl,J.one 17 rfl,J.one 11 rfl];rfl);rw[e2,cU];simp only[fY,jq]at f;refine cO (f.zt 18 rfl rfl) ?_;rw[Z,E5]at hN;rw[Z]at f;exact H L S c a b A7 (s1.trans s2) hN f
 ·rw[hI];exact⟨0,S,fl,a,.cQ,A7,rfl,by omega,Sn.refl _ _,by rw[Wc];show Sl _ _ (iy (_++[])) _ _ _;rw[GK];exact X,H0⟩
end
open Un Dm
section
variable{F F':Nat->Prop}{h h':Hp}{cs ds:List Pc}{Q:dg}{u:U}{wv wb ws gS:V}{lt Tt:Nat}{az:List Int}{xs:List (Vl×V)}{bs:List (Bk×V)}{fa fn:Nat->Option (List Nat×V)}{ss:List (List (Fm×V×V))}{fl:KF->Option (List Nat×V)}
theorem cS.LQ(H:cS F h cs)(n:Nat):∃G,cS G h (cs.drop n)/\Sn F h G h/\∀(i:Nat)(c:Pc),i<n->cs[i]? =some c->∀l,c.ki l->G l:=by
 have g:∀{i:Nat} {c:Pc},(cs.take n)[i]? =some c->i<n/\cs[i]? =some c:=by grind
 refine⟨λl=>F l\/E8 (cs.take n) l,⟨λl a=>a.elim (H.fl l) λ⟨i,c,hc,e⟩=>(c.IS (H.ok i c (g hc).2) l e).1,λi c hc=>?_,λi j c d hc b m=>?_⟩,⟨iC _,by simp_all,by simp_all⟩,λi c hi hc l a=> .inr ⟨i,c,by rw[X2 hi];exact hc,a⟩⟩
 ·rw[V1]at hc;refine c.mono (H.ok _ c hc) (by simp_all) λl a f=>?_;rcases f with f|⟨j,d,b,e⟩
  ·exact(c.IS (H.ok _ c hc) l a).2 f
  ·obtain⟨o,k⟩:=g b;exact H.zQ (n+i) j c d hc k (by omega) l a e
 ·rw[V1]at hc b;exact H.zQ (n+i) (n+j) c d hc b (by omega)
section
variable{G:Nat->Prop}
theorem fJ.ofRow{α β:Type}{E:oY α} {E':oY β}(H:cS F h cs)(i:Nat){ty:Nat}{xs:List α}{ys:List β}{v:V}(hi:cs[i]? =some (cW E ty xs v))(j:∀l,F l->G l)(m:∀l,Loc v l->G l)(f:E'.sz=E.sz)(g:ys.length=xs.length)(b:∀(k:Nat) x y cs,xs[k]? =some x->ys[k]? =some y->E.rel F h x cs->E'.rel G h y cs):fJ E' G h ys v:=by
 have c:=(gL.1 hi).1;exact((H.PA (E':=E.fix F h) i hi rfl rfl λk x y cs d a b=>by rw[d]at a;cases a;exact b).row i (HT c)).read.PA f (by grind) g λk x y cs d a e=>b k x y cs d a e
theorem ER(H:cS F h cs)(j:Nat){ι:Type}{ty:Nat}{f:ι->Option (List Nat×V)}(a:cs[j]? =some (dk ty f))(b:∀l,F l->G l)(c:∀l,(dk ty f).ki l->G l){i:ι}{xs:List Nat}{v:V}(hi:f i=some (xs,v)):fJ eN G h xs v:=
 (H.rows j a hi).Yg b λl d=>c l ⟨i,xs,v,hi,d⟩
end
theorem KL(g:ug u az)(hc:Rt u.cR xs fa)(t:PT u.blocks bs fn)(m:Uc u.cZ ss fl)
  (H0:cS F h (cW sr dP xs wv::cW qe dm bs wb::dk cT fa::dk cT fn::cW eZ cT az gS::cV lt Tt [.I u.func,.I u.pc,wv,wb,ws,gS]::cW (eL Kb) jJ ss ws::dk cT fl::cs))
  (H:∀F' h' vv vb vs,Sn F h F' h'->cS F' h' (cW eV dP (ey u (iM az)).cR vv::cW eK dm (ey u (iM az)).blocks vb::cs)->fJ (eL eF) F' h' (ey u (iM az)).cZ vs->Q (.agg (uC (ey u (iM az)) vv vb vs)) h') :
  cP CS hH [.ptr lt 0] h Q:=by
 refine K9 g hc t H0 λF1 h1 l1 T1 l2 l3 l4 T4 lm lb Tb lr Tr num ns ac ae s1 P A e H1=>?_;refine W1 g hc m A e H1 λh2 ag S2 ah aa Ce A7 s2 hN H2=>?_;have C:=hN.st;rw[E5]at C;refine W6 g t m.fst P A e C H2 λR S3 ai ab S D s3 O q=>?_;have Hp:=q.perm [0,1,2,3,4,5,6,7,8,9,10,11,12,13,14,15,18,19,16,17] 20 (by decide) (by decide) (by simp);obtain⟨G,H4,s4,E⟩:=Hp.LQ 18;have r:∀l,F1 l->G l:=λl hl=>s4.mono l hl;have H5:=H4.PA 0 (E':=eV) (ys:=(ey u (iM az)).cR) rfl rfl (by simp[ey]) λk x y ws c b i=>by
  rw[w5]at c;have b:((de u (iM az)).map λn=>eO u (iM az) (u.cR.getD n TA))[k]? =some y:=b;rw[w5]at b
  cases hk:(de u (iM az))[k]? with
  |none=>simp_all
  | some n=>
    rw[hk]at c b;cases c;cases b;obtain⟨rfl,_⟩:=i;have T:=AV g.gz (zD hk);obtain⟨⟨x,w⟩,o⟩:∃y,xs[n]? =some y:=⟨_,fg (by rw[<-yn (f:=Prod.fst),hc.fst];exact T)⟩
    have I:u.cR[n]? =some x:=by rw[<-hc.fst,w5,o];rfl
    have U:Sc u (iM az) xs n=(eO u (iM az) x,w):=by unfold Sc wV;rw[o,Au,I];rfl
    have J:=hN.row n x w o;rw[E5,if_pos (zD hk)]at J;have V:u.cR.getD n TA=x:=by rw[Au,I];rfl
    show eV.rel G R (eO u (iM az) (u.cR.getD n TA)) _;rw[U,V];exact⟨w,rfl,ER q 14 rfl r (E 14 _ (by decide) rfl) J⟩
 have H6:=H5.PA 1 (E':=eK) (ys:=(ey u (iM az)).blocks) rfl rfl (by simp[ey]) λk x y ws c b i=>by
  rw[w5]at c;have b:(u.blocks.map (iG u (iM az)))[k]? =some y:=b;rw[w5]at b
  cases hB:u.blocks[k]? with
  |none=>simp_all
  | some B=>
    rw[hB]at b;cases b;have K:=(gL.1 hB).1;rw[List.getElem?_range K]at c;cases c;obtain⟨⟨B',w⟩,p⟩:∃y,bs[k]? =some y:=⟨_,fg (by rw[<-yn (f:=Prod.fst),t.fst];exact K)⟩
    have L:u.blocks[k]? =some B':=by rw[<-t.fst,w5,p];rfl
    rw[hB]at L;cases L;have W:UU u (iM az) bs k=(iG u (iM az) B,w):=by unfold UU JO;rw[p,Au,hB];rfl
    rw[W]at i;obtain⟨bv,bp,rfl,iv,ip,_⟩:=i;exact⟨bv,w,bp,rfl,iv,ER q 15 rfl r (E 15 _ (by decide) rfl) (t.row k B w p),ip⟩
 refine H G R Ce S D (((s1.trans s2).trans s3).trans s4) H6 ?_;refine fJ.ofRow q 11 rfl r (E 11 _ (by decide) rfl) rfl (by simp[ey,O.out]) λk x y ws c b i=>?_;rw[O.out,w5]at c;have b:((AN u (iM az)).map λs=>(u.cZ.getD s []).map (Pk u (iM az)))[k]? =some y:=b;rw[w5]at b
 cases hk:(AN u (iM az))[k]? with
 |none=>simp_all
 | some s=>
   rw[hk]at c b;cases c;cases b;have M:=zD hk;have aj:=O.lt s M;obtain⟨l,d⟩:∃l,ss[s]? =some l:=by simp_all
   have N:u.cZ[s]? =some (l.map Prod.fst):=by rw[<-m.fst,w5,d];rfl
   have g1:ss.getD s []=l:=by rw[Au,d];rfl
   have g2:u.cZ.getD s []=l.map Prod.fst:=by rw[Au,N];rfl
   show(eL eF).rel G R ((u.cZ.getD s []).map (Pk u (iM az))) ws;rw[g2];obtain⟨f,rfl,X⟩:=i;dsimp only at X;rw[g1]at X;refine⟨f,rfl,X.PA rfl r (by simp) λj z y cs hz b i=>?_⟩;rw[List.map_map,w5,hz]at b;cases b;obtain⟨z,a,w⟩:=z;obtain⟨rfl,_,_⟩:=i;obtain⟨r1,Y⟩:=O.rows s l j z a w d hz;rw[if_pos M]at r1 Y;obtain⟨_,q2⟩:=g.st s _ N;obtain⟨_,_,q3,q4⟩:=q2 z (by grind);rw[MU λv Z=>Jy g e (q3 v Z)]at r1;rw[MU λv Z=>Jy g e (q4 v Z)]at Y;exact⟨a,w,rfl,ER q 5 rfl r (E 5 _ (by decide) rfl) r1,ER q 5 rfl r (E 5 _ (by decide) rfl) Y⟩
end
section
variable{F:Nat->Prop}{h:Hp}{cs:List Pc}{u:U}{wv wb ws:V}{xs:List (Vl×V)}{bs:List (Bk×V)}{ss:List (List (Fm×V×V))}{fa fn:Nat->Option (List Nat×V)}{fl:KF->Option (List Nat×V)}
end
open Un Dm
section
variable{F F':Nat->Prop}{h h':Hp}{cs ds:List Pc}{Q:dg}{u:U}{vv vb vs gS:V}{az:List Int}
theorem Kz(g:K1 u)(B:AX u)(m:az.length=u.cR.length)(C:∀kp u' iz seen post,Bm u.blocks.length (next u) seen post []->kp=(λb=>post.reverse.contains b)->Cut u kp u'->Ey u kp az iz->ug u' iz)
  (r:cS F h (cW eZ cT az gS::cs)) (s:zR F h u vv vb vs)
  (H:∀F' h' kp u' iz seen post wv wb ws,Sn F h F' h'->cS F' h' (cW eV dP (ey u' (iM iz)).cR wv::cW eK dm (ey u' (iM iz)).blocks wb::cs)->Bm u.blocks.length (next u) seen post []->kp=(λb=>post.reverse.contains b)->Cut u kp u'->Ey u kp az iz->fJ (eL eF) F' h' (ey u' (iM iz)).cZ ws->Q (.agg (uC (ey u' (iM iz)) wv wb ws)) h') :
  cP CS rY [.agg (uC u vv vb vs),gS] h Q:=by
 refine M0 rfl rfl ?_;unfold GM;refine kX r s.one λD E v=>AJ E λh2 w x=>?_;generalize h.next=l1 at*;generalize D.next=l2 at*;have u2:=(s.since v).since x;refine cO (w.zt 1 rfl rfl) ?_;refine Oj g w u2 λF3 I wv wb ws xs bs ss fa fn fl J hc K hs e=>?_;have L:nH [.I 0,.I 0,.cQ,.cQ,.cQ,.cQ] [(0,5),(5,1)] [(0,V.agg (uC u wv wb ws)),(1,gS)]=some (V.agg [.I u.func,.I u.pc,wv,wb,ws,gS]):=by
  rcases r.row 0 rfl with⟨rfl,_⟩|⟨t,M,rfl,_⟩ <;> rfl
 refine cO L ?_;refine kX e (by simp only[cY,e.one 0 rfl,e.one 1 rfl,e.one 2 rfl,e.one 8 rfl];rfl) λh4 N O=>?_;generalize I.next=lt at*;have P:=N.perm [1,2,4,5,9,0,3,6,7,8] 10 (by decide) (by decide) (by simp);refine OB B hc K m (e.one 2 rfl) P λF6 h6 seen post kp u' R S T U iz W X G f a o p i y=>?_;have gn:=C kp u' iz seen post G f a i;have Y:=a.func;have Z:=a.pc;rw[<-Y,<-Z]at y;refine KL gn o p (by rw[a.cZ];exact hs) y λz h7 c d j s7 k l=>?_;have k:cS z h7 (cW eV dP (ey u' (iM iz)).cR c::cW eK dm (ey u' (iM iz)).blocks d::cV l2 fA _::cV l1 fA _::cs):=k;obtain⟨h8,e8,_,q,A⟩:=k.T7 2 (ws:=uC (ey u' (iM iz)) c d j) (n:=5) rfl rfl rfl (by simp only[uC,cY,k.one 0 rfl,k.one 1 rfl,l.one];rfl);rw[e8,cU];simp only[fY,jq]at q;refine cO (q.zt 2 rfl rfl) ?_;have H9:=q.perm [2,3,0,1] 4 (by decide) (by decide) (by simp);exact H z h8 kp u' iz seen post c d j ((((((v.trans x).trans J).trans O).trans X).trans s7).trans A) H9.tail.tail G f a i (l.since A)
theorem Qq(g:K1 u)(j:AX u)(c:az.length=u.cR.length)(k:∀kp u' iz seen post,Bm u.blocks.length (next u) seen post []->kp=(λb=>post.reverse.contains b)->Cut u kp u'->Ey u kp az iz->ug u' iz)
  (l:cS F h (cW eZ cT az gS::cs)) (m:zR F h u vv vb vs)
  (H:∀F' h' kp u' iz seen post wv wb ws,Sn F h F' h'->cS F' h' cs->Bm u.blocks.length (next u) seen post []->kp=(λb=>post.reverse.contains b)->Cut u kp u'->Ey u kp az iz->zR F' h' (ey u' (iM iz)) wv wb ws->Q (.agg (uC (ey u' (iM iz)) wv wb ws)) h') :
  cP CS rY [.agg (uC u vv vb vs),gS] h Q:=
 Kz g j c k l m λF' h' kp u' iz seen post wv wb ws n o G d a e r1=>by
  obtain⟨p,i,q⟩:=o.gh 0 rfl;obtain⟨r,f,r3⟩:=p.gh 1 rfl;exact H _ h' kp u' iz seen post wv wb ws ((n.trans i).trans f) r.tail.tail G d a e ⟨q.since f,r3,(r1.since i).since f⟩
theorem J8{n:Nat}{nx:Nat->List Nat}{seen:List Bool}{post:List Nat}(G:Bm n nx seen post []):∀{b:Nat}{l:List Nat},Pt nx b l->b∈post
 | _,_,.nil=>by
   obtain⟨p,c⟩:=G.last rfl
   simp_all
 | _,_,.step h e=>by
   rcases(G.iff _).1 (G.closed _ (J8 G h) _ e)with a|a
   ·exact a
   simp_all
theorem JA(g:Good u)(f:vZ u):AX u:=⟨D5 g,g.nv,g.CE,g.gz,λb B a=>⟨BU g a,λp c=>by
 rw[g.c8 b B a]at c;obtain⟨q,j,d,_,e⟩:=pQ.1 c
 grind⟩,λv b k x B d h e i=>(g.xI v b k x B d h e i).2,f⟩
theorem Jq{P:Nat->Prop}(g:Gd u P)(o:vZ u)(j:az.length=u.cR.length)(d:∀(v:Nat)(a:Int),az[v]? =some a->a<az.length):ug u az where
 nv:=g.nv
 nb:=g.nb
 ns:=g.ns
 once:=g.CE
 gz:=g.gz
 len:=j
 sub:=d
 parts v x hx:=by
  have c:∀w∈fu x,w<u.cR.length:=λw p=>CR (g.use v x hx w p);unfold fu at c;refine⟨o v x hx,?_⟩;by_cases e:x.op=21
  ·rw[if_pos e]at c;have q:two x.op=false:=by rw[e];rfl
   have r:om x.op=false:=by rw[e];rfl
   exact⟨by simp_all,by simp_all,λ_=>c,g.leave v x hx⟩
  ·rw [if_neg e]at c;by_cases c2:x.op=20
   ·rw[if_pos c2]at c;have i:=g.putAt v x hx c2;rw[SI (by omega)]at c;exact⟨by simp_all,by simp_all,by simp_all,g.leave v x hx⟩
   ·rw [if_neg c2]at c;refine⟨λh=>?_,λh=>?_,by omega,g.leave v x hx⟩
    ·by_cases t:two x.op=true
     ·simp_all
     simp_all
    simp_all
 ends b B hB:=by
  rcases g.fin b B hB with⟨i,_⟩|⟨i,_,k⟩|⟨i,_,k⟩
  ·omega
  ·grind[CR]
  omega
 st s fs Wd:=by
  obtain⟨i,k⟩:=AZ g s fs Wd;refine⟨by omega,λf l=>?_⟩;obtain⟨y,z⟩:=k f l;have n:=PC g Wd;refine⟨by omega,by omega,λv m=>n v ?_,λv m=>n v ?_⟩
  ·exact Sf.2 ⟨f,l,PM _ m⟩
  ·exact Sf.2 ⟨f,l,List.mem_append_right _ m⟩
end
