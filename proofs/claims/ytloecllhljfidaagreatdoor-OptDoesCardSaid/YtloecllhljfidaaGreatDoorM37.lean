/- Parts. -/
import Derived.Test.YtloecllhljfidaaGreatDoorM30
set_option maxHeartbeats 4000000
namespace Go.Proofs.YtloecllhljfidaaGreatDoor.Hx
open Un Dm
def zaT:Vl:=⟨0,0,0,0,[],0⟩
def wV(xs:List (Vl×V))(n:Nat):V:=match xs[n]? with
 |some x=>x.2
 |none=> .undef
def yOf(u:U)(A:Nat->Int)(xs:List (Vl×V))(n:Nat):Vl×V:=(ir u A (u.ej.getD n zaT),wV xs n)
section
variable{F F':Nat->Prop}{h h':Hp}{cs ds:List Pc}{Q:fq}{u:U}{wv wb ws jC num:V}{lt Tt l1 T1 l2 l3 l4 T4 lm lb Tb lr Tr:Nat}{az:List Int}{ns:List Nat}{xs:List (Vl×V)}{bs:List (Bk×V)}{fa fn:Nat->Option (List Nat×V)}{ss:List (List (Fm×V×V))}{fl:KF->Option (List Nat×V)}
theorem RX(g:Ai u az)(a:∀v,v<u.ej.length->ns[v]? =some (if v∈fM u (jy az) then(fM u (jy az)).idxOf v else 0)){v:Nat}(hv:v<u.ej.length):Ce ns az v=nm u (jy az) v:=by
 have b:=SJ («as»:=jy az) (λw d=>by
  have c:=gN (by rw[g.len];exact d);have e:=g.sub w _ c;rw[He c];have:=g.len;omega) (u.ej.length+1) v hv
 unfold Ce nm;rw[g.len,CH,a _ b];rfl
structure NV (u:U) (az:List Int) (ns:List Nat) (xs:List (Vl×V)) (ss:List (List (Fm×V×V))) (i:Nat) (fa:Nat->Option (List Nat×V)) (S:Int->Option V) (fl:KF->Option (List Nat×V)) (a:List (List (Fm×V×V))):Prop where
 row:∀v x w,xs[v]? =some (x,w)->fa v=some (if v∈(fM u (jy az)).take i then(ir u (jy az) x).args else x.args,w)
 st:StS ss (Ce ns az) (lN (tQ u ((fM u (jy az)).take i))) S fl a
theorem zfr(g:Ai u az)(hc:YI u.ej xs fa)(W:CpS u.eo ss fl){j:V}(aB:ns.length=u.ej.length)(aC:∀v,v<u.ej.length->ns[v]? =some (if v∈fM u (jy az) then(fM u (jy az)).idxOf v else 0))
  (H0:ev F h (Nx l1 T1 l4 T4 lt Tt num ns [.I u.func,.I u.pc,wv,wb,ws] jC az (Sx fl ss ws lm (λ_=>none) lb Tb lr Tr l4 l1 l3 gJ (.I u.func) (.I u.pc) .ei .ei .ei []
    (fg yL gK xs wv::fg xz fJ bs wb::fU eR fa::fU eR fn::fg yL gK [] .ei::fg xz fJ [] .ei::eJ l2 gJ [.I 0,.I 0,.ei,.ei,.ei]::fg eN eR (fM u (jy az)) j::cs))))
  (H:∀h' m S p t Kh Jo,Sn F h F h'->NV u az ns xs ss (fM u (jy az)).length m S p t->
   ev F h' (Nx l1 T1 l4 T4 lt Tt num ns [.I u.func,.I u.pc,wv,wb,ws] jC az (Sx p ss ws lm S lb Tb lr Tr l4 l1 l3 gJ (.I u.func) (.I u.pc) Kh .ei Jo t
    (fg yL gK xs wv::fg xz fJ bs wb::fU eR m::fU eR fn::fg yL gK ((fM u (jy az)).map (yOf u (jy az) xs)) Kh::fg xz fJ [] .ei::eJ l2 gJ [.I 0,.I 0,.ei,.ei,.ei]::fg eN eR (fM u (jy az)) j::cs)))->
   lB Q [.ptr l1 0,.ptr l2 0,.ptr l3 0,.ptr l4 0,.func fV [] [.ptr lb 0,.ptr l3 0,.ptr l1 0,.ptr lr 0],wb,.I bs.length,.I 0] h') :
  lD Q [.ptr l1 0,.ptr l2 0,.ptr l3 0,.ptr l4 0,.ptr lr 0,.func fV [] [.ptr lb 0,.ptr l3 0,.ptr l1 0,.ptr lr 0],j,.I ((fM u (jy az)).length:Nat),.I 0] h:=by
 have nv:=g.nv;have gl:=g.len;have aD:xs.length=u.ej.length:=by rw[<-hc.fst,Er]
 have lss:ss.length=u.eo.length:=by rw[<-W.fst,Er]
 obtain⟨A,hA⟩:∃A,jy az=A:=⟨_,rfl⟩
 have aE:∀v,v<u.ej.length->Ce ns az v=nm u A v:=by grind[RX]
 have aq:=Al («as»:=A) g.once;have oS:=iP _ _ aq λv hv=>Ic g.iM hv
 obtain ⟨I,hI⟩:∃I,I=λk l h'=>∃(i:Nat) (m:Nat->Option (List Nat×V)) (S:Int->Option V) (p:KF->Option (List Nat×V)) (t:List (List (Fm×V×V))) (Kh Jo:V),l=[.ptr l1 0,.ptr l2 0,.ptr l3 0,.ptr l4 0,.ptr lr 0,.func fV [] [.ptr lb 0,.ptr l3 0,.ptr l1 0,.ptr lr 0],j,.I ((fM u A).length:Nat),.I i]/\i+k=(fM u A).length/\Sn F h F h'/\NV u az ns xs ss i m S p t/\
   ev F h' (Nx l1 T1 l4 T4 lt Tt num ns [.I u.func,.I u.pc,wv,wb,ws] jC az (Sx p ss ws lm S lb Tb lr Tr l4 l1 l3 gJ (.I u.func) (.I u.pc) Kh .ei Jo t
    (fg yL gK xs wv::fg xz fJ bs wb::fU eR m::fU eR fn::fg yL gK (((fM u A).take i).map (yOf u A xs)) Kh::fg xz fJ [] .ei::eJ l2 gJ [.I 0,.I 0,.ei,.ei,.ei]::fg eN eR (fM u A) j::cs))):=⟨_,rfl⟩
 rw[hA]at H0 H⊢;refine CL I (λk x1 x2 x3 x4 aF aG aH aI aJ h1 hi=>?_) (k:=(fM u A).length) ?_
 ·rw [hI]at hi;obtain⟨i,m,S,p,t,Kh,Jo,⟨⟩,hk,s1,hN,N⟩:=hi;unfold uK;by_cases hi:i<(fM u A).length
  ·refine gy ?_;have hx:=gN hi;have X:=Ad hx;have aK:=Ic g.iM (zI hi);have ar:(fM u A)[i] ∉ (fM u A).take i:=by grind[mn,jo]
   generalize (fM u A)[i]=n at*;obtain⟨⟨x,w⟩,O⟩:∃y,xs[n]? =some y:=by simp_all
   have Y:u.ej[n]? =some x:=by rw[<-hc.fst,zq,O];rfl
   have au:yOf u A xs n=(ir u A x,w):=by unfold yOf wV;rw[O,CH,Y];rfl
   let⟨p1,p2,p3,p4,p5⟩:=g.parts n x Y
   let⟨la,oa,y1,y2⟩:=N.L6 19 rfl hx .i64
   obtain ⟨lv,ov,wl,z1,z2,⟨rfl,w1⟩,_⟩:=N.YY 12 rfl O .i64;have z1:=z1;refine eh y1 (eh y2 (eh (N.ld 0 rfl rfl) (eh pn (eh pf (oF (N.ld 2 rfl rfl) (eh z1 (eh z2 ?_)))))));refine gQ N rfl rfl (by simp only[mh,eQ];simp only[show w.one=true from w1];rfl) λh2 L s2=>?_;generalize h1.next=lx at*;have L:ev F h2 (Nx l1 T1 l4 T4 lt Tt num ns [.I u.func,.I u.pc,wv,wb,ws] jC az (Sx p ss ws lm S lb Tb lr Tr l4 l1 l3 gJ (.I u.func) (.I u.pc) Kh .ei Jo t (eJ lx 45 (mh x w)::_))):=L.J0 12 (by simp);have aa:∀d:Nat->Option (List Nat×V),(∀v,v≠n->d v=m v)->d n=some ((ir u A x).args,w)->∀v y b,xs[v]? =some (y,b)->d v=some (if v∈(fM u A).take (i+1) then(ir u A y).args else y.args,b):=λd h1 h2 v y b hv=>by
    rw[X];by_cases e:v=n
    ·simp_all
    ·rw[h1 v e];have:=hN.row v y b hv
     simp_all
   have ab:m n=some (x.args,w):=by
    have:=hN.row n x w O;rw[hA,if_neg ar]at this;exact this
   have ac:=hN.st;rw[hA]at ac
   have ad:∀f d S2 P B E,Sn F h F f->(∀v,v≠n->d v=m v)->d n=some ((ir u A x).args,w)->StS ss (Ce ns az) (lN (tQ u ((fM u A).take (i+1)))) S2 P B->
     ev F f (Nx l1 T1 l4 T4 lt Tt num ns [.I u.func,.I u.pc,wv,wb,ws] jC az (Sx P ss ws lm S2 lb Tb lr Tr l4 l1 l3 gJ (.I u.func) (.I u.pc) Kh .ei E B
      (eJ lx 45 (mh (ir u A x) w)::fg yL gK xs wv::fg xz fJ bs wb::fU eR d::fU eR fn::fg yL gK (((fM u A).take i).map (yOf u A xs)) Kh::fg xz fJ [] .ei::eJ l2 gJ [.I 0,.I 0,.ei,.ei,.ei]::fg eN eR (fM u A) j::cs)))->
     kN Q (Es I k) [.ptr l1 0,.ptr l2 0,.ptr l3 0,.ptr l4 0,.ptr lr 0,.func fV [] [.ptr lb 0,.ptr l3 0,.ptr l1 0,.ptr lr 0],.ptr lx 0,j,.I ((fM u A).length:Nat),.I i] f:=by
    intro f d S2 P B E M R T hS z;refine BL ?_;unfold tD;refine oF (z.ld 10 rfl rfl) (eh (z.mY 12 rfl rfl) ?_);rw[nM (sz:=6) rfl rfl (by simp only[mh,eQ];simp only[show w.one=true from w1];rfl),fu];obtain⟨G,D,e4,_,C,s4⟩:=z.rZ 17 rfl (jL:=64) (y:=(ir u A x,w)) ⟨rfl,w1⟩ (by decide) (by decide) (by simp;omega);have J:fi 45 6 64 Kh (.slice f.next 0 1) (f.new (.cells 45 6 true false (mh (ir u A x) w)))=some (.val G D):=e4;rw[J,en]
    let⟨h5,e5,_,H5,s5⟩:=C.st 10 (o:=2) rfl (by simp) (C.one 17 rfl)
    refine eh pf ?_;have Z:gq 1 (.ptr l3 (0+2)) G D=some (.val .undef h5):=by rw[C7];exact e5
    rw[Z,en];refine fF ⟨k-1,by omega,?_⟩;rw[hI];refine⟨i+1,d,S2,P,B,G,E,rfl,by omega,(M.trans s4).trans s5,⟨λv y b hv=>by rw[hA];exact aa d R T v y b hv,by simp_all⟩,?_⟩;have H6:=H5.DO 12 (by simp);rw[X,Mw,wBe,wBq,au];exact H6
   have ae:tQ u ((fM u A).take (i+1))=tQ u ((fM u A).take i)++(if leaves x.op=true then[x.state] else[]):=by
    rw[X];unfold tQ;rw[List.filterMap_append,List.filterMap_cons];simp only[Y];by_cases e:leaves x.op=true
    ·grind
    ·grind
   have ag:lN (tQ u ((fM u A).take (i+1))) <+: Ik u A:=by
    have:L0 u A=tQ u ((fM u A).take (i+1))++(tQ u ((fM u A).drop (i+1))++B7 u.blocks):=by
     rw[QH,<-Pr];congr 1
     conv=>lhs;rw[<-wA1 (i+1) (fM u A)]
     exact List.filterMap_append
    unfold Ik;rw[this];exact Jj _ _
   have ah:∀f d,Sn F h F f->(∀v,v≠n->d v=m v)->d n=some ((ir u A x).args,w)->
     ev F f (Nx l1 T1 l4 T4 lt Tt num ns [.I u.func,.I u.pc,wv,wb,ws] jC az (Sx p ss ws lm S lb Tb lr Tr l4 l1 l3 gJ (.I u.func) (.I u.pc) Kh .ei Jo t
      (eJ lx 45 (mh {x with a:=(ir u A x).a,b:=(ir u A x).b} w)::fg yL gK xs wv::fg xz fJ bs wb::fU eR d::fU eR fn::fg yL gK (((fM u A).take i).map (yOf u A xs)) Kh::fg xz fJ [] .ei::eJ l2 gJ [.I 0,.I 0,.ei,.ei,.ei]::fg eN eR (fM u A) j::cs)))->
     kO Q (Es I k) [.ptr l1 0,.ptr l2 0,.ptr l3 0,.ptr l4 0,.ptr lr 0,.func fV [] [.ptr lb 0,.ptr l3 0,.ptr l1 0,.ptr lr 0],.ptr lx 0,j,.I ((fM u A).length:Nat),.I i] f:=by
    intro f d M R T z;refine Bi ?_;unfold ue;refine oF (z.ld 12 rfl rfl) (L9 (iB ?_));by_cases hlv:leaves x.op=true
    ·refine fW hlv (oF (z.ld 12 rfl rfl) ?_);show cP CS fV [.I x.state,.ptr lb 0,.ptr l3 0,.ptr l1 0,.ptr lr 0] f _;obtain⟨sl,U⟩:∃sl,ss[x.state]? =some sl:=⟨_,gN (by have:=p5 hlv;omega)⟩
     have aw:u.eo[x.state]? =some (sl.map Prod.fst):=by rw[<-W.fst,zq,U];rfl
     let⟨q1,q2⟩:=g.st _ _ aw
     rw[Er]at q1;refine Qv z ac (by omega) (by omega) g.sub U (by have:=g.ns;omega) q1 (λy hy=>?_) λD ax S4 ai aj s4 ak C=>?_
     ·grind
     rw[if_pos hlv]at ae;have ay:Xq (lN (tQ u ((fM u A).take i))) x.state=lN (tQ u ((fM u A).take (i+1))):=by rw[ae,zk];rfl
     rw[ay]at ak⊢;have al:x.state∈lN (tQ u ((fM u A).take (i+1))):=(by grind[vY])
     have aA:(lN (tQ u ((fM u A).take (i+1)))).idxOf x.state=(ir u A x).state:=by
      rw[<-NJ ag al];show _=if leaves x.op=true then(Ik u A).idxOf x.state else x.state
      rw[if_pos hlv]
     rw[aA]
     let⟨h5,e5,_,H5,s5⟩:=C.st 12 (o:=5) (u:= .I ((ir u A x).state:Nat)) rfl (by simp[mh]) rfl
     refine eh pf ?_;have Z:gq 1 (.ptr lx (0+5)) (.I ((ir u A x).state:Nat)) D=some (.val .undef h5):=by rw[C7];exact e5
     rw[Z,en];exact ad h5 d S4 ax ai aj ((M.trans s4).trans s5) R T ak H5
    ·refine fP hlv (ad f d S p t Jo M R T ?_ ?_)
     ·grind
     ·have hs:(ir u A x).state=x.state:=if_neg hlv
      grind[mh,ir]
   have am:∀f,Sn F h F f->ev F f (Nx l1 T1 l4 T4 lt Tt num ns [.I u.func,.I u.pc,wv,wb,ws] jC az (Sx p ss ws lm S lb Tb lr Tr l4 l1 l3 gJ (.I u.func) (.I u.pc) Kh .ei Jo t
      (eJ lx 45 (mh {x with a:=(ir u A x).a,b:=(ir u A x).b} w)::fg yL gK xs wv::fg xz fJ bs wb::fU eR m::fU eR fn::fg yL gK (((fM u A).take i).map (yOf u A xs)) Kh::fg xz fJ [] .ei::eJ l2 gJ [.I 0,.I 0,.ei,.ei,.ei]::fg eN eR (fM u A) j::cs)))->
     kK Q (Es I k) [.ptr l1 0,.ptr l2 0,.ptr l3 0,.ptr l4 0,.ptr lr 0,.func fV [] [.ptr lb 0,.ptr l3 0,.ptr l1 0,.ptr lr 0],.ptr lx 0,j,.I ((fM u A).length:Nat),.I i] f:=by
    intro f M z;refine BR ?_;unfold tg;refine oF (z.ld 12 rfl rfl) (hX ?_);have e0:fe (.ptr lx (0+0)) f=some (.I x.op):=z.ld 12 rfl rfl;have eq:nY (V.bool (decide ((x.op:Int)=21))) (oB (fI 0 (.ptr lx 0)) λan=>oB (fe an f) λao=>ez .eql 3 ao (V.I 20))=some (.bool (decide (x.op=21\/x.op=20))):=by
     rw[pf,ft,e0,ft,gR,uN];congr 2;by_cases c1:x.op=21
     ·grind
     ·grind
    refine eh eq (iB ?_);have K:(ir u A x).args=if x.op=21\/x.op=20 then x.args.map (nm u A) else x.args:=rfl
    by_cases c:x.op=21\/x.op=20
    ·refine fW (JO c) (eh (z.ld 9 rfl rfl) (oF (z.ld 12 rfl rfl) ?_));show cP CS iL [w,.ptr l4 0,.ptr l1 0] f _;refine Mn 10 z rfl ab rfl (by omega) (by omega) g.sub (by grind) (by omega) λD s4 C=>?_;have hm:x.args.map (Ce ns az)=(ir u A x).args:=by
      rw[K,if_pos c];exact by grind[Ym]
     rw[hm]at C;exact ah D _ (M.trans s4) (by grind[iX]) (jz _ _ _) C
    ·refine fP (by rw[zX];exact c) (ah f m M (λ_ _=>rfl) ?_ z);rw[K,if_neg c];exact ab
   have ap:∀f,Sn F h F f->ev F f (Nx l1 T1 l4 T4 lt Tt num ns [.I u.func,.I u.pc,wv,wb,ws] jC az (Sx p ss ws lm S lb Tb lr Tr l4 l1 l3 gJ (.I u.func) (.I u.pc) Kh .ei Jo t
      (eJ lx 45 (mh {x with a:=(ir u A x).a} w)::fg yL gK xs wv::fg xz fJ bs wb::fU eR m::fU eR fn::fg yL gK (((fM u A).take i).map (yOf u A xs)) Kh::fg xz fJ [] .ei::eJ l2 gJ [.I 0,.I 0,.ei,.ei,.ei]::fg eN eR (fM u A) j::cs)))->
     kQ Q (Es I k) [.ptr l1 0,.ptr l2 0,.ptr l3 0,.ptr l4 0,.ptr lr 0,.func fV [] [.ptr lb 0,.ptr l3 0,.ptr l1 0,.ptr lr 0],.ptr lx 0,j,.I ((fM u A).length:Nat),.I i] f:=by
    intro f M z;refine By ?_;unfold tf;refine oF (z.ld 12 rfl rfl) (Ol (AQ ?_));have hb:(ir u A x).b=if two x.op=true then nm u A x.b else x.b:=rfl
    by_cases c:two x.op=true
    ·refine fW (by show(1:Int)<(se x.op:Nat);unfold se;grind) ?_;refine eh (z.ld 1 rfl rfl) (eh (z.ld 0 rfl rfl) (oF (z.ld 12 rfl rfl) ?_));refine KM z rfl (by omega) (by omega) g.sub (by grind) λr q e1 e2=>⟨iZ _,eh e1 (eh e2 (eh pf ⟨z.ld 1 rfl rfl,?_⟩))⟩
     let⟨D,e4,n4,C,s4⟩:=z.st 12 (o:=2) (u:= .I (Ce ns az x.b:Nat)) rfl (by simp[mh]) rfl
     have J:gq 1 (.ptr lx (0+2)) (.I (Ce ns az x.b:Nat)) f=some (.val .undef D):=by rw[C7];exact e4
     rw[J,en];have hq:Ce ns az x.b=(ir u A x).b:=by rw[hb,if_pos c];exact by grind
     rw[hq]at C;exact⟨n4,am D (M.trans s4) C⟩
    ·refine fP (by show ¬(1:Int)<(se x.op:Nat);unfold se;grind) (am f M ?_)
     grind
   refine oF (L.ld 12 rfl rfl) (Ol (AQ ?_));have ha:(ir u A x).a=if 0<se x.op then nm u A x.a else x.a:=rfl
   by_cases c:0<se x.op
   ·have c':ml x.op=true\/two x.op=true:=by
     unfold se at c;by_cases h1:two x.op=true
     ·grind
     ·grind
    refine fW (by omega) ?_;refine eh (L.ld 1 rfl rfl) (eh (L.ld 0 rfl rfl) (oF (L.ld 12 rfl rfl) ?_));refine KM L rfl (by omega) (by omega) g.sub (by grind) λr q e1 e2=>⟨iZ _,eh e1 (eh e2 (eh pf ⟨L.ld 1 rfl rfl,?_⟩))⟩
    let⟨D,e4,n4,C,s4⟩:=L.st 12 (o:=1) (u:= .I (Ce ns az x.a:Nat)) rfl (by simp[mh]) rfl
    have J:gq 1 (.ptr lx (0+1)) (.I (Ce ns az x.a:Nat)) h2=some (.val .undef D):=by rw[C7];exact e4
    rw[J,en];have hq:Ce ns az x.a=(ir u A x).a:=by rw[ha,if_pos c];exact by grind
    rw[hq]at C;exact⟨n4,ap D ((s1.trans s2).trans s4) C⟩
   ·refine fP (by omega) (ap h2 (s1.trans s2) ?_);have:({x with a:=(ir u A x).a}:Vl)=x:=by rw[ha,if_neg c]
    rw[this];exact L
  ·refine hY ?_;obtain rfl:i=(fM u A).length:=by omega
   rw[I2]at N;refine eh (N.ld 0 rfl rfl) (eh pn (eh pf (oF (N.ld 2 rfl rfl) (eh (N.len 13 rfl) ?_))))
   grind
 ·rw[hI];refine⟨0,fa,λ_=>none,fl,[],.ei,.ei,rfl,by omega,Sn.refl _ _,⟨λv x w hx=>?_,λs=>rfl,rfl,λs l k x a w hs hl=>?_,List.nodup_nil,λ_ h=>by cases h⟩,H0⟩
  ·rw[hc.row v x w hx];rfl
  ·exact W.loc s l k x a w hs hl
end
open Un Dm
section
variable{F F':Nat->Prop}{h h':Hp}{cs ds:List Pc}{Q:fq}{u:U}{wv wb ws jC num Kh:V}{lt Tt l1 T1 l2 l3 l4 T4 lm lb Tb lr Tr:Nat}{az:List Int}{ns:List Nat}{xs ys:List (Vl×V)}{bs0 bs:List (Bk×V)}{fa fn:Nat->Option (List Nat×V)}{ss:List (List (Fm×V×V))}{fl:KF->Option (List Nat×V)}
def kOf(u:U)(A:Nat->Int)(bs:List (Bk×V))(b:Nat):Bk×V:=(mP u A (u.blocks.getD b Py),Q1 bs b)
theorem zf3(g:Ai u az)(hb:Yo u.blocks bs0 fn)(R:ss.map (λl=>l.map Prod.fst)=u.eo)(T:NbB u az u.blocks.length bs0 bs){S:Int->Option V}{a:List (List (Fm×V×V))}{Jo:V}(aw:ns.length=u.ej.length)(ag:∀v,v<u.ej.length->ns[v]? =some (if v∈fM u (jy az) then(fM u (jy az)).idxOf v else 0))
  (U:StS ss (Ce ns az) (lN (tQ u (fM u (jy az)))) S fl a)
  (H0:ev F h (Nx l1 T1 l4 T4 lt Tt num ns [.I u.func,.I u.pc,wv,wb,ws] jC az (Sx fl ss ws lm S lb Tb lr Tr l4 l1 l3 gJ (.I u.func) (.I u.pc) Kh .ei Jo a
    (fg yL gK xs wv::fg xz fJ bs wb::fU eR fa::fU eR fn::fg yL gK ys Kh::fg xz fJ [] .ei::eJ l2 gJ [.I 0,.I 0,.ei,.ei,.ei]::ds))))
  (H:∀h' S c a b Jo,Sn F h F h'->StS ss (Ce ns az) (Ik u (jy az)) S c a->
   ev F h' (Nx l1 T1 l4 T4 lt Tt num ns [.I u.func,.I u.pc,wv,wb,ws] jC az (Sx c ss ws lm S lb Tb lr Tr l4 l1 l3 gJ (.I u.func) (.I u.pc) Kh b Jo a
    (fg yL gK xs wv::fg xz fJ bs wb::fU eR fa::fU eR fn::fg yL gK ys Kh::fg xz fJ ((List.range u.blocks.length).map (kOf u (jy az) bs0)) b::eJ l2 gJ [.I u.func,.I u.pc,Kh,b,Jo]::ds)))->
   Q (.agg [.I u.func,.I u.pc,Kh,b,Jo]) h') :
  lB Q [.ptr l1 0,.ptr l2 0,.ptr l3 0,.ptr l4 0,.func fV [] [.ptr lb 0,.ptr l3 0,.ptr l1 0,.ptr lr 0],wb,.I bs.length,.I 0] h:=by
 have nv:=g.nv;have nb:=g.nb;have gl:=g.len;have W:bs0.length=u.blocks.length:=by rw[<-hb.fst,Er]
 have X:bs.length=u.blocks.length:=by rw[T.len,W]
 have lss:ss.length=u.eo.length:=by rw[<-R,Er]
 obtain⟨A,hA⟩:∃A,jy az=A:=⟨_,rfl⟩
 have ah:∀v,v<u.ej.length->Ce ns az v=nm u A v:=λv hv=>by rw[<-hA];exact RX g ag hv
 rw[hA]at H U;have C:=T.row;rw[hA]at C
 obtain ⟨I,hI⟩:∃I,I=λk l h'=>∃i S c a b Jo,l=[.ptr l1 0,.ptr l2 0,.ptr l3 0,.ptr l4 0,.func fV [] [.ptr lb 0,.ptr l3 0,.ptr l1 0,.ptr lr 0],wb,.I bs.length,.I (i:Nat)]/\i+k=bs.length/\Sn F h F h'/\StS ss (Ce ns az) (lN (tQ u (fM u A)++B7 (u.blocks.take i))) S c a/\
   ev F h' (Nx l1 T1 l4 T4 lt Tt num ns [.I u.func,.I u.pc,wv,wb,ws] jC az (Sx c ss ws lm S lb Tb lr Tr l4 l1 l3 gJ (.I u.func) (.I u.pc) Kh b Jo a
    (fg yL gK xs wv::fg xz fJ bs wb::fU eR fa::fU eR fn::fg yL gK ys Kh::fg xz fJ ((List.range i).map (kOf u A bs0)) b::eJ l2 gJ [.I 0,.I 0,.ei,.ei,.ei]::ds))):=⟨_,rfl⟩
 refine CW I (λk x1 x2 x3 x4 ax aq ar au h1 hi=>?_) (k:=bs.length) ?_
 ·rw [hI]at hi;obtain⟨i,S,c,a,b,Jo,⟨⟩,hk,s1,Y,E⟩:=hi;unfold vx;by_cases hi:i<bs.length
  ·refine gy ?_;obtain⟨⟨B,w⟩,G⟩:∃y,bs0[i]? =some y:=⟨_,gN (by omega)⟩
   have hB:u.blocks[i]? =some B:=by rw[<-hb.fst,zq,G];rfl
   have Z:=C i B w G;rw[if_pos (by omega)]at Z;have ai:kOf u A bs0 i=(mP u A B,w):=by unfold kOf Q1;rw[G,CH,hB];rfl
   have aj:=Ad hB
   let⟨e1,e2⟩:=g.ends i B hB
   obtain⟨lv,ov,wl,z1,z2,⟨bv,bp,rfl,iv,ip,w1⟩,_⟩:=E.YY 13 rfl Z .i64;have z1:=z1;refine eh z1 (eh z2 ?_);refine gQ E rfl rfl (by simp only[ku,eQ,iv.one,ip.one];simp only[show w.one=true from w1];rfl) λN f s2=>?_;generalize h1.next=lx at*;have iv:=iv.since s2;have ip:=ip.since s2;have f:=f.J0 12 (by simp)
   have J:∀O S2 x m s,Sn F N F O->StS ss (Ce ns az) (lN (tQ u (fM u A)++B7 (u.blocks.take (i+1)))) S2 x m->
     ev F O (Nx l1 T1 l4 T4 lt Tt num ns [.I u.func,.I u.pc,wv,wb,ws] jC az (Sx x ss ws lm S2 lb Tb lr Tr l4 l1 l3 gJ (.I u.func) (.I u.pc) Kh b s m
      (eJ lx 43 (ku (mP u A B) bv w bp)::fg yL gK xs wv::fg xz fJ bs wb::fU eR fa::fU eR fn::fg yL gK ys Kh::fg xz fJ ((List.range i).map (kOf u A bs0)) b::eJ l2 gJ [.I 0,.I 0,.ei,.ei,.ei]::ds)))->
     jt Q (Es I k) [.ptr l1 0,.ptr l2 0,.ptr l3 0,.ptr l4 0,.func fV [] [.ptr lb 0,.ptr l3 0,.ptr l1 0,.ptr lr 0],.ptr lx 0,wb,.I bs.length,.I i] O:=by
    intro O S2 x m s s3 hS H3;have ak:=iv.since s3;have al:=ip.since s3;refine Bt ?_;unfold uo;refine oF (H3.ld 10 rfl rfl) (eh (H3.mY 12 rfl rfl) ?_);rw[nM (sz:=6) rfl rfl (by simp only[ku,eQ,iv.one,ip.one];simp only[show w.one=true from w1];rfl),fu];obtain⟨t,K,e4,_,z,s4⟩:=H3.rZ 18 rfl (jL:=96) (y:=(mP u A B,w)) ⟨bv,bp,rfl,ak,al,w1⟩ (by decide) (by decide) (by simp;omega);have L:fi 43 6 96 b (.slice O.next 0 1) (O.new (.cells 43 6 true false (ku (mP u A B) bv w bp)))=some (.val t K):=e4;rw[L,en];simp[oU,pJ]at z
    let⟨h5,e5,_,P,s5⟩:=z.st 10 (o:=3) rfl (by simp) (z.one 18 rfl)
    refine eh pf ?_;have M:gq 1 (.ptr l3 (0+3)) t K=some (.val .undef h5):=by rw[C7];exact e5
    rw[M,en];simp[oU,pJ]at P;refine fF ⟨k-1,by omega,?_⟩;rw[hI];refine⟨i+1,S2,x,m,t,s,rfl,by omega,(((s1.trans s2).trans s3).trans s4).trans s5,hS,?_⟩;have H6:=P.DO 12 (by simp);rw[YN,Mw,wBe,wBq,ai];exact H6
   have p:B7 (u.blocks.take (i+1))=B7 (u.blocks.take i)++(if B.fin=3 then[B.state] else[]):=by
    rw[aj];unfold B7;rw[List.filterMap_append,List.filterMap_cons];by_cases e:B.fin=3
    ·rw[if_pos e,if_pos e];rfl
    ·rw[if_neg e,if_neg e];rfl
   have aa:lN (tQ u (fM u A)++B7 (u.blocks.take (i+1))) <+: Ik u A:=by
    have:L0 u A=(tQ u (fM u A)++B7 (u.blocks.take (i+1)))++B7 (u.blocks.drop (i+1)):=by
     rw[QH,Pr];congr 1
     conv=>lhs;rw[<-wA1 (i+1) u.blocks]
     exact List.filterMap_append
    unfold Ik;rw[this];exact Jj _ _
   have j:(mP u A B).cond=if B.fin=2 then nm u A B.cond else B.cond:=rfl
   have d:(mP u A B).state=if B.fin=3 then(Ik u A).idxOf B.state else B.state:=rfl
   refine oF (f.ld 12 rfl rfl) (fX ?_);by_cases c2:B.fin=2
   ·rw [if_neg (by omega),Lg]at p;refine fW (by show(B.fin:Int)=2;omega) ?_;refine eh (f.ld 1 rfl rfl) (eh (f.ld 0 rfl rfl) (oF (f.ld 12 rfl rfl) ?_));refine KM f rfl (by omega) (by omega) g.sub (by rw[gl];exact e1 c2) λr q q1 q2=>⟨iZ _,eh q1 (eh q2 (eh pf ⟨f.ld 1 rfl rfl,?_⟩))⟩
    let⟨K,e4,n4,z,s4⟩:=f.st 12 (o:=2) (u:= .I (Ce ns az B.cond:Nat)) rfl (by simp[ku]) rfl
    have L:gq 1 (.ptr lx (0+2)) (.I (Ce ns az B.cond:Nat)) N=some (.val .undef K):=by rw[C7];exact e4
    rw [show({B with ej:=(B.ej.filter (stays A)).map (fM u A).idxOf}:Bk).cond=B.cond from rfl,L,en];simp[oU,pJ]at z;have hq:(ku {B with ej:=(B.ej.filter (stays A)).map (fM u A).idxOf} bv w bp).set 2 (.I (Ce ns az B.cond:Nat))=ku (mP u A B) bv w bp:=by
     unfold ku;rw[j,d,if_pos c2,if_neg (by omega),ah _ (e1 c2)];rfl
    rw[hq]at z;exact⟨n4,J K S c a Jo s4 (by rw[p];exact Y) z⟩
   ·refine fP (by show ¬(B.fin:Int)=2;omega) (fX ?_);by_cases c3:B.fin=3
    ·refine fW (by show(B.fin:Int)=3;omega) (oF (f.ld 12 rfl rfl) ?_);show cP CS fV [.I B.state,.ptr lb 0,.ptr l3 0,.ptr l1 0,.ptr lr 0] N _;obtain⟨sl,D⟩:∃sl,ss[B.state]? =some sl:=⟨_,gN (by have:=e2 c3;omega)⟩
     have am:u.eo[B.state]? =some (sl.map Prod.fst):=by rw[<-R,zq,D];rfl
     let⟨q1,q2⟩:=g.st _ _ am
     rw[Er]at q1;refine Qv f Y (by omega) (by omega) g.sub D (by have:=g.ns;omega) q1 (λy hy=>?_) λK an S4 ab ac s4 ad z=>?_
     ·let⟨r1,r2,r3,r4⟩:=q2 y.1 (wBl hy)
      rw[gl];exact⟨r1,r2,r3,r4⟩
     rw[if_pos c3]at p;have ao:Xq (lN (tQ u (fM u A)++B7 (u.blocks.take i))) B.state=lN (tQ u (fM u A)++B7 (u.blocks.take (i+1))):=by rw[p,<-Pr,zk];rfl
     rw [ao]at ad⊢;have ae:B.state∈lN (tQ u (fM u A)++B7 (u.blocks.take (i+1))):=(vY _ _).2 (by rw[p];simp);have ap:(lN (tQ u (fM u A)++B7 (u.blocks.take (i+1)))).idxOf B.state=(mP u A B).state:=by
      rw[<-NJ aa ae,d,if_pos c3]
     rw[ap]
     let⟨h5,e5,_,P,s5⟩:=z.st 12 (o:=5) (u:= .I ((mP u A B).state:Nat)) rfl (by simp[ku]) rfl
     refine eh pf ?_;have M:gq 1 (.ptr lx (0+5)) (.I ((mP u A B).state:Nat)) K=some (.val .undef h5):=by rw[C7];exact e5
     rw [M,en];simp[oU,pJ]at P;have hq:(ku {B with ej:=(B.ej.filter (stays A)).map (fM u A).idxOf} bv w bp).set 5 (.I ((mP u A B).state:Nat))=ku (mP u A B) bv w bp:=by
      unfold ku;rw[j,if_neg c2];rfl
     rw[hq]at P;exact J h5 S4 an ab ac (s4.trans s5) ad P
    ·refine fP (by show ¬(B.fin:Int)=3;omega) (J N S c a Jo (Sn.refl _ _) ?_ ?_)
     ·rw[p,if_neg c3,Lg];exact Y
     ·have:ku (mP u A B) bv w bp=ku {B with ej:=(B.ej.filter (stays A)).map (fM u A).idxOf} bv w bp:=by
       unfold ku;rw[j,d,if_neg c2,if_neg c3];rfl
      rw[this];exact f
  ·refine hY ?_;obtain rfl:i=bs.length:=by omega
   refine eh (E.mY 10 rfl rfl) ?_
   let⟨N,e2,_,f,s2⟩:=E.Qy 18 (ws:=[.I u.func,.I u.pc,Kh,b,Jo]) (n:=5) rfl rfl rfl (by simp only[eQ,E.one 16 rfl,E.one 17 rfl,E.one 11 rfl];rfl)
   rw[e2,en];simp[oU,pJ]at f;refine eh (f.mY 18 rfl rfl) ?_;rw[X,I2]at Y;rw[X]at f;exact H N S c a b Jo (s1.trans s2) Y f
 ·rw[hI];exact⟨0,S,fl,a,.ei,Jo,rfl,by omega,Sn.refl _ _,by rw[wBz];show StS _ _ (lN (_++[])) _ _ _;rw[Lg];exact U,H0⟩
end
open Un Dm
section
variable{F F':Nat->Prop}{h h':Hp}{cs ds:List Pc}{Q:fq}{u:U}{wv wb ws jC:V}{lt Tt:Nat}{az:List Int}{xs:List (Vl×V)}{bs:List (Bk×V)}{fa fn:Nat->Option (List Nat×V)}{ss:List (List (Fm×V×V))}{fl:KF->Option (List Nat×V)}
theorem ev.N3(H:ev F h cs)(n:Nat):∃G,ev G h (cs.drop n)/\Sn F h G h/\∀(i:Nat)(c:Pc),i<n->cs[i]? =some c->∀l,c.my l->G l:=by
 have ht:∀{i:Nat} {c:Pc},(cs.take n)[i]? =some c->i<n/\cs[i]? =some c:=by grind
 refine⟨λl=>F l\/OR (cs.take n) l,⟨λl a=>a.elim (H.fl l) λ⟨i,c,hc,e⟩=>(c.Nn (H.ok i c (ht hc).2) l e).1,λi c hc=>?_,λi j c d hc b k=>?_⟩,⟨iZ _,by simp_all,by simp_all⟩,λi c hi hc l a=> .inr ⟨i,c,by rw[List.getElem?_take_of_lt hi];exact hc,a⟩⟩
 ·rw[wBa]at hc;refine c.mono (H.ok _ c hc) (by simp_all) λl a f=>?_;rcases f with f|⟨j,d,b,e⟩
  ·exact(c.Nn (H.ok _ c hc) l a).2 f
  ·obtain⟨m,g⟩:=ht b;exact H.Et (n+i) j c d hc g (by omega) l a e
 ·rw[wBa]at hc b;exact H.Et (n+i) (n+j) c d hc b (by omega)
section
variable{G:Nat->Prop}
theorem il.ofRow{α β:Type}{E:qf α} {E':qf β}(H:ev F h cs)(i:Nat){ty:Nat}{xs:List α}{ys:List β}{v:V}(hi:cs[i]? =some (fg E ty xs v))(g:∀l,F l->G l)(j:∀l,Loc v l->G l)(e:E'.sz=E.sz)(f:ys.length=xs.length)(b:∀(k:Nat) x y cs,xs[k]? =some x->ys[k]? =some y->E.rel F h x cs->E'.rel G h y cs):il E' G h ys v:=by
 have c:=(jo.1 hi).1;exact((H.Wb (E':=E.fix F h) i hi rfl rfl λk x y cs hx a b=>by rw[hx]at a;cases a;exact b).row i (MR c)).read.Wb e (by grind) f λk x y cs hx a d=>b k x y cs hx a d
theorem FC(H:ev F h cs)(j:Nat){ι:Type}{ty:Nat}{f:ι->Option (List Nat×V)}(a:cs[j]? =some (fU ty f))(b:∀l,F l->G l)(c:∀l,(fU ty f).my l->G l){i:ι}{xs:List Nat}{v:V}(hi:f i=some (xs,v)):il eN G h xs v:=
 (H.rows j a hi).slR b λl d=>c l ⟨i,xs,v,hi,d⟩
end
theorem SS(g:Ai u az)(hc:YI u.ej xs fa)(hb:Yo u.blocks bs fn)(i:CpS u.eo ss fl)
  (H0:ev F h (fg yL gK xs wv::fg xz fJ bs wb::fU eR fa::fU eR fn::fg eZ eR az jC::eJ lt Tt [.I u.func,.I u.pc,wv,wb,ws,jC]::fg (eL Q0) lC ss ws::fU eR fl::cs))
  (H:∀F' h' vv vb vs,Sn F h F' h'->ev F' h' (fg eV gK (gU u (jy az)).ej vv::fg eK fJ (gU u (jy az)).blocks vb::cs)->il (eL eF) F' h' (gU u (jy az)).eo vs->Q (.agg (uC (gU u (jy az)) vv vb vs)) h') :
  cP CS mW [.ptr lt 0] h Q:=by
 refine T3 g hc hb H0 λF1 h1 l1 T1 l2 l3 l4 T4 lm lb Tb lr Tr num ns ab ac s1 N r d H1=>?_;refine zfr g hc i r d H1 λh2 ad S2 ae Y Kh Jo s2 Z H2=>?_;have t:=Z.st;rw[I2]at t;refine zf3 g hb i.fst N r d t H2 λO S3 ag aa P A s3 M p=>?_;have Hp:=p.perm [0,1,2,3,4,5,6,7,8,9,10,11,12,13,14,15,18,19,16,17] 20 (by decide) (by decide) (by simp);obtain⟨G,H4,s4,C⟩:=Hp.N3 18;have q:∀l,F1 l->G l:=λl hl=>s4.mono l hl;have H5:=H4.Wb 0 (E':=eV) (ys:=(gU u (jy az)).ej) rfl rfl (by simp[gU]) λk x y ws hx b e=>by
  rw[zq]at hx;have b:((fM u (jy az)).map λn=>ir u (jy az) (u.ej.getD n zaT))[k]? =some y:=b;rw[zq]at b
  cases hk:(fM u (jy az))[k]? with
  |none=>simp_all
  | some n=>
    rw[hk]at hx b;cases hx;cases b;obtain⟨rfl,_⟩:=e;have R:=Ic g.iM (zD hk);obtain⟨⟨x,w⟩,m⟩:∃y,xs[n]? =some y:=⟨_,gN (by rw[<-Er (f:=Prod.fst),hc.fst];exact R)⟩
    have D:u.ej[n]? =some x:=by rw[<-hc.fst,zq,m];rfl
    have S:yOf u (jy az) xs n=(ir u (jy az) x,w):=by unfold yOf wV;rw[m,CH,D];rfl
    have E:=Z.row n x w m;rw[I2,if_pos (zD hk)]at E;have T:u.ej.getD n zaT=x:=by rw[CH,D];rfl
    show eV.rel G O (ir u (jy az) (u.ej.getD n zaT)) _;rw[S,T];exact⟨w,rfl,FC p 14 rfl q (C 14 _ (by decide) rfl) E⟩
 have H6:=H5.Wb 1 (E':=eK) (ys:=(gU u (jy az)).blocks) rfl rfl (by simp[gU]) λk x y ws hx b e=>by
  rw[zq]at hx;have b:(u.blocks.map (mP u (jy az)))[k]? =some y:=b;rw[zq]at b
  cases hB:u.blocks[k]? with
  |none=>simp_all
  | some B=>
    rw[hB]at b;cases b;have I:=(jo.1 hB).1;rw[wBk I]at hx;cases hx;obtain⟨⟨B',w⟩,o⟩:∃y,bs[k]? =some y:=⟨_,gN (by rw[<-Er (f:=Prod.fst),hb.fst];exact I)⟩
    have J:u.blocks[k]? =some B':=by rw[<-hb.fst,zq,o];rfl
    rw[hB]at J;cases J;have U:kOf u (jy az) bs k=(mP u (jy az) B,w):=by unfold kOf Q1;rw[o,CH,hB];rfl
    rw[U]at e;obtain⟨bv,bp,rfl,iv,ip,_⟩:=e;exact⟨bv,w,bp,rfl,iv,FC p 15 rfl q (C 15 _ (by decide) rfl) (hb.row k B w o),ip⟩
 refine H G O Kh P A (((s1.trans s2).trans s3).trans s4) H6 ?_;refine il.ofRow p 11 rfl q (C 11 _ (by decide) rfl) rfl (by simp[gU,M.out]) λk x y ws hx b e=>?_;rw[M.out,zq]at hx;have b:((Ik u (jy az)).map λs=>(u.eo.getD s []).map (XJ u (jy az)))[k]? =some y:=b;rw[zq]at b
 cases hk:(Ik u (jy az))[k]? with
 |none=>simp_all
 | some s=>
   rw[hk]at hx b;cases hx;cases b;have K:=zD hk;have oS:=M.lt s K;obtain⟨l,c⟩:∃l,ss[s]? =some l:=by simp_all
   have L:u.eo[s]? =some (l.map Prod.fst):=by rw[<-i.fst,zq,c];rfl
   have g1:ss.getD s []=l:=by rw[CH,c];rfl
   have g2:u.eo.getD s []=l.map Prod.fst:=by rw[CH,L];rfl
   show(eL eF).rel G O ((u.eo.getD s []).map (XJ u (jy az))) ws;rw[g2];obtain⟨f,rfl,V⟩:=e;dsimp only at V;rw[g1]at V;refine⟨f,rfl,V.Wb rfl q (by simp) λj z y cs hz b e=>?_⟩;rw[List.map_map,zq,hz]at b;cases b;obtain⟨z,a,w⟩:=z;obtain⟨rfl,_,_⟩:=e;obtain⟨W,X⟩:=M.rows s l j z a w c hz;rw[if_pos K]at W X;obtain⟨_,q2⟩:=g.st s _ L;obtain⟨_,_,q3,q4⟩:=q2 z (by grind);rw[Ym λv hv=>RX g d (q3 v hv)]at W;rw[Ym λv hv=>RX g d (q4 v hv)]at X;exact⟨a,w,rfl,FC p 5 rfl q (C 5 _ (by decide) rfl) W,FC p 5 rfl q (C 5 _ (by decide) rfl) X⟩
end
section
variable{F:Nat->Prop}{h:Hp}{cs:List Pc}{u:U}{wv wb ws:V}{xs:List (Vl×V)}{bs:List (Bk×V)}{ss:List (List (Fm×V×V))}{fa fn:Nat->Option (List Nat×V)}{fl:KF->Option (List Nat×V)}
theorem ev.Tf(hc:YI u.ej xs fa)(hb:Yo u.blocks bs fn)(hs:CpS u.eo ss fl)(H:ev F h (fg yL gK xs wv::fg xz fJ bs wb::fg (eL Q0) lC ss ws::fU eR fa::fU eR fn::fU eR fl::cs)) :
  ∃G,ev G h cs/\Sn F h G h/\tL G h u wv wb ws:=by
 obtain⟨G,i,s4,d⟩:=H.N3 6;have c:∀l,F l->G l:=λl m=>s4.mono l m;refine⟨G,i,s4,⟨?_,?_,?_⟩⟩
 ·refine il.ofRow H 0 rfl c (d 0 _ (by decide) rfl) rfl (by rw[<-hc.fst];simp) λk x y ws hx b e=>?_;obtain⟨x,w⟩:=x;rw[<-hc.fst,zq,hx]at b;cases b;obtain⟨rfl,_⟩:=e;exact⟨w,rfl,FC H 3 rfl c (d 3 _ (by decide) rfl) (hc.row k x w hx)⟩
 ·refine il.ofRow H 1 rfl c (d 1 _ (by decide) rfl) rfl (by rw[<-hb.fst];simp) λk x y ws hx b e=>?_;obtain⟨x,w⟩:=x;rw[<-hb.fst,zq,hx]at b;cases b;obtain⟨bv,bp,rfl,n,ip,_⟩:=e;exact⟨bv,w,bp,rfl,n.mono c,FC H 4 rfl c (d 4 _ (by decide) rfl) (hb.row k x w hx),ip.mono c⟩
 ·refine il.ofRow H 2 rfl c (d 2 _ (by decide) rfl) rfl (by rw[<-hs.fst];simp) λk x y ws hx b e=>?_;rw[<-hs.fst,zq,hx]at b;cases b;obtain⟨f,rfl,o⟩:=e;refine⟨f,rfl,o.Wb rfl c (by simp) λj z y cs g b e=>?_⟩;rw[zq,g]at b;cases b;obtain⟨z,a,w⟩:=z;obtain⟨rfl,_,_⟩:=e;obtain⟨p,q⟩:=hs.loc k x j z a w hx g;exact⟨a,w,rfl,FC H 5 rfl c (d 5 _ (by decide) rfl) p,FC H 5 rfl c (d 5 _ (by decide) rfl) q⟩
end
open Un Dm
section
variable{F F':Nat->Prop}{h h':Hp}{cs ds:List Pc}{Q:fq}{u:U}{vv vb vs jC:V}{az:List Int}
theorem TD(g:Ul u)(A:Ix u)(m:az.length=u.ej.length)(B:∀kp u' jD seen post,Iq u.blocks.length (next u) seen post []->kp=(λb=>post.reverse.contains b)->Cut u kp u'->KQ u kp az jD->Ai u' jD)
  (r:ev F h (fg eZ eR az jC::cs)) (s:tL F h u vv vb vs)
  (H:∀F' h' kp u' jD seen post wv wb ws,Sn F h F' h'->ev F' h' (fg eV gK (gU u' (jy jD)).ej wv::fg eK fJ (gU u' (jy jD)).blocks wb::cs)->Iq u.blocks.length (next u) seen post []->kp=(λb=>post.reverse.contains b)->Cut u kp u'->KQ u kp az jD->il (eL eF) F' h' (gU u' (jy jD)).eo ws->Q (.agg (uC (gU u' (jy jD)) wv wb ws)) h') :
  cP CS rP [.agg (uC u vv vb vs),jC] h Q:=by
 refine UU ?_;refine j4 r s.one λC D v=>pz D λh2 w x=>?_;generalize h.next=l1 at*;generalize C.next=l2 at*;have u2:=(s.since v).since x;refine eh (w.mY 1 rfl rfl) ?_;refine Nq g w u2 λF3 h3 wv wb ws xs bs ss fa fn fl E hc hb hs c=>?_;have hp:fT [.I 0,.I 0,.ei,.ei,.ei,.ei] [(0,5),(5,1)] [(0,V.agg (uC u wv wb ws)),(1,jC)]=some (V.agg [.I u.func,.I u.pc,wv,wb,ws,jC]):=by
  rcases r.row 0 rfl with⟨rfl,_⟩|⟨t,I,rfl,_⟩ <;> rfl
 refine eh hp ?_;refine j4 c (by simp only[eQ,c.one 0 rfl,c.one 1 rfl,c.one 2 rfl,c.one 8 rfl];rfl) λh4 J s4=>?_;have K:=J.perm [1,2,4,5,9,0,3,6,7,8] 10 (by decide) (by decide) (by simp);refine XF A hc hb m (c.one 2 rfl) K λF6 h6 seen post kp u' L M N O jD P R G d a o p e y=>?_;have gn:=B kp u' jD seen post G d a e;have S:=a.func;have T:=a.pc;rw[<-S,<-T]at y;refine SS gn o p (by rw[a.eo];exact hs) y λU h7 f i j W k l=>?_;have k:=k
 let⟨X,Y,_,q,z⟩:=k.Qy 2 (ws:=uC (gU u' (jy jD)) f i j) (n:=5) rfl rfl rfl (by simp only[uC,eQ,k.one 0 rfl,k.one 1 rfl,l.one];rfl)
 rw[Y,en];simp[oU,pJ]at q;refine eh (q.mY 2 rfl rfl) ?_;have Z:=q.perm [2,3,0,1] 4 (by decide) (by decide) (by simp);exact H U X kp u' jD seen post f i j ((((((v.trans x).trans E).trans s4).trans R).trans W).trans z) Z.tail.tail G d a e (l.since z)
theorem TE(g:Ul u)(j:Ix u)(c:az.length=u.ej.length)(k:∀kp u' jD seen post,Iq u.blocks.length (next u) seen post []->kp=(λb=>post.reverse.contains b)->Cut u kp u'->KQ u kp az jD->Ai u' jD)
  (l:ev F h (fg eZ eR az jC::cs)) (m:tL F h u vv vb vs)
  (H:∀F' h' kp u' jD seen post wv wb ws,Sn F h F' h'->ev F' h' cs->Iq u.blocks.length (next u) seen post []->kp=(λb=>post.reverse.contains b)->Cut u kp u'->KQ u kp az jD->tL F' h' (gU u' (jy jD)) wv wb ws->Q (.agg (uC (gU u' (jy jD)) wv wb ws)) h') :
  cP CS rP [.agg (uC u vv vb vs),jC] h Q:=
 TD g j c k l m λF' h' kp u' jD seen post wv wb ws n o G d a e p=>by
  let⟨q,i,r⟩:=o.jc 0 rfl
  let⟨s,f,t⟩:=q.jc 1 rfl
  exact H _ h' kp u' jD seen post wv wb ws ((n.trans i).trans f) s.tail.tail G d a e ⟨r.since f,t,(p.since i).since f⟩
theorem O4{n:Nat}{nx:Nat->List Nat}{seen:List Bool}{post:List Nat}(G:Iq n nx seen post []):∀{b:Nat}{l:List Nat},Pt nx b l->b∈post
 | _,_,.nil=>by
   let⟨p,hp⟩:=G.last rfl
   simp_all
 | _,_,.step h e=>by
   rcases(G.iff _).1 (G.closed _ (O4 G h) _ e)with a|a
   ·exact a
   simp_all
theorem KO(g:Good u)(e:rM u):Ix u:=⟨L5 g,g.nv,g.Ao,g.iM,λb B a=>⟨Fu g a,λp hp=>by
 rw[g.fh b B a]at hp
 let⟨q,B',c,_,d⟩:=xg.1 hp
 grind⟩,λv b k x B c f d h=>(g.Cd v b k x B c f d h).2,e⟩
theorem KG{P:Nat->Prop}(g:Gd u P)(n:rM u)(j:az.length=u.ej.length)(d:∀(v:Nat) a,az[v]? =some a->a<az.length):Ai u az where
 nv:=g.nv
 nb:=g.nb
 ns:=g.ns
 once:=g.Ao
 iM:=g.iM
 len:=j
 sub:=d
 parts v x hx:=by
  have c:=λw o=>uP (g.use v x hx w o);unfold gG at c;refine⟨n v x hx,?_⟩;by_cases e:x.op=21
  ·rw[if_pos e]at c;have p:two x.op=false:=by rw[e];rfl
   have q:ml x.op=false:=by rw[e];rfl
   exact⟨by simp_all,by simp_all,λ_=>c,g.leave v x hx⟩
  ·rw [if_neg e]at c;by_cases c2:x.op=20
   ·rw[if_pos c2]at c;have i:=g.putAt v x hx c2;rw[wAz (by omega)]at c;exact⟨by simp_all,by simp_all,by simp_all,g.leave v x hx⟩
   ·rw [if_neg c2]at c;refine⟨λh=>?_,λh=>?_,by omega,g.leave v x hx⟩
    ·by_cases r:two x.op=true
     ·simp_all
     simp_all
    simp_all
 ends b B hB:=by
  rcases g.fin b B hB with⟨i,_⟩|⟨i,_,k⟩|⟨i,_,k⟩
  ·omega
  ·grind[uP]
  omega
 st s fs hfs:=by
  let⟨i,k⟩:=EC g s fs hfs
  refine⟨by omega,λf l=>?_⟩
  let⟨t,y⟩:=k f l
  have m:=Ej g hfs;refine⟨by omega,by omega,λv hv=>m v ?_,λv hv=>m v ?_⟩
  ·exact UE.2 ⟨f,l,Ti _ hv⟩
  ·exact UE.2 ⟨f,l,wBY _ hv⟩
theorem Xe(g:Good u)(k:rM u)(i:az.length=u.ej.length)(m:∀(v:Nat) a,az[v]? =some a->a<az.length)(n:ev F h (fg eZ eR az jC::cs))(o:tL F h u vv vb vs)
  (H:∀F' h' wv wb ws,Sn F h F' h'->ev F' h' cs->tL F' h' (gU u (jy az)) wv wb ws->Q (.agg (uC (gU u (jy az)) wv wb ws)) h') :
  cP CS rP [.agg (uC u vv vb vs),jC] h Q:=by
 have j:∀kp u' jD seen post,Iq u.blocks.length (next u) seen post []->kp=(λb=>post.reverse.contains b)->Cut u kp u'->KQ u kp az jD->u' = u/\jD=az:=λkp u' jD seen post G f c d=>by
  have e:∀b,b<u.blocks.length->kp b=true:=λb hb=>by
   let⟨l,hl⟩:=g.reach b hb
   grind[O4]
  exact⟨c.eq g e,d.eq e⟩
 refine TE (AI g k) (KO g k) i (λkp u' jD seen post G f c d=>?_) n o λF' h' kp u' jD seen post wv wb ws q r G f c d p=>?_
 ·obtain⟨rfl,rfl⟩:=j kp u' jD seen post G f c d
  grind[KG]
 grind
end
