/- Parts. -/
import Derived.Test.YtpnddokajmjpbaaDoorM30
namespace Go.Proofs.YtpnddokajmjpbaaDoor.Hx
open Go.Proofs.YtpnddokajmjpbaaDoor.Un Go.Proofs.YtpnddokajmjpbaaDoor.Dm
def W8:Vl:=⟨0,0,0,0,[],0⟩
def wV (xs:List (Vl×V))(n:Nat):V:=match xs[n]? with
 |some x=>x.2
 |none=> .undef
def VN (u:U)(A:Nat->Int)(xs:List (Vl×V))(n:Nat):Vl×V:=(iD u A (u.ee.getD n W8),wV xs n)
section
variable{F F':Nat->Prop}{h h':Hp}{cs ds:List Pc}{Q:fx}{u:U}{wv wb ws kU num:V}{lt Tt l1 T1 l2 l3 l4 T4 lm lb Tb lr Tr:Nat}{az:List Int}{ns:List Nat}{xs:List (Vl×V)}{bs:List (Bk×V)}{fa fn:Nat->Option (List Nat×V)}{ss:List (List (Fm×V×V))}{fl:KF->Option (List Nat×V)}
theorem M6 (g:Ca u az)(a:∀v,v<u.ee.length->ns[v]? =some (if v∈fR u (jQ az) then(fR u (jQ az)).idxOf v else 0)){v:Nat}(hv:v<u.ee.length):zZ ns az v=nm u (jQ az) v:=by
 have b:=Ou («as»:=jQ az) (n:=u.ee.length) (λw d=>by
  have c:=gQ (show w<az.length by rw[g.len];exact d);have e:=g.sub w _ c;rw[Fb c];have:=g.len;omega) (u.ee.length+1) v hv
 unfold zZ nm;rw[g.len,E3,a _ b];rfl
structure NV (u:U) (az:List Int) (ns:List Nat) (xs:List (Vl×V)) (ss:List (List (Fm×V×V))) (i:Nat) (fa:Nat->Option (List Nat×V)) (S:Int->Option V) (fl:KF->Option (List Nat×V)) (a:List (List (Fm×V×V))):Prop where
 row:∀v x w,xs[v]? =some (x,w)->fa v=some (if v∈(fR u (jQ az)).take i then(iD u (jQ az) x).args else x.args,w)
 st:WQ ss (zZ ns az) (kJ (qJ u ((fR u (jQ az)).take i))) S fl a
theorem zaB (g:Ca u az)(hc:TK u.ee xs fa)(aa:XD u.eh ss fl){p:V}(aI:ns.length=u.ee.length)(aA:∀v,v<u.ee.length->ns[v]? =some (if v∈fR u (jQ az) then(fR u (jQ az)).idxOf v else 0))
  (H0:ei F h (Nx l1 T1 l4 T4 lt Tt num ns [.int .i64 u.func,.int .i64 u.pc,wv,wb,ws] kU az (Sx fl ss ws lm (λ_=>none) lb Tb lr Tr l4 l1 l3 gj (.int .i64 u.func) (.int .i64 u.pc) .ec .ec .ec []
    (eQ vW gy xs wv::eQ tO fE bs wb::fJ en fa::fJ en fn::eQ vW gy [] .ec::eQ tO fE [] .ec::eo l2 gj [.int .i64 0,.int .i64 0,.ec,.ec,.ec]::eQ eN en (fR u (jQ az)) p::cs))))
  (H:∀h' f S t z EY CO,Sn F h F h'->NV u az ns xs ss (fR u (jQ az)).length f S t z->
   ei F h' (Nx l1 T1 l4 T4 lt Tt num ns [.int .i64 u.func,.int .i64 u.pc,wv,wb,ws] kU az (Sx t ss ws lm S lb Tb lr Tr l4 l1 l3 gj (.int .i64 u.func) (.int .i64 u.pc) EY .ec CO z
    (eQ vW gy xs wv::eQ tO fE bs wb::fJ en f::fJ en fn::eQ vW gy ((fR u (jQ az)).map (VN u (jQ az) xs)) EY::eQ tO fE [] .ec::eo l2 gj [.int .i64 0,.int .i64 0,.ec,.ec,.ec]::eQ eN en (fR u (jQ az)) p::cs)))->
   kr CS Q [.ptr l1 0,.ptr l2 0,.ptr l3 0,.ptr l4 0,.func fF [] [.ptr lb 0,.ptr l3 0,.ptr l1 0,.ptr lr 0],wb,.int .i64 bs.length,.int .i64 0] h') :
  kF CS Q [.ptr l1 0,.ptr l2 0,.ptr l3 0,.ptr l4 0,.ptr lr 0,.func fF [] [.ptr lb 0,.ptr l3 0,.ptr l1 0,.ptr lr 0],p,.int .i64 ((fR u (jQ az)).length:Nat),.int .i64 0] h:=by
 have nv:=g.nv;have gl:=g.len;have aJ:xs.length=u.ee.length:=by rw[<-hc.fst,Fk]
 have lss:ss.length=u.eh.length:=by rw[<-aa.fst,Fk]
 have pn:∀{l o:Nat},iq (.ptr l o)=some (.ptr l o):=fT _ _;have pf:∀{l o k:Nat},fH k (.ptr l o)=some (.ptr l (o+k)):=ez _ _ _;obtain⟨A,hA⟩:∃A,jQ az=A:=⟨_,rfl⟩
 have ab:∀v,v<u.ee.length->zZ ns az v=nm u A v:=λv hv=>by rw[<-hA];exact M6 g aA hv
 have ai:=yg («as»:=A) g.once;have aK:(fR u A).length<=u.ee.length:=jy _ _ ai λv hv=>En g.l0 hv
 obtain ⟨I,hI⟩:∃I:Nat->LP,I=λk l h'=>∃(i:Nat) (f:Nat->Option (List Nat×V)) (S:Int->Option V) (t:KF->Option (List Nat×V)) (z:List (List (Fm×V×V))) (EY CO:V),l=[.ptr l1 0,.ptr l2 0,.ptr l3 0,.ptr l4 0,.ptr lr 0,.func fF [] [.ptr lb 0,.ptr l3 0,.ptr l1 0,.ptr lr 0],p,.int .i64 ((fR u A).length:Nat),.int .i64 i]/\i+k=(fR u A).length/\Sn F h F h'/\NV u az ns xs ss i f S t z/\
   ei F h' (Nx l1 T1 l4 T4 lt Tt num ns [.int .i64 u.func,.int .i64 u.pc,wv,wb,ws] kU az (Sx t ss ws lm S lb Tb lr Tr l4 l1 l3 gj (.int .i64 u.func) (.int .i64 u.pc) EY .ec CO z
    (eQ vW gy xs wv::eQ tO fE bs wb::fJ en f::fJ en fn::eQ vW gy (((fR u A).take i).map (VN u A xs)) EY::eQ tO fE [] .ec::eo l2 gj [.int .i64 0,.int .i64 0,.ec,.ec,.ec]::eQ eN en (fR u A) p::cs))):=⟨_,rfl⟩
 rw[hA]at H0 H⊢;refine AG I (λk x1 x2 x3 x4 aL aM aN aO aP h1 hi=>?_) (k:=(fR u A).length) ?_
 ·rw [hI]at hi;obtain⟨i,f,S,t,z,EY,CO,⟨⟩,hk,s1,hN,N⟩:=hi;unfold rM;by_cases hi:i<(fR u A).length
  ·refine gw ?_;have hx:=gQ hi;have ac:=BB hx;have aQ:=En g.l0 (AO hi);have aB:(fR u A)[i] ∉ (fR u A).take i:=λhm=>by
    obtain⟨j,hj⟩:=mA.1 hm;have aC:=(iB.1 hj).1;rw[FY]at aC;rw[VF (by omega)]at hj;have:=p7 ai hj hx;omega
   generalize (fR u A)[i]=n at*;obtain⟨⟨x,w⟩,J⟩:∃y,xs[n]? =some y:=⟨_,gQ (by omega)⟩
   have ae:u.ee[n]? =some x:=by rw[<-hc.fst,wq,J];rfl
   have aD:VN u A xs n=(iD u A x,w):=by unfold VN wV;rw[J,E3,ae];rfl
   obtain ⟨p1,p2,p3,p4,p5⟩:=g.parts n x ae;obtain⟨la,oa,y1,y2⟩:=N.HX 19 rfl hx .i64;obtain⟨lv,ov,wl,z1,z2,⟨rfl,w1⟩,_⟩:=N.Vw 12 rfl J .i64;have z1:gD 6 wv (.int .i64 n)=some (.ptr lv ov):=z1;refine ed y1 (ed y2 (ed (N.ld 0 rfl rfl) (ed pn (ed pf (oF (N.ld 2 rfl rfl) (ed z1 (ed z2 ?_)))))));refine iK N rfl rfl (by simp only[ll,eJ];simp only[show w.one=true from w1];rfl) λY O s2=>?_;generalize h1.next=lx at*;have O:ei F Y (Nx l1 T1 l4 T4 lt Tt num ns [.int .i64 u.func,.int .i64 u.pc,wv,wb,ws] kU az (Sx t ss ws lm S lb Tb lr Tr l4 l1 l3 gj (.int .i64 u.func) (.int .i64 u.pc) EY .ec CO z (eo lx 42 (ll x w)::_))):=O.Nj 12 (by simp);have aj:∀d:Nat->Option (List Nat×V),(∀v,v≠n->d v=f v)->d n=some ((iD u A x).args,w)->∀v y b,xs[v]? =some (y,b)->d v=some (if v∈(fR u A).take (i+1) then(iD u A y).args else y.args,b):=λd h1 Y v y b hv=>by
    rw[ac];by_cases e:v=n
    ·subst e;rw[J]at hv;cases hv;rw[Y,if_pos (by simp)]
    ·rw[h1 v e];have:=hN.row v y b hv;rw[hA]at this;rw[this];simp[e]
   have ak:f n=some (x.args,w):=by
    have:=hN.row n x w J;rw[hA,if_neg aB]at this;exact this
   have ag:=hN.st;rw[hA]at ag
   have al:∀m d S2 R D K,Sn F h F m->(∀v,v≠n->d v=f v)->d n=some ((iD u A x).args,w)->WQ ss (zZ ns az) (kJ (qJ u ((fR u A).take (i+1)))) S2 R D->
     ei F m (Nx l1 T1 l4 T4 lt Tt num ns [.int .i64 u.func,.int .i64 u.pc,wv,wb,ws] kU az (Sx R ss ws lm S2 lb Tb lr Tr l4 l1 l3 gj (.int .i64 u.func) (.int .i64 u.pc) EY .ec K D
      (eo lx 42 (ll (iD u A x) w)::eQ vW gy xs wv::eQ tO fE bs wb::fJ en d::fJ en fn::eQ vW gy (((fR u A).take i).map (VN u A xs)) EY::eQ tO fE [] .ec::eo l2 gj [.int .i64 0,.int .i64 0,.ec,.ec,.ec]::eQ eN en (fR u A) p::cs)))->
     jU CS Q (Cs I k) [.ptr l1 0,.ptr l2 0,.ptr l3 0,.ptr l4 0,.ptr lr 0,.func fF [] [.ptr lb 0,.ptr l3 0,.ptr l1 0,.ptr lr 0],.ptr lx 0,p,.int .i64 ((fR u A).length:Nat),.int .i64 i] m:=by
    intro m d S2 R D K P T U hS B;refine zE ?_;unfold qh;refine oF (B.ld 10 rfl rfl) (ed (B.wH 12 rfl rfl) ?_);rw[mq (sz:=6) (w:=ll (iD u A x) w) rfl rfl (by simp only[ll,eJ];simp only[show w.one=true from w1];rfl),fq];obtain⟨E,G,e4,_,C,W⟩:=B.vF 17 rfl (jr:=64) (zF:=42) (y:=(iD u A x,w)) (w:=ll (iD u A x) w) (ro:=false) ⟨rfl,w1⟩ (by decide) (by decide) (by simp;omega);have L:eR 42 6 64 EY (.slice m.next 0 1) (m.new (.cells 42 6 true false (ll (iD u A x) w)))=some (.val E G):=e4;rw[L,ef];simp only[iO,kZ]at C;obtain⟨h5,e5,_,H5,s5⟩:=C.st 10 (o:=2) (u:=E) rfl (by simp) (C.one 17 rfl);refine ed pf ?_;have ah:gB 1 (.ptr l3 (0+2)) E G=some (.val .undef h5):=by rw[vI];exact e5
    rw[ah,ef];simp only[iO,kZ]at H5;refine fM ⟨k-1,by omega,?_⟩;rw[hI];refine⟨i+1,d,S2,R,D,E,K,rfl,by omega,(P.trans W).trans s5,⟨λv y b hv=>by rw[hA];exact aj d T U v y b hv,by rw[hA];exact hS⟩,?_⟩;have H6:=H5.Ka 12 (by simp);rw[ac,EV,PW,Qz,aD];exact H6
   have X:qJ u ((fR u A).take (i+1))=qJ u ((fR u A).take i)++(if leaves x.op=true then[x.state] else[]):=by
    rw[ac];unfold qJ;rw[List.filterMap_append,List.filterMap_cons];simp only[ae];by_cases e:leaves x.op=true
    ·rw[if_pos e,if_pos e];rfl
    ·rw[if_neg e,if_neg e];rfl
   have am:kJ (qJ u ((fR u A).take (i+1))) <+: GO u A:=by
    have:Ha u A=qJ u ((fR u A).take (i+1))++(qJ u ((fR u A).drop (i+1))++z6 u.blocks):=by
     rw[LB,<-Cy];congr 1
     conv=>lhs;rw[<-VM (i+1) (fR u A)]
     exact List.filterMap_append
    unfold GO;rw[this];exact EX _ _
   have an:∀m d,Sn F h F m->(∀v,v≠n->d v=f v)->d n=some ((iD u A x).args,w)->
     ei F m (Nx l1 T1 l4 T4 lt Tt num ns [.int .i64 u.func,.int .i64 u.pc,wv,wb,ws] kU az (Sx t ss ws lm S lb Tb lr Tr l4 l1 l3 gj (.int .i64 u.func) (.int .i64 u.pc) EY .ec CO z
      (eo lx 42 (ll {x with a:=(iD u A x).a,b:=(iD u A x).b} w)::eQ vW gy xs wv::eQ tO fE bs wb::fJ en d::fJ en fn::eQ vW gy (((fR u A).take i).map (VN u A xs)) EY::eQ tO fE [] .ec::eo l2 gj [.int .i64 0,.int .i64 0,.ec,.ec,.ec]::eQ eN en (fR u A) p::cs)))->
     jS CS Q (Cs I k) [.ptr l1 0,.ptr l2 0,.ptr l3 0,.ptr l4 0,.ptr lr 0,.func fF [] [.ptr lb 0,.ptr l3 0,.ptr l1 0,.ptr lr 0],.ptr lx 0,p,.int .i64 ((fR u A).length:Nat),.int .i64 i] m:=by
    intro m d P T U B;refine zl ?_;unfold qL;refine oF (B.ld 12 rfl rfl) (HP (jH ?_));by_cases hlv:leaves x.op=true
    ·refine ig hlv (oF (B.ld 12 rfl rfl) ?_);show cP CS fF [.int .i64 x.state,.ptr lb 0,.ptr l3 0,.ptr l1 0,.ptr lr 0] m _;obtain⟨sl,Z⟩:∃sl,ss[x.state]? =some sl:=⟨_,gQ (by have:=p5 hlv;omega)⟩
     have aE:u.eh[x.state]? =some (sl.map Prod.fst):=by rw[<-aa.fst,wq,Z];rfl
     obtain⟨q1,q2⟩:=g.st _ _ aE;rw[Fk]at q1;refine L8 B ag (by omega) (by omega) g.sub Z (by have:=g.ns;omega) q1 (λy hy=>?_) λG aF S4 ao ap W aq C=>?_
     ·obtain⟨r1,r2,r3,r4⟩:=q2 y.1 (List.mem_map_of_mem hy);rw[gl];exact⟨r1,r2,r3,r4⟩
     rw[if_pos hlv]at X;have aG:SY (kJ (qJ u ((fR u A).take i))) x.state=kJ (qJ u ((fR u A).take (i+1))):=by rw[X,wA];rfl
     rw [aG]at aq⊢;have ar:x.state∈kJ (qJ u ((fR u A).take (i+1))):=(sH _ _).2 (by rw[X];simp);have aH:(kJ (qJ u ((fR u A).take (i+1)))).idxOf x.state=(iD u A x).state:=by
      rw[<-Kw am ar];show _=if leaves x.op=true then(GO u A).idxOf x.state else x.state
      rw[if_pos hlv]
     rw[aH];obtain⟨h5,e5,_,H5,s5⟩:=C.st 12 (o:=5) (u:= .int .i64 ((iD u A x).state:Nat)) rfl (by simp[ll]) rfl;refine ed pf ?_;have ah:gB 1 (.ptr lx (0+5)) (.int .i64 ((iD u A x).state:Nat)) G=some (.val .undef h5):=by rw[vI];exact e5
     rw[ah,ef];simp only[iO,kZ]at H5;exact al h5 d S4 aF ao ap ((P.trans W).trans s5) T U aq H5
    ·refine gG hlv (al m d S t z CO P T U ?_ ?_)
     ·rw[X,if_neg hlv,Co];exact ag
     ·have hs:(iD u A x).state=x.state:=if_neg hlv;have:ll (iD u A x) w=ll {x with a:=(iD u A x).a,b:=(iD u A x).b} w:=by
       unfold ll;rw[hs];rfl
      rw[this];exact B
   have au:∀m,Sn F h F m->ei F m (Nx l1 T1 l4 T4 lt Tt num ns [.int .i64 u.func,.int .i64 u.pc,wv,wb,ws] kU az (Sx t ss ws lm S lb Tb lr Tr l4 l1 l3 gj (.int .i64 u.func) (.int .i64 u.pc) EY .ec CO z
      (eo lx 42 (ll {x with a:=(iD u A x).a,b:=(iD u A x).b} w)::eQ vW gy xs wv::eQ tO fE bs wb::fJ en f::fJ en fn::eQ vW gy (((fR u A).take i).map (VN u A xs)) EY::eQ tO fE [] .ec::eo l2 gj [.int .i64 0,.int .i64 0,.ec,.ec,.ec]::eQ eN en (fR u A) p::cs)))->
     jT CS Q (Cs I k) [.ptr l1 0,.ptr l2 0,.ptr l3 0,.ptr l4 0,.ptr lr 0,.func fF [] [.ptr lb 0,.ptr l3 0,.ptr l1 0,.ptr lr 0],.ptr lx 0,p,.int .i64 ((fR u A).length:Nat),.int .i64 i] m:=by
    intro m P B;refine zs ?_;unfold qT;refine oF (B.ld 12 rfl rfl) (gX ?_);have e0:ev (.ptr lx (0+0)) m=some (.int .i64 x.op):=B.ld 12 rfl rfl;have eq:pN (V.bool (decide ((x.op:Int)=21))) (oB (fH 0 (.ptr lx 0)) λaw=>oB (ev aw m) λax=>er .eql 3 ax (V.int .i64 20))=some (.bool (decide (x.op=21\/x.op=20))):=by
     rw[pf,fh,e0,fh,iA,wM];congr 2;by_cases c1:x.op=21
     ·rw[I9 (show(x.op:Int)=21 by omega),I9 (Or.inl c1)];rfl
     ·rw[K3 (show ¬(x.op:Int)=21 by omega),Bool.false_or];by_cases c2:x.op=20
      ·rw[I9 (Or.inr c2)];exact CN.2 (by omega)
      ·rw[K3 (λh=>h.elim c1 c2)];exact Tw.2 (by omega)
    refine ed eq (jH ?_);have M:(iD u A x).args=if x.op=21\/x.op=20 then x.args.map (nm u A) else x.args:=rfl
    by_cases c:x.op=21\/x.op=20
    ·refine ig (I9 c) (ed (B.ld 9 rfl rfl) (oF (B.ld 12 rfl rfl) ?_));show cP CS hY [w,.ptr l4 0,.ptr l1 0] m _;refine Hs 10 B rfl ak rfl (by omega) (by omega) g.sub (λy hy=>by rw[gl];exact p4 c y hy) (by omega) λG W C=>?_;simp only[iO,kZ]at C;have hm:x.args.map (zZ ns az)=(iD u A x).args:=by
      rw[M,if_pos c];exact VS λy hy=>ab y (p4 c y hy)
     rw[hm]at C;exact an G _ (P.trans W) (λv hv=>iz _ _ hv) (im _ _ _) C
    ·refine gG (by rw[DY];exact c) (an m f P (λ_ _=>rfl) ?_ B);rw[M,if_neg c];exact ak
   have ay:∀m,Sn F h F m->ei F m (Nx l1 T1 l4 T4 lt Tt num ns [.int .i64 u.func,.int .i64 u.pc,wv,wb,ws] kU az (Sx t ss ws lm S lb Tb lr Tr l4 l1 l3 gj (.int .i64 u.func) (.int .i64 u.pc) EY .ec CO z
      (eo lx 42 (ll {x with a:=(iD u A x).a} w)::eQ vW gy xs wv::eQ tO fE bs wb::fJ en f::fJ en fn::eQ vW gy (((fR u A).take i).map (VN u A xs)) EY::eQ tO fE [] .ec::eo l2 gj [.int .i64 0,.int .i64 0,.ec,.ec,.ec]::eQ eN en (fR u A) p::cs)))->
     jN CS Q (Cs I k) [.ptr l1 0,.ptr l2 0,.ptr l3 0,.ptr l4 0,.ptr lr 0,.func fF [] [.ptr lb 0,.ptr l3 0,.ptr l1 0,.ptr lr 0],.ptr lx 0,p,.int .i64 ((fR u A).length:Nat),.int .i64 i] m:=by
    intro m P B;refine zd ?_;unfold qA;refine oF (B.ld 12 rfl rfl) (J0 (AM ?_));have hb:(iD u A x).b=if two x.op=true then nm u A x.b else x.b:=rfl
    by_cases c:two x.op=true
    ·refine ig (by show(1:Int)<(rA x.op:Nat);unfold rA;rw[if_pos c];decide) ?_;refine ed (B.ld 1 rfl rfl) (ed (B.ld 0 rfl rfl) (oF (B.ld 12 rfl rfl) ?_));refine F0 B rfl (by omega) (by omega) g.sub (by rw[gl];exact p3 c) λr q e1 e2=>⟨iW _,ed e1 (ed e2 (ed pf ⟨B.ld 1 rfl rfl,?_⟩))⟩
     obtain⟨G,e4,n4,C,W⟩:=B.st 12 (o:=2) (u:= .int .i64 (zZ ns az x.b:Nat)) rfl (by simp[ll]) rfl;have L:gB 1 (.ptr lx (0+2)) (.int .i64 (zZ ns az x.b:Nat)) m=some (.val .undef G):=by rw[vI];exact e4
     rw[L,ef];simp only[iO,kZ]at C;have hq:zZ ns az x.b=(iD u A x).b:=by rw[hb,if_pos c];exact ab _ (p3 c)
     rw[hq]at C;exact⟨n4,au G (P.trans W) C⟩
    ·refine gG (by show ¬(1:Int)<(rA x.op:Nat);unfold rA;rw[if_neg c];split <;> decide) (au m P ?_);have:({x with a:=(iD u A x).a,b:=(iD u A x).b}:Vl) = {x with a:=(iD u A x).a}:=by rw[hb,if_neg c]
     rw[this];exact B
   refine oF (O.ld 12 rfl rfl) (J0 (AM ?_));have ha:(iD u A x).a=if 0<rA x.op then nm u A x.a else x.a:=rfl
   by_cases c:0<rA x.op
   ·have c':uD x.op=true\/two x.op=true:=by
     unfold rA at c;by_cases h1:two x.op=true
     ·exact .inr h1
     ·rw[if_neg h1]at c;by_cases Y:uD x.op=true
      ·exact .inl Y
      ·rw[if_neg Y]at c;omega
    refine ig (by omega) ?_;refine ed (O.ld 1 rfl rfl) (ed (O.ld 0 rfl rfl) (oF (O.ld 12 rfl rfl) ?_));refine F0 O rfl (by omega) (by omega) g.sub (by rw[gl];exact p2 c') λr q e1 e2=>⟨iW _,ed e1 (ed e2 (ed pf ⟨O.ld 1 rfl rfl,?_⟩))⟩
    obtain⟨G,e4,n4,C,W⟩:=O.st 12 (o:=1) (u:= .int .i64 (zZ ns az x.a:Nat)) rfl (by simp[ll]) rfl;have L:gB 1 (.ptr lx (0+1)) (.int .i64 (zZ ns az x.a:Nat)) Y=some (.val .undef G):=by rw[vI];exact e4
    rw[L,ef];simp only[iO,kZ]at C;have hq:zZ ns az x.a=(iD u A x).a:=by rw[ha,if_pos c];exact ab _ (p2 c')
    rw[hq]at C;exact⟨n4,ay G ((s1.trans s2).trans W) C⟩
   ·refine gG (by omega) (ay Y (s1.trans s2) ?_);have:({x with a:=(iD u A x).a}:Vl)=x:=by rw[ha,if_neg c]
    rw[this];exact O
  ·refine iC ?_;obtain rfl:i=(fR u A).length:=by omega
   rw[IT]at N;refine ed (N.ld 0 rfl rfl) (ed pn (ed pf (oF (N.ld 2 rfl rfl) (ed (N.len 13 rfl) ?_))));exact H h1 f S t z EY CO s1 hN N
 ·rw[hI];refine⟨0,fa,λ_=>none,fl,[],.ec,.ec,rfl,by omega,Sn.refl _ _,⟨λv x w hx=>?_,λs=>rfl,rfl,λs l k x a w hs hl=>?_,wCM,λ_ h=>by cases h⟩,H0⟩
  ·rw[hc.row v x w hx];rfl
  ·exact aa.loc s l k x a w hs hl
end
open Go.Proofs.YtpnddokajmjpbaaDoor.Un Go.Proofs.YtpnddokajmjpbaaDoor.Dm
section
variable{F F':Nat->Prop}{h h':Hp}{cs ds:List Pc}{Q:fx}{u:U}{wv wb ws kU num EY:V}{lt Tt l1 T1 l2 l3 l4 T4 lm lb Tb lr Tr:Nat}{az:List Int}{ns:List Nat}{xs ys:List (Vl×V)}{XO bs:List (Bk×V)}{fa fn:Nat->Option (List Nat×V)}{ss:List (List (Fm×V×V))}{fl:KF->Option (List Nat×V)}
def Zk (u:U)(A:Nat->Int)(bs:List (Bk×V))(b:Nat):Bk×V:=(pe u A (u.blocks.getD b Ms),Mt bs b)
theorem zal (g:Ca u az)(hb:Tq u.blocks XO fn)(U:ss.map (λl=>l.map Prod.fst)=u.eh)(W:NbB u az u.blocks.length XO bs){S:Int->Option V}{a:List (List (Fm×V×V))}{CO:V}(ay:ns.length=u.ee.length)(ai:∀v,v<u.ee.length->ns[v]? =some (if v∈fR u (jQ az) then(fR u (jQ az)).idxOf v else 0))
  (X:WQ ss (zZ ns az) (kJ (qJ u (fR u (jQ az)))) S fl a)
  (H0:ei F h (Nx l1 T1 l4 T4 lt Tt num ns [.int .i64 u.func,.int .i64 u.pc,wv,wb,ws] kU az (Sx fl ss ws lm S lb Tb lr Tr l4 l1 l3 gj (.int .i64 u.func) (.int .i64 u.pc) EY .ec CO a
    (eQ vW gy xs wv::eQ tO fE bs wb::fJ en fa::fJ en fn::eQ vW gy ys EY::eQ tO fE [] .ec::eo l2 gj [.int .i64 0,.int .i64 0,.ec,.ec,.ec]::ds))))
  (H:∀h' S c a b CO,Sn F h F h'->WQ ss (zZ ns az) (GO u (jQ az)) S c a->
   ei F h' (Nx l1 T1 l4 T4 lt Tt num ns [.int .i64 u.func,.int .i64 u.pc,wv,wb,ws] kU az (Sx c ss ws lm S lb Tb lr Tr l4 l1 l3 gj (.int .i64 u.func) (.int .i64 u.pc) EY b CO a
    (eQ vW gy xs wv::eQ tO fE bs wb::fJ en fa::fJ en fn::eQ vW gy ys EY::eQ tO fE ((List.range u.blocks.length).map (Zk u (jQ az) XO)) b::eo l2 gj [.int .i64 u.func,.int .i64 u.pc,EY,b,CO]::ds)))->
   Q (.agg [.int .i64 u.func,.int .i64 u.pc,EY,b,CO]) h') :
  kr CS Q [.ptr l1 0,.ptr l2 0,.ptr l3 0,.ptr l4 0,.func fF [] [.ptr lb 0,.ptr l3 0,.ptr l1 0,.ptr lr 0],wb,.int .i64 bs.length,.int .i64 0] h:=by
 have nv:=g.nv;have nb:=g.nb;have gl:=g.len;have Y:XO.length=u.blocks.length:=by rw[<-hb.fst,Fk]
 have Z:bs.length=u.blocks.length:=by rw[W.len,Y]
 have lss:ss.length=u.eh.length:=by rw[<-U,Fk]
 have pn:∀{l o:Nat},iq (.ptr l o)=some (.ptr l o):=fT _ _;have pf:∀{l o k:Nat},fH k (.ptr l o)=some (.ptr l (o+k)):=ez _ _ _;obtain⟨A,hA⟩:∃A,jQ az=A:=⟨_,rfl⟩
 have aj:∀v,v<u.ee.length->zZ ns az v=nm u A v:=λv hv=>by rw[<-hA];exact M6 g ai hv
 rw[hA]at H X;have E:=W.row;rw[hA]at E
 obtain ⟨I,hI⟩:∃I:Nat->LP,I=λk l h'=>∃(i:Nat) (S:Int->Option V) (c:KF->Option (List Nat×V)) (a:List (List (Fm×V×V))) (b CO:V),l=[.ptr l1 0,.ptr l2 0,.ptr l3 0,.ptr l4 0,.func fF [] [.ptr lb 0,.ptr l3 0,.ptr l1 0,.ptr lr 0],wb,.int .i64 bs.length,.int .i64 i]/\i+k=bs.length/\Sn F h F h'/\WQ ss (zZ ns az) (kJ (qJ u (fR u A)++z6 (u.blocks.take i))) S c a/\
   ei F h' (Nx l1 T1 l4 T4 lt Tt num ns [.int .i64 u.func,.int .i64 u.pc,wv,wb,ws] kU az (Sx c ss ws lm S lb Tb lr Tr l4 l1 l3 gj (.int .i64 u.func) (.int .i64 u.pc) EY b CO a
    (eQ vW gy xs wv::eQ tO fE bs wb::fJ en fa::fJ en fn::eQ vW gy ys EY::eQ tO fE ((List.range i).map (Zk u A XO)) b::eo l2 gj [.int .i64 0,.int .i64 0,.ec,.ec,.ec]::ds))):=⟨_,rfl⟩
 refine Ao I (λk x1 x2 x3 x4 aA au aw ax h1 hi=>?_) (k:=bs.length) ?_
 ·rw [hI]at hi;obtain⟨i,S,c,a,b,CO,⟨⟩,hk,s1,hN,J⟩:=hi;unfold rV;by_cases hi:i<bs.length
  ·refine gw ?_;obtain⟨⟨B,w⟩,K⟩:∃y,XO[i]? =some y:=⟨_,gQ (by omega)⟩
   have hB:u.blocks[i]? =some B:=by rw[<-hb.fst,wq,K];rfl
   have aa:=E i B w K;rw[if_pos (by omega)]at aa;have ak:Zk u A XO i=(pe u A B,w):=by unfold Zk Mt;rw[K,E3,hB];rfl
   have al:=BB hB;obtain⟨e1,e2⟩:=g.ends i B hB;obtain⟨lv,ov,wl,z1,z2,⟨t,x,rfl,iv,ip,w1⟩,_⟩:=J.Vw 13 rfl aa .i64;have z1:gD 6 wb (.int .i64 i)=some (.ptr lv ov):=z1;refine ed z1 (ed z2 ?_);refine iK J rfl rfl (by simp only[kM,eJ,iv.one,ip.one];simp only[show w.one=true from w1];rfl) λL f s2=>?_;generalize h1.next=lx at*;have iv:=iv.since s2;have ip:=ip.since s2;have f:ei F L (Nx l1 T1 l4 T4 lt Tt num ns [.int .i64 u.func,.int .i64 u.pc,wv,wb,ws] kU az (Sx c ss ws lm S lb Tb lr Tr l4 l1 l3 gj (.int .i64 u.func) (.int .i64 u.pc) EY b CO a (eo lx 44 (kM {B with ee:=(B.ee.filter (stays A)).map (fR u A).idxOf} t w x)::_))):=f.Nj 12 (by simp)
   have M:∀R S2 C m z,Sn F L F R->WQ ss (zZ ns az) (kJ (qJ u (fR u A)++z6 (u.blocks.take (i+1)))) S2 C m->
     ei F R (Nx l1 T1 l4 T4 lt Tt num ns [.int .i64 u.func,.int .i64 u.pc,wv,wb,ws] kU az (Sx C ss ws lm S2 lb Tb lr Tr l4 l1 l3 gj (.int .i64 u.func) (.int .i64 u.pc) EY b z m
      (eo lx 44 (kM (pe u A B) t w x)::eQ vW gy xs wv::eQ tO fE bs wb::fJ en fa::fJ en fn::eQ vW gy ys EY::eQ tO fE ((List.range i).map (Zk u A XO)) b::eo l2 gj [.int .i64 0,.int .i64 0,.ec,.ec,.ec]::ds)))->
     jd CS Q (Cs I k) [.ptr l1 0,.ptr l2 0,.ptr l3 0,.ptr l4 0,.func fF [] [.ptr lb 0,.ptr l3 0,.ptr l1 0,.ptr lr 0],.ptr lx 0,wb,.int .i64 bs.length,.int .i64 i] R:=by
    intro R S2 C m z s3 hS H3;have am:=iv.since s3;have an:=ip.since s3;refine zp ?_;unfold ri;refine oF (H3.ld 10 rfl rfl) (ed (H3.wH 12 rfl rfl) ?_);rw[mq (sz:=6) (w:=kM (pe u A B) t w x) rfl rfl (by simp only[kM,eJ,iv.one,ip.one];simp only[show w.one=true from w1];rfl),fq];obtain⟨p,N,e4,_,D,s4⟩:=H3.vF 18 rfl (jr:=96) (zF:=44) (y:=(pe u A B,w)) (w:=kM (pe u A B) t w x) (ro:=false) ⟨t,x,rfl,am,an,w1⟩ (by decide) (by decide) (by simp;omega);have O:eR 44 6 96 b (.slice R.next 0 1) (R.new (.cells 44 6 true false (kM (pe u A B) t w x)))=some (.val p N):=e4;rw[O,ef];simp only[iO,kZ]at D;obtain⟨h5,e5,_,T,s5⟩:=D.st 10 (o:=3) (u:=p) rfl (by simp) (D.one 18 rfl);refine ed pf ?_;have P:gB 1 (.ptr l3 (0+3)) p N=some (.val .undef h5):=by rw[vI];exact e5
    rw[P,ef];simp only[iO,kZ]at T;refine fM ⟨k-1,by omega,?_⟩;rw[hI];refine⟨i+1,S2,C,m,p,z,rfl,by omega,(((s1.trans s2).trans s3).trans s4).trans s5,hS,?_⟩;have H6:=T.Ka 12 (by simp);rw[UD,EV,PW,Qz,ak];exact H6
   have s:z6 (u.blocks.take (i+1))=z6 (u.blocks.take i)++(if B.fin=3 then[B.state] else[]):=by
    rw[al];unfold z6;rw[List.filterMap_append,List.filterMap_cons];by_cases e:B.fin=3
    ·rw[if_pos e,if_pos e];rfl
    ·rw[if_neg e,if_neg e];rfl
   have ab:kJ (qJ u (fR u A)++z6 (u.blocks.take (i+1))) <+: GO u A:=by
    have:Ha u A=(qJ u (fR u A)++z6 (u.blocks.take (i+1)))++z6 (u.blocks.drop (i+1)):=by
     rw[LB,Cy];congr 1
     conv=>lhs;rw[<-VM (i+1) u.blocks]
     exact List.filterMap_append
    unfold GO;rw[this];exact EX _ _
   have j:(pe u A B).cond=if B.fin=2 then nm u A B.cond else B.cond:=rfl
   have d:(pe u A B).state=if B.fin=3 then(GO u A).idxOf B.state else B.state:=rfl
   refine oF (f.ld 12 rfl rfl) (gO ?_);by_cases c2:B.fin=2
   ·rw [if_neg (show ¬B.fin=3 by omega),Co]at s;refine ig (by show(B.fin:Int)=2;omega) ?_;refine ed (f.ld 1 rfl rfl) (ed (f.ld 0 rfl rfl) (oF (f.ld 12 rfl rfl) ?_));refine F0 f rfl (by omega) (by omega) g.sub (by rw[gl];exact e1 c2) λr q q1 q2=>⟨iW _,ed q1 (ed q2 (ed pf ⟨f.ld 1 rfl rfl,?_⟩))⟩
    obtain⟨N,e4,n4,D,s4⟩:=f.st 12 (o:=2) (u:= .int .i64 (zZ ns az B.cond:Nat)) rfl (by simp[kM]) rfl;have O:gB 1 (.ptr lx (0+2)) (.int .i64 (zZ ns az B.cond:Nat)) L=some (.val .undef N):=by rw[vI];exact e4
    rw [show({B with ee:=(B.ee.filter (stays A)).map (fR u A).idxOf}:Bk).cond=B.cond from rfl,O,ef];simp only[iO,kZ]at D;have hq:(kM {B with ee:=(B.ee.filter (stays A)).map (fR u A).idxOf} t w x).set 2 (.int .i64 (zZ ns az B.cond:Nat))=kM (pe u A B) t w x:=by
     unfold kM;rw[j,d,if_pos c2,if_neg (by omega),aj _ (e1 c2)];rfl
    rw[hq]at D;exact⟨n4,M N S c a CO s4 (by rw[s];exact hN) D⟩
   ·refine gG (by show ¬(B.fin:Int)=2;omega) (gO ?_);by_cases c3:B.fin=3
    ·refine ig (by show(B.fin:Int)=3;omega) (oF (f.ld 12 rfl rfl) ?_);show cP CS fF [.int .i64 B.state,.ptr lb 0,.ptr l3 0,.ptr l1 0,.ptr lr 0] L _;obtain⟨sl,G⟩:∃sl,ss[B.state]? =some sl:=⟨_,gQ (by have:=e2 c3;omega)⟩
     have ao:u.eh[B.state]? =some (sl.map Prod.fst):=by rw[<-U,wq,G];rfl
     obtain⟨q1,q2⟩:=g.st _ _ ao;rw[Fk]at q1;refine L8 f hN (by omega) (by omega) g.sub G (by have:=g.ns;omega) q1 (λy hy=>?_) λN ap S4 ac ae s4 ag D=>?_
     ·obtain⟨r1,r2,r3,r4⟩:=q2 y.1 (List.mem_map_of_mem hy);rw[gl];exact⟨r1,r2,r3,r4⟩
     rw[if_pos c3]at s;have aq:SY (kJ (qJ u (fR u A)++z6 (u.blocks.take i))) B.state=kJ (qJ u (fR u A)++z6 (u.blocks.take (i+1))):=by rw[s,<-Cy,wA];rfl
     rw [aq]at ag⊢;have ah:B.state∈kJ (qJ u (fR u A)++z6 (u.blocks.take (i+1))):=(sH _ _).2 (by rw[s];simp);have ar:(kJ (qJ u (fR u A)++z6 (u.blocks.take (i+1)))).idxOf B.state=(pe u A B).state:=by
      rw[<-Kw ab ah,d,if_pos c3]
     rw[ar];obtain⟨h5,e5,_,T,s5⟩:=D.st 12 (o:=5) (u:= .int .i64 ((pe u A B).state:Nat)) rfl (by simp[kM]) rfl;refine ed pf ?_;have P:gB 1 (.ptr lx (0+5)) (.int .i64 ((pe u A B).state:Nat)) N=some (.val .undef h5):=by rw[vI];exact e5
     rw [P,ef];simp only[iO,kZ]at T;have hq:(kM {B with ee:=(B.ee.filter (stays A)).map (fR u A).idxOf} t w x).set 5 (.int .i64 ((pe u A B).state:Nat))=kM (pe u A B) t w x:=by
      unfold kM;rw[j,if_neg c2];rfl
     rw[hq]at T;exact M h5 S4 ap ac ae (s4.trans s5) ag T
    ·refine gG (by show ¬(B.fin:Int)=3;omega) (M L S c a CO (Sn.refl _ _) ?_ ?_)
     ·rw[s,if_neg c3,Co];exact hN
     ·have:kM (pe u A B) t w x=kM {B with ee:=(B.ee.filter (stays A)).map (fR u A).idxOf} t w x:=by
       unfold kM;rw[j,d,if_neg c2,if_neg c3];rfl
      rw[this];exact f
  ·refine iC ?_;obtain rfl:i=bs.length:=by omega
   refine ed (J.wH 10 rfl rfl) ?_;obtain⟨L,e2,_,f,s2⟩:=J.VI 18 (ws:=[.int .i64 u.func,.int .i64 u.pc,EY,b,CO]) (n:=5) rfl rfl rfl (by simp only[eJ,J.one 16 rfl,J.one 17 rfl,J.one 11 rfl];rfl);rw[e2,ef];simp only[iO,kZ]at f;refine ed (f.wH 18 rfl rfl) ?_;rw[Z,IT]at hN;rw[Z]at f;exact H L S c a b CO (s1.trans s2) hN f
 ·rw[hI];exact⟨0,S,fl,a,.ec,CO,rfl,by omega,Sn.refl _ _,by rw[YI];show WQ _ _ (kJ (_++[])) _ _ _;rw[Co];exact X,H0⟩
end
open Go.Proofs.YtpnddokajmjpbaaDoor.Un Go.Proofs.YtpnddokajmjpbaaDoor.Dm
section
variable{F F':Nat->Prop}{h h':Hp}{cs ds:List Pc}{Q:fx}{u:U}{wv wb ws kU:V}{lt Tt:Nat}{az:List Int}{xs:List (Vl×V)}{bs:List (Bk×V)}{fa fn:Nat->Option (List Nat×V)}{ss:List (List (Fm×V×V))}{fl:KF->Option (List Nat×V)}
theorem ei.OZ (H:ei F h cs)(n:Nat):∃G,ei G h (cs.drop n)/\Sn F h G h/\∀(i:Nat)(c:Pc),i<n->cs[i]? =some c->∀l,c.j5 l->G l:=by
 have ht:∀{i:Nat} {c:Pc},(cs.take n)[i]? =some c->i<n/\cs[i]? =some c:=λ{i c} hc=>by
  have a:=(iB.1 hc).1;rw[FY]at a;rw[VF (by omega)]at hc;exact⟨by omega,hc⟩
 refine⟨λl=>F l\/Kl (cs.take n) l,⟨λl a=>a.elim (H.fl l) λ⟨i,c,hc,e⟩=>(c.IP (H.ok i c (ht hc).2) l e).1,λi c hc=>?_,λi j c d hc b k=>?_⟩,⟨iW _,λ_ _=>rfl,λ_ h=> .inl h⟩,λi c hi hc l a=> .inr ⟨i,c,by rw[VF hi];exact hc,a⟩⟩
 ·rw[Tj]at hc;refine c.mono (H.ok _ c hc) (λ_ h=> .inl h) λl a f=>?_;rcases f with f|⟨j,d,b,e⟩
  ·exact(c.IP (H.ok _ c hc) l a).2 f
  ·obtain⟨m,g⟩:=ht b;exact H.Bs (n+i) j c d hc g (by omega) l a e
 ·rw[Tj]at hc b;exact H.Bs (n+i) (n+j) c d hc b (by omega)
section
variable{G:Nat->Prop}
theorem ik.ofRow {α β:Type}{E:nQ α} {E':nQ β}(H:ei F h cs)(i:Nat){ty:Nat}{xs:List α}{ys:List β}{v:V}(hi:cs[i]? =some (eQ E ty xs v))(f:∀l,F l->G l)(g:∀l,Loc v l->G l)(j:E'.sz=E.sz)(b:ys.length=xs.length)(c:∀(k:Nat) x y cs,xs[k]? =some x->ys[k]? =some y->E.rel F h x cs->E'.rel G h y cs):ik E' G h ys v:=by
 have d:=(iB.1 hi).1;exact((H.Xe (E':=E.fix F h) i hi rfl rfl λk x y cs hx a c=>by rw[hx]at a;cases a;exact c).row i (Ct d)).read.Xe j (λl b=>b.elim (f l) (g l)) b λk x y cs hx a e=>c k x y cs hx a e
theorem II (H:ei F h cs)(j:Nat){ι:Type}{ty:Nat}{f:ι->Option (List Nat×V)}(a:cs[j]? =some (fJ ty f))(b:∀l,F l->G l)(c:∀l,(fJ ty f).j5 l->G l){i:ι}{xs:List Nat}{v:V}(hi:f i=some (xs,v)):ik eN G h xs v:=
 (H.rows j a hi).VG b λl d=>c l ⟨i,xs,v,hi,d⟩
end
theorem PA (g:Ca u az)(hc:TK u.ee xs fa)(hb:Tq u.blocks bs fn)(o:XD u.eh ss fl)
  (H0:ei F h (eQ vW gy xs wv::eQ tO fE bs wb::fJ en fa::fJ en fn::eQ eZ en az kU::eo lt Tt [.int .i64 u.func,.int .i64 u.pc,wv,wb,ws,kU]::eQ (eL Ny) kQ ss ws::fJ en fl::cs))
  (H:∀F' h' vv vb vs,Sn F h F' h'->ei F' h' cs->zf F' h' (iR u (jQ az)) vv vb vs->Q (.agg (uC (iR u (jQ az)) vv vb vs)) h') :
  cP CS jY [.ptr lt 0] h Q:=by
 refine OV g hc hb H0 λF1 h1 l1 T1 l2 l3 l4 T4 lm lb Tb lr Tr num ns ab ac s1 N t e H1=>?_;refine zaB g hc o t e H1 λh2 ae S2 ag Y EY CO s2 Z H2=>?_;have A:=Z.st;rw[IT]at A;refine zal g hb o.fst N t e A H2 λO S3 ah aa P C s3 M i=>?_;obtain⟨G,H4,s4,p⟩:=i.OZ 20;have d:∀l,F1 l->G l:=λl hl=>s4.mono l hl;refine H G O EY P C (((s1.trans s2).trans s3).trans s4) H4 ⟨?_,?_,?_⟩
 ·refine ik.ofRow i 16 rfl d (p 16 _ (by decide) rfl) rfl (by simp[iR]) λk x y ws hx b m=>?_;rw[wq]at hx;have b:((fR u (jQ az)).map λn=>iD u (jQ az) (u.ee.getD n W8))[k]? =some y:=b;rw[wq]at b
  cases hk:(fR u (jQ az))[k]? with
  |none=>rw[hk]at hx;cases hx
  | some n=>
    rw[hk]at hx b;cases hx;cases b;obtain⟨rfl,_⟩:=m;have R:=En g.l0 (xQ hk);obtain⟨⟨x,w⟩,q⟩:∃y,xs[n]? =some y:=⟨_,gQ (by rw[<-Fk (f:=Prod.fst),hc.fst];exact R)⟩
    have D:u.ee[n]? =some x:=by rw[<-hc.fst,wq,q];rfl
    have S:VN u (jQ az) xs n=(iD u (jQ az) x,w):=by unfold VN wV;rw[q,E3,D];rfl
    have E:=Z.row n x w q;rw[IT,if_pos (xQ hk)]at E;have T:u.ee.getD n W8=x:=by rw[E3,D];rfl
    show eV.rel G O (iD u (jQ az) (u.ee.getD n W8)) _;rw[S,T];exact⟨w,rfl,II i 14 rfl d (p 14 _ (by decide) rfl) E⟩
 ·refine ik.ofRow i 17 rfl d (p 17 _ (by decide) rfl) rfl (by simp[iR]) λk x y ws hx b m=>?_;rw[wq]at hx;have b:(u.blocks.map (pe u (jQ az)))[k]? =some y:=b;rw[wq]at b
  cases hB:u.blocks[k]? with
  |none=>rw[hB]at b;cases b
  | some B=>
    rw[hB]at b;cases b;have I:=(iB.1 hB).1;rw[XT I]at hx;cases hx;obtain⟨⟨B',w⟩,r⟩:∃y,bs[k]? =some y:=⟨_,gQ (by rw[<-Fk (f:=Prod.fst),hb.fst];exact I)⟩
    have J:u.blocks[k]? =some B':=by rw[<-hb.fst,wq,r];rfl
    rw[hB]at J;cases J;have U:Zk u (jQ az) bs k=(pe u (jQ az) B,w):=by unfold Zk Mt;rw[r,E3,hB];rfl
    rw[U]at m;obtain⟨bv,bp,rfl,iv,ip,_⟩:=m;exact⟨bv,w,bp,rfl,iv.mono d,II i 15 rfl d (p 15 _ (by decide) rfl) (hb.row k B w r),ip.mono d⟩
 ·refine ik.ofRow i 11 rfl d (p 11 _ (by decide) rfl) rfl (by simp[iR,M.out]) λk x y ws hx b m=>?_;rw[M.out,wq]at hx;have b:((GO u (jQ az)).map λs=>(u.eh.getD s []).map (Pw u (jQ az)))[k]? =some y:=b;rw[wq]at b
  cases hk:(GO u (jQ az))[k]? with
  |none=>rw[hk]at hx;cases hx
  | some s=>
    rw[hk]at hx b;cases hx;cases b;have K:=xQ hk;have V:=M.lt s K;obtain⟨l,c⟩:∃l,ss[s]? =some l:=⟨_,gQ V⟩
    have L:u.eh[s]? =some (l.map Prod.fst):=by rw[<-o.fst,wq,c];rfl
    have g1:ss.getD s []=l:=by rw[E3,c];rfl
    have g2:u.eh.getD s []=l.map Prod.fst:=by rw[E3,L];rfl
    show(eL eF).rel G O ((u.eh.getD s []).map (Pw u (jQ az))) ws;rw[g2];obtain⟨f,rfl,W⟩:=m;dsimp only at W;rw[g1]at W;refine⟨f,rfl,W.Xe rfl d (by simp) λj z y cs X b m=>?_⟩;rw[List.map_map,wq,X]at b;cases b;obtain⟨z,a,w⟩:=z;obtain⟨rfl,_,_⟩:=m;obtain⟨r1,r2⟩:=M.rows s l j z a w c X;rw[if_pos K]at r1 r2;obtain⟨_,q2⟩:=g.st s _ L;obtain⟨_,_,q3,q4⟩:=q2 z (List.mem_map_of_mem (f:=Prod.fst) (xQ X));rw[VS λv hv=>M6 g e (q3 v hv)]at r1;rw[VS λv hv=>M6 g e (q4 v hv)]at r2;exact⟨a,w,rfl,II i 5 rfl d (p 5 _ (by decide) rfl) r1,II i 5 rfl d (p 5 _ (by decide) rfl) r2⟩
end
open Go.Proofs.YtpnddokajmjpbaaDoor.Un Go.Proofs.YtpnddokajmjpbaaDoor.Dm
section
variable{F F':Nat->Prop}{h h':Hp}{cs ds:List Pc}{Q:fx}{u:U}{vv vb vs kU:V}{az:List Int}
theorem U1 (g:VD u)(C:Jf u)(m:az.length=u.ee.length)(D:∀kp u' a seen post,FX u.blocks.length (next u) seen post []->kp=(λb=>post.reverse.contains b)->Cut u kp u'->LH u kp az a->Ca u' a)
  (s:ei F h (eQ eZ en az kU::cs)) (v:zf F h u vv vb vs)
  (H:∀F' h' kp u' a seen post wv wb ws,Sn F h F' h'->ei F' h' cs->FX u.blocks.length (next u) seen post []->kp=(λb=>post.reverse.contains b)->Cut u kp u'->LH u kp az a->zf F' h' (iR u' (jQ a)) wv wb ws->Q (.agg (uC (iR u' (jQ a)) wv wb ws)) h') :
  cP CS yp [.agg (uC u vv vb vs),kU] h Q:=by
 refine Po rfl rfl ?_;unfold JO;refine mf s v.one λE I w=>yV I λh2 x y=>?_;generalize h.next=l1 at*;generalize E.next=l2 at*;have J:=(v.since w).since y;refine ed (x.wH 1 rfl rfl) ?_;refine Q2 g x J λF3 K wv wb ws xs bs ss fa fn fl L hc hb hs d=>?_;have M:fN [.int .i64 0,.int .i64 0,.ec,.ec,.ec,.ec] [(0,5),(5,1)] [(0,V.agg (uC u wv wb ws)),(1,kU)]=some (V.agg [.int .i64 u.func,.int .i64 u.pc,wv,wb,ws,kU]):=by
  rcases s.row 0 rfl with⟨rfl,_⟩|⟨t,N,rfl,_⟩ <;> rfl
 refine ed M ?_;refine mf d (by simp only[eJ,d.one 0 rfl,d.one 1 rfl,d.one 2 rfl,d.one 8 rfl];rfl) λh4 O P=>?_;generalize K.next=lt at*;have R:=O.perm [1,2,4,5,9,0,3,6,7,8] 10 (by decide) (by decide) (by simp);refine Sv C hc hb m (d.one 2 rfl) R λF6 h6 seen post kp u' S T U W a X Y G e c o p f z=>?_;have gn:=D kp u' a seen post G e c f;have Z:=c.func;have e2:=c.pc;rw[<-Z,<-e2]at z;refine PA gn o p (by rw[c.eh];exact hs) z λA h7 i j k s7 q l=>?_;have q:ei A h7 (eo l2 gj _::eo l1 gj _::cs):=q;obtain⟨h8,e8,_,r,B⟩:=q.VI 0 (ws:=uC (iR u' (jQ a)) i j k) (n:=5) rfl rfl rfl l.one;rw[e8,ef];simp only[iO]at r;refine ed (r.wH 0 rfl rfl) ?_;exact H A h8 kp u' a seen post i j k ((((((w.trans y).trans L).trans P).trans Y).trans s7).trans B) r.tail.tail G e c f (l.since B)
theorem Vz {n:Nat}{nx:Nat->List Nat}{seen:List Bool}{post:List Nat}(G:FX n nx seen post []):∀{b:Nat}{l:List Nat},Pt nx b l->b∈post
 | _,_,.nil=>by
   obtain⟨p,c⟩:=G.last rfl
   rw[c];simp
 | _,_,.step h e=>by
   rcases(G.iff _).1 (G.closed _ (Vz G h) _ e)with a|a
   ·exact a
   ·simp at a
theorem M1 (g:Good u)(f:QA u):Jf u:=⟨LL g,g.nv,g.EI,g.l0,λb B c=>⟨Fs g c,λp d=>by
 rw[g.fe b B c]at d;obtain⟨q,j,a,_,e⟩:=tf.1 d;have:=(iB.1 a).1;omega⟩,λv b k x B a h e i=>(g.IE v b k x B a h e i).2,f⟩
theorem M4 (g:Good u)(q:QA u)(k:az.length=u.ee.length)(d:∀(v:Nat)(a:Int),az[v]? =some a->a<az.length):Ca u az where
 nv:=g.nv
 nb:=g.nb
 ns:=g.ns
 once:=g.EI
 l0:=g.l0
 len:=k
 sub:=d
 parts v x hx:=by
  have c:∀w∈gJ x,w<u.ee.length:=λw l=>Dp (g.use v x hx w l);unfold gJ at c;refine⟨q v x hx,?_⟩;by_cases i:x.op=21
  ·rw[if_pos i]at c;have o:two x.op=false:=by rw[i];rfl
   have r:uD x.op=false:=by rw[i];rfl
   exact⟨λh=>(by rw[o,r]at h;simp at h),λh=>(by rw[o]at h;cases h),λ_=>c,g.leave v x hx⟩
  ·rw [if_neg i]at c;by_cases c2:x.op=20
   ·rw[if_pos c2]at c;have j:=g.putAt v x hx c2;rw[VE (by omega)]at c;exact⟨λ_=>c _ (by simp),λ_=>c _ (by simp),λ_ w l=>c w (by simp[l]),g.leave v x hx⟩
   ·rw [if_neg c2]at c;refine⟨λh=>?_,λh=>?_,λh=>absurd h (by omega),g.leave v x hx⟩
    ·by_cases m:two x.op=true
     ·rw[if_pos m]at c;exact c _ (by simp)
     ·rw[if_neg m,if_pos (h.resolve_right m)]at c;exact c _ (by simp)
    ·rw[if_pos h]at c;exact c _ (by simp)
 ends b B hB:=by
  rcases g.fin b B hB with⟨j,_⟩|⟨j,_,e⟩|⟨j,_,e⟩
  ·exact⟨λh=>by omega,λh=>by omega⟩
  ·exact⟨λ_=>Dp e,λh=>by omega⟩
  ·exact⟨λh=>by omega,λ_=>e⟩
 st s fs hfs:=by
  obtain⟨j,e⟩:=BG g s fs hfs;refine⟨by omega,λf n=>?_⟩;obtain⟨t,y⟩:=e f n;have p:=SU g hfs;refine⟨by omega,by omega,λv hv=>p v ?_,λv hv=>p v ?_⟩
  ·exact Pp.2 ⟨f,n,LC _ hv⟩
  ·exact Pp.2 ⟨f,n,XU _ hv⟩
theorem WW (g:Good u)(n:QA u)(j:az.length=u.ee.length)(k:∀(v:Nat)(a:Int),az[v]? =some a->a<az.length)(p:ei F h (eQ eZ en az kU::cs))(q:zf F h u vv vb vs)
  (H:∀F' h' wv wb ws,Sn F h F' h'->ei F' h' cs->zf F' h' (iR u (jQ az)) wv wb ws->Q (.agg (uC (iR u (jQ az)) wv wb ws)) h') :
  cP CS yp [.agg (uC u vv vb vs),kU] h Q:=by
 have m:∀kp u' d seen post,FX u.blocks.length (next u) seen post []->kp=(λb=>post.reverse.contains b)->Cut u kp u'->LH u kp az d->u' = u/\d=az:=λkp u' d seen post G e c f=>by
  have i:∀b,b<u.blocks.length->kp b=true:=λb hb=>by
   obtain⟨l,r⟩:=g.reach b hb;rw[e];exact List.contains_iff_mem.2 (VB.2 (Vz G r))
  exact⟨c.eq g i,f.eq i⟩
 refine U1 (KK g n) (M1 g n) j (λkp u' d seen post G e c f=>?_) p q λF' h' kp u' d seen post wv wb ws s t G e c f o=>?_
 ·obtain⟨rfl,rfl⟩:=m kp u' d seen post G e c f;exact M4 g n j k
 ·obtain⟨rfl,rfl⟩:=m kp u' d seen post G e c f;exact H F' h' wv wb ws s t o
end
