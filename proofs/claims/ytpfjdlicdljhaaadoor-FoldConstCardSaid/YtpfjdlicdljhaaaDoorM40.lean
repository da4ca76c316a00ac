/- Parts. -/
import Derived.Test.YtpfjdlicdljhaaaDoorM39
import Derived.Test.YtpfjdlicdljhaaaDoorM30
set_option maxHeartbeats 4000000
namespace Go.Proofs.YtpfjdlicdljhaaaDoor.Hx
open Un Dm
theorem LG{w:Bool}{X:Option V}{K:V->Prop}(h:K .undef):oP (dA w .undef) λb=>oP (gV b X) K:=by cases w <;> exact h
theorem YC{w:Bool}{C:dc}{f:Nat}{a:List V}{h:Hp}{K:dg}(H:K .undef h):oP (dA w .undef) λb=>oP (gC b (some (f,a))) λy=>tv C y h K:=by cases w <;> exact H
theorem Lk{t:Nat}{k:IntKind}{a b:Int}(h:¬b<a):cX .gtr t (.int k a) (.int k b)=some (.bool false):=by simp_all
theorem VQ{t:Nat}{k:IntKind}{a b:Int}(h:¬a<b):cX .lss t (.int k a) (.int k b)=some (.bool false):=by simp_all
theorem Qp{t:Nat}{k:IntKind}{a b:Int}(h:a=b):cX .neq t (.int k a) (.int k b)=some (.bool false):=by simp_all
theorem JX{t:Nat}{k:IntKind}{a b:Int}(h:a=b):cX .eql t (.int k a) (.int k b)=some (.bool true):=by simp_all
theorem G0{t:Nat}{k:IntKind}{a b:Int}(h:a≠b):cX .eql t (.int k a) (.int k b)=some (.bool false):=by simp_all
theorem uW{X:Option V}{K:V->Prop}(a:X=some (.bool false))(H:K (.bool false)):oP (kI (.bool false) X) K:=by simp_all
section
variable{F F':Nat->Prop}{h h':Hp}{cs:List Pc}{Q:dg}{u:U}{vv vb vs:V}
theorem Vm{u:U}(g:Good u)(b:Nat):(pre u b).length<=u.cR.length:=gq _ _ (A3 g b) λv a=>by
 obtain⟨c,k,d,_⟩:=Dn.1 a;exact g.gz _ _ _ d
theorem Ro(g:Good u)(H0:cS F h cs)(hu:zR F h u vv vb vs)(H:∀F' h',Sn F h F' h'->cS F' h' cs->Q (.bool true) h'):cP CS iX [.agg (uC u vv vb vs)] h Q:=by
 refine yq rfl rfl ?_;unfold qk;have nv:=g.nv;have nb:=g.nb;have EE:=g.EE;have ns:=g.ns;refine kX H0 hu.one λr C M=>?_;generalize h.next=lu at*;have u1:=hu.since M;have k3:df (.ptr lu (0+3)) r=some vb:=C.ld 0 rfl rfl;have J:df (.ptr lu (0+4)) r=some vs:=C.ld 0 rfl rfl;refine oF (C.ld 0 rfl rfl) (cO u1.v.len (cO (Lk (by omega)) ?_));refine uW (by simp only[c0,dB,k3,u1.b.len];grind[Lk]) ?_;refine uW (by simp only[c0,dB,k3,u1.b.len];grind[VQ]) ?_;refine uW (by simp only[c0,dB,J,u1.s.len];grind[Lk]) (fK (dM (by simp) ?_));clear k3 J;refine vB (λk l h'=>∃(F':Nat->Prop) (i:Nat),l=[.ptr lu 0,.I i]/\i+k=u.cZ.length/\Sn F h F' h'/\cS F' h' (cV lu 29 (uC u vv vb vs)::cs)) ?_ (k:=u.cZ.length) (by grind);clear C u1 M r;rintro k _ _ r ⟨F1,i,⟨⟩,hk,M,C⟩;unfold nh;have u1:=hu.since M;have R:df (.ptr lu (0+2)) r=some vv:=C.ld 0 rfl rfl;have J:df (.ptr lu (0+4)) r=some vs:=C.ld 0 rfl rfl;refine oF J (cO u1.s.len ?_);by_cases hi:i<u.cZ.length
 ·refine dZ ?_;have ag:=fg hi;generalize u.cZ[i]=fs at*;obtain⟨q1,q2,q3⟩:=g.st i fs ag;obtain⟨l1,o1,f,_,S,x2,x3,xf⟩:=u1.st ag;have x3:df (.ptr l1 (o1+0)) r=some f:=x3;refine oF J (cO S (oF x3 (cO xf.len (cO (VQ (by omega)) ?_))));refine uW (by simp only[c0,dB,J,S,x3,xf.len];grind[Lk]) (fK (dM (by simp) ?_));refine vO (λk l h'=>∃j:Nat,l=[.ptr lu 0,.I i,.I (j:Nat)]/\j+k=fs.length/\h' = r) ?_ (k:=fs.length) (by simp_all);rintro k1 _ _ _ _ ⟨j,⟨⟩,bJ,rfl⟩;unfold mD;refine oF J (cO S (oF x3 (cO xf.len ?_)));by_cases hj:j<fs.length
  ·refine dZ ?_;have hf:=fg hj;obtain⟨r1,r2,_⟩:=q3 _ (ym hj);generalize fs[j]=x at*;obtain⟨l2,o2,a,b,_,L,N,y3,ya,yb⟩:=xf.Ww hf;refine oF J (cO S (oF x3 (cO L (oF N (cO ya.len (cO (Lk (by omega)) ?_))))));refine uW (by simp only[c0,dB,J,S,x3,L,y3,yb.len];grind[Lk]) (fK (dM (by simp) ?_));exact du ⟨k1-1,by omega,j+1,rfl,by omega,rfl⟩
  ·refine fq ?_;refine oF J (cO S (cO x2 ?_));refine Im C xf (by simp_all) λF2 d fv O o r2=>?_;have bK:=yu (fs:=fs) (AZ g i fs ag).2;have ah:=M.trans O;have u2:=u1.since O;have R:df (.ptr lu (0+2)) d=some vv:=o.ld 0 rfl rfl;refine vV (λk l h'=>∃j:Nat,l=[.ptr lu 0,.I i,fv,.I (j:Nat)]/\j+k=(ff fs).length/\h' = d) ?_ (k:=(ff fs).length) (by simp_all);rintro T _ _ _ _ _ ⟨j,⟨⟩,ay,rfl⟩;unfold mz;refine cO r2.len ?_;by_cases hj:j<(ff fs).length
   ·refine dZ ?_;have hx:=fg hj;obtain⟨x,D,U⟩:jo u (ff fs)[j]:=by
     grind[ym,ff]
    generalize (ff fs)[j]=w at*;have ai:=(gL.1 D).1;obtain⟨l3,o3,_,L,N⟩:=r2.nat hx .i64;obtain⟨l4,o4,_,_,z1,_,_,z2⟩:=u2.val D;refine cO L (cO N (oF R (cO u2.v.len (ED ai ⟨iC _,?_⟩))));refine cO rfl (dr (cO pf (dr (cO R (dr (cO rfl (dr (cO rfl (dr (cO L (dr (cO N (dr (cO z1 (dr (cO pf (dr (cO z2.op (tD (M8 ?_))))))))))))))))))));rw[U];refine⟨iC _,cO rfl (fK (dM (by simp) ?_))⟩;exact du ⟨T-1,by omega,j+1,rfl,by omega,rfl⟩
   ·refine fq ?_;exact du ⟨k-1,by omega,F2,i+1,rfl,by omega,ah,o⟩
 refine fq ?_;clear hk hi k i R J;refine vX (λk l h'=>∃(F':Nat->Prop) (i:Nat),l=[.ptr lu 0,.I i]/\i+k=u.cR.length/\Sn F h F' h'/\cS F' h' (cV lu 29 (uC u vv vb vs)::cs)) ?_ (k:=u.cR.length) (by grind);clear C u1 M r F1;rintro k _ _ r ⟨F1,i,⟨⟩,hk,M,C⟩;unfold mL;have u1:=hu.since M;refine oF (C.ld 0 rfl rfl) (cO u1.v.len ?_);by_cases hi:i<u.cR.length
 ·refine dZ ?_;have hx:=fg hi;generalize u.cR[i]=x at*;obtain⟨l1,o1,w,_,S,x2,xw,_⟩:=u1.val hx;refine oF (C.ld 0 rfl rfl) (cO S (cO x2 ?_));refine fo C rfl rfl (by simp only[kN,cY,xw.one];rfl) λd o O=>?_;generalize r.next=lx at*;have u2:=u1.since O;have w2:=xw.since O;have z0:df (.ptr lx (0+0)) d=some (.I x.op):=o.ld 0 rfl rfl;have z3:df (.ptr lx (0+3)) d=some (.I x.n):=o.ld 0 rfl rfl;have z4:df (.ptr lx (0+4)) d=some w:=o.ld 0 rfl rfl;have z5:df (.ptr lx (0+5)) d=some (.I x.state):=o.ld 0 rfl rfl;have J:df (.ptr lu (0+4)) d=some vs:=o.ld 1 rfl rfl;obtain⟨bL,bQ⟩:=g.op i x hx;refine oF z0 (cO (VQ (by omega)) ?_);refine uW (by grind[c0,dB,Lk]) ?_;refine uW ?_ ?_
  ·simp only[c0,dB,z0];by_cases c:x.op=20
   ·rw[JX (by omega)];simp only[c0,ur,z4,w2.len];exact Qp (by rw[g.putAt i x hx c];rfl)
   ·rw[G0 (by omega)];rfl
  refine dr (cO pf (dr (cO z0 ?_)));have kA:oP (kI (.bool false) (oB (dE 0 (V.ptr lx 0)) λaA=>oB (df aA d) λaB=>oB (cX .eql 3 aB (V.I 1)) λaC=>oB (some aC) λaD=>il aD (oB (dE 3 (V.ptr lx 0)) λaE=>oB (df aE d) λaF=>cX .gtr 2 aF (V.I 1073741824)))) λv=>v = .bool false:=by
   refine uW ?_ rfl;simp only[c0,dB,z0];by_cases c:x.op=1
   ·rw[JX (by omega)];simp only[c0,ur,z3];obtain⟨n1,n2,_⟩:=g.param i x hx c
    grind[Lk]
   ·rw[G0 (by omega)];rfl
  obtain⟨vA,eA,rfl⟩:=hK.1 kA
  have ae:∀K:dg,K (.bool false) d->oP (dA false (V.bool false)) λaj=>oP (gV aj (dE 0 (V.ptr lx 0))) λaG=>oP (dA false (V.bool false)) λa8=>oP (gV a8 (df aG d)) λaH=>oP (dA false (V.bool false)) λa9=>oP (gV a9 (cX .eql 3 aH (V.I 22))) λaI=>
    oP (dA false (V.bool false)) λba=>oP (gV ba (some aI)) λP=>oP (dA false P) λbb=>oP (gV bb (dE 0 (V.ptr lx 0))) λaJ=>oP (dA false P) λbc=>oP (gV bc (df aJ d)) λaK=>oP (dA false P) λbd=>oP (gV bd (cX .eql 3 aK (V.I 23))) λaL=>
    oP (dA false (V.bool false)) λbe=>oP (gV be (js P (V.bool true) aL)) λaM=>oP (dA false (V.bool false)) λbf=>oP (gV bf (some aM)) λp=>oP (dA true p) λak=>oP (gV ak (dE 5 (V.ptr lx 0))) λW=>oP (dA true p) λal=>oP (gV al (df W d)) λX=>
    oP (dA true p) λam=>oP (gV am (dE 4 (V.ptr lu 0))) λY=>oP (dA true p) λan=>oP (gV an (df Y d)) λZ=>oP (dA true p) λao=>oP (gV ao (dD Z)) λaa=>oP (dA true p) λap=>oP (gC ap (some (dQ,[X,aa]))) λaq=>tv CS aq d λab h4=>
    oP (dA true p) λar=>oP (gV ar (lB .not ab)) λac=>oP (kI (V.bool false) (js p ac (V.bool false))) λA=>K A h4:=λK HK=>by
   refine dr (cO pf (dr (cO z0 (dr (cO (fx ..) (dr (cO rfl ?_)))))))
   have fin:∀c:Bool,c=leaves x.op->oP (dA true (V.bool c)) λak=>oP (gV ak (dE 5 (V.ptr lx 0))) λW=>oP (dA true (V.bool c)) λal=>oP (gV al (df W d)) λX=>
     oP (dA true (V.bool c)) λam=>oP (gV am (dE 4 (V.ptr lu 0))) λY=>oP (dA true (V.bool c)) λan=>oP (gV an (df Y d)) λZ=>oP (dA true (V.bool c)) λao=>oP (gV ao (dD Z)) λaa=>oP (dA true (V.bool c)) λap=>oP (gC ap (some (dQ,[X,aa]))) λaq=>tv CS aq d λab h4=>
     oP (dA true (V.bool c)) λar=>oP (gV ar (lB .not ab)) λac=>oP (kI (V.bool false) (js (V.bool c) ac (V.bool false))) λA=>K A h4:=λc hc=>by
    cases c with
    |true=>exact dV (cO pf (dV (cO z5 (dV (cO pf (dV (cO J (dV (cO u2.s.len (xN (ED (g.leave i x hx hc.symm) (dV (cO rfl (cO rfl HK))))))))))))))
    |false=>exact er (er (er (er (er (Aa (er (cO rfl HK)))))))
   by_cases c:x.op=22
   ·rw[show((x.op:Int) == 22)=true by simp[c]];exact Rx (Rx (Rx (dr (cO rfl (dr (cO rfl (fin true (by rw[c];rfl))))))))
   ·rw[show((x.op:Int) == 22)=false by grind];refine dr (cO pf (dr (cO z0 (dr (cO (fx ..) (dr (cO rfl (dr (cO rfl (fin _ ?_))))))))))
    grind[Int,So,leaves,QO]
  have tl:gY CS Q [V.ptr lu 0,.I ((i+1:Nat):Int)] d=gY CS Q [V.ptr lu 0,.I ((i+1:Nat):Int)] d:=rfl;clear tl;have last:oP (eg 6 (V.ptr lx 0) d) λaN=>cP CS fX [aN] d λaO h5=>jw CS Q (xR (λk l h'=>∃(F':Nat->Prop) (i:Nat),l=[.ptr lu 0,.I i]/\i+k=u.cR.length/\Sn F h F' h'/\cS F' h' (cV lu 29 (uC u vv vb vs)::cs)) k) [.ptr lu 0,.I i,aO,(V.I 0)] h5:=by
   refine cO (o.zt 0 rfl rfl) ?_;refine FM o w2 λF3 h3 uv s3 H3 r3=>?_;have u3:=u2.since s3;have R:df (.ptr lu (0+2)) h3=some vv:=H3.ld 1 rfl rfl;have bR:=DB λh=>Iz g hx h;refine vS (λk l h'=>∃j:Nat,l=[.ptr lu 0,.I i,uv,.I (j:Nat)]/\j+k=(fu x).length/\h' = h3) ?_ (k:=(fu x).length) (by simp_all);rintro T _ _ _ _ _ ⟨j,⟨⟩,ay,rfl⟩;unfold m9;refine cO r3.len ?_;by_cases hj:j<(fu x).length
   ·refine dZ ?_;have hw:=fg hj;obtain⟨y,D,U⟩:jo u (fu x)[j]:=g.use i x hx _ (ym hj);generalize (fu x)[j]=w at*;have ai:=(gL.1 D).1;obtain⟨l3,o3,_,L,N⟩:=r3.nat hw .i64;obtain⟨l4,o4,_,_,z1,_,_,z2⟩:=u3.val D;refine cO L (cO N (oF R (cO u3.v.len (ED ai ⟨iC _,?_⟩))));refine cO rfl (dr (cO pf (dr (cO R (dr (cO rfl (dr (cO rfl (dr (cO L (dr (cO N (dr (cO z1 (dr (cO pf (dr (cO z2.op (tD (M8 ?_))))))))))))))))))));rw[U];refine⟨iC _,cO rfl (fK (dM (by simp) ?_))⟩;exact du ⟨T-1,by omega,j+1,rfl,by omega,rfl⟩
   ·refine fq ?_;exact du ⟨k-1,by omega,F3,i+1,rfl,by omega,(M.trans O).trans s3,H3.tail⟩
  by_cases c1:x.op=1
  ·obtain⟨n1,n2,_⟩:=g.param i x hx c1;obtain⟨m,hm⟩:=Int.eq_ofNat_of_zero_le n1;rw[hm]at z3;refine dr (cO (JX (by omega)) (dr (cO rfl (dV (cO pf (dV (cO z3 (xN (ED (n:=40) (by omega) (dV (cO rfl (cO rfl (cO eA ?_)))))))))))));exact ae (λA h4=>bP A _ _) (fK (dM (by simp) last))
  ·refine dr (cO (G0 (by omega)) (dr (cO rfl (er (er (Aa (er (cO rfl (cO eA ?_)))))))));exact ae (λA h4=>bP A _ _) (fK (dM (by simp) last))
 refine fq ?_;clear hk hi k i;refine oF (C.ld 0 rfl rfl) (cO u1.v.len ?_);rw[hV (z:=V.bool false) rfl (by decide) (by omega),dC];obtain⟨o,O⟩:=C.make (E:=eB) (ty:=fS) (y:=false) (u:=V.bool false) u.cR.length rfl rfl;generalize r.new (.cells fS 1 true false (List.replicate u.cR.length (V.bool false)))=d at*;generalize r.next=lk at*;obtain⟨I,hI⟩:∃I:Nat->LP,I=λ(k:Nat) l h'=>∃(i:Nat) (seen:List Bool),l=[.ptr lu 0,.slice lk 0 u.cR.length,.I ((pre u i).length:Nat),.I i]/\i+k=u.blocks.length/\Sn F h F1 h'/\seen.length=u.cR.length/\(∀v:Nat,seen[v]? =some true↔v∈pre u i)/\cS F1 h' (cW eB fS seen (.slice lk 0 u.cR.length)::cV lu 29 (uC u vv vb vs)::cs):=⟨_,rfl⟩
 refine vK I (λk S x2 x3 x4 h6 hi=>?_) (k:=u.blocks.length) ?_;rotate_left
 ·rw[hI];refine⟨0,_,rfl,by omega,M.trans O,PU,λv=>?_,o⟩;constructor
  ·intro h;rw[Yr]at h;split at h <;> cases h
  ·intro h;simp[pre]at h
 clear o O C u1 M d;clear r;revert h6 hi;intro r hi;rw[hI]at hi;obtain⟨i,seen,⟨⟩,hk,M,bg,bh,C⟩:=hi;unfold mF;have u1:=hu.since M;have bS:=Vm g i;refine oF (C.ld 1 rfl rfl) (cO u1.b.len ?_);by_cases hi:i<u.blocks.length;rotate_left
 ·refine fq ?_;obtain rfl:i=u.blocks.length:=by omega
  rw[Fq g];exact oF (C.ld 1 rfl rfl) (cO u1.v.len (cO (JX rfl) (H F1 r M C.tail.tail)))
 refine dZ ?_;have hB:=fg hi;generalize u.blocks[i]=B at*;obtain⟨l1,o1,bv,bn,bp,_,S,x2,iv,iN,ip,_⟩:=u1.jB hB;refine oF (C.ld 1 rfl rfl) (cO S (cO x2 ?_));refine fo C rfl rfl (by simp only[nV,cY,iv.one,iN.one,ip.one];rfl) λd o O=>?_;generalize r.next=lx at*;have o:cS F1 d (cV lx 41 (nV B bv bn bp)::_):=o;have u2:=u1.since O;have ah:=M.trans O;have bi:=iv.since O;have aP:=iN.since O
 have au:∀n:Nat,B.next.length=n->fE CS Q (xR I k)
   [.ptr lu 0,.slice lk 0 u.cR.length,.I ((pre u i).length:Nat),.I i,.ptr lx 0,.I (n:Nat)] d:=λn hn=>by
  refine vg ?_;unfold mh;have z1:df (.ptr lx (0+1)) d=some (.I B.fin):=o.ld 0 rfl rfl;have z2:df (.ptr lx (0+2)) d=some (.I B.cond):=o.ld 0 rfl rfl;have z5:df (.ptr lx (0+5)) d=some (.I B.state):=o.ld 0 rfl rfl;have R:df (.ptr lu (0+2)) d=some vv:=o.ld 2 rfl rfl;have J:df (.ptr lu (0+4)) d=some vs:=o.ld 2 rfl rfl;have last:jt CS Q (xR I k) [.ptr lu 0,.slice lk 0 u.cR.length,.I ((pre u i).length:Nat),.I i,.ptr lx 0,.I n,.I 0] d:=by
   refine we (λk l h'=>∃j:Nat,l=[.ptr lu 0,.slice lk 0 u.cR.length,.I ((pre u i).length:Nat),.I i,.ptr lx 0,.I n,.I (j:Nat)]/\j+k=n/\h' = d) ?_ (k:=n) ⟨0,rfl,by omega,rfl⟩;rintro T _ _ _ _ _ _ _ d ⟨j,⟨⟩,ay,rfl⟩;unfold mN;by_cases hj:j<n
   ·refine dZ ?_;have ht:=fg (show j<B.next.length by omega);have bj:B.next[j]<u.blocks.length:=g.nx i _ (by unfold next;rw[hB];exact ym (show j<B.next.length by omega));generalize B.next[j]=t at*;obtain⟨l3,o3,_,L,N⟩:=aP.nat ht .i64;refine oF (o.ld 0 rfl rfl) (cO L (cO N (oF (o.ld 2 rfl rfl) (cO u2.b.len (ED bj ⟨iC _,?_⟩)))));refine qI (ei rfl ?_);exact sc (m:=1) (by have:=xr g hB;omega) (by omega) ⟨T-1,by omega,j+1,rfl,by omega,rfl⟩
   refine fq ?_;clear z1 z2 z5 R J
   refine vD (λk l h'=>∃(j:Nat) (seen:List Bool),l=[.ptr lu 0,.slice lk 0 u.cR.length,.I ((pre u i).length+j:Nat),.I i,.ptr lx 0,.I j]/\j+k=B.cR.length/\Sn F h F1 h'/\Sn F1 d F1 h'/\seen.length=u.cR.length/\(∀v:Nat,seen[v]? =some true↔v∈pre u i++B.cR.take j)/\cS F1 h' (cV lx 41 (nV B bv bn bp)::cW eB fS seen (.slice lk 0 u.cR.length)::cV lu 29 (uC u vv vb vs)::cs)) ?_ (k:=B.cR.length)
    ⟨0,seen,rfl,by omega,ah,Sn.refl _ _,bg,λv=>by rw[bh v,Wc,GK],o⟩
   rintro k3 _ _ _ _ _ _ h3 ⟨j,sn,⟨⟩,bU,s3,aQ,aR,aw,H3⟩;unfold nn;have aS:=bi.since aQ;have u3:=hu.since s3;have bV:=xJ g hB;refine oF (H3.ld 0 rfl rfl) (cO aS.len ?_);by_cases hj:j<B.cR.length
   ·refine dZ ?_;have hv:=fg hj;have bm:=LV hj;generalize B.cR[j]=v at*;have ax:At u v i j:=⟨B,hB,hv⟩
    have bo:=g.gz v i j ax;obtain⟨l3,o3,_,L,N⟩:=aS.nat hv .i64;have aT:v ∉ pre u i++B.cR.take j:=λhm=>by
     rcases EC.1 hm with r|r
     ·obtain⟨c,m,d,h3⟩:=Dn.1 r;have:=(g.CE _ _ _ _ _ d ax).1;omega
     ·obtain⟨m,hm⟩:=kh.1 r;rw[List.getElem?_take]at hm;split at hm
      ·have:=(g.CE _ _ _ _ _ ⟨B,hB,hm⟩ ax).2;omega
      ·cases hm
    have br:sn[v]? =some false:=by
     have r:=fg (show v<sn.length by omega);have d:=aw v
     cases e:sn[v]with
     |true=>rw[r,e]at d;exact absurd (d.1 rfl) aT
     |false=>rw[r,e]
    obtain⟨l4,o4,w1,w2⟩:=H3.EF 1 rfl br .i64;have z0:df (.ptr lx (0+0)) h3=some bv:=H3.ld 0 rfl rfl;refine oF z0 (cO L (cO N (oF (H3.ld 2 rfl rfl) (cO u3.v.len (ED bo ⟨iC _,?_⟩)))));refine cO rfl (uW (by simp only[c0,dB,z0,L,N,w1,w2]) (fK (dM (by simp) ?_)));obtain⟨l5,o5,h4,e1,e2,_,H4,s4⟩:=H3.D7 1 rfl (k:=v) (y:=true) (u:=V.bool true) (by omega) rfl rfl rfl;refine oF z0 (cO L (cO N (cO e1 ?_)));rw[e2,cU];simp only[fY,jq]at H4;refine du (du ⟨k3-1,by omega,j+1,_,rfl,by omega,s3.trans s4,aQ.trans s4,by rw[Hb];exact aR,λx=>?_,H4⟩);rw[bm,<-Hq,EC,<-aw x,Ut];by_cases e:x=v
    ·subst e;rw[HT (by omega)];exact⟨λ_=> .inr rfl,λ_=>rfl⟩
    ·rw[CL λh=>e h.symm];exact⟨.inl,λh=>h.elim id λh=>absurd h e⟩
   ·refine fq ?_;obtain rfl:j=B.cR.length:=by omega
    refine du ⟨k-1,by omega,?_⟩;rw[hI];refine⟨i+1,sn,?_,by omega,s3,aR,λv=>?_,H3.tail⟩
    ·rw[AD hB,Ht]
    ·rw[aw v,E5,AD hB]
  have c3:∀K:dg,K (.bool false) d->oP (dA false (V.bool false)) λbt=>oP (gV bt (dE 1 (V.ptr lx 0))) λaU=>oP (dA false (V.bool false)) λbu=>oP (gV bu (df aU d)) λaV=>oP (dA false (V.bool false)) λbw=>oP (gV bw (cX .eql 3 aV (V.I 3))) λaW=>oP (dA false (V.bool false)) λbx=>oP (gV bx (some aW)) λq=>
    oP (dA true q) λbz=>oP (gV bz (dE 5 (V.ptr lx 0))) λaX=>oP (dA true q) λbA=>oP (gV bA (df aX d)) λaY=>oP (dA true q) λbC=>oP (gV bC (dE 4 (V.ptr lu 0))) λaZ=>oP (dA true q) λbD=>oP (gV bD (df aZ d)) λa4=>oP (dA true q) λbE=>oP (gV bE (dD a4)) λa5=>
    oP (dA true q) λbG=>oP (gC bG (some (dQ,[aY,a5]))) λbH=>tv CS bH d λa6 h3=>oP (dA true q) λaj=>oP (gV aj (lB .not a6)) λa7=>oP (kI (V.bool false) (js q a7 (V.bool false))) λG=>K G h3:=λK HK=>by
   refine dr (cO pf (dr (cO z1 ?_)));by_cases c:B.fin=3
   ·refine dr (cO (JX (by omega)) (dr (cO rfl ?_)));have hs:B.state<u.cZ.length:=by
     rcases g.fin i B hB with⟨e,_⟩|⟨e,_⟩|⟨_,_,e⟩
     ·omega
     ·omega
     ·exact e
    exact dV (cO pf (dV (cO z5 (dV (cO pf (dV (cO J (dV (cO u2.s.len (xN (ED hs (dV (cO rfl (cO rfl HK))))))))))))))
   ·exact dr (cO (G0 (by omega)) (dr (cO rfl (er (er (er (er (er (Aa (er (cO rfl HK)))))))))))
  refine oF (o.ld 0 rfl rfl) (cO aP.len (cO (Qp (by omega)) (dr (cO pf (dr (cO z1 ?_))))));by_cases c:B.fin=2
  ·obtain ⟨y,D,U⟩:jo u B.cond:=by
    rcases g.fin i B hB with⟨e,_⟩|⟨_,_,e⟩|⟨e,_⟩
    ·omega
    ·exact e
    ·omega
   have bI:=(gL.1 D).1;obtain⟨l4,o4,_,_,L,_,_,N⟩:=u2.val D;refine dr (cO (JX (by omega)) (dr (cO rfl ?_)));refine dV (cO pf (dV (cO z2 (dV (cO pf (dV (cO R (dV (cO u2.v.len (xN (ED bI ?_)))))))))));refine dV (cO rfl (dV (cO rfl ?_)));refine dr (cO pf (dr (cO R (dr (cO pf (dr (cO z2 (dr (cO L (dr (cO pf (dr (cO N.op (tD (M8 ?_)))))))))))))));rw[U];refine dr (cO rfl (dV (cO rfl (cO rfl ?_))));exact c3 (λG h3=>bP G _ _) (fK (dM (by simp) last))
  ·refine dr (cO (G0 (by omega)) (dr (cO rfl ?_)));refine er (er (er (er (er (Aa (er (er ?_)))))));refine LG (LG (LG (LG (LG (LG (LG (YC (LG (er (cO rfl ?_))))))))));exact c3 (λG h3=>bP G _ _) (fK (dM (by simp) last))
 have z1:df (.ptr lx (0+1)) d=some (.I B.fin):=o.ld 0 rfl rfl;refine oF z1 (eh ?_);rcases g.fin i B hB with⟨f1,f2⟩|⟨f1,f2,_⟩|⟨f1,f2,_⟩
 ·exact ei (by omega) (au 1 f2)
 ·exact dM (by omega) (eh (ei (by omega) (au 2 f2)))
 ·exact dM (by omega) (eh (dM (by omega) (eh (ei (by omega) (au 0 (by rw[f2];rfl))))))
end
open Un Dm
section
variable{F F':Nat->Prop}{h h':Hp}{cs:List Pc}{Q:dg}{u:U}{vv vb vs:V}
theorem Qc(g:Good u){w b:Nat}(h:oQ u w b):∃c j,At u w c j/\(c=b/\j<1073741824\/c≠b/\lE (next u) c b):=by
 obtain⟨c,j,a,d⟩:=h;refine⟨c,j,a,?_⟩;by_cases e:c=b
 ·obtain⟨B,f,i⟩:=a
  grind[xJ,gL]
 simp_all
structure Uz (u:U) (i j:Nat) (jB BQ:List Nat):Prop where
 nb:jB.length=u.cR.length
 np:BQ.length=u.cR.length
 yes:∀(v c m:Nat),At u v c m->(c<i\/(c=i/\m<j))->jB[v]? =some c/\BQ[v]? =some m
theorem Uz.step(g:Good u){i j v:Nat}{jB BQ:List Nat}(S:Uz u i j jB BQ)(b:At u v i j):Uz u i (j+1) (jB.set v i) (BQ.set v j):=by
 have a:=g.gz _ _ _ b;refine⟨by rw[Hb];exact S.nb,by rw[Hb];exact S.np,λw c m d hc=>?_⟩;by_cases e:w=v
 ·subst e;obtain⟨rfl,rfl⟩:=g.CE _ _ _ _ _ d b;rw[HT (by rw[S.nb];exact a),HT (by rw[S.np];exact a)]
  simp_all
 ·rw [CL (by omega),CL (by omega)];refine S.yes w c m d ?_;rcases hc with hc|⟨rfl,hc⟩
  ·omega
  ·refine .inr ⟨rfl,?_⟩;by_cases f:m=j
   ·subst f;obtain⟨B,k,l⟩:=d;obtain⟨n,h,o⟩:=b
    simp_all
   ·omega
theorem Uz.next{i:Nat}{B:Bk}{jB BQ:List Nat}(d:u.blocks[i]? =some B)(S:Uz u i B.cR.length jB BQ):Uz u (i+1) 0 jB BQ:=by
 refine⟨S.nb,S.np,λv c m a hc=>S.yes v c m a ?_⟩;rcases hc with hc|⟨_,hc⟩
 ·by_cases e:c=i
  ·subst e;obtain⟨f,b,g⟩:=a
   grind
  omega
 ·omega
theorem PY(g:Good u){Qz:List (List Nat)}(a:Qz.length=u.blocks.length)(c:∀b:Nat,b<u.blocks.length->Qz[b]? =some (Un.next u b)):Zi u.blocks.length (Un.next u) Qz:=by
 refine⟨g.EE,g.nb,a,c,λb e=>?_,λb _ t d=>g.nx b t d⟩
 grind[fg,Un.next,next,xr]
theorem Mr(g:Good u){b k v:Nat}{x:Vl}{B:Bk}(c:u.blocks[b]? =some B)(a:At u v b k)(d:u.cR[v]? =some x)(e:fm x.op=true):∀(j w:Nat)(y:Vl),j<k->B.cR[j]? =some w->u.cR[w]? =some y->fm y.op=true:=
 λj w y i f h=>I9 g a d e ⟨B,c,f⟩ h (by omega)
theorem U5:(eL eN).rel F h [] [.cQ]:=⟨.cQ,rfl,.nil⟩
theorem SP{len n l o m:Nat}{kd:IntKind}(a:m<len):VU len n (.ptr l o) (.int kd (m:Nat))=some (.ptr l (o+m*n)):=by
 show bB (Nat.blt m len) _=_
 grind[iO,I3]
theorem OP(op:Nat):(((op:Int) == 21) ||((op:Int) == 1))=fm op:=by
 grind[fm,Int,So,Bool.or_comm]
theorem Su{jB BQ:List Nat}{Ho:List (List Bool)}{wb wp wd pv:V}{lu lo To:Nat}(g:Good u)(o:V2 u jB BQ Ho)(H0:cS F h (cV lo To (Oe u vv vb vs wb wp wd)::cV lu 29 (uC u vv vb vs)::cs))(hu:zR F h u vv vb vs)
  (Z:fJ eN F h jB wb) (hp:fJ eN F h BQ wp) (hd:fJ (eL eB) F h Ho wd) (r:fJ (eL eN) F h ((List.range u.blocks.length).map (Un.ahead u)) pv) (H:∀F' h',Sn F h F' h'->cS F' h' cs->Q (.bool true) h') :
  jx CS Q [.ptr lu 0,pv,.ptr lo 0,.I 0] h:=by
 have nv:=g.nv;have nb:=g.nb;have aj:∀b:Nat,b<u.blocks.length->((List.range u.blocks.length).map (Un.ahead u))[b]? =some (Un.ahead u b):=by simp_all
 obtain⟨I,hI⟩:∃I:Nat->LP,I=λk l h'=>∃(F':Nat->Prop) (i:Nat),l=[.ptr lu 0,pv,.ptr lo 0,.I i]/\i+k=u.blocks.length/\Sn F h F' h'/\cS F' h' (cV lo To (Oe u vv vb vs wb wp wd)::cV lu 29 (uC u vv vb vs)::cs):=⟨_,rfl⟩
 refine vM I (λk x1 x3 x4 x5 h1 hi=>?_) (k:=u.blocks.length) ?_;rotate_left
 ·rw[hI];exact⟨F,0,rfl,by omega,Sn.refl _ _,H0⟩
 rw[hI]at hi;obtain⟨F1,i,⟨⟩,hk,s1,H1⟩:=hi;unfold mJ;refine oF (H1.ld 1 rfl rfl) (cO (hu.since s1).b.len ?_);by_cases hi:i<u.blocks.length;rotate_left
 ·exact fq (H F1 h1 s1 H1.tail.tail)
 refine dZ ?_;have K:=fg hi;generalize u.blocks[i]=B at*;obtain⟨l1,o1,S,T,U,_,x1,x2,iv,iN,ip,_⟩:=(hu.since s1).jB K;refine oF (H1.ld 1 rfl rfl) (cO x1 (cO x2 ?_));refine fo H1 rfl rfl (by simp only[nV,cY,iv.one,iN.one,ip.one];rfl) λh2 H2 s2=>?_;generalize h1.next=lx at*;have H2:cS F1 h2 (cV lx 41 (nV B S T U)::_):=H2;have iv:=iv.since s2;have ak:=s1.trans s2;have xV:∀{A d},Sn F h A d->cS A d (cV lx 41 (nV B S T U)::cV lo To (Oe u vv vb vs wb wp wd)::cV lu 29 (uC u vv vb vs)::cs)->oP (cX .add 3 (V.I i) (V.I 1)) λaa=>xR I k [.ptr lu 0,pv,.ptr lo 0,aa] d:=λ{A d} f s=>by
  refine du ⟨k-1,by omega,?_⟩;rw[hI];exact⟨A,i+1,rfl,by omega,f,s.tail⟩
 have aw:=xJ g K;obtain⟨I6,M⟩:∃I:Nat->LP,I=λk l h'=>∃(F':Nat->Prop) (m:Nat),l=[.ptr lu 0,pv,.ptr lo 0,.I i,.ptr lx 0,.I m]/\m+k=B.cR.length/\Sn F h F' h'/\Sn F1 h2 F' h'/\cS F' h' (cV lx 41 (nV B S T U)::cV lo To (Oe u vv vb vs wb wp wd)::cV lu 29 (uC u vv vb vs)::cs):=⟨_,rfl⟩
 refine vJ I6 (λk6 x1 x3 x4 x5 x6 x7 W ab=>?_) (k:=B.cR.length) ?_;rotate_left
 ·rw[M];exact⟨F1,0,rfl,by omega,ak,Sn.refl _ _,H2⟩
 rw[M]at ab;clear H2 H1;obtain⟨F3,m,⟨⟩,ax,C,ac,z⟩:=ab;unfold mR;have ae:=iv.since ac;refine oF (z.ld 0 rfl rfl) (cO ae.len ?_);have u3:=hu.since C;by_cases hm:m<B.cR.length
 ·refine dZ ?_;have hv:=fg hm;generalize B.cR[m]=v at*;have D:At u v i m:=⟨B,K,hv⟩
  obtain⟨x,N⟩:∃x,u.cR[v]? =some x:=⟨_,fg (g.gz v i m D)⟩
  obtain⟨l4,o4,al,y1,y2⟩:=ae.nat hv .i64;obtain⟨l5,o5,w,am,X,z2,xw,_⟩:=u3.val N;refine oF (z.ld 2 rfl rfl) (oF (z.ld 0 rfl rfl) (cO y1 (cO y2 (cO X (cO z2 ?_)))));rw[fQ];obtain⟨H4,s4⟩:=z.vW 38 [V.I 0,V.I 0,V.I 0,V.I 0,V.cQ,V.I 0];have g4:(W.new (.cells 38 1 true false [V.I 0,V.I 0,V.I 0,V.I 0,V.cQ,V.I 0])).get W.next=some (.cells 38 1 true false [V.I 0,V.I 0,V.I 0,V.I 0,V.cQ,V.I 0]):=dL _ _;generalize W.new (.cells 38 1 true false [V.I 0,V.I 0,V.I 0,V.I 0,V.cQ,V.I 0])=h4 at*;refine⟨by simp_all,DQ z2 (s4.dO _ am),lV y2 (s4.dO _ al),H4.ld 1 rfl rfl,H4.ld 3 rfl rfl,?_⟩;obtain⟨h5,e5,n5,H5,s5⟩:=H4.T7 0 (ws:=kN x w) (n:=6) rfl rfl rfl (by simp only[kN,cY,xw.one];rfl);rw[e5,cU];simp only[fY]at H5;refine⟨n5,cO (H5.zt 0 rfl rfl) ?_⟩;generalize W.next=Y at*;have O:=s4.trans s5;refine FM H5 (xw.since O) λF6 h6 uv s6 H6 r6=>?_;have ay:=DB λh=>Iz g N h;have an:=(C.trans O).trans s6;have ao:=(ac.trans O).trans s6;clear H5 H4 e5 n5;obtain⟨I7,P⟩:∃I:Nat->LP,I=λk l h'=>∃(F':Nat->Prop) (j:Nat),l=[.ptr lu 0,pv,.ptr lo 0,.I i,.ptr lx 0,.I m,.ptr Y 0,uv,.I j]/\j+k=(fu x).length/\Sn F h F' h'/\Sn F6 h6 F' h'/\cS F' h' (cV Y 38 (kN x w)::cV lx 41 (nV B S T U)::cV lo To (Oe u vv vb vs wb wp wd)::cV lu 29 (uC u vv vb vs)::cs):=⟨_,rfl⟩
  refine vN I7 (λk7 x1 x3 x4 x5 x6 x7 x8 x9 aA h7 ag=>?_) (k:=(fu x).length) ?_;rotate_left
  ·rw[P];exact⟨F6,0,rfl,by omega,an,Sn.refl _ _,H6⟩
  rw[P]at ag;clear H6;obtain⟨F7,j,⟨⟩,aB,t,R,L⟩:=ag;unfold mS;have r7:=r6.since R;refine cO r7.len ?_;have u7:=hu.since t;by_cases hj:j<(fu x).length
  ·refine dZ ?_;have ha:=fg hj;have ap:=ym hj;generalize (fu x)[j]=a at*;obtain⟨l8,o8,_,q1,q2⟩:=r7.nat ha .i64;have ah:∀{d},Sn F7 h7 F7 d->cS F7 d (cV Y 38 (kN x w)::cV lx 41 (nV B S T U)::cV lo To (Oe u vv vb vs wb wp wd)::cV lu 29 (uC u vv vb vs)::cs)->gO CS Q (xR I k) (xR I6 k6) (xR I7 k7) [.ptr lu 0,pv,.ptr lo 0,.I i,.ptr lx 0,.I m,.ptr Y 0,uv,.I j] d:=λ{d} f s=>by
    refine uB ?_;unfold mj;refine du ⟨k7-1,by omega,?_⟩;rw[P];exact⟨F7,j+1,rfl,by omega,t.trans f,R.trans f,s⟩
   refine oF (L.ld 0 rfl rfl) (eh ?_);by_cases c:x.op=21
   ·refine ei (by omega) ?_;obtain⟨_,aC⟩:=g.xI v i m x B D N c K;have aq:fu x=x.args:=by unfold fu;rw[if_pos c]
    rw[aq]at ha hj;have y:∃p,B.c8[j]? =some p:=by simp_all
    obtain ⟨p,y⟩:=y;obtain⟨ca,ja,E,G⟩:=Qc g (g.xo v i m x B D N c K j a p ha y);have ar:p<u.blocks.length:=by
     have hm:=zD y;rw[g.c8 i B K]at hm;obtain⟨q,B',h1,_,W⟩:=pQ.1 hm;have:=(gL.1 h1).1;omega
    obtain⟨la,oa,wr,_,t1,t2,t3⟩:=(r.since t).list (aj i hi) .i64;rw[g.c8 i B K]at y;obtain⟨lc,oc,_,t4,t5⟩:=t3.nat y .i64;refine cO (L.zt 2 rfl rfl) (cO q1 (cO q2 (cO t1 (cO t2 (cO t4 (cO t5 ?_))))));refine AP o L u7 (Z.since t) (hp.since t) (hd.since t) (k:=1073741824) E ar G λd f s=>?_;exact⟨f.next,qI (ei rfl (ah f s))⟩
   ·refine dM (by omega) ?_;obtain⟨ca,ja,E,G⟩:=g.uN v i m x D N c a ap;refine cO (L.zt 2 rfl rfl) (cO q1 (cO q2 ?_));refine AP o L u7 (Z.since t) (hp.since t) (hd.since t) E hi G λd f s=>?_;exact⟨f.next,qI (ei rfl (ah f s))⟩
  refine fq ?_;have z0:df (.ptr Y (0+0)) h7=some (.I x.op):=L.ld 0 rfl rfl;refine oF z0 (cO (fx ..) (cO (a:= .bool (leaves x.op)) ?_ ?_))
  ·simp only[c0,dB,z0,fx,jG];unfold leaves
   grind[Int,So]
  have au:∀{A d},Sn F7 h7 A d->cS A d (cV Y 38 (kN x w)::cV lx 41 (nV B S T U)::cV lo To (Oe u vv vb vs wb wp wd)::cV lu 29 (uC u vv vb vs)::cs)->oP (cX .add 3 (V.I m) (V.I 1)) λai=>xR I6 k6 [.ptr lu 0,pv,.ptr lo 0,.I i,.ptr lx 0,ai] d:=λ{A d} f s=>by
   refine du ⟨k6-1,by omega,?_⟩;rw[M];exact⟨A,m+1,rfl,by omega,t.trans f,(ao.trans R).trans f,s.tail⟩
  cases hl:leaves x.op with
  | true=>
    obtain⟨fs,J⟩:∃fs,u.cZ[x.state]? =some fs:=⟨_,fg (g.leave v x N hl)⟩
    refine dV (cO (L.zt 2 rfl rfl) (dV (cO pf (dV (cO (L.ld 0 rfl rfl) (dV (cO rfl (dV (cO rfl (xN ?_))))))))));refine Ih o g L u7 (Z.since t) (hp.since t) (hd.since t) J hi (λw hw=>g.Ad v i m x fs D N hl J w hw) λA d f s=>?_
    exact cO rfl (fK (dM (by simp) (au f s)))
  | false=>
    refine er (er (er (er (er (Aa ?_)))));exact cO rfl (fK (dM (by simp) (by grind[Sn.refl])))
 refine fq ?_;have X:df (.ptr lx (0+1)) W=some (.I B.fin):=z.ld 0 rfl rfl;refine oF X ?_;by_cases c2:B.fin=2
 ·obtain⟨ca,ja,E,G⟩:=Qc g (g.xQ i B K c2);refine cO (by simp_all) (dV (cO (z.zt 1 rfl rfl) (dV (cO pf (dV (cO (z.ld 0 rfl rfl) (dV (cO rfl (xN ?_)))))))));refine AP o z u3 (Z.since C) (hp.since C) (hd.since C) (k:=1073741824) E hi G λd f s=>?_;have X:df (.ptr lx (0+1)) d=some (.I B.fin):=s.ld 0 rfl rfl;refine cO rfl (dr (cO pf (dr (cO X (dr (cO (G0 (by omega)) (dr (cO rfl ?_))))))));refine er (er (er (er (Aa (er (cO rfl (fK (dM (by simp) ?_))))))));exact xV (C.trans f) s
 ·refine cO (G0 (by omega)) (er (er (er (er (Aa (cO rfl ?_))))));refine dr (cO pf (dr (cO X ?_)));by_cases c3:B.fin=3
  ·have hs:B.state<u.cZ.length:=by
    rcases g.fin i B K with⟨e,_⟩|⟨e,_⟩|⟨_,_,e⟩
    ·omega
    ·omega
    ·exact e
   have J:=fg hs;generalize u.cZ[B.state]=fs at*;refine dr (cO (JX (by omega)) (dr (cO rfl ?_)));refine dV (cO (z.zt 1 rfl rfl) (dV (cO pf (dV (cO (z.ld 0 rfl rfl) (dV (cO rfl (xN ?_))))))));refine Ih o g z u3 (Z.since C) (hp.since C) (hd.since C) (k:=1073741824) J hi (λw hw=>Qc g (g.zl i B fs K c3 J w hw)) λA d f s=>?_;exact dV (cO rfl (cO rfl (fK (dM (by simp) (xV (C.trans f) s)))))
  ·refine dr (cO (G0 (by omega)) (dr (cO rfl ?_)));exact er (er (er (er (Aa (er (cO rfl (fK (dM (by simp) (xV C z)))))))))
theorem LC(g:Good u)(H0:cS F h cs)(Z:zR F h u vv vb vs)(H:∀F' h',Sn F h F' h'->cS F' h' cs->Q (.bool true) h'):cP CS iR [.agg (uC u vv vb vs)] h Q:=by
 refine yO rfl rfl ?_;unfold qw;have nv:=g.nv;have nb:=g.nb;have EE:=g.EE;refine kX H0 Z.one λh1 H1 s1=>?_;generalize h.next=lu at*;refine cO (H1.zt 0 rfl rfl) (Ro g H1 (Z.since s1) λF2 K s2 G=>?_);have ag:=s1.trans s2;refine qI (ei rfl (cO (G.zt 0 rfl rfl) (QB g G (Z.since ag) λF3 h3 pv J q r3=>?_)));have ap:=ag.trans J;refine oF (q.ld 0 rfl rfl) (cO (Z.since ap).b.len ?_);rw[hV (z:=V.cQ) rfl (by decide) (by omega),dC];obtain⟨U,s4⟩:=q.make (E:=eL eN) (ty:=fO) (y:=[]) (u:= .cQ) u.blocks.length U5 rfl;generalize h3.new (.cells fO 1 true false (List.replicate u.blocks.length V.cQ))=h4 at*;generalize h3.next=ln at*;have aa:∀b:Nat,b<u.blocks.length->((List.range u.blocks.length).map (Un.ahead u))[b]? =some (Un.ahead u b):=by simp_all
 obtain ⟨I,L⟩:∃I:Nat->LP,I=λk l h'=>∃(i:Nat) (Df:List (List Nat)),l=[.ptr lu 0,pv,.slice ln 0 u.blocks.length,.I i]/\i+k=u.blocks.length/\Sn F3 h3 F3 h'/\Df.length=u.blocks.length/\(∀j:Nat,j<i->Df[j]? =some (Un.next u j))/\
   cS F3 h' (cW (eL eN) fO Df (.slice ln 0 u.blocks.length)::cV lu 29 (uC u vv vb vs)::cs):=⟨_,rfl⟩
 refine wh I (λk d x3 x4 x5 h5 hi=>?_) (k:=u.blocks.length) ?_;rotate_left
 ·grind
 rw[L]at hi;clear U s4 h4 G H1 s1 s2 ag;obtain⟨i,Df,⟨⟩,hk,R,aH,aI,S⟩:=hi;unfold mU;have A:=ap.trans R;have u5:=Z.since A;refine oF (S.ld 1 rfl rfl) (cO u5.b.len ?_);by_cases hi:i<u.blocks.length
 ·refine dZ ?_;have r:=fg hi;generalize u.blocks[i]=B at*;obtain⟨l1,o1,bv,bn,bp,_,d,x2,iv,iN,ip,xb⟩:=u5.jB r;refine oF (S.ld 1 rfl rfl) (cO d (oF xb.next ?_));obtain⟨l6,o6,h6,e1,e2,_,f,C⟩:=S.D7 0 rfl (k:=i) (y:=B.next) (u:=bn) (by omega) rfl iN.one ⟨bn,rfl,iN⟩;refine cO e1 ?_;rw[e2,cU];simp only[fY]at f;have M:=A.trans C;have u6:=Z.since M;have r6:=(r3.since R).since C;have a7:=iN.since C;obtain⟨l7,o7,a8,a9,ba,_,y1,_,_,_,aJ,yb⟩:=u6.jB r;rw[d]at y1;cases y1;obtain⟨l8,o8,pr,_,z1,z2,zr⟩:=r6.list (aa i hi) .i64;refine oF (f.ld 1 rfl rfl) (cO d (oF yb.c8 (cO z1 (cO z2 ?_))));refine Sk aJ (by rw[g.c8 i B r];exact zr) (by grind[BU]) ?_;refine⟨iC _,qI (ei rfl ?_)⟩;have k3:df (.ptr lu (0+3)) h6=some vb:=f.ld 1 rfl rfl;obtain⟨l9,o9,bb,ah,bc,_,y2,_,_,aq,_,ar⟩:=u6.jB r;rw[d]at y2;cases y2;refine oF k3 (cO d (oF ar.next (cO aq.len (cO (fx ..) ?_))));refine cO (a:= .bool false) ?_ (fK (dM (by simp) ?_))
  ·by_cases c:B.next.length=2
   ·rw [show((B.next.length:Int) == 2)=true by simp_all,ur];have aK:B.fin=2:=by
     rcases g.fin i B r with⟨_,h⟩|⟨h,_⟩|⟨_,h,_⟩
     ·omega
     ·exact h
     ·simp_all
    have tt:∀j:Nat,j<2->∃l o t l' o' w,eX 1 ah (.I (j:Nat))=some (.ptr l o)/\df (.ptr l o) h6=some (.I (t:Nat))/\eX 1 pv (.I (t:Nat))=some (.ptr l' o')/\df (.ptr l' o') h6=some w/\dD w=some (.I ((1:Nat):Int)):=λj hj=>by
     have ht:=fg (show j<B.next.length by omega);have N:=ym (show j<B.next.length by omega);have aL:=g.GJ i B r aK _ N;have aM:B.next[j]<u.blocks.length:=g.nx i _ (by grind[next]);obtain⟨l,o,_,q1,q2⟩:=aq.nat ht .i64;obtain⟨l',o',w,_,q3,q4,q5⟩:=r6.list (aa _ aM) .i64;exact⟨l,o,_,l',o',w,q1,q2,q3,q4,by rw[q5.len,aL]⟩
    obtain⟨a1,a2,a3,a4,a5,a6,b1,b2,b3,b4,b5⟩:=tt 0 (by omega);obtain⟨c1,c2,c3,c4,c5,c6,d1,d2,d3,d4,d5⟩:=tt 1 (by omega);have b1:eX 1 ah (.I 0)=some (.ptr a1 a2):=b1;have d1:eX 1 ah (.I 1)=some (.ptr c1 c2):=d1;simp only[c0,dB,k3,d,ar.next,b1,b2,b3,b4,b5,d1,d2,d3,d4,d5,Qp (show(((1:Nat):Int))=1 from rfl),j6]
   ·rw[show((B.next.length:Int) == 2)=false by grind,M4]
  ·refine du ⟨k-1,by omega,?_⟩;rw[L];refine⟨i+1,_,rfl,by omega,R.trans C,by simp_all,λj hj=>?_,f⟩
   grind[HT,next,CL]
 refine fq ?_;obtain rfl:i=u.blocks.length:=by omega
 clear hk hi k L I;have r5:=r3.since R;obtain⟨l6,o6,pr,_,z1,z2,zr⟩:=r5.list (aa 0 (by omega)) .i64;have z1:eX 1 pv (.I 0)=some (.ptr l6 o6):=z1;refine cO z1 (cO z2 (cO zr.len (BM (dM (by rw[g.uG];simp) ?_))));obtain⟨f,C,rn⟩:=S.gh 0 rfl;simp only[fY]at f;have f:=f.tail;have W:=PY g aH aI;generalize aN:(λl=>F3 l\/Loc (V.slice ln 0 u.blocks.length) l)=P at*;have M:=A.trans C;have r6:=r5.since C;have u6:=Z.since M;clear S R q aN r5 r3 u5 A z1 z2 zr;refine GU W (-1) f rn λh7 sv seen s7 H7 aO aP=>?_;have au:∀b:Nat,b<u.blocks.length->seen[b]? =some true:=λb hb=>by
  obtain⟨l,hl⟩:=g.reach b hb;exact(aP b).2 ⟨l,hl,λx _=>by omega⟩
 refine vz (λk l h'=>∃i:Nat,l=[.ptr lu 0,pv,.slice ln 0 u.blocks.length,sv,.I (i:Nat)]/\i+k=u.blocks.length/\h' = h7) ?_ (k:=u.blocks.length) ⟨0,rfl,by omega,rfl⟩;rintro k _ _ _ _ _ h7 ⟨i,⟨⟩,hk,rfl⟩;unfold nw;refine cO (H7.len 0 rfl) ?_;rw[aO];by_cases hi:i<u.blocks.length
 ·refine dZ ?_;obtain⟨l8,o8,y1,y2⟩:=H7.EF 0 rfl (au i hi) .i64;refine cO y1 (cO y2 (qI (ei rfl ?_)));exact du ⟨k-1,by omega,i+1,rfl,by omega,rfl⟩
 refine fq ?_;clear hk hi k i;have H7:=H7.tail;have ai:=M.trans s7;refine oF (H7.ld 0 rfl rfl) (cO (Z.since ai).v.len ?_);rw[hV (z:=V.I 0) rfl (by decide) (by omega),dC];obtain⟨H8,s8⟩:=H7.make (E:=eN) (ty:=cT) (y:=0) (u:=V.I 0) u.cR.length rfl rfl;generalize h7.new (.cells cT 1 true false (List.replicate u.cR.length (V.I 0)))=h8 at*;generalize h7.next=lb at*;have aw:=ai.trans s8;refine oF (H8.ld 1 rfl rfl) (cO (Z.since aw).v.len ?_);rw[hV (z:=V.I 0) rfl (by decide) (by omega),dC];obtain⟨H9,s9⟩:=H8.make (E:=eN) (ty:=cT) (y:=0) (u:=V.I 0) u.cR.length rfl rfl;generalize h8.new (.cells cT 1 true false (List.replicate u.cR.length (V.I 0)))=h9 at*;generalize h8.next=lp at*;have X:=(s7.trans s8).trans s9;clear H8 H7 s8 s7 ai aw f;have u9:=u6.since X;have r9:=r6.since X;have aQ:=rn.since X;have aR:=M.trans X;clear X M s9 u6 r6 rn
 obtain ⟨I,L⟩:∃I:Nat->LP,I=λk l h'=>∃(i:Nat) (jB BQ:List Nat),l=[.ptr lu 0,pv,.slice ln 0 u.blocks.length,.slice lb 0 u.cR.length,.slice lp 0 u.cR.length,.I i]/\i+k=u.blocks.length/\Sn P h9 P h'/\Uz u i 0 jB BQ/\
   cS P h' (cW eN cT BQ (.slice lp 0 u.cR.length)::cW eN cT jB (.slice lb 0 u.cR.length)::cV lu 29 (uC u vv vb vs)::cs):=⟨_,rfl⟩
 refine vU I (λk d x3 x4 x5 x6 x7 h1 hi=>?_) (k:=u.blocks.length) ?_;rotate_left
 ·rw[L];exact⟨0,_,_,rfl,by omega,Sn.refl _ _,⟨PU,PU,λv c m _ hc=>by omega⟩,H9⟩
 rw[L]at hi;clear H9;obtain⟨i,jB,BQ,⟨⟩,hk,s1,P1,H1⟩:=hi;unfold ng;have u1:=u9.since s1;refine oF (H1.ld 2 rfl rfl) (cO u1.b.len ?_);by_cases hi:i<u.blocks.length
 ·refine dZ ?_;have r:=fg hi;generalize u.blocks[i]=B at*;have bd:=xJ g r
  obtain ⟨I4,aj⟩:∃I:Nat->LP,I=λk l h'=>∃(j:Nat) (fst:Bool) (jB BQ:List Nat),l=[.ptr lu 0,pv,.slice ln 0 u.blocks.length,.slice lb 0 u.cR.length,.slice lp 0 u.cR.length,.I i,.bool fst,.I j]/\j+k=B.cR.length/\Sn P h9 P h'/\Uz u i j jB BQ/\
    (fst=true↔∀(m w:Nat) (y:Vl),m<j->B.cR[m]? =some w->u.cR[w]? =some y->fm y.op=true)/\
    cS P h' (cW eN cT BQ (.slice lp 0 u.cR.length)::cW eN cT jB (.slice lb 0 u.cR.length)::cV lu 29 (uC u vv vb vs)::cs):=⟨_,rfl⟩
  refine vY I4 (λk4 d x3 x4 x5 x6 x7 x8 x9 K ax=>?_) (k:=B.cR.length) ?_;rotate_left
  ·rw[aj];exact⟨0,true,jB,BQ,rfl,by omega,s1,P1,⟨λ_ m _ _ N=>by omega,λ_=>rfl⟩,H1⟩
  rw[aj]at ax;clear H1 P1 u1 s1 jB BQ;obtain⟨j,fst,jB,BQ,⟨⟩,be,s2,P2,ae,G⟩:=ax;unfold ny;have u2:=u9.since s2;obtain⟨l1,o1,bv,bn,bp,ab,d,_,iv,_,_,xb⟩:=u2.jB r;refine oF (G.ld 2 rfl rfl) (cO d (oF xb.cR (cO iv.len ?_)));by_cases hj:j<B.cR.length;rotate_left
  ·refine fq ?_;obtain rfl:j=B.cR.length:=by omega
   refine du ⟨k-1,by omega,?_⟩;rw[L];exact⟨i+1,jB,BQ,rfl,by omega,s2,P2.next r,G⟩
  refine dZ ?_;have hv:=fg hj;generalize B.cR[j]=v at*;have p:At u v i j:=⟨B,r,hv⟩
  have ak:=g.gz v i j p;obtain⟨x,hx⟩:∃x,u.cR[v]? =some x:=⟨_,fg ak⟩
  obtain⟨l4,o4,ac,y1,y2⟩:=iv.nat hv .i64;obtain⟨l5,o5,w,aS,z1,z2,xw,_⟩:=u2.val hx;refine oF (G.ld 2 rfl rfl) (oF (G.ld 2 rfl rfl) (cO d (oF xb.cR (cO y1 (cO y2 (cO z1 (cO z2 ?_)))))));rw[fQ];obtain⟨q,J⟩:=G.vW 38 [V.I 0,V.I 0,V.I 0,V.I 0,V.cQ,V.I 0];have g3:(K.new (.cells 38 1 true false [V.I 0,V.I 0,V.I 0,V.I 0,V.cQ,V.I 0])).get K.next=some (.cells 38 1 true false [V.I 0,V.I 0,V.I 0,V.I 0,V.cQ,V.I 0]):=dL _ _;generalize K.new (.cells 38 1 true false [V.I 0,V.I 0,V.I 0,V.I 0,V.cQ,V.I 0])=h3 at*;refine⟨⟨g3,O.jz _ _ _ _ _⟩,DQ z2 (J.dO _ aS),lV y2 (J.dO _ ac),lV xb.cR (J.dO _ ab),q.ld 3 rfl rfl,q.ld 3 rfl rfl,?_⟩;obtain⟨h4,e4,n4,U,s4⟩:=q.T7 0 (ws:=kN x w) (n:=6) rfl rfl rfl (by simp only[kN,cY,xw.one];rfl);rw[e4,cU];simp only[fY]at U;refine⟨n4,?_⟩;generalize K.next=ly at*;have ay:df (.ptr l1 (o1+0)) h4=some bv:=lV (lV xb.cR (J.dO _ ab)) (s4.dO _ ab);have aA:df (.ptr l4 o4) h4=some (.I v):=lV (lV y2 (J.dO _ ac)) (s4.dO _ ac);refine oF (U.ld 3 rfl rfl) (cO d (oF ay (cO y1 (cO aA ?_))));obtain⟨l6,o6,h5,e5,e6,n5,S,R⟩:=U.D7 2 rfl (k:=v) (y:=i) (u:=V.I i) (by rw[P2.nb];exact ak) rfl rfl rfl;refine cO e5 ?_;rw[e6,cU];simp only[fY,jq]at S;have aT:df (.ptr l1 (o1+0)) h5=some bv:=lV ay (R.dO _ ab);have aU:df (.ptr l4 o4) h5=some (.I v):=lV aA (R.dO _ ac);refine oF (S.ld 3 rfl rfl) (cO d (oF aT (cO y1 (cO aU ?_))));obtain⟨l7,o7,h6,e7,e8,n6,f,C⟩:=S.D7 1 rfl (k:=v) (y:=j) (u:=V.I j) (by rw[P2.np];exact ak) rfl rfl rfl;refine cO e7 ?_;rw[e8,cU];simp only[fY,jq]at f;have al:=((J.trans s4).trans R).trans C;have z0:df (.ptr ly (0+0)) h6=some (.I x.op):=f.ld 0 rfl rfl;have z4:df (.ptr ly (0+4)) h6=some w:=f.ld 0 rfl rfl;have w6:=xw.since al;have r6:=(r9.since s2).since al;obtain⟨lr,bf,pr,_,p1,p2,p3⟩:=r6.list (aa i hi) .i64;have aV:fm x.op=true->fst=true:=λhh=>ae.2 (Mr g r p hx hh);refine oF z0 (cO (fx ..) (cO (a:= .bool (fm x.op)) (by simp only[c0,dB,z0,fx,jG,OP]) (cO (a:= .bool false) ?_ (uW ?_ (uW ?_ (fK (dM (by simp) ?_)))))))
  ·show il _ (some (V.bool (!fst)))=_;rw[fW]
   cases hh:fm x.op with
   |true=>rw[aV hh];rfl
   |false=>rfl
  ·simp only[c0,dB,z0];by_cases c:x.op=21
   ·obtain⟨h0,hl⟩:=g.xI v i j x B p hx c r;rw[JX (by omega)];simp only[c0,ur,z4,w6.len,p1,p2,p3.len];rw[Qp (by rw[hl,g.c8 i B r])];simp only[c0,j6];exact G0 (by omega)
   ·rw[G0 (by omega)];rfl
  ·simp only[c0,dB,z0];by_cases c:x.op=1
   ·have h0:=g.par v i j x p hx c;rw[JX (by omega)];simp only[c0,ur];exact Qp (by omega)
   ·rw[G0 (by omega)];rfl
  ·rw [fW];refine cO rfl (du ⟨k4-1,by omega,?_⟩);rw[aj];refine⟨j+1,_,_,_,rfl,by omega,s2.trans al,P2.step g p,?_,f.tail⟩;rw[rm,ae];constructor
   ·rintro⟨h1,K⟩ m w' y N Y hy;by_cases e:m=j
    ·subst e;rw[hv]at Y;cases Y;rw[hx]at hy;cases hy;exact K
    ·exact h1 m w' y (by omega) Y hy
   ·intro h1;exact⟨λm w' y N Y hy=>h1 m w' y (by omega) Y hy,h1 j v x (by omega) hv hx⟩
 refine fq ?_;obtain rfl:i=u.blocks.length:=by omega
 clear hk hi k L I;refine AJ H1 λK G s2=>?_;generalize h1.next=lq at*;obtain⟨Tp,G⟩:∃T,cS P K (cV lq T ((List.replicate 40 false).map V.bool)::cW eN cT BQ (.slice lp 0 u.cR.length)::cW eN cT jB (.slice lb 0 u.cR.length)::cV lu 29 (uC u vv vb vs)::cs):=⟨_,G⟩
 obtain ⟨I,L⟩:∃I:Nat->LP,I=λk l h'=>∃(i:Nat) (ps:List Bool),l=[.ptr lu 0,pv,.slice ln 0 u.blocks.length,.slice lb 0 u.cR.length,.slice lp 0 u.cR.length,.ptr lq 0,.I i]/\i+k=u.cR.length/\Sn P h9 P h'/\ps.length=40/\
   (∀m:Nat,ps[m]? =some true->∃(w:Nat) (y:Vl),w<i/\u.cR[w]? =some y/\y.op=1/\y.n=(m:Int))/\
   cS P h' (cV lq Tp (ps.map V.bool)::cW eN cT BQ (.slice lp 0 u.cR.length)::cW eN cT jB (.slice lb 0 u.cR.length)::cV lu 29 (uC u vv vb vs)::cs):=⟨_,rfl⟩
 refine vI I (λk d x3 x4 x8 x9 bg bh h3 hi=>?_) (k:=u.cR.length) ?_;rotate_left
 ·rw[L];refine⟨0,_,rfl,by omega,s1.trans s2,PU,λm N=>?_,G⟩;rw[Yr]at N;split at N <;> cases N
 rw[L]at hi;clear G H1 u1 s1 s2;obtain⟨i,ps,⟨⟩,hk,J,aB,am,q⟩:=hi;unfold m8;have u3:=u9.since J;refine oF (q.ld 3 rfl rfl) (cO u3.v.len ?_);by_cases hi:i<u.cR.length
 ·refine dZ ?_;have hx:=fg hi;generalize u.cR[i]=x at*;obtain⟨l1,o1,w,_,d,_,_,xl⟩:=u3.val hx
  have aC:∀{h8} {TP:List Bool},Sn P h3 P h8->TP.length=40->(∀m:Nat,TP[m]? =some true->∃(w:Nat) (y:Vl),w<i+1/\u.cR[w]? =some y/\y.op=1/\y.n=(m:Int))->cS P h8 (cV lq Tp (TP.map V.bool)::cW eN cT BQ (.slice lp 0 u.cR.length)::cW eN cT jB (.slice lb 0 u.cR.length)::cV lu 29 (uC u vv vb vs)::cs)->
    gR CS Q (xR I k) [.ptr lu 0,pv,.slice ln 0 u.blocks.length,.slice lb 0 u.cR.length,.slice lp 0 u.cR.length,.ptr lq 0,.I i] h8:=λ{h8 TP} s8 hl hp H8=>by
   refine uR ?_;unfold mg;refine du ⟨k-1,by omega,?_⟩;rw[L];exact⟨i+1,TP,rfl,by omega,J.trans s8,hl,hp,H8⟩
  have aD:∀m:Nat,ps[m]? =some true->∃(w:Nat) (y:Vl),w<i+1/\u.cR[w]? =some y/\y.op=1/\y.n=(m:Int):=λm N=>by
   obtain⟨w,y,h1,K⟩:=am m N;exact⟨w,y,by omega,K⟩
  refine oF (q.ld 3 rfl rfl) (cO d (oF xl.op (eh ?_)));by_cases c:x.op=1
  ·refine ei (by omega) ?_;obtain⟨n1,n2,n3⟩:=g.param i x hx c;obtain⟨m,N⟩:=Int.eq_ofNat_of_zero_le n1;have aW:m<40:=by omega
   have xn:=xl.n;rw[N]at xn;have eq:=SP (n:=1) (l:=lq) (o:=0) (kd:= .i64) aW;have an:=fg (show m<ps.length by omega);have aX:ps[m]? =some false:=by
    cases e:ps[m]with
    | true=>
      rw[e]at an;obtain⟨w',y,h1,K,h3,h4⟩:=am m an;have:=n3 w' y K h3 (by omega)
      omega
    |false=>rw[an,e]
   have aY:df (.ptr lq (0+m*1)) h3=some (.bool false):=q.ld 0 rfl (by rw[yD,Nat.mul_one,w5,aX];rfl);refine oF (q.ld 3 rfl rfl) (cO d (oF xn (cO eq (cO aY (fK (dM (by simp) ?_))))));refine oF (q.ld 3 rfl rfl) (cO d (oF xn (cO eq ?_)));obtain⟨h4,e4,_,U,s4⟩:=q.st 0 (o:=m) (u:=V.bool true) rfl (by rw[yn];omega) rfl;have aZ:fk 1 (.ptr lq (0+m*1)) (V.bool true) h3=some (.val .undef h4):=by rw[yD,Nat.mul_one];exact e4
   rw[aZ,cU];simp only[fY]at U;refine aC s4 (TP:=ps.set m true) (by rw[Hb];exact aB) (λm' aE=>?_) (by rw[List.map_set];exact U);by_cases e:m' = m
   ·subst e;exact⟨i,x,by omega,hx,c,N⟩
   ·rw[CL λh=>e h.symm]at aE;exact aD m' aE
  ·exact dM (by omega) (aC (Sn.refl _ _) aB aD q)
 refine fq ?_;clear hk hi k L I am i;obtain⟨U,s4,r4⟩:=q.tail.gh 0 rfl;simp only[fY]at U;obtain⟨S,R,r5⟩:=U.tail.gh 0 rfl;simp only[fY]at S;have ao:=s4.trans R;have A:=(aR.trans J).trans ao;refine TK W S.tail ((aQ.since J).since ao) λbi h6 dv Ho C f r6 D=>?_;refine cO (f.zt 0 rfl rfl) ?_;have aF:=(r4.since R).since C;have aG:=r5.since C;refine cO (a:= .agg (Oe u vv vb vs (.slice lb 0 u.cR.length) (.slice lp 0 u.cR.length) dv)) ?_ ?_
 ·rcases r6 with⟨rfl,_⟩|⟨_,_,_,_,_,_,rfl,_⟩ <;> rfl
 have u6:=Z.since (A.trans C);refine fo f rfl rfl (by simp only[Oe,cY,u6.v.one,u6.b.one,u6.s.one,aF.one,aG.one,r6.one];rfl) λh7 H7 s7=>?_;refine Su g ⟨λv b k p=>?_,D⟩ H7 (u6.since s7) (aG.since s7) (aF.since s7) (r6.since s7) ((((r9.since J).since ao).since C).since s7) λF8 h8 s8 H8=>H F8 h8 (((A.trans C).trans s7).trans s8) H8;refine P1.yes v b k p (.inl ?_);obtain⟨B,r,_⟩:=p;exact(gL.1 r).1
end
