/- Parts. -/
import Derived.Test.YtbdcpiokodljaaaGreatDoorM39
import Derived.Test.YtbdcpiokodljaaaGreatDoorM30
set_option maxHeartbeats 4000000
namespace Go.Proofs.YtbdcpiokodljaaaGreatDoor.Hx
open Un Dm
theorem Ts{w:Bool}{X:Option V}{K:V->Prop}(h:K .undef):oP (fu w .undef) λb=>oP (gV b X) K:=by cases w <;> exact h
theorem zfV{w:Bool}{C:fk}{f:Nat}{a:List V}{h:Hp}{K:fo}(H:K .undef h):oP (fu w .undef) λb=>oP (gC b (some (f,a))) λy=>qN C y h K:=by cases w <;> exact H
theorem TN{t:Nat}{k:IntKind}{a b:Int}(h:¬b<a):en .gtr t (.int k a) (.int k b)=some (.bool false):=by simp_all
theorem zcU{t:Nat}{k:IntKind}{a b:Int}(h:¬a<b):en .lss t (.int k a) (.int k b)=some (.bool false):=by simp_all
theorem Y1{t:Nat}{k:IntKind}{a b:Int}(h:a=b):en .neq t (.int k a) (.int k b)=some (.bool false):=by simp_all
theorem QQ{t:Nat}{k:IntKind}{a b:Int}(h:a=b):en .eql t (.int k a) (.int k b)=some (.bool true):=by simp_all
theorem ND{t:Nat}{k:IntKind}{a b:Int}(h:a≠b):en .eql t (.int k a) (.int k b)=some (.bool false):=by simp_all
section
variable{F F':Nat->Prop}{h h':Hp}{cs:List Pc}{Q:fo}{u:U}{vv vb vs:V}
theorem zc5{u:U}(g:Good u)(b:Nat):(pre u b).length<=u.ef.length:=jA _ _ (Is g b) λv hv=>by
 obtain⟨c,k,a,_⟩:=KC.1 hv;exact g.jW _ _ _ a
theorem zab(g:Good u)(H0:ej F h cs)(hu:zQ F h u vv vb vs)(H:∀F' h',Sn F h F' h'->ej F' h' cs->Q (.bool true) h'):cP CS mY [.agg (uC u vv vb vs)] h Q:=by
 refine Fl rfl rfl ?_;unfold wU;have nv:=g.nv;have nb:=g.nb;have L2:=g.L2;have ns:=g.ns;refine jM H0 hu.one λr C M=>?_;generalize h.next=lu at*;have u1:=hu.since M;have k3:ez (.ptr lu (0+3)) r=some vb:=C.ld 0 rfl rfl;have J:ez (.ptr lu (0+4)) r=some vs:=C.ld 0 rfl rfl;refine oF (C.ld 0 rfl rfl) (ed u1.v.len (ed (TN (by omega)) ?_));refine mZ (by simp only[fe,fS,k3,u1.b.len];grind[TN]) ?_;refine mZ (by simp only[fe,fS,k3,u1.b.len];grind[zcU]) ?_;refine mZ (by simp only[fe,fS,J,u1.s.len];grind[TN]) (iJ (fU (by simp) ?_));clear k3 J;refine BE (λk l h'=>∃(F':Nat->Prop) (i:Nat),l=[.ptr lu 0,.I i]/\i+k=u.eh.length/\Sn F h F' h'/\ej F' h' (ey lu 30 (uC u vv vb vs)::cs)) ?_ (k:=u.eh.length) (by grind);clear C u1 M r;rintro k _ _ r ⟨F1,i,⟨⟩,hk,M,C⟩;unfold sB;have u1:=hu.since M;have R:ez (.ptr lu (0+2)) r=some vv:=C.ld 0 rfl rfl;have J:ez (.ptr lu (0+4)) r=some vs:=C.ld 0 rfl rfl;refine oF J (ed u1.s.len ?_);by_cases hi:i<u.eh.length
 ·refine gy ?_;have ag:=hO hi;generalize u.eh[i]=fs at*;obtain⟨q1,q2,q3⟩:=g.st i fs ag;obtain⟨l1,o1,f,_,S,x2,x3,xf⟩:=u1.st ag;have x3:ez (.ptr l1 (o1+0)) r=some f:=x3;refine oF J (ed S (oF x3 (ed xf.len (ed (zcU (by omega)) ?_))));refine mZ (by simp only[fe,fS,J,S,x3,xf.len];grind[TN]) (iJ (fU (by simp) ?_));refine BN (λk l h'=>∃j:Nat,l=[.ptr lu 0,.I i,.I (j:Nat)]/\j+k=fs.length/\h' = r) ?_ (k:=fs.length) (by simp_all);rintro k1 _ _ _ _ ⟨j,⟨⟩,bI,rfl⟩;unfold tF;refine oF J (ed S (oF x3 (ed xf.len ?_)));by_cases hj:j<fs.length
  ·refine gy ?_;have hf:=hO hj;obtain⟨r1,r2,_⟩:=q3 _ (AU hj);generalize fs[j]=x at*;obtain⟨l2,o2,a,b,_,L,N,y3,ya,yb⟩:=xf.zfJ hf;refine oF J (ed S (oF x3 (ed L (oF N (ed ya.len (ed (TN (by omega)) ?_))))));refine mZ (by simp only[fe,fS,J,S,x3,L,y3,yb.len];grind[TN]) (iJ (fU (by simp) ?_));exact fI ⟨k1-1,by omega,j+1,rfl,by omega,rfl⟩
  ·refine iI ?_;refine oF J (ed S (ed x2 ?_));refine PC C xf (by simp_all) λF2 d fv O o r2=>?_;have bJ:=EW (fs:=fs) (HZ g i fs ag).2;have ah:=M.trans O;have u2:=u1.since O;have R:ez (.ptr lu (0+2)) d=some vv:=o.ld 0 rfl rfl;refine BV (λk l h'=>∃j:Nat,l=[.ptr lu 0,.I i,fv,.I (j:Nat)]/\j+k=(iq fs).length/\h' = d) ?_ (k:=(iq fs).length) (by simp_all);rintro T _ _ _ _ _ ⟨j,⟨⟩,ay,rfl⟩;unfold ua;refine ed r2.len ?_;by_cases hj:j<(iq fs).length
   ·refine gy ?_;have hx:=hO hj;obtain⟨x,D,U⟩:oJ u (iq fs)[j]:=by
     grind[AU,iq]
    generalize (iq fs)[j]=w at*;have ai:=(kj.1 D).1;obtain⟨l3,o3,_,L,N⟩:=r2.nat hx .i64;obtain⟨l4,o4,_,_,z1,_,_,z2⟩:=u2.val D;refine ed L (ed N (oF R (ed u2.v.len (Mx ai ⟨ju _,?_⟩))));refine ed rfl (fx (ed pf (fx (ed R (fx (ed rfl (fx (ed rfl (fx (ed L (fx (ed N (fx (ed z1 (fx (ed pf (fx (ed z2.op (pY (Ui ?_))))))))))))))))))));rw[U];refine⟨ju _,ed rfl (iJ (fU (by simp) ?_))⟩;exact fI ⟨T-1,by omega,j+1,rfl,by omega,rfl⟩
   ·refine iI ?_;exact fI ⟨k-1,by omega,F2,i+1,rfl,by omega,ah,o⟩
 refine iI ?_;clear hk hi k i R J;refine B9 (λk l h'=>∃(F':Nat->Prop) (i:Nat),l=[.ptr lu 0,.I i]/\i+k=u.ef.length/\Sn F h F' h'/\ej F' h' (ey lu 30 (uC u vv vb vs)::cs)) ?_ (k:=u.ef.length) (by grind);clear C u1 M r F1;rintro k _ _ r ⟨F1,i,⟨⟩,hk,M,C⟩;unfold tk;have u1:=hu.since M;refine oF (C.ld 0 rfl rfl) (ed u1.v.len ?_);by_cases hi:i<u.ef.length
 ·refine gy ?_;have hx:=hO hi;generalize u.ef[i]=x at*;obtain⟨l1,o1,w,_,S,x2,xw,_⟩:=u1.val hx;refine oF (C.ld 0 rfl rfl) (ed S (ed x2 ?_));refine gW C rfl rfl (by simp only[mW,eo,xw.one];rfl) λd o O=>?_;generalize r.next=lx at*;have u2:=u1.since O;have w2:=xw.since O;have z0:ez (.ptr lx (0+0)) d=some (.I x.op):=o.ld 0 rfl rfl;have z3:ez (.ptr lx (0+3)) d=some (.I x.n):=o.ld 0 rfl rfl;have z4:ez (.ptr lx (0+4)) d=some w:=o.ld 0 rfl rfl;have z5:ez (.ptr lx (0+5)) d=some (.I x.state):=o.ld 0 rfl rfl;have J:ez (.ptr lu (0+4)) d=some vs:=o.ld 1 rfl rfl;obtain⟨bK,bL⟩:=g.op i x hx;refine oF z0 (ed (zcU (by omega)) ?_);refine mZ (by grind[fe,fS,TN]) ?_;refine mZ ?_ ?_
  ·simp only[fe,fS,z0];by_cases c:x.op=20
   ·rw[QQ (by omega)];simp only[fe,mA,z4,w2.len];exact Y1 (by rw[g.putAt i x hx c];rfl)
   ·rw[ND (by omega)];rfl
  refine fx (ed pf (fx (ed z0 ?_)));have kA:oP (nt (.bool false) (oB (fF 0 (V.ptr lx 0)) λaA=>oB (ez aA d) λaB=>oB (en .eql 3 aB (V.I 1)) λaC=>oB (some aC) λaD=>jX aD (oB (fF 3 (V.ptr lx 0)) λaE=>oB (ez aE d) λaF=>en .gtr 2 aF (V.I 1073741824)))) λv=>v = .bool false:=by
   refine mZ ?_ rfl;simp only[fe,fS,z0];by_cases c:x.op=1
   ·rw[QQ (by omega)];simp only[fe,mA,z3];obtain⟨n1,n2,_⟩:=g.param i x hx c
    grind[TN]
   ·rw[ND (by omega)];rfl
  obtain⟨vA,eA,rfl⟩:=lK.1 kA
  have ae:∀K:fo,K (.bool false) d->oP (fu false (V.bool false)) λaj=>oP (gV aj (fF 0 (V.ptr lx 0))) λaG=>oP (fu false (V.bool false)) λa8=>oP (gV a8 (ez aG d)) λaH=>oP (fu false (V.bool false)) λa9=>oP (gV a9 (en .eql 3 aH (V.I 22))) λaI=>
    oP (fu false (V.bool false)) λba=>oP (gV ba (some aI)) λP=>oP (fu false P) λbb=>oP (gV bb (fF 0 (V.ptr lx 0))) λaJ=>oP (fu false P) λbc=>oP (gV bc (ez aJ d)) λaK=>oP (fu false P) λbd=>oP (gV bd (en .eql 3 aK (V.I 23))) λaL=>
    oP (fu false (V.bool false)) λbe=>oP (gV be (jw P (V.bool true) aL)) λaM=>oP (fu false (V.bool false)) λbf=>oP (gV bf (some aM)) λp=>oP (fu true p) λak=>oP (gV ak (fF 5 (V.ptr lx 0))) λW=>oP (fu true p) λal=>oP (gV al (ez W d)) λX=>
    oP (fu true p) λam=>oP (gV am (fF 4 (V.ptr lu 0))) λY=>oP (fu true p) λan=>oP (gV an (ez Y d)) λZ=>oP (fu true p) λao=>oP (gV ao (fD Z)) λaa=>oP (fu true p) λap=>oP (gC ap (some (gM,[X,aa]))) λaq=>qN CS aq d λab h4=>
    oP (fu true p) λar=>oP (gV ar (pA .not ab)) λac=>oP (nt (V.bool false) (jw p ac (V.bool false))) λA=>K A h4:=λK HK=>by
   refine fx (ed pf (fx (ed z0 (fx (ed (gO ..) (fx (ed rfl ?_)))))))
   have fin:∀c:Bool,c=leaves x.op->oP (fu true (V.bool c)) λak=>oP (gV ak (fF 5 (V.ptr lx 0))) λW=>oP (fu true (V.bool c)) λal=>oP (gV al (ez W d)) λX=>
     oP (fu true (V.bool c)) λam=>oP (gV am (fF 4 (V.ptr lu 0))) λY=>oP (fu true (V.bool c)) λan=>oP (gV an (ez Y d)) λZ=>oP (fu true (V.bool c)) λao=>oP (gV ao (fD Z)) λaa=>oP (fu true (V.bool c)) λap=>oP (gC ap (some (gM,[X,aa]))) λaq=>qN CS aq d λab h4=>
     oP (fu true (V.bool c)) λar=>oP (gV ar (pA .not ab)) λac=>oP (nt (V.bool false) (jw (V.bool c) ac (V.bool false))) λA=>K A h4:=λc hc=>by
    cases c with
    |true=>exact fV (ed pf (fV (ed z5 (fV (ed pf (fV (ed J (fV (ed u2.s.len (vI (Mx (g.leave i x hx hc.symm) (fV (ed rfl (ed rfl HK))))))))))))))
    |false=>exact ik (ik (ik (ik (ik (GY (ik (ed rfl HK)))))))
   by_cases c:x.op=22
   ·rw[show((x.op:Int) == 22)=true by simp[c]];exact PB (PB (PB (fx (ed rfl (fx (ed rfl (fin true (by rw[c];rfl))))))))
   ·rw[show((x.op:Int) == 22)=false by grind];refine fx (ed pf (fx (ed z0 (fx (ed (gO ..) (fx (ed rfl (fx (ed rfl (fin _ ?_))))))))))
    grind[Int,ieq,leaves,Uf]
  have tl:lE CS Q [V.ptr lu 0,.I ((i+1:Nat):Int)] d=lE CS Q [V.ptr lu 0,.I ((i+1:Nat):Int)] d:=rfl;clear tl;have last:oP (fX 6 (V.ptr lx 0) d) λaN=>cP CS j7 [aN] d λaO h5=>oA CS Q (BY (λk l h'=>∃(F':Nat->Prop) (i:Nat),l=[.ptr lu 0,.I i]/\i+k=u.ef.length/\Sn F h F' h'/\ej F' h' (ey lu 30 (uC u vv vb vs)::cs)) k) [.ptr lu 0,.I i,aO,(V.I 0)] h5:=by
   refine ed (o.tK 0 rfl rfl) ?_;refine OH o w2 λF3 h3 uv s3 H3 r3=>?_;have u3:=u2.since s3;have R:ez (.ptr lu (0+2)) h3=some vv:=H3.ld 1 rfl rfl;have bQ:=J0 λh=>PM g hx h;refine BG (λk l h'=>∃j:Nat,l=[.ptr lu 0,.I i,uv,.I (j:Nat)]/\j+k=(iP x).length/\h' = h3) ?_ (k:=(iP x).length) (by simp_all);rintro T _ _ _ _ _ ⟨j,⟨⟩,ay,rfl⟩;unfold tB;refine ed r3.len ?_;by_cases hj:j<(iP x).length
   ·refine gy ?_;have hw:=hO hj;obtain⟨y,D,U⟩:oJ u (iP x)[j]:=g.use i x hx _ (AU hj);generalize (iP x)[j]=w at*;have ai:=(kj.1 D).1;obtain⟨l3,o3,_,L,N⟩:=r3.nat hw .i64;obtain⟨l4,o4,_,_,z1,_,_,z2⟩:=u3.val D;refine ed L (ed N (oF R (ed u3.v.len (Mx ai ⟨ju _,?_⟩))));refine ed rfl (fx (ed pf (fx (ed R (fx (ed rfl (fx (ed rfl (fx (ed L (fx (ed N (fx (ed z1 (fx (ed pf (fx (ed z2.op (pY (Ui ?_))))))))))))))))))));rw[U];refine⟨ju _,ed rfl (iJ (fU (by simp) ?_))⟩;exact fI ⟨T-1,by omega,j+1,rfl,by omega,rfl⟩
   ·refine iI ?_;exact fI ⟨k-1,by omega,F3,i+1,rfl,by omega,(M.trans O).trans s3,H3.tail⟩
  by_cases c1:x.op=1
  ·obtain⟨n1,n2,_⟩:=g.param i x hx c1;obtain⟨m,hm⟩:=wBG n1;rw[hm]at z3;refine fx (ed (QQ (by omega)) (fx (ed rfl (fV (ed pf (fV (ed z3 (vI (Mx (n:=40) (by omega) (fV (ed rfl (ed rfl (ed eA ?_)))))))))))));exact ae (λA h4=>bP A _ _) (iJ (fU (by simp) last))
  ·refine fx (ed (ND (by omega)) (fx (ed rfl (ik (ik (GY (ik (ed rfl (ed eA ?_)))))))));exact ae (λA h4=>bP A _ _) (iJ (fU (by simp) last))
 refine iI ?_;clear hk hi k i;refine oF (C.ld 0 rfl rfl) (ed u1.v.len ?_);rw[kW (z:=V.bool false) rfl (by decide) (by omega),fE];obtain⟨o,O⟩:=C.make (E:=eB) (ty:=kr) (y:=false) (u:=V.bool false) u.ef.length rfl rfl;generalize r.new (.cells kr 1 true false (List.replicate u.ef.length (V.bool false)))=d at*;generalize r.next=lk at*;obtain⟨I,hI⟩:∃I:Nat->LP,I=λ(k:Nat) l h'=>∃(i:Nat) (seen:List Bool),l=[.ptr lu 0,.slice lk 0 u.ef.length,.I ((pre u i).length:Nat),.I i]/\i+k=u.blocks.length/\Sn F h F1 h'/\seen.length=u.ef.length/\(∀v:Nat,seen[v]? =some true↔v∈pre u i)/\ej F1 h' (eJ eB kr seen (.slice lk 0 u.ef.length)::ey lu 30 (uC u vv vb vs)::cs):=⟨_,rfl⟩
 refine Cl I (λk S x2 x3 x4 h6 hi=>?_) (k:=u.blocks.length) ?_;rotate_left
 ·rw[hI];refine⟨0,_,rfl,by omega,M.trans O,Xh,λv=>?_,o⟩;constructor
  ·intro h;rw[wBz]at h;split at h <;> cases h
  ·intro h;simp[pre]at h
 clear o O C u1 M d;clear r;revert h6 hi;intro r hi;rw[hI]at hi;obtain⟨i,seen,⟨⟩,hk,M,oV,bg,C⟩:=hi;unfold sW;have u1:=hu.since M;have bR:=zc5 g i;refine oF (C.ld 1 rfl rfl) (ed u1.b.len ?_);by_cases hi:i<u.blocks.length;rotate_left
 ·refine iI ?_;obtain rfl:i=u.blocks.length:=by omega
  rw[MT g];exact oF (C.ld 1 rfl rfl) (ed u1.v.len (ed (QQ rfl) (H F1 r M C.tail.tail)))
 refine gy ?_;have hB:=hO hi;generalize u.blocks[i]=B at*;obtain⟨l1,o1,bv,bn,bp,_,S,x2,iv,iN,ip,_⟩:=u1.nV hB;refine oF (C.ld 1 rfl rfl) (ed S (ed x2 ?_));refine gW C rfl rfl (by simp only[lB,eo,iv.one,iN.one,ip.one];rfl) λd o O=>?_;generalize r.next=lx at*;have o:ej F1 d (ey lx 43 (lB B bv bn bp)::_):=o;have u2:=u1.since O;have ah:=M.trans O;have bh:=iv.since O;have aP:=iN.since O
 have au:∀n:Nat,B.next.length=n->jI CS Q (BY I k)
   [.ptr lu 0,.slice lk 0 u.ef.length,.I ((pre u i).length:Nat),.I i,.ptr lx 0,.I (n:Nat)] d:=λn hn=>by
  refine Bt ?_;unfold ru;have z1:ez (.ptr lx (0+1)) d=some (.I B.fin):=o.ld 0 rfl rfl;have z2:ez (.ptr lx (0+2)) d=some (.I B.cond):=o.ld 0 rfl rfl;have z5:ez (.ptr lx (0+5)) d=some (.I B.state):=o.ld 0 rfl rfl;have R:ez (.ptr lu (0+2)) d=some vv:=o.ld 2 rfl rfl;have J:ez (.ptr lu (0+4)) d=some vs:=o.ld 2 rfl rfl;have last:nY CS Q (BY I k) [.ptr lu 0,.slice lk 0 u.ef.length,.I ((pre u i).length:Nat),.I i,.ptr lx 0,.I n,.I 0] d:=by
   refine BT (λk l h'=>∃j:Nat,l=[.ptr lu 0,.slice lk 0 u.ef.length,.I ((pre u i).length:Nat),.I i,.ptr lx 0,.I n,.I (j:Nat)]/\j+k=n/\h' = d) ?_ (k:=n) ⟨0,rfl,by omega,rfl⟩;rintro T _ _ _ _ _ _ _ d ⟨j,⟨⟩,ay,rfl⟩;unfold tY;by_cases hj:j<n
   ·refine gy ?_;have ht:=hO (show j<B.next.length by omega);have bi:B.next[j]<u.blocks.length:=g.nx i _ (by unfold next;rw[hB];exact AU (show j<B.next.length by omega));generalize B.next[j]=t at*;obtain⟨l3,o3,_,L,N⟩:=aP.nat ht .i64;refine oF (o.ld 0 rfl rfl) (ed L (ed N (oF (o.ld 2 rfl rfl) (ed u2.b.len (Mx bi ⟨ju _,?_⟩)))));refine xM (gj rfl ?_);exact lT (m:=1) (by have:=AT g hB;omega) (by omega) ⟨T-1,by omega,j+1,rfl,by omega,rfl⟩
   refine iI ?_;clear z1 z2 z5 R J
   refine BF (λk l h'=>∃(j:Nat) (seen:List Bool),l=[.ptr lu 0,.slice lk 0 u.ef.length,.I ((pre u i).length+j:Nat),.I i,.ptr lx 0,.I j]/\j+k=B.ef.length/\Sn F h F1 h'/\Sn F1 d F1 h'/\seen.length=u.ef.length/\(∀v:Nat,seen[v]? =some true↔v∈pre u i++B.ef.take j)/\ej F1 h' (ey lx 43 (lB B bv bn bp)::eJ eB kr seen (.slice lk 0 u.ef.length)::ey lu 30 (uC u vv vb vs)::cs)) ?_ (k:=B.ef.length)
    ⟨0,seen,rfl,by omega,ah,Sn.refl _ _,oV,λv=>by rw[bg v,wB8,JY],o⟩
   rintro k3 _ _ _ _ _ _ h3 ⟨j,sn,⟨⟩,bS,s3,aQ,aR,aw,H3⟩;unfold sx;have aS:=bh.since aQ;have u3:=hu.since s3;have bU:=AN g hB;refine oF (H3.ld 0 rfl rfl) (ed aS.len ?_);by_cases hj:j<B.ef.length
   ·refine gy ?_;have hv:=hO hj;have bj:=OX hj;generalize B.ef[j]=v at*;have ax:At u v i j:=⟨B,hB,hv⟩
    have bm:=g.jW v i j ax;obtain⟨l3,o3,_,L,N⟩:=aS.nat hv .i64;have aT:v ∉ pre u i++B.ef.take j:=λhm=>by
     rcases JT.1 hm with r|r
     ·obtain⟨c,m,d,h3⟩:=KC.1 r;have:=(g.KZ _ _ _ _ _ d ax).1;omega
     ·obtain⟨m,hm⟩:=nT.1 r;rw[List.getElem?_take]at hm;split at hm
      ·have:=(g.KZ _ _ _ _ _ ⟨B,hB,hm⟩ ax).2;omega
      ·cases hm
    have bo:sn[v]? =some false:=by
     have r:=hO (show v<sn.length by omega);have d:=aw v
     cases e:sn[v]with
     |true=>rw[r,e]at d;exact absurd (d.1 rfl) aT
     |false=>rw[r,e]
    obtain⟨l4,o4,w1,w2⟩:=H3.Mr 1 rfl bo .i64;have z0:ez (.ptr lx (0+0)) h3=some bv:=H3.ld 0 rfl rfl;refine oF z0 (ed L (ed N (oF (H3.ld 2 rfl rfl) (ed u3.v.len (Mx bm ⟨ju _,?_⟩)))));refine ed rfl (mZ (by simp only[fe,fS,z0,L,N,w1,w2]) (iJ (fU (by simp) ?_)));obtain⟨l5,o5,h4,e1,e2,_,H4,s4⟩:=H3.JZ 1 rfl (k:=v) (y:=true) (u:=V.bool true) (by omega) rfl rfl rfl;refine oF z0 (ed L (ed N (ed e1 ?_)));rw[e2,ei];simp only[mP,rV]at H4;refine fI (fI ⟨k3-1,by omega,j+1,_,rfl,by omega,s3.trans s4,aQ.trans s4,by rw[MC];exact aR,λx=>?_,H4⟩);rw[bj,<-M6,JT,<-aw x,wBX];by_cases e:x=v
    ·subst e;rw[Qd (by omega)];exact⟨λ_=> .inr rfl,λ_=>rfl⟩
    ·rw[K6 λh=>e h.symm];exact⟨.inl,λh=>h.elim id λh=>absurd h e⟩
   ·refine iI ?_;obtain rfl:j=B.ef.length:=by omega
    refine fI ⟨k-1,by omega,?_⟩;rw[hI];refine⟨i+1,sn,?_,by omega,s3,aR,λv=>?_,H3.tail⟩
    ·rw[GN hB,K8]
    ·rw[aw v,Lp,GN hB]
  have c3:∀K:fo,K (.bool false) d->oP (fu false (V.bool false)) λbr=>oP (gV br (fF 1 (V.ptr lx 0))) λaU=>oP (fu false (V.bool false)) λbt=>oP (gV bt (ez aU d)) λaV=>oP (fu false (V.bool false)) λbu=>oP (gV bu (en .eql 3 aV (V.I 3))) λaW=>oP (fu false (V.bool false)) λbw=>oP (gV bw (some aW)) λq=>
    oP (fu true q) λbx=>oP (gV bx (fF 5 (V.ptr lx 0))) λaX=>oP (fu true q) λbz=>oP (gV bz (ez aX d)) λaY=>oP (fu true q) λbA=>oP (gV bA (fF 4 (V.ptr lu 0))) λaZ=>oP (fu true q) λbC=>oP (gV bC (ez aZ d)) λa4=>oP (fu true q) λbD=>oP (gV bD (fD a4)) λa5=>
    oP (fu true q) λbE=>oP (gC bE (some (gM,[aY,a5]))) λbG=>qN CS bG d λa6 h3=>oP (fu true q) λaj=>oP (gV aj (pA .not a6)) λa7=>oP (nt (V.bool false) (jw q a7 (V.bool false))) λG=>K G h3:=λK HK=>by
   refine fx (ed pf (fx (ed z1 ?_)));by_cases c:B.fin=3
   ·refine fx (ed (QQ (by omega)) (fx (ed rfl ?_)));have hs:B.state<u.eh.length:=by
     rcases g.fin i B hB with⟨e,_⟩|⟨e,_⟩|⟨_,_,e⟩
     ·omega
     ·omega
     ·exact e
    exact fV (ed pf (fV (ed z5 (fV (ed pf (fV (ed J (fV (ed u2.s.len (vI (Mx hs (fV (ed rfl (ed rfl HK))))))))))))))
   ·exact fx (ed (ND (by omega)) (fx (ed rfl (ik (ik (ik (ik (ik (GY (ik (ed rfl HK)))))))))))
  refine oF (o.ld 0 rfl rfl) (ed aP.len (ed (Y1 (by omega)) (fx (ed pf (fx (ed z1 ?_))))));by_cases c:B.fin=2
  ·obtain ⟨y,D,U⟩:oJ u B.cond:=by
    rcases g.fin i B hB with⟨e,_⟩|⟨_,_,e⟩|⟨e,_⟩
    ·omega
    ·exact e
    ·omega
   have bH:=(kj.1 D).1;obtain⟨l4,o4,_,_,L,_,_,N⟩:=u2.val D;refine fx (ed (QQ (by omega)) (fx (ed rfl ?_)));refine fV (ed pf (fV (ed z2 (fV (ed pf (fV (ed R (fV (ed u2.v.len (vI (Mx bH ?_)))))))))));refine fV (ed rfl (fV (ed rfl ?_)));refine fx (ed pf (fx (ed R (fx (ed pf (fx (ed z2 (fx (ed L (fx (ed pf (fx (ed N.op (pY (Ui ?_)))))))))))))));rw[U];refine fx (ed rfl (fV (ed rfl (ed rfl ?_))));exact c3 (λG h3=>bP G _ _) (iJ (fU (by simp) last))
  ·refine fx (ed (ND (by omega)) (fx (ed rfl ?_)));refine ik (ik (ik (ik (ik (GY (ik (ik ?_)))))));refine Ts (Ts (Ts (Ts (Ts (Ts (Ts (zfV (Ts (ik (ed rfl ?_))))))))));exact c3 (λG h3=>bP G _ _) (iJ (fU (by simp) last))
 have z1:ez (.ptr lx (0+1)) d=some (.I B.fin):=o.ld 0 rfl rfl;refine oF z1 (fZ ?_);rcases g.fin i B hB with⟨f1,f2⟩|⟨f1,f2,_⟩|⟨f1,f2,_⟩
 ·exact gj (by omega) (au 1 f2)
 ·exact fU (by omega) (fZ (gj (by omega) (au 2 f2)))
 ·exact fU (by omega) (fZ (fU (by omega) (fZ (gj (by omega) (au 0 (by rw[f2];rfl))))))
end
open Un Dm
section
variable{F F':Nat->Prop}{h h':Hp}{cs:List Pc}{Q:fo}{u:U}{vv vb vs:V}
theorem YO(g:Good u){w b:Nat}(h:rX u w b):∃c j,At u w c j/\(c=b/\j<1073741824\/c≠b/\qM (next u) c b):=by
 obtain⟨c,j,a,d⟩:=h;refine⟨c,j,a,?_⟩;by_cases e:c=b
 ·obtain⟨B,f,i⟩:=a
  grind[AN,kj]
 simp_all
structure PlR (u:U) (i j:Nat) (nV IV:List Nat):Prop where
 nb:nV.length=u.ef.length
 np:IV.length=u.ef.length
 yes:∀(v c m:Nat),At u v c m->(c<i\/(c=i/\m<j))->nV[v]? =some c/\IV[v]? =some m
theorem PlR.step(g:Good u){i j v:Nat}{nV IV:List Nat}(S:PlR u i j nV IV)(hv:At u v i j):PlR u i (j+1) (nV.set v i) (IV.set v j):=by
 have a:=g.jW _ _ _ hv;refine⟨by rw[MC];exact S.nb,by rw[MC];exact S.np,λw c m b hc=>?_⟩;by_cases e:w=v
 ·subst e;obtain⟨rfl,rfl⟩:=g.KZ _ _ _ _ _ b hv;rw[Qd (by rw[S.nb];exact a),Qd (by rw[S.np];exact a)]
  simp_all
 ·rw [K6 (by omega),K6 (by omega)];refine S.yes w c m b ?_;rcases hc with hc|⟨rfl,hc⟩
  ·omega
  ·refine .inr ⟨rfl,?_⟩;by_cases d:m=j
   ·subst d;obtain⟨B,h,k⟩:=b;obtain⟨l,f,n⟩:=hv
    simp_all
   ·omega
theorem PlR.next{i:Nat}{B:Bk}{nV IV:List Nat}(b:u.blocks[i]? =some B)(S:PlR u i B.ef.length nV IV):PlR u (i+1) 0 nV IV:=by
 refine⟨S.nb,S.np,λv c m hv hc=>S.yes v c m hv ?_⟩;rcases hc with hc|⟨_,hc⟩
 ·by_cases e:c=i
  ·subst e;obtain⟨d,a,f⟩:=hv
   grind
  omega
 ·omega
theorem ZK(g:Good u){Y8:List (List Nat)}(a:Y8.length=u.blocks.length)(c:∀b:Nat,b<u.blocks.length->Y8[b]? =some (Un.next u b)):Nxs u.blocks.length (Un.next u) Y8:=by
 refine⟨g.L2,g.nb,a,c,λb e=>?_,λb _ t d=>g.nx b t d⟩
 grind[hO,Un.next,next,AT]
theorem UL(g:Good u){b k v:Nat}{x:Vl}{B:Bk}(c:u.blocks[b]? =some B)(a:At u v b k)(d:u.ef[v]? =some x)(e:ir x.op=true):∀(j w:Nat)(y:Vl),j<k->B.ef[j]? =some w->u.ef[w]? =some y->ir y.op=true:=
 λj w y i f h=>Rp g a d e ⟨B,c,f⟩ h (by omega)
theorem zdq:(eL eN).rel F h [] [.ee]:=⟨.ee,rfl,.nil⟩
theorem zbO{len n l o m:Nat}{kd:IntKind}(a:m<len):zdX len n (.ptr l o) (.int kd (m:Nat))=some (.ptr l (o+m*n)):=by
 show bB (Nat.blt m len) _=_
 grind[nj,Q8]
theorem XI(op:Nat):(((op:Int) == 21) ||((op:Int) == 1))=ir op:=by
 grind[ir,Int,ieq,Bool.or_comm]
theorem zaX{nV IV:List Nat}{O0:List (List Bool)}{wb wp wd pv:V}{lu lo To:Nat}(g:Good u)(o:zdh u nV IV O0)(H0:ej F h (ey lo To (WG u vv vb vs wb wp wd)::ey lu 30 (uC u vv vb vs)::cs))(hu:zQ F h u vv vb vs)
  (W:ie eN F h nV wb) (hp:ie eN F h IV wp) (X:ie (eL eB) F h O0 wd) (r:ie (eL eN) F h ((List.range u.blocks.length).map (Un.ahead u)) pv) (H:∀F' h',Sn F h F' h'->ej F' h' cs->Q (.bool true) h') :
  ot CS Q [.ptr lu 0,pv,.ptr lo 0,.I 0] h:=by
 have nv:=g.nv;have nb:=g.nb;have ai:∀b:Nat,b<u.blocks.length->((List.range u.blocks.length).map (Un.ahead u))[b]? =some (Un.ahead u b):=by simp_all
 obtain⟨I,hI⟩:∃I:Nat->LP,I=λk l h'=>∃(F':Nat->Prop) (i:Nat),l=[.ptr lu 0,pv,.ptr lo 0,.I i]/\i+k=u.blocks.length/\Sn F h F' h'/\ej F' h' (ey lo To (WG u vv vb vs wb wp wd)::ey lu 30 (uC u vv vb vs)::cs):=⟨_,rfl⟩
 refine Cf I (λk x1 x3 x4 x5 h1 hi=>?_) (k:=u.blocks.length) ?_;rotate_left
 ·rw[hI];exact⟨F,0,rfl,by omega,Sn.refl _ _,H0⟩
 rw[hI]at hi;obtain⟨F1,i,⟨⟩,hk,s1,Y⟩:=hi;unfold tR;refine oF (Y.ld 1 rfl rfl) (ed (hu.since s1).b.len ?_);by_cases hi:i<u.blocks.length;rotate_left
 ·exact iI (H F1 h1 s1 Y.tail.tail)
 refine gy ?_;have K:=hO hi;generalize u.blocks[i]=B at*;obtain⟨l1,o1,bv,bn,bp,_,x1,x2,iv,iN,ip,_⟩:=(hu.since s1).nV K;refine oF (Y.ld 1 rfl rfl) (ed x1 (ed x2 ?_));refine gW Y rfl rfl (by simp only[lB,eo,iv.one,iN.one,ip.one];rfl) λh2 H2 s2=>?_;generalize h1.next=lx at*;have H2:ej F1 h2 (ey lx 43 (lB B bv bn bp)::_):=H2;have iv:=iv.since s2;have aj:=s1.trans s2;have Ez:∀{A d},Sn F h A d->ej A d (ey lx 43 (lB B bv bn bp)::ey lo To (WG u vv vb vs wb wp wd)::ey lu 30 (uC u vv vb vs)::cs)->oP (en .add 3 (V.I i) (V.I 1)) λZ=>BY I k [.ptr lu 0,pv,.ptr lo 0,Z] d:=λ{A d} f s=>by
  refine fI ⟨k-1,by omega,?_⟩;rw[hI];exact⟨A,i+1,rfl,by omega,f,s.tail⟩
 have au:=AN g K;obtain⟨I6,M⟩:∃I:Nat->LP,I=λk l h'=>∃(F':Nat->Prop) (m:Nat),l=[.ptr lu 0,pv,.ptr lo 0,.I i,.ptr lx 0,.I m]/\m+k=B.ef.length/\Sn F h F' h'/\Sn F1 h2 F' h'/\ej F' h' (ey lx 43 (lB B bv bn bp)::ey lo To (WG u vv vb vs wb wp wd)::ey lu 30 (uC u vv vb vs)::cs):=⟨_,rfl⟩
 refine B2 I6 (λk6 x1 x3 x4 x5 x6 x7 S aa=>?_) (k:=B.ef.length) ?_;rotate_left
 ·rw[M];exact⟨F1,0,rfl,by omega,aj,Sn.refl _ _,H2⟩
 rw[M]at aa;clear H2 Y;obtain⟨F3,m,⟨⟩,aw,C,ab,z⟩:=aa;unfold tC;have ac:=iv.since ab;refine oF (z.ld 0 rfl rfl) (ed ac.len ?_);have u3:=hu.since C;by_cases hm:m<B.ef.length
 ·refine gy ?_;have hv:=hO hm;generalize B.ef[m]=v at*;have D:At u v i m:=⟨B,K,hv⟩
  obtain⟨x,N⟩:∃x,u.ef[v]? =some x:=⟨_,hO (g.jW v i m D)⟩
  obtain⟨l4,o4,ak,y1,y2⟩:=ac.nat hv .i64;obtain⟨l5,o5,w,al,T,z2,xw,_⟩:=u3.val N;refine oF (z.ld 2 rfl rfl) (oF (z.ld 0 rfl rfl) (ed y1 (ed y2 (ed T (ed z2 ?_)))));rw[g0];obtain⟨H4,s4⟩:=z.zT 45 [V.I 0,V.I 0,V.I 0,V.I 0,V.ee,V.I 0];have g4:(S.new (.cells 45 1 true false [V.I 0,V.I 0,V.I 0,V.I 0,V.ee,V.I 0])).get S.next=some (.cells 45 1 true false [V.I 0,V.I 0,V.I 0,V.I 0,V.ee,V.I 0]):=fh _ _;generalize S.new (.cells 45 1 true false [V.I 0,V.I 0,V.I 0,V.I 0,V.ee,V.I 0])=h4 at*;refine⟨by simp_all,HO z2 (s4.fi _ al),iR y2 (s4.fi _ ak),H4.ld 1 rfl rfl,H4.ld 3 rfl rfl,?_⟩;obtain⟨h5,e5,n5,H5,s5⟩:=H4.stA 0 (ws:=mW x w) (n:=6) rfl rfl rfl (by simp only[mW,eo,xw.one];rfl);rw[e5,ei];simp only[mP]at H5;refine⟨n5,ed (H5.tK 0 rfl rfl) ?_⟩;generalize S.next=U at*;have O:=s4.trans s5;refine OH H5 (xw.since O) λF6 h6 uv s6 H6 r6=>?_;have ax:=J0 λh=>PM g N h;have am:=(C.trans O).trans s6;have an:=(ab.trans O).trans s6;clear H5 H4 e5 n5;obtain⟨I7,P⟩:∃I:Nat->LP,I=λk l h'=>∃(F':Nat->Prop) (j:Nat),l=[.ptr lu 0,pv,.ptr lo 0,.I i,.ptr lx 0,.I m,.ptr U 0,uv,.I j]/\j+k=(iP x).length/\Sn F h F' h'/\Sn F6 h6 F' h'/\ej F' h' (ey U 45 (mW x w)::ey lx 43 (lB B bv bn bp)::ey lo To (WG u vv vb vs wb wp wd)::ey lu 30 (uC u vv vb vs)::cs):=⟨_,rfl⟩
  refine B7 I7 (λk7 x1 x3 x4 x5 x6 x7 x8 x9 ay h7 ae=>?_) (k:=(iP x).length) ?_;rotate_left
  ·rw[P];exact⟨F6,0,rfl,by omega,am,Sn.refl _ _,H6⟩
  rw[P]at ae;clear H6;obtain⟨F7,j,⟨⟩,aA,t,R,L⟩:=ae;unfold tM;have r7:=r6.since R;refine ed r7.len ?_;have u7:=hu.since t;by_cases hj:j<(iP x).length
  ·refine gy ?_;have ha:=hO hj;have ao:=AU hj;generalize (iP x)[j]=a at*;obtain⟨l8,o8,_,q1,q2⟩:=r7.nat ha .i64;have ag:∀{d},Sn F7 h7 F7 d->ej F7 d (ey U 45 (mW x w)::ey lx 43 (lB B bv bn bp)::ey lo To (WG u vv vb vs wb wp wd)::ey lu 30 (uC u vv vb vs)::cs)->kT CS Q (BY I k) (BY I6 k6) (BY I7 k7) [.ptr lu 0,pv,.ptr lo 0,.I i,.ptr lx 0,.I m,.ptr U 0,uv,.I j] d:=λ{d} f s=>by
    refine Bc ?_;unfold rC;refine fI ⟨k7-1,by omega,?_⟩;rw[P];exact⟨F7,j+1,rfl,by omega,t.trans f,R.trans f,s⟩
   refine oF (L.ld 0 rfl rfl) (fZ ?_);by_cases c:x.op=21
   ·refine gj (by omega) ?_;obtain⟨_,aB⟩:=g.Dz v i m x B D N c K;have ap:iP x=x.args:=by unfold iP;rw[if_pos c]
    rw[ap]at ha hj;have y:∃p,B.eQ[j]? =some p:=by simp_all
    obtain ⟨p,y⟩:=y;obtain⟨ca,ja,E,G⟩:=YO g (g.DO v i m x B D N c K j a p ha y);have aq:p<u.blocks.length:=by
     have hm:=DQ y;rw[g.eQ i B K]at hm;obtain⟨q,B',h1,_,S⟩:=vM.1 hm;have:=(kj.1 h1).1;omega
    obtain⟨la,oa,wr,_,t1,t2,t3⟩:=(r.since t).list (ai i hi) .i64;rw[g.eQ i B K]at y;obtain⟨lc,oc,_,t4,t5⟩:=t3.nat y .i64;refine ed (L.tK 2 rfl rfl) (ed q1 (ed q2 (ed t1 (ed t2 (ed t4 (ed t5 ?_))))));refine Ip o L u7 (W.since t) (hp.since t) (X.since t) (k:=1073741824) E aq G λd f s=>?_;exact⟨f.next,xM (gj rfl (ag f s))⟩
   ·refine fU (by omega) ?_;obtain⟨ca,ja,E,G⟩:=g.DD v i m x D N c a ao;refine ed (L.tK 2 rfl rfl) (ed q1 (ed q2 ?_));refine Ip o L u7 (W.since t) (hp.since t) (X.since t) E hi G λd f s=>?_;exact⟨f.next,xM (gj rfl (ag f s))⟩
  refine iI ?_;have z0:ez (.ptr U (0+0)) h7=some (.I x.op):=L.ld 0 rfl rfl;refine oF z0 (ed (gO ..) (ed (a:= .bool (leaves x.op)) ?_ ?_))
  ·simp only[fe,fS,z0,gO,pK];unfold leaves
   grind[Int,ieq]
  have ar:∀{A d},Sn F7 h7 A d->ej A d (ey U 45 (mW x w)::ey lx 43 (lB B bv bn bp)::ey lo To (WG u vv vb vs wb wp wd)::ey lu 30 (uC u vv vb vs)::cs)->oP (en .add 3 (V.I m) (V.I 1)) λah=>BY I6 k6 [.ptr lu 0,pv,.ptr lo 0,.I i,.ptr lx 0,ah] d:=λ{A d} f s=>by
   refine fI ⟨k6-1,by omega,?_⟩;rw[M];exact⟨A,m+1,rfl,by omega,t.trans f,(an.trans R).trans f,s.tail⟩
  cases hl:leaves x.op with
  | true=>
    obtain⟨fs,J⟩:∃fs,u.eh[x.state]? =some fs:=⟨_,hO (g.leave v x N hl)⟩
    refine fV (ed (L.tK 2 rfl rfl) (fV (ed pf (fV (ed (L.ld 0 rfl rfl) (fV (ed rfl (fV (ed rfl (vI ?_))))))))));refine Qj o g L u7 (W.since t) (hp.since t) (X.since t) J hi (λw hw=>g.GW v i m x fs D N hl J w hw) λA d f s=>?_
    exact ed rfl (iJ (fU (by simp) (ar f s)))
  | false=>
    refine ik (ik (ik (ik (ik (GY ?_)))));exact ed rfl (iJ (fU (by simp) (by grind[Sn.refl])))
 refine iI ?_;have T:ez (.ptr lx (0+1)) S=some (.I B.fin):=z.ld 0 rfl rfl;refine oF T ?_;by_cases c2:B.fin=2
 ·obtain⟨ca,ja,E,G⟩:=YO g (g.El i B K c2);refine ed (by simp_all) (fV (ed (z.tK 1 rfl rfl) (fV (ed pf (fV (ed (z.ld 0 rfl rfl) (fV (ed rfl (vI ?_)))))))));refine Ip o z u3 (W.since C) (hp.since C) (X.since C) (k:=1073741824) E hi G λd f s=>?_;have T:ez (.ptr lx (0+1)) d=some (.I B.fin):=s.ld 0 rfl rfl;refine ed rfl (fx (ed pf (fx (ed T (fx (ed (ND (by omega)) (fx (ed rfl ?_))))))));refine ik (ik (ik (ik (GY (ik (ed rfl (iJ (fU (by simp) ?_))))))));exact Ez (C.trans f) s
 ·refine ed (ND (by omega)) (ik (ik (ik (ik (GY (ed rfl ?_))))));refine fx (ed pf (fx (ed T ?_)));by_cases c3:B.fin=3
  ·have hs:B.state<u.eh.length:=by
    rcases g.fin i B K with⟨e,_⟩|⟨e,_⟩|⟨_,_,e⟩
    ·omega
    ·omega
    ·exact e
   have J:=hO hs;generalize u.eh[B.state]=fs at*;refine fx (ed (QQ (by omega)) (fx (ed rfl ?_)));refine fV (ed (z.tK 1 rfl rfl) (fV (ed pf (fV (ed (z.ld 0 rfl rfl) (fV (ed rfl (vI ?_))))))));refine Qj o g z u3 (W.since C) (hp.since C) (X.since C) (k:=1073741824) J hi (λw hw=>YO g (g.Hc i B fs K c3 J w hw)) λA d f s=>?_;exact fV (ed rfl (ed rfl (iJ (fU (by simp) (Ez (C.trans f) s)))))
  ·refine fx (ed (ND (by omega)) (fx (ed rfl ?_)));exact ik (ik (ik (ik (GY (ik (ed rfl (iJ (fU (by simp) (Ez C z)))))))))
theorem T3(g:Good u)(H0:ej F h cs)(Z:zQ F h u vv vb vs)(H:∀F' h',Sn F h F' h'->ej F' h' cs->Q (.bool true) h'):cP CS m0 [.agg (uC u vv vb vs)] h Q:=by
 refine FG rfl rfl ?_;unfold xV;have nv:=g.nv;have nb:=g.nb;have L2:=g.L2;refine jM H0 Z.one λh1 H1 s1=>?_;generalize h.next=lu at*;refine ed (H1.tK 0 rfl rfl) (zab g H1 (Z.since s1) λF2 K s2 G=>?_);have ag:=s1.trans s2;refine xM (gj rfl (ed (G.tK 0 rfl rfl) (ZA g G (Z.since ag) λF3 h3 pv J q r3=>?_)));have ap:=ag.trans J;refine oF (q.ld 0 rfl rfl) (ed (Z.since ap).b.len ?_);rw[kW (z:=V.ee) rfl (by decide) (by omega),fE];obtain⟨U,s4⟩:=q.make (E:=eL eN) (ty:=js) (y:=[]) (u:= .ee) u.blocks.length zdq rfl;generalize h3.new (.cells js 1 true false (List.replicate u.blocks.length V.ee))=h4 at*;generalize h3.next=ln at*;have aa:∀b:Nat,b<u.blocks.length->((List.range u.blocks.length).map (Un.ahead u))[b]? =some (Un.ahead u b):=by simp_all
 obtain ⟨I,L⟩:∃I:Nat->LP,I=λk l h'=>∃(i:Nat) (Kg:List (List Nat)),l=[.ptr lu 0,pv,.slice ln 0 u.blocks.length,.I i]/\i+k=u.blocks.length/\Sn F3 h3 F3 h'/\Kg.length=u.blocks.length/\(∀j:Nat,j<i->Kg[j]? =some (Un.next u j))/\
   ej F3 h' (eJ (eL eN) js Kg (.slice ln 0 u.blocks.length)::ey lu 30 (uC u vv vb vs)::cs):=⟨_,rfl⟩
 refine B1 I (λk d x3 x4 x5 h5 hi=>?_) (k:=u.blocks.length) ?_;rotate_left
 ·grind
 rw[L]at hi;clear U s4 h4 G H1 s1 s2 ag;obtain⟨i,Kg,⟨⟩,hk,R,aH,aI,S⟩:=hi;unfold tG;have A:=ap.trans R;have u5:=Z.since A;refine oF (S.ld 1 rfl rfl) (ed u5.b.len ?_);by_cases hi:i<u.blocks.length
 ·refine gy ?_;have r:=hO hi;generalize u.blocks[i]=B at*;obtain⟨l1,o1,bv,bn,bp,_,d,x2,iv,iN,ip,xb⟩:=u5.nV r;refine oF (S.ld 1 rfl rfl) (ed d (oF xb.next ?_));obtain⟨l6,o6,h6,e1,e2,_,f,C⟩:=S.JZ 0 rfl (k:=i) (y:=B.next) (u:=bn) (by omega) rfl iN.one ⟨bn,rfl,iN⟩;refine ed e1 ?_;rw[e2,ei];simp only[mP]at f;have M:=A.trans C;have u6:=Z.since M;have r6:=(r3.since R).since C;have a7:=iN.since C;obtain⟨l7,o7,a8,a9,ba,_,y1,_,_,_,aJ,yb⟩:=u6.nV r;rw[d]at y1;cases y1;obtain⟨l8,o8,pr,_,z1,z2,zr⟩:=r6.list (aa i hi) .i64;refine oF (f.ld 1 rfl rfl) (ed d (oF yb.eQ (ed z1 (ed z2 ?_))));refine zbN aJ (by rw[g.eQ i B r];exact zr) (by grind[Bj]) ?_;refine⟨ju _,xM (gj rfl ?_)⟩;have k3:ez (.ptr lu (0+3)) h6=some vb:=f.ld 1 rfl rfl;obtain⟨l9,o9,bb,ah,bc,_,y2,_,_,aq,_,ar⟩:=u6.nV r;rw[d]at y2;cases y2;refine oF k3 (ed d (oF ar.next (ed aq.len (ed (gO ..) ?_))));refine ed (a:= .bool false) ?_ (iJ (fU (by simp) ?_))
  ·by_cases c:B.next.length=2
   ·rw [show((B.next.length:Int) == 2)=true by simp_all,mA];have aK:B.fin=2:=by
     rcases g.fin i B r with⟨_,h⟩|⟨h,_⟩|⟨_,h,_⟩
     ·omega
     ·exact h
     ·simp_all
    have tt:∀j:Nat,j<2->∃l o t l' o' w,gG 1 ah (.I (j:Nat))=some (.ptr l o)/\ez (.ptr l o) h6=some (.I (t:Nat))/\gG 1 pv (.I (t:Nat))=some (.ptr l' o')/\ez (.ptr l' o') h6=some w/\fD w=some (.I ((1:Nat):Int)):=λj hj=>by
     have ht:=hO (show j<B.next.length by omega);have N:=AU (show j<B.next.length by omega);have aL:=g.IB i B r aK _ N;have aM:B.next[j]<u.blocks.length:=g.nx i _ (by grind[next]);obtain⟨l,o,_,q1,q2⟩:=aq.nat ht .i64;obtain⟨l',o',w,_,q3,q4,q5⟩:=r6.list (aa _ aM) .i64;exact⟨l,o,_,l',o',w,q1,q2,q3,q4,by rw[q5.len,aL]⟩
    obtain⟨a1,a2,a3,a4,a5,a6,b1,b2,b3,b4,b5⟩:=tt 0 (by omega);obtain⟨c1,c2,c3,c4,c5,c6,d1,d2,d3,d4,d5⟩:=tt 1 (by omega);have b1:gG 1 ah (.I 0)=some (.ptr a1 a2):=b1;have d1:gG 1 ah (.I 1)=some (.ptr c1 c2):=d1;simp only[fe,fS,k3,d,ar.next,b1,b2,b3,b4,b5,d1,d2,d3,d4,d5,Y1 (show(((1:Nat):Int))=1 from rfl),nr]
   ·rw[show((B.next.length:Int) == 2)=false by grind,EL]
  ·refine fI ⟨k-1,by omega,?_⟩;rw[L];refine⟨i+1,_,rfl,by omega,R.trans C,by simp_all,λj hj=>?_,f⟩
   grind[Qd,next,K6]
 refine iI ?_;obtain rfl:i=u.blocks.length:=by omega
 clear hk hi k L I;have r5:=r3.since R;obtain⟨l6,o6,pr,_,z1,z2,zr⟩:=r5.list (aa 0 (by omega)) .i64;have z1:gG 1 pv (.I 0)=some (.ptr l6 o6):=z1;refine ed z1 (ed z2 (ed zr.len (IY (fU (by rw[g.Di];simp) ?_))));obtain⟨f,C,rn⟩:=S.jZ 0 rfl;simp only[mP]at f;have f:=f.tail;have W:=ZK g aH aI;generalize aN:(λl=>F3 l\/Loc (V.slice ln 0 u.blocks.length) l)=P at*;have M:=A.trans C;have r6:=r5.since C;have u6:=Z.since M;clear S R q aN r5 r3 u5 A z1 z2 zr;refine Nu W (-1) f rn λh7 sv seen s7 H7 aO aP=>?_;have au:∀b:Nat,b<u.blocks.length->seen[b]? =some true:=λb hb=>by
  obtain⟨l,hl⟩:=g.reach b hb;exact(aP b).2 ⟨l,hl,λx _=>by omega⟩
 refine BX (λk l h'=>∃i:Nat,l=[.ptr lu 0,pv,.slice ln 0 u.blocks.length,sv,.I (i:Nat)]/\i+k=u.blocks.length/\h' = h7) ?_ (k:=u.blocks.length) ⟨0,rfl,by omega,rfl⟩;rintro k _ _ _ _ _ h7 ⟨i,⟨⟩,hk,rfl⟩;unfold tP;refine ed (H7.len 0 rfl) ?_;rw[aO];by_cases hi:i<u.blocks.length
 ·refine gy ?_;obtain⟨l8,o8,y1,y2⟩:=H7.Mr 0 rfl (au i hi) .i64;refine ed y1 (ed y2 (xM (gj rfl ?_)));exact fI ⟨k-1,by omega,i+1,rfl,by omega,rfl⟩
 refine iI ?_;clear hk hi k i;have H7:=H7.tail;have ai:=M.trans s7;refine oF (H7.ld 0 rfl rfl) (ed (Z.since ai).v.len ?_);rw[kW (z:=V.I 0) rfl (by decide) (by omega),fE];obtain⟨H8,s8⟩:=H7.make (E:=eN) (ty:=ev) (y:=0) (u:=V.I 0) u.ef.length rfl rfl;generalize h7.new (.cells ev 1 true false (List.replicate u.ef.length (V.I 0)))=h8 at*;generalize h7.next=lb at*;have aw:=ai.trans s8;refine oF (H8.ld 1 rfl rfl) (ed (Z.since aw).v.len ?_);rw[kW (z:=V.I 0) rfl (by decide) (by omega),fE];obtain⟨H9,s9⟩:=H8.make (E:=eN) (ty:=ev) (y:=0) (u:=V.I 0) u.ef.length rfl rfl;generalize h8.new (.cells ev 1 true false (List.replicate u.ef.length (V.I 0)))=h9 at*;generalize h8.next=lp at*;have X:=(s7.trans s8).trans s9;clear H8 H7 s8 s7 ai aw f;have u9:=u6.since X;have r9:=r6.since X;have aQ:=rn.since X;have aR:=M.trans X;clear X M s9 u6 r6 rn
 obtain ⟨I,L⟩:∃I:Nat->LP,I=λk l h'=>∃(i:Nat) (nV IV:List Nat),l=[.ptr lu 0,pv,.slice ln 0 u.blocks.length,.slice lb 0 u.ef.length,.slice lp 0 u.ef.length,.I i]/\i+k=u.blocks.length/\Sn P h9 P h'/\PlR u i 0 nV IV/\
   ej P h' (eJ eN ev IV (.slice lp 0 u.ef.length)::eJ eN ev nV (.slice lb 0 u.ef.length)::ey lu 30 (uC u vv vb vs)::cs):=⟨_,rfl⟩
 refine BL I (λk d x3 x4 x5 x6 x7 h1 hi=>?_) (k:=u.blocks.length) ?_;rotate_left
 ·rw[L];exact⟨0,_,_,rfl,by omega,Sn.refl _ _,⟨Xh,Xh,λv c m _ hc=>by omega⟩,H9⟩
 rw[L]at hi;clear H9;obtain⟨i,nV,IV,⟨⟩,hk,s1,P1,H1⟩:=hi;unfold tS;have u1:=u9.since s1;refine oF (H1.ld 2 rfl rfl) (ed u1.b.len ?_);by_cases hi:i<u.blocks.length
 ·refine gy ?_;have r:=hO hi;generalize u.blocks[i]=B at*;have bd:=AN g r
  obtain ⟨I4,aj⟩:∃I:Nat->LP,I=λk l h'=>∃(j:Nat) (fst:Bool) (nV IV:List Nat),l=[.ptr lu 0,pv,.slice ln 0 u.blocks.length,.slice lb 0 u.ef.length,.slice lp 0 u.ef.length,.I i,.bool fst,.I j]/\j+k=B.ef.length/\Sn P h9 P h'/\PlR u i j nV IV/\
    (fst=true↔∀(m w:Nat) (y:Vl),m<j->B.ef[m]? =some w->u.ef[w]? =some y->ir y.op=true)/\
    ej P h' (eJ eN ev IV (.slice lp 0 u.ef.length)::eJ eN ev nV (.slice lb 0 u.ef.length)::ey lu 30 (uC u vv vb vs)::cs):=⟨_,rfl⟩
  refine Ca I4 (λk4 d x3 x4 x5 x6 x7 x8 x9 K ax=>?_) (k:=B.ef.length) ?_;rotate_left
  ·rw[aj];exact⟨0,true,nV,IV,rfl,by omega,s1,P1,⟨λ_ m _ _ N=>by omega,λ_=>rfl⟩,H1⟩
  rw[aj]at ax;clear H1 P1 u1 s1 nV IV;obtain⟨j,fst,nV,IV,⟨⟩,be,s2,P2,ae,G⟩:=ax;unfold tv;have u2:=u9.since s2;obtain⟨l1,o1,bv,bn,bp,ab,d,_,iv,_,_,xb⟩:=u2.nV r;refine oF (G.ld 2 rfl rfl) (ed d (oF xb.ef (ed iv.len ?_)));by_cases hj:j<B.ef.length;rotate_left
  ·refine iI ?_;obtain rfl:j=B.ef.length:=by omega
   refine fI ⟨k-1,by omega,?_⟩;rw[L];exact⟨i+1,nV,IV,rfl,by omega,s2,P2.next r,G⟩
  refine gy ?_;have hv:=hO hj;generalize B.ef[j]=v at*;have p:At u v i j:=⟨B,r,hv⟩
  have ak:=g.jW v i j p;obtain⟨x,hx⟩:∃x,u.ef[v]? =some x:=⟨_,hO ak⟩
  obtain⟨l4,o4,ac,y1,y2⟩:=iv.nat hv .i64;obtain⟨l5,o5,w,aS,z1,z2,xw,_⟩:=u2.val hx;refine oF (G.ld 2 rfl rfl) (oF (G.ld 2 rfl rfl) (ed d (oF xb.ef (ed y1 (ed y2 (ed z1 (ed z2 ?_)))))));rw[g0];obtain⟨q,J⟩:=G.zT 45 [V.I 0,V.I 0,V.I 0,V.I 0,V.ee,V.I 0];have g3:(K.new (.cells 45 1 true false [V.I 0,V.I 0,V.I 0,V.I 0,V.ee,V.I 0])).get K.next=some (.cells 45 1 true false [V.I 0,V.I 0,V.I 0,V.I 0,V.ee,V.I 0]):=fh _ _;generalize K.new (.cells 45 1 true false [V.I 0,V.I 0,V.I 0,V.I 0,V.ee,V.I 0])=h3 at*;refine⟨⟨g3,O.kX _ _ _ _ _⟩,HO z2 (J.fi _ aS),iR y2 (J.fi _ ac),iR xb.ef (J.fi _ ab),q.ld 3 rfl rfl,q.ld 3 rfl rfl,?_⟩;obtain⟨h4,e4,n4,U,s4⟩:=q.stA 0 (ws:=mW x w) (n:=6) rfl rfl rfl (by simp only[mW,eo,xw.one];rfl);rw[e4,ei];simp only[mP]at U;refine⟨n4,?_⟩;generalize K.next=ly at*;have ay:ez (.ptr l1 (o1+0)) h4=some bv:=iR (iR xb.ef (J.fi _ ab)) (s4.fi _ ab);have aA:ez (.ptr l4 o4) h4=some (.I v):=iR (iR y2 (J.fi _ ac)) (s4.fi _ ac);refine oF (U.ld 3 rfl rfl) (ed d (oF ay (ed y1 (ed aA ?_))));obtain⟨l6,o6,h5,e5,e6,n5,S,R⟩:=U.JZ 2 rfl (k:=v) (y:=i) (u:=V.I i) (by rw[P2.nb];exact ak) rfl rfl rfl;refine ed e5 ?_;rw[e6,ei];simp only[mP,rV]at S;have aT:ez (.ptr l1 (o1+0)) h5=some bv:=iR ay (R.fi _ ab);have aU:ez (.ptr l4 o4) h5=some (.I v):=iR aA (R.fi _ ac);refine oF (S.ld 3 rfl rfl) (ed d (oF aT (ed y1 (ed aU ?_))));obtain⟨l7,o7,h6,e7,e8,n6,f,C⟩:=S.JZ 1 rfl (k:=v) (y:=j) (u:=V.I j) (by rw[P2.np];exact ak) rfl rfl rfl;refine ed e7 ?_;rw[e8,ei];simp only[mP,rV]at f;have al:=((J.trans s4).trans R).trans C;have z0:ez (.ptr ly (0+0)) h6=some (.I x.op):=f.ld 0 rfl rfl;have z4:ez (.ptr ly (0+4)) h6=some w:=f.ld 0 rfl rfl;have w6:=xw.since al;have r6:=(r9.since s2).since al;obtain⟨lr,bf,pr,_,p1,p2,p3⟩:=r6.list (aa i hi) .i64;have aV:ir x.op=true->fst=true:=λhh=>ae.2 (UL g r p hx hh);refine oF z0 (ed (gO ..) (ed (a:= .bool (ir x.op)) (by simp only[fe,fS,z0,gO,pK,XI]) (ed (a:= .bool false) ?_ (mZ ?_ (mZ ?_ (iJ (fU (by simp) ?_)))))))
  ·show jX _ (some (V.bool (!fst)))=_;rw[j6]
   cases hh:ir x.op with
   |true=>rw[aV hh];rfl
   |false=>rfl
  ·simp only[fe,fS,z0];by_cases c:x.op=21
   ·obtain⟨h0,hl⟩:=g.Dz v i j x B p hx c r;rw[QQ (by omega)];simp only[fe,mA,z4,w6.len,p1,p2,p3.len];rw[Y1 (by rw[hl,g.eQ i B r])];simp only[fe,nr];exact ND (by omega)
   ·rw[ND (by omega)];rfl
  ·simp only[fe,fS,z0];by_cases c:x.op=1
   ·have h0:=g.par v i j x p hx c;rw[QQ (by omega)];simp only[fe,mA];exact Y1 (by omega)
   ·rw[ND (by omega)];rfl
  ·rw [j6];refine ed rfl (fI ⟨k4-1,by omega,?_⟩);rw[aj];refine⟨j+1,_,_,_,rfl,by omega,s2.trans al,P2.step g p,?_,f.tail⟩;rw[yl,ae];constructor
   ·rintro⟨h1,K⟩ m w' y N Y hy;by_cases e:m=j
    ·subst e;rw[hv]at Y;cases Y;rw[hx]at hy;cases hy;exact K
    ·exact h1 m w' y (by omega) Y hy
   ·intro h1;exact⟨λm w' y N Y hy=>h1 m w' y (by omega) Y hy,h1 j v x (by omega) hv hx⟩
 refine iI ?_;obtain rfl:i=u.blocks.length:=by omega
 clear hk hi k L I;refine Be H1 λK G s2=>?_;generalize h1.next=lq at*;obtain⟨Tp,G⟩:∃T,ej P K (ey lq T ((List.replicate 40 false).map V.bool)::eJ eN ev IV (.slice lp 0 u.ef.length)::eJ eN ev nV (.slice lb 0 u.ef.length)::ey lu 30 (uC u vv vb vs)::cs):=⟨_,G⟩
 obtain ⟨I,L⟩:∃I:Nat->LP,I=λk l h'=>∃(i:Nat) (ps:List Bool),l=[.ptr lu 0,pv,.slice ln 0 u.blocks.length,.slice lb 0 u.ef.length,.slice lp 0 u.ef.length,.ptr lq 0,.I i]/\i+k=u.ef.length/\Sn P h9 P h'/\ps.length=40/\
   (∀m:Nat,ps[m]? =some true->∃(w:Nat) (y:Vl),w<i/\u.ef[w]? =some y/\y.op=1/\y.n=(m:Int))/\
   ej P h' (ey lq Tp (ps.map V.bool)::eJ eN ev IV (.slice lp 0 u.ef.length)::eJ eN ev nV (.slice lb 0 u.ef.length)::ey lu 30 (uC u vv vb vs)::cs):=⟨_,rfl⟩
 refine BD I (λk d x3 x4 x8 x9 bg bh h3 hi=>?_) (k:=u.ef.length) ?_;rotate_left
 ·rw[L];refine⟨0,_,rfl,by omega,s1.trans s2,Xh,λm N=>?_,G⟩;rw[wBz]at N;split at N <;> cases N
 rw[L]at hi;clear G H1 u1 s1 s2;obtain⟨i,ps,⟨⟩,hk,J,aB,am,q⟩:=hi;unfold te;have u3:=u9.since J;refine oF (q.ld 3 rfl rfl) (ed u3.v.len ?_);by_cases hi:i<u.ef.length
 ·refine gy ?_;have hx:=hO hi;generalize u.ef[i]=x at*;obtain⟨l1,o1,w,_,d,_,_,xl⟩:=u3.val hx
  have aC:∀{h8} {ps':List Bool},Sn P h3 P h8->ps'.length=40->(∀m:Nat,ps'[m]? =some true->∃(w:Nat) (y:Vl),w<i+1/\u.ef[w]? =some y/\y.op=1/\y.n=(m:Int))->ej P h8 (ey lq Tp (ps'.map V.bool)::eJ eN ev IV (.slice lp 0 u.ef.length)::eJ eN ev nV (.slice lb 0 u.ef.length)::ey lu 30 (uC u vv vb vs)::cs)->
    kV CS Q (BY I k) [.ptr lu 0,pv,.slice ln 0 u.blocks.length,.slice lb 0 u.ef.length,.slice lp 0 u.ef.length,.ptr lq 0,.I i] h8:=λ{h8 ps'} s8 hl hp H8=>by
   refine AV ?_;unfold rr;refine fI ⟨k-1,by omega,?_⟩;rw[L];exact⟨i+1,ps',rfl,by omega,J.trans s8,hl,hp,H8⟩
  have aD:∀m:Nat,ps[m]? =some true->∃(w:Nat) (y:Vl),w<i+1/\u.ef[w]? =some y/\y.op=1/\y.n=(m:Int):=λm N=>by
   obtain⟨w,y,h1,K⟩:=am m N;exact⟨w,y,by omega,K⟩
  refine oF (q.ld 3 rfl rfl) (ed d (oF xl.op (fZ ?_)));by_cases c:x.op=1
  ·refine gj (by omega) ?_;obtain⟨n1,n2,n3⟩:=g.param i x hx c;obtain⟨m,N⟩:=wBG n1;have aW:m<40:=by omega
   have xn:=xl.n;rw[N]at xn;have eq:=zbO (n:=1) (l:=lq) (o:=0) (kd:= .i64) aW;have an:=hO (show m<ps.length by omega);have aX:ps[m]? =some false:=by
    cases e:ps[m]with
    | true=>
      rw[e]at an;obtain⟨w',y,h1,K,h3,h4⟩:=am m an;have:=n3 w' y K h3 (by omega)
      omega
    |false=>rw[an,e]
   have aY:ez (.ptr lq (0+m*1)) h3=some (.bool false):=q.ld 0 rfl (by rw[zO,Nat.mul_one,AX,aX];rfl);refine oF (q.ld 3 rfl rfl) (ed d (oF xn (ed eq (ed aY (iJ (fU (by simp) ?_))))));refine oF (q.ld 3 rfl rfl) (ed d (oF xn (ed eq ?_)));obtain⟨h4,e4,_,U,s4⟩:=q.st 0 (o:=m) (u:=V.bool true) rfl (by rw[EN];omega) rfl;have aZ:gJ 1 (.ptr lq (0+m*1)) (V.bool true) h3=some (.val .undef h4):=by rw[zO,Nat.mul_one];exact e4
   rw[aZ,ei];simp only[mP]at U;refine aC s4 (ps':=ps.set m true) (by rw[MC];exact aB) (λm' aE=>?_) (by rw[List.map_set];exact U);by_cases e:m' = m
   ·subst e;exact⟨i,x,by omega,hx,c,N⟩
   ·rw[K6 λh=>e h.symm]at aE;exact aD m' aE
  ·exact fU (by omega) (aC (Sn.refl _ _) aB aD q)
 refine iI ?_;clear hk hi k L I am i;obtain⟨U,s4,r4⟩:=q.tail.jZ 0 rfl;simp only[mP]at U;obtain⟨S,R,r5⟩:=U.tail.jZ 0 rfl;simp only[mP]at S;have ao:=s4.trans R;have A:=(aR.trans J).trans ao;refine zb0 W S.tail ((aQ.since J).since ao) λbi h6 dv O0 C f r6 D=>?_;refine ed (f.tK 0 rfl rfl) ?_;have aF:=(r4.since R).since C;have aG:=r5.since C;refine ed (a:= .agg (WG u vv vb vs (.slice lb 0 u.ef.length) (.slice lp 0 u.ef.length) dv)) ?_ ?_
 ·rcases r6 with⟨rfl,_⟩|⟨_,_,_,_,_,_,rfl,_⟩ <;> rfl
 have u6:=Z.since (A.trans C);refine gW f rfl rfl (by simp only[WG,eo,u6.v.one,u6.b.one,u6.s.one,aF.one,aG.one,r6.one];rfl) λh7 H7 s7=>?_;refine zaX g ⟨λv b k p=>?_,D⟩ H7 (u6.since s7) (aG.since s7) (aF.since s7) (r6.since s7) ((((r9.since J).since ao).since C).since s7) λF8 h8 s8 H8=>H F8 h8 (((A.trans C).trans s7).trans s8) H8;refine P1.yes v b k p (.inl ?_);obtain⟨B,r,_⟩:=p;exact(kj.1 r).1
end
