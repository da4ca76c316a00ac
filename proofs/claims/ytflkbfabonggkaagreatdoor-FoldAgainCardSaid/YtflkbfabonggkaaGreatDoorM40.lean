/- Parts. -/
import Derived.Test.YtflkbfabonggkaaGreatDoorM39
import Derived.Test.YtflkbfabonggkaaGreatDoorM30
set_option maxHeartbeats 4000000
namespace Go.Proofs.YtflkbfabonggkaaGreatDoor.Hx
open Un Dm
theorem RT{w:Bool}{X:Option V}{K:V->Prop}(h:K .undef):oP (fy w .undef) λb=>oP (gV b X) K:=by cases w <;> exact h
theorem ze9{w:Bool}{C:fm}{f:Nat}{a:List V}{h:Hp}{K:ft}(H:K .undef h):oP (fy w .undef) λb=>oP (gC b (some (f,a))) λy=>uj C y h K:=by cases w <;> exact H
theorem SS{t:Nat}{k:IntKind}{a b:Int}(h:¬b<a):en .gtr t (.int k a) (.int k b)=some (.bool false):=by simp_all
theorem zcw{t:Nat}{k:IntKind}{a b:Int}(h:¬a<b):en .lss t (.int k a) (.int k b)=some (.bool false):=by simp_all
theorem YR{t:Nat}{k:IntKind}{a b:Int}(h:a=b):en .neq t (.int k a) (.int k b)=some (.bool false):=by simp_all
theorem QL{t:Nat}{k:IntKind}{a b:Int}(h:a=b):en .eql t (.int k a) (.int k b)=some (.bool true):=by simp_all
theorem Ng{t:Nat}{k:IntKind}{a b:Int}(h:a≠b):en .eql t (.int k a) (.int k b)=some (.bool false):=by simp_all
theorem pQ{X:Option V}{K:V->Prop}(a:X=some (.bool false))(H:K (.bool false)):oP (nP (.bool false) X) K:=by simp_all
section
variable{F F':Nat->Prop}{h h':Hp}{cs:List Pc}{Q:ft}{u:U}{vv vb vs:V}
theorem zcf{u:U}(g:Good u)(b:Nat):(pre u b).length<=u.ef.length:=jj _ _ (Ho g b) λv hv=>by
 obtain⟨c,k,a,_⟩:=J9.1 hv;exact g.jE _ _ _ a
theorem X9(g:Good u)(H0:ej F h cs)(hu:DA F h u vv vb vs)(H:∀F' h',Sn F h F' h'->ej F' h' cs->Q (.bool true) h'):cP CS mm [.agg (uC u vv vb vs)] h Q:=by
 refine EJ rfl rfl ?_;unfold w9;have nv:=g.nv;have nb:=g.nb;have KC:=g.KC;have ns:=g.ns;refine ml H0 hu.one λr C M=>?_;generalize h.next=lu at*;have u1:=hu.since M;have k3:ez (.ptr lu (0+3)) r=some vb:=C.ld 0 rfl rfl;have J:ez (.ptr lu (0+4)) r=some vs:=C.ld 0 rfl rfl;refine oF (C.ld 0 rfl rfl) (ed u1.v.len (ed (SS (by omega)) ?_));refine pQ (by simp only[fe,fT,k3,u1.b.len];grind[SS]) ?_;refine pQ (by simp only[fe,fT,k3,u1.b.len];grind[zcw]) ?_;refine pQ (by simp only[fe,fT,J,u1.s.len];grind[SS]) (iO (fU (by simp) ?_));clear k3 J;refine Bq (λk l h'=>∃(F':Nat->Prop) (i:Nat),l=[.ptr lu 0,.I i]/\i+k=u.eh.length/\Sn F h F' h'/\ej F' h' (ev lu 30 (uC u vv vb vs)::cs)) ?_ (k:=u.eh.length) (by grind);clear C u1 M r;rintro k _ _ r ⟨F1,i,⟨⟩,hk,M,C⟩;unfold rM;have u1:=hu.since M;have R:ez (.ptr lu (0+2)) r=some vv:=C.ld 0 rfl rfl;have J:ez (.ptr lu (0+4)) r=some vs:=C.ld 0 rfl rfl;refine oF J (ed u1.s.len ?_);by_cases hi:i<u.eh.length
 ·refine gG ?_;have ag:=gW hi;generalize u.eh[i]=fs at*;obtain⟨q1,q2,q3⟩:=g.st i fs ag;obtain⟨l1,o1,f,_,S,x2,x3,xf⟩:=u1.st ag;have x3:ez (.ptr l1 (o1+0)) r=some f:=x3;refine oF J (ed S (oF x3 (ed xf.len (ed (zcw (by omega)) ?_))));refine pQ (by simp only[fe,fT,J,S,x3,xf.len];grind[SS]) (iO (fU (by simp) ?_));refine Bz (λk l h'=>∃j:Nat,l=[.ptr lu 0,.I i,.I (j:Nat)]/\j+k=fs.length/\h' = r) ?_ (k:=fs.length) (by simp_all);rintro k1 _ _ _ _ ⟨j,⟨⟩,bI,rfl⟩;unfold sZ;refine oF J (ed S (oF x3 (ed xf.len ?_)));by_cases hj:j<fs.length
  ·refine gG ?_;have hf:=gW hj;obtain⟨r1,r2,_⟩:=q3 _ (AW hj);generalize fs[j]=x at*;obtain⟨l2,o2,a,b,_,L,N,y3,ya,yb⟩:=xf.zdT hf;refine oF J (ed S (oF x3 (ed L (oF N (ed ya.len (ed (SS (by omega)) ?_))))));refine pQ (by simp only[fe,fT,J,S,x3,L,y3,yb.len];grind[SS]) (iO (fU (by simp) ?_));exact fL ⟨k1-1,by omega,j+1,rfl,by omega,rfl⟩
  ·refine iJ ?_;refine oF J (ed S (ed x2 ?_));refine Pe C xf (by simp_all) λF2 d fv O o r2=>?_;have bJ:=ET (fs:=fs) (ES g i fs ag).2;have ah:=M.trans O;have u2:=u1.since O;have R:ez (.ptr lu (0+2)) d=some vv:=o.ld 0 rfl rfl;refine BH (λk l h'=>∃j:Nat,l=[.ptr lu 0,.I i,fv,.I (j:Nat)]/\j+k=(hO fs).length/\h' = d) ?_ (k:=(hO fs).length) (by simp_all);rintro T _ _ _ _ _ ⟨j,⟨⟩,ay,rfl⟩;unfold rA;refine ed r2.len ?_;by_cases hj:j<(hO fs).length
   ·refine gG ?_;have hx:=gW hj;obtain⟨x,D,U⟩:nt u (hO fs)[j]:=by
     grind[AW,hO]
    generalize (hO fs)[j]=w at*;have ai:=(jP.1 D).1;obtain⟨l3,o3,_,L,N⟩:=r2.nat hx .i64;obtain⟨l4,o4,_,_,z1,_,_,z2⟩:=u2.val D;refine ed L (ed N (oF R (ed u2.v.len (Lt ai ⟨iZ _,?_⟩))));refine ed rfl (fD (ed pf (fD (ed R (fD (ed rfl (fD (ed rfl (fD (ed L (fD (ed N (fD (ed z1 (fD (ed pf (fD (ed z2.op (yd (TL ?_))))))))))))))))))));rw[U];refine⟨iZ _,ed rfl (iO (fU (by simp) ?_))⟩;exact fL ⟨T-1,by omega,j+1,rfl,by omega,rfl⟩
   ·refine iJ ?_;exact fL ⟨k-1,by omega,F2,i+1,rfl,by omega,ah,o⟩
 refine iJ ?_;clear hk hi k i R J;refine BL (λk l h'=>∃(F':Nat->Prop) (i:Nat),l=[.ptr lu 0,.I i]/\i+k=u.ef.length/\Sn F h F' h'/\ej F' h' (ev lu 30 (uC u vv vb vs)::cs)) ?_ (k:=u.ef.length) (by grind);clear C u1 M r F1;rintro k _ _ r ⟨F1,i,⟨⟩,hk,M,C⟩;unfold sr;have u1:=hu.since M;refine oF (C.ld 0 rfl rfl) (ed u1.v.len ?_);by_cases hi:i<u.ef.length
 ·refine gG ?_;have hx:=gW hi;generalize u.ef[i]=x at*;obtain⟨l1,o1,w,_,S,x2,xw,_⟩:=u1.val hx;refine oF (C.ld 0 rfl rfl) (ed S (ed x2 ?_));refine ir C rfl rfl (by simp only[my,ey,xw.one];rfl) λd o O=>?_;generalize r.next=lx at*;have u2:=u1.since O;have w2:=xw.since O;have z0:ez (.ptr lx (0+0)) d=some (.I x.op):=o.ld 0 rfl rfl;have z3:ez (.ptr lx (0+3)) d=some (.I x.n):=o.ld 0 rfl rfl;have z4:ez (.ptr lx (0+4)) d=some w:=o.ld 0 rfl rfl;have z5:ez (.ptr lx (0+5)) d=some (.I x.state):=o.ld 0 rfl rfl;have J:ez (.ptr lu (0+4)) d=some vs:=o.ld 1 rfl rfl;obtain⟨bK,bL⟩:=g.op i x hx;refine oF z0 (ed (zcw (by omega)) ?_);refine pQ (by grind[fe,fT,SS]) ?_;refine pQ ?_ ?_
  ·simp only[fe,fT,z0];by_cases c:x.op=20
   ·rw[QL (by omega)];simp only[fe,oS,z4,w2.len];exact YR (by rw[g.putAt i x hx c];rfl)
   ·rw[Ng (by omega)];rfl
  refine fD (ed pf (fD (ed z0 ?_)));have kA:oP (nP (.bool false) (oB (fH 0 (V.ptr lx 0)) λaA=>oB (ez aA d) λaB=>oB (en .eql 3 aB (V.I 1)) λaC=>oB (some aC) λaD=>jO aD (oB (fH 3 (V.ptr lx 0)) λaE=>oB (ez aE d) λaF=>en .gtr 2 aF (V.I 1073741824)))) λv=>v = .bool false:=by
   refine pQ ?_ rfl;simp only[fe,fT,z0];by_cases c:x.op=1
   ·rw[QL (by omega)];simp only[fe,oS,z3];obtain⟨n1,n2,_⟩:=g.param i x hx c
    grind[SS]
   ·rw[Ng (by omega)];rfl
  obtain⟨vA,eA,rfl⟩:=kS.1 kA
  have ae:∀K:ft,K (.bool false) d->oP (fy false (V.bool false)) λaj=>oP (gV aj (fH 0 (V.ptr lx 0))) λaG=>oP (fy false (V.bool false)) λa8=>oP (gV a8 (ez aG d)) λaH=>oP (fy false (V.bool false)) λa9=>oP (gV a9 (en .eql 3 aH (V.I 22))) λaI=>
    oP (fy false (V.bool false)) λba=>oP (gV ba (some aI)) λP=>oP (fy false P) λbb=>oP (gV bb (fH 0 (V.ptr lx 0))) λaJ=>oP (fy false P) λbc=>oP (gV bc (ez aJ d)) λaK=>oP (fy false P) λbd=>oP (gV bd (en .eql 3 aK (V.I 23))) λaL=>
    oP (fy false (V.bool false)) λbe=>oP (gV be (jt P (V.bool true) aL)) λaM=>oP (fy false (V.bool false)) λbf=>oP (gV bf (some aM)) λp=>oP (fy true p) λak=>oP (gV ak (fH 5 (V.ptr lx 0))) λW=>oP (fy true p) λal=>oP (gV al (ez W d)) λX=>
    oP (fy true p) λam=>oP (gV am (fH 4 (V.ptr lu 0))) λY=>oP (fy true p) λan=>oP (gV an (ez Y d)) λZ=>oP (fy true p) λao=>oP (gV ao (fE Z)) λaa=>oP (fy true p) λap=>oP (gC ap (some (gJ,[X,aa]))) λaq=>uj CS aq d λab h4=>
    oP (fy true p) λar=>oP (gV ar (pt .not ab)) λac=>oP (nP (V.bool false) (jt p ac (V.bool false))) λA=>K A h4:=λK HK=>by
   refine fD (ed pf (fD (ed z0 (fD (ed (ik ..) (fD (ed rfl ?_)))))))
   have fin:∀c:Bool,c=leaves x.op->oP (fy true (V.bool c)) λak=>oP (gV ak (fH 5 (V.ptr lx 0))) λW=>oP (fy true (V.bool c)) λal=>oP (gV al (ez W d)) λX=>
     oP (fy true (V.bool c)) λam=>oP (gV am (fH 4 (V.ptr lu 0))) λY=>oP (fy true (V.bool c)) λan=>oP (gV an (ez Y d)) λZ=>oP (fy true (V.bool c)) λao=>oP (gV ao (fE Z)) λaa=>oP (fy true (V.bool c)) λap=>oP (gC ap (some (gJ,[X,aa]))) λaq=>uj CS aq d λab h4=>
     oP (fy true (V.bool c)) λar=>oP (gV ar (pt .not ab)) λac=>oP (nP (V.bool false) (jt (V.bool c) ac (V.bool false))) λA=>K A h4:=λc hc=>by
    cases c with
    |true=>exact gq (ed pf (gq (ed z5 (gq (ed pf (gq (ed J (gq (ed u2.s.len (wS (Lt (g.leave i x hx hc.symm) (gq (ed rfl (ed rfl HK))))))))))))))
    |false=>exact g0 (g0 (g0 (g0 (g0 (GP (g0 (ed rfl HK)))))))
   by_cases c:x.op=22
   ·rw[show((x.op:Int) == 22)=true by simp[c]];exact OT (OT (OT (fD (ed rfl (fD (ed rfl (fin true (by rw[c];rfl))))))))
   ·rw[show((x.op:Int) == 22)=false by grind];refine fD (ed pf (fD (ed z0 (fD (ed (ik ..) (fD (ed rfl (fD (ed rfl (fin _ ?_))))))))))
    grind[Int,ieq,leaves,Ti]
  have tl:kK CS Q [V.ptr lu 0,.I ((i+1:Nat):Int)] d=kK CS Q [V.ptr lu 0,.I ((i+1:Nat):Int)] d:=rfl;clear tl;have last:oP (gv 6 (V.ptr lx 0) d) λaN=>cP CS jJ [aN] d λaO h5=>mZ CS Q (BK (λk l h'=>∃(F':Nat->Prop) (i:Nat),l=[.ptr lu 0,.I i]/\i+k=u.ef.length/\Sn F h F' h'/\ej F' h' (ev lu 30 (uC u vv vb vs)::cs)) k) [.ptr lu 0,.I i,aO,(V.I 0)] h5:=by
   refine ed (o.zb 0 rfl rfl) ?_;refine N1 o w2 λF3 h3 uv s3 H3 r3=>?_;have u3:=u2.since s3;have R:ez (.ptr lu (0+2)) h3=some vv:=H3.ld 1 rfl rfl;have bQ:=Jx λh=>O3 g hx h;refine Bc (λk l h'=>∃j:Nat,l=[.ptr lu 0,.I i,uv,.I (j:Nat)]/\j+k=(iH x).length/\h' = h3) ?_ (k:=(iH x).length) (by simp_all);rintro T _ _ _ _ _ ⟨j,⟨⟩,ay,rfl⟩;unfold sx;refine ed r3.len ?_;by_cases hj:j<(iH x).length
   ·refine gG ?_;have hw:=gW hj;obtain⟨y,D,U⟩:nt u (iH x)[j]:=g.use i x hx _ (AW hj);generalize (iH x)[j]=w at*;have ai:=(jP.1 D).1;obtain⟨l3,o3,_,L,N⟩:=r3.nat hw .i64;obtain⟨l4,o4,_,_,z1,_,_,z2⟩:=u3.val D;refine ed L (ed N (oF R (ed u3.v.len (Lt ai ⟨iZ _,?_⟩))));refine ed rfl (fD (ed pf (fD (ed R (fD (ed rfl (fD (ed rfl (fD (ed L (fD (ed N (fD (ed z1 (fD (ed pf (fD (ed z2.op (yd (TL ?_))))))))))))))))))));rw[U];refine⟨iZ _,ed rfl (iO (fU (by simp) ?_))⟩;exact fL ⟨T-1,by omega,j+1,rfl,by omega,rfl⟩
   ·refine iJ ?_;exact fL ⟨k-1,by omega,F3,i+1,rfl,by omega,(M.trans O).trans s3,H3.tail⟩
  by_cases c1:x.op=1
  ·obtain⟨n1,n2,_⟩:=g.param i x hx c1;obtain⟨m,hm⟩:=wBG n1;rw[hm]at z3;refine fD (ed (QL (by omega)) (fD (ed rfl (gq (ed pf (gq (ed z3 (wS (Lt (n:=40) (by omega) (gq (ed rfl (ed rfl (ed eA ?_)))))))))))));exact ae (λA h4=>bP A _ _) (iO (fU (by simp) last))
  ·refine fD (ed (Ng (by omega)) (fD (ed rfl (g0 (g0 (GP (g0 (ed rfl (ed eA ?_)))))))));exact ae (λA h4=>bP A _ _) (iO (fU (by simp) last))
 refine iJ ?_;clear hk hi k i;refine oF (C.ld 0 rfl rfl) (ed u1.v.len ?_);rw[kr (z:=V.bool false) rfl (by decide) (by omega),fx];obtain⟨o,O⟩:=C.make (E:=eB) (ty:=jD) (y:=false) (u:=V.bool false) u.ef.length rfl rfl;generalize r.new (.cells jD 1 true false (List.replicate u.ef.length (V.bool false)))=d at*;generalize r.next=lk at*;obtain⟨I,hI⟩:∃I:Nat->LP,I=λ(k:Nat) l h'=>∃(i:Nat) (seen:List Bool),l=[.ptr lu 0,.slice lk 0 u.ef.length,.I ((pre u i).length:Nat),.I i]/\i+k=u.blocks.length/\Sn F h F1 h'/\seen.length=u.ef.length/\(∀v:Nat,seen[v]? =some true↔v∈pre u i)/\ej F1 h' (eJ eB jD seen (.slice lk 0 u.ef.length)::ev lu 30 (uC u vv vb vs)::cs):=⟨_,rfl⟩
 refine By I (λk S x2 x3 x4 h6 hi=>?_) (k:=u.blocks.length) ?_;rotate_left
 ·rw[hI];refine⟨0,_,rfl,by omega,M.trans O,W9,λv=>?_,o⟩;constructor
  ·intro h;rw[wBz]at h;split at h <;> cases h
  ·intro h;simp[pre]at h
 clear o O C u1 M d;clear r;revert h6 hi;intro r hi;rw[hI]at hi;obtain⟨i,seen,⟨⟩,hk,M,ng,bg,C⟩:=hi;unfold rE;have u1:=hu.since M;have bR:=zcf g i;refine oF (C.ld 1 rfl rfl) (ed u1.b.len ?_);by_cases hi:i<u.blocks.length;rotate_left
 ·refine iJ ?_;obtain rfl:i=u.blocks.length:=by omega
  rw[Mj g];exact oF (C.ld 1 rfl rfl) (ed u1.v.len (ed (QL rfl) (H F1 r M C.tail.tail)))
 refine gG ?_;have hB:=gW hi;generalize u.blocks[i]=B at*;obtain⟨l1,o1,bv,bn,bp,_,S,x2,iv,iN,ip,_⟩:=u1.nf hB;refine oF (C.ld 1 rfl rfl) (ed S (ed x2 ?_));refine ir C rfl rfl (by simp only[kI,ey,iv.one,iN.one,ip.one];rfl) λd o O=>?_;generalize r.next=lx at*;have o:ej F1 d (ev lx 47 (kI B bv bn bp)::_):=o;have u2:=u1.since O;have ah:=M.trans O;have bh:=iv.since O;have aP:=iN.since O
 have au:∀n:Nat,B.next.length=n->jh CS Q (BK I k)
   [.ptr lu 0,.slice lk 0 u.ef.length,.I ((pre u i).length:Nat),.I i,.ptr lx 0,.I (n:Nat)] d:=λn hn=>by
  refine AE ?_;unfold qk;have z1:ez (.ptr lx (0+1)) d=some (.I B.fin):=o.ld 0 rfl rfl;have z2:ez (.ptr lx (0+2)) d=some (.I B.cond):=o.ld 0 rfl rfl;have z5:ez (.ptr lx (0+5)) d=some (.I B.state):=o.ld 0 rfl rfl;have R:ez (.ptr lu (0+2)) d=some vv:=o.ld 2 rfl rfl;have J:ez (.ptr lu (0+4)) d=some vs:=o.ld 2 rfl rfl;have last:m0 CS Q (BK I k) [.ptr lu 0,.slice lk 0 u.ef.length,.I ((pre u i).length:Nat),.I i,.ptr lx 0,.I n,.I 0] d:=by
   refine BG (λk l h'=>∃j:Nat,l=[.ptr lu 0,.slice lk 0 u.ef.length,.I ((pre u i).length:Nat),.I i,.ptr lx 0,.I n,.I (j:Nat)]/\j+k=n/\h' = d) ?_ (k:=n) ⟨0,rfl,by omega,rfl⟩;rintro T _ _ _ _ _ _ _ d ⟨j,⟨⟩,ay,rfl⟩;unfold sY;by_cases hj:j<n
   ·refine gG ?_;have ht:=gW (show j<B.next.length by omega);have bi:B.next[j]<u.blocks.length:=g.nx i _ (by unfold next;rw[hB];exact AW (show j<B.next.length by omega));generalize B.next[j]=t at*;obtain⟨l3,o3,_,L,N⟩:=aP.nat ht .i64;refine oF (o.ld 0 rfl rfl) (ed L (ed N (oF (o.ld 2 rfl rfl) (ed u2.b.len (Lt bi ⟨iZ _,?_⟩)))));refine w5 (gi rfl ?_);exact kZ (m:=1) (by have:=CM g hB;omega) (by omega) ⟨T-1,by omega,j+1,rfl,by omega,rfl⟩
   refine iJ ?_;clear z1 z2 z5 R J
   refine A8 (λk l h'=>∃(j:Nat) (seen:List Bool),l=[.ptr lu 0,.slice lk 0 u.ef.length,.I ((pre u i).length+j:Nat),.I i,.ptr lx 0,.I j]/\j+k=B.ef.length/\Sn F h F1 h'/\Sn F1 d F1 h'/\seen.length=u.ef.length/\(∀v:Nat,seen[v]? =some true↔v∈pre u i++B.ef.take j)/\ej F1 h' (ev lx 47 (kI B bv bn bp)::eJ eB jD seen (.slice lk 0 u.ef.length)::ev lu 30 (uC u vv vb vs)::cs)) ?_ (k:=B.ef.length)
    ⟨0,seen,rfl,by omega,ah,Sn.refl _ _,ng,λv=>by rw[bg v,wB7,Jk],o⟩
   rintro k3 _ _ _ _ _ _ h3 ⟨j,sn,⟨⟩,bS,s3,aQ,aR,aw,H3⟩;unfold rk;have aS:=bh.since aQ;have u3:=hu.since s3;have bU:=CZ g hB;refine oF (H3.ld 0 rfl rfl) (ed aS.len ?_);by_cases hj:j<B.ef.length
   ·refine gG ?_;have hv:=gW hj;have bj:=N6 hj;generalize B.ef[j]=v at*;have ax:At u v i j:=⟨B,hB,hv⟩
    have bm:=g.jE v i j ax;obtain⟨l3,o3,_,L,N⟩:=aS.nat hv .i64;have aT:v ∉ pre u i++B.ef.take j:=λhm=>by
     rcases I8.1 hm with r|r
     ·obtain⟨c,m,d,h3⟩:=J9.1 r;have:=(g.Ju _ _ _ _ _ d ax).1;omega
     ·obtain⟨m,hm⟩:=mQ.1 r;rw[List.getElem?_take]at hm;split at hm
      ·have:=(g.Ju _ _ _ _ _ ⟨B,hB,hm⟩ ax).2;omega
      ·cases hm
    have bo:sn[v]? =some false:=by
     have r:=gW (show v<sn.length by omega);have d:=aw v
     cases e:sn[v]with
     |true=>rw[r,e]at d;exact absurd (d.1 rfl) aT
     |false=>rw[r,e]
    obtain⟨l4,o4,w1,w2⟩:=H3.LO 1 rfl bo .i64;have z0:ez (.ptr lx (0+0)) h3=some bv:=H3.ld 0 rfl rfl;refine oF z0 (ed L (ed N (oF (H3.ld 2 rfl rfl) (ed u3.v.len (Lt bm ⟨iZ _,?_⟩)))));refine ed rfl (pQ (by simp only[fe,fT,z0,L,N,w1,w2]) (iO (fU (by simp) ?_)));obtain⟨l5,o5,h4,e1,e2,_,H4,s4⟩:=H3.Jj 1 rfl (k:=v) (y:=true) (u:=V.bool true) (by omega) rfl rfl rfl;refine oF z0 (ed L (ed N (ed e1 ?_)));rw[e2,ei];simp only[je,mA]at H4;refine fL (fL ⟨k3-1,by omega,j+1,_,rfl,by omega,s3.trans s4,aQ.trans s4,by rw[LU];exact aR,λx=>?_,H4⟩);rw[bj,<-LY,I8,<-aw x,wBX];by_cases e:x=v
    ·subst e;rw[O9 (by omega)];exact⟨λ_=> .inr rfl,λ_=>rfl⟩
    ·rw[Kk λh=>e h.symm];exact⟨.inl,λh=>h.elim id λh=>absurd h e⟩
   ·refine iJ ?_;obtain rfl:j=B.ef.length:=by omega
    refine fL ⟨k-1,by omega,?_⟩;rw[hI];refine⟨i+1,sn,?_,by omega,s3,aR,λv=>?_,H3.tail⟩
    ·rw[Gg hB,Ji]
    ·rw[aw v,JC,Gg hB]
  have c3:∀K:ft,K (.bool false) d->oP (fy false (V.bool false)) λbr=>oP (gV br (fH 1 (V.ptr lx 0))) λaU=>oP (fy false (V.bool false)) λbt=>oP (gV bt (ez aU d)) λaV=>oP (fy false (V.bool false)) λbu=>oP (gV bu (en .eql 3 aV (V.I 3))) λaW=>oP (fy false (V.bool false)) λbw=>oP (gV bw (some aW)) λq=>
    oP (fy true q) λbx=>oP (gV bx (fH 5 (V.ptr lx 0))) λaX=>oP (fy true q) λbz=>oP (gV bz (ez aX d)) λaY=>oP (fy true q) λbA=>oP (gV bA (fH 4 (V.ptr lu 0))) λaZ=>oP (fy true q) λbC=>oP (gV bC (ez aZ d)) λa4=>oP (fy true q) λbD=>oP (gV bD (fE a4)) λa5=>
    oP (fy true q) λbE=>oP (gC bE (some (gJ,[aY,a5]))) λbG=>uj CS bG d λa6 h3=>oP (fy true q) λaj=>oP (gV aj (pt .not a6)) λa7=>oP (nP (V.bool false) (jt q a7 (V.bool false))) λG=>K G h3:=λK HK=>by
   refine fD (ed pf (fD (ed z1 ?_)));by_cases c:B.fin=3
   ·refine fD (ed (QL (by omega)) (fD (ed rfl ?_)));have hs:B.state<u.eh.length:=by
     rcases g.fin i B hB with⟨e,_⟩|⟨e,_⟩|⟨_,_,e⟩
     ·omega
     ·omega
     ·exact e
    exact gq (ed pf (gq (ed z5 (gq (ed pf (gq (ed J (gq (ed u2.s.len (wS (Lt hs (gq (ed rfl (ed rfl HK))))))))))))))
   ·exact fD (ed (Ng (by omega)) (fD (ed rfl (g0 (g0 (g0 (g0 (g0 (GP (g0 (ed rfl HK)))))))))))
  refine oF (o.ld 0 rfl rfl) (ed aP.len (ed (YR (by omega)) (fD (ed pf (fD (ed z1 ?_))))));by_cases c:B.fin=2
  ·obtain ⟨y,D,U⟩:nt u B.cond:=by
    rcases g.fin i B hB with⟨e,_⟩|⟨_,_,e⟩|⟨e,_⟩
    ·omega
    ·exact e
    ·omega
   have bH:=(jP.1 D).1;obtain⟨l4,o4,_,_,L,_,_,N⟩:=u2.val D;refine fD (ed (QL (by omega)) (fD (ed rfl ?_)));refine gq (ed pf (gq (ed z2 (gq (ed pf (gq (ed R (gq (ed u2.v.len (wS (Lt bH ?_)))))))))));refine gq (ed rfl (gq (ed rfl ?_)));refine fD (ed pf (fD (ed R (fD (ed pf (fD (ed z2 (fD (ed L (fD (ed pf (fD (ed N.op (yd (TL ?_)))))))))))))));rw[U];refine fD (ed rfl (gq (ed rfl (ed rfl ?_))));exact c3 (λG h3=>bP G _ _) (iO (fU (by simp) last))
  ·refine fD (ed (Ng (by omega)) (fD (ed rfl ?_)));refine g0 (g0 (g0 (g0 (g0 (GP (g0 (g0 ?_)))))));refine RT (RT (RT (RT (RT (RT (RT (ze9 (RT (g0 (ed rfl ?_))))))))));exact c3 (λG h3=>bP G _ _) (iO (fU (by simp) last))
 have z1:ez (.ptr lx (0+1)) d=some (.I B.fin):=o.ld 0 rfl rfl;refine oF z1 (fX ?_);rcases g.fin i B hB with⟨f1,f2⟩|⟨f1,f2,_⟩|⟨f1,f2,_⟩
 ·exact gi (by omega) (au 1 f2)
 ·exact fU (by omega) (fX (gi (by omega) (au 2 f2)))
 ·exact fU (by omega) (fX (fU (by omega) (fX (gi (by omega) (au 0 (by rw[f2];rfl))))))
end
open Un Dm
section
variable{F F':Nat->Prop}{h h':Hp}{cs:List Pc}{Q:ft}{u:U}{vv vb vs:V}
theorem Yt(g:Good u){w b:Nat}(h:rh u w b):∃c j,At u w c j/\(c=b/\j<1073741824\/c≠b/\qd (next u) c b):=by
 obtain⟨c,j,a,d⟩:=h;refine⟨c,j,a,?_⟩;by_cases e:c=b
 ·obtain⟨B,f,i⟩:=a
  grind[CZ,jP]
 simp_all
structure PlR (u:U) (i j:Nat) (nf Ip:List Nat):Prop where
 nb:nf.length=u.ef.length
 np:Ip.length=u.ef.length
 yes:∀(v c m:Nat),At u v c m->(c<i\/(c=i/\m<j))->nf[v]? =some c/\Ip[v]? =some m
theorem PlR.step(g:Good u){i j v:Nat}{nf Ip:List Nat}(S:PlR u i j nf Ip)(hv:At u v i j):PlR u i (j+1) (nf.set v i) (Ip.set v j):=by
 have a:=g.jE _ _ _ hv;refine⟨by rw[LU];exact S.nb,by rw[LU];exact S.np,λw c m b hc=>?_⟩;by_cases e:w=v
 ·subst e;obtain⟨rfl,rfl⟩:=g.Ju _ _ _ _ _ b hv;rw[O9 (by rw[S.nb];exact a),O9 (by rw[S.np];exact a)]
  simp_all
 ·rw [Kk (by omega),Kk (by omega)];refine S.yes w c m b ?_;rcases hc with hc|⟨rfl,hc⟩
  ·omega
  ·refine .inr ⟨rfl,?_⟩;by_cases d:m=j
   ·subst d;obtain⟨B,h,k⟩:=b;obtain⟨l,f,n⟩:=hv
    simp_all
   ·omega
theorem PlR.next{i:Nat}{B:Bk}{nf Ip:List Nat}(b:u.blocks[i]? =some B)(S:PlR u i B.ef.length nf Ip):PlR u (i+1) 0 nf Ip:=by
 refine⟨S.nb,S.np,λv c m hv hc=>S.yes v c m hv ?_⟩;rcases hc with hc|⟨_,hc⟩
 ·by_cases e:c=i
  ·subst e;obtain⟨d,a,f⟩:=hv
   grind
  omega
 ·omega
theorem Zj(g:Good u){X7:List (List Nat)}(a:X7.length=u.blocks.length)(c:∀b:Nat,b<u.blocks.length->X7[b]? =some (Un.next u b)):Nxs u.blocks.length (Un.next u) X7:=by
 refine⟨g.KC,g.nb,a,c,λb e=>?_,λb _ t d=>g.nx b t d⟩
 grind[gW,Un.next,next,CM]
theorem Up(g:Good u){b k v:Nat}{x:Vl}{B:Bk}(c:u.blocks[b]? =some B)(a:At u v b k)(d:u.ef[v]? =some x)(e:hZ x.op=true):∀(j w:Nat)(y:Vl),j<k->B.ef[j]? =some w->u.ef[w]? =some y->hZ y.op=true:=
 λj w y i f h=>QJ g a d e ⟨B,c,f⟩ h (by omega)
theorem zcK:(eL eN).rel F h [] [.ee]:=⟨.ee,rfl,.nil⟩
theorem zab{len n l o m:Nat}{kd:IntKind}(a:m<len):zc0 len n (.ptr l o) (.int kd (m:Nat))=some (.ptr l (o+m*n)):=by
 show bB (Nat.blt m len) _=_
 grind[mE,Qu]
theorem WH(op:Nat):(((op:Int) == 21) ||((op:Int) == 1))=hZ op:=by
 grind[hZ,Int,ieq,Bool.or_comm]
theorem zbe{nf Ip:List Nat}{N7:List (List Bool)}{wb wp wd pv:V}{lu lo To:Nat}(g:Good u)(o:zcj u nf Ip N7)(H0:ej F h (ev lo To (Vf u vv vb vs wb wp wd)::ev lu 30 (uC u vv vb vs)::cs))(hu:DA F h u vv vb vs)
  (W:iy eN F h nf wb) (hp:iy eN F h Ip wp) (X:iy (eL eB) F h N7 wd) (r:iy (eL eN) F h ((List.range u.blocks.length).map (Un.ahead u)) pv) (H:∀F' h',Sn F h F' h'->ej F' h' cs->Q (.bool true) h') :
  mV CS Q [.ptr lu 0,pv,.ptr lo 0,.I 0] h:=by
 have nv:=g.nv;have nb:=g.nb;have ai:∀b:Nat,b<u.blocks.length->((List.range u.blocks.length).map (Un.ahead u))[b]? =some (Un.ahead u b):=by simp_all
 obtain⟨I,hI⟩:∃I:Nat->LP,I=λk l h'=>∃(F':Nat->Prop) (i:Nat),l=[.ptr lu 0,pv,.ptr lo 0,.I i]/\i+k=u.blocks.length/\Sn F h F' h'/\ej F' h' (ev lo To (Vf u vv vb vs wb wp wd)::ev lu 30 (uC u vv vb vs)::cs):=⟨_,rfl⟩
 refine Bf I (λk x1 x3 x4 x5 h1 hi=>?_) (k:=u.blocks.length) ?_;rotate_left
 ·rw[hI];exact⟨F,0,rfl,by omega,Sn.refl _ _,H0⟩
 rw[hI]at hi;obtain⟨F1,i,⟨⟩,hk,s1,Y⟩:=hi;unfold rF;refine oF (Y.ld 1 rfl rfl) (ed (hu.since s1).b.len ?_);by_cases hi:i<u.blocks.length;rotate_left
 ·exact iJ (H F1 h1 s1 Y.tail.tail)
 refine gG ?_;have K:=gW hi;generalize u.blocks[i]=B at*;obtain⟨l1,o1,bv,bn,bp,_,x1,x2,iv,iN,ip,_⟩:=(hu.since s1).nf K;refine oF (Y.ld 1 rfl rfl) (ed x1 (ed x2 ?_));refine ir Y rfl rfl (by simp only[kI,ey,iv.one,iN.one,ip.one];rfl) λh2 H2 s2=>?_;generalize h1.next=lx at*;have H2:ej F1 h2 (ev lx 47 (kI B bv bn bp)::_):=H2;have iv:=iv.since s2;have aj:=s1.trans s2;have Dg:∀{A d},Sn F h A d->ej A d (ev lx 47 (kI B bv bn bp)::ev lo To (Vf u vv vb vs wb wp wd)::ev lu 30 (uC u vv vb vs)::cs)->oP (en .add 3 (V.I i) (V.I 1)) λZ=>BK I k [.ptr lu 0,pv,.ptr lo 0,Z] d:=λ{A d} f s=>by
  refine fL ⟨k-1,by omega,?_⟩;rw[hI];exact⟨A,i+1,rfl,by omega,f,s.tail⟩
 have au:=CZ g K;obtain⟨I6,M⟩:∃I:Nat->LP,I=λk l h'=>∃(F':Nat->Prop) (m:Nat),l=[.ptr lu 0,pv,.ptr lo 0,.I i,.ptr lx 0,.I m]/\m+k=B.ef.length/\Sn F h F' h'/\Sn F1 h2 F' h'/\ej F' h' (ev lx 47 (kI B bv bn bp)::ev lo To (Vf u vv vb vs wb wp wd)::ev lu 30 (uC u vv vb vs)::cs):=⟨_,rfl⟩
 refine Bm I6 (λk6 x1 x3 x4 x5 x6 x7 S aa=>?_) (k:=B.ef.length) ?_;rotate_left
 ·rw[M];exact⟨F1,0,rfl,by omega,aj,Sn.refl _ _,H2⟩
 rw[M]at aa;clear H2 Y;obtain⟨F3,m,⟨⟩,aw,C,ab,z⟩:=aa;unfold sN;have ac:=iv.since ab;refine oF (z.ld 0 rfl rfl) (ed ac.len ?_);have u3:=hu.since C;by_cases hm:m<B.ef.length
 ·refine gG ?_;have hv:=gW hm;generalize B.ef[m]=v at*;have D:At u v i m:=⟨B,K,hv⟩
  obtain⟨x,N⟩:∃x,u.ef[v]? =some x:=⟨_,gW (g.jE v i m D)⟩
  obtain⟨l4,o4,ak,y1,y2⟩:=ac.nat hv .i64;obtain⟨l5,o5,w,al,T,z2,xw,_⟩:=u3.val N;refine oF (z.ld 2 rfl rfl) (oF (z.ld 0 rfl rfl) (ed y1 (ed y2 (ed T (ed z2 ?_)))));rw[gR];obtain⟨H4,s4⟩:=z.zo 49 [V.I 0,V.I 0,V.I 0,V.I 0,V.ee,V.I 0];have g4:(S.new (.cells 49 1 true false [V.I 0,V.I 0,V.I 0,V.I 0,V.ee,V.I 0])).get S.next=some (.cells 49 1 true false [V.I 0,V.I 0,V.I 0,V.I 0,V.ee,V.I 0]):=fg _ _;generalize S.new (.cells 49 1 true false [V.I 0,V.I 0,V.I 0,V.I 0,V.ee,V.I 0])=h4 at*;refine⟨by simp_all,G0 z2 (s4.fh _ al),iK y2 (s4.fh _ ak),H4.ld 1 rfl rfl,H4.ld 3 rfl rfl,?_⟩;obtain⟨h5,e5,n5,H5,s5⟩:=H4.Zx 0 (ws:=my x w) (n:=6) rfl rfl rfl (by simp only[my,ey,xw.one];rfl);rw[e5,ei];simp only[je]at H5;refine⟨n5,ed (H5.zb 0 rfl rfl) ?_⟩;generalize S.next=U at*;have O:=s4.trans s5;refine N1 H5 (xw.since O) λF6 h6 uv s6 H6 r6=>?_;have ax:=Jx λh=>O3 g N h;have am:=(C.trans O).trans s6;have an:=(ab.trans O).trans s6;clear H5 H4 e5 n5;obtain⟨I7,P⟩:∃I:Nat->LP,I=λk l h'=>∃(F':Nat->Prop) (j:Nat),l=[.ptr lu 0,pv,.ptr lo 0,.I i,.ptr lx 0,.I m,.ptr U 0,uv,.I j]/\j+k=(iH x).length/\Sn F h F' h'/\Sn F6 h6 F' h'/\ej F' h' (ev U 49 (my x w)::ev lx 47 (kI B bv bn bp)::ev lo To (Vf u vv vb vs wb wp wd)::ev lu 30 (uC u vv vb vs)::cs):=⟨_,rfl⟩
  refine A7 I7 (λk7 x1 x3 x4 x5 x6 x7 x8 x9 ay h7 ae=>?_) (k:=(iH x).length) ?_;rotate_left
  ·rw[P];exact⟨F6,0,rfl,by omega,am,Sn.refl _ _,H6⟩
  rw[P]at ae;clear H6;obtain⟨F7,j,⟨⟩,aA,t,R,L⟩:=ae;unfold rS;have r7:=r6.since R;refine ed r7.len ?_;have u7:=hu.since t;by_cases hj:j<(iH x).length
  ·refine gG ?_;have ha:=gW hj;have ao:=AW hj;generalize (iH x)[j]=a at*;obtain⟨l8,o8,_,q1,q2⟩:=r7.nat ha .i64;have ag:∀{d},Sn F7 h7 F7 d->ej F7 d (ev U 49 (my x w)::ev lx 47 (kI B bv bn bp)::ev lo To (Vf u vv vb vs wb wp wd)::ev lu 30 (uC u vv vb vs)::cs)->ko CS Q (BK I k) (BK I6 k6) (BK I7 k7) [.ptr lu 0,pv,.ptr lo 0,.I i,.ptr lx 0,.I m,.ptr U 0,uv,.I j] d:=λ{d} f s=>by
    refine AO ?_;unfold qm;refine fL ⟨k7-1,by omega,?_⟩;rw[P];exact⟨F7,j+1,rfl,by omega,t.trans f,R.trans f,s⟩
   refine oF (L.ld 0 rfl rfl) (fX ?_);by_cases c:x.op=21
   ·refine gi (by omega) ?_;obtain⟨_,aB⟩:=g.CJ v i m x B D N c K;have ap:iH x=x.args:=by unfold iH;rw[if_pos c]
    rw[ap]at ha hj;have y:∃p,B.eQ[j]? =some p:=by simp_all
    obtain ⟨p,y⟩:=y;obtain⟨ca,ja,E,G⟩:=Yt g (g.Dn v i m x B D N c K j a p ha y);have aq:p<u.blocks.length:=by
     have hm:=Dh y;rw[g.eQ i B K]at hm;obtain⟨q,B',h1,_,S⟩:=uF.1 hm;have:=(jP.1 h1).1;omega
    obtain⟨la,oa,wr,_,t1,t2,t3⟩:=(r.since t).list (ai i hi) .i64;rw[g.eQ i B K]at y;obtain⟨lc,oc,_,t4,t5⟩:=t3.nat y .i64;refine ed (L.zb 2 rfl rfl) (ed q1 (ed q2 (ed t1 (ed t2 (ed t4 (ed t5 ?_))))));refine Hl o L u7 (W.since t) (hp.since t) (X.since t) (k:=1073741824) E aq G λd f s=>?_;exact⟨f.next,w5 (gi rfl (ag f s))⟩
   ·refine fU (by omega) ?_;obtain⟨ca,ja,E,G⟩:=g.DD v i m x D N c a ao;refine ed (L.zb 2 rfl rfl) (ed q1 (ed q2 ?_));refine Hl o L u7 (W.since t) (hp.since t) (X.since t) E hi G λd f s=>?_;exact⟨f.next,w5 (gi rfl (ag f s))⟩
  refine iJ ?_;have z0:ez (.ptr U (0+0)) h7=some (.I x.op):=L.ld 0 rfl rfl;refine oF z0 (ed (ik ..) (ed (a:= .bool (leaves x.op)) ?_ ?_))
  ·simp only[fe,fT,z0,ik,pH];unfold leaves
   grind[Int,ieq]
  have ar:∀{A d},Sn F7 h7 A d->ej A d (ev U 49 (my x w)::ev lx 47 (kI B bv bn bp)::ev lo To (Vf u vv vb vs wb wp wd)::ev lu 30 (uC u vv vb vs)::cs)->oP (en .add 3 (V.I m) (V.I 1)) λah=>BK I6 k6 [.ptr lu 0,pv,.ptr lo 0,.I i,.ptr lx 0,ah] d:=λ{A d} f s=>by
   refine fL ⟨k6-1,by omega,?_⟩;rw[M];exact⟨A,m+1,rfl,by omega,t.trans f,(an.trans R).trans f,s.tail⟩
  cases hl:leaves x.op with
  | true=>
    obtain⟨fs,J⟩:∃fs,u.eh[x.state]? =some fs:=⟨_,gW (g.leave v x N hl)⟩
    refine gq (ed (L.zb 2 rfl rfl) (gq (ed pf (gq (ed (L.ld 0 rfl rfl) (gq (ed rfl (gq (ed rfl (wS ?_))))))))));refine Pv o g L u7 (W.since t) (hp.since t) (X.since t) J hi (λw hw=>g.Gb v i m x fs D N hl J w hw) λA d f s=>?_
    exact ed rfl (iO (fU (by simp) (ar f s)))
  | false=>
    refine g0 (g0 (g0 (g0 (g0 (GP ?_)))));exact ed rfl (iO (fU (by simp) (by grind[Sn.refl])))
 refine iJ ?_;have T:ez (.ptr lx (0+1)) S=some (.I B.fin):=z.ld 0 rfl rfl;refine oF T ?_;by_cases c2:B.fin=2
 ·obtain⟨ca,ja,E,G⟩:=Yt g (g.Dk i B K c2);refine ed (by simp_all) (gq (ed (z.zb 1 rfl rfl) (gq (ed pf (gq (ed (z.ld 0 rfl rfl) (gq (ed rfl (wS ?_)))))))));refine Hl o z u3 (W.since C) (hp.since C) (X.since C) (k:=1073741824) E hi G λd f s=>?_;have T:ez (.ptr lx (0+1)) d=some (.I B.fin):=s.ld 0 rfl rfl;refine ed rfl (fD (ed pf (fD (ed T (fD (ed (Ng (by omega)) (fD (ed rfl ?_))))))));refine g0 (g0 (g0 (g0 (GP (g0 (ed rfl (iO (fU (by simp) ?_))))))));exact Dg (C.trans f) s
 ·refine ed (Ng (by omega)) (g0 (g0 (g0 (g0 (GP (ed rfl ?_))))));refine fD (ed pf (fD (ed T ?_)));by_cases c3:B.fin=3
  ·have hs:B.state<u.eh.length:=by
    rcases g.fin i B K with⟨e,_⟩|⟨e,_⟩|⟨_,_,e⟩
    ·omega
    ·omega
    ·exact e
   have J:=gW hs;generalize u.eh[B.state]=fs at*;refine fD (ed (QL (by omega)) (fD (ed rfl ?_)));refine gq (ed (z.zb 1 rfl rfl) (gq (ed pf (gq (ed (z.ld 0 rfl rfl) (gq (ed rfl (wS ?_))))))));refine Pv o g z u3 (W.since C) (hp.since C) (X.since C) (k:=1073741824) J hi (λw hw=>Yt g (g.Gc i B fs K c3 J w hw)) λA d f s=>?_;exact gq (ed rfl (ed rfl (iO (fU (by simp) (Dg (C.trans f) s)))))
  ·refine fD (ed (Ng (by omega)) (fD (ed rfl ?_)));exact g0 (g0 (g0 (g0 (GP (g0 (ed rfl (iO (fU (by simp) (Dg C z)))))))))
theorem Rm(g:Good u)(H0:ej F h cs)(Z:DA F h u vv vb vs)(H:∀F' h',Sn F h F' h'->ej F' h' cs->Q (.bool true) h'):cP CS mq [.agg (uC u vv vb vs)] h Q:=by
 refine Ed rfl rfl ?_;unfold wo;have nv:=g.nv;have nb:=g.nb;have KC:=g.KC;refine ml H0 Z.one λh1 H1 s1=>?_;generalize h.next=lu at*;refine ed (H1.zb 0 rfl rfl) (X9 g H1 (Z.since s1) λF2 K s2 G=>?_);have ag:=s1.trans s2;refine w5 (gi rfl (ed (G.zb 0 rfl rfl) (Za g G (Z.since ag) λF3 h3 pv J q r3=>?_)));have ap:=ag.trans J;refine oF (q.ld 0 rfl rfl) (ed (Z.since ap).b.len ?_);rw[kr (z:=V.ee) rfl (by decide) (by omega),fx];obtain⟨U,s4⟩:=q.make (E:=eL eN) (ty:=iQ) (y:=[]) (u:= .ee) u.blocks.length zcK rfl;generalize h3.new (.cells iQ 1 true false (List.replicate u.blocks.length V.ee))=h4 at*;generalize h3.next=ln at*;have aa:∀b:Nat,b<u.blocks.length->((List.range u.blocks.length).map (Un.ahead u))[b]? =some (Un.ahead u b):=by simp_all
 obtain ⟨I,L⟩:∃I:Nat->LP,I=λk l h'=>∃(i:Nat) (Kh:List (List Nat)),l=[.ptr lu 0,pv,.slice ln 0 u.blocks.length,.I i]/\i+k=u.blocks.length/\Sn F3 h3 F3 h'/\Kh.length=u.blocks.length/\(∀j:Nat,j<i->Kh[j]? =some (Un.next u j))/\
   ej F3 h' (eJ (eL eN) iQ Kh (.slice ln 0 u.blocks.length)::ev lu 30 (uC u vv vb vs)::cs):=⟨_,rfl⟩
 refine BI I (λk d x3 x4 x5 h5 hi=>?_) (k:=u.blocks.length) ?_;rotate_left
 ·grind
 rw[L]at hi;clear U s4 h4 G H1 s1 s2 ag;obtain⟨i,Kh,⟨⟩,hk,R,aH,aI,S⟩:=hi;unfold rH;have A:=ap.trans R;have u5:=Z.since A;refine oF (S.ld 1 rfl rfl) (ed u5.b.len ?_);by_cases hi:i<u.blocks.length
 ·refine gG ?_;have r:=gW hi;generalize u.blocks[i]=B at*;obtain⟨l1,o1,bv,bn,bp,_,d,x2,iv,iN,ip,xb⟩:=u5.nf r;refine oF (S.ld 1 rfl rfl) (ed d (oF xb.next ?_));obtain⟨l6,o6,h6,e1,e2,_,f,C⟩:=S.Jj 0 rfl (k:=i) (y:=B.next) (u:=bn) (by omega) rfl iN.one ⟨bn,rfl,iN⟩;refine ed e1 ?_;rw[e2,ei];simp only[je]at f;have M:=A.trans C;have u6:=Z.since M;have r6:=(r3.since R).since C;have a7:=iN.since C;obtain⟨l7,o7,a8,a9,ba,_,y1,_,_,_,aJ,yb⟩:=u6.nf r;rw[d]at y1;cases y1;obtain⟨l8,o8,pr,_,z1,z2,zr⟩:=r6.list (aa i hi) .i64;refine oF (f.ld 1 rfl rfl) (ed d (oF yb.eQ (ed z1 (ed z2 ?_))));refine zbj aJ (by rw[g.eQ i B r];exact zr) (by grind[Et]) ?_;refine⟨iZ _,w5 (gi rfl ?_)⟩;have k3:ez (.ptr lu (0+3)) h6=some vb:=f.ld 1 rfl rfl;obtain⟨l9,o9,bb,ah,bc,_,y2,_,_,aq,_,ar⟩:=u6.nf r;rw[d]at y2;cases y2;refine oF k3 (ed d (oF ar.next (ed aq.len (ed (ik ..) ?_))));refine ed (a:= .bool false) ?_ (iO (fU (by simp) ?_))
  ·by_cases c:B.next.length=2
   ·rw [show((B.next.length:Int) == 2)=true by simp_all,oS];have aK:B.fin=2:=by
     rcases g.fin i B r with⟨_,h⟩|⟨h,_⟩|⟨_,h,_⟩
     ·omega
     ·exact h
     ·simp_all
    have tt:∀j:Nat,j<2->∃l o t l' o' w,gz 1 ah (.I (j:Nat))=some (.ptr l o)/\ez (.ptr l o) h6=some (.I (t:Nat))/\gz 1 pv (.I (t:Nat))=some (.ptr l' o')/\ez (.ptr l' o') h6=some w/\fE w=some (.I ((1:Nat):Int)):=λj hj=>by
     have ht:=gW (show j<B.next.length by omega);have N:=AW (show j<B.next.length by omega);have aL:=g.HC i B r aK _ N;have aM:B.next[j]<u.blocks.length:=g.nx i _ (by grind[next]);obtain⟨l,o,_,q1,q2⟩:=aq.nat ht .i64;obtain⟨l',o',w,_,q3,q4,q5⟩:=r6.list (aa _ aM) .i64;exact⟨l,o,_,l',o',w,q1,q2,q3,q4,by rw[q5.len,aL]⟩
    obtain⟨a1,a2,a3,a4,a5,a6,b1,b2,b3,b4,b5⟩:=tt 0 (by omega);obtain⟨c1,c2,c3,c4,c5,c6,d1,d2,d3,d4,d5⟩:=tt 1 (by omega);have b1:gz 1 ah (.I 0)=some (.ptr a1 a2):=b1;have d1:gz 1 ah (.I 1)=some (.ptr c1 c2):=d1;simp only[fe,fT,k3,d,ar.next,b1,b2,b3,b4,b5,d1,d2,d3,d4,d5,YR (show(((1:Nat):Int))=1 from rfl),mF]
   ·rw[show((B.next.length:Int) == 2)=false by grind,Ew]
  ·refine fL ⟨k-1,by omega,?_⟩;rw[L];refine⟨i+1,_,rfl,by omega,R.trans C,by simp_all,λj hj=>?_,f⟩
   grind[O9,next,Kk]
 refine iJ ?_;obtain rfl:i=u.blocks.length:=by omega
 clear hk hi k L I;have r5:=r3.since R;obtain⟨l6,o6,pr,_,z1,z2,zr⟩:=r5.list (aa 0 (by omega)) .i64;have z1:gz 1 pv (.I 0)=some (.ptr l6 o6):=z1;refine ed z1 (ed z2 (ed zr.len (Ik (fU (by rw[g.Cl];simp) ?_))));obtain⟨f,C,rn⟩:=S.jI 0 rfl;simp only[je]at f;have f:=f.tail;have W:=Zj g aH aI;generalize aN:(λl=>F3 l\/Loc (V.slice ln 0 u.blocks.length) l)=P at*;have M:=A.trans C;have r6:=r5.since C;have u6:=Z.since M;clear S R q aN r5 r3 u5 A z1 z2 zr;refine Na W (-1) f rn λh7 sv seen s7 H7 aO aP=>?_;have au:∀b:Nat,b<u.blocks.length->seen[b]? =some true:=λb hb=>by
  obtain⟨l,hl⟩:=g.reach b hb;exact(aP b).2 ⟨l,hl,λx _=>by omega⟩
 refine BB (λk l h'=>∃i:Nat,l=[.ptr lu 0,pv,.slice ln 0 u.blocks.length,sv,.I (i:Nat)]/\i+k=u.blocks.length/\h' = h7) ?_ (k:=u.blocks.length) ⟨0,rfl,by omega,rfl⟩;rintro k _ _ _ _ _ h7 ⟨i,⟨⟩,hk,rfl⟩;unfold rB;refine ed (H7.len 0 rfl) ?_;rw[aO];by_cases hi:i<u.blocks.length
 ·refine gG ?_;obtain⟨l8,o8,y1,y2⟩:=H7.LO 0 rfl (au i hi) .i64;refine ed y1 (ed y2 (w5 (gi rfl ?_)));exact fL ⟨k-1,by omega,i+1,rfl,by omega,rfl⟩
 refine iJ ?_;clear hk hi k i;have H7:=H7.tail;have ai:=M.trans s7;refine oF (H7.ld 0 rfl rfl) (ed (Z.since ai).v.len ?_);rw[kr (z:=V.I 0) rfl (by decide) (by omega),fx];obtain⟨H8,s8⟩:=H7.make (E:=eN) (ty:=eo) (y:=0) (u:=V.I 0) u.ef.length rfl rfl;generalize h7.new (.cells eo 1 true false (List.replicate u.ef.length (V.I 0)))=h8 at*;generalize h7.next=lb at*;have aw:=ai.trans s8;refine oF (H8.ld 1 rfl rfl) (ed (Z.since aw).v.len ?_);rw[kr (z:=V.I 0) rfl (by decide) (by omega),fx];obtain⟨H9,s9⟩:=H8.make (E:=eN) (ty:=eo) (y:=0) (u:=V.I 0) u.ef.length rfl rfl;generalize h8.new (.cells eo 1 true false (List.replicate u.ef.length (V.I 0)))=h9 at*;generalize h8.next=lp at*;have X:=(s7.trans s8).trans s9;clear H8 H7 s8 s7 ai aw f;have u9:=u6.since X;have r9:=r6.since X;have aQ:=rn.since X;have aR:=M.trans X;clear X M s9 u6 r6 rn
 obtain ⟨I,L⟩:∃I:Nat->LP,I=λk l h'=>∃(i:Nat) (nf Ip:List Nat),l=[.ptr lu 0,pv,.slice ln 0 u.blocks.length,.slice lb 0 u.ef.length,.slice lp 0 u.ef.length,.I i]/\i+k=u.blocks.length/\Sn P h9 P h'/\PlR u i 0 nf Ip/\
   ej P h' (eJ eN eo Ip (.slice lp 0 u.ef.length)::eJ eN eo nf (.slice lb 0 u.ef.length)::ev lu 30 (uC u vv vb vs)::cs):=⟨_,rfl⟩
 refine BA I (λk d x3 x4 x5 x6 x7 h1 hi=>?_) (k:=u.blocks.length) ?_;rotate_left
 ·rw[L];exact⟨0,_,_,rfl,by omega,Sn.refl _ _,⟨W9,W9,λv c m _ hc=>by omega⟩,H9⟩
 rw[L]at hi;clear H9;obtain⟨i,nf,Ip,⟨⟩,hk,s1,P1,H1⟩:=hi;unfold se;have u1:=u9.since s1;refine oF (H1.ld 2 rfl rfl) (ed u1.b.len ?_);by_cases hi:i<u.blocks.length
 ·refine gG ?_;have r:=gW hi;generalize u.blocks[i]=B at*;have bd:=CZ g r
  obtain ⟨I4,aj⟩:∃I:Nat->LP,I=λk l h'=>∃(j:Nat) (fst:Bool) (nf Ip:List Nat),l=[.ptr lu 0,pv,.slice ln 0 u.blocks.length,.slice lb 0 u.ef.length,.slice lp 0 u.ef.length,.I i,.bool fst,.I j]/\j+k=B.ef.length/\Sn P h9 P h'/\PlR u i j nf Ip/\
    (fst=true↔∀(m w:Nat) (y:Vl),m<j->B.ef[m]? =some w->u.ef[w]? =some y->hZ y.op=true)/\
    ej P h' (eJ eN eo Ip (.slice lp 0 u.ef.length)::eJ eN eo nf (.slice lb 0 u.ef.length)::ev lu 30 (uC u vv vb vs)::cs):=⟨_,rfl⟩
  refine A5 I4 (λk4 d x3 x4 x5 x6 x7 x8 x9 K ax=>?_) (k:=B.ef.length) ?_;rotate_left
  ·rw[aj];exact⟨0,true,nf,Ip,rfl,by omega,s1,P1,⟨λ_ m _ _ N=>by omega,λ_=>rfl⟩,H1⟩
  rw[aj]at ax;clear H1 P1 u1 s1 nf Ip;obtain⟨j,fst,nf,Ip,⟨⟩,be,s2,P2,ae,G⟩:=ax;unfold th;have u2:=u9.since s2;obtain⟨l1,o1,bv,bn,bp,ab,d,_,iv,_,_,xb⟩:=u2.nf r;refine oF (G.ld 2 rfl rfl) (ed d (oF xb.ef (ed iv.len ?_)));by_cases hj:j<B.ef.length;rotate_left
  ·refine iJ ?_;obtain rfl:j=B.ef.length:=by omega
   refine fL ⟨k-1,by omega,?_⟩;rw[L];exact⟨i+1,nf,Ip,rfl,by omega,s2,P2.next r,G⟩
  refine gG ?_;have hv:=gW hj;generalize B.ef[j]=v at*;have p:At u v i j:=⟨B,r,hv⟩
  have ak:=g.jE v i j p;obtain⟨x,hx⟩:∃x,u.ef[v]? =some x:=⟨_,gW ak⟩
  obtain⟨l4,o4,ac,y1,y2⟩:=iv.nat hv .i64;obtain⟨l5,o5,w,aS,z1,z2,xw,_⟩:=u2.val hx;refine oF (G.ld 2 rfl rfl) (oF (G.ld 2 rfl rfl) (ed d (oF xb.ef (ed y1 (ed y2 (ed z1 (ed z2 ?_)))))));rw[gR];obtain⟨q,J⟩:=G.zo 49 [V.I 0,V.I 0,V.I 0,V.I 0,V.ee,V.I 0];have g3:(K.new (.cells 49 1 true false [V.I 0,V.I 0,V.I 0,V.I 0,V.ee,V.I 0])).get K.next=some (.cells 49 1 true false [V.I 0,V.I 0,V.I 0,V.I 0,V.ee,V.I 0]):=fg _ _;generalize K.new (.cells 49 1 true false [V.I 0,V.I 0,V.I 0,V.I 0,V.ee,V.I 0])=h3 at*;refine⟨⟨g3,O.kF _ _ _ _ _⟩,G0 z2 (J.fh _ aS),iK y2 (J.fh _ ac),iK xb.ef (J.fh _ ab),q.ld 3 rfl rfl,q.ld 3 rfl rfl,?_⟩;obtain⟨h4,e4,n4,U,s4⟩:=q.Zx 0 (ws:=my x w) (n:=6) rfl rfl rfl (by simp only[my,ey,xw.one];rfl);rw[e4,ei];simp only[je]at U;refine⟨n4,?_⟩;generalize K.next=ly at*;have ay:ez (.ptr l1 (o1+0)) h4=some bv:=iK (iK xb.ef (J.fh _ ab)) (s4.fh _ ab);have aA:ez (.ptr l4 o4) h4=some (.I v):=iK (iK y2 (J.fh _ ac)) (s4.fh _ ac);refine oF (U.ld 3 rfl rfl) (ed d (oF ay (ed y1 (ed aA ?_))));obtain⟨l6,o6,h5,e5,e6,n5,S,R⟩:=U.Jj 2 rfl (k:=v) (y:=i) (u:=V.I i) (by rw[P2.nb];exact ak) rfl rfl rfl;refine ed e5 ?_;rw[e6,ei];simp only[je,mA]at S;have aT:ez (.ptr l1 (o1+0)) h5=some bv:=iK ay (R.fh _ ab);have aU:ez (.ptr l4 o4) h5=some (.I v):=iK aA (R.fh _ ac);refine oF (S.ld 3 rfl rfl) (ed d (oF aT (ed y1 (ed aU ?_))));obtain⟨l7,o7,h6,e7,e8,n6,f,C⟩:=S.Jj 1 rfl (k:=v) (y:=j) (u:=V.I j) (by rw[P2.np];exact ak) rfl rfl rfl;refine ed e7 ?_;rw[e8,ei];simp only[je,mA]at f;have al:=((J.trans s4).trans R).trans C;have z0:ez (.ptr ly (0+0)) h6=some (.I x.op):=f.ld 0 rfl rfl;have z4:ez (.ptr ly (0+4)) h6=some w:=f.ld 0 rfl rfl;have w6:=xw.since al;have r6:=(r9.since s2).since al;obtain⟨lr,bf,pr,_,p1,p2,p3⟩:=r6.list (aa i hi) .i64;have aV:hZ x.op=true->fst=true:=λhh=>ae.2 (Up g r p hx hh);refine oF z0 (ed (ik ..) (ed (a:= .bool (hZ x.op)) (by simp only[fe,fT,z0,ik,pH,WH]) (ed (a:= .bool false) ?_ (pQ ?_ (pQ ?_ (iO (fU (by simp) ?_)))))))
  ·show jO _ (some (V.bool (!fst)))=_;rw[jc]
   cases hh:hZ x.op with
   |true=>rw[aV hh];rfl
   |false=>rfl
  ·simp only[fe,fT,z0];by_cases c:x.op=21
   ·obtain⟨h0,hl⟩:=g.CJ v i j x B p hx c r;rw[QL (by omega)];simp only[fe,oS,z4,w6.len,p1,p2,p3.len];rw[YR (by rw[hl,g.eQ i B r])];simp only[fe,mF];exact Ng (by omega)
   ·rw[Ng (by omega)];rfl
  ·simp only[fe,fT,z0];by_cases c:x.op=1
   ·have h0:=g.par v i j x p hx c;rw[QL (by omega)];simp only[fe,oS];exact YR (by omega)
   ·rw[Ng (by omega)];rfl
  ·rw [jc];refine ed rfl (fL ⟨k4-1,by omega,?_⟩);rw[aj];refine⟨j+1,_,_,_,rfl,by omega,s2.trans al,P2.step g p,?_,f.tail⟩;rw[xg,ae];constructor
   ·rintro⟨h1,K⟩ m w' y N Y hy;by_cases e:m=j
    ·subst e;rw[hv]at Y;cases Y;rw[hx]at hy;cases hy;exact K
    ·exact h1 m w' y (by omega) Y hy
   ·intro h1;exact⟨λm w' y N Y hy=>h1 m w' y (by omega) Y hy,h1 j v x (by omega) hv hx⟩
 refine iJ ?_;obtain rfl:i=u.blocks.length:=by omega
 clear hk hi k L I;refine AU H1 λK G s2=>?_;generalize h1.next=lq at*;obtain⟨Tp,G⟩:∃T,ej P K (ev lq T ((List.replicate 40 false).map V.bool)::eJ eN eo Ip (.slice lp 0 u.ef.length)::eJ eN eo nf (.slice lb 0 u.ef.length)::ev lu 30 (uC u vv vb vs)::cs):=⟨_,G⟩
 obtain ⟨I,L⟩:∃I:Nat->LP,I=λk l h'=>∃(i:Nat) (ps:List Bool),l=[.ptr lu 0,pv,.slice ln 0 u.blocks.length,.slice lb 0 u.ef.length,.slice lp 0 u.ef.length,.ptr lq 0,.I i]/\i+k=u.ef.length/\Sn P h9 P h'/\ps.length=40/\
   (∀m:Nat,ps[m]? =some true->∃(w:Nat) (y:Vl),w<i/\u.ef[w]? =some y/\y.op=1/\y.n=(m:Int))/\
   ej P h' (ev lq Tp (ps.map V.bool)::eJ eN eo Ip (.slice lp 0 u.ef.length)::eJ eN eo nf (.slice lb 0 u.ef.length)::ev lu 30 (uC u vv vb vs)::cs):=⟨_,rfl⟩
 refine Bd I (λk d x3 x4 x8 x9 bg bh h3 hi=>?_) (k:=u.ef.length) ?_;rotate_left
 ·rw[L];refine⟨0,_,rfl,by omega,s1.trans s2,W9,λm N=>?_,G⟩;rw[wBz]at N;split at N <;> cases N
 rw[L]at hi;clear G H1 u1 s1 s2;obtain⟨i,ps,⟨⟩,hk,J,aB,am,q⟩:=hi;unfold sq;have u3:=u9.since J;refine oF (q.ld 3 rfl rfl) (ed u3.v.len ?_);by_cases hi:i<u.ef.length
 ·refine gG ?_;have hx:=gW hi;generalize u.ef[i]=x at*;obtain⟨l1,o1,w,_,d,_,_,xl⟩:=u3.val hx
  have aC:∀{h8} {Z0:List Bool},Sn P h3 P h8->Z0.length=40->(∀m:Nat,Z0[m]? =some true->∃(w:Nat) (y:Vl),w<i+1/\u.ef[w]? =some y/\y.op=1/\y.n=(m:Int))->ej P h8 (ev lq Tp (Z0.map V.bool)::eJ eN eo Ip (.slice lp 0 u.ef.length)::eJ eN eo nf (.slice lb 0 u.ef.length)::ev lu 30 (uC u vv vb vs)::cs)->
    ki CS Q (BK I k) [.ptr lu 0,pv,.slice ln 0 u.blocks.length,.slice lb 0 u.ef.length,.slice lp 0 u.ef.length,.ptr lq 0,.I i] h8:=λ{h8 Z0} s8 hl hp H8=>by
   refine Ax ?_;unfold qn;refine fL ⟨k-1,by omega,?_⟩;rw[L];exact⟨i+1,Z0,rfl,by omega,J.trans s8,hl,hp,H8⟩
  have aD:∀m:Nat,ps[m]? =some true->∃(w:Nat) (y:Vl),w<i+1/\u.ef[w]? =some y/\y.op=1/\y.n=(m:Int):=λm N=>by
   obtain⟨w,y,h1,K⟩:=am m N;exact⟨w,y,by omega,K⟩
  refine oF (q.ld 3 rfl rfl) (ed d (oF xl.op (fX ?_)));by_cases c:x.op=1
  ·refine gi (by omega) ?_;obtain⟨n1,n2,n3⟩:=g.param i x hx c;obtain⟨m,N⟩:=wBG n1;have aW:m<40:=by omega
   have xn:=xl.n;rw[N]at xn;have eq:=zab (n:=1) (l:=lq) (o:=0) (kd:= .i64) aW;have an:=gW (show m<ps.length by omega);have aX:ps[m]? =some false:=by
    cases e:ps[m]with
    | true=>
      rw[e]at an;obtain⟨w',y,h1,K,h3,h4⟩:=am m an;have:=n3 w' y K h3 (by omega)
      omega
    |false=>rw[an,e]
   have aY:ez (.ptr lq (0+m*1)) h3=some (.bool false):=q.ld 0 rfl (by rw[zj,Nat.mul_one,CH,aX];rfl);refine oF (q.ld 3 rfl rfl) (ed d (oF xn (ed eq (ed aY (iO (fU (by simp) ?_))))));refine oF (q.ld 3 rfl rfl) (ed d (oF xn (ed eq ?_)));obtain⟨h4,e4,_,U,s4⟩:=q.st 0 (o:=m) (u:=V.bool true) rfl (by rw[DL];omega) rfl;have aZ:gI 1 (.ptr lq (0+m*1)) (V.bool true) h3=some (.val .undef h4):=by rw[zj,Nat.mul_one];exact e4
   rw[aZ,ei];simp only[je]at U;refine aC s4 (Z0:=ps.set m true) (by rw[LU];exact aB) (λm' aE=>?_) (by rw[List.map_set];exact U);by_cases e:m' = m
   ·subst e;exact⟨i,x,by omega,hx,c,N⟩
   ·rw[Kk λh=>e h.symm]at aE;exact aD m' aE
  ·exact fU (by omega) (aC (Sn.refl _ _) aB aD q)
 refine iJ ?_;clear hk hi k L I am i;obtain⟨U,s4,r4⟩:=q.tail.jI 0 rfl;simp only[je]at U;obtain⟨S,R,r5⟩:=U.tail.jI 0 rfl;simp only[je]at S;have ao:=s4.trans R;have A:=(aR.trans J).trans ao;refine za4 W S.tail ((aQ.since J).since ao) λbi h6 dv N7 C f r6 D=>?_;refine ed (f.zb 0 rfl rfl) ?_;have aF:=(r4.since R).since C;have aG:=r5.since C;refine ed (a:= .agg (Vf u vv vb vs (.slice lb 0 u.ef.length) (.slice lp 0 u.ef.length) dv)) ?_ ?_
 ·rcases r6 with⟨rfl,_⟩|⟨_,_,_,_,_,_,rfl,_⟩ <;> rfl
 have u6:=Z.since (A.trans C);refine ir f rfl rfl (by simp only[Vf,ey,u6.v.one,u6.b.one,u6.s.one,aF.one,aG.one,r6.one];rfl) λh7 H7 s7=>?_;refine zbe g ⟨λv b k p=>?_,D⟩ H7 (u6.since s7) (aG.since s7) (aF.since s7) (r6.since s7) ((((r9.since J).since ao).since C).since s7) λF8 h8 s8 H8=>H F8 h8 (((A.trans C).trans s7).trans s8) H8;refine P1.yes v b k p (.inl ?_);obtain⟨B,r,_⟩:=p;exact(jP.1 r).1
end
