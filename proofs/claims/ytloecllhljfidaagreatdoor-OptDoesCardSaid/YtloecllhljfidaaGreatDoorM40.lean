/- Parts. -/
import Derived.Test.YtloecllhljfidaaGreatDoorM39
import Derived.Test.YtloecllhljfidaaGreatDoorM30
set_option maxHeartbeats 4000000
namespace Go.Proofs.YtloecllhljfidaaGreatDoor.Hx
open Un Dm
variable{b:Int}{t:Nat}
theorem TX{w:Bool}{X:Option V}{K:V->Prop}(h:K .undef):oP (fH w .undef) λb=>oP (gV b X) K:=by cases w <;> exact h
theorem zgj{w:Bool}{C:kW}{f:Nat}{a:List V}{h:Hp}{K:fq}(H:K .undef h):oP (fH w .undef) λb=>oP (gC b (some (f,a))) λy=>vB C y h K:=by cases w <;> exact H
theorem Xs{k:IntKind}{a:Int}(h:¬b<a):ez .gtr t (.int k a) (.int k b)=some (.bool false):=by simp_all
theorem ze8{k:IntKind}{a:Int}(h:¬a<b):ez .lss t (.int k a) (.int k b)=some (.bool false):=by simp_all
theorem YO{k:IntKind}{a:Int}(h:a=b):ez .neq t (.int k a) (.int k b)=some (.bool false):=by simp_all
theorem Sd{k:IntKind}{a:Int}(h:a=b):ez .eql t (.int k a) (.int k b)=some (.bool true):=by simp_all
theorem NH{k:IntKind}{a:Int}(h:a≠b):ez .eql t (.int k a) (.int k b)=some (.bool false):=by simp_all
section
variable{F F':Nat->Prop}{h h':Hp}{cs:List Pc}{Q:fq}{u:U}{vv vb vs:V}
theorem zdj{u:U}(g:Good u)(b:Nat):(pre u b).length<=u.ej.length:=iP _ _ (Iu g b) λv hv=>by
 let⟨c,k,a,_⟩:=Ku.1 hv
 exact g.iM _ _ _ a
theorem Zh(g:Good u)(H0:ev F h cs)(hu:tL F h u vv vb vs)(H:∀F' h',Sn F h F' h'->ev F' h' cs->Q (.bool true) h'):cP CS qb [.agg (uC u vv vb vs)] h Q:=by
 refine Fc ?_;have nv:=g.nv;have nb:=g.nb;have I5:=g.I5;have ns:=g.ns;refine j4 H0 hu.one λt A O=>?_;generalize h.next=lu at*;have u1:=hu.since O;have k3:fe (.ptr lu (0+3)) t=some vb:=A.ld 0 rfl rfl;have M:fe (.ptr lu (0+4)) t=some vs:=A.ld 0 rfl rfl;refine oF (A.ld 0 rfl rfl) (eh u1.v.len (eh (Xs (by omega)) ?_));refine qt (by simp[ gf,k3,u1.b.len];grind) ?_;refine qt (by simp[ gf,k3,u1.b.len];grind) ?_;refine qt (by simp[ gf,M,u1.s.len];grind) (iB (fP (by simp) ?_));refine BG (λk l h'=>∃F' i,l=[.ptr lu 0,.I (i:Nat)]/\i+k=u.eo.length/\Sn F h F' h'/\ev F' h' (eJ lu 30 (uC u vv vb vs)::cs)) ?_ (k:=u.eo.length) (by grind);rintro k _ _ t ⟨F1,i,⟨⟩,hk,O,A⟩;unfold uc;have u1:=hu.since O;have k2:fe (.ptr lu (0+2)) t=some vv:=A.ld 0 rfl rfl;have M:fe (.ptr lu (0+4)) t=some vs:=A.ld 0 rfl rfl;refine oF M (eh u1.s.len ?_);by_cases hi:i<u.eo.length
 ·refine gy ?_;have ac:=gN hi;generalize u.eo[i]=fs at*
  let⟨q1,q2,q3⟩:=g.st i fs ac
  let⟨l1,o1,f,_,P,x2,x3,xf⟩:=u1.st ac
  have x3:fe (.ptr l1 (o1+0)) t=some f:=x3;refine oF M (eh P (oF x3 (eh xf.len (eh (ze8 (by omega)) ?_))));refine qt (by simp only[ft,gf,M,P,x3,xf.len];grind[Xs]) (iB (fP (by simp) ?_));refine Bj (λk l h'=>∃j,l=[.ptr lu 0,.I i,.I (j:Nat)]/\j+k=fs.length/\h' = t) ?_ (k:=fs.length) (by simp_all);rintro k1 _ _ _ _ ⟨j,⟨⟩,bG,rfl⟩;unfold tF;refine oF M (eh P (oF x3 (eh xf.len ?_)));by_cases hj:j<fs.length
  ·refine gy ?_;have hf:=gN hj
   let⟨r1,r2,_⟩:=q3 _ (zI hj)
   let⟨l2,o2,a,b,_,G,J,y3,ya,yb⟩:=xf.zeR hf
   refine oF M (eh P (oF x3 (eh G (oF J (eh ya.len (eh (Xs (by omega)) ?_))))));refine qt (by simp only[ft,gf,M,P,x3,G,y3,yb.len];grind[Xs]) (iB (fP (by simp) ?_));exact fF ⟨k1-1,by omega,j+1,rfl,by omega,rfl⟩
  ·refine hY ?_;refine oF M (eh P (eh x2 ?_));refine Qe A xf (by simp_all) λF2 d fv N q r2=>?_;have bH:=Fp (EC g i fs ac).2;have ad:=O.trans N;have u2:=u1.since N;have k2:fe (.ptr lu (0+2)) d=some vv:=q.ld 0 rfl rfl;refine BN (λk l h'=>∃j,l=[.ptr lu 0,.I i,fv,.I (j:Nat)]/\j+k=(gL fs).length/\h' = d) ?_ (k:=(gL fs).length) (by simp_all);rintro R _ _ _ _ _ ⟨j,⟨⟩,au,rfl⟩;unfold td;refine eh r2.len ?_;by_cases hj:j<(gL fs).length
   ·refine gy ?_;have hx:=gN hj;obtain⟨x,C,S⟩:mq u (gL fs)[j]:=by
     grind[zI,gL]
    have ae:=(jo.1 C).1
    let⟨l3,o3,_,G,J⟩:=r2.nat hx .i64
    let⟨l4,o4,_,_,z1,_,_,z2⟩:=u2.val C
    refine eh G (eh J (oF k2 (eh u2.v.len (MI ae ⟨iZ _,?_⟩))));refine eh rfl (fG (eh pf (fG (eh k2 (fG (eh rfl (fG (eh rfl (fG (eh G (fG (eh J (fG (eh z1 (fG (eh pf (fG (eh z2.op (xx (Vf ?_))))))))))))))))))));rw[S];refine⟨iZ _,eh rfl (iB (fP (by simp) ?_))⟩;exact fF ⟨R-1,by omega,j+1,rfl,by omega,rfl⟩
   ·refine hY ?_;exact fF ⟨k-1,by omega,F2,i+1,rfl,by omega,ad,q⟩
 refine hY ?_;refine BM (λk l h'=>∃(F':Nat->Prop) (i:Nat),l=[.ptr lu 0,.I i]/\i+k=u.ej.length/\Sn F h F' h'/\ev F' h' (eJ lu 30 (uC u vv vb vs)::cs)) ?_ (k:=u.ej.length) (by grind);rintro k _ _ t ⟨F1,i,⟨⟩,hk,O,A⟩;unfold tS;have u1:=hu.since O;refine oF (A.ld 0 rfl rfl) (eh u1.v.len ?_);by_cases hi:i<u.ej.length
 ·refine gy ?_;have hx:=gN hi;generalize u.ej[i]=x at*
  let⟨l1,o1,w,_,P,x2,xw,_⟩:=u1.val hx
  refine oF (A.ld 0 rfl rfl) (eh P (eh x2 ?_));refine gQ A rfl rfl (by simp only[mh,eQ,xw.one];rfl) λd q N=>?_;generalize t.next=lx at*;have u2:=u1.since N;have w2:=xw.since N;have z0:fe (.ptr lx (0+0)) d=some (.I x.op):=q.ld 0 rfl rfl;have z3:fe (.ptr lx (0+3)) d=some (.I x.n):=q.ld 0 rfl rfl;have z4:fe (.ptr lx (0+4)) d=some w:=q.ld 0 rfl rfl;have z5:fe (.ptr lx (0+5)) d=some (.I x.state):=q.ld 0 rfl rfl;have M:fe (.ptr lu (0+4)) d=some vs:=q.ld 1 rfl rfl
  let⟨ho1,ho2⟩:=g.op i x hx
  refine oF z0 (eh (ze8 (by omega)) ?_);refine qt (by grind[ft,gf,Xs]) ?_;refine qt ?_ ?_
  ·simp only[ft,gf,z0];by_cases c:x.op=20
   ·rw[Sd (by omega)];simp only[ft,pt,z4,w2.len];exact YO (by rw[g.putAt i x hx c];rfl)
   ·rw[NH (by omega)];rfl
  refine fG (eh pf (fG (eh z0 ?_)));have kA:oP (nY (.bool false) (oB (fI 0 (V.ptr lx 0)) λaw=>oB (fe aw d) λax=>oB (ez .eql 3 ax (V.I 1)) λay=>oB (some ay) λaA=>jI aA (oB (fI 3 (V.ptr lx 0)) λaB=>oB (fe aB d) λaC=>ez .gtr 2 aC (V.I 1073741824)))) λv=>v = .bool false:=by
   refine qt ?_ rfl;simp only[ft,gf,z0];by_cases c:x.op=1
   ·rw[Sd (by omega)];simp[ft,pt,z3]
    let⟨n1,n2,_⟩:=g.param i x hx c
    grind[Xs]
   ·rw[NH (by omega)];rfl
  obtain⟨vA,eA,rfl⟩:=kU.1 kA
  have ab:∀K:fq,K (.bool false) d->oP (fH false (V.bool false)) λag=>oP (gV ag (fI 0 (V.ptr lx 0))) λaD=>oP (fH false (V.bool false)) λa6=>oP (gV a6 (fe aD d)) λaE=>oP (fH false (V.bool false)) λa7=>oP (gV a7 (ez .eql 3 aE (V.I 22))) λaF=>
    oP (fH false (V.bool false)) λa8=>oP (gV a8 (some aF)) λL=>oP (fH false L) λa9=>oP (gV a9 (fI 0 (V.ptr lx 0))) λaG=>oP (fH false L) λba=>oP (gV ba (fe aG d)) λaH=>oP (fH false L) λbb=>oP (gV bb (ez .eql 3 aH (V.I 23))) λaI=>
    oP (fH false (V.bool false)) λbc=>oP (gV bc (jA L (V.bool true) aI)) λaJ=>oP (fH false (V.bool false)) λbd=>oP (gV bd (some aJ)) λo=>oP (fH true o) λah=>oP (gV ah (fI 5 (V.ptr lx 0))) λT=>oP (fH true o) λai=>oP (gV ai (fe T d)) λU=>
    oP (fH true o) λaj=>oP (gV aj (fI 4 (V.ptr lu 0))) λW=>oP (fH true o) λak=>oP (gV ak (fe W d)) λX=>oP (fH true o) λal=>oP (gV al (fE X)) λY=>oP (fH true o) λam=>oP (gC am (some (gM,[U,Y]))) λan=>vB CS an d λZ h4=>
    oP (fH true o) λao=>oP (gV ao (pK .not Z)) λaa=>oP (nY (V.bool false) (jA o aa (V.bool false))) λr=>K r h4:=λK HK=>by
   refine fG (eh pf (fG (eh z0 (fG (eh (gR ..) (fG (eh rfl ?_)))))))
   have fin:∀c,c=leaves x.op->oP (fH true (V.bool c)) λah=>oP (gV ah (fI 5 (V.ptr lx 0))) λT=>oP (fH true (V.bool c)) λai=>oP (gV ai (fe T d)) λU=>
     oP (fH true (V.bool c)) λaj=>oP (gV aj (fI 4 (V.ptr lu 0))) λW=>oP (fH true (V.bool c)) λak=>oP (gV ak (fe W d)) λX=>oP (fH true (V.bool c)) λal=>oP (gV al (fE X)) λY=>oP (fH true (V.bool c)) λam=>oP (gC am (some (gM,[U,Y]))) λan=>vB CS an d λZ h4=>
     oP (fH true (V.bool c)) λao=>oP (gV ao (pK .not Z)) λaa=>oP (nY (V.bool false) (jA (V.bool c) aa (V.bool false))) λr=>K r h4:=λc hc=>by
    cases c with
    |true=>exact gw (eh pf (gw (eh z5 (gw (eh pf (gw (eh M (gw (eh u2.s.len (yF (MI (g.leave i x hx hc.symm) (gw (eh rfl (eh rfl HK))))))))))))))
    |false=>exact hV (hV (hV (hV (hV (Hg (hV (eh rfl HK)))))))
   by_cases c:x.op=22
   ·rw[show((x.op:Int) == 22)=true by simp[c]];exact QC (QC (QC (fG (eh rfl (fG (eh rfl (fin true (by rw[c];rfl))))))))
   ·rw[show((x.op:Int) == 22)=false by grind];refine fG (eh pf (fG (eh z0 (fG (eh (gR ..) (fG (eh rfl (fG (eh rfl (fin _ ?_))))))))))
    grind[Int,ieq,leaves,PG]
  have tl:kM Q [V.ptr lu 0,.I ((i+1:Nat):Int)] d=kM Q [V.ptr lu 0,.I ((i+1:Nat):Int)] d:=rfl;have last:oP (fO 6 (V.ptr lx 0) d) λaK=>cP CS kT [aK] d λaL h5=>nr Q (Es (λk l h'=>∃F' i,l=[.ptr lu 0,.I (i:Nat)]/\i+k=u.ej.length/\Sn F h F' h'/\ev F' h' (eJ lu 30 (uC u vv vb vs)::cs)) k) [.ptr lu 0,.I (i:Nat),aL,(V.I 0)] h5:=by
   refine eh (q.mY 0 rfl rfl) ?_;refine N5 q w2 λF3 h3 uv s3 H3 r3=>?_;have u3:=u2.since s3;have k2:fe (.ptr lu (0+2)) h3=some vv:=H3.ld 1 rfl rfl;have bI:=Lb λh=>Is g hx h;refine Bm (λk l h'=>∃j,l=[.ptr lu 0,.I i,uv,.I (j:Nat)]/\j+k=(gG x).length/\h' = h3) ?_ (k:=(gG x).length) (by simp_all);rintro R _ _ _ _ _ ⟨j,⟨⟩,au,rfl⟩;unfold tJ;refine eh r3.len ?_;by_cases hj:j<(gG x).length
   ·refine gy ?_;have hw:=gN hj;obtain⟨y,C,S⟩:mq u (gG x)[j]:=g.use i x hx _ (zI hj);have ae:=(jo.1 C).1
    let⟨l3,o3,_,G,J⟩:=r3.nat hw .i64
    let⟨l4,o4,_,_,z1,_,_,z2⟩:=u3.val C
    refine eh G (eh J (oF k2 (eh u3.v.len (MI ae ⟨iZ _,?_⟩))));refine eh rfl (fG (eh pf (fG (eh k2 (fG (eh rfl (fG (eh rfl (fG (eh G (fG (eh J (fG (eh z1 (fG (eh pf (fG (eh z2.op (xx (Vf ?_))))))))))))))))))));rw[S];refine⟨iZ _,eh rfl (iB (fP (by simp) ?_))⟩;exact fF ⟨R-1,by omega,j+1,rfl,by omega,rfl⟩
   ·refine hY ?_;exact fF ⟨k-1,by omega,F3,i+1,rfl,by omega,(O.trans N).trans s3,H3.tail⟩
  by_cases c1:x.op=1
  ·let⟨n1,n2,_⟩:=g.param i x hx c1
   let⟨m,hm⟩:=wBF n1
   rw[hm]at z3;refine fG (eh (Sd (by omega)) (fG (eh rfl (gw (eh pf (gw (eh z3 (yF (MI (n:=40) (by omega) (gw (eh rfl (eh rfl (eh eA ?_)))))))))))));exact ab (λr h4=>bP r _ _) (iB (fP (by simp) last))
  ·refine fG (eh (NH (by omega)) (fG (eh rfl (hV (hV (Hg (hV (eh rfl (eh eA ?_)))))))));exact ab (λr h4=>bP r _ _) (iB (fP (by simp) last))
 refine hY ?_;refine oF (A.ld 0 rfl rfl) (eh u1.v.len ?_);rw[jE (z:=V.bool false) rfl (by decide) (by omega),fu]
 let⟨q,N⟩:=A.make (E:=eB) (ty:=jZ) (y:=false) (u:=V.bool false) u.ej.length rfl rfl
 generalize t.new (.cells jZ 1 true false (List.replicate u.ej.length (V.bool false)))=d at*;generalize t.next=lk at*
 let I:Nat->LP:=λk l h'=>∃i seen,l=[.ptr lu 0,.slice lk 0 u.ej.length,.I ((pre u i).length:Nat),.I (i:Nat)]/\i+k=u.blocks.length/\Sn F h F1 h'/\seen.length=u.ej.length/\(∀v,seen[v]? =some true↔v∈pre u i)/\ev F1 h' (fg eB jZ seen (.slice lk 0 u.ej.length)::eJ lu 30 (uC u vv vb vs)::cs)
 refine BD I (λk P x2 x3 x4 h6 hi=>?_) (k:=u.blocks.length) ?_;rotate_left
 ·refine⟨0,_,rfl,by omega,O.trans N,Wt,λv=>?_,q⟩;constructor
  ·intro h;rw[wBw]at h;split at h <;> cases h
  ·intro h;simp[pre]at h
 revert h6 hi;intro t hi;obtain⟨i,seen,⟨⟩,hk,O,oS,be,A⟩:=hi;unfold tB;have u1:=hu.since O;have bJ:=zdj g i;refine oF (A.ld 1 rfl rfl) (eh u1.b.len ?_);by_cases hi:i<u.blocks.length;rotate_left
 ·refine hY ?_;obtain rfl:i=u.blocks.length:=by omega
  rw[Na g];exact oF (A.ld 1 rfl rfl) (eh u1.v.len (eh (Sd rfl) (H F1 t O A.tail.tail)))
 refine gy ?_;have hB:=gN hi;generalize u.blocks[i]=B at*
 let⟨l1,o1,bv,bn,bp,_,P,x2,iv,iN,ip,_⟩:=u1.nJ hB
 refine oF (A.ld 1 rfl rfl) (eh P (eh x2 ?_));refine gQ A rfl rfl (by simp only[ku,eQ,iv.one,iN.one,ip.one];rfl) λd q N=>?_;generalize t.next=lx at*;have q:ev F1 d (eJ lx 43 (ku B bv bn bp)::_):=q;have u2:=u1.since N;have ad:=O.trans N;have bf:=iv.since N;have aM:=iN.since N
 have ap:∀n,B.next.length=n->jk Q (Es I k)
   [.ptr lu 0,.slice lk 0 u.ej.length,.I ((pre u i).length:Nat),.I i,.ptr lx 0,.I (n:Nat)] d:=λn hn=>by
  refine A1 ?_;unfold rR;have z1:fe (.ptr lx (0+1)) d=some (.I B.fin):=q.ld 0 rfl rfl;have z2:fe (.ptr lx (0+2)) d=some (.I B.cond):=q.ld 0 rfl rfl;have z5:fe (.ptr lx (0+5)) d=some (.I B.state):=q.ld 0 rfl rfl;have k2:fe (.ptr lu (0+2)) d=some vv:=q.ld 2 rfl rfl;have M:fe (.ptr lu (0+4)) d=some vs:=q.ld 2 rfl rfl;have last:nq Q (Es I k) [.ptr lu 0,.slice lk 0 u.ej.length,.I ((pre u i).length:Nat),.I i,.ptr lx 0,.I n,.I 0] d:=by
   refine BO (λk l h'=>∃j,l=[.ptr lu 0,.slice lk 0 u.ej.length,.I ((pre u i).length:Nat),.I i,.ptr lx 0,.I n,.I (j:Nat)]/\j+k=n/\h' = d) ?_ (k:=n) ⟨0,rfl,by omega,rfl⟩;rintro R _ _ _ _ _ _ _ d ⟨j,⟨⟩,au,rfl⟩;unfold tG;by_cases hj:j<n
   ·refine gy ?_;have ht:=gN (show j<B.next.length by omega);have bg:B.next[j]<u.blocks.length:=g.nx i _ (by unfold next;rw[hB];exact zI (show j<B.next.length by omega))
    let⟨l3,o3,_,G,J⟩:=aM.nat ht .i64
    refine oF (q.ld 0 rfl rfl) (eh G (eh J (oF (q.ld 2 rfl rfl) (eh u2.b.len (MI bg ⟨iZ _,?_⟩)))));refine pY (fW rfl ?_);exact ka (m:=1) (by have:=Dh g hB;omega) (by omega) ⟨R-1,by omega,j+1,rfl,by omega,rfl⟩
   refine hY ?_
   refine BU (λk l h'=>∃(j:Nat) (seen:List Bool),l=[.ptr lu 0,.slice lk 0 u.ej.length,.I ((pre u i).length+j:Nat),.I i,.ptr lx 0,.I j]/\j+k=B.ej.length/\Sn F h F1 h'/\Sn F1 d F1 h'/\seen.length=u.ej.length/\(∀v,seen[v]? =some true↔v∈pre u i++B.ej.take j)/\ev F1 h' (eJ lx 43 (ku B bv bn bp)::fg eB jZ seen (.slice lk 0 u.ej.length)::eJ lu 30 (uC u vv vb vs)::cs)) ?_ (k:=B.ej.length)
    ⟨0,seen,rfl,by omega,ad,Sn.refl _ _,oS,λv=>by rw[be v,wBz,Lg],q⟩
   rintro k3 _ _ _ _ _ _ h3 ⟨j,sn,⟨⟩,bK,s3,aN,aO,aq,H3⟩;unfold tV;have aP:=bf.since aN;have u3:=hu.since s3;have bL:=DN g hB;refine oF (H3.ld 0 rfl rfl) (eh aP.len ?_);by_cases hj:j<B.ej.length
   ·refine gy ?_;have hv:=gN hj;have bh:=M4 hj;generalize B.ej[j]=v at*;have ar:At u v i j:=⟨B,hB,hv⟩
    have bi:=g.iM v i j ar
    let⟨l3,o3,_,G,J⟩:=aP.nat hv .i64
    have aQ:v ∉ pre u i++B.ej.take j:=λhm=>by
     rcases EG.1 hm with t|t
     ·let⟨c,m,d,h3⟩:=Ku.1 t
      have:=(g.Ao _ _ _ _ _ d ar).1;omega
     ·let⟨m,hm⟩:=mn.1 t
      rw[List.getElem?_take]at hm;split at hm
      ·have:=(g.Ao _ _ _ _ _ ⟨B,hB,hm⟩ ar).2;omega
      ·cases hm
    have bj:sn[v]? =some false:=by
     have t:=gN (show v<sn.length by omega);have d:=aq v
     cases e:sn[v]with
     |true=>rw[t,e]at d;exact absurd (d.1 rfl) aQ
     |false=>rw[t,e]
    let⟨l4,o4,w1,w2⟩:=H3.Jr 1 rfl bj .i64
    have z0:fe (.ptr lx (0+0)) h3=some bv:=H3.ld 0 rfl rfl;refine oF z0 (eh G (eh J (oF (H3.ld 2 rfl rfl) (eh u3.v.len (MI bi ⟨iZ _,?_⟩)))));refine eh rfl (qt (by simp[ft,gf,z0,G,J,w1,w2]) (iB (fP (by simp) ?_)))
    let⟨l5,o5,h4,e1,e2,_,H4,s4⟩:=H3.IH 1 rfl (k:=v) (y:=true) (u:=V.bool true) (by omega) rfl rfl rfl
    refine oF z0 (eh G (eh J (eh e1 ?_)));rw[e2,en];simp[oU,pJ]at H4;refine fF (fF ⟨k3-1,by omega,j+1,_,rfl,by omega,s3.trans s4,aN.trans s4,by rw[Lj];exact aO,λx=>?_,H4⟩);rw[bh,<-Pr,EG,<-aq x,Pl];by_cases e:x=v
    ·subst e;rw[MR (by omega)];exact⟨λ_=> .inr rfl,λ_=>rfl⟩
    ·rw[I9 λh=>e h.symm];exact⟨.inl,λh=>h.elim id λh=>absurd h e⟩
   ·refine hY ?_;obtain rfl:j=B.ej.length:=by omega
    refine fF ⟨k-1,by omega,?_⟩;refine⟨i+1,sn,?_,by omega,s3,aO,λv=>?_,H3.tail⟩
    ·rw[Ha hB,Lw]
    ·rw[aq v,I2,Ha hB]
  have c3:∀K:fq,K (.bool false) d->oP (fH false (V.bool false)) λbm=>oP (gV bm (fI 1 (V.ptr lx 0))) λaR=>oP (fH false (V.bool false)) λbo=>oP (gV bo (fe aR d)) λaS=>oP (fH false (V.bool false)) λbr=>oP (gV br (ez .eql 3 aS (V.I 3))) λaT=>oP (fH false (V.bool false)) λbt=>oP (gV bt (some aT)) λp=>
    oP (fH true p) λbu=>oP (gV bu (fI 5 (V.ptr lx 0))) λaU=>oP (fH true p) λbw=>oP (gV bw (fe aU d)) λaV=>oP (fH true p) λbx=>oP (gV bx (fI 4 (V.ptr lu 0))) λaW=>oP (fH true p) λbz=>oP (gV bz (fe aW d)) λaX=>oP (fH true p) λbA=>oP (gV bA (fE aX)) λaY=>
    oP (fH true p) λbC=>oP (gC bC (some (gM,[aV,aY]))) λbD=>vB CS bD d λaZ h3=>oP (fH true p) λag=>oP (gV ag (pK .not aZ)) λa5=>oP (nY (V.bool false) (jA p a5 (V.bool false))) λD=>K D h3:=λK HK=>by
   refine fG (eh pf (fG (eh z1 ?_)));by_cases c:B.fin=3
   ·refine fG (eh (Sd (by omega)) (fG (eh rfl ?_)));have hs:B.state<u.eo.length:=by
     rcases g.fin i B hB with⟨e,_⟩|⟨e,_⟩|⟨_,_,e⟩
     ·omega
     ·omega
     ·exact e
    exact gw (eh pf (gw (eh z5 (gw (eh pf (gw (eh M (gw (eh u2.s.len (yF (MI hs (gw (eh rfl (eh rfl HK))))))))))))))
   ·exact fG (eh (NH (by omega)) (fG (eh rfl (hV (hV (hV (hV (hV (Hg (hV (eh rfl HK)))))))))))
  refine oF (q.ld 0 rfl rfl) (eh aM.len (eh (YO (by omega)) (fG (eh pf (fG (eh z1 ?_))))));by_cases c:B.fin=2
  ·obtain ⟨y,C,S⟩:mq u B.cond:=by
    rcases g.fin i B hB with⟨e,_⟩|⟨_,_,e⟩|⟨e,_⟩
    ·omega
    ·exact e
    ·omega
   have bE:=(jo.1 C).1
   let⟨l4,o4,_,_,G,_,_,J⟩:=u2.val C
   refine fG (eh (Sd (by omega)) (fG (eh rfl ?_)));refine gw (eh pf (gw (eh z2 (gw (eh pf (gw (eh k2 (gw (eh u2.v.len (yF (MI bE ?_)))))))))));refine gw (eh rfl (gw (eh rfl ?_)));refine fG (eh pf (fG (eh k2 (fG (eh pf (fG (eh z2 (fG (eh G (fG (eh pf (fG (eh J.op (xx (Vf ?_)))))))))))))));rw[S];refine fG (eh rfl (gw (eh rfl (eh rfl ?_))));exact c3 (λD h3=>bP D _ _) (iB (fP (by simp) last))
  ·refine fG (eh (NH (by omega)) (fG (eh rfl ?_)));refine hV (hV (hV (hV (hV (Hg (hV (hV ?_)))))));refine TX (TX (TX (TX (TX (TX (TX (zgj (TX (hV (eh rfl ?_))))))))));exact c3 (λD h3=>bP D _ _) (iB (fP (by simp) last))
 have z1:fe (.ptr lx (0+1)) d=some (.I B.fin):=q.ld 0 rfl rfl;refine oF z1 (fX ?_);rcases g.fin i B hB with⟨f1,f2⟩|⟨f1,f2,_⟩|⟨f1,f2,_⟩
 ·exact fW (by omega) (ap 1 f2)
 ·exact fP (by omega) (fX (fW (by omega) (ap 2 f2)))
 ·exact fP (by omega) (fX (fP (by omega) (fX (fW (by omega) (ap 0 (by rw[f2];rfl))))))
end
open Un Dm
section
variable{F F':Nat->Prop}{h h':Hp}{cs:List Pc}{Q:fq}{u:U}{vv vb vs:V}
theorem ZJ(g:Good u){w b:Nat}(h:sP u w b):∃c j,At u w c j/\(c=b/\j<1073741824\/c≠b/\mz (next u) c b):=by
 let⟨c,j,a,d⟩:=h
 refine⟨c,j,a,?_⟩;by_cases e:c=b
 ·let⟨B,hB,hj⟩:=a
  grind[DN,jo]
 simp_all
structure PlR (u:U) (i j:Nat) (nJ JC:List Nat):Prop where
 nb:nJ.length=u.ej.length
 np:JC.length=u.ej.length
 yes:∀v c m,At u v c m->(c<i\/(c=i/\m<j))->nJ[v]? =some c/\JC[v]? =some m
theorem PlR.step(g:Good u){i j v:Nat}{nJ JC:List Nat}(S:PlR u i j nJ JC)(hv:At u v i j):PlR u i (j+1) (nJ.set v i) (JC.set v j):=by
 have a:=g.iM _ _ _ hv;refine⟨by rw[Lj];exact S.nb,by rw[Lj];exact S.np,λw c m b hc=>?_⟩;by_cases e:w=v
 ·subst e;obtain⟨rfl,rfl⟩:=g.Ao _ _ _ _ _ b hv;rw[MR (by rw[S.nb];exact a),MR (by rw[S.np];exact a)]
  simp_all
 ·rw [I9 (by omega),I9 (by omega)];refine S.yes w c m b ?_;rcases hc with hc|⟨rfl,hc⟩
  ·omega
  ·refine .inr ⟨rfl,?_⟩;by_cases d:m=j
   ·subst d
    let⟨B,hB,f⟩:=b
    let⟨B',Xz,h⟩:=hv
    simp_all
   ·omega
theorem PlR.next{i:Nat}{B:Bk}{nJ JC:List Nat}(a:u.blocks[i]? =some B)(S:PlR u i B.ej.length nJ JC):PlR u (i+1) 0 nJ JC:=by
 refine⟨S.nb,S.np,λv c m hv hc=>S.yes v c m hv ?_⟩;rcases hc with hc|⟨_,hc⟩
 ·by_cases e:c=i
  ·subst e
   let⟨B',Xz,b⟩:=hv
   grind
  omega
 ·omega
theorem zaK(g:Good u){Zq:List (List Nat)}(a:Zq.length=u.blocks.length)(c:∀b,b<u.blocks.length->Zq[b]? =some (Un.next u b)):Nxs u.blocks.length (Un.next u) Zq:=by
 refine⟨g.I5,g.nb,a,c,λb hb=>?_,λb _ t ht=>g.nx b t ht⟩
 grind[Un.next,Dh]
theorem V4(g:Good u){b k v:Nat}{x:Vl}{B:Bk}(c:u.blocks[b]? =some B)(a:At u v b k)(hx:u.ej[v]? =some x)(d:hZ x.op=true):∀j w y,j<k->B.ej[j]? =some w->u.ej[w]? =some y->hZ y.op=true:=
 λj w y h e f=>RR g a hx d ⟨B,c,e⟩ f (by omega)
theorem zdn:(eL eN).rel F h [] [.ei]:=⟨.ei,rfl,.nil⟩
theorem za6{len n l o m:Nat}{kd:IntKind}(a:m<len):zdJ len n (.ptr l o) (.int kd (m:Nat))=some (.ptr l (o+m*n)):=by
 show bB (Nat.blt m len) _=_
 grind[mI,UC]
theorem Yf(op:Nat):(((op:Int) == 21) ||((op:Int) == 1))=hZ op:=by
 grind[hZ,Int]
theorem zbG{nJ JC:List Nat}{Pe:List (List Bool)}{wb wp wd pv:V}{lu lo To:Nat}(g:Good u)(o:zdk u nJ JC Pe)(H0:ev F h (eJ lo To (Xl u vv vb vs wb wp wd)::eJ lu 30 (uC u vv vb vs)::cs))(hu:tL F h u vv vb vs)
  (hb:il eN F h nJ wb) (hp:il eN F h JC wp) (S:il (eL eB) F h Pe wd) (r:il (eL eN) F h ((List.range u.blocks.length).map (Un.ahead u)) pv) (H:∀F' h',Sn F h F' h'->ev F' h' cs->Q (.bool true) h') :
  nB Q [.ptr lu 0,pv,.ptr lo 0,.I 0] h:=by
 have nb:=g.nb;have ac:∀b,b<u.blocks.length->((List.range u.blocks.length).map (Un.ahead u))[b]? =some (Un.ahead u b):=by simp_all
 obtain⟨I,hI⟩:∃I,I=λk l h'=>∃F' i,l=[.ptr lu 0,pv,.ptr lo 0,.I (i:Nat)]/\i+k=u.blocks.length/\Sn F h F' h'/\ev F' h' (eJ lo To (Xl u vv vb vs wb wp wd)::eJ lu 30 (uC u vv vb vs)::cs):=⟨_,rfl⟩
 refine BP I (λk x1 x3 x4 x5 h1 hi=>?_) (k:=u.blocks.length) ?_;rotate_left
 ·rw[hI];exact⟨F,0,rfl,by omega,Sn.refl _ _,H0⟩
 rw[hI]at hi;obtain⟨F1,i,⟨⟩,hk,s1,H1⟩:=hi;unfold uf;refine oF (H1.ld 1 rfl rfl) (eh (hu.since s1).b.len ?_);by_cases hi:i<u.blocks.length;rotate_left
 ·exact hY (H F1 h1 s1 H1.tail.tail)
 refine gy ?_;have J:=gN hi;generalize u.blocks[i]=B at*
 let⟨l1,o1,bv,bn,bp,_,x1,x2,iv,iN,ip,_⟩:=(hu.since s1).nJ J
 refine oF (H1.ld 1 rfl rfl) (eh x1 (eh x2 ?_));refine gQ H1 rfl rfl (by simp only[ku,eQ,iv.one,iN.one,ip.one];rfl) λh2 H2 s2=>?_;generalize h1.next=lx at*;have H2:=H2;have iv:=iv.since s2;have ad:=s1.trans s2;have t:∀{C d},Sn F h C d->ev C d (eJ lx 43 (ku B bv bn bp)::eJ lo To (Xl u vv vb vs wb wp wd)::eJ lu 30 (uC u vv vb vs)::cs)->oP (ez .add 3 (V.I i) (V.I 1)) λT=>Es I k [.ptr lu 0,pv,.ptr lo 0,T] d:=λ{C d} f s=>by
  refine fF ⟨k-1,by omega,?_⟩;rw[hI];exact⟨C,i+1,rfl,by omega,f,s.tail⟩
 have al:=DN g J;obtain⟨I6,L⟩:∃I,I=λk l h'=>∃F' m,l=[.ptr lu 0,pv,.ptr lo 0,.I i,.ptr lx 0,.I (m:Nat)]/\m+k=B.ej.length/\Sn F h F' h'/\Sn F1 h2 F' h'/\ev F' h' (eJ lx 43 (ku B bv bn bp)::eJ lo To (Xl u vv vb vs wb wp wd)::eJ lu 30 (uC u vv vb vs)::cs):=⟨_,rfl⟩
 refine BE I6 (λk6 x1 x3 x4 x5 x6 x7 U W=>?_) (k:=B.ej.length) ?_;rotate_left
 ·rw[L];exact⟨F1,0,rfl,by omega,ad,Sn.refl _ _,H2⟩
 rw[L]at W;obtain⟨F3,m,⟨⟩,am,D,X,A⟩:=W;unfold tj;have Y:=iv.since X;refine oF (A.ld 0 rfl rfl) (eh Y.len ?_);have u3:=hu.since D;by_cases hm:m<B.ej.length
 ·refine gy ?_;have hv:=gN hm;generalize B.ej[m]=v at*;have E:At u v i m:=⟨B,J,hv⟩
  obtain⟨x,hx⟩:∃x,u.ej[v]? =some x:=⟨_,gN (g.iM v i m E)⟩
  let⟨l4,o4,hF4,y1,y2⟩:=Y.nat hv .i64
  let⟨l5,o5,w,hF5,P,z2,xw,_⟩:=u3.val hx
  refine oF (A.ld 2 rfl rfl) (oF (A.ld 0 rfl rfl) (eh y1 (eh y2 (eh P (eh z2 ?_)))));rw[gO]
  let⟨H4,s4⟩:=A.yP 45 [V.I 0,V.I 0,V.I 0,V.I 0,V.ei,V.I 0]
  have g4:(U.new (.cells 45 1 true false [V.I 0,V.I 0,V.I 0,V.I 0,V.ei,V.I 0])).get U.next=some (.cells 45 1 true false [V.I 0,V.I 0,V.I 0,V.I 0,V.ei,V.I 0]):=fm _ _;refine⟨by simp_all,Iv z2 (s4.fk _ hF5),ij y2 (s4.fk _ hF4),H4.ld 1 rfl rfl,H4.ld 3 rfl rfl,?_⟩
  let⟨h5,e5,n5,H5,s5⟩:=H4.Qy 0 (ws:=mh x w) (n:=6) rfl rfl rfl (by simp only[mh,eQ,xw.one];rfl)
  rw[e5,en];simp[oU]at H5;refine⟨n5,eh (H5.mY 0 rfl rfl) ?_⟩;generalize U.next=R at*;have M:=s4.trans s5;refine N5 H5 (xw.since M) λF6 h6 uv s6 H6 r6=>?_;have an:=Lb λh=>Is g hx h;have ae:=(D.trans M).trans s6;have ag:=(X.trans M).trans s6;obtain⟨I7,N⟩:∃I,I=λk l h'=>∃F' j,l=[.ptr lu 0,pv,.ptr lo 0,.I i,.ptr lx 0,.I m,.ptr R 0,uv,.I (j:Nat)]/\j+k=(gG x).length/\Sn F h F' h'/\Sn F6 h6 F' h'/\ev F' h' (eJ R 45 (mh x w)::eJ lx 43 (ku B bv bn bp)::eJ lo To (Xl u vv vb vs wb wp wd)::eJ lu 30 (uC u vv vb vs)::cs):=⟨_,rfl⟩
  refine BV I7 (λk7 x1 x3 x4 x5 x6 x7 x8 x9 ao h7 Z=>?_) (k:=(gG x).length) ?_;rotate_left
  ·rw[N];exact⟨F6,0,rfl,by omega,ae,Sn.refl _ _,H6⟩
  rw[N]at Z;obtain⟨F7,j,⟨⟩,ap,y,O,K⟩:=Z;unfold uk;have r7:=r6.since O;refine eh r7.len ?_;have u7:=hu.since y;by_cases hj:j<(gG x).length
  ·refine gy ?_;have ha:=gN hj;have ah:=zI hj;generalize (gG x)[j]=a at*
   let⟨l8,o8,_,q1,q2⟩:=r7.nat ha .i64
   have aa:∀{d},Sn F7 h7 F7 d->ev F7 d (eJ R 45 (mh x w)::eJ lx 43 (ku B bv bn bp)::eJ lo To (Xl u vv vb vs wb wp wd)::eJ lu 30 (uC u vv vb vs)::cs)->ki Q (Es I k) (Es I6 k6) (Es I7 k7) [.ptr lu 0,pv,.ptr lo 0,.I i,.ptr lx 0,.I m,.ptr R 0,uv,.I j] d:=λ{d} f s=>by
    refine AO ?_;unfold sN;refine fF ⟨k7-1,by omega,?_⟩;rw[N];exact⟨F7,j+1,rfl,by omega,y.trans f,O.trans f,s⟩
   refine oF (K.ld 0 rfl rfl) (fX ?_);by_cases c:x.op=21
   ·refine fW (by omega) ?_
    let⟨_,hpl⟩:=g.Cd v i m x B E hx c J
    have ai:gG x=x.args:=by unfold gG;rw[if_pos c]
    rw[ai]at ha hj;have z:∃p,B.fh[j]? =some p:=by simp_all
    let⟨p,z⟩:=z
    let⟨ca,ja,hca,hsa⟩:=ZJ g (g.AU v i m x B E hx c J j a p ha z)
    have aj:p<u.blocks.length:=by
     have hm:=zD z;rw[g.fh i B J]at hm
     let⟨q,B',h1,_,U⟩:=xg.1 hm
     have:=(jo.1 h1).1;omega
    let⟨la,oa,wr,_,t1,t2,t3⟩:=(r.since y).list (ac i hi) .i64
    rw[g.fh i B J]at z
    let⟨lc,oc,_,t4,t5⟩:=t3.nat z .i64
    refine eh (K.mY 2 rfl rfl) (eh q1 (eh q2 (eh t1 (eh t2 (eh t4 (eh t5 ?_))))));refine Io o K u7 (hb.since y) (hp.since y) (S.since y) (k:=1073741824) hca aj hsa λd f s=>?_;exact⟨f.next,pY (fW rfl (aa f s))⟩
   ·refine fP (by omega) ?_
    let⟨ca,ja,hca,hsa⟩:=g.yo v i m x E hx c a ah
    refine eh (K.mY 2 rfl rfl) (eh q1 (eh q2 ?_));refine Io o K u7 (hb.since y) (hp.since y) (S.since y) hca hi hsa λd f s=>?_;exact⟨f.next,pY (fW rfl (aa f s))⟩
  refine hY ?_;have z0:fe (.ptr R (0+0)) h7=some (.I x.op):=K.ld 0 rfl rfl;refine oF z0 (eh (gR ..) (eh (a:= .bool (leaves x.op)) ?_ ?_))
  ·simp[ft,gf,z0,gR,uN];unfold leaves
   grind[Int,ieq]
  have ak:∀{C d},Sn F7 h7 C d->ev C d (eJ R 45 (mh x w)::eJ lx 43 (ku B bv bn bp)::eJ lo To (Xl u vv vb vs wb wp wd)::eJ lu 30 (uC u vv vb vs)::cs)->oP (ez .add 3 (V.I m) (V.I 1)) λab=>Es I6 k6 [.ptr lu 0,pv,.ptr lo 0,.I i,.ptr lx 0,ab] d:=λ{C d} f s=>by
   refine fF ⟨k6-1,by omega,?_⟩;rw[L];exact⟨C,m+1,rfl,by omega,y.trans f,(ag.trans O).trans f,s.tail⟩
  cases hl:leaves x.op with
  | true=>
    obtain⟨fs,G⟩:∃fs,u.eo[x.state]? =some fs:=⟨_,gN (g.leave v x hx hl)⟩
    refine gw (eh (K.mY 2 rfl rfl) (gw (eh pf (gw (eh (K.ld 0 rfl rfl) (gw (eh rfl (gw (eh rfl (yF ?_))))))))));refine QD o g K u7 (hb.since y) (hp.since y) (S.since y) G hi (λw hw=>g.Dv v i m x fs E hx hl G w hw) λC d f s=>?_
    exact eh rfl (iB (fP (by simp) (ak f s)))
  | false=>
    refine hV (hV (hV (hV (hV (Hg ?_)))));exact eh rfl (iB (fP (by simp) (by grind[Sn.refl])))
 refine hY ?_;have P:fe (.ptr lx (0+1)) U=some (.I B.fin):=A.ld 0 rfl rfl;refine oF P ?_;by_cases c2:B.fin=2
 ·let⟨ca,ja,hca,hsa⟩:=ZJ g (g.Ay i B J c2)
  refine eh (by simp_all) (gw (eh (A.mY 1 rfl rfl) (gw (eh pf (gw (eh (A.ld 0 rfl rfl) (gw (eh rfl (yF ?_)))))))));refine Io o A u3 (hb.since D) (hp.since D) (S.since D) (k:=1073741824) hca hi hsa λd f s=>?_;have P:fe (.ptr lx (0+1)) d=some (.I B.fin):=s.ld 0 rfl rfl;refine eh rfl (fG (eh pf (fG (eh P (fG (eh (NH (by omega)) (fG (eh rfl ?_))))))));refine hV (hV (hV (hV (Hg (hV (eh rfl (iB (fP (by simp) ?_))))))));exact t (D.trans f) s
 ·refine eh (NH (by omega)) (hV (hV (hV (hV (Hg (eh rfl ?_))))));refine fG (eh pf (fG (eh P ?_)));by_cases c3:B.fin=3
  ·have hs:B.state<u.eo.length:=by
    rcases g.fin i B J with⟨e,_⟩|⟨e,_⟩|⟨_,_,e⟩
    ·omega
    ·omega
    ·exact e
   have G:=gN hs;generalize u.eo[B.state]=fs at*;refine fG (eh (Sd (by omega)) (fG (eh rfl ?_)));refine gw (eh (A.mY 1 rfl rfl) (gw (eh pf (gw (eh (A.ld 0 rfl rfl) (gw (eh rfl (yF ?_))))))));refine QD o g A u3 (hb.since D) (hp.since D) (S.since D) (k:=1073741824) G hi (λw hw=>ZJ g (g.Dp i B fs J c3 G w hw)) λC d f s=>?_;exact gw (eh rfl (eh rfl (iB (fP (by simp) (t (D.trans f) s)))))
  ·refine fG (eh (NH (by omega)) (fG (eh rfl ?_)));exact hV (hV (hV (hV (Hg (hV (eh rfl (iB (fP (by simp) (t D A)))))))))
theorem MJ(g:Good u)(H0:ev F h cs)(R:tL F h u vv vb vs)(H:∀F' h',Sn F h F' h'->ev F' h' cs->Q (.bool true) h'):cP CS mD [.agg (uC u vv vb vs)] h Q:=by
 refine E5 ?_;have nv:=g.nv;have nb:=g.nb;have I5:=g.I5;refine j4 H0 R.one λZ H1 s1=>?_;generalize h.next=lu at*;refine eh (H1.mY 0 rfl rfl) (Zh g H1 (R.since s1) λF2 C s2 L=>?_);have aj:=s1.trans s2;refine pY (fW rfl (eh (L.mY 0 rfl rfl) (zaG g L (R.since aj) λF3 S pv r q r3=>?_)));have ak:=aj.trans r;refine oF (q.ld 0 rfl rfl) (eh (R.since ak).b.len ?_);rw[jE rfl (by decide) (by omega),fu];obtain⟨H4,s4⟩:=q.make u.blocks.length zdn rfl;generalize S.new (.cells iU 1 true false (List.replicate u.blocks.length V.ei))=h4 at*;generalize S.next=ln at*;have aa:∀b,b<u.blocks.length->((List.range u.blocks.length).map (Un.ahead u))[b]? =some (Un.ahead u b):=by simp_all
 obtain ⟨I,U⟩:∃I,I=λk l h'=>∃i GZ,l=[.ptr lu 0,pv,.slice ln 0 u.blocks.length,.I (i:Nat)]/\i+k=u.blocks.length/\Sn F3 S F3 h'/\GZ.length=u.blocks.length/\(∀j,j<i->GZ[j]? =some (Un.next u j))/\
   ev F3 h' (fg (eL eN) iU GZ (.slice ln 0 u.blocks.length)::eJ lu 30 (uC u vv vb vs)::cs):=⟨_,rfl⟩
 refine BH I (λk d x3 x4 x5 h5 hi=>?_) (k:=u.blocks.length) ?_;rotate_left
 ·grind
 rw[U]at hi;obtain⟨i,GZ,⟨⟩,hk,M,aB,aC,H5⟩:=hi;unfold tA;have G:=ak.trans M;have u5:=R.since G;refine oF (H5.ld 1 rfl rfl) (eh u5.b.len ?_);by_cases hi:i<u.blocks.length
 ·refine gy ?_;have p:=gN hi;generalize u.blocks[i]=B at*
  let⟨l1,o1,bv,bn,bp,_,d,x2,iv,iN,ip,xb⟩:=u5.nJ p
  refine oF (H5.ld 1 rfl rfl) (eh d (oF xb.next ?_))
  let⟨l6,o6,h6,e1,e2,_,z,A⟩:=H5.IH 0 rfl (k:=i) (by omega) rfl iN.one ⟨bn,rfl,iN⟩
  refine eh e1 ?_;rw[e2,en];have N:=G.trans A;have u6:=R.since N;have X:=(r3.since M).since A
  let⟨l7,o7,bv',bn',bp',_,y1,_,_,_,ip',yb⟩:=u6.nJ p
  rw[d]at y1;cases y1
  let⟨l8,o8,pr,_,z1,z2,zr⟩:=X.list (aa i hi) .i64
  refine oF (z.ld 1 rfl rfl) (eh d (oF yb.fh (eh z1 (eh z2 ?_))));refine za9 ip' (by rw[g.fh i B p];exact zr) (by grind[Fu]) ?_;refine⟨iZ _,pY (fW rfl ?_)⟩;have k3:fe (.ptr lu (0+3)) h6=some vb:=z.ld 1 rfl rfl
  let⟨l9,o9,bv2,bn2,bp2,_,y2,_,_,iN2,_,yb2⟩:=u6.nJ p
  rw[d]at y2;cases y2;refine oF k3 (eh d (oF yb2.next (eh iN2.len (eh (gR ..) ?_))));refine eh (a:= .bool false) ?_ (iB (fP (by simp) ?_))
  ·by_cases c:B.next.length=2
   ·rw [show((B.next.length:Int) == 2)=true by simp_all,pt];have aD:B.fin=2:=by
     rcases g.fin i B p with⟨_,h⟩|⟨h,_⟩|⟨_,h,_⟩
     ·omega
     ·exact h
     ·simp_all
    have tt:∀j,j<2->∃l o t l' o' w,gB 1 bn2 (.I (j:Nat))=some (.ptr l o)/\fe (.ptr l o) h6=some (.I (t:Nat))/\gB 1 pv (.I (t:Nat))=some (.ptr l' o')/\fe (.ptr l' o') h6=some w/\fE w=some (.I ((1:Nat):Int)):=λj hj=>by
     have ht:=gN (show j<B.next.length by omega);have J:=zI (show j<B.next.length by omega);have aE:=g.FY i B p aD _ J;have aF:B.next[j]<u.blocks.length:=g.nx i _ (by grind[next])
     let⟨l,o,_,q1,q2⟩:=iN2.nat ht .i64
     let⟨l',o',w,_,q3,q4,q5⟩:=X.list (aa _ aF) .i64
     exact⟨l,o,_,l',o',w,q1,q2,q3,q4,by rw[q5.len,aE]⟩
    let⟨a1,a2,a3,a4,a5,a6,b1,b2,b3,b4,b5⟩:=tt 0 (by omega)
    let⟨c1,c2,c3,c4,c5,c6,d1,d2,d3,d4,d5⟩:=tt 1 (by omega)
    have b1:gB 1 bn2 (.I 0)=some (.ptr a1 a2):=b1;have d1:gB 1 bn2 (.I 1)=some (.ptr c1 c2):=d1;simp[ft,gf,k3,d,yb2.next,b1,b2,b3,b4,b5,d1,d2,d3,d4,d5,YO (rfl),mK]
   ·rw[show((B.next.length:Int) == 2)=false by grind,Fb]
  ·refine fF ⟨k-1,by omega,?_⟩;rw[U];refine⟨i+1,_,rfl,by omega,M.trans A,by simp_all,λj hj=>?_,z⟩
   grind[MR,next,I9]
 refine hY ?_;obtain rfl:i=u.blocks.length:=by omega
 have r5:=r3.since M
 let⟨l6,o6,pr,_,z1,z2,zr⟩:=r5.list (aa 0 (by omega)) .i64
 have z1:=z1;refine eh z1 (eh z2 (eh zr.len (AQ (fP (by rw[g.zG];simp) ?_))))
 let⟨z,A,rn⟩:=H5.jc 0 rfl
 have z:=z.tail;have W:=zaK g aB aC;generalize aS:(λl=>F3 l\/Loc (V.slice ln 0 u.blocks.length) l)=K at*;have N:=G.trans A;have X:=r5.since A;have u6:=R.since N;refine O0 W (-1) z rn λh7 sv seen s7 H7 aG aH=>?_;have al:∀b,b<u.blocks.length->seen[b]? =some true:=λb hb=>by
  let⟨l,hl⟩:=g.reach b hb
  exact(aH b).2 ⟨l,hl,λx _=>by omega⟩
 refine Bs (λk l h'=>∃i,l=[.ptr lu 0,pv,.slice ln 0 u.blocks.length,sv,.I (i:Nat)]/\i+k=u.blocks.length/\h' = h7) ?_ (k:=u.blocks.length) ⟨0,rfl,by omega,rfl⟩;rintro k _ _ _ _ _ h7 ⟨i,⟨⟩,hk,rfl⟩;unfold tM;refine eh (H7.len 0 rfl) ?_;rw[aG];by_cases hi:i<u.blocks.length
 ·refine gy ?_
  let⟨l8,o8,y1,y2⟩:=H7.Jr 0 rfl (al i hi) .i64
  refine eh y1 (eh y2 (pY (fW rfl ?_)));exact fF ⟨k-1,by omega,i+1,rfl,by omega,rfl⟩
 refine hY ?_;have H7:=H7.tail;have am:=N.trans s7;refine oF (H7.ld 0 rfl rfl) (eh (R.since am).v.len ?_);rw[jE rfl (by decide) (by omega),fu];obtain⟨H8,s8⟩:=H7.make (E:=eN) u.ej.length rfl rfl;generalize h7.new (.cells eR 1 true false (List.replicate u.ej.length (V.I 0)))=h8 at*;generalize h7.next=lb at*;have aI:=am.trans s8;refine oF (H8.ld 1 rfl rfl) (eh (R.since aI).v.len ?_);rw[jE rfl (by decide) (by omega),fu];obtain⟨H9,s9⟩:=H8.make (E:=eN) u.ej.length rfl rfl;generalize h8.new (.cells eR 1 true false (List.replicate u.ej.length (V.I 0)))=h9 at*;generalize h8.next=Y at*;have ab:=(s7.trans s8).trans s9;have u9:=u6.since ab;have r9:=X.since ab;have aJ:=rn.since ab;have aK:=N.trans ab
 obtain ⟨I,U⟩:∃I,I=λk l h'=>∃(i:Nat) (nJ JC:List Nat),l=[.ptr lu 0,pv,.slice ln 0 u.blocks.length,.slice lb 0 u.ej.length,.slice Y 0 u.ej.length,.I i]/\i+k=u.blocks.length/\Sn K h9 K h'/\PlR u i 0 nJ JC/\
   ev K h' (fg eN eR JC (.slice Y 0 u.ej.length)::fg eN eR nJ (.slice lb 0 u.ej.length)::eJ lu 30 (uC u vv vb vs)::cs):=⟨_,rfl⟩
 refine BB I (λk d x3 x4 x5 x6 x7 Z hi=>?_) (k:=u.blocks.length) ?_;rotate_left
 ·rw[U];exact⟨0,_,_,rfl,by omega,Sn.refl _ _,⟨Wt,Wt,λv c m _ hc=>by omega⟩,H9⟩
 rw[U]at hi;obtain⟨i,nJ,JC,⟨⟩,hk,s1,P1,H1⟩:=hi;unfold uy;have u1:=u9.since s1;refine oF (H1.ld 2 rfl rfl) (eh u1.b.len ?_);by_cases hi:i<u.blocks.length
 ·refine gy ?_;have p:=gN hi;generalize u.blocks[i]=B at*;have aT:=DN g p
  obtain ⟨I4,ad⟩:∃I,I=λk l h'=>∃(j:Nat) (fst:Bool) (nJ JC:List Nat),l=[.ptr lu 0,pv,.slice ln 0 u.blocks.length,.slice lb 0 u.ej.length,.slice Y 0 u.ej.length,.I i,.bool fst,.I j]/\j+k=B.ej.length/\Sn K h9 K h'/\PlR u i j nJ JC/\
    (fst=true↔∀m w y,m<j->B.ej[m]? =some w->u.ej[w]? =some y->hZ y.op=true)/\
    ev K h' (fg eN eR JC (.slice Y 0 u.ej.length)::fg eN eR nJ (.slice lb 0 u.ej.length)::eJ lu 30 (uC u vv vb vs)::cs):=⟨_,rfl⟩
  refine Br I4 (λk4 d x3 x4 x5 x6 x7 x8 x9 C an=>?_) (k:=B.ej.length) ?_;rotate_left
  ·rw[ad];exact⟨0,true,nJ,JC,rfl,by omega,s1,P1,⟨λ_ m _ _ J=>by omega,λ_=>rfl⟩,H1⟩
  rw[ad]at an;obtain⟨j,fst,nJ,JC,⟨⟩,aU,s2,P2,ac,L⟩:=an;unfold tH;have u2:=u9.since s2
  let⟨l1,o1,bv,bn,bp,hF1,d,_,iv,_,_,xb⟩:=u2.nJ p
  refine oF (L.ld 2 rfl rfl) (eh d (oF xb.ej (eh iv.len ?_)));by_cases hj:j<B.ej.length;rotate_left
  ·refine hY ?_;obtain rfl:j=B.ej.length:=by omega
   refine fF ⟨k-1,by omega,?_⟩;rw[U];exact⟨i+1,nJ,JC,rfl,by omega,s2,P2.next p,L⟩
  refine gy ?_;have hv:=gN hj;generalize B.ej[j]=v at*;have f:At u v i j:=⟨B,p,hv⟩
  have ae:=g.iM v i j f;obtain⟨x,hx⟩:∃x,u.ej[v]? =some x:=⟨_,gN ae⟩
  let⟨l4,o4,hF4,y1,y2⟩:=iv.nat hv .i64
  let⟨l5,o5,w,hF5,z1,z2,xw,_⟩:=u2.val hx
  refine oF (L.ld 2 rfl rfl) (oF (L.ld 2 rfl rfl) (eh d (oF xb.ej (eh y1 (eh y2 (eh z1 (eh z2 ?_)))))));rw[gO]
  let⟨q,r⟩:=L.yP 45 [V.I 0,V.I 0,V.I 0,V.I 0,V.ei,V.I 0]
  have g3:(C.new (.cells 45 1 true false [V.I 0,V.I 0,V.I 0,V.I 0,V.ei,V.I 0])).get C.next=some (.cells 45 1 true false [V.I 0,V.I 0,V.I 0,V.I 0,V.ei,V.I 0]):=fm _ _;generalize C.new (.cells 45 1 true false [V.I 0,V.I 0,V.I 0,V.I 0,V.ei,V.I 0])=S at*;refine⟨⟨g3,O.kE _ _ _ _ _⟩,Iv z2 (r.fk _ hF5),ij y2 (r.fk _ hF4),ij xb.ej (r.fk _ hF1),q.ld 3 rfl rfl,q.ld 3 rfl rfl,?_⟩
  let⟨h4,e4,n4,H4,s4⟩:=q.Qy 0 (ws:=mh x w) (n:=6) rfl rfl rfl (by simp only[mh,eQ,xw.one];rfl)
  rw[e4,en];refine⟨n4,?_⟩;generalize C.next=ly at*;have ao:=ij (ij xb.ej (r.fk _ hF1)) (s4.fk _ hF1);have ap:=ij (ij y2 (r.fk _ hF4)) (s4.fk _ hF4);refine oF (H4.ld 3 rfl rfl) (eh d (oF ao (eh y1 (eh ap ?_))));obtain⟨l6,o6,h5,e5,e6,n5,H5,M⟩:=H4.IH 2 rfl (by rw[P2.nb];exact ae) rfl rfl rfl;refine eh e5 ?_;rw[e6,en];have aL:=ij ao (M.fk _ hF1);have aM:=ij ap (M.fk _ hF4);refine oF (H5.ld 3 rfl rfl) (eh d (oF aL (eh y1 (eh aM ?_))));obtain⟨l7,o7,h6,e7,e8,n6,z,A⟩:=H5.IH 1 rfl (by rw[P2.np];exact ae) rfl rfl rfl;refine eh e7 ?_;rw[e8,en];have ag:=((r.trans s4).trans M).trans A;have z0:fe (.ptr ly (0+0)) h6=some (.I x.op):=z.ld 0 rfl rfl;have z4:fe (.ptr ly (0+4)) h6=some w:=z.ld 0 rfl rfl;have w6:=xw.since ag;have X:=(r9.since s2).since ag
  let⟨lr,or_,pr,_,p1,p2,p3⟩:=X.list (aa i hi) .i64
  have aN:=λhh=>ac.2 (V4 g p f hx hh);refine oF z0 (eh (gR ..) (eh (a:= .bool (hZ x.op)) (by simp[ft,gf,z0,gR,uN,Yf]) (eh ?_ (qt ?_ (qt ?_ (iB (fP (by simp) ?_)))))))
  ·show jI _ (some (V.bool (!fst)))=_;rw[mb]
   cases hh:hZ x.op with
   |true=>rw[aN hh];rfl
   |false=>rfl
  ·simp only[ft,gf,z0];by_cases c:x.op=21
   ·let⟨h0,hl⟩:=g.Cd v i j x B f hx c p
    rw[Sd (by omega)];simp only[ft,pt,z4,w6.len,p1,p2,p3.len];rw[YO (by rw[hl,g.fh i B p])];simp only[ft,mK];exact NH (by omega)
   ·rw[NH (by omega)];rfl
  ·simp only[ft,gf,z0];by_cases c:x.op=1
   ·have h0:=g.par v i j x f hx c;rw[Sd (by omega)];simp only[ft,pt];exact YO (by omega)
   ·rw[NH (by omega)];rfl
  ·rw [mb];refine eh rfl (fF ⟨k4-1,by omega,?_⟩);rw[ad];refine⟨j+1,_,_,_,rfl,by omega,s2.trans ag,P2.step g f,?_,z.tail⟩;rw[vU,ac];constructor
   ·rintro⟨Z,C⟩ m w' y J P hy;by_cases e:m=j
    ·subst e;rw[hv]at P;cases P;rw[hx]at hy;cases hy;exact C
    ·exact Z m w' y (by omega) P hy
   ·intro Z;exact⟨λm w' y J P hy=>Z m w' y (by omega) P hy,Z j v x (by omega) hv hx⟩
 refine hY ?_;obtain rfl:i=u.blocks.length:=by omega
 refine pz H1 λC L s2=>?_;generalize Z.next=lq at*;obtain⟨Tp,L⟩:∃T,ev K C (eJ lq T ((List.replicate 40 false).map V.bool)::fg eN eR JC (.slice Y 0 u.ej.length)::fg eN eR nJ (.slice lb 0 u.ej.length)::eJ lu 30 (uC u vv vb vs)::cs):=⟨_,L⟩
 obtain ⟨I,U⟩:∃I,I=λk l h'=>∃(i:Nat) (ps:List Bool),l=[.ptr lu 0,pv,.slice ln 0 u.blocks.length,.slice lb 0 u.ej.length,.slice Y 0 u.ej.length,.ptr lq 0,.I i]/\i+k=u.ej.length/\Sn K h9 K h'/\ps.length=40/\
   (∀m:Nat,ps[m]? =some true->∃w y,w<i/\u.ej[w]? =some y/\y.op=1/\y.n=(m:Int))/\
   ev K h' (eJ lq Tp (ps.map V.bool)::fg eN eR JC (.slice Y 0 u.ej.length)::fg eN eR nJ (.slice lb 0 u.ej.length)::eJ lu 30 (uC u vv vb vs)::cs):=⟨_,rfl⟩
 refine BY I (λk d x3 x4 x8 x9 aV aW S hi=>?_) (k:=u.ej.length) ?_;rotate_left
 ·rw[U];refine⟨0,_,rfl,by omega,s1.trans s2,Wt,λm J=>?_,L⟩;rw[wBw]at J;split at J <;> cases J
 rw[U]at hi;obtain⟨i,ps,⟨⟩,hk,r,aq,ar,q⟩:=hi;unfold um;have u3:=u9.since r;refine oF (q.ld 3 rfl rfl) (eh u3.v.len ?_);by_cases hi:i<u.ej.length
 ·refine gy ?_;have hx:=gN hi;generalize u.ej[i]=x at*
  let⟨l1,o1,w,_,d,_,_,xl⟩:=u3.val hx
  have au:∀{h8} {ps':List Bool},Sn K S K h8->ps'.length=40->(∀m:Nat,ps'[m]? =some true->∃(w:Nat) (y:Vl),w<i+1/\u.ej[w]? =some y/\y.op=1/\y.n=(m:Int))->ev K h8 (eJ lq Tp (ps'.map V.bool)::fg eN eR JC (.slice Y 0 u.ej.length)::fg eN eR nJ (.slice lb 0 u.ej.length)::eJ lu 30 (uC u vv vb vs)::cs)->
    j9 Q (Es I k) [.ptr lu 0,pv,.slice ln 0 u.blocks.length,.slice lb 0 u.ej.length,.slice Y 0 u.ej.length,.ptr lq 0,.I i] h8:=λ{h8 ps'} s8 hl hp H8=>by
   refine A7 ?_;unfold rN;refine fF ⟨k-1,by omega,?_⟩;rw[U];exact⟨i+1,ps',rfl,by omega,r.trans s8,hl,hp,H8⟩
  have aw:∀m:Nat,ps[m]? =some true->∃w y,w<i+1/\u.ej[w]? =some y/\y.op=1/\y.n=(m:Int):=λm J=>by
   let⟨w,y,Z,C⟩:=ar m J
   exact⟨w,y,by omega,C⟩
  refine oF (q.ld 3 rfl rfl) (eh d (oF xl.op (fX ?_)));by_cases c:x.op=1
  ·refine fW (by omega) ?_
   let⟨n1,n2,n3⟩:=g.param i x hx c
   let⟨m,J⟩:=wBF n1
   have aO:m<40:=by omega
   have xn:=xl.n;rw[J]at xn;have eq:=za6 (n:=1) (l:=lq) (o:=0) (kd:= .i64) aO;have ah:=gN (show m<ps.length by omega);have aP:ps[m]? =some false:=by
    cases e:ps[m]with
    | true=>
      rw[e]at ah
      let⟨w',y,Z,C,S,h4⟩:=ar m ah
      have:=n3 w' y C S (by omega)
      omega
    |false=>rw[ah,e]
   have aQ:fe (.ptr lq (0+m*1)) S=some (.bool false):=q.ld 0 rfl (by rw[C7,Nat.mul_one,zq,aP];rfl);refine oF (q.ld 3 rfl rfl) (eh d (oF xn (eh eq (eh aQ (iB (fP (by simp) ?_))))));refine oF (q.ld 3 rfl rfl) (eh d (oF xn (eh eq ?_)))
   let⟨h4,e4,_,H4,s4⟩:=q.st 0 (o:=m) (u:=V.bool true) rfl (by rw[Er];omega) rfl
   have aR:gq 1 (.ptr lq (0+m*1)) (V.bool true) S=some (.val .undef h4):=by rw[C7,Nat.mul_one];exact e4
   rw[aR,en];refine au s4 (ps':=ps.set m true) (by rw[Lj];exact aq) (λm' ax=>?_) (by rw[List.map_set];exact H4);by_cases e:m' = m
   ·subst e;exact⟨i,x,by omega,hx,c,J⟩
   ·rw[I9 λh=>e h.symm]at ax;exact aw m' ax
  ·exact fP (by omega) (au (Sn.refl _ _) aq aw q)
 refine hY ?_
 let⟨H4,s4,r4⟩:=q.tail.jc 0 rfl
 let⟨H5,M,r5⟩:=H4.tail.jc 0 rfl
 have ai:=s4.trans M;have G:=(aK.trans r).trans ai;refine za7 W H5.tail ((aJ.since r).since ai) λaX h6 dv Pe A z X D=>?_;refine eh (z.mY 0 rfl rfl) ?_;have ay:=(r4.since M).since A;have aA:=r5.since A;refine eh (a:= .agg (Xl u vv vb vs (.slice lb 0 u.ej.length) (.slice Y 0 u.ej.length) dv)) ?_ ?_
 ·rcases X with⟨rfl,_⟩|⟨_,_,_,_,_,_,rfl,_⟩ <;> rfl
 have u6:=R.since (G.trans A);refine gQ z rfl rfl (by simp only[Xl,eQ,u6.v.one,u6.b.one,u6.s.one,ay.one,aA.one,X.one];rfl) λh7 H7 s7=>?_;refine zbG g ⟨λv b k f=>?_,D⟩ H7 (u6.since s7) (aA.since s7) (ay.since s7) (X.since s7) ((((r9.since r).since ai).since A).since s7) λF8 h8 s8 H8=>H F8 h8 (((G.trans A).trans s7).trans s8) H8;refine P1.yes v b k f (.inl ?_)
 let⟨B,p,_⟩:=f
 exact(jo.1 p).1
end
