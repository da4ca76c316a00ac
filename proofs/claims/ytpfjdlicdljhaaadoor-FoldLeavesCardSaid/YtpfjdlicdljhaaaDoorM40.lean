/- Parts. -/
import Derived.Test.YtpfjdlicdljhaaaDoorM39
import Derived.Test.YtpfjdlicdljhaaaDoorM30
set_option maxHeartbeats 4000000
namespace Go.Proofs.YtpfjdlicdljhaaaDoor.Hx
open Un Dm
theorem OC{w:Bool}{X:Option V}{K:V->Prop}(h:K .undef):oP (fQ w .undef) λb=>oP (gV b X) K:=by cases w <;> exact h
theorem zcm{w:Bool}{C:fk}{f:Nat}{a:List V}{h:Hp}{K:fo}(H:K .undef h):oP (fQ w .undef) λb=>oP (gC b (some (f,a))) λy=>xd C y h K:=by cases w <;> exact H
theorem PK{t:Nat}{k:IntKind}{a b:Int}(h:¬b<a):eo .gtr t (.int k a) (.int k b)=some (.bool false):=by simp_all
theorem ZK{t:Nat}{k:IntKind}{a b:Int}(h:¬a<b):eo .lss t (.int k a) (.int k b)=some (.bool false):=by simp_all
theorem Wt{t:Nat}{k:IntKind}{a b:Int}(h:a=b):eo .neq t (.int k a) (.int k b)=some (.bool false):=by simp_all
theorem Nl{t:Nat}{k:IntKind}{a b:Int}(h:a=b):eo .eql t (.int k a) (.int k b)=some (.bool true):=by simp_all
theorem KZ{t:Nat}{k:IntKind}{a b:Int}(h:a≠b):eo .eql t (.int k a) (.int k b)=some (.bool false):=by simp_all
theorem yy{X:Option V}{K:V->Prop}(a:X=some (.bool false))(H:K (.bool false)):oP (om (.bool false) X) K:=by simp_all
section
variable{F F':Nat->Prop}{h h':Hp}{cs:List Pc}{Q:fo}{u:U}{vv vb vs:V}
theorem ZQ{u:U}(g:Good u)(b:Nat):(pre u b).length<=u.ef.length:=jD _ _ (Ej g b) λv a=>by
 obtain⟨c,k,d,_⟩:=Hi.1 a;exact g.jA _ _ _ d
theorem Vs(g:Good u)(H0:ei F h cs)(hu:CL F h u vv vb vs)(H:∀F' h',Sn F h F' h'->ei F' h' cs->Q (.bool true) h'):cP CS lG [.agg (uC u vv vb vs)] h Q:=by
 refine Cp rfl rfl ?_;unfold tV;have nv:=g.nv;have nb:=g.nb;have Jz:=g.Jz;have ns:=g.ns;refine nQ H0 hu.one λr C M=>?_;generalize h.next=lu at*;have u1:=hu.since M;have k3:ey (.ptr lu (0+3)) r=some vb:=C.ld 0 rfl rfl;have J:ey (.ptr lu (0+4)) r=some vs:=C.ld 0 rfl rfl;refine oF (C.ld 0 rfl rfl) (ed u1.v.len (ed (PK (by omega)) ?_));refine yy (by simp only[fe,fJ,k3,u1.b.len];grind[PK]) ?_;refine yy (by simp only[fe,fJ,k3,u1.b.len];grind[ZK]) ?_;refine yy (by simp only[fe,fJ,J,u1.s.len];grind[PK]) (iI (fT (by simp) ?_));clear k3 J;refine zv (λk l h'=>∃(F':Nat->Prop) (i:Nat),l=[.ptr lu 0,.I i]/\i+k=u.eh.length/\Sn F h F' h'/\ei F' h' (er lu 29 (uC u vv vb vs)::cs)) ?_ (k:=u.eh.length) (by grind);clear C u1 M r;rintro k _ _ r ⟨F1,i,⟨⟩,hk,M,C⟩;unfold qP;have u1:=hu.since M;have R:ey (.ptr lu (0+2)) r=some vv:=C.ld 0 rfl rfl;have J:ey (.ptr lu (0+4)) r=some vs:=C.ld 0 rfl rfl;refine oF J (ed u1.s.len ?_);by_cases hi:i<u.eh.length
 ·refine gv ?_;have ag:=ig hi;generalize u.eh[i]=fs at*;obtain⟨q1,q2,q3⟩:=g.st i fs ag;obtain⟨l1,o1,f,_,S,x2,x3,xf⟩:=u1.st ag;have x3:ey (.ptr l1 (o1+0)) r=some f:=x3;refine oF J (ed S (oF x3 (ed xf.len (ed (ZK (by omega)) ?_))));refine yy (by simp only[fe,fJ,J,S,x3,xf.len];grind[PK]) (iI (fT (by simp) ?_));refine zG (λk l h'=>∃j:Nat,l=[.ptr lu 0,.I i,.I (j:Nat)]/\j+k=fs.length/\h' = r) ?_ (k:=fs.length) (by simp_all);rintro k1 _ _ _ _ ⟨j,⟨⟩,bJ,rfl⟩;unfold qm;refine oF J (ed S (oF x3 (ed xf.len ?_)));by_cases hj:j<fs.length
  ·refine gv ?_;have hf:=ig hj;obtain⟨r1,r2,_⟩:=q3 _ (BG hj);generalize fs[j]=x at*;obtain⟨l2,o2,a,b,_,L,N,y3,ya,yb⟩:=xf.zbn hf;refine oF J (ed S (oF x3 (ed L (oF N (ed ya.len (ed (PK (by omega)) ?_))))));refine yy (by simp only[fe,fJ,J,S,x3,L,y3,yb.len];grind[PK]) (iI (fT (by simp) ?_));exact fM ⟨k1-1,by omega,j+1,rfl,by omega,rfl⟩
  ·refine ir ?_;refine oF J (ed S (ed x2 ?_));refine MD C xf (by simp_all) λF2 d fv O o r2=>?_;have bK:=B8 (fs:=fs) (Ek g i fs ag).2;have ah:=M.trans O;have u2:=u1.since O;have R:ey (.ptr lu (0+2)) d=some vv:=o.ld 0 rfl rfl;refine zI (λk l h'=>∃j:Nat,l=[.ptr lu 0,.I i,fv,.I (j:Nat)]/\j+k=(gY fs).length/\h' = d) ?_ (k:=(gY fs).length) (by simp_all);rintro T _ _ _ _ _ ⟨j,⟨⟩,ay,rfl⟩;unfold qp;refine ed r2.len ?_;by_cases hj:j<(gY fs).length
   ·refine gv ?_;have hx:=ig hj;obtain⟨x,D,U⟩:mz u (gY fs)[j]:=by
     grind[BG,gY]
    generalize (gY fs)[j]=w at*;have ai:=(jq.1 D).1;obtain⟨l3,o3,_,L,N⟩:=r2.nat hx .i64;obtain⟨l4,o4,_,_,z1,_,_,z2⟩:=u2.val D;refine ed L (ed N (oF R (ed u2.v.len (I8 ai ⟨iZ _,?_⟩))));refine ed rfl (fK (ed pf (fK (ed R (fK (ed rfl (fK (ed rfl (fK (ed L (fK (ed N (fK (ed z1 (fK (ed pf (fK (ed z2.op (xM (QO ?_))))))))))))))))))));rw[U];refine⟨iZ _,ed rfl (iI (fT (by simp) ?_))⟩;exact fM ⟨T-1,by omega,j+1,rfl,by omega,rfl⟩
   ·refine ir ?_;exact fM ⟨k-1,by omega,F2,i+1,rfl,by omega,ah,o⟩
 refine ir ?_;clear hk hi k i R J;refine y6 (λk l h'=>∃(F':Nat->Prop) (i:Nat),l=[.ptr lu 0,.I i]/\i+k=u.ef.length/\Sn F h F' h'/\ei F' h' (er lu 29 (uC u vv vb vs)::cs)) ?_ (k:=u.ef.length) (by grind);clear C u1 M r F1;rintro k _ _ r ⟨F1,i,⟨⟩,hk,M,C⟩;unfold qM;have u1:=hu.since M;refine oF (C.ld 0 rfl rfl) (ed u1.v.len ?_);by_cases hi:i<u.ef.length
 ·refine gv ?_;have hx:=ig hi;generalize u.ef[i]=x at*;obtain⟨l1,o1,w,_,S,x2,xw,_⟩:=u1.val hx;refine oF (C.ld 0 rfl rfl) (ed S (ed x2 ?_));refine iH C rfl rfl (by simp only[lT,ev,xw.one];rfl) λd o O=>?_;generalize r.next=lx at*;have u2:=u1.since O;have w2:=xw.since O;have z0:ey (.ptr lx (0+0)) d=some (.I x.op):=o.ld 0 rfl rfl;have z3:ey (.ptr lx (0+3)) d=some (.I x.n):=o.ld 0 rfl rfl;have z4:ey (.ptr lx (0+4)) d=some w:=o.ld 0 rfl rfl;have z5:ey (.ptr lx (0+5)) d=some (.I x.state):=o.ld 0 rfl rfl;have J:ey (.ptr lu (0+4)) d=some vs:=o.ld 1 rfl rfl;obtain⟨bL,bQ⟩:=g.op i x hx;refine oF z0 (ed (ZK (by omega)) ?_);refine yy (by grind[fe,fJ,PK]) ?_;refine yy ?_ ?_
  ·simp only[fe,fJ,z0];by_cases c:x.op=20
   ·rw[Nl (by omega)];simp only[fe,yk,z4,w2.len];exact Wt (by rw[g.putAt i x hx c];rfl)
   ·rw[KZ (by omega)];rfl
  refine fK (ed pf (fK (ed z0 ?_)));have kA:oP (om (.bool false) (oB (fH 0 (V.ptr lx 0)) λaA=>oB (ey aA d) λaB=>oB (eo .eql 3 aB (V.I 1)) λaC=>oB (some aC) λaD=>jz aD (oB (fH 3 (V.ptr lx 0)) λaE=>oB (ey aE d) λaF=>eo .gtr 2 aF (V.I 1073741824)))) λv=>v = .bool false:=by
   refine yy ?_ rfl;simp only[fe,fJ,z0];by_cases c:x.op=1
   ·rw[Nl (by omega)];simp only[fe,yk,z3];obtain⟨n1,n2,_⟩:=g.param i x hx c
    grind[PK]
   ·rw[KZ (by omega)];rfl
  obtain⟨vA,eA,rfl⟩:=j6.1 kA
  have ae:∀K:fo,K (.bool false) d->oP (fQ false (V.bool false)) λaj=>oP (gV aj (fH 0 (V.ptr lx 0))) λaG=>oP (fQ false (V.bool false)) λa8=>oP (gV a8 (ey aG d)) λaH=>oP (fQ false (V.bool false)) λa9=>oP (gV a9 (eo .eql 3 aH (V.I 22))) λaI=>
    oP (fQ false (V.bool false)) λba=>oP (gV ba (some aI)) λP=>oP (fQ false P) λbb=>oP (gV bb (fH 0 (V.ptr lx 0))) λaJ=>oP (fQ false P) λbc=>oP (gV bc (ey aJ d)) λaK=>oP (fQ false P) λbd=>oP (gV bd (eo .eql 3 aK (V.I 23))) λaL=>
    oP (fQ false (V.bool false)) λbe=>oP (gV be (l0 P (V.bool true) aL)) λaM=>oP (fQ false (V.bool false)) λbf=>oP (gV bf (some aM)) λp=>oP (fQ true p) λak=>oP (gV ak (fH 5 (V.ptr lx 0))) λW=>oP (fQ true p) λal=>oP (gV al (ey W d)) λX=>
    oP (fQ true p) λam=>oP (gV am (fH 4 (V.ptr lu 0))) λY=>oP (fQ true p) λan=>oP (gV an (ey Y d)) λZ=>oP (fQ true p) λao=>oP (gV ao (fy Z)) λaa=>oP (fQ true p) λap=>oP (gC ap (some (gg,[X,aa]))) λaq=>xd CS aq d λab h4=>
    oP (fQ true p) λar=>oP (gV ar (oD .not ab)) λac=>oP (om (V.bool false) (l0 p ac (V.bool false))) λA=>K A h4:=λK HK=>by
   refine fK (ed pf (fK (ed z0 (fK (ed (ik ..) (fK (ed rfl ?_)))))))
   have fin:∀c:Bool,c=leaves x.op->oP (fQ true (V.bool c)) λak=>oP (gV ak (fH 5 (V.ptr lx 0))) λW=>oP (fQ true (V.bool c)) λal=>oP (gV al (ey W d)) λX=>
     oP (fQ true (V.bool c)) λam=>oP (gV am (fH 4 (V.ptr lu 0))) λY=>oP (fQ true (V.bool c)) λan=>oP (gV an (ey Y d)) λZ=>oP (fQ true (V.bool c)) λao=>oP (gV ao (fy Z)) λaa=>oP (fQ true (V.bool c)) λap=>oP (gC ap (some (gg,[X,aa]))) λaq=>xd CS aq d λab h4=>
     oP (fQ true (V.bool c)) λar=>oP (gV ar (oD .not ab)) λac=>oP (om (V.bool false) (l0 (V.bool c) ac (V.bool false))) λA=>K A h4:=λc hc=>by
    cases c with
    |true=>exact gj (ed pf (gj (ed z5 (gj (ed pf (gj (ed J (gj (ed u2.s.len (AQ (I8 (g.leave i x hx hc.symm) (gj (ed rfl (ed rfl HK))))))))))))))
    |false=>exact gO (gO (gO (gO (gO (DX (gO (ed rfl HK)))))))
   by_cases c:x.op=22
   ·rw[show((x.op:Int) == 22)=true by simp[c]];exact Vg (Vg (Vg (fK (ed rfl (fK (ed rfl (fin true (by rw[c];rfl))))))))
   ·rw[show((x.op:Int) == 22)=false by grind];refine fK (ed pf (fK (ed z0 (fK (ed (ik ..) (fK (ed rfl (fK (ed rfl (fin _ ?_))))))))))
    grind[Int,XZ,leaves,UT]
  have tl:jU CS Q [V.ptr lu 0,.I ((i+1:Nat):Int)] d=jU CS Q [V.ptr lu 0,.I ((i+1:Nat):Int)] d:=rfl;clear tl;have last:oP (gy 6 (V.ptr lx 0) d) λaN=>cP CS iG [aN] d λaO h5=>ma CS Q (Bx (λk l h'=>∃(F':Nat->Prop) (i:Nat),l=[.ptr lu 0,.I i]/\i+k=u.ef.length/\Sn F h F' h'/\ei F' h' (er lu 29 (uC u vv vb vs)::cs)) k) [.ptr lu 0,.I i,aO,(V.I 0)] h5:=by
   refine ed (o.C9 0 rfl rfl) ?_;refine Gf o w2 λF3 h3 uv s3 H3 r3=>?_;have u3:=u2.since s3;have R:ey (.ptr lu (0+2)) h3=some vv:=H3.ld 1 rfl rfl;have bR:=GY λh=>MB g hx h;refine zy (λk l h'=>∃j:Nat,l=[.ptr lu 0,.I i,uv,.I (j:Nat)]/\j+k=(g0 x).length/\h' = h3) ?_ (k:=(g0 x).length) (by simp_all);rintro T _ _ _ _ _ ⟨j,⟨⟩,ay,rfl⟩;unfold ri;refine ed r3.len ?_;by_cases hj:j<(g0 x).length
   ·refine gv ?_;have hw:=ig hj;obtain⟨y,D,U⟩:mz u (g0 x)[j]:=g.use i x hx _ (BG hj);generalize (g0 x)[j]=w at*;have ai:=(jq.1 D).1;obtain⟨l3,o3,_,L,N⟩:=r3.nat hw .i64;obtain⟨l4,o4,_,_,z1,_,_,z2⟩:=u3.val D;refine ed L (ed N (oF R (ed u3.v.len (I8 ai ⟨iZ _,?_⟩))));refine ed rfl (fK (ed pf (fK (ed R (fK (ed rfl (fK (ed rfl (fK (ed L (fK (ed N (fK (ed z1 (fK (ed pf (fK (ed z2.op (xM (QO ?_))))))))))))))))))));rw[U];refine⟨iZ _,ed rfl (iI (fT (by simp) ?_))⟩;exact fM ⟨T-1,by omega,j+1,rfl,by omega,rfl⟩
   ·refine ir ?_;exact fM ⟨k-1,by omega,F3,i+1,rfl,by omega,(M.trans O).trans s3,H3.tail⟩
  by_cases c1:x.op=1
  ·obtain⟨n1,n2,_⟩:=g.param i x hx c1;obtain⟨m,hm⟩:=Int.eq_ofNat_of_zero_le n1;rw[hm]at z3;refine fK (ed (Nl (by omega)) (fK (ed rfl (gj (ed pf (gj (ed z3 (AQ (I8 (n:=40) (by omega) (gj (ed rfl (ed rfl (ed eA ?_)))))))))))));exact ae (λA h4=>bP A _ _) (iI (fT (by simp) last))
  ·refine fK (ed (KZ (by omega)) (fK (ed rfl (gO (gO (DX (gO (ed rfl (ed eA ?_)))))))));exact ae (λA h4=>bP A _ _) (iI (fT (by simp) last))
 refine ir ?_;clear hk hi k i;refine oF (C.ld 0 rfl rfl) (ed u1.v.len ?_);rw[jY (z:=V.bool false) rfl (by decide) (by omega),fw];obtain⟨o,O⟩:=C.make (E:=eB) (ty:=jb) (y:=false) (u:=V.bool false) u.ef.length rfl rfl;generalize r.new (.cells jb 1 true false (List.replicate u.ef.length (V.bool false)))=d at*;generalize r.next=lk at*;obtain⟨I,hI⟩:∃I:Nat->LP,I=λ(k:Nat) l h'=>∃(i:Nat) (seen:List Bool),l=[.ptr lu 0,.slice lk 0 u.ef.length,.I ((pre u i).length:Nat),.I i]/\i+k=u.blocks.length/\Sn F h F1 h'/\seen.length=u.ef.length/\(∀v:Nat,seen[v]? =some true↔v∈pre u i)/\ei F1 h' (eJ eB jb seen (.slice lk 0 u.ef.length)::er lu 29 (uC u vv vb vs)::cs):=⟨_,rfl⟩
 refine zg I (λk S x2 x3 x4 h6 hi=>?_) (k:=u.blocks.length) ?_;rotate_left
 ·rw[hI];refine⟨0,_,rfl,by omega,M.trans O,UO,λv=>?_,o⟩;constructor
  ·intro h;rw[wBx]at h;split at h <;> cases h
  ·intro h;simp[pre]at h
 clear o O C u1 M d;clear r;revert h6 hi;intro r hi;rw[hI]at hi;obtain⟨i,seen,⟨⟩,hk,M,bg,bh,C⟩:=hi;unfold qq;have u1:=hu.since M;have bS:=ZQ g i;refine oF (C.ld 1 rfl rfl) (ed u1.b.len ?_);by_cases hi:i<u.blocks.length;rotate_left
 ·refine ir ?_;obtain rfl:i=u.blocks.length:=by omega
  rw[JI g];exact oF (C.ld 1 rfl rfl) (ed u1.v.len (ed (Nl rfl) (H F1 r M C.tail.tail)))
 refine gv ?_;have hB:=ig hi;generalize u.blocks[i]=B at*;obtain⟨l1,o1,bv,bn,bp,_,S,x2,iv,iN,ip,_⟩:=u1.mh hB;refine oF (C.ld 1 rfl rfl) (ed S (ed x2 ?_));refine iH C rfl rfl (by simp only[lB,ev,iv.one,iN.one,ip.one];rfl) λd o O=>?_;generalize r.next=lx at*;have o:ei F1 d (er lx 41 (lB B bv bn bp)::_):=o;have u2:=u1.since O;have ah:=M.trans O;have bi:=iv.since O;have aP:=iN.since O
 have au:∀n:Nat,B.next.length=n->iO CS Q (Bx I k)
   [.ptr lu 0,.slice lk 0 u.ef.length,.I ((pre u i).length:Nat),.I i,.ptr lx 0,.I (n:Nat)] d:=λn hn=>by
  refine yD ?_;unfold pq;have z1:ey (.ptr lx (0+1)) d=some (.I B.fin):=o.ld 0 rfl rfl;have z2:ey (.ptr lx (0+2)) d=some (.I B.cond):=o.ld 0 rfl rfl;have z5:ey (.ptr lx (0+5)) d=some (.I B.state):=o.ld 0 rfl rfl;have R:ey (.ptr lu (0+2)) d=some vv:=o.ld 2 rfl rfl;have J:ey (.ptr lu (0+4)) d=some vs:=o.ld 2 rfl rfl;have last:mc CS Q (Bx I k) [.ptr lu 0,.slice lk 0 u.ef.length,.I ((pre u i).length:Nat),.I i,.ptr lx 0,.I n,.I 0] d:=by
   refine zK (λk l h'=>∃j:Nat,l=[.ptr lu 0,.slice lk 0 u.ef.length,.I ((pre u i).length:Nat),.I i,.ptr lx 0,.I n,.I (j:Nat)]/\j+k=n/\h' = d) ?_ (k:=n) ⟨0,rfl,by omega,rfl⟩;rintro T _ _ _ _ _ _ _ d ⟨j,⟨⟩,ay,rfl⟩;unfold qi;by_cases hj:j<n
   ·refine gv ?_;have ht:=ig (show j<B.next.length by omega);have bj:B.next[j]<u.blocks.length:=g.nx i _ (by unfold next;rw[hB];exact BG (show j<B.next.length by omega));generalize B.next[j]=t at*;obtain⟨l3,o3,_,L,N⟩:=aP.nat ht .i64;refine oF (o.ld 0 rfl rfl) (ed L (ed N (oF (o.ld 2 rfl rfl) (ed u2.b.len (I8 bj ⟨iZ _,?_⟩)))));refine ue (gw rfl ?_);exact kh (m:=1) (by have:=AR g hB;omega) (by omega) ⟨T-1,by omega,j+1,rfl,by omega,rfl⟩
   refine ir ?_;clear z1 z2 z5 R J
   refine zp (λk l h'=>∃(j:Nat) (seen:List Bool),l=[.ptr lu 0,.slice lk 0 u.ef.length,.I ((pre u i).length+j:Nat),.I i,.ptr lx 0,.I j]/\j+k=B.ef.length/\Sn F h F1 h'/\Sn F1 d F1 h'/\seen.length=u.ef.length/\(∀v:Nat,seen[v]? =some true↔v∈pre u i++B.ef.take j)/\ei F1 h' (er lx 41 (lB B bv bn bp)::eJ eB jb seen (.slice lk 0 u.ef.length)::er lu 29 (uC u vv vb vs)::cs)) ?_ (k:=B.ef.length)
    ⟨0,seen,rfl,by omega,ah,Sn.refl _ _,bg,λv=>by rw[bh v,wB5,GD],o⟩
   rintro k3 _ _ _ _ _ _ h3 ⟨j,sn,⟨⟩,bU,s3,aQ,aR,aw,H3⟩;unfold qR;have aS:=bi.since aQ;have u3:=hu.since s3;have bV:=Bl g hB;refine oF (H3.ld 0 rfl rfl) (ed aS.len ?_);by_cases hj:j<B.ef.length
   ·refine gv ?_;have hv:=ig hj;have bm:=Qh hj;generalize B.ef[j]=v at*;have ax:At u v i j:=⟨B,hB,hv⟩
    have bo:=g.jA v i j ax;obtain⟨l3,o3,_,L,N⟩:=aS.nat hv .i64;have aT:v ∉ pre u i++B.ef.take j:=λhm=>by
     rcases FM.1 hm with r|r
     ·obtain⟨c,m,d,h3⟩:=Hi.1 r;have:=(g.Hy _ _ _ _ _ d ax).1;omega
     ·obtain⟨m,hm⟩:=mm.1 r;rw[List.getElem?_take]at hm;split at hm
      ·have:=(g.Hy _ _ _ _ _ ⟨B,hB,hm⟩ ax).2;omega
      ·cases hm
    have br:sn[v]? =some false:=by
     have r:=ig (show v<sn.length by omega);have d:=aw v
     cases e:sn[v]with
     |true=>rw[r,e]at d;exact absurd (d.1 rfl) aT
     |false=>rw[r,e]
    obtain⟨l4,o4,w1,w2⟩:=H3.IX 1 rfl br .i64;have z0:ey (.ptr lx (0+0)) h3=some bv:=H3.ld 0 rfl rfl;refine oF z0 (ed L (ed N (oF (H3.ld 2 rfl rfl) (ed u3.v.len (I8 bo ⟨iZ _,?_⟩)))));refine ed rfl (yy (by simp only[fe,fJ,z0,L,N,w1,w2]) (iI (fT (by simp) ?_)));obtain⟨l5,o5,h4,e1,e2,_,H4,s4⟩:=H3.Ir 1 rfl (k:=v) (y:=true) (u:=V.bool true) (by omega) rfl rfl rfl;refine oF z0 (ed L (ed N (ed e1 ?_)));rw[e2,ej];simp only[jx,mZ]at H4;refine fM (fM ⟨k3-1,by omega,j+1,_,rfl,by omega,s3.trans s4,aQ.trans s4,by rw[KD];exact aR,λx=>?_,H4⟩);rw[bm,<-Jx,FM,<-aw x,wBV];by_cases e:x=v
    ·subst e;rw[MT (by omega)];exact⟨λ_=> .inr rfl,λ_=>rfl⟩
    ·rw[HO λh=>e h.symm];exact⟨.inl,λh=>h.elim id λh=>absurd h e⟩
   ·refine ir ?_;obtain rfl:j=B.ef.length:=by omega
    refine fM ⟨k-1,by omega,?_⟩;rw[hI];refine⟨i+1,sn,?_,by omega,s3,aR,λv=>?_,H3.tail⟩
    ·rw[Dn hB,I9]
    ·rw[aw v,Js,Dn hB]
  have c3:∀K:fo,K (.bool false) d->oP (fQ false (V.bool false)) λbt=>oP (gV bt (fH 1 (V.ptr lx 0))) λaU=>oP (fQ false (V.bool false)) λbu=>oP (gV bu (ey aU d)) λaV=>oP (fQ false (V.bool false)) λbw=>oP (gV bw (eo .eql 3 aV (V.I 3))) λaW=>oP (fQ false (V.bool false)) λbx=>oP (gV bx (some aW)) λq=>
    oP (fQ true q) λbz=>oP (gV bz (fH 5 (V.ptr lx 0))) λaX=>oP (fQ true q) λbA=>oP (gV bA (ey aX d)) λaY=>oP (fQ true q) λbC=>oP (gV bC (fH 4 (V.ptr lu 0))) λaZ=>oP (fQ true q) λbD=>oP (gV bD (ey aZ d)) λa4=>oP (fQ true q) λbE=>oP (gV bE (fy a4)) λa5=>
    oP (fQ true q) λbG=>oP (gC bG (some (gg,[aY,a5]))) λbH=>xd CS bH d λa6 h3=>oP (fQ true q) λaj=>oP (gV aj (oD .not a6)) λa7=>oP (om (V.bool false) (l0 q a7 (V.bool false))) λG=>K G h3:=λK HK=>by
   refine fK (ed pf (fK (ed z1 ?_)));by_cases c:B.fin=3
   ·refine fK (ed (Nl (by omega)) (fK (ed rfl ?_)));have hs:B.state<u.eh.length:=by
     rcases g.fin i B hB with⟨e,_⟩|⟨e,_⟩|⟨_,_,e⟩
     ·omega
     ·omega
     ·exact e
    exact gj (ed pf (gj (ed z5 (gj (ed pf (gj (ed J (gj (ed u2.s.len (AQ (I8 hs (gj (ed rfl (ed rfl HK))))))))))))))
   ·exact fK (ed (KZ (by omega)) (fK (ed rfl (gO (gO (gO (gO (gO (DX (gO (ed rfl HK)))))))))))
  refine oF (o.ld 0 rfl rfl) (ed aP.len (ed (Wt (by omega)) (fK (ed pf (fK (ed z1 ?_))))));by_cases c:B.fin=2
  ·obtain ⟨y,D,U⟩:mz u B.cond:=by
    rcases g.fin i B hB with⟨e,_⟩|⟨_,_,e⟩|⟨e,_⟩
    ·omega
    ·exact e
    ·omega
   have bI:=(jq.1 D).1;obtain⟨l4,o4,_,_,L,_,_,N⟩:=u2.val D;refine fK (ed (Nl (by omega)) (fK (ed rfl ?_)));refine gj (ed pf (gj (ed z2 (gj (ed pf (gj (ed R (gj (ed u2.v.len (AQ (I8 bI ?_)))))))))));refine gj (ed rfl (gj (ed rfl ?_)));refine fK (ed pf (fK (ed R (fK (ed pf (fK (ed z2 (fK (ed L (fK (ed pf (fK (ed N.op (xM (QO ?_)))))))))))))));rw[U];refine fK (ed rfl (gj (ed rfl (ed rfl ?_))));exact c3 (λG h3=>bP G _ _) (iI (fT (by simp) last))
  ·refine fK (ed (KZ (by omega)) (fK (ed rfl ?_)));refine gO (gO (gO (gO (gO (DX (gO (gO ?_)))))));refine OC (OC (OC (OC (OC (OC (OC (zcm (OC (gO (ed rfl ?_))))))))));exact c3 (λG h3=>bP G _ _) (iI (fT (by simp) last))
 have z1:ey (.ptr lx (0+1)) d=some (.I B.fin):=o.ld 0 rfl rfl;refine oF z1 (fP ?_);rcases g.fin i B hB with⟨f1,f2⟩|⟨f1,f2,_⟩|⟨f1,f2,_⟩
 ·exact gw (by omega) (au 1 f2)
 ·exact fT (by omega) (fP (gw (by omega) (au 2 f2)))
 ·exact fT (by omega) (fP (fT (by omega) (fP (gw (by omega) (au 0 (by rw[f2];rfl))))))
end
open Un Dm
section
variable{F F':Nat->Prop}{h h':Hp}{cs:List Pc}{Q:fo}{u:U}{vv vb vs:V}
theorem Vv(g:Good u){w b:Nat}(h:pT u w b):∃c j,At u w c j/\(c=b/\j<1073741824\/c≠b/\oV (next u) c b):=by
 obtain⟨c,j,a,d⟩:=h;refine⟨c,j,a,?_⟩;by_cases e:c=b
 ·obtain⟨B,f,i⟩:=a
  grind[Bl,jq]
 simp_all
structure Zh (u:U) (i j:Nat) (mh Fi:List Nat):Prop where
 nb:mh.length=u.ef.length
 np:Fi.length=u.ef.length
 yes:∀(v c m:Nat),At u v c m->(c<i\/(c=i/\m<j))->mh[v]? =some c/\Fi[v]? =some m
theorem Zh.step(g:Good u){i j v:Nat}{mh Fi:List Nat}(S:Zh u i j mh Fi)(b:At u v i j):Zh u i (j+1) (mh.set v i) (Fi.set v j):=by
 have a:=g.jA _ _ _ b;refine⟨by rw[KD];exact S.nb,by rw[KD];exact S.np,λw c m d hc=>?_⟩;by_cases e:w=v
 ·subst e;obtain⟨rfl,rfl⟩:=g.Hy _ _ _ _ _ d b;rw[MT (by rw[S.nb];exact a),MT (by rw[S.np];exact a)]
  simp_all
 ·rw [HO (by omega),HO (by omega)];refine S.yes w c m d ?_;rcases hc with hc|⟨rfl,hc⟩
  ·omega
  ·refine .inr ⟨rfl,?_⟩;by_cases f:m=j
   ·subst f;obtain⟨B,k,l⟩:=d;obtain⟨n,h,o⟩:=b
    simp_all
   ·omega
theorem Zh.next{i:Nat}{B:Bk}{mh Fi:List Nat}(d:u.blocks[i]? =some B)(S:Zh u i B.ef.length mh Fi):Zh u (i+1) 0 mh Fi:=by
 refine⟨S.nb,S.np,λv c m a hc=>S.yes v c m a ?_⟩;rcases hc with hc|⟨_,hc⟩
 ·by_cases e:c=i
  ·subst e;obtain⟨f,b,g⟩:=a
   grind
  omega
 ·omega
theorem Vm(g:Good u){VL:List (List Nat)}(a:VL.length=u.blocks.length)(c:∀b:Nat,b<u.blocks.length->VL[b]? =some (Un.next u b)):Nxs u.blocks.length (Un.next u) VL:=by
 refine⟨g.Jz,g.nb,a,c,λb e=>?_,λb _ t d=>g.nx b t d⟩
 grind[ig,Un.next,next,AR]
theorem Qq(g:Good u){b k v:Nat}{x:Vl}{B:Bk}(c:u.blocks[b]? =some B)(a:At u v b k)(d:u.ef[v]? =some x)(e:hY x.op=true):∀(j w:Nat)(y:Vl),j<k->B.ef[j]? =some w->u.ef[w]? =some y->hY y.op=true:=
 λj w y i f h=>Oc g a d e ⟨B,c,f⟩ h (by omega)
theorem ZM:(eL eN).rel F h [] [.ee]:=⟨.ee,rfl,.nil⟩
theorem Yl{len n l o m:Nat}{kd:IntKind}(a:m<len):zaJ len n (.ptr l o) (.int kd (m:Nat))=some (.ptr l (o+m*n)):=by
 show bB (Nat.blt m len) _=_
 grind[lL,Nn]
theorem TS(op:Nat):(((op:Int) == 21) ||((op:Int) == 1))=hY op:=by
 grind[hY,Int,XZ,Bool.or_comm]
theorem Xw{mh Fi:List Nat}{LG:List (List Bool)}{wb wp wd pv:V}{lu lo To:Nat}(g:Good u)(o:zaM u mh Fi LG)(H0:ei F h (er lo To (SD u vv vb vs wb wp wd)::er lu 29 (uC u vv vb vs)::cs))(hu:CL F h u vv vb vs)
  (Z:iA eN F h mh wb) (hp:iA eN F h Fi wp) (hd:iA (eL eB) F h LG wd) (r:iA (eL eN) F h ((List.range u.blocks.length).map (Un.ahead u)) pv) (H:∀F' h',Sn F h F' h'->ei F' h' cs->Q (.bool true) h') :
  mf CS Q [.ptr lu 0,pv,.ptr lo 0,.I 0] h:=by
 have nv:=g.nv;have nb:=g.nb;have aj:∀b:Nat,b<u.blocks.length->((List.range u.blocks.length).map (Un.ahead u))[b]? =some (Un.ahead u b):=by simp_all
 obtain⟨I,hI⟩:∃I:Nat->LP,I=λk l h'=>∃(F':Nat->Prop) (i:Nat),l=[.ptr lu 0,pv,.ptr lo 0,.I i]/\i+k=u.blocks.length/\Sn F h F' h'/\ei F' h' (er lo To (SD u vv vb vs wb wp wd)::er lu 29 (uC u vv vb vs)::cs):=⟨_,rfl⟩
 refine zE I (λk x1 x3 x4 x5 h1 hi=>?_) (k:=u.blocks.length) ?_;rotate_left
 ·rw[hI];exact⟨F,0,rfl,by omega,Sn.refl _ _,H0⟩
 rw[hI]at hi;obtain⟨F1,i,⟨⟩,hk,s1,H1⟩:=hi;unfold qZ;refine oF (H1.ld 1 rfl rfl) (ed (hu.since s1).b.len ?_);by_cases hi:i<u.blocks.length;rotate_left
 ·exact ir (H F1 h1 s1 H1.tail.tail)
 refine gv ?_;have K:=ig hi;generalize u.blocks[i]=B at*;obtain⟨l1,o1,S,T,U,_,x1,x2,iv,iN,ip,_⟩:=(hu.since s1).mh K;refine oF (H1.ld 1 rfl rfl) (ed x1 (ed x2 ?_));refine iH H1 rfl rfl (by simp only[lB,ev,iv.one,iN.one,ip.one];rfl) λh2 H2 s2=>?_;generalize h1.next=lx at*;have H2:ei F1 h2 (er lx 41 (lB B S T U)::_):=H2;have iv:=iv.since s2;have ak:=s1.trans s2;have Bn:∀{A d},Sn F h A d->ei A d (er lx 41 (lB B S T U)::er lo To (SD u vv vb vs wb wp wd)::er lu 29 (uC u vv vb vs)::cs)->oP (eo .add 3 (V.I i) (V.I 1)) λaa=>Bx I k [.ptr lu 0,pv,.ptr lo 0,aa] d:=λ{A d} f s=>by
  refine fM ⟨k-1,by omega,?_⟩;rw[hI];exact⟨A,i+1,rfl,by omega,f,s.tail⟩
 have aw:=Bl g K;obtain⟨I6,M⟩:∃I:Nat->LP,I=λk l h'=>∃(F':Nat->Prop) (m:Nat),l=[.ptr lu 0,pv,.ptr lo 0,.I i,.ptr lx 0,.I m]/\m+k=B.ef.length/\Sn F h F' h'/\Sn F1 h2 F' h'/\ei F' h' (er lx 41 (lB B S T U)::er lo To (SD u vv vb vs wb wp wd)::er lu 29 (uC u vv vb vs)::cs):=⟨_,rfl⟩
 refine zb I6 (λk6 x1 x3 x4 x5 x6 x7 W ab=>?_) (k:=B.ef.length) ?_;rotate_left
 ·rw[M];exact⟨F1,0,rfl,by omega,ak,Sn.refl _ _,H2⟩
 rw[M]at ab;clear H2 H1;obtain⟨F3,m,⟨⟩,ax,C,ac,z⟩:=ab;unfold qQ;have ae:=iv.since ac;refine oF (z.ld 0 rfl rfl) (ed ae.len ?_);have u3:=hu.since C;by_cases hm:m<B.ef.length
 ·refine gv ?_;have hv:=ig hm;generalize B.ef[m]=v at*;have D:At u v i m:=⟨B,K,hv⟩
  obtain⟨x,N⟩:∃x,u.ef[v]? =some x:=⟨_,ig (g.jA v i m D)⟩
  obtain⟨l4,o4,al,y1,y2⟩:=ae.nat hv .i64;obtain⟨l5,o5,w,am,X,z2,xw,_⟩:=u3.val N;refine oF (z.ld 2 rfl rfl) (oF (z.ld 0 rfl rfl) (ed y1 (ed y2 (ed X (ed z2 ?_)))));rw[ic];obtain⟨H4,s4⟩:=z.zt 38 [V.I 0,V.I 0,V.I 0,V.I 0,V.ee,V.I 0];have g4:(W.new (.cells 38 1 true false [V.I 0,V.I 0,V.I 0,V.I 0,V.ee,V.I 0])).get W.next=some (.cells 38 1 true false [V.I 0,V.I 0,V.I 0,V.I 0,V.ee,V.I 0]):=fg _ _;generalize W.new (.cells 38 1 true false [V.I 0,V.I 0,V.I 0,V.I 0,V.ee,V.I 0])=h4 at*;refine⟨by simp_all,HW z2 (s4.eR _ am),j5 y2 (s4.eR _ al),H4.ld 1 rfl rfl,H4.ld 3 rfl rfl,?_⟩;obtain⟨h5,e5,n5,H5,s5⟩:=H4.Y0 0 (ws:=lT x w) (n:=6) rfl rfl rfl (by simp only[lT,ev,xw.one];rfl);rw[e5,ej];simp only[jx]at H5;refine⟨n5,ed (H5.C9 0 rfl rfl) ?_⟩;generalize W.next=Y at*;have O:=s4.trans s5;refine Gf H5 (xw.since O) λF6 h6 uv s6 H6 r6=>?_;have ay:=GY λh=>MB g N h;have an:=(C.trans O).trans s6;have ao:=(ac.trans O).trans s6;clear H5 H4 e5 n5;obtain⟨I7,P⟩:∃I:Nat->LP,I=λk l h'=>∃(F':Nat->Prop) (j:Nat),l=[.ptr lu 0,pv,.ptr lo 0,.I i,.ptr lx 0,.I m,.ptr Y 0,uv,.I j]/\j+k=(g0 x).length/\Sn F h F' h'/\Sn F6 h6 F' h'/\ei F' h' (er Y 38 (lT x w)::er lx 41 (lB B S T U)::er lo To (SD u vv vb vs wb wp wd)::er lu 29 (uC u vv vb vs)::cs):=⟨_,rfl⟩
  refine ze I7 (λk7 x1 x3 x4 x5 x6 x7 x8 x9 aA h7 ag=>?_) (k:=(g0 x).length) ?_;rotate_left
  ·rw[P];exact⟨F6,0,rfl,by omega,an,Sn.refl _ _,H6⟩
  rw[P]at ag;clear H6;obtain⟨F7,j,⟨⟩,aB,t,R,L⟩:=ag;unfold qe;have r7:=r6.since R;refine ed r7.len ?_;have u7:=hu.since t;by_cases hj:j<(g0 x).length
  ·refine gv ?_;have ha:=ig hj;have ap:=BG hj;generalize (g0 x)[j]=a at*;obtain⟨l8,o8,_,q1,q2⟩:=r7.nat ha .i64;have ah:∀{d},Sn F7 h7 F7 d->ei F7 d (er Y 38 (lT x w)::er lx 41 (lB B S T U)::er lo To (SD u vv vb vs wb wp wd)::er lu 29 (uC u vv vb vs)::cs)->jI CS Q (Bx I k) (Bx I6 k6) (Bx I7 k7) [.ptr lu 0,pv,.ptr lo 0,.I i,.ptr lx 0,.I m,.ptr Y 0,uv,.I j] d:=λ{d} f s=>by
    refine yM ?_;unfold pM;refine fM ⟨k7-1,by omega,?_⟩;rw[P];exact⟨F7,j+1,rfl,by omega,t.trans f,R.trans f,s⟩
   refine oF (L.ld 0 rfl rfl) (fP ?_);by_cases c:x.op=21
   ·refine gw (by omega) ?_;obtain⟨_,aC⟩:=g.By v i m x B D N c K;have aq:g0 x=x.args:=by unfold g0;rw[if_pos c]
    rw[aq]at ha hj;have y:∃p,B.ez[j]? =some p:=by simp_all
    obtain ⟨p,y⟩:=y;obtain⟨ca,ja,E,G⟩:=Vv g (g.AX v i m x B D N c K j a p ha y);have ar:p<u.blocks.length:=by
     have hm:=AI y;rw[g.ez i B K]at hm;obtain⟨q,B',h1,_,W⟩:=tj.1 hm;have:=(jq.1 h1).1;omega
    obtain⟨la,oa,wr,_,t1,t2,t3⟩:=(r.since t).list (aj i hi) .i64;rw[g.ez i B K]at y;obtain⟨lc,oc,_,t4,t5⟩:=t3.nat y .i64;refine ed (L.C9 2 rfl rfl) (ed q1 (ed q2 (ed t1 (ed t2 (ed t4 (ed t5 ?_))))));refine Eg o L u7 (Z.since t) (hp.since t) (hd.since t) (k:=1073741824) E ar G λd f s=>?_;exact⟨f.next,ue (gw rfl (ah f s))⟩
   ·refine fT (by omega) ?_;obtain⟨ca,ja,E,G⟩:=g.A6 v i m x D N c a ap;refine ed (L.C9 2 rfl rfl) (ed q1 (ed q2 ?_));refine Eg o L u7 (Z.since t) (hp.since t) (hd.since t) E hi G λd f s=>?_;exact⟨f.next,ue (gw rfl (ah f s))⟩
  refine ir ?_;have z0:ey (.ptr Y (0+0)) h7=some (.I x.op):=L.ld 0 rfl rfl;refine oF z0 (ed (ik ..) (ed (a:= .bool (leaves x.op)) ?_ ?_))
  ·simp only[fe,fJ,z0,ik,pe];unfold leaves
   grind[Int,XZ]
  have au:∀{A d},Sn F7 h7 A d->ei A d (er Y 38 (lT x w)::er lx 41 (lB B S T U)::er lo To (SD u vv vb vs wb wp wd)::er lu 29 (uC u vv vb vs)::cs)->oP (eo .add 3 (V.I m) (V.I 1)) λai=>Bx I6 k6 [.ptr lu 0,pv,.ptr lo 0,.I i,.ptr lx 0,ai] d:=λ{A d} f s=>by
   refine fM ⟨k6-1,by omega,?_⟩;rw[M];exact⟨A,m+1,rfl,by omega,t.trans f,(ao.trans R).trans f,s.tail⟩
  cases hl:leaves x.op with
  | true=>
    obtain⟨fs,J⟩:∃fs,u.eh[x.state]? =some fs:=⟨_,ig (g.leave v x N hl)⟩
    refine gj (ed (L.C9 2 rfl rfl) (gj (ed pf (gj (ed (L.ld 0 rfl rfl) (gj (ed rfl (gj (ed rfl (AQ ?_))))))))));refine Mz o g L u7 (Z.since t) (hp.since t) (hd.since t) J hi (λw hw=>g.Dx v i m x fs D N hl J w hw) λA d f s=>?_
    exact ed rfl (iI (fT (by simp) (au f s)))
  | false=>
    refine gO (gO (gO (gO (gO (DX ?_)))));exact ed rfl (iI (fT (by simp) (by grind[Sn.refl])))
 refine ir ?_;have X:ey (.ptr lx (0+1)) W=some (.I B.fin):=z.ld 0 rfl rfl;refine oF X ?_;by_cases c2:B.fin=2
 ·obtain⟨ca,ja,E,G⟩:=Vv g (g.A2 i B K c2);refine ed (by simp_all) (gj (ed (z.C9 1 rfl rfl) (gj (ed pf (gj (ed (z.ld 0 rfl rfl) (gj (ed rfl (AQ ?_)))))))));refine Eg o z u3 (Z.since C) (hp.since C) (hd.since C) (k:=1073741824) E hi G λd f s=>?_;have X:ey (.ptr lx (0+1)) d=some (.I B.fin):=s.ld 0 rfl rfl;refine ed rfl (fK (ed pf (fK (ed X (fK (ed (KZ (by omega)) (fK (ed rfl ?_))))))));refine gO (gO (gO (gO (DX (gO (ed rfl (iI (fT (by simp) ?_))))))));exact Bn (C.trans f) s
 ·refine ed (KZ (by omega)) (gO (gO (gO (gO (DX (ed rfl ?_))))));refine fK (ed pf (fK (ed X ?_)));by_cases c3:B.fin=3
  ·have hs:B.state<u.eh.length:=by
    rcases g.fin i B K with⟨e,_⟩|⟨e,_⟩|⟨_,_,e⟩
    ·omega
    ·omega
    ·exact e
   have J:=ig hs;generalize u.eh[B.state]=fs at*;refine fK (ed (Nl (by omega)) (fK (ed rfl ?_)));refine gj (ed (z.C9 1 rfl rfl) (gj (ed pf (gj (ed (z.ld 0 rfl rfl) (gj (ed rfl (AQ ?_))))))));refine Mz o g z u3 (Z.since C) (hp.since C) (hd.since C) (k:=1073741824) J hi (λw hw=>Vv g (g.De i B fs K c3 J w hw)) λA d f s=>?_;exact gj (ed rfl (ed rfl (iI (fT (by simp) (Bn (C.trans f) s)))))
  ·refine fK (ed (KZ (by omega)) (fK (ed rfl ?_)));exact gO (gO (gO (gO (DX (gO (ed rfl (iI (fT (by simp) (Bn C z)))))))))
theorem OI(g:Good u)(H0:ei F h cs)(Z:CL F h u vv vb vs)(H:∀F' h',Sn F h F' h'->ei F' h' cs->Q (.bool true) h'):cP CS lC [.agg (uC u vv vb vs)] h Q:=by
 refine B5 rfl rfl ?_;unfold tU;have nv:=g.nv;have nb:=g.nb;have Jz:=g.Jz;refine nQ H0 Z.one λh1 H1 s1=>?_;generalize h.next=lu at*;refine ed (H1.C9 0 rfl rfl) (Vs g H1 (Z.since s1) λF2 K s2 G=>?_);have ag:=s1.trans s2;refine ue (gw rfl (ed (G.C9 0 rfl rfl) (Vt g G (Z.since ag) λF3 h3 pv J q r3=>?_)));have ap:=ag.trans J;refine oF (q.ld 0 rfl rfl) (ed (Z.since ap).b.len ?_);rw[jY (z:=V.ee) rfl (by decide) (by omega),fw];obtain⟨U,s4⟩:=q.make (E:=eL eN) (ty:=iy) (y:=[]) (u:= .ee) u.blocks.length ZM rfl;generalize h3.new (.cells iy 1 true false (List.replicate u.blocks.length V.ee))=h4 at*;generalize h3.next=ln at*;have aa:∀b:Nat,b<u.blocks.length->((List.range u.blocks.length).map (Un.ahead u))[b]? =some (Un.ahead u b):=by simp_all
 obtain ⟨I,L⟩:∃I:Nat->LP,I=λk l h'=>∃(i:Nat) (Hr:List (List Nat)),l=[.ptr lu 0,pv,.slice ln 0 u.blocks.length,.I i]/\i+k=u.blocks.length/\Sn F3 h3 F3 h'/\Hr.length=u.blocks.length/\(∀j:Nat,j<i->Hr[j]? =some (Un.next u j))/\
   ei F3 h' (eJ (eL eN) iy Hr (.slice ln 0 u.blocks.length)::er lu 29 (uC u vv vb vs)::cs):=⟨_,rfl⟩
 refine zD I (λk d x3 x4 x5 h5 hi=>?_) (k:=u.blocks.length) ?_;rotate_left
 ·grind
 rw[L]at hi;clear U s4 h4 G H1 s1 s2 ag;obtain⟨i,Hr,⟨⟩,hk,R,aH,aI,S⟩:=hi;unfold qj;have A:=ap.trans R;have u5:=Z.since A;refine oF (S.ld 1 rfl rfl) (ed u5.b.len ?_);by_cases hi:i<u.blocks.length
 ·refine gv ?_;have r:=ig hi;generalize u.blocks[i]=B at*;obtain⟨l1,o1,bv,bn,bp,_,d,x2,iv,iN,ip,xb⟩:=u5.mh r;refine oF (S.ld 1 rfl rfl) (ed d (oF xb.next ?_));obtain⟨l6,o6,h6,e1,e2,_,f,C⟩:=S.Ir 0 rfl (k:=i) (y:=B.next) (u:=bn) (by omega) rfl iN.one ⟨bn,rfl,iN⟩;refine ed e1 ?_;rw[e2,ej];simp only[jx]at f;have M:=A.trans C;have u6:=Z.since M;have r6:=(r3.since R).since C;have a7:=iN.since C;obtain⟨l7,o7,a8,a9,ba,_,y1,_,_,_,aJ,yb⟩:=u6.mh r;rw[d]at y1;cases y1;obtain⟨l8,o8,pr,_,z1,z2,zr⟩:=r6.list (aa i hi) .i64;refine oF (f.ld 1 rfl rfl) (ed d (oF yb.ez (ed z1 (ed z2 ?_))));refine YQ aJ (by rw[g.ez i B r];exact zr) (by grind[Gt]) ?_;refine⟨iZ _,ue (gw rfl ?_)⟩;have k3:ey (.ptr lu (0+3)) h6=some vb:=f.ld 1 rfl rfl;obtain⟨l9,o9,bb,ah,bc,_,y2,_,_,aq,_,ar⟩:=u6.mh r;rw[d]at y2;cases y2;refine oF k3 (ed d (oF ar.next (ed aq.len (ed (ik ..) ?_))));refine ed (a:= .bool false) ?_ (iI (fT (by simp) ?_))
  ·by_cases c:B.next.length=2
   ·rw [show((B.next.length:Int) == 2)=true by simp_all,yk];have aK:B.fin=2:=by
     rcases g.fin i B r with⟨_,h⟩|⟨h,_⟩|⟨_,h,_⟩
     ·omega
     ·exact h
     ·simp_all
    have tt:∀j:Nat,j<2->∃l o t l' o' w,gI 1 ah (.I (j:Nat))=some (.ptr l o)/\ey (.ptr l o) h6=some (.I (t:Nat))/\gI 1 pv (.I (t:Nat))=some (.ptr l' o')/\ey (.ptr l' o') h6=some w/\fy w=some (.I ((1:Nat):Int)):=λj hj=>by
     have ht:=ig (show j<B.next.length by omega);have N:=BG (show j<B.next.length by omega);have aL:=g.ET i B r aK _ N;have aM:B.next[j]<u.blocks.length:=g.nx i _ (by grind[next]);obtain⟨l,o,_,q1,q2⟩:=aq.nat ht .i64;obtain⟨l',o',w,_,q3,q4,q5⟩:=r6.list (aa _ aM) .i64;exact⟨l,o,_,l',o',w,q1,q2,q3,q4,by rw[q5.len,aL]⟩
    obtain⟨a1,a2,a3,a4,a5,a6,b1,b2,b3,b4,b5⟩:=tt 0 (by omega);obtain⟨c1,c2,c3,c4,c5,c6,d1,d2,d3,d4,d5⟩:=tt 1 (by omega);have b1:gI 1 ah (.I 0)=some (.ptr a1 a2):=b1;have d1:gI 1 ah (.I 1)=some (.ptr c1 c2):=d1;simp only[fe,fJ,k3,d,ar.next,b1,b2,b3,b4,b5,d1,d2,d3,d4,d5,Wt (show(((1:Nat):Int))=1 from rfl),ng]
   ·rw[show((B.next.length:Int) == 2)=false by grind,Ku]
  ·refine fM ⟨k-1,by omega,?_⟩;rw[L];refine⟨i+1,_,rfl,by omega,R.trans C,by simp_all,λj hj=>?_,f⟩
   grind[MT,next,HO]
 refine ir ?_;obtain rfl:i=u.blocks.length:=by omega
 clear hk hi k L I;have r5:=r3.since R;obtain⟨l6,o6,pr,_,z1,z2,zr⟩:=r5.list (aa 0 (by omega)) .i64;have z1:gI 1 pv (.I 0)=some (.ptr l6 o6):=z1;refine ed z1 (ed z2 (ed zr.len (E7 (fT (by rw[g.Aw];simp) ?_))));obtain⟨f,C,rn⟩:=S.jQ 0 rfl;simp only[jx]at f;have f:=f.tail;have W:=Vm g aH aI;generalize aN:(λl=>F3 l\/Loc (V.slice ln 0 u.blocks.length) l)=P at*;have M:=A.trans C;have r6:=r5.since C;have u6:=Z.since M;clear S R q aN r5 r3 u5 A z1 z2 zr;refine Kx W (-1) f rn λh7 sv seen s7 H7 aO aP=>?_;have au:∀b:Nat,b<u.blocks.length->seen[b]? =some true:=λb hb=>by
  obtain⟨l,hl⟩:=g.reach b hb;exact(aP b).2 ⟨l,hl,λx _=>by omega⟩
 refine zi (λk l h'=>∃i:Nat,l=[.ptr lu 0,pv,.slice ln 0 u.blocks.length,sv,.I (i:Nat)]/\i+k=u.blocks.length/\h' = h7) ?_ (k:=u.blocks.length) ⟨0,rfl,by omega,rfl⟩;rintro k _ _ _ _ _ h7 ⟨i,⟨⟩,hk,rfl⟩;unfold qh;refine ed (H7.len 0 rfl) ?_;rw[aO];by_cases hi:i<u.blocks.length
 ·refine gv ?_;obtain⟨l8,o8,y1,y2⟩:=H7.IX 0 rfl (au i hi) .i64;refine ed y1 (ed y2 (ue (gw rfl ?_)));exact fM ⟨k-1,by omega,i+1,rfl,by omega,rfl⟩
 refine ir ?_;clear hk hi k i;have H7:=H7.tail;have ai:=M.trans s7;refine oF (H7.ld 0 rfl rfl) (ed (Z.since ai).v.len ?_);rw[jY (z:=V.I 0) rfl (by decide) (by omega),fw];obtain⟨H8,s8⟩:=H7.make (E:=eN) (ty:=en) (y:=0) (u:=V.I 0) u.ef.length rfl rfl;generalize h7.new (.cells en 1 true false (List.replicate u.ef.length (V.I 0)))=h8 at*;generalize h7.next=lb at*;have aw:=ai.trans s8;refine oF (H8.ld 1 rfl rfl) (ed (Z.since aw).v.len ?_);rw[jY (z:=V.I 0) rfl (by decide) (by omega),fw];obtain⟨H9,s9⟩:=H8.make (E:=eN) (ty:=en) (y:=0) (u:=V.I 0) u.ef.length rfl rfl;generalize h8.new (.cells en 1 true false (List.replicate u.ef.length (V.I 0)))=h9 at*;generalize h8.next=lp at*;have X:=(s7.trans s8).trans s9;clear H8 H7 s8 s7 ai aw f;have u9:=u6.since X;have r9:=r6.since X;have aQ:=rn.since X;have aR:=M.trans X;clear X M s9 u6 r6 rn
 obtain ⟨I,L⟩:∃I:Nat->LP,I=λk l h'=>∃(i:Nat) (mh Fi:List Nat),l=[.ptr lu 0,pv,.slice ln 0 u.blocks.length,.slice lb 0 u.ef.length,.slice lp 0 u.ef.length,.I i]/\i+k=u.blocks.length/\Sn P h9 P h'/\Zh u i 0 mh Fi/\
   ei P h' (eJ eN en Fi (.slice lp 0 u.ef.length)::eJ eN en mh (.slice lb 0 u.ef.length)::er lu 29 (uC u vv vb vs)::cs):=⟨_,rfl⟩
 refine zJ I (λk d x3 x4 x5 x6 x7 h1 hi=>?_) (k:=u.blocks.length) ?_;rotate_left
 ·rw[L];exact⟨0,_,_,rfl,by omega,Sn.refl _ _,⟨UO,UO,λv c m _ hc=>by omega⟩,H9⟩
 rw[L]at hi;clear H9;obtain⟨i,mh,Fi,⟨⟩,hk,s1,P1,H1⟩:=hi;unfold qU;have u1:=u9.since s1;refine oF (H1.ld 2 rfl rfl) (ed u1.b.len ?_);by_cases hi:i<u.blocks.length
 ·refine gv ?_;have r:=ig hi;generalize u.blocks[i]=B at*;have bd:=Bl g r
  obtain ⟨I4,aj⟩:∃I:Nat->LP,I=λk l h'=>∃(j:Nat) (fst:Bool) (mh Fi:List Nat),l=[.ptr lu 0,pv,.slice ln 0 u.blocks.length,.slice lb 0 u.ef.length,.slice lp 0 u.ef.length,.I i,.bool fst,.I j]/\j+k=B.ef.length/\Sn P h9 P h'/\Zh u i j mh Fi/\
    (fst=true↔∀(m w:Nat) (y:Vl),m<j->B.ef[m]? =some w->u.ef[w]? =some y->hY y.op=true)/\
    ei P h' (eJ eN en Fi (.slice lp 0 u.ef.length)::eJ eN en mh (.slice lb 0 u.ef.length)::er lu 29 (uC u vv vb vs)::cs):=⟨_,rfl⟩
  refine zx I4 (λk4 d x3 x4 x5 x6 x7 x8 x9 K ax=>?_) (k:=B.ef.length) ?_;rotate_left
  ·rw[aj];exact⟨0,true,mh,Fi,rfl,by omega,s1,P1,⟨λ_ m _ _ N=>by omega,λ_=>rfl⟩,H1⟩
  rw[aj]at ax;clear H1 P1 u1 s1 mh Fi;obtain⟨j,fst,mh,Fi,⟨⟩,be,s2,P2,ae,G⟩:=ax;unfold qC;have u2:=u9.since s2;obtain⟨l1,o1,bv,bn,bp,ab,d,_,iv,_,_,xb⟩:=u2.mh r;refine oF (G.ld 2 rfl rfl) (ed d (oF xb.ef (ed iv.len ?_)));by_cases hj:j<B.ef.length;rotate_left
  ·refine ir ?_;obtain rfl:j=B.ef.length:=by omega
   refine fM ⟨k-1,by omega,?_⟩;rw[L];exact⟨i+1,mh,Fi,rfl,by omega,s2,P2.next r,G⟩
  refine gv ?_;have hv:=ig hj;generalize B.ef[j]=v at*;have p:At u v i j:=⟨B,r,hv⟩
  have ak:=g.jA v i j p;obtain⟨x,hx⟩:∃x,u.ef[v]? =some x:=⟨_,ig ak⟩
  obtain⟨l4,o4,ac,y1,y2⟩:=iv.nat hv .i64;obtain⟨l5,o5,w,aS,z1,z2,xw,_⟩:=u2.val hx;refine oF (G.ld 2 rfl rfl) (oF (G.ld 2 rfl rfl) (ed d (oF xb.ef (ed y1 (ed y2 (ed z1 (ed z2 ?_)))))));rw[ic];obtain⟨q,J⟩:=G.zt 38 [V.I 0,V.I 0,V.I 0,V.I 0,V.ee,V.I 0];have g3:(K.new (.cells 38 1 true false [V.I 0,V.I 0,V.I 0,V.I 0,V.ee,V.I 0])).get K.next=some (.cells 38 1 true false [V.I 0,V.I 0,V.I 0,V.I 0,V.ee,V.I 0]):=fg _ _;generalize K.new (.cells 38 1 true false [V.I 0,V.I 0,V.I 0,V.I 0,V.ee,V.I 0])=h3 at*;refine⟨⟨g3,O.jL _ _ _ _ _⟩,HW z2 (J.eR _ aS),j5 y2 (J.eR _ ac),j5 xb.ef (J.eR _ ab),q.ld 3 rfl rfl,q.ld 3 rfl rfl,?_⟩;obtain⟨h4,e4,n4,U,s4⟩:=q.Y0 0 (ws:=lT x w) (n:=6) rfl rfl rfl (by simp only[lT,ev,xw.one];rfl);rw[e4,ej];simp only[jx]at U;refine⟨n4,?_⟩;generalize K.next=ly at*;have ay:ey (.ptr l1 (o1+0)) h4=some bv:=j5 (j5 xb.ef (J.eR _ ab)) (s4.eR _ ab);have aA:ey (.ptr l4 o4) h4=some (.I v):=j5 (j5 y2 (J.eR _ ac)) (s4.eR _ ac);refine oF (U.ld 3 rfl rfl) (ed d (oF ay (ed y1 (ed aA ?_))));obtain⟨l6,o6,h5,e5,e6,n5,S,R⟩:=U.Ir 2 rfl (k:=v) (y:=i) (u:=V.I i) (by rw[P2.nb];exact ak) rfl rfl rfl;refine ed e5 ?_;rw[e6,ej];simp only[jx,mZ]at S;have aT:ey (.ptr l1 (o1+0)) h5=some bv:=j5 ay (R.eR _ ab);have aU:ey (.ptr l4 o4) h5=some (.I v):=j5 aA (R.eR _ ac);refine oF (S.ld 3 rfl rfl) (ed d (oF aT (ed y1 (ed aU ?_))));obtain⟨l7,o7,h6,e7,e8,n6,f,C⟩:=S.Ir 1 rfl (k:=v) (y:=j) (u:=V.I j) (by rw[P2.np];exact ak) rfl rfl rfl;refine ed e7 ?_;rw[e8,ej];simp only[jx,mZ]at f;have al:=((J.trans s4).trans R).trans C;have z0:ey (.ptr ly (0+0)) h6=some (.I x.op):=f.ld 0 rfl rfl;have z4:ey (.ptr ly (0+4)) h6=some w:=f.ld 0 rfl rfl;have w6:=xw.since al;have r6:=(r9.since s2).since al;obtain⟨lr,bf,pr,_,p1,p2,p3⟩:=r6.list (aa i hi) .i64;have aV:hY x.op=true->fst=true:=λhh=>ae.2 (Qq g r p hx hh);refine oF z0 (ed (ik ..) (ed (a:= .bool (hY x.op)) (by simp only[fe,fJ,z0,ik,pe,TS]) (ed (a:= .bool false) ?_ (yy ?_ (yy ?_ (iI (fT (by simp) ?_)))))))
  ·show jz _ (some (V.bool (!fst)))=_;rw[iD]
   cases hh:hY x.op with
   |true=>rw[aV hh];rfl
   |false=>rfl
  ·simp only[fe,fJ,z0];by_cases c:x.op=21
   ·obtain⟨h0,hl⟩:=g.By v i j x B p hx c r;rw[Nl (by omega)];simp only[fe,yk,z4,w6.len,p1,p2,p3.len];rw[Wt (by rw[hl,g.ez i B r])];simp only[fe,ng];exact KZ (by omega)
   ·rw[KZ (by omega)];rfl
  ·simp only[fe,fJ,z0];by_cases c:x.op=1
   ·have h0:=g.par v i j x p hx c;rw[Nl (by omega)];simp only[fe,yk];exact Wt (by omega)
   ·rw[KZ (by omega)];rfl
  ·rw [iD];refine ed rfl (fM ⟨k4-1,by omega,?_⟩);rw[aj];refine⟨j+1,_,_,_,rfl,by omega,s2.trans al,P2.step g p,?_,f.tail⟩;rw[ve,ae];constructor
   ·rintro⟨h1,K⟩ m w' y N Y hy;by_cases e:m=j
    ·subst e;rw[hv]at Y;cases Y;rw[hx]at hy;cases hy;exact K
    ·exact h1 m w' y (by omega) Y hy
   ·intro h1;exact⟨λm w' y N Y hy=>h1 m w' y (by omega) Y hy,h1 j v x (by omega) hv hx⟩
 refine ir ?_;obtain rfl:i=u.blocks.length:=by omega
 clear hk hi k L I;refine Ec H1 λK G s2=>?_;generalize h1.next=lq at*;obtain⟨Tp,G⟩:∃T,ei P K (er lq T ((List.replicate 40 false).map V.bool)::eJ eN en Fi (.slice lp 0 u.ef.length)::eJ eN en mh (.slice lb 0 u.ef.length)::er lu 29 (uC u vv vb vs)::cs):=⟨_,G⟩
 obtain ⟨I,L⟩:∃I:Nat->LP,I=λk l h'=>∃(i:Nat) (ps:List Bool),l=[.ptr lu 0,pv,.slice ln 0 u.blocks.length,.slice lb 0 u.ef.length,.slice lp 0 u.ef.length,.ptr lq 0,.I i]/\i+k=u.ef.length/\Sn P h9 P h'/\ps.length=40/\
   (∀m:Nat,ps[m]? =some true->∃(w:Nat) (y:Vl),w<i/\u.ef[w]? =some y/\y.op=1/\y.n=(m:Int))/\
   ei P h' (er lq Tp (ps.map V.bool)::eJ eN en Fi (.slice lp 0 u.ef.length)::eJ eN en mh (.slice lb 0 u.ef.length)::er lu 29 (uC u vv vb vs)::cs):=⟨_,rfl⟩
 refine zo I (λk d x3 x4 x8 x9 bg bh h3 hi=>?_) (k:=u.ef.length) ?_;rotate_left
 ·rw[L];refine⟨0,_,rfl,by omega,s1.trans s2,UO,λm N=>?_,G⟩;rw[wBx]at N;split at N <;> cases N
 rw[L]at hi;clear G H1 u1 s1 s2;obtain⟨i,ps,⟨⟩,hk,J,aB,am,q⟩:=hi;unfold qE;have u3:=u9.since J;refine oF (q.ld 3 rfl rfl) (ed u3.v.len ?_);by_cases hi:i<u.ef.length
 ·refine gv ?_;have hx:=ig hi;generalize u.ef[i]=x at*;obtain⟨l1,o1,w,_,d,_,_,xl⟩:=u3.val hx
  have aC:∀{h8} {XM:List Bool},Sn P h3 P h8->XM.length=40->(∀m:Nat,XM[m]? =some true->∃(w:Nat) (y:Vl),w<i+1/\u.ef[w]? =some y/\y.op=1/\y.n=(m:Int))->ei P h8 (er lq Tp (XM.map V.bool)::eJ eN en Fi (.slice lp 0 u.ef.length)::eJ eN en mh (.slice lb 0 u.ef.length)::er lu 29 (uC u vv vb vs)::cs)->
    jK CS Q (Bx I k) [.ptr lu 0,pv,.slice ln 0 u.blocks.length,.slice lb 0 u.ef.length,.slice lp 0 u.ef.length,.ptr lq 0,.I i] h8:=λ{h8 XM} s8 hl hp H8=>by
   refine yG ?_;unfold pI;refine fM ⟨k-1,by omega,?_⟩;rw[L];exact⟨i+1,XM,rfl,by omega,J.trans s8,hl,hp,H8⟩
  have aD:∀m:Nat,ps[m]? =some true->∃(w:Nat) (y:Vl),w<i+1/\u.ef[w]? =some y/\y.op=1/\y.n=(m:Int):=λm N=>by
   obtain⟨w,y,h1,K⟩:=am m N;exact⟨w,y,by omega,K⟩
  refine oF (q.ld 3 rfl rfl) (ed d (oF xl.op (fP ?_)));by_cases c:x.op=1
  ·refine gw (by omega) ?_;obtain⟨n1,n2,n3⟩:=g.param i x hx c;obtain⟨m,N⟩:=Int.eq_ofNat_of_zero_le n1;have aW:m<40:=by omega
   have xn:=xl.n;rw[N]at xn;have eq:=Yl (n:=1) (l:=lq) (o:=0) (kd:= .i64) aW;have an:=ig (show m<ps.length by omega);have aX:ps[m]? =some false:=by
    cases e:ps[m]with
    | true=>
      rw[e]at an;obtain⟨w',y,h1,K,h3,h4⟩:=am m an;have:=n3 w' y K h3 (by omega)
      omega
    |false=>rw[an,e]
   have aY:ey (.ptr lq (0+m*1)) h3=some (.bool false):=q.ld 0 rfl (by rw[wX,Nat.mul_one,AJ,aX];rfl);refine oF (q.ld 3 rfl rfl) (ed d (oF xn (ed eq (ed aY (iI (fT (by simp) ?_))))));refine oF (q.ld 3 rfl rfl) (ed d (oF xn (ed eq ?_)));obtain⟨h4,e4,_,U,s4⟩:=q.st 0 (o:=m) (u:=V.bool true) rfl (by rw[BW];omega) rfl;have aZ:gG 1 (.ptr lq (0+m*1)) (V.bool true) h3=some (.val .undef h4):=by rw[wX,Nat.mul_one];exact e4
   rw[aZ,ej];simp only[jx]at U;refine aC s4 (XM:=ps.set m true) (by rw[KD];exact aB) (λm' aE=>?_) (by rw[List.map_set];exact U);by_cases e:m' = m
   ·subst e;exact⟨i,x,by omega,hx,c,N⟩
   ·rw[HO λh=>e h.symm]at aE;exact aD m' aE
  ·exact fT (by omega) (aC (Sn.refl _ _) aB aD q)
 refine ir ?_;clear hk hi k L I am i;obtain⟨U,s4,r4⟩:=q.tail.jQ 0 rfl;simp only[jx]at U;obtain⟨S,R,r5⟩:=U.tail.jQ 0 rfl;simp only[jx]at S;have ao:=s4.trans R;have A:=(aR.trans J).trans ao;refine Xl W S.tail ((aQ.since J).since ao) λbi h6 dv LG C f r6 D=>?_;refine ed (f.C9 0 rfl rfl) ?_;have aF:=(r4.since R).since C;have aG:=r5.since C;refine ed (a:= .agg (SD u vv vb vs (.slice lb 0 u.ef.length) (.slice lp 0 u.ef.length) dv)) ?_ ?_
 ·rcases r6 with⟨rfl,_⟩|⟨_,_,_,_,_,_,rfl,_⟩ <;> rfl
 have u6:=Z.since (A.trans C);refine iH f rfl rfl (by simp only[SD,ev,u6.v.one,u6.b.one,u6.s.one,aF.one,aG.one,r6.one];rfl) λh7 H7 s7=>?_;refine Xw g ⟨λv b k p=>?_,D⟩ H7 (u6.since s7) (aG.since s7) (aF.since s7) (r6.since s7) ((((r9.since J).since ao).since C).since s7) λF8 h8 s8 H8=>H F8 h8 (((A.trans C).trans s7).trans s8) H8;refine P1.yes v b k p (.inl ?_);obtain⟨B,r,_⟩:=p;exact(jq.1 r).1
end
