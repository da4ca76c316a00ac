/- Parts. -/
import Derived.Test.YtkpicojjjifmgaaGreatDoorM39
import Derived.Test.YtkpicojjjifmgaaGreatDoorM30
namespace Go.Proofs.YtkpicojjjifmgaaGreatDoor.Hx
open Un Dm
theorem Qe{w:Bool}{X:Option V}{K:V->Prop}(h:K .undef):oP (fD w .undef) λb=>oP (gV b X) K:=by cases w <;> exact h
theorem zd4{w:Bool}{C:ft}{f:Nat}{a:List V}{h:Hp}{K:fy}(H:K .undef h):oP (fD w .undef) λb=>oP (gC b (some (f,a))) λy=>qo C y h K:=by cases w <;> exact H
theorem Rj{t:Nat}{k:IntKind}{a b:Int}(h:¬b<a):ev .gtr t (.int k a) (.int k b)=some (.bool false):=by rw[nQ,Lh h]
theorem zbe{t:Nat}{k:IntKind}{a b:Int}(h:¬a<b):ev .lss t (.int k a) (.int k b)=some (.bool false):=by rw[jO,Lh h]
theorem XR{t:Nat}{k:IntKind}{a b:Int}(h:a=b):ev .neq t (.int k a) (.int k b)=some (.bool false):=by rw[nP,h];simp
theorem Ns{t:Nat}{k:IntKind}{a b:Int}(h:a=b):ev .eql t (.int k a) (.int k b)=some (.bool true):=by rw[gI,h];simp
theorem Mz{t:Nat}{k:IntKind}{a b:Int}(h:a≠b):ev .eql t (.int k a) (.int k b)=some (.bool false):=by rw[gI];simp[h]
theorem mQ{X:Option V}{K:V->Prop}(a:X=some (.bool false))(H:K (.bool false)):oP (nt (.bool false) X) K:=by rw[mU,a];exact H
section
variable{F F':Nat->Prop}{h h':Hp}{cs:List Pc}{Q:fy}{u:U}{vv vb vs:V}
theorem zbf{u:U}(g:Good u)(b:Nat):(pre u b).length<=u.eh.length:=kj _ _ (GB g b) λv hv=>by
 obtain⟨c,k,a,_⟩:=I5.1 hv;exact g.mH _ _ _ a
theorem WL(g:Good u)(H0:eo F h cs)(hu:ym F h u vv vb vs)(H:∀F' h',Sn F h F' h'->eo F' h' cs->Q (.bool true) h'):cP CS mP [.agg (uC u vv vb vs)] h Q:=by
 refine Eh rfl rfl ?_;unfold wA;have nv:=g.nv;have nb:=g.nb;have OV:=g.OV;have ns:=g.ns;refine jS H0 hu.one λr A G=>?_;generalize h.next=lu at*;have D:=hu.since G;have k3:eQ (.ptr lu (0+3)) r=some vb:=A.ld 0 rfl rfl;have M:eQ (.ptr lu (0+4)) r=some vs:=A.ld 0 rfl rfl;refine oF (A.ld 0 rfl rfl) (ee D.v.len (ee (Rj (by omega)) ?_));refine mQ (by simp only[fi,fe,k3,D.b.len];exact Rj (by omega)) ?_;refine mQ (by simp only[fi,fe,k3,D.b.len];exact zbe (by omega)) ?_;refine mQ (by simp only[fi,fe,M,D.s.len];exact Rj (by omega)) (jd (gg (by simp) ?_));clear k3 M;refine Bb (λk l h'=>∃(F':Nat->Prop) (i:Nat),l=[.ptr lu 0,.I i]/\i+k=u.en.length/\Sn F h F' h'/\eo F' h' (ez lu 30 (uC u vv vb vs)::cs)) ?_ (k:=u.en.length) ⟨F,0,rfl,by omega,G,A⟩;clear A D G r;rintro k _ _ r ⟨S,i,⟨⟩,hk,G,A⟩;unfold ta;have D:=hu.since G;have T:eQ (.ptr lu (0+2)) r=some vv:=A.ld 0 rfl rfl;have M:eQ (.ptr lu (0+4)) r=some vs:=A.ld 0 rfl rfl;refine oF M (ee D.s.len ?_);by_cases hi:i<u.en.length
 ·refine gB ?_;have ai:=hO hi;generalize u.en[i]=fs at*;obtain⟨q1,q2,q3⟩:=g.st i fs ai;obtain⟨l1,o1,f,_,U,x2,x3,xf⟩:=D.st ai;have x3:eQ (.ptr l1 (o1+0)) r=some f:=x3;refine oF M (ee U (oF x3 (ee xf.len (ee (zbe (by omega)) ?_))));refine mQ (by simp only[fi,fe,M,U,x3,xf.len];exact Rj (by omega)) (jd (gg (by simp) ?_));refine Bd (λk l h'=>∃j:Nat,l=[.ptr lu 0,.I i,.I (j:Nat)]/\j+k=fs.length/\h' = r) ?_ (k:=fs.length) ⟨0,rfl,by omega,rfl⟩;rintro k1 _ _ _ _ ⟨j,⟨⟩,bL,rfl⟩;unfold rI;refine oF M (ee U (oF x3 (ee xf.len ?_)));by_cases hj:j<fs.length
  ·refine gB ?_;have hf:=hO hj;obtain⟨r1,r2,_⟩:=q3 _ (zd hj);generalize fs[j]=x at*;obtain⟨l2,o2,a,b,_,N,O,y3,ya,yb⟩:=xf.zco hf;refine oF M (ee U (oF x3 (ee N (oF O (ee ya.len (ee (Rj (by omega)) ?_))))));refine mQ (by simp only[fi,fe,M,U,x3,N,y3,yb.len];exact Rj (by omega)) (jd (gg (by simp) ?_));exact fM ⟨k1-1,by omega,j+1,rfl,by omega,rfl⟩
  ·refine iJ ?_;refine oF M (ee U (ee x2 ?_));refine NS A xf (zN g i fs ai) λF2 d fv P o r2=>?_;have bQ:=DW (fs:=fs) (zN g i fs ai).2;have ak:=G.trans P;have u2:=D.since P;have T:eQ (.ptr lu (0+2)) d=some vv:=o.ld 0 rfl rfl;refine A8 (λk l h'=>∃j:Nat,l=[.ptr lu 0,.I i,fv,.I (j:Nat)]/\j+k=(gN fs).length/\h' = d) ?_ (k:=(gN fs).length) ⟨0,rfl,by omega,rfl⟩;rintro W _ _ _ _ _ ⟨j,⟨⟩,aB,rfl⟩;unfold tm;refine ee r2.len ?_;by_cases hj:j<(gN fs).length
   ·refine gB ?_;have hx:=hO hj;obtain⟨x,J,X⟩:xP u (gN fs)[j]:=by
     have:=zd hj;unfold gN at this;obtain⟨f,hf,hm⟩:=RT.1 this;obtain⟨_,_,t1,t2⟩:=q3 f hf;exact(Hi.1 hm).elim (t1 _) (t2 _)
    generalize (gN fs)[j]=w at*;have al:=(jR.1 J).1;obtain⟨l3,o3,_,N,O⟩:=r2.nat hx .i64;obtain⟨l4,o4,_,_,z1,_,_,z2⟩:=u2.val J;refine ee N (ee O (oF T (ee u2.v.len (Ky al ⟨jK _,?_⟩))));refine ee rfl (fE (ee pf (fE (ee T (fE (ee rfl (fE (ee rfl (fE (ee N (fE (ee O (fE (ee z1 (fE (ee pf (fE (ee z2.op (po (SE ?_))))))))))))))))))));rw[X];refine⟨jK _,ee rfl (jd (gg (by simp) ?_))⟩;exact fM ⟨W-1,by omega,j+1,rfl,by omega,rfl⟩
   ·refine iJ ?_;exact fM ⟨k-1,by omega,F2,i+1,rfl,by omega,ak,o⟩
 refine iJ ?_;clear hk hi k i T M;refine Bh (λk l h'=>∃(F':Nat->Prop) (i:Nat),l=[.ptr lu 0,.I i]/\i+k=u.eh.length/\Sn F h F' h'/\eo F' h' (ez lu 30 (uC u vv vb vs)::cs)) ?_ (k:=u.eh.length) ⟨S,0,rfl,by omega,G,A⟩;clear A D G r S;rintro k _ _ r ⟨S,i,⟨⟩,hk,G,A⟩;unfold rH;have D:=hu.since G;refine oF (A.ld 0 rfl rfl) (ee D.v.len ?_);by_cases hi:i<u.eh.length
 ·refine gB ?_;have hx:=hO hi;generalize u.eh[i]=x at*;obtain⟨l1,o1,w,_,U,x2,xw,_⟩:=D.val hx;refine oF (A.ld 0 rfl rfl) (ee U (ee x2 ?_));refine gY A rfl rfl (by simp only[mI,ey,xw.one];rfl) λd o P=>?_;generalize r.next=lx at*;have u2:=D.since P;have w2:=xw.since P;have Y:eQ (.ptr lx (0+0)) d=some (.I x.op):=o.ld 0 rfl rfl;have z3:eQ (.ptr lx (0+3)) d=some (.I x.n):=o.ld 0 rfl rfl;have z4:eQ (.ptr lx (0+4)) d=some w:=o.ld 0 rfl rfl;have z5:eQ (.ptr lx (0+5)) d=some (.I x.state):=o.ld 0 rfl rfl;have M:eQ (.ptr lu (0+4)) d=some vs:=o.ld 1 rfl rfl;obtain⟨bR,bS⟩:=g.op i x hx;refine oF Y (ee (zbe (by omega)) ?_);refine mQ (by simp only[fi,fe,Y];exact Rj (by omega)) ?_;refine mQ ?_ ?_
  ·simp only[fi,fe,Y];by_cases c:x.op=20
   ·rw[Ns (by omega)];simp only[fi,mf,z4,w2.len];exact XR (by rw[g.putAt i x hx c];rfl)
   ·rw[Mz (by omega)];rfl
  refine fE (ee pf (fE (ee Y ?_)));have kA:oP (nt (.bool false) (oB (fI 0 (V.ptr lx 0)) λaC=>oB (eQ aC d) λaD=>oB (ev .eql 3 aD (V.I 1)) λaE=>oB (some aE) λaF=>kv aF (oB (fI 3 (V.ptr lx 0)) λaG=>oB (eQ aG d) λaH=>ev .gtr 2 aH (V.I 1073741824)))) λv=>v = .bool false:=by
   refine mQ ?_ rfl;simp only[fi,fe,Y];by_cases c:x.op=1
   ·rw[Ns (by omega)];simp only[fi,mf,z3];obtain⟨n1,n2,_⟩:=g.param i x hx c;exact Rj (by omega)
   ·rw[Mz (by omega)];rfl
  obtain⟨vA,eA,rfl⟩:=lB.1 kA
  have aj:∀K:fy,K (.bool false) d->oP (fD false (V.bool false)) λam=>oP (gV am (fI 0 (V.ptr lx 0))) λaI=>oP (fD false (V.bool false)) λbb=>oP (gV bb (eQ aI d)) λaJ=>oP (fD false (V.bool false)) λbc=>oP (gV bc (ev .eql 3 aJ (V.I 22))) λaK=>
    oP (fD false (V.bool false)) λbd=>oP (gV bd (some aK)) λR=>oP (fD false R) λbe=>oP (gV be (fI 0 (V.ptr lx 0))) λaL=>oP (fD false R) λbf=>oP (gV bf (eQ aL d)) λaM=>oP (fD false R) λbg=>oP (gV bg (ev .eql 3 aM (V.I 23))) λaN=>
    oP (fD false (V.bool false)) λbh=>oP (gV bh (js R (V.bool true) aN)) λaO=>oP (fD false (V.bool false)) λbi=>oP (gV bi (some aO)) λp=>oP (fD true p) λan=>oP (gV an (fI 5 (V.ptr lx 0))) λZ=>oP (fD true p) λao=>oP (gV ao (eQ Z d)) λaa=>
    oP (fD true p) λap=>oP (gV ap (fI 4 (V.ptr lu 0))) λab=>oP (fD true p) λaq=>oP (gV aq (eQ ab d)) λac=>oP (fD true p) λar=>oP (gV ar (fH ac)) λae=>oP (fD true p) λau=>oP (gC au (some (gO,[aa,ae]))) λaw=>qo CS aw d λag h4=>
    oP (fD true p) λax=>oP (gV ax (pI .not ag)) λah=>oP (nt (V.bool false) (js p ah (V.bool false))) λC=>K C h4:=λK HK=>by
   refine fE (ee pf (fE (ee Y (fE (ee (gI ..) (fE (ee rfl ?_)))))))
   have fin:∀c:Bool,c=leaves x.op->oP (fD true (V.bool c)) λan=>oP (gV an (fI 5 (V.ptr lx 0))) λZ=>oP (fD true (V.bool c)) λao=>oP (gV ao (eQ Z d)) λaa=>
     oP (fD true (V.bool c)) λap=>oP (gV ap (fI 4 (V.ptr lu 0))) λab=>oP (fD true (V.bool c)) λaq=>oP (gV aq (eQ ab d)) λac=>oP (fD true (V.bool c)) λar=>oP (gV ar (fH ac)) λae=>oP (fD true (V.bool c)) λau=>oP (gC au (some (gO,[aa,ae]))) λaw=>qo CS aw d λag h4=>
     oP (fD true (V.bool c)) λax=>oP (gV ax (pI .not ag)) λah=>oP (nt (V.bool false) (js (V.bool c) ah (V.bool false))) λC=>K C h4:=λc hc=>by
    cases c with
    |true=>exact fU (ee pf (fU (ee z5 (fU (ee pf (fU (ee M (fU (ee u2.s.len (vf (Ky (g.leave i x hx hc.symm) (fU (ee rfl (ee rfl HK))))))))))))))
    |false=>exact im (im (im (im (im (EY (im (ee rfl HK)))))))
   by_cases c:x.op=22
   ·rw[show((x.op:Int) == 22)=true by simp[c]];exact N0 (N0 (N0 (fE (ee rfl (fE (ee rfl (fin true (by rw[c];rfl))))))))
   ·rw[show((x.op:Int) == 22)=false by rw[Nj];omega];refine fE (ee pf (fE (ee Y (fE (ee (gI ..) (fE (ee rfl (fE (ee rfl (fin _ ?_))))))))));rw[show((x.op:Int) == 23)=(x.op == 23) from V5 _ 23];unfold leaves;rw[show(x.op == 22)=false by rw[Nj];exact c];rfl
  have tl:kZ CS Q [V.ptr lu 0,.I ((i+1:Nat):Int)] d=kZ CS Q [V.ptr lu 0,.I ((i+1:Nat):Int)] d:=rfl;clear tl;have last:oP (fY 6 (V.ptr lx 0) d) λaP=>cP CS jX [aP] d λaQ h5=>nB CS Q (Db (λk l h'=>∃(F':Nat->Prop) (i:Nat),l=[.ptr lu 0,.I i]/\i+k=u.eh.length/\Sn F h F' h'/\eo F' h' (ez lu 30 (uC u vv vb vs)::cs)) k) [.ptr lu 0,.I i,aQ,(V.I 0)] h5:=by
   refine ee (o.rh 0 rfl rfl) ?_;refine ME o w2 λF3 h3 uv s3 H3 r3=>?_;have u3:=u2.since s3;have T:eQ (.ptr lu (0+2)) h3=some vv:=H3.ld 1 rfl rfl;have bU:=I0 λh=>Gg g hx h;refine AI (λk l h'=>∃j:Nat,l=[.ptr lu 0,.I i,uv,.I (j:Nat)]/\j+k=(jk x).length/\h' = h3) ?_ (k:=(jk x).length) ⟨0,rfl,by omega,rfl⟩;rintro W _ _ _ _ _ ⟨j,⟨⟩,aB,rfl⟩;unfold rV;refine ee r3.len ?_;by_cases hj:j<(jk x).length
   ·refine gB ?_;have hw:=hO hj;obtain⟨y,J,X⟩:xP u (jk x)[j]:=g.use i x hx _ (zd hj);generalize (jk x)[j]=w at*;have al:=(jR.1 J).1;obtain⟨l3,o3,_,N,O⟩:=r3.nat hw .i64;obtain⟨l4,o4,_,_,z1,_,_,z2⟩:=u3.val J;refine ee N (ee O (oF T (ee u3.v.len (Ky al ⟨jK _,?_⟩))));refine ee rfl (fE (ee pf (fE (ee T (fE (ee rfl (fE (ee rfl (fE (ee N (fE (ee O (fE (ee z1 (fE (ee pf (fE (ee z2.op (po (SE ?_))))))))))))))))))));rw[X];refine⟨jK _,ee rfl (jd (gg (by simp) ?_))⟩;exact fM ⟨W-1,by omega,j+1,rfl,by omega,rfl⟩
   ·refine iJ ?_;exact fM ⟨k-1,by omega,F3,i+1,rfl,by omega,(G.trans P).trans s3,H3.tail⟩
  by_cases c1:x.op=1
  ·obtain⟨n1,n2,_⟩:=g.param i x hx c1;obtain⟨m,hm⟩:=wBG n1;rw[hm]at z3;refine fE (ee (Ns (by omega)) (fE (ee rfl (fU (ee pf (fU (ee z3 (vf (Ky (n:=40) (by omega) (fU (ee rfl (ee rfl (ee eA ?_)))))))))))));exact aj (λC h4=>bP C _ _) (jd (gg (by simp) last))
  ·refine fE (ee (Mz (by omega)) (fE (ee rfl (im (im (EY (im (ee rfl (ee eA ?_)))))))));exact aj (λC h4=>bP C _ _) (jd (gg (by simp) last))
 refine iJ ?_;clear hk hi k i;refine oF (A.ld 0 rfl rfl) (ee D.v.len ?_);rw[ka (z:=V.bool false) rfl (by decide) (by omega),fG];obtain⟨o,P⟩:=A.make (E:=eB) (ty:=ju) (y:=false) (u:=V.bool false) u.eh.length rfl rfl;generalize r.new (.cells ju 1 true false (List.replicate u.eh.length (V.bool false)))=d at*;generalize r.next=lk at*;obtain⟨I,hI⟩:∃I:Nat->LP,I=λ(k:Nat) l h'=>∃(i:Nat) (seen:List Bool),l=[.ptr lu 0,.slice lk 0 u.eh.length,.I ((pre u i).length:Nat),.I i]/\i+k=u.blocks.length/\Sn F h S h'/\seen.length=u.eh.length/\(∀v:Nat,seen[v]? =some true↔v∈pre u i)/\eo S h' (eR eB ju seen (.slice lk 0 u.eh.length)::ez lu 30 (uC u vv vb vs)::cs):=⟨_,rfl⟩
 refine Bm I (λk U x2 x3 x4 h6 hi=>?_) (k:=u.blocks.length) ?_;rotate_left
 ·rw[hI];refine⟨0,_,rfl,by omega,G.trans P,PV,λv=>?_,o⟩;constructor
  ·intro h;rw[wBM]at h;split at h <;> cases h
  ·intro h;simp[pre]at h
 clear o P A D G d;clear r;revert h6 hi;intro r hi;rw[hI]at hi;obtain⟨i,seen,⟨⟩,hk,G,mM,bj,A⟩:=hi;unfold sx;have D:=hu.since G;have bV:=zbf g i;refine oF (A.ld 1 rfl rfl) (ee D.b.len ?_);by_cases hi:i<u.blocks.length;rotate_left
 ·refine iJ ?_;obtain rfl:i=u.blocks.length:=by omega
  rw[Lb g];exact oF (A.ld 1 rfl rfl) (ee D.v.len (ee (Ns rfl) (H S r G A.tail.tail)))
 refine gB ?_;have hB:=hO hi;generalize u.blocks[i]=B at*;obtain⟨l1,o1,bv,bn,bp,_,U,x2,iv,iN,ip,_⟩:=D.oW hB;refine oF (A.ld 1 rfl rfl) (ee U (ee x2 ?_));refine gY A rfl rfl (by simp only[kE,ey,iv.one,iN.one,ip.one];rfl) λd o P=>?_;generalize r.next=lx at*;have o:eo S d (ez lx 43 (kE B bv bn bp)::_):=o;have u2:=D.since P;have ak:=G.trans P;have bm:=iv.since P;have aR:=iN.since P
 have Oc:∀n:Nat,B.next.length=n->jD CS Q (Db I k)
   [.ptr lu 0,.slice lk 0 u.eh.length,.I ((pre u i).length:Nat),.I i,.ptr lx 0,.I (n:Nat)] d:=λn hn=>by
  refine Aw ?_;unfold qz;have z1:eQ (.ptr lx (0+1)) d=some (.I B.fin):=o.ld 0 rfl rfl;have z2:eQ (.ptr lx (0+2)) d=some (.I B.cond):=o.ld 0 rfl rfl;have z5:eQ (.ptr lx (0+5)) d=some (.I B.state):=o.ld 0 rfl rfl;have T:eQ (.ptr lu (0+2)) d=some vv:=o.ld 2 rfl rfl;have M:eQ (.ptr lu (0+4)) d=some vs:=o.ld 2 rfl rfl;have last:nw CS Q (Db I k) [.ptr lu 0,.slice lk 0 u.eh.length,.I ((pre u i).length:Nat),.I i,.ptr lx 0,.I n,.I 0] d:=by
   refine A6 (λk l h'=>∃j:Nat,l=[.ptr lu 0,.slice lk 0 u.eh.length,.I ((pre u i).length:Nat),.I i,.ptr lx 0,.I n,.I (j:Nat)]/\j+k=n/\h' = d) ?_ (k:=n) ⟨0,rfl,by omega,rfl⟩;rintro W _ _ _ _ _ _ _ d ⟨j,⟨⟩,aB,rfl⟩;unfold rN;by_cases hj:j<n
   ·refine gB ?_;have ht:=hO (show j<B.next.length by omega);have bo:B.next[j]<u.blocks.length:=g.nx i _ (by unfold next;rw[hB];exact zd (show j<B.next.length by omega));generalize B.next[j]=t at*;obtain⟨l3,o3,_,N,O⟩:=aR.nat ht .i64;refine oF (o.ld 0 rfl rfl) (ee N (ee O (oF (o.ld 2 rfl rfl) (ee u2.b.len (Ky bo ⟨jK _,?_⟩)))));refine qt (gv rfl ?_);exact j8 (m:=1) (by have:=CP g hB;omega) (by omega) ⟨W-1,by omega,j+1,rfl,by omega,rfl⟩
   refine iJ ?_;clear z1 z2 z5 T M
   refine A4 (λk l h'=>∃(j:Nat) (seen:List Bool),l=[.ptr lu 0,.slice lk 0 u.eh.length,.I ((pre u i).length+j:Nat),.I i,.ptr lx 0,.I j]/\j+k=B.eh.length/\Sn F h S h'/\Sn S d S h'/\seen.length=u.eh.length/\(∀v:Nat,seen[v]? =some true↔v∈pre u i++B.eh.take j)/\eo S h' (ez lx 43 (kE B bv bn bp)::eR eB ju seen (.slice lk 0 u.eh.length)::ez lu 30 (uC u vv vb vs)::cs)) ?_ (k:=B.eh.length)
    ⟨0,seen,rfl,by omega,ak,Sn.refl _ _,mM,λv=>by rw[bj v,wBv,GP],o⟩
   rintro k3 _ _ _ _ _ _ h3 ⟨j,sn,⟨⟩,bW,s3,aS,aT,ay,H3⟩;unfold tf;have aU:=bm.since aS;have u3:=hu.since s3;have bX:=zQ g hB;refine oF (H3.ld 0 rfl rfl) (ee aU.len ?_);by_cases hj:j<B.eh.length
   ·refine gB ?_;have hv:=hO hj;have br:=NG hj;generalize B.eh[j]=v at*;have aA:At u v i j:=⟨B,hB,hv⟩
    have bt:=g.mH v i j aA;obtain⟨l3,o3,_,N,O⟩:=aU.nat hv .i64;have aV:v ∉ pre u i++B.eh.take j:=λhm=>by
     rcases Hi.1 hm with r|r
     ·obtain⟨c,m,d,h3⟩:=I5.1 r;have:=(g.Px _ _ _ _ _ d aA).1;omega
     ·obtain⟨m,hm⟩:=oD.1 r;rw[List.getElem?_take]at hm;split at hm
      ·have:=(g.Px _ _ _ _ _ ⟨B,hB,hm⟩ aA).2;omega
      ·cases hm
    have bu:sn[v]? =some false:=by
     have r:=hO (show v<sn.length by omega);have d:=ay v
     cases e:sn[v]with
     |true=>rw[r,e]at d;exact absurd (d.1 rfl) aV
     |false=>rw[r,e]
    obtain⟨l4,o4,w1,w2⟩:=H3.G8 1 rfl bu .i64;have Y:eQ (.ptr lx (0+0)) h3=some bv:=H3.ld 0 rfl rfl;refine oF Y (ee N (ee O (oF (H3.ld 2 rfl rfl) (ee u3.v.len (Ky bt ⟨jK _,?_⟩)))));refine ee rfl (mQ (by simp only[fi,fe,Y,N,O,w1,w2]) (jd (gg (by simp) ?_)));obtain⟨l5,o5,h4,e1,e2,_,H4,s4⟩:=H3.IG 1 rfl (k:=v) (y:=true) (u:=V.bool true) (by omega) rfl rfl rfl;refine oF Y (ee N (ee O (ee e1 ?_)));rw[e2,ei];simp only[jo,l0]at H4;refine fM (fM ⟨k3-1,by omega,j+1,_,rfl,by omega,s3.trans s4,aS.trans s4,by rw[Nd];exact aT,λx=>?_,H4⟩);rw[br,<-Ii,Hi,<-ay x,Nf];by_cases e:x=v
    ·subst e;rw[Hf (by omega)];exact⟨λ_=> .inr rfl,λ_=>rfl⟩
    ·rw[ES λh=>e h.symm];exact⟨.inl,λh=>h.elim id λh=>absurd h e⟩
   ·refine iJ ?_;obtain rfl:j=B.eh.length:=by omega
    refine fM ⟨k-1,by omega,?_⟩;rw[hI];refine⟨i+1,sn,?_,by omega,s3,aT,λv=>?_,H3.tail⟩
    ·rw[FI hB,Ec]
    ·rw[ay v,JF,FI hB]
  have c3:∀K:fy,K (.bool false) d->oP (fD false (V.bool false)) λbw=>oP (gV bw (fI 1 (V.ptr lx 0))) λaW=>oP (fD false (V.bool false)) λbx=>oP (gV bx (eQ aW d)) λaX=>oP (fD false (V.bool false)) λbz=>oP (gV bz (ev .eql 3 aX (V.I 3))) λaY=>oP (fD false (V.bool false)) λbA=>oP (gV bA (some aY)) λq=>
    oP (fD true q) λbC=>oP (gV bC (fI 5 (V.ptr lx 0))) λaZ=>oP (fD true q) λbD=>oP (gV bD (eQ aZ d)) λa5=>oP (fD true q) λbE=>oP (gV bE (fI 4 (V.ptr lu 0))) λa6=>oP (fD true q) λbG=>oP (gV bG (eQ a6 d)) λa7=>oP (fD true q) λbH=>oP (gV bH (fH a7)) λa8=>
    oP (fD true q) λbI=>oP (gC bI (some (gO,[a5,a8]))) λbJ=>qo CS bJ d λa9 h3=>oP (fD true q) λam=>oP (gV am (pI .not a9)) λba=>oP (nt (V.bool false) (js q ba (V.bool false))) λL=>K L h3:=λK HK=>by
   refine fE (ee pf (fE (ee z1 ?_)));by_cases c:B.fin=3
   ·refine fE (ee (Ns (by omega)) (fE (ee rfl ?_)));have hs:B.state<u.en.length:=by
     rcases g.fin i B hB with⟨e,_⟩|⟨e,_⟩|⟨_,_,e⟩
     ·omega
     ·omega
     ·exact e
    exact fU (ee pf (fU (ee z5 (fU (ee pf (fU (ee M (fU (ee u2.s.len (vf (Ky hs (fU (ee rfl (ee rfl HK))))))))))))))
   ·exact fE (ee (Mz (by omega)) (fE (ee rfl (im (im (im (im (im (EY (im (ee rfl HK)))))))))))
  refine oF (o.ld 0 rfl rfl) (ee aR.len (ee (XR (by omega)) (fE (ee pf (fE (ee z1 ?_))))));by_cases c:B.fin=2
  ·obtain ⟨y,J,X⟩:xP u B.cond:=by
    rcases g.fin i B hB with⟨e,_⟩|⟨_,_,e⟩|⟨e,_⟩
    ·omega
    ·exact e
    ·omega
   have bK:=(jR.1 J).1;obtain⟨l4,o4,_,_,N,_,_,O⟩:=u2.val J;refine fE (ee (Ns (by omega)) (fE (ee rfl ?_)));refine fU (ee pf (fU (ee z2 (fU (ee pf (fU (ee T (fU (ee u2.v.len (vf (Ky bK ?_)))))))))));refine fU (ee rfl (fU (ee rfl ?_)));refine fE (ee pf (fE (ee T (fE (ee pf (fE (ee z2 (fE (ee N (fE (ee pf (fE (ee O.op (po (SE ?_)))))))))))))));rw[X];refine fE (ee rfl (fU (ee rfl (ee rfl ?_))));exact c3 (λL h3=>bP L _ _) (jd (gg (by simp) last))
  ·refine fE (ee (Mz (by omega)) (fE (ee rfl ?_)));refine im (im (im (im (im (EY (im (im ?_)))))));refine Qe (Qe (Qe (Qe (Qe (Qe (Qe (zd4 (Qe (im (ee rfl ?_))))))))));exact c3 (λL h3=>bP L _ _) (jd (gg (by simp) last))
 have z1:eQ (.ptr lx (0+1)) d=some (.I B.fin):=o.ld 0 rfl rfl;refine oF z1 (gi ?_);rcases g.fin i B hB with⟨f1,f2⟩|⟨f1,f2,_⟩|⟨f1,f2,_⟩
 ·exact gv (by omega) (Oc 1 f2)
 ·exact gg (by omega) (gi (gv (by omega) (Oc 2 f2)))
 ·exact gg (by omega) (gi (gg (by omega) (gi (gv (by omega) (Oc 0 (by rw[f2];rfl))))))
end
open Un Dm
section
variable{F F':Nat->Prop}{h h':Hp}{cs:List Pc}{Q:fy}{u:U}{vv vb vs:V}
theorem XM(g:Good u){w b:Nat}(h:yj u w b):∃c j,At u w c j/\(c=b/\j<1073741824\/c≠b/\vO (next u) c b):=by
 obtain⟨c,j,a,d⟩:=h;refine⟨c,j,a,?_⟩;by_cases e:c=b
 ·obtain⟨B,f,i⟩:=a;have:=zQ g f;have:=(jR.1 i).1;exact .inl ⟨e,by omega⟩
 ·exact .inr ⟨e,d⟩
structure PlR (u:U) (i j:Nat) (oW Hv:List Nat):Prop where
 nb:oW.length=u.eh.length
 np:Hv.length=u.eh.length
 yes:∀(v c m:Nat),At u v c m->(c<i\/(c=i/\m<j))->oW[v]? =some c/\Hv[v]? =some m
theorem PlR.step(g:Good u){i j v:Nat}{oW Hv:List Nat}(S:PlR u i j oW Hv)(hv:At u v i j):PlR u i (j+1) (oW.set v i) (Hv.set v j):=by
 have a:=g.mH _ _ _ hv;refine⟨by rw[Nd];exact S.nb,by rw[Nd];exact S.np,λw c m d hc=>?_⟩;by_cases e:w=v
 ·subst e;obtain⟨rfl,rfl⟩:=g.Px _ _ _ _ _ d hv;rw[Hf (by rw[S.nb];exact a),Hf (by rw[S.np];exact a)];exact⟨rfl,rfl⟩
 ·rw [ES λh=>e h.symm,ES λh=>e h.symm];refine S.yes w c m d ?_;rcases hc with hc|⟨rfl,hc⟩
  ·exact .inl hc
  ·refine .inr ⟨rfl,?_⟩;by_cases k:m=j
   ·subst k;obtain⟨B,l,n⟩:=d;obtain⟨o,b,f⟩:=hv;rw[l]at b;cases b;rw[n]at f;cases f;exact absurd rfl e
   ·omega
theorem PlR.next{i:Nat}{B:Bk}{oW Hv:List Nat}(b:u.blocks[i]? =some B)(S:PlR u i B.eh.length oW Hv):PlR u (i+1) 0 oW Hv:=by
 refine⟨S.nb,S.np,λv c m hv hc=>S.yes v c m hv ?_⟩;rcases hc with hc|⟨_,hc⟩
 ·by_cases e:c=i
  ·subst e;obtain⟨f,a,d⟩:=hv;rw[b]at a;cases a;exact .inr ⟨rfl,(jR.1 d).1⟩
  ·exact .inl (by omega)
 ·omega
theorem Wg(g:Good u){X5:List (List Nat)}(c:X5.length=u.blocks.length)(d:∀b:Nat,b<u.blocks.length->X5[b]? =some (Un.next u b)):Nxs u.blocks.length (Un.next u) X5:=by
 refine⟨g.OV,g.nb,c,d,λb e=>?_,λb _ t f=>g.nx b t f⟩;have a:=hO e;have:Un.next u b=u.blocks[b].next:=by unfold Un.next;rw[a]
 rw[this];exact CP g a
theorem SZ(g:Good u){b k v:Nat}{x:Vl}{B:Bk}(c:u.blocks[b]? =some B)(a:At u v b k)(d:u.eh[v]? =some x)(e:iU x.op=true):∀(j w:Nat)(y:Vl),j<k->B.eh[j]? =some w->u.eh[w]? =some y->iU y.op=true:=
 λj w y i f h=>OR g a d e ⟨B,c,f⟩ h (by omega)
theorem zbt:(eL eN).rel F h [] [.ef]:=⟨.ef,rfl,.nil⟩
theorem Z4{len n l o m:Nat}{kd:IntKind}(a:m<len):zbd len n (.ptr l o) (.int kd (m:Nat))=some (.ptr l (o+m*n)):=by
 show bB (Nat.blt m len) _=_;rw[mC _ (by rw[PM];exact a)];rfl
theorem VF(op:Nat):(((op:Int) == 21) ||((op:Int) == 1))=iU op:=by
 unfold iU;rw[show((op:Int) == 21)=(op == 21) from V5 _ 21,show((op:Int) == 1)=(op == 1) from V5 _ 1,Bool.or_comm]
theorem ZN{oW Hv:List Nat}{M9:List (List Bool)}{wb wp wd pv:V}{lu lo To:Nat}(g:Good u)(o:zbV u oW Hv M9)(H0:eo F h (ez lo To (T6 u vv vb vs wb wp wd)::ez lu 30 (uC u vv vb vs)::cs))(hu:ym F h u vv vb vs)
  (M:iq eN F h oW wb) (hp:iq eN F h Hv wp) (Y:iq (eL eB) F h M9 wd) (r:iq (eL eN) F h ((List.range u.blocks.length).map (Un.ahead u)) pv) (H:∀F' h',Sn F h F' h'->eo F' h' cs->Q (.bool true) h') :
  ny CS Q [.ptr lu 0,pv,.ptr lo 0,.I 0] h:=by
 have nv:=g.nv;have nb:=g.nb;have ak:∀b:Nat,b<u.blocks.length->((List.range u.blocks.length).map (Un.ahead u))[b]? =some (Un.ahead u b):=λb M=>by rw[Cq,wBo M];rfl
 obtain⟨I,hI⟩:∃I:Nat->LP,I=λk l h'=>∃(F':Nat->Prop) (i:Nat),l=[.ptr lu 0,pv,.ptr lo 0,.I i]/\i+k=u.blocks.length/\Sn F h F' h'/\eo F' h' (ez lo To (T6 u vv vb vs wb wp wd)::ez lu 30 (uC u vv vb vs)::cs):=⟨_,rfl⟩
 refine AR I (λk x1 x3 x4 x5 h1 hi=>?_) (k:=u.blocks.length) ?_;rotate_left
 ·rw[hI];exact⟨F,0,rfl,by omega,Sn.refl _ _,H0⟩
 rw[hI]at hi;obtain⟨F1,i,⟨⟩,hk,s1,Z⟩:=hi;unfold sH;refine oF (Z.ld 1 rfl rfl) (ee (hu.since s1).b.len ?_);by_cases hi:i<u.blocks.length;rotate_left
 ·exact iJ (H F1 h1 s1 Z.tail.tail)
 refine gB ?_;have K:=hO hi;generalize u.blocks[i]=B at*;obtain⟨l1,o1,bv,bn,bp,_,x1,x2,iv,iN,ip,_⟩:=(hu.since s1).oW K;refine oF (Z.ld 1 rfl rfl) (ee x1 (ee x2 ?_));refine gY Z rfl rfl (by simp only[kE,ey,iv.one,iN.one,ip.one];rfl) λh2 H2 s2=>?_;generalize h1.next=lx at*;have H2:eo F1 h2 (ez lx 43 (kE B bv bn bp)::_):=H2;have iv:=iv.since s2;have al:=s1.trans s2;have uh:∀{A d},Sn F h A d->eo A d (ez lx 43 (kE B bv bn bp)::ez lo To (T6 u vv vb vs wb wp wd)::ez lu 30 (uC u vv vb vs)::cs)->oP (ev .add 3 (V.I i) (V.I 1)) λaa=>Db I k [.ptr lu 0,pv,.ptr lo 0,aa] d:=λ{A d} f s=>by
  refine fM ⟨k-1,by omega,?_⟩;rw[hI];exact⟨A,i+1,rfl,by omega,f,s.tail⟩
 have aw:=zQ g K;obtain⟨I6,N⟩:∃I:Nat->LP,I=λk l h'=>∃(F':Nat->Prop) (m:Nat),l=[.ptr lu 0,pv,.ptr lo 0,.I i,.ptr lx 0,.I m]/\m+k=B.eh.length/\Sn F h F' h'/\Sn F1 h2 F' h'/\eo F' h' (ez lx 43 (kE B bv bn bp)::ez lo To (T6 u vv vb vs wb wp wd)::ez lu 30 (uC u vv vb vs)::cs):=⟨_,rfl⟩
 refine AU I6 (λk6 x1 x3 x4 x5 x6 x7 U ab=>?_) (k:=B.eh.length) ?_;rotate_left
 ·rw[N];exact⟨F1,0,rfl,by omega,al,Sn.refl _ _,H2⟩
 rw[N]at ab;clear H2 Z;obtain⟨F3,m,⟨⟩,ax,C,ac,z⟩:=ab;unfold ru;have ae:=iv.since ac;refine oF (z.ld 0 rfl rfl) (ee ae.len ?_);have u3:=hu.since C;by_cases hm:m<B.eh.length
 ·refine gB ?_;have hv:=hO hm;generalize B.eh[m]=v at*;have D:At u v i m:=⟨B,K,hv⟩
  obtain⟨x,P⟩:∃x,u.eh[v]? =some x:=⟨_,hO (g.mH v i m D)⟩
  obtain⟨l4,o4,am,y1,y2⟩:=ae.nat hv .i64;obtain⟨l5,o5,w,an,W,z2,xw,_⟩:=u3.val P;refine oF (z.ld 2 rfl rfl) (oF (z.ld 0 rfl rfl) (ee y1 (ee y2 (ee W (ee z2 ?_)))));rw[hV];obtain⟨H4,s4⟩:=z.zI 45 [V.I 0,V.I 0,V.I 0,V.I 0,V.ef,V.I 0];have g4:(U.new (.cells 45 1 true false [V.I 0,V.I 0,V.I 0,V.I 0,V.ef,V.I 0])).get U.next=some (.cells 45 1 true false [V.I 0,V.I 0,V.I 0,V.I 0,V.ef,V.I 0]):=fj _ _;generalize U.new (.cells 45 1 true false [V.I 0,V.I 0,V.I 0,V.I 0,V.ef,V.I 0])=h4 at*;refine⟨⟨g4,O.iK _ _ _ _ _⟩,Gc z2 (s4.fm _ an),iL y2 (s4.fm _ am),H4.ld 1 rfl rfl,H4.ld 3 rfl rfl,?_⟩;obtain⟨h5,e5,n5,H5,s5⟩:=H4.WS 0 (ws:=mI x w) (n:=6) rfl rfl rfl (by simp only[mI,ey,xw.one];rfl);rw[e5,ei];simp only[jo]at H5;refine⟨n5,ee (H5.rh 0 rfl rfl) ?_⟩;generalize U.next=X at*;have R:=s4.trans s5;refine ME H5 (xw.since R) λF6 h6 uv s6 H6 r6=>?_;have ay:=I0 λh=>Gg g P h;have ao:=(C.trans R).trans s6;have ap:=(ac.trans R).trans s6;clear H5 H4 e5 n5;obtain⟨I7,S⟩:∃I:Nat->LP,I=λk l h'=>∃(F':Nat->Prop) (j:Nat),l=[.ptr lu 0,pv,.ptr lo 0,.I i,.ptr lx 0,.I m,.ptr X 0,uv,.I j]/\j+k=(jk x).length/\Sn F h F' h'/\Sn F6 h6 F' h'/\eo F' h' (ez X 45 (mI x w)::ez lx 43 (kE B bv bn bp)::ez lo To (T6 u vv vb vs wb wp wd)::ez lu 30 (uC u vv vb vs)::cs):=⟨_,rfl⟩
  refine Be I7 (λk7 x1 x3 x4 x5 x6 x7 x8 x9 aA h7 ag=>?_) (k:=(jk x).length) ?_;rotate_left
  ·rw[S];exact⟨F6,0,rfl,by omega,ao,Sn.refl _ _,H6⟩
  rw[S]at ag;clear H6;obtain⟨F7,j,⟨⟩,aB,t,T,L⟩:=ag;unfold sr;have r7:=r6.since T;refine ee r7.len ?_;have u7:=hu.since t;by_cases hj:j<(jk x).length
  ·refine gB ?_;have ha:=hO hj;have aq:=zd hj;generalize (jk x)[j]=a at*;obtain⟨l8,o8,_,q1,q2⟩:=r7.nat ha .i64;have ah:∀{d},Sn F7 h7 F7 d->eo F7 d (ez X 45 (mI x w)::ez lx 43 (kE B bv bn bp)::ez lo To (T6 u vv vb vs wb wp wd)::ez lu 30 (uC u vv vb vs)::cs)->kN CS Q (Db I k) (Db I6 k6) (Db I7 k7) [.ptr lu 0,pv,.ptr lo 0,.I i,.ptr lx 0,.I m,.ptr X 0,uv,.I j] d:=λ{d} f s=>by
    refine AB ?_;unfold qS;refine fM ⟨k7-1,by omega,?_⟩;rw[S];exact⟨F7,j+1,rfl,by omega,t.trans f,T.trans f,s⟩
   refine oF (L.ld 0 rfl rfl) (gi ?_);by_cases c:x.op=21
   ·refine gv (by omega) ?_;obtain⟨_,aC⟩:=g.KO v i m x B D P c K;have ar:jk x=x.args:=by unfold jk;rw[if_pos c]
    rw[ar]at ha hj;have y:∃p,B.fh[j]? =some p:=⟨_,hO (by omega)⟩
    obtain ⟨p,y⟩:=y;obtain⟨ca,ja,E,G⟩:=XM g (g.Oa v i m x B D P c K j a p ha y);have au:p<u.blocks.length:=by
     have hm:=Ik y;rw[g.fh i B K]at hm;obtain⟨q,B',h1,_,U⟩:=uG.1 hm;have:=(jR.1 h1).1;omega
    obtain⟨la,oa,wr,_,t1,t2,t3⟩:=(r.since t).list (ak i hi) .i64;rw[g.fh i B K]at y;obtain⟨lc,oc,_,t4,t5⟩:=t3.nat y .i64;refine ee (L.rh 2 rfl rfl) (ee q1 (ee q2 (ee t1 (ee t2 (ee t4 (ee t5 ?_))))));refine Gm o L u7 (M.since t) (hp.since t) (Y.since t) (k:=1073741824) E au G λd f s=>?_;exact⟨f.next,qt (gv rfl (ah f s))⟩
   ·refine gg (by omega) ?_;obtain⟨ca,ja,E,G⟩:=g.NN v i m x D P c a aq;refine ee (L.rh 2 rfl rfl) (ee q1 (ee q2 ?_));refine Gm o L u7 (M.since t) (hp.since t) (Y.since t) E hi G λd f s=>?_;exact⟨f.next,qt (gv rfl (ah f s))⟩
  refine iJ ?_;have z0:eQ (.ptr X (0+0)) h7=some (.I x.op):=L.ld 0 rfl rfl;refine oF z0 (ee (gI ..) (ee (a:= .bool (leaves x.op)) ?_ ?_))
  ·simp only[fi,fe,z0,gI,qK];unfold leaves;rw[show((x.op:Int) == 22)=(x.op == 22) from V5 _ 22,show((x.op:Int) == 23)=(x.op == 23) from V5 _ 23]
  have ai:∀{A d},Sn F7 h7 A d->eo A d (ez X 45 (mI x w)::ez lx 43 (kE B bv bn bp)::ez lo To (T6 u vv vb vs wb wp wd)::ez lu 30 (uC u vv vb vs)::cs)->oP (ev .add 3 (V.I m) (V.I 1)) λaj=>Db I6 k6 [.ptr lu 0,pv,.ptr lo 0,.I i,.ptr lx 0,aj] d:=λ{A d} f s=>by
   refine fM ⟨k6-1,by omega,?_⟩;rw[N];exact⟨A,m+1,rfl,by omega,t.trans f,(ap.trans T).trans f,s.tail⟩
  cases hl:leaves x.op with
  | true=>
    obtain⟨fs,J⟩:∃fs,u.en[x.state]? =some fs:=⟨_,hO (g.leave v x P hl)⟩
    refine fU (ee (L.rh 2 rfl rfl) (fU (ee pf (fU (ee (L.ld 0 rfl rfl) (fU (ee rfl (fU (ee rfl (vf ?_))))))))));refine Oi o g L u7 (M.since t) (hp.since t) (Y.since t) J hi (λw hw=>g.N5 v i m x fs D P hl J w hw) λA d f s=>?_
    exact ee rfl (jd (gg (by simp) (ai f s)))
  | false=>
    refine im (im (im (im (im (EY ?_)))));exact ee rfl (jd (gg (by simp) (ai (Sn.refl _ _) L)))
 refine iJ ?_;have W:eQ (.ptr lx (0+1)) U=some (.I B.fin):=z.ld 0 rfl rfl;refine oF W ?_;by_cases c2:B.fin=2
 ·obtain⟨ca,ja,E,G⟩:=XM g (g.OB i B K c2);refine ee (Ns (by omega)) (fU (ee (z.rh 1 rfl rfl) (fU (ee pf (fU (ee (z.ld 0 rfl rfl) (fU (ee rfl (vf ?_)))))))));refine Gm o z u3 (M.since C) (hp.since C) (Y.since C) (k:=1073741824) E hi G λd f s=>?_;have W:eQ (.ptr lx (0+1)) d=some (.I B.fin):=s.ld 0 rfl rfl;refine ee rfl (fE (ee pf (fE (ee W (fE (ee (Mz (by omega)) (fE (ee rfl ?_))))))));refine im (im (im (im (EY (im (ee rfl (jd (gg (by simp) ?_))))))));exact uh (C.trans f) s
 ·refine ee (Mz (by omega)) (im (im (im (im (EY (ee rfl ?_))))));refine fE (ee pf (fE (ee W ?_)));by_cases c3:B.fin=3
  ·have hs:B.state<u.en.length:=by
    rcases g.fin i B K with⟨e,_⟩|⟨e,_⟩|⟨_,_,e⟩
    ·omega
    ·omega
    ·exact e
   have J:=hO hs;generalize u.en[B.state]=fs at*;refine fE (ee (Ns (by omega)) (fE (ee rfl ?_)));refine fU (ee (z.rh 1 rfl rfl) (fU (ee pf (fU (ee (z.ld 0 rfl rfl) (fU (ee rfl (vf ?_))))))));refine Oi o g z u3 (M.since C) (hp.since C) (Y.since C) (k:=1073741824) J hi (λw hw=>XM g (g.N9 i B fs K c3 J w hw)) λA d f s=>?_;exact fU (ee rfl (ee rfl (jd (gg (by simp) (uh (C.trans f) s)))))
  ·refine fE (ee (Mz (by omega)) (fE (ee rfl ?_)));exact im (im (im (im (EY (im (ee rfl (jd (gg (by simp) (uh C z)))))))))
theorem Q0(g:Good u)(H0:eo F h cs)(Z:ym F h u vv vb vs)(H:∀F' h',Sn F h F' h'->eo F' h' cs->Q (.bool true) h'):cP CS mR [.agg (uC u vv vb vs)] h Q:=by
 refine DJ rfl rfl ?_;unfold wi;have nv:=g.nv;have nb:=g.nb;have OV:=g.OV;refine jS H0 Z.one λh1 H1 s1=>?_;generalize h.next=lu at*;refine ee (H1.rh 0 rfl rfl) (WL g H1 (Z.since s1) λF2 M s2 G=>?_);have ag:=s1.trans s2;refine qt (gv rfl (ee (G.rh 0 rfl rfl) (Yh g G (Z.since ag) λF3 h3 pv J r r3=>?_)));have ap:=ag.trans J;refine oF (r.ld 0 rfl rfl) (ee (Z.since ap).b.len ?_);rw[ka (z:=V.ef) rfl (by decide) (by omega),fG];obtain⟨R,s4⟩:=r.make (E:=eL eN) (ty:=jb) (y:=[]) (u:= .ef) u.blocks.length zbt rfl;generalize h3.new (.cells jb 1 true false (List.replicate u.blocks.length V.ef))=h4 at*;generalize h3.next=ln at*;have aa:∀b:Nat,b<u.blocks.length->((List.range u.blocks.length).map (Un.ahead u))[b]? =some (Un.ahead u b):=λb hb=>by rw[Cq,wBo hb];rfl
 obtain ⟨I,K⟩:∃I:Nat->LP,I=λk l h'=>∃(i:Nat) (Jq:List (List Nat)),l=[.ptr lu 0,pv,.slice ln 0 u.blocks.length,.I i]/\i+k=u.blocks.length/\Sn F3 h3 F3 h'/\Jq.length=u.blocks.length/\(∀j:Nat,j<i->Jq[j]? =some (Un.next u j))/\
   eo F3 h' (eR (eL eN) jb Jq (.slice ln 0 u.blocks.length)::ez lu 30 (uC u vv vb vs)::cs):=⟨_,rfl⟩
 refine Bi I (λk d x3 x4 x5 h5 hi=>?_) (k:=u.blocks.length) ?_;rotate_left
 ·rw[K];exact⟨0,_,rfl,by omega,s4,PV,λj hj=>by omega,R⟩
 rw[K]at hi;clear R s4 h4 G H1 s1 s2 ag;obtain⟨i,Jq,⟨⟩,hk,S,aq,ar,U⟩:=hi;unfold tj;have A:=ap.trans S;have u5:=Z.since A;refine oF (U.ld 1 rfl rfl) (ee u5.b.len ?_);by_cases hi:i<u.blocks.length
 ·refine gB ?_;have f:=hO hi;generalize u.blocks[i]=B at*;obtain⟨l1,o1,bv,bn,bp,_,d,x2,iv,iN,ip,xb⟩:=u5.oW f;refine oF (U.ld 1 rfl rfl) (ee d (oF xb.next ?_));obtain⟨l6,o6,h6,e1,e2,_,p,C⟩:=U.IG 0 rfl (k:=i) (y:=B.next) (u:=bn) (by omega) rfl iN.one ⟨bn,rfl,iN⟩;refine ee e1 ?_;rw[e2,ei];simp only[jo]at p;have N:=A.trans C;have u6:=Z.since N;have r6:=(r3.since S).since C;have a7:=iN.since C;obtain⟨l7,o7,a8,a9,ba,_,y1,_,_,_,aJ,yb⟩:=u6.oW f;rw[d]at y1;cases y1;obtain⟨l8,o8,pr,_,z1,z2,zr⟩:=r6.list (aa i hi) .i64;refine oF (p.ld 1 rfl rfl) (ee d (oF yb.fh (ee z1 (ee z2 ?_))));refine Z0 aJ (by rw[g.fh i B f];exact zr) (by have:=Am g f;omega) ?_;refine⟨jK _,qt (gv rfl ?_)⟩;have k3:eQ (.ptr lu (0+3)) h6=some vb:=p.ld 1 rfl rfl;obtain⟨l9,o9,bb,ah,bc,_,y2,_,_,au,_,aw⟩:=u6.oW f;rw[d]at y2;cases y2;refine oF k3 (ee d (oF aw.next (ee au.len (ee (gI ..) ?_))));refine ee (a:= .bool false) ?_ (jd (gg (by simp) ?_))
  ·by_cases c:B.next.length=2
   ·rw [show((B.next.length:Int) == 2)=true by rw[C9];omega,mf];have aK:B.fin=2:=by
     rcases g.fin i B f with⟨_,h⟩|⟨h,_⟩|⟨_,h,_⟩
     ·omega
     ·exact h
     ·rw[h]at c;simp at c
    have tt:∀j:Nat,j<2->∃l o t l' o' w,gJ 1 ah (.I (j:Nat))=some (.ptr l o)/\eQ (.ptr l o) h6=some (.I (t:Nat))/\gJ 1 pv (.I (t:Nat))=some (.ptr l' o')/\eQ (.ptr l' o') h6=some w/\fH w=some (.I ((1:Nat):Int)):=λj hj=>by
     have ht:=hO (show j<B.next.length by omega);have L:=zd (show j<B.next.length by omega);have aL:=g.MS i B f aK _ L;have aM:B.next[j]<u.blocks.length:=g.nx i _ (by unfold next;rw[f];exact L);obtain⟨l,o,_,q1,q2⟩:=au.nat ht .i64;obtain⟨l',o',w,_,q3,q4,q5⟩:=r6.list (aa _ aM) .i64;exact⟨l,o,_,l',o',w,q1,q2,q3,q4,by rw[q5.len,aL]⟩
    obtain⟨a1,a2,a3,a4,a5,a6,b1,b2,b3,b4,b5⟩:=tt 0 (by omega);obtain⟨c1,c2,c3,c4,c5,c6,d1,d2,d3,d4,d5⟩:=tt 1 (by omega);have b1:gJ 1 ah (.I 0)=some (.ptr a1 a2):=b1;have d1:gJ 1 ah (.I 1)=some (.ptr c1 c2):=d1;simp only[fi,fe,k3,d,aw.next,b1,b2,b3,b4,b5,d1,d2,d3,d4,d5,XR (show(((1:Nat):Int))=1 from rfl),mU]
   ·rw[show((B.next.length:Int) == 2)=false by rw[Nj];omega,Dk]
  ·refine fM ⟨k-1,by omega,?_⟩;rw[K];refine⟨i+1,_,rfl,by omega,S.trans C,by rw[Nd];exact aq,λj hj=>?_,p⟩;by_cases e:j=i
   ·subst e;rw[Hf (by omega)];unfold next
    rw[f]
   ·rw[ES λh=>e h.symm];exact ar j (by omega)
 refine iJ ?_;obtain rfl:i=u.blocks.length:=by omega
 clear hk hi k K I;have r5:=r3.since S;obtain⟨l6,o6,pr,_,z1,z2,zr⟩:=r5.list (aa 0 (by omega)) .i64;have z1:gJ 1 pv (.I 0)=some (.ptr l6 o6):=z1;refine ee z1 (ee z2 (ee zr.len (El (gg (by rw[g.Kb];simp) ?_))));obtain⟨p,C,rn⟩:=U.ma 0 rfl;simp only[jo]at p;have p:=p.tail;have W:=Wg g aq ar;generalize aN:(λl=>F3 l\/Loc (V.slice ln 0 u.blocks.length) l)=P at*;have N:=A.trans C;have r6:=r5.since C;have u6:=Z.since N;clear U S r aN r5 r3 u5 A z1 z2 zr;refine L8 W (-1) p rn λh7 sv seen s7 H7 aO aP=>?_;have ax:∀b:Nat,b<u.blocks.length->seen[b]? =some true:=λb hb=>by
  obtain⟨l,hl⟩:=g.reach b hb;exact(aP b).2 ⟨l,hl,λx _=>by omega⟩
 refine Bl (λk l h'=>∃i:Nat,l=[.ptr lu 0,pv,.slice ln 0 u.blocks.length,sv,.I (i:Nat)]/\i+k=u.blocks.length/\h' = h7) ?_ (k:=u.blocks.length) ⟨0,rfl,by omega,rfl⟩;rintro k _ _ _ _ _ h7 ⟨i,⟨⟩,hk,rfl⟩;unfold sh;refine ee (H7.len 0 rfl) ?_;rw[aO];by_cases hi:i<u.blocks.length
 ·refine gB ?_;obtain⟨l8,o8,y1,y2⟩:=H7.G8 0 rfl (ax i hi) .i64;refine ee y1 (ee y2 (qt (gv rfl ?_)));exact fM ⟨k-1,by omega,i+1,rfl,by omega,rfl⟩
 refine iJ ?_;clear hk hi k i;have H7:=H7.tail;have ai:=N.trans s7;refine oF (H7.ld 0 rfl rfl) (ee (Z.since ai).v.len ?_);rw[ka (z:=V.I 0) rfl (by decide) (by omega),fG];obtain⟨H8,s8⟩:=H7.make (E:=eN) (ty:=eJ) (y:=0) (u:=V.I 0) u.eh.length rfl rfl;generalize h7.new (.cells eJ 1 true false (List.replicate u.eh.length (V.I 0)))=h8 at*;generalize h7.next=lb at*;have ay:=ai.trans s8;refine oF (H8.ld 1 rfl rfl) (ee (Z.since ay).v.len ?_);rw[ka (z:=V.I 0) rfl (by decide) (by omega),fG];obtain⟨H9,s9⟩:=H8.make (E:=eN) (ty:=eJ) (y:=0) (u:=V.I 0) u.eh.length rfl rfl;generalize h8.new (.cells eJ 1 true false (List.replicate u.eh.length (V.I 0)))=h9 at*;generalize h8.next=lp at*;have X:=(s7.trans s8).trans s9;clear H8 H7 s8 s7 ai ay p;have u9:=u6.since X;have r9:=r6.since X;have aQ:=rn.since X;have aR:=N.trans X;clear X N s9 u6 r6 rn
 obtain ⟨I,K⟩:∃I:Nat->LP,I=λk l h'=>∃(i:Nat) (oW Hv:List Nat),l=[.ptr lu 0,pv,.slice ln 0 u.blocks.length,.slice lb 0 u.eh.length,.slice lp 0 u.eh.length,.I i]/\i+k=u.blocks.length/\Sn P h9 P h'/\PlR u i 0 oW Hv/\
   eo P h' (eR eN eJ Hv (.slice lp 0 u.eh.length)::eR eN eJ oW (.slice lb 0 u.eh.length)::ez lu 30 (uC u vv vb vs)::cs):=⟨_,rfl⟩
 refine Bf I (λk d x3 x4 x5 x6 x7 h1 hi=>?_) (k:=u.blocks.length) ?_;rotate_left
 ·rw[K];exact⟨0,_,_,rfl,by omega,Sn.refl _ _,⟨PV,PV,λv c m _ hc=>by omega⟩,H9⟩
 rw[K]at hi;clear H9;obtain⟨i,oW,Hv,⟨⟩,hk,s1,P1,H1⟩:=hi;unfold rA;have u1:=u9.since s1;refine oF (H1.ld 2 rfl rfl) (ee u1.b.len ?_);by_cases hi:i<u.blocks.length
 ·refine gB ?_;have f:=hO hi;generalize u.blocks[i]=B at*;have bd:=zQ g f
  obtain ⟨I4,aj⟩:∃I:Nat->LP,I=λk l h'=>∃(j:Nat) (fst:Bool) (oW Hv:List Nat),l=[.ptr lu 0,pv,.slice ln 0 u.blocks.length,.slice lb 0 u.eh.length,.slice lp 0 u.eh.length,.I i,.bool fst,.I j]/\j+k=B.eh.length/\Sn P h9 P h'/\PlR u i j oW Hv/\
    (fst=true↔∀(m w:Nat) (y:Vl),m<j->B.eh[m]? =some w->u.eh[w]? =some y->iU y.op=true)/\
    eo P h' (eR eN eJ Hv (.slice lp 0 u.eh.length)::eR eN eJ oW (.slice lb 0 u.eh.length)::ez lu 30 (uC u vv vb vs)::cs):=⟨_,rfl⟩
  refine A2 I4 (λk4 d x3 x4 x5 x6 x7 x8 x9 M aA=>?_) (k:=B.eh.length) ?_;rotate_left
  ·rw[aj];exact⟨0,true,oW,Hv,rfl,by omega,s1,P1,⟨λ_ m _ _ L=>by omega,λ_=>rfl⟩,H1⟩
  rw[aj]at aA;clear H1 P1 u1 s1 oW Hv;obtain⟨j,fst,oW,Hv,⟨⟩,be,s2,P2,ae,G⟩:=aA;unfold sy;have u2:=u9.since s2;obtain⟨l1,o1,bv,bn,bp,ab,d,_,iv,_,_,xb⟩:=u2.oW f;refine oF (G.ld 2 rfl rfl) (ee d (oF xb.eh (ee iv.len ?_)));by_cases hj:j<B.eh.length;rotate_left
  ·refine iJ ?_;obtain rfl:j=B.eh.length:=by omega
   refine fM ⟨k-1,by omega,?_⟩;rw[K];exact⟨i+1,oW,Hv,rfl,by omega,s2,P2.next f,G⟩
  refine gB ?_;have hv:=hO hj;generalize B.eh[j]=v at*;have q:At u v i j:=⟨B,f,hv⟩
  have ak:=g.mH v i j q;obtain⟨x,hx⟩:∃x,u.eh[v]? =some x:=⟨_,hO ak⟩
  obtain⟨l4,o4,ac,y1,y2⟩:=iv.nat hv .i64;obtain⟨l5,o5,w,aS,z1,z2,xw,_⟩:=u2.val hx;refine oF (G.ld 2 rfl rfl) (oF (G.ld 2 rfl rfl) (ee d (oF xb.eh (ee y1 (ee y2 (ee z1 (ee z2 ?_)))))));rw[hV];obtain⟨r,J⟩:=G.zI 45 [V.I 0,V.I 0,V.I 0,V.I 0,V.ef,V.I 0];have g3:(M.new (.cells 45 1 true false [V.I 0,V.I 0,V.I 0,V.I 0,V.ef,V.I 0])).get M.next=some (.cells 45 1 true false [V.I 0,V.I 0,V.I 0,V.I 0,V.ef,V.I 0]):=fj _ _;generalize M.new (.cells 45 1 true false [V.I 0,V.I 0,V.I 0,V.I 0,V.ef,V.I 0])=h3 at*;refine⟨⟨g3,O.iK _ _ _ _ _⟩,Gc z2 (J.fm _ aS),iL y2 (J.fm _ ac),iL xb.eh (J.fm _ ab),r.ld 3 rfl rfl,r.ld 3 rfl rfl,?_⟩;obtain⟨h4,e4,n4,R,s4⟩:=r.WS 0 (ws:=mI x w) (n:=6) rfl rfl rfl (by simp only[mI,ey,xw.one];rfl);rw[e4,ei];simp only[jo]at R;refine⟨n4,?_⟩;generalize M.next=ly at*;have aB:eQ (.ptr l1 (o1+0)) h4=some bv:=iL (iL xb.eh (J.fm _ ab)) (s4.fm _ ab);have aC:eQ (.ptr l4 o4) h4=some (.I v):=iL (iL y2 (J.fm _ ac)) (s4.fm _ ac);refine oF (R.ld 3 rfl rfl) (ee d (oF aB (ee y1 (ee aC ?_))));obtain⟨l6,o6,h5,e5,e6,n5,U,S⟩:=R.IG 2 rfl (k:=v) (y:=i) (u:=V.I i) (by rw[P2.nb];exact ak) rfl rfl rfl;refine ee e5 ?_;rw[e6,ei];simp only[jo,l0]at U;have aT:eQ (.ptr l1 (o1+0)) h5=some bv:=iL aB (S.fm _ ab);have aU:eQ (.ptr l4 o4) h5=some (.I v):=iL aC (S.fm _ ac);refine oF (U.ld 3 rfl rfl) (ee d (oF aT (ee y1 (ee aU ?_))));obtain⟨l7,o7,h6,e7,e8,n6,p,C⟩:=U.IG 1 rfl (k:=v) (y:=j) (u:=V.I j) (by rw[P2.np];exact ak) rfl rfl rfl;refine ee e7 ?_;rw[e8,ei];simp only[jo,l0]at p;have al:=((J.trans s4).trans S).trans C;have z0:eQ (.ptr ly (0+0)) h6=some (.I x.op):=p.ld 0 rfl rfl;have z4:eQ (.ptr ly (0+4)) h6=some w:=p.ld 0 rfl rfl;have w6:=xw.since al;have r6:=(r9.since s2).since al;obtain⟨lr,bf,pr,_,p1,p2,p3⟩:=r6.list (aa i hi) .i64;have aV:iU x.op=true->fst=true:=λhh=>ae.2 (SZ g f q hx hh);refine oF z0 (ee (gI ..) (ee (a:= .bool (iU x.op)) (by simp only[fi,fe,z0,gI,qK,VF]) (ee (a:= .bool false) ?_ (mQ ?_ (mQ ?_ (jd (gg (by simp) ?_)))))))
  ·show kv _ (some (V.bool (!fst)))=_;rw[ke]
   cases hh:iU x.op with
   |true=>rw[aV hh];rfl
   |false=>rfl
  ·simp only[fi,fe,z0];by_cases c:x.op=21
   ·obtain⟨h0,hl⟩:=g.KO v i j x B q hx c f;rw[Ns (by omega)];simp only[fi,mf,z4,w6.len,p1,p2,p3.len];rw[XR (by rw[hl,g.fh i B f])];simp only[fi,mU];exact Mz (by omega)
   ·rw[Mz (by omega)];rfl
  ·simp only[fi,fe,z0];by_cases c:x.op=1
   ·have h0:=g.par v i j x q hx c;rw[Ns (by omega)];simp only[fi,mf];exact XR (by omega)
   ·rw[Mz (by omega)];rfl
  ·rw [ke];refine ee rfl (fM ⟨k4-1,by omega,?_⟩);rw[aj];refine⟨j+1,_,_,_,rfl,by omega,s2.trans al,P2.step g q,?_,p.tail⟩;rw[vR,ae];constructor
   ·rintro⟨h1,M⟩ m w' y L Y hy;by_cases e:m=j
    ·subst e;rw[hv]at Y;cases Y;rw[hx]at hy;cases hy;exact M
    ·exact h1 m w' y (by omega) Y hy
   ·intro h1;exact⟨λm w' y L Y hy=>h1 m w' y (by omega) Y hy,h1 j v x (by omega) hv hx⟩
 refine iJ ?_;obtain rfl:i=u.blocks.length:=by omega
 clear hk hi k K I;refine Aa H1 λM G s2=>?_;generalize h1.next=lq at*;obtain⟨Tp,G⟩:∃T,eo P M (ez lq T ((List.replicate 40 false).map V.bool)::eR eN eJ Hv (.slice lp 0 u.eh.length)::eR eN eJ oW (.slice lb 0 u.eh.length)::ez lu 30 (uC u vv vb vs)::cs):=⟨_,G⟩
 obtain ⟨I,K⟩:∃I:Nat->LP,I=λk l h'=>∃(i:Nat) (ps:List Bool),l=[.ptr lu 0,pv,.slice ln 0 u.blocks.length,.slice lb 0 u.eh.length,.slice lp 0 u.eh.length,.ptr lq 0,.I i]/\i+k=u.eh.length/\Sn P h9 P h'/\ps.length=40/\
   (∀m:Nat,ps[m]? =some true->∃(w:Nat) (y:Vl),w<i/\u.eh[w]? =some y/\y.op=1/\y.n=(m:Int))/\
   eo P h' (ez lq Tp (ps.map V.bool)::eR eN eJ Hv (.slice lp 0 u.eh.length)::eR eN eJ oW (.slice lb 0 u.eh.length)::ez lu 30 (uC u vv vb vs)::cs):=⟨_,rfl⟩
 refine AW I (λk d x3 x4 x8 x9 bg bh h3 hi=>?_) (k:=u.eh.length) ?_;rotate_left
 ·rw[K];refine⟨0,_,rfl,by omega,s1.trans s2,PV,λm L=>?_,G⟩;rw[wBM]at L;split at L <;> cases L
 rw[K]at hi;clear G H1 u1 s1 s2;obtain⟨i,ps,⟨⟩,hk,J,aD,am,r⟩:=hi;unfold rF;have u3:=u9.since J;refine oF (r.ld 3 rfl rfl) (ee u3.v.len ?_);by_cases hi:i<u.eh.length
 ·refine gB ?_;have hx:=hO hi;generalize u.eh[i]=x at*;obtain⟨l1,o1,w,_,d,_,_,xl⟩:=u3.val hx
  have aE:∀{h8} {YS:List Bool},Sn P h3 P h8->YS.length=40->(∀m:Nat,YS[m]? =some true->∃(w:Nat) (y:Vl),w<i+1/\u.eh[w]? =some y/\y.op=1/\y.n=(m:Int))->eo P h8 (ez lq Tp (YS.map V.bool)::eR eN eJ Hv (.slice lp 0 u.eh.length)::eR eN eJ oW (.slice lb 0 u.eh.length)::ez lu 30 (uC u vv vb vs)::cs)->
    kJ CS Q (Db I k) [.ptr lu 0,pv,.slice ln 0 u.blocks.length,.slice lb 0 u.eh.length,.slice lp 0 u.eh.length,.ptr lq 0,.I i] h8:=λ{h8 YS} s8 hl hp H8=>by
   refine Ad ?_;unfold qv;refine fM ⟨k-1,by omega,?_⟩;rw[K];exact⟨i+1,YS,rfl,by omega,J.trans s8,hl,hp,H8⟩
  have aF:∀m:Nat,ps[m]? =some true->∃(w:Nat) (y:Vl),w<i+1/\u.eh[w]? =some y/\y.op=1/\y.n=(m:Int):=λm L=>by
   obtain⟨w,y,h1,M⟩:=am m L;exact⟨w,y,by omega,M⟩
  refine oF (r.ld 3 rfl rfl) (ee d (oF xl.op (gi ?_)));by_cases c:x.op=1
  ·refine gv (by omega) ?_;obtain⟨n1,n2,n3⟩:=g.param i x hx c;obtain⟨m,L⟩:=wBG n1;have aW:m<40:=by omega
   have xn:=xl.n;rw[L]at xn;have eq:=Z4 (n:=1) (l:=lq) (o:=0) (kd:= .i64) aW;have an:=hO (show m<ps.length by omega);have aX:ps[m]? =some false:=by
    cases e:ps[m]with
    | true=>
      rw[e]at an;obtain⟨w',y,h1,M,h3,h4⟩:=am m an;have:=n3 w' y M h3 (by omega)
      omega
    |false=>rw[an,e]
   have aY:eQ (.ptr lq (0+m*1)) h3=some (.bool false):=r.ld 0 rfl (by rw[zA,Nat.mul_one,Cq,aX];rfl);refine oF (r.ld 3 rfl rfl) (ee d (oF xn (ee eq (ee aY (jd (gg (by simp) ?_))))));refine oF (r.ld 3 rfl rfl) (ee d (oF xn (ee eq ?_)));obtain⟨h4,e4,_,R,s4⟩:=r.st 0 (o:=m) (u:=V.bool true) rfl (by rw[GM];omega) rfl;have aZ:gM 1 (.ptr lq (0+m*1)) (V.bool true) h3=some (.val .undef h4):=by rw[zA,Nat.mul_one];exact e4
   rw[aZ,ei];simp only[jo]at R;refine aE s4 (YS:=ps.set m true) (by rw[Nd];exact aD) (λm' aG=>?_) (by rw[List.map_set];exact R);by_cases e:m' = m
   ·subst e;exact⟨i,x,by omega,hx,c,L⟩
   ·rw[ES λh=>e h.symm]at aG;exact aF m' aG
  ·exact gg (by omega) (aE (Sn.refl _ _) aD aF r)
 refine iJ ?_;clear hk hi k K I am i;obtain⟨R,s4,r4⟩:=r.tail.ma 0 rfl;simp only[jo]at R;obtain⟨U,S,r5⟩:=R.tail.ma 0 rfl;simp only[jo]at U;have ao:=s4.trans S;have A:=(aR.trans J).trans ao;refine ZF W U.tail ((aQ.since J).since ao) λbi h6 dv M9 C p r6 D=>?_;refine ee (p.rh 0 rfl rfl) ?_;have aH:=(r4.since S).since C;have aI:=r5.since C;refine ee (a:= .agg (T6 u vv vb vs (.slice lb 0 u.eh.length) (.slice lp 0 u.eh.length) dv)) ?_ ?_
 ·rcases r6 with⟨rfl,_⟩|⟨_,_,_,_,_,_,rfl,_⟩ <;> rfl
 have u6:=Z.since (A.trans C);refine gY p rfl rfl (by simp only[T6,ey,u6.v.one,u6.b.one,u6.s.one,aH.one,aI.one,r6.one];rfl) λh7 H7 s7=>?_;refine ZN g ⟨λv b k q=>?_,D⟩ H7 (u6.since s7) (aI.since s7) (aH.since s7) (r6.since s7) ((((r9.since J).since ao).since C).since s7) λF8 h8 s8 H8=>H F8 h8 (((A.trans C).trans s7).trans s8) H8;refine P1.yes v b k q (.inl ?_);obtain⟨B,f,_⟩:=q;exact(jR.1 f).1
end
