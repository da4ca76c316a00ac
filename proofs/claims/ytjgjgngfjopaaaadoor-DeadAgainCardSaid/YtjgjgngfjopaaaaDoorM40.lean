/- Parts. -/
import Derived.Test.YtjgjgngfjopaaaaDoorM39
import Derived.Test.YtjgjgngfjopaaaaDoorM30
namespace Go.Proofs.YtjgjgngfjopaaaaDoor.Hx
open Un Dm
theorem Q0{w:Bool}{X:Option V}{K:V->Prop}(h:K .undef):oP (fx w .undef) λb=>oP (gV b X) K:=by cases w <;> exact h
theorem zdG{w:Bool}{C:fu}{f:Nat}{a:List V}{h:Hp}{K:fy}(H:K .undef h):oP (fx w .undef) λb=>oP (gC b (some (f,a))) λy=>qB C y h K:=by cases w <;> exact H
theorem QW{t:Nat}{k:IntKind}{a b:Int}(h:¬b<a):eo .gtr t (.int k a) (.int k b)=some (.bool false):=by rw[nf,La h]
theorem zbv{t:Nat}{k:IntKind}{a b:Int}(h:¬a<b):eo .lss t (.int k a) (.int k b)=some (.bool false):=by rw[jD,La h]
theorem VO{t:Nat}{k:IntKind}{a b:Int}(h:a=b):eo .neq t (.int k a) (.int k b)=some (.bool false):=by rw[tu,h];simp
theorem MY{t:Nat}{k:IntKind}{a b:Int}(h:a=b):eo .eql t (.int k a) (.int k b)=some (.bool true):=by rw[gQ,h];simp
theorem Lu{t:Nat}{k:IntKind}{a b:Int}(h:a≠b):eo .eql t (.int k a) (.int k b)=some (.bool false):=by rw[gQ];simp[h]
theorem pw{X:Option V}{K:V->Prop}(a:X=some (.bool false))(H:K (.bool false)):oP (oD (.bool false) X) K:=by rw[mn,a];exact H
section
variable{F F':Nat->Prop}{h h':Hp}{cs:List Pc}{Q:fy}{u:U}{vv vb vs:V}
theorem zaY{u:U}(g:Good u)(b:Nat):(pre u b).length<=u.ef.length:=jK _ _ (FV g b) λv hv=>by
 obtain⟨c,k,a,_⟩:=I9.1 hv;exact g.mb _ _ _ a
theorem Wn(g:Good u)(H0:en F h cs)(hu:A0 F h u vv vb vs)(H:∀F' h',Sn F h F' h'->en F' h' cs->Q (.bool true) h'):cP CS mi [.agg (uC u vv vb vs)] h Q:=by
 refine Dc rfl rfl ?_;unfold wE;have nv:=g.nv;have nb:=g.nb;have OC:=g.OC;have ns:=g.ns;have J:∀{l o k:Nat},fH k (.ptr l o)=some (.ptr l (o+k)):=eJ _ _ _;refine mH H0 hu.one λA C L=>?_;generalize h.next=lu at*;have G:=hu.since L;have k3:ez (.ptr lu (0+3)) A=some vb:=C.ld 0 rfl rfl;have O:ez (.ptr lu (0+4)) A=some vs:=C.ld 0 rfl rfl;refine oF (C.ld 0 rfl rfl) (ed G.v.len (ed (QW (by omega)) ?_));refine pw (by simp only[fj,eJ,k3,G.b.len];exact QW (by omega)) ?_;refine pw (by simp only[fj,eJ,k3,G.b.len];exact zbv (by omega)) ?_;refine pw (by simp only[fj,eJ,O,G.s.len];exact QW (by omega)) (js (gi (by simp) ?_));clear k3 O;refine Ah (λk l h'=>∃(F':Nat->Prop) (i:Nat),l=[.ptr lu 0,.I i]/\i+k=u.eh.length/\Sn F h F' h'/\en F' h' (ev lu 30 (uC u vv vb vs)::cs)) ?_ (k:=u.eh.length) ⟨F,0,rfl,by omega,L,C⟩;clear C G L A;rintro k _ _ A ⟨U,i,⟨⟩,hk,L,C⟩;unfold sj;have G:=hu.since L;have W:ez (.ptr lu (0+2)) A=some vv:=C.ld 0 rfl rfl;have O:ez (.ptr lu (0+4)) A=some vs:=C.ld 0 rfl rfl;refine oF O (ed G.s.len ?_);by_cases hi:i<u.eh.length
 ·refine gG ?_;have aj:=gP hi;generalize u.eh[i]=fs at*;obtain⟨q1,q2,q3⟩:=g.st i fs aj;obtain⟨l1,o1,f,_,X,x2,x3,xf⟩:=G.st aj;have x3:ez (.ptr l1 (o1+0)) A=some f:=x3;refine oF O (ed X (oF x3 (ed xf.len (ed (zbv (by omega)) ?_))));refine pw (by simp only[fj,eJ,O,X,x3,xf.len];exact QW (by omega)) (js (gi (by simp) ?_));refine AK (λk l h'=>∃j:Nat,l=[.ptr lu 0,.I i,.I (j:Nat)]/\j+k=fs.length/\h' = A) ?_ (k:=fs.length) ⟨0,rfl,by omega,rfl⟩;rintro k1 _ _ _ _ ⟨j,⟨⟩,bQ,rfl⟩;unfold qW;refine oF O (ed X (oF x3 (ed xf.len ?_)));by_cases hj:j<fs.length
  ·refine gG ?_;have hf:=gP hj;obtain⟨r1,r2,_⟩:=q3 _ (zq hj);generalize fs[j]=x at*;obtain⟨l2,o2,a,b,_,P,R,y3,ya,yb⟩:=xf.zc4 hf;refine oF O (ed X (oF x3 (ed P (oF R (ed ya.len (ed (QW (by omega)) ?_))))));refine pw (by simp only[fj,eJ,O,X,x3,P,y3,yb.len];exact QW (by omega)) (js (gi (by simp) ?_));exact fN ⟨k1-1,by omega,j+1,rfl,by omega,rfl⟩
  ·refine iI ?_;refine oF O (ed X (ed x2 ?_));refine NJ C xf (zg g i fs aj) λF2 d fv S p r2=>?_;have bR:=C9 (fs:=fs) (zg g i fs aj).2;have al:=L.trans S;have u2:=G.since S;have W:ez (.ptr lu (0+2)) d=some vv:=p.ld 0 rfl rfl;refine Ag (λk l h'=>∃j:Nat,l=[.ptr lu 0,.I i,fv,.I (j:Nat)]/\j+k=(gJ fs).length/\h' = d) ?_ (k:=(gJ fs).length) ⟨0,rfl,by omega,rfl⟩;rintro Y _ _ _ _ _ ⟨j,⟨⟩,aD,rfl⟩;unfold r0;refine ed r2.len ?_;by_cases hj:j<(gJ fs).length
   ·refine gG ?_;have hx:=gP hj;obtain⟨x,M,Z⟩:w7 u (gJ fs)[j]:=by
     have:=zq hj;unfold gJ at this;obtain⟨f,hf,hm⟩:=Ni.1 this;obtain⟨_,_,t1,t2⟩:=q3 f hf;exact(BK.1 hm).elim (t1 _) (t2 _)
    generalize (gJ fs)[j]=w at*;have am:=(iR.1 M).1;obtain⟨l3,o3,_,P,R⟩:=r2.nat hx .i64;obtain⟨l4,o4,_,_,z1,_,_,z2⟩:=u2.val M;refine ed P (ed R (oF W (ed u2.v.len (Kt am ⟨jj _,?_⟩))));refine ed rfl (fG (ed J (fG (ed W (fG (ed rfl (fG (ed rfl (fG (ed P (fG (ed R (fG (ed z1 (fG (ed J (fG (ed z2.op (wW (RO ?_))))))))))))))))))));rw[Z];refine⟨jj _,ed rfl (js (gi (by simp) ?_))⟩;exact fN ⟨Y-1,by omega,j+1,rfl,by omega,rfl⟩
   ·refine iI ?_;exact fN ⟨k-1,by omega,F2,i+1,rfl,by omega,al,p⟩
 refine iI ?_;clear hk hi k i W O;refine AH (λk l h'=>∃(F':Nat->Prop) (i:Nat),l=[.ptr lu 0,.I i]/\i+k=u.ef.length/\Sn F h F' h'/\en F' h' (ev lu 30 (uC u vv vb vs)::cs)) ?_ (k:=u.ef.length) ⟨U,0,rfl,by omega,L,C⟩;clear C G L A U;rintro k _ _ A ⟨U,i,⟨⟩,hk,L,C⟩;unfold rK;have G:=hu.since L;refine oF (C.ld 0 rfl rfl) (ed G.v.len ?_);by_cases hi:i<u.ef.length
 ·refine gG ?_;have hx:=gP hi;generalize u.ef[i]=x at*;obtain⟨l1,o1,w,_,X,x2,xw,_⟩:=G.val hx;refine oF (C.ld 0 rfl rfl) (ed X (ed x2 ?_));refine iG C rfl rfl (by simp only[mz,eQ,xw.one];rfl) λd p S=>?_;generalize A.next=lx at*;have u2:=G.since S;have w2:=xw.since S;have z0:ez (.ptr lx (0+0)) d=some (.I x.op):=p.ld 0 rfl rfl;have z3:ez (.ptr lx (0+3)) d=some (.I x.n):=p.ld 0 rfl rfl;have z4:ez (.ptr lx (0+4)) d=some w:=p.ld 0 rfl rfl;have z5:ez (.ptr lx (0+5)) d=some (.I x.state):=p.ld 0 rfl rfl;have O:ez (.ptr lu (0+4)) d=some vs:=p.ld 1 rfl rfl;obtain⟨bS,bU⟩:=g.op i x hx;refine oF z0 (ed (zbv (by omega)) ?_);refine pw (by simp only[fj,eJ,z0];exact QW (by omega)) ?_;refine pw ?_ ?_
  ·simp only[fj,eJ,z0];by_cases c:x.op=20
   ·rw[MY (by omega)];simp only[fj,mq,z4,w2.len];exact VO (by rw[g.putAt i x hx c];rfl)
   ·rw[Lu (by omega)];rfl
  refine fG (ed J (fG (ed z0 ?_)));have kA:oP (oD (.bool false) (oB (fH 0 (V.ptr lx 0)) λaE=>oB (ez aE d) λaF=>oB (eo .eql 3 aF (V.I 1)) λaG=>oB (some aG) λaH=>jZ aH (oB (fH 3 (V.ptr lx 0)) λaI=>oB (ez aI d) λaJ=>eo .gtr 2 aJ (V.I 1073741824)))) λv=>v = .bool false:=by
   refine pw ?_ rfl;simp only[fj,eJ,z0];by_cases c:x.op=1
   ·rw[MY (by omega)];simp only[fj,mq,z3];obtain⟨n1,n2,_⟩:=g.param i x hx c;exact QW (by omega)
   ·rw[Lu (by omega)];rfl
  obtain⟨vA,eA,rfl⟩:=j6.1 kA
  have ak:∀K:fy,K (.bool false) d->oP (fx false (V.bool false)) λan=>oP (gV an (fH 0 (V.ptr lx 0))) λaK=>oP (fx false (V.bool false)) λbd=>oP (gV bd (ez aK d)) λaL=>oP (fx false (V.bool false)) λbe=>oP (gV be (eo .eql 3 aL (V.I 22))) λaM=>
    oP (fx false (V.bool false)) λbf=>oP (gV bf (some aM)) λT=>oP (fx false T) λbg=>oP (gV bg (fH 0 (V.ptr lx 0))) λaN=>oP (fx false T) λbh=>oP (gV bh (ez aN d)) λaO=>oP (fx false T) λbi=>oP (gV bi (eo .eql 3 aO (V.I 23))) λaP=>
    oP (fx false (V.bool false)) λbj=>oP (gV bj (iO T (V.bool true) aP)) λaQ=>oP (fx false (V.bool false)) λbm=>oP (gV bm (some aQ)) λq=>oP (fx true q) λao=>oP (gV ao (fH 5 (V.ptr lx 0))) λaa=>oP (fx true q) λap=>oP (gV ap (ez aa d)) λab=>
    oP (fx true q) λaq=>oP (gV aq (fH 4 (V.ptr lu 0))) λac=>oP (fx true q) λar=>oP (gV ar (ez ac d)) λae=>oP (fx true q) λau=>oP (gV au (fF ae)) λag=>oP (fx true q) λaw=>oP (gC aw (some (gL,[ab,ag]))) λax=>qB CS ax d λah h4=>
    oP (fx true q) λay=>oP (gV ay (qz .not ah)) λai=>oP (oD (V.bool false) (iO q ai (V.bool false))) λD=>K D h4:=λK HK=>by
   refine fG (ed J (fG (ed z0 (fG (ed (gQ ..) (fG (ed rfl ?_)))))))
   have fin:∀c:Bool,c=leaves x.op->oP (fx true (V.bool c)) λao=>oP (gV ao (fH 5 (V.ptr lx 0))) λaa=>oP (fx true (V.bool c)) λap=>oP (gV ap (ez aa d)) λab=>
     oP (fx true (V.bool c)) λaq=>oP (gV aq (fH 4 (V.ptr lu 0))) λac=>oP (fx true (V.bool c)) λar=>oP (gV ar (ez ac d)) λae=>oP (fx true (V.bool c)) λau=>oP (gV au (fF ae)) λag=>oP (fx true (V.bool c)) λaw=>oP (gC aw (some (gL,[ab,ag]))) λax=>qB CS ax d λah h4=>
     oP (fx true (V.bool c)) λay=>oP (gV ay (qz .not ah)) λai=>oP (oD (V.bool false) (iO (V.bool c) ai (V.bool false))) λD=>K D h4:=λc hc=>by
    cases c with
    |true=>exact fU (ed J (fU (ed z5 (fU (ed J (fU (ed O (fU (ed u2.s.len (uS (Kt (g.leave i x hx hc.symm) (fU (ed rfl (ed rfl HK))))))))))))))
    |false=>exact hY (hY (hY (hY (hY (E0 (hY (ed rfl HK)))))))
   by_cases c:x.op=22
   ·rw[show((x.op:Int) == 22)=true by simp[c]];exact N1 (N1 (N1 (fG (ed rfl (fG (ed rfl (fin true (by rw[c];rfl))))))))
   ·rw[show((x.op:Int) == 22)=false by rw[MU];omega];refine fG (ed J (fG (ed z0 (fG (ed (gQ ..) (fG (ed rfl (fG (ed rfl (fin _ ?_))))))))));rw[show((x.op:Int) == 23)=(x.op == 23) from Vv _ 23];unfold leaves;rw[show(x.op == 22)=false by rw[MU];exact c];rfl
  have tl:kL CS Q [V.ptr lu 0,.I ((i+1:Nat):Int)] d=kL CS Q [V.ptr lu 0,.I ((i+1:Nat):Int)] d:=rfl;clear tl;have last:oP (gg 6 (V.ptr lx 0) d) λaR=>cP CS jG [aR] d λaS h5=>mP CS Q (CE (λk l h'=>∃(F':Nat->Prop) (i:Nat),l=[.ptr lu 0,.I i]/\i+k=u.ef.length/\Sn F h F' h'/\en F' h' (ev lu 30 (uC u vv vb vs)::cs)) k) [.ptr lu 0,.I i,aS,(V.I 0)] h5:=by
   refine ed (p.wS 0 rfl rfl) ?_;refine Ly p w2 λF3 h3 uv s3 H3 r3=>?_;have u3:=u2.since s3;have W:ez (.ptr lu (0+2)) h3=some vv:=H3.ld 1 rfl rfl;have bV:=Ij λh=>Gq g hx h;refine Ay (λk l h'=>∃j:Nat,l=[.ptr lu 0,.I i,uv,.I (j:Nat)]/\j+k=(je x).length/\h' = h3) ?_ (k:=(je x).length) ⟨0,rfl,by omega,rfl⟩;rintro Y _ _ _ _ _ ⟨j,⟨⟩,aD,rfl⟩;unfold rG;refine ed r3.len ?_;by_cases hj:j<(je x).length
   ·refine gG ?_;have hw:=gP hj;obtain⟨y,M,Z⟩:w7 u (je x)[j]:=g.use i x hx _ (zq hj);generalize (je x)[j]=w at*;have am:=(iR.1 M).1;obtain⟨l3,o3,_,P,R⟩:=r3.nat hw .i64;obtain⟨l4,o4,_,_,z1,_,_,z2⟩:=u3.val M;refine ed P (ed R (oF W (ed u3.v.len (Kt am ⟨jj _,?_⟩))));refine ed rfl (fG (ed J (fG (ed W (fG (ed rfl (fG (ed rfl (fG (ed P (fG (ed R (fG (ed z1 (fG (ed J (fG (ed z2.op (wW (RO ?_))))))))))))))))))));rw[Z];refine⟨jj _,ed rfl (js (gi (by simp) ?_))⟩;exact fN ⟨Y-1,by omega,j+1,rfl,by omega,rfl⟩
   ·refine iI ?_;exact fN ⟨k-1,by omega,F3,i+1,rfl,by omega,(L.trans S).trans s3,H3.tail⟩
  by_cases c1:x.op=1
  ·obtain⟨n1,n2,_⟩:=g.param i x hx c1;obtain⟨m,hm⟩:=Z5 n1;rw[hm]at z3;refine fG (ed (MY (by omega)) (fG (ed rfl (fU (ed J (fU (ed z3 (uS (Kt (n:=40) (by omega) (fU (ed rfl (ed rfl (ed eA ?_)))))))))))));exact ak (λD h4=>bP D _ _) (js (gi (by simp) last))
  ·refine fG (ed (Lu (by omega)) (fG (ed rfl (hY (hY (E0 (hY (ed rfl (ed eA ?_)))))))));exact ak (λD h4=>bP D _ _) (js (gi (by simp) last))
 refine iI ?_;clear hk hi k i;refine oF (C.ld 0 rfl rfl) (ed G.v.len ?_);rw[jQ (z:=V.bool false) rfl (by decide) (by omega),fE];obtain⟨p,S⟩:=C.make (E:=eB) (ty:=jd) (y:=false) (u:=V.bool false) u.ef.length rfl rfl;generalize A.new (.cells jd 1 true false (List.replicate u.ef.length (V.bool false)))=d at*;generalize A.next=lk at*;obtain⟨I,hI⟩:∃I:Nat->LP,I=λ(k:Nat) l h'=>∃(i:Nat) (seen:List Bool),l=[.ptr lu 0,.slice lk 0 u.ef.length,.I ((pre u i).length:Nat),.I i]/\i+k=u.blocks.length/\Sn F h U h'/\seen.length=u.ef.length/\(∀v:Nat,seen[v]? =some true↔v∈pre u i)/\en U h' (eR eB jd seen (.slice lk 0 u.ef.length)::ev lu 30 (uC u vv vb vs)::cs):=⟨_,rfl⟩
 refine Am I (λk X x2 x3 x4 h6 hi=>?_) (k:=u.blocks.length) ?_;rotate_left
 ·rw[hI];refine⟨0,_,rfl,by omega,L.trans S,Pl,λv=>?_,p⟩;constructor
  ·intro h;rw[Wb]at h;split at h <;> cases h
  ·intro h;simp[pre]at h
 clear p S C G L d;clear A;revert h6 hi;intro A hi;rw[hI]at hi;obtain⟨i,seen,⟨⟩,hk,L,lT,bo,C⟩:=hi;unfold rA;have G:=hu.since L;have bW:=zaY g i;refine oF (C.ld 1 rfl rfl) (ed G.b.len ?_);by_cases hi:i<u.blocks.length;rotate_left
 ·refine iI ?_;obtain rfl:i=u.blocks.length:=by omega
  rw[K1 g];exact oF (C.ld 1 rfl rfl) (ed G.v.len (ed (MY rfl) (H U A L C.tail.tail)))
 refine gG ?_;have hB:=gP hi;generalize u.blocks[i]=B at*;obtain⟨l1,o1,bv,bn,bp,_,X,x2,iv,iN,ip,_⟩:=G.nW hB;refine oF (C.ld 1 rfl rfl) (ed X (ed x2 ?_));refine iG C rfl rfl (by simp only[kr,eQ,iv.one,iN.one,ip.one];rfl) λd p S=>?_;generalize A.next=lx at*;have p:en U d (ev lx 50 (kr B bv bn bp)::_):=p;have u2:=G.since S;have al:=L.trans S;have bq:=iv.since S;have aT:=iN.since S
 have aA:∀n:Nat,B.next.length=n->jr CS Q (CE I k)
   [.ptr lu 0,.slice lk 0 u.ef.length,.I ((pre u i).length:Nat),.I i,.ptr lx 0,.I (n:Nat)] d:=λn hn=>by
  refine zA ?_;unfold qv;have z1:ez (.ptr lx (0+1)) d=some (.I B.fin):=p.ld 0 rfl rfl;have z2:ez (.ptr lx (0+2)) d=some (.I B.cond):=p.ld 0 rfl rfl;have z5:ez (.ptr lx (0+5)) d=some (.I B.state):=p.ld 0 rfl rfl;have W:ez (.ptr lu (0+2)) d=some vv:=p.ld 2 rfl rfl;have O:ez (.ptr lu (0+4)) d=some vs:=p.ld 2 rfl rfl;have last:mL CS Q (CE I k) [.ptr lu 0,.slice lk 0 u.ef.length,.I ((pre u i).length:Nat),.I i,.ptr lx 0,.I n,.I 0] d:=by
   refine AN (λk l h'=>∃j:Nat,l=[.ptr lu 0,.slice lk 0 u.ef.length,.I ((pre u i).length:Nat),.I i,.ptr lx 0,.I n,.I (j:Nat)]/\j+k=n/\h' = d) ?_ (k:=n) ⟨0,rfl,by omega,rfl⟩;rintro Y _ _ _ _ _ _ _ d ⟨j,⟨⟩,aD,rfl⟩;unfold rZ;by_cases hj:j<n
   ·refine gG ?_;have ht:=gP (show j<B.next.length by omega);have br:B.next[j]<u.blocks.length:=g.nx i _ (by unfold next;rw[hB];exact zq (show j<B.next.length by omega));generalize B.next[j]=t at*;obtain⟨l3,o3,_,P,R⟩:=aT.nat ht .i64;refine oF (p.ld 0 rfl rfl) (ed P (ed R (oF (p.ld 2 rfl rfl) (ed u2.b.len (Kt br ⟨jj _,?_⟩)))));refine qi (gw rfl ?_);exact jO (m:=1) (by have:=FX g hB;omega) (by omega) ⟨Y-1,by omega,j+1,rfl,by omega,rfl⟩
   refine iI ?_;clear z1 z2 z5 W O
   refine Aq (λk l h'=>∃(j:Nat) (seen:List Bool),l=[.ptr lu 0,.slice lk 0 u.ef.length,.I ((pre u i).length+j:Nat),.I i,.ptr lx 0,.I j]/\j+k=B.ef.length/\Sn F h U h'/\Sn U d U h'/\seen.length=u.ef.length/\(∀v:Nat,seen[v]? =some true↔v∈pre u i++B.ef.take j)/\en U h' (ev lx 50 (kr B bv bn bp)::eR eB jd seen (.slice lk 0 u.ef.length)::ev lu 30 (uC u vv vb vs)::cs)) ?_ (k:=B.ef.length)
    ⟨0,seen,rfl,by omega,al,Sn.refl _ _,lT,λv=>by rw[bo v,YZ,Eo],p⟩
   rintro k3 _ _ _ _ _ _ h3 ⟨j,sn,⟨⟩,bX,s3,aU,aV,aB,H3⟩;unfold rW;have aW:=bq.since aU;have u3:=hu.since s3;have bY:=Cb g hB;refine oF (H3.ld 0 rfl rfl) (ed aW.len ?_);by_cases hj:j<B.ef.length
   ·refine gG ?_;have hv:=gP hj;have bt:=M9 hj;generalize B.ef[j]=v at*;have aC:At u v i j:=⟨B,hB,hv⟩
    have bu:=g.mb v i j aC;obtain⟨l3,o3,_,P,R⟩:=aW.nat hv .i64;have aX:v ∉ pre u i++B.ef.take j:=λhm=>by
     rcases BK.1 hm with A|A
     ·obtain⟨c,m,d,h3⟩:=I9.1 A;have:=(g.OM _ _ _ _ _ d aC).1;omega
     ·obtain⟨m,hm⟩:=mK.1 A;rw[List.getElem?_take]at hm;split at hm
      ·have:=(g.OM _ _ _ _ _ ⟨B,hB,hm⟩ aC).2;omega
      ·cases hm
    have bw:sn[v]? =some false:=by
     have A:=gP (show v<sn.length by omega);have d:=aB v
     cases e:sn[v]with
     |true=>rw[A,e]at d;exact absurd (d.1 rfl) aX
     |false=>rw[A,e]
    obtain⟨l4,o4,w1,w2⟩:=H3.GV 1 rfl bw .i64;have z0:ez (.ptr lx (0+0)) h3=some bv:=H3.ld 0 rfl rfl;refine oF z0 (ed P (ed R (oF (H3.ld 2 rfl rfl) (ed u3.v.len (Kt bu ⟨jj _,?_⟩)))));refine ed rfl (pw (by simp only[fj,eJ,z0,P,R,w1,w2]) (js (gi (by simp) ?_)));obtain⟨l5,o5,h4,e1,e2,_,H4,s4⟩:=H3.Ig 1 rfl (k:=v) (y:=true) (u:=V.bool true) (by omega) rfl rfl rfl;refine oF z0 (ed P (ed R (ed e1 ?_)));rw[e2,ei];simp only[iY,lj]at H4;refine fN (fN ⟨k3-1,by omega,j+1,_,rfl,by omega,s3.trans s4,aU.trans s4,by rw[Mi];exact aV,λx=>?_,H4⟩);rw[bt,<-Ek,BK,<-aB x,Jd];by_cases e:x=v
    ·subst e;rw[EK (by omega)];exact⟨λ_=> .inr rfl,λ_=>rfl⟩
    ·rw[C8 λh=>e h.symm];exact⟨.inl,λh=>h.elim id λh=>absurd h e⟩
   ·refine iI ?_;obtain rfl:j=B.ef.length:=by omega
    refine fN ⟨k-1,by omega,?_⟩;rw[hI];refine⟨i+1,sn,?_,by omega,s3,aV,λv=>?_,H3.tail⟩
    ·rw[E3 hB,y6]
    ·rw[aB v,Jh,E3 hB]
  have c3:∀K:fy,K (.bool false) d->oP (fx false (V.bool false)) λbx=>oP (gV bx (fH 1 (V.ptr lx 0))) λaY=>oP (fx false (V.bool false)) λbz=>oP (gV bz (ez aY d)) λaZ=>oP (fx false (V.bool false)) λbA=>oP (gV bA (eo .eql 3 aZ (V.I 3))) λa5=>oP (fx false (V.bool false)) λbC=>oP (gV bC (some a5)) λr=>
    oP (fx true r) λbD=>oP (gV bD (fH 5 (V.ptr lx 0))) λa6=>oP (fx true r) λbE=>oP (gV bE (ez a6 d)) λa7=>oP (fx true r) λbG=>oP (gV bG (fH 4 (V.ptr lu 0))) λa8=>oP (fx true r) λbH=>oP (gV bH (ez a8 d)) λa9=>oP (fx true r) λbI=>oP (gV bI (fF a9)) λba=>
    oP (fx true r) λbJ=>oP (gC bJ (some (gL,[a7,ba]))) λbK=>qB CS bK d λbb h3=>oP (fx true r) λan=>oP (gV an (qz .not bb)) λbc=>oP (oD (V.bool false) (iO r bc (V.bool false))) λN=>K N h3:=λK HK=>by
   refine fG (ed J (fG (ed z1 ?_)));by_cases c:B.fin=3
   ·refine fG (ed (MY (by omega)) (fG (ed rfl ?_)));have hs:B.state<u.eh.length:=by
     rcases g.fin i B hB with⟨e,_⟩|⟨e,_⟩|⟨_,_,e⟩
     ·omega
     ·omega
     ·exact e
    exact fU (ed J (fU (ed z5 (fU (ed J (fU (ed O (fU (ed u2.s.len (uS (Kt hs (fU (ed rfl (ed rfl HK))))))))))))))
   ·exact fG (ed (Lu (by omega)) (fG (ed rfl (hY (hY (hY (hY (hY (E0 (hY (ed rfl HK)))))))))))
  refine oF (p.ld 0 rfl rfl) (ed aT.len (ed (VO (by omega)) (fG (ed J (fG (ed z1 ?_))))));by_cases c:B.fin=2
  ·obtain ⟨y,M,Z⟩:w7 u B.cond:=by
    rcases g.fin i B hB with⟨e,_⟩|⟨_,_,e⟩|⟨e,_⟩
    ·omega
    ·exact e
    ·omega
   have bL:=(iR.1 M).1;obtain⟨l4,o4,_,_,P,_,_,R⟩:=u2.val M;refine fG (ed (MY (by omega)) (fG (ed rfl ?_)));refine fU (ed J (fU (ed z2 (fU (ed J (fU (ed W (fU (ed u2.v.len (uS (Kt bL ?_)))))))))));refine fU (ed rfl (fU (ed rfl ?_)));refine fG (ed J (fG (ed W (fG (ed J (fG (ed z2 (fG (ed P (fG (ed J (fG (ed R.op (wW (RO ?_)))))))))))))));rw[Z];refine fG (ed rfl (fU (ed rfl (ed rfl ?_))));exact c3 (λN h3=>bP N _ _) (js (gi (by simp) last))
  ·refine fG (ed (Lu (by omega)) (fG (ed rfl ?_)));refine hY (hY (hY (hY (hY (E0 (hY (hY ?_)))))));refine Q0 (Q0 (Q0 (Q0 (Q0 (Q0 (Q0 (zdG (Q0 (hY (ed rfl ?_))))))))));exact c3 (λN h3=>bP N _ _) (js (gi (by simp) last))
 have z1:ez (.ptr lx (0+1)) d=some (.I B.fin):=p.ld 0 rfl rfl;refine oF z1 (gj ?_);rcases g.fin i B hB with⟨f1,f2⟩|⟨f1,f2,_⟩|⟨f1,f2,_⟩
 ·exact gw (by omega) (aA 1 f2)
 ·exact gi (by omega) (gj (gw (by omega) (aA 2 f2)))
 ·exact gi (by omega) (gj (gi (by omega) (gj (gw (by omega) (aA 0 (by rw[f2];rfl))))))
end
open Un Dm
section
variable{F F':Nat->Prop}{h h':Hp}{cs:List Pc}{Q:fy}{u:U}{vv vb vs:V}
theorem WU(g:Good u){w b:Nat}(h:xI u w b):∃c j,At u w c j/\(c=b/\j<1073741824\/c≠b/\ve (next u) c b):=by
 obtain⟨c,j,a,d⟩:=h;refine⟨c,j,a,?_⟩;by_cases e:c=b
 ·obtain⟨B,f,i⟩:=a;have:=Cb g f;have:=(iR.1 i).1;exact .inl ⟨e,by omega⟩
 ·exact .inr ⟨e,d⟩
structure PlR (u:U) (i j:Nat) (nW G4:List Nat):Prop where
 nb:nW.length=u.ef.length
 np:G4.length=u.ef.length
 yes:∀(v c m:Nat),At u v c m->(c<i\/(c=i/\m<j))->nW[v]? =some c/\G4[v]? =some m
theorem PlR.step(g:Good u){i j v:Nat}{nW G4:List Nat}(S:PlR u i j nW G4)(hv:At u v i j):PlR u i (j+1) (nW.set v i) (G4.set v j):=by
 have a:=g.mb _ _ _ hv;refine⟨by rw[Mi];exact S.nb,by rw[Mi];exact S.np,λw c m d hc=>?_⟩;by_cases e:w=v
 ·subst e;obtain⟨rfl,rfl⟩:=g.OM _ _ _ _ _ d hv;rw[EK (by rw[S.nb];exact a),EK (by rw[S.np];exact a)];exact⟨rfl,rfl⟩
 ·rw [C8 λh=>e h.symm,C8 λh=>e h.symm];refine S.yes w c m d ?_;rcases hc with hc|⟨rfl,hc⟩
  ·exact .inl hc
  ·refine .inr ⟨rfl,?_⟩;by_cases k:m=j
   ·subst k;obtain⟨B,l,n⟩:=d;obtain⟨o,b,f⟩:=hv;rw[l]at b;cases b;rw[n]at f;cases f;exact absurd rfl e
   ·omega
theorem PlR.next{i:Nat}{B:Bk}{nW G4:List Nat}(b:u.blocks[i]? =some B)(S:PlR u i B.ef.length nW G4):PlR u (i+1) 0 nW G4:=by
 refine⟨S.nb,S.np,λv c m hv hc=>S.yes v c m hv ?_⟩;rcases hc with hc|⟨_,hc⟩
 ·by_cases e:c=i
  ·subst e;obtain⟨f,a,d⟩:=hv;rw[b]at a;cases a;exact .inr ⟨rfl,(iR.1 d).1⟩
  ·exact .inl (by omega)
 ·omega
theorem W6(g:Good u){Wy:List (List Nat)}(c:Wy.length=u.blocks.length)(d:∀b:Nat,b<u.blocks.length->Wy[b]? =some (Un.next u b)):Nxs u.blocks.length (Un.next u) Wy:=by
 refine⟨g.OC,g.nb,c,d,λb e=>?_,λb _ t f=>g.nx b t f⟩;have a:=gP e;have:Un.next u b=u.blocks[b].next:=by unfold Un.next;rw[a]
 rw[this];exact FX g a
theorem SC(g:Good u){b k v:Nat}{x:Vl}{B:Bk}(c:u.blocks[b]? =some B)(a:At u v b k)(d:u.ef[v]? =some x)(e:iH x.op=true):∀(j w:Nat)(y:Vl),j<k->B.ef[j]? =some w->u.ef[w]? =some y->iH y.op=true:=
 λj w y i f h=>O3 g a d e ⟨B,c,f⟩ h (by omega)
theorem zba:(eL eN).rel F h [] [.ee]:=⟨.ee,rfl,.nil⟩
theorem ZO{len n l o m:Nat}{kd:IntKind}(a:m<len):zaK len n (.ptr l o) (.int kd (m:Nat))=some (.ptr l (o+m*n)):=by
 show bB (Nat.blt m len) _=_;rw[kN _ (by rw[Ns];exact a)];rfl
theorem Vf(op:Nat):(((op:Int) == 21) ||((op:Int) == 1))=iH op:=by
 unfold iH;rw[show((op:Int) == 21)=(op == 21) from Vv _ 21,show((op:Int) == 1)=(op == 1) from Vv _ 1,Bool.or_comm]
theorem Zl{nW G4:List Nat}{MQ:List (List Bool)}{wb wp wd pv:V}{lu lo To:Nat}(g:Good u)(o:zbt u nW G4 MQ)(H0:en F h (ev lo To (TA u vv vb vs wb wp wd)::ev lu 30 (uC u vv vb vs)::cs))(hu:A0 F h u vv vb vs)
  (M:iC eN F h nW wb) (hp:iC eN F h G4 wp) (Y:iC (eL eB) F h MQ wd) (r:iC (eL eN) F h ((List.range u.blocks.length).map (Un.ahead u)) pv) (H:∀F' h',Sn F h F' h'->en F' h' cs->Q (.bool true) h') :
  mO CS Q [.ptr lu 0,pv,.ptr lo 0,.I 0] h:=by
 have nv:=g.nv;have nb:=g.nb;have Z:∀{l o k:Nat},fH k (.ptr l o)=some (.ptr l (o+k)):=eJ _ _ _;have ak:∀b:Nat,b<u.blocks.length->((List.range u.blocks.length).map (Un.ahead u))[b]? =some (Un.ahead u b):=λb M=>by rw[zG,wBq M];rfl
 obtain⟨I,hI⟩:∃I:Nat->LP,I=λk l h'=>∃(F':Nat->Prop) (i:Nat),l=[.ptr lu 0,pv,.ptr lo 0,.I i]/\i+k=u.blocks.length/\Sn F h F' h'/\en F' h' (ev lo To (TA u vv vb vs wb wp wd)::ev lu 30 (uC u vv vb vs)::cs):=⟨_,rfl⟩
 refine AR I (λk x1 x3 x4 x5 h1 hi=>?_) (k:=u.blocks.length) ?_;rotate_left
 ·rw[hI];exact⟨F,0,rfl,by omega,Sn.refl _ _,H0⟩
 rw[hI]at hi;obtain⟨F1,i,⟨⟩,hk,s1,H1⟩:=hi;unfold qR;refine oF (H1.ld 1 rfl rfl) (ed (hu.since s1).b.len ?_);by_cases hi:i<u.blocks.length;rotate_left
 ·exact iI (H F1 h1 s1 H1.tail.tail)
 refine gG ?_;have K:=gP hi;generalize u.blocks[i]=B at*;obtain⟨l1,o1,bv,bn,bp,_,x1,x2,iv,iN,ip,_⟩:=(hu.since s1).nW K;refine oF (H1.ld 1 rfl rfl) (ed x1 (ed x2 ?_));refine iG H1 rfl rfl (by simp only[kr,eQ,iv.one,iN.one,ip.one];rfl) λh2 H2 s2=>?_;generalize h1.next=lx at*;have H2:en F1 h2 (ev lx 50 (kr B bv bn bp)::_):=H2;have iv:=iv.since s2;have al:=s1.trans s2;have sU:∀{A d},Sn F h A d->en A d (ev lx 50 (kr B bv bn bp)::ev lo To (TA u vv vb vs wb wp wd)::ev lu 30 (uC u vv vb vs)::cs)->oP (eo .add 3 (V.I i) (V.I 1)) λaa=>CE I k [.ptr lu 0,pv,.ptr lo 0,aa] d:=λ{A d} f s=>by
  refine fN ⟨k-1,by omega,?_⟩;rw[hI];exact⟨A,i+1,rfl,by omega,f,s.tail⟩
 have aw:=Cb g K;obtain⟨I6,N⟩:∃I:Nat->LP,I=λk l h'=>∃(F':Nat->Prop) (m:Nat),l=[.ptr lu 0,pv,.ptr lo 0,.I i,.ptr lx 0,.I m]/\m+k=B.ef.length/\Sn F h F' h'/\Sn F1 h2 F' h'/\en F' h' (ev lx 50 (kr B bv bn bp)::ev lo To (TA u vv vb vs wb wp wd)::ev lu 30 (uC u vv vb vs)::cs):=⟨_,rfl⟩
 refine AU I6 (λk6 x1 x3 x4 x5 x6 x7 U ab=>?_) (k:=B.ef.length) ?_;rotate_left
 ·rw[N];exact⟨F1,0,rfl,by omega,al,Sn.refl _ _,H2⟩
 rw[N]at ab;clear H2 H1;obtain⟨F3,m,⟨⟩,ax,C,ac,z⟩:=ab;unfold rP;have ae:=iv.since ac;refine oF (z.ld 0 rfl rfl) (ed ae.len ?_);have u3:=hu.since C;by_cases hm:m<B.ef.length
 ·refine gG ?_;have hv:=gP hm;generalize B.ef[m]=v at*;have D:At u v i m:=⟨B,K,hv⟩
  obtain⟨x,P⟩:∃x,u.ef[v]? =some x:=⟨_,gP (g.mb v i m D)⟩
  obtain⟨l4,o4,am,y1,y2⟩:=ae.nat hv .i64;obtain⟨l5,o5,w,an,W,z2,xw,_⟩:=u3.val P;refine oF (z.ld 2 rfl rfl) (oF (z.ld 0 rfl rfl) (ed y1 (ed y2 (ed W (ed z2 ?_)))));rw[hK];obtain⟨H4,s4⟩:=z.zf 46 [V.I 0,V.I 0,V.I 0,V.I 0,V.ee,V.I 0];have g4:(U.new (.cells 46 1 true false [V.I 0,V.I 0,V.I 0,V.I 0,V.ee,V.I 0])).get U.next=some (.cells 46 1 true false [V.I 0,V.I 0,V.I 0,V.I 0,V.ee,V.I 0]):=fi _ _;generalize U.new (.cells 46 1 true false [V.I 0,V.I 0,V.I 0,V.I 0,V.ee,V.I 0])=h4 at*;refine⟨⟨g4,O.gO _ _ _ _ _⟩,FI z2 (s4.fk _ an),iF y2 (s4.fk _ am),H4.ld 1 rfl rfl,H4.ld 3 rfl rfl,?_⟩;obtain⟨h5,e5,n5,H5,s5⟩:=H4.XP 0 (ws:=mz x w) (n:=6) rfl rfl rfl (by simp only[mz,eQ,xw.one];rfl);rw[e5,ei];simp only[iY]at H5;refine⟨n5,ed (H5.wS 0 rfl rfl) ?_⟩;generalize U.next=X at*;have R:=s4.trans s5;refine Ly H5 (xw.since R) λF6 h6 uv s6 H6 r6=>?_;have ay:=Ij λh=>Gq g P h;have ao:=(C.trans R).trans s6;have ap:=(ac.trans R).trans s6;clear H5 H4 e5 n5;obtain⟨I7,S⟩:∃I:Nat->LP,I=λk l h'=>∃(F':Nat->Prop) (j:Nat),l=[.ptr lu 0,pv,.ptr lo 0,.I i,.ptr lx 0,.I m,.ptr X 0,uv,.I j]/\j+k=(je x).length/\Sn F h F' h'/\Sn F6 h6 F' h'/\en F' h' (ev X 46 (mz x w)::ev lx 50 (kr B bv bn bp)::ev lo To (TA u vv vb vs wb wp wd)::ev lu 30 (uC u vv vb vs)::cs):=⟨_,rfl⟩
  refine AS I7 (λk7 x1 x3 x4 x5 x6 x7 x8 x9 aA h7 ag=>?_) (k:=(je x).length) ?_;rotate_left
  ·rw[S];exact⟨F6,0,rfl,by omega,ao,Sn.refl _ _,H6⟩
  rw[S]at ag;clear H6;obtain⟨F7,j,⟨⟩,aB,t,T,L⟩:=ag;unfold qU;have r7:=r6.since T;refine ed r7.len ?_;have u7:=hu.since t;by_cases hj:j<(je x).length
  ·refine gG ?_;have ha:=gP hj;have aq:=zq hj;generalize (je x)[j]=a at*;obtain⟨l8,o8,_,q1,q2⟩:=r7.nat ha .i64;have ah:∀{d},Sn F7 h7 F7 d->en F7 d (ev X 46 (mz x w)::ev lx 50 (kr B bv bn bp)::ev lo To (TA u vv vb vs wb wp wd)::ev lu 30 (uC u vv vb vs)::cs)->j8 CS Q (CE I k) (CE I6 k6) (CE I7 k7) [.ptr lu 0,pv,.ptr lo 0,.I i,.ptr lx 0,.I m,.ptr X 0,uv,.I j] d:=λ{d} f s=>by
    refine zU ?_;unfold qm;refine fN ⟨k7-1,by omega,?_⟩;rw[S];exact⟨F7,j+1,rfl,by omega,t.trans f,T.trans f,s⟩
   refine oF (L.ld 0 rfl rfl) (gj ?_);by_cases c:x.op=21
   ·refine gw (by omega) ?_;obtain⟨_,aC⟩:=g.Ko v i m x B D P c K;have ar:je x=x.args:=by unfold je;rw[if_pos c]
    rw[ar]at ha hj;have y:∃p,B.fg[j]? =some p:=⟨_,gP (by omega)⟩
    obtain ⟨p,y⟩:=y;obtain⟨ca,ja,E,G⟩:=WU g (g.NX v i m x B D P c K j a p ha y);have au:p<u.blocks.length:=by
     have hm:=A7 y;rw[g.fg i B K]at hm;obtain⟨q,B',h1,_,U⟩:=uk.1 hm;have:=(iR.1 h1).1;omega
    obtain⟨la,oa,wr,_,t1,t2,t3⟩:=(r.since t).list (ak i hi) .i64;rw[g.fg i B K]at y;obtain⟨lc,oc,_,t4,t5⟩:=t3.nat y .i64;refine ed (L.wS 2 rfl rfl) (ed q1 (ed q2 (ed t1 (ed t2 (ed t4 (ed t5 ?_))))));refine Gb o L u7 (M.since t) (hp.since t) (Y.since t) (k:=1073741824) E au G λd f s=>?_;exact⟨f.next,qi (gw rfl (ah f s))⟩
   ·refine gi (by omega) ?_;obtain⟨ca,ja,E,G⟩:=g.NU v i m x D P c a aq;refine ed (L.wS 2 rfl rfl) (ed q1 (ed q2 ?_));refine Gb o L u7 (M.since t) (hp.since t) (Y.since t) E hi G λd f s=>?_;exact⟨f.next,qi (gw rfl (ah f s))⟩
  refine iI ?_;have z0:ez (.ptr X (0+0)) h7=some (.I x.op):=L.ld 0 rfl rfl;refine oF z0 (ed (gQ ..) (ed (a:= .bool (leaves x.op)) ?_ ?_))
  ·simp only[fj,eJ,z0,gQ,xQ];unfold leaves;rw[show((x.op:Int) == 22)=(x.op == 22) from Vv _ 22,show((x.op:Int) == 23)=(x.op == 23) from Vv _ 23]
  have ai:∀{A d},Sn F7 h7 A d->en A d (ev X 46 (mz x w)::ev lx 50 (kr B bv bn bp)::ev lo To (TA u vv vb vs wb wp wd)::ev lu 30 (uC u vv vb vs)::cs)->oP (eo .add 3 (V.I m) (V.I 1)) λaj=>CE I6 k6 [.ptr lu 0,pv,.ptr lo 0,.I i,.ptr lx 0,aj] d:=λ{A d} f s=>by
   refine fN ⟨k6-1,by omega,?_⟩;rw[N];exact⟨A,m+1,rfl,by omega,t.trans f,(ap.trans T).trans f,s.tail⟩
  cases hl:leaves x.op with
  | true=>
    obtain⟨fs,J⟩:∃fs,u.eh[x.state]? =some fs:=⟨_,gP (g.leave v x P hl)⟩
    refine fU (ed (L.wS 2 rfl rfl) (fU (ed Z (fU (ed (L.ld 0 rfl rfl) (fU (ed rfl (fU (ed rfl (uS ?_))))))))));refine NK o g L u7 (M.since t) (hp.since t) (Y.since t) J hi (λw hw=>g.Oa v i m x fs D P hl J w hw) λA d f s=>?_
    exact ed rfl (js (gi (by simp) (ai f s)))
  | false=>
    refine hY (hY (hY (hY (hY (E0 ?_)))));exact ed rfl (js (gi (by simp) (ai (Sn.refl _ _) L)))
 refine iI ?_;have W:ez (.ptr lx (0+1)) U=some (.I B.fin):=z.ld 0 rfl rfl;refine oF W ?_;by_cases c2:B.fin=2
 ·obtain⟨ca,ja,E,G⟩:=WU g (g.NC i B K c2);refine ed (MY (by omega)) (fU (ed (z.wS 1 rfl rfl) (fU (ed Z (fU (ed (z.ld 0 rfl rfl) (fU (ed rfl (uS ?_)))))))));refine Gb o z u3 (M.since C) (hp.since C) (Y.since C) (k:=1073741824) E hi G λd f s=>?_;have W:ez (.ptr lx (0+1)) d=some (.I B.fin):=s.ld 0 rfl rfl;refine ed rfl (fG (ed Z (fG (ed W (fG (ed (Lu (by omega)) (fG (ed rfl ?_))))))));refine hY (hY (hY (hY (E0 (hY (ed rfl (js (gi (by simp) ?_))))))));exact sU (C.trans f) s
 ·refine ed (Lu (by omega)) (hY (hY (hY (hY (E0 (ed rfl ?_))))));refine fG (ed Z (fG (ed W ?_)));by_cases c3:B.fin=3
  ·have hs:B.state<u.eh.length:=by
    rcases g.fin i B K with⟨e,_⟩|⟨e,_⟩|⟨_,_,e⟩
    ·omega
    ·omega
    ·exact e
   have J:=gP hs;generalize u.eh[B.state]=fs at*;refine fG (ed (MY (by omega)) (fG (ed rfl ?_)));refine fU (ed (z.wS 1 rfl rfl) (fU (ed Z (fU (ed (z.ld 0 rfl rfl) (fU (ed rfl (uS ?_))))))));refine NK o g z u3 (M.since C) (hp.since C) (Y.since C) (k:=1073741824) J hi (λw hw=>WU g (g.Nt i B fs K c3 J w hw)) λA d f s=>?_;exact fU (ed rfl (ed rfl (js (gi (by simp) (sU (C.trans f) s)))))
  ·refine fG (ed (Lu (by omega)) (fG (ed rfl ?_)));exact hY (hY (hY (hY (E0 (hY (ed rfl (js (gi (by simp) (sU C z)))))))))
theorem QQ(g:Good u)(H0:en F h cs)(Z:A0 F h u vv vb vs)(H:∀F' h',Sn F h F' h'->en F' h' cs->Q (.bool true) h'):cP CS ki [.agg (uC u vv vb vs)] h Q:=by
 refine CK rfl rfl ?_;unfold vP;have nv:=g.nv;have nb:=g.nb;have OC:=g.OC;have pf:∀{l o k:Nat},fH k (.ptr l o)=some (.ptr l (o+k)):=eJ _ _ _;refine mH H0 Z.one λh1 H1 s1=>?_;generalize h.next=lu at*;refine ed (H1.wS 0 rfl rfl) (Wn g H1 (Z.since s1) λF2 M s2 G=>?_);have ag:=s1.trans s2;refine qi (gw rfl (ed (G.wS 0 rfl rfl) (V9 g G (Z.since ag) λF3 h3 pv J r r3=>?_)));have ap:=ag.trans J;refine oF (r.ld 0 rfl rfl) (ed (Z.since ap).b.len ?_);rw[jQ (z:=V.ee) rfl (by decide) (by omega),fE];obtain⟨R,s4⟩:=r.make (E:=eL eN) (ty:=iP) (y:=[]) (u:= .ee) u.blocks.length zba rfl;generalize h3.new (.cells iP 1 true false (List.replicate u.blocks.length V.ee))=h4 at*;generalize h3.next=ln at*;have aa:∀b:Nat,b<u.blocks.length->((List.range u.blocks.length).map (Un.ahead u))[b]? =some (Un.ahead u b):=λb hb=>by rw[zG,wBq hb];rfl
 obtain ⟨I,K⟩:∃I:Nat->LP,I=λk l h'=>∃(i:Nat) (I2:List (List Nat)),l=[.ptr lu 0,pv,.slice ln 0 u.blocks.length,.I i]/\i+k=u.blocks.length/\Sn F3 h3 F3 h'/\I2.length=u.blocks.length/\(∀j:Nat,j<i->I2[j]? =some (Un.next u j))/\
   en F3 h' (eR (eL eN) iP I2 (.slice ln 0 u.blocks.length)::ev lu 30 (uC u vv vb vs)::cs):=⟨_,rfl⟩
 refine AM I (λk d x3 x4 x5 h5 hi=>?_) (k:=u.blocks.length) ?_;rotate_left
 ·rw[K];exact⟨0,_,rfl,by omega,s4,Pl,λj hj=>by omega,R⟩
 rw[K]at hi;clear R s4 h4 G H1 s1 s2 ag;obtain⟨i,I2,⟨⟩,hk,S,aq,ar,U⟩:=hi;unfold ru;have A:=ap.trans S;have u5:=Z.since A;refine oF (U.ld 1 rfl rfl) (ed u5.b.len ?_);by_cases hi:i<u.blocks.length
 ·refine gG ?_;have f:=gP hi;generalize u.blocks[i]=B at*;obtain⟨l1,o1,bv,bn,bp,_,d,x2,iv,iN,ip,xb⟩:=u5.nW f;refine oF (U.ld 1 rfl rfl) (ed d (oF xb.next ?_));obtain⟨l6,o6,h6,e1,e2,_,p,C⟩:=U.Ig 0 rfl (k:=i) (y:=B.next) (u:=bn) (by omega) rfl iN.one ⟨bn,rfl,iN⟩;refine ed e1 ?_;rw[e2,ei];simp only[iY]at p;have N:=A.trans C;have u6:=Z.since N;have r6:=(r3.since S).since C;have a7:=iN.since C;obtain⟨l7,o7,a8,a9,ba,_,y1,_,_,_,aJ,yb⟩:=u6.nW f;rw[d]at y1;cases y1;obtain⟨l8,o8,pr,_,z1,z2,zr⟩:=r6.list (aa i hi) .i64;refine oF (p.ld 1 rfl rfl) (ed d (oF yb.fg (ed z1 (ed z2 ?_))));refine ZI aJ (by rw[g.fg i B f];exact zr) (by have:=Dn g f;omega) ?_;refine⟨jj _,qi (gw rfl ?_)⟩;have k3:ez (.ptr lu (0+3)) h6=some vb:=p.ld 1 rfl rfl;obtain⟨l9,o9,bb,ah,bc,_,y2,_,_,au,_,aw⟩:=u6.nW f;rw[d]at y2;cases y2;refine oF k3 (ed d (oF aw.next (ed au.len (ed (gQ ..) ?_))));refine ed (a:= .bool false) ?_ (js (gi (by simp) ?_))
  ·by_cases c:B.next.length=2
   ·rw [show((B.next.length:Int) == 2)=true by rw[z8];omega,mq];have aK:B.fin=2:=by
     rcases g.fin i B f with⟨_,h⟩|⟨h,_⟩|⟨_,h,_⟩
     ·omega
     ·exact h
     ·rw[h]at c;simp at c
    have tt:∀j:Nat,j<2->∃l o t l' o' w,gD 1 ah (.I (j:Nat))=some (.ptr l o)/\ez (.ptr l o) h6=some (.I (t:Nat))/\gD 1 pv (.I (t:Nat))=some (.ptr l' o')/\ez (.ptr l' o') h6=some w/\fF w=some (.I ((1:Nat):Int)):=λj hj=>by
     have ht:=gP (show j<B.next.length by omega);have L:=zq (show j<B.next.length by omega);have aL:=g.Mr i B f aK _ L;have aM:B.next[j]<u.blocks.length:=g.nx i _ (by unfold next;rw[f];exact L);obtain⟨l,o,_,q1,q2⟩:=au.nat ht .i64;obtain⟨l',o',w,_,q3,q4,q5⟩:=r6.list (aa _ aM) .i64;exact⟨l,o,_,l',o',w,q1,q2,q3,q4,by rw[q5.len,aL]⟩
    obtain⟨a1,a2,a3,a4,a5,a6,b1,b2,b3,b4,b5⟩:=tt 0 (by omega);obtain⟨c1,c2,c3,c4,c5,c6,d1,d2,d3,d4,d5⟩:=tt 1 (by omega);have b1:gD 1 ah (.I 0)=some (.ptr a1 a2):=b1;have d1:gD 1 ah (.I 1)=some (.ptr c1 c2):=d1;simp only[fj,eJ,k3,d,aw.next,b1,b2,b3,b4,b5,d1,d2,d3,d4,d5,VO (show(((1:Nat):Int))=1 from rfl),mn]
   ·rw[show((B.next.length:Int) == 2)=false by rw[MU];omega,Dd]
  ·refine fN ⟨k-1,by omega,?_⟩;rw[K];refine⟨i+1,_,rfl,by omega,S.trans C,by rw[Mi];exact aq,λj hj=>?_,p⟩;by_cases e:j=i
   ·subst e;rw[EK (by omega)];unfold next
    rw[f]
   ·rw[C8 λh=>e h.symm];exact ar j (by omega)
 refine iI ?_;obtain rfl:i=u.blocks.length:=by omega
 clear hk hi k K I;have r5:=r3.since S;obtain⟨l6,o6,pr,_,z1,z2,zr⟩:=r5.list (aa 0 (by omega)) .i64;have z1:gD 1 pv (.I 0)=some (.ptr l6 o6):=z1;refine ed z1 (ed z2 (ed zr.len (DY (gi (by rw[g.JZ];simp) ?_))));obtain⟨p,C,rn⟩:=U.lO 0 rfl;simp only[iY]at p;have p:=p.tail;have W:=W6 g aq ar;generalize aN:(λl=>F3 l\/Loc (V.slice ln 0 u.blocks.length) l)=P at*;have N:=A.trans C;have r6:=r5.since C;have u6:=Z.since N;clear U S r aN r5 r3 u5 A z1 z2 zr;refine MJ W (-1) p rn λh7 sv seen s7 H7 aO aP=>?_;have ax:∀b:Nat,b<u.blocks.length->seen[b]? =some true:=λb hb=>by
  obtain⟨l,hl⟩:=g.reach b hb;exact(aP b).2 ⟨l,hl,λx _=>by omega⟩
 refine AX (λk l h'=>∃i:Nat,l=[.ptr lu 0,pv,.slice ln 0 u.blocks.length,sv,.I (i:Nat)]/\i+k=u.blocks.length/\h' = h7) ?_ (k:=u.blocks.length) ⟨0,rfl,by omega,rfl⟩;rintro k _ _ _ _ _ h7 ⟨i,⟨⟩,hk,rfl⟩;unfold rR;refine ed (H7.len 0 rfl) ?_;rw[aO];by_cases hi:i<u.blocks.length
 ·refine gG ?_;obtain⟨l8,o8,y1,y2⟩:=H7.GV 0 rfl (ax i hi) .i64;refine ed y1 (ed y2 (qi (gw rfl ?_)));exact fN ⟨k-1,by omega,i+1,rfl,by omega,rfl⟩
 refine iI ?_;clear hk hi k i;have H7:=H7.tail;have ai:=N.trans s7;refine oF (H7.ld 0 rfl rfl) (ed (Z.since ai).v.len ?_);rw[jQ (z:=V.I 0) rfl (by decide) (by omega),fE];obtain⟨H8,s8⟩:=H7.make (E:=eN) (ty:=ey) (y:=0) (u:=V.I 0) u.ef.length rfl rfl;generalize h7.new (.cells ey 1 true false (List.replicate u.ef.length (V.I 0)))=h8 at*;generalize h7.next=lb at*;have ay:=ai.trans s8;refine oF (H8.ld 1 rfl rfl) (ed (Z.since ay).v.len ?_);rw[jQ (z:=V.I 0) rfl (by decide) (by omega),fE];obtain⟨H9,s9⟩:=H8.make (E:=eN) (ty:=ey) (y:=0) (u:=V.I 0) u.ef.length rfl rfl;generalize h8.new (.cells ey 1 true false (List.replicate u.ef.length (V.I 0)))=h9 at*;generalize h8.next=lp at*;have X:=(s7.trans s8).trans s9;clear H8 H7 s8 s7 ai ay p;have u9:=u6.since X;have r9:=r6.since X;have aQ:=rn.since X;have aR:=N.trans X;clear X N s9 u6 r6 rn
 obtain ⟨I,K⟩:∃I:Nat->LP,I=λk l h'=>∃(i:Nat) (nW G4:List Nat),l=[.ptr lu 0,pv,.slice ln 0 u.blocks.length,.slice lb 0 u.ef.length,.slice lp 0 u.ef.length,.I i]/\i+k=u.blocks.length/\Sn P h9 P h'/\PlR u i 0 nW G4/\
   en P h' (eR eN ey G4 (.slice lp 0 u.ef.length)::eR eN ey nW (.slice lb 0 u.ef.length)::ev lu 30 (uC u vv vb vs)::cs):=⟨_,rfl⟩
 refine Aj I (λk d x3 x4 x5 x6 x7 h1 hi=>?_) (k:=u.blocks.length) ?_;rotate_left
 ·rw[K];exact⟨0,_,_,rfl,by omega,Sn.refl _ _,⟨Pl,Pl,λv c m _ hc=>by omega⟩,H9⟩
 rw[K]at hi;clear H9;obtain⟨i,nW,G4,⟨⟩,hk,s1,P1,H1⟩:=hi;unfold rV;have u1:=u9.since s1;refine oF (H1.ld 2 rfl rfl) (ed u1.b.len ?_);by_cases hi:i<u.blocks.length
 ·refine gG ?_;have f:=gP hi;generalize u.blocks[i]=B at*;have bd:=Cb g f
  obtain ⟨I4,aj⟩:∃I:Nat->LP,I=λk l h'=>∃(j:Nat) (fst:Bool) (nW G4:List Nat),l=[.ptr lu 0,pv,.slice ln 0 u.blocks.length,.slice lb 0 u.ef.length,.slice lp 0 u.ef.length,.I i,.bool fst,.I j]/\j+k=B.ef.length/\Sn P h9 P h'/\PlR u i j nW G4/\
    (fst=true↔∀(m w:Nat) (y:Vl),m<j->B.ef[m]? =some w->u.ef[w]? =some y->iH y.op=true)/\
    en P h' (eR eN ey G4 (.slice lp 0 u.ef.length)::eR eN ey nW (.slice lb 0 u.ef.length)::ev lu 30 (uC u vv vb vs)::cs):=⟨_,rfl⟩
  refine AA I4 (λk4 d x3 x4 x5 x6 x7 x8 x9 M aA=>?_) (k:=B.ef.length) ?_;rotate_left
  ·rw[aj];exact⟨0,true,nW,G4,rfl,by omega,s1,P1,⟨λ_ m _ _ L=>by omega,λ_=>rfl⟩,H1⟩
  rw[aj]at aA;clear H1 P1 u1 s1 nW G4;obtain⟨j,fst,nW,G4,⟨⟩,be,s2,P2,ae,G⟩:=aA;unfold sr;have u2:=u9.since s2;obtain⟨l1,o1,bv,bn,bp,ab,d,_,iv,_,_,xb⟩:=u2.nW f;refine oF (G.ld 2 rfl rfl) (ed d (oF xb.ef (ed iv.len ?_)));by_cases hj:j<B.ef.length;rotate_left
  ·refine iI ?_;obtain rfl:j=B.ef.length:=by omega
   refine fN ⟨k-1,by omega,?_⟩;rw[K];exact⟨i+1,nW,G4,rfl,by omega,s2,P2.next f,G⟩
  refine gG ?_;have hv:=gP hj;generalize B.ef[j]=v at*;have q:At u v i j:=⟨B,f,hv⟩
  have ak:=g.mb v i j q;obtain⟨x,hx⟩:∃x,u.ef[v]? =some x:=⟨_,gP ak⟩
  obtain⟨l4,o4,ac,y1,y2⟩:=iv.nat hv .i64;obtain⟨l5,o5,w,aS,z1,z2,xw,_⟩:=u2.val hx;refine oF (G.ld 2 rfl rfl) (oF (G.ld 2 rfl rfl) (ed d (oF xb.ef (ed y1 (ed y2 (ed z1 (ed z2 ?_)))))));rw[hK];obtain⟨r,J⟩:=G.zf 46 [V.I 0,V.I 0,V.I 0,V.I 0,V.ee,V.I 0];have g3:(M.new (.cells 46 1 true false [V.I 0,V.I 0,V.I 0,V.I 0,V.ee,V.I 0])).get M.next=some (.cells 46 1 true false [V.I 0,V.I 0,V.I 0,V.I 0,V.ee,V.I 0]):=fi _ _;generalize M.new (.cells 46 1 true false [V.I 0,V.I 0,V.I 0,V.I 0,V.ee,V.I 0])=h3 at*;refine⟨⟨g3,O.gO _ _ _ _ _⟩,FI z2 (J.fk _ aS),iF y2 (J.fk _ ac),iF xb.ef (J.fk _ ab),r.ld 3 rfl rfl,r.ld 3 rfl rfl,?_⟩;obtain⟨h4,e4,n4,R,s4⟩:=r.XP 0 (ws:=mz x w) (n:=6) rfl rfl rfl (by simp only[mz,eQ,xw.one];rfl);rw[e4,ei];simp only[iY]at R;refine⟨n4,?_⟩;generalize M.next=ly at*;have aB:ez (.ptr l1 (o1+0)) h4=some bv:=iF (iF xb.ef (J.fk _ ab)) (s4.fk _ ab);have aC:ez (.ptr l4 o4) h4=some (.I v):=iF (iF y2 (J.fk _ ac)) (s4.fk _ ac);refine oF (R.ld 3 rfl rfl) (ed d (oF aB (ed y1 (ed aC ?_))));obtain⟨l6,o6,h5,e5,e6,n5,U,S⟩:=R.Ig 2 rfl (k:=v) (y:=i) (u:=V.I i) (by rw[P2.nb];exact ak) rfl rfl rfl;refine ed e5 ?_;rw[e6,ei];simp only[iY,lj]at U;have aT:ez (.ptr l1 (o1+0)) h5=some bv:=iF aB (S.fk _ ab);have aU:ez (.ptr l4 o4) h5=some (.I v):=iF aC (S.fk _ ac);refine oF (U.ld 3 rfl rfl) (ed d (oF aT (ed y1 (ed aU ?_))));obtain⟨l7,o7,h6,e7,e8,n6,p,C⟩:=U.Ig 1 rfl (k:=v) (y:=j) (u:=V.I j) (by rw[P2.np];exact ak) rfl rfl rfl;refine ed e7 ?_;rw[e8,ei];simp only[iY,lj]at p;have al:=((J.trans s4).trans S).trans C;have z0:ez (.ptr ly (0+0)) h6=some (.I x.op):=p.ld 0 rfl rfl;have z4:ez (.ptr ly (0+4)) h6=some w:=p.ld 0 rfl rfl;have w6:=xw.since al;have r6:=(r9.since s2).since al;obtain⟨lr,bf,pr,_,p1,p2,p3⟩:=r6.list (aa i hi) .i64;have aV:iH x.op=true->fst=true:=λhh=>ae.2 (SC g f q hx hh);refine oF z0 (ed (gQ ..) (ed (a:= .bool (iH x.op)) (by simp only[fj,eJ,z0,gQ,xQ,Vf]) (ed (a:= .bool false) ?_ (pw ?_ (pw ?_ (js (gi (by simp) ?_)))))))
  ·show jZ _ (some (V.bool (!fst)))=_;rw[jU]
   cases hh:iH x.op with
   |true=>rw[aV hh];rfl
   |false=>rfl
  ·simp only[fj,eJ,z0];by_cases c:x.op=21
   ·obtain⟨h0,hl⟩:=g.Ko v i j x B q hx c f;rw[MY (by omega)];simp only[fj,mq,z4,w6.len,p1,p2,p3.len];rw[VO (by rw[hl,g.fg i B f])];simp only[fj,mn];exact Lu (by omega)
   ·rw[Lu (by omega)];rfl
  ·simp only[fj,eJ,z0];by_cases c:x.op=1
   ·have h0:=g.par v i j x q hx c;rw[MY (by omega)];simp only[fj,mq];exact VO (by omega)
   ·rw[Lu (by omega)];rfl
  ·rw [jU];refine ed rfl (fN ⟨k4-1,by omega,?_⟩);rw[aj];refine⟨j+1,_,_,_,rfl,by omega,s2.trans al,P2.step g q,?_,p.tail⟩;rw[uZ,ae];constructor
   ·rintro⟨h1,M⟩ m w' y L Y hy;by_cases e:m=j
    ·subst e;rw[hv]at Y;cases Y;rw[hx]at hy;cases hy;exact M
    ·exact h1 m w' y (by omega) Y hy
   ·intro h1;exact⟨λm w' y L Y hy=>h1 m w' y (by omega) Y hy,h1 j v x (by omega) hv hx⟩
 refine iI ?_;obtain rfl:i=u.blocks.length:=by omega
 clear hk hi k K I;refine zO H1 λM G s2=>?_;generalize h1.next=lq at*;obtain⟨Tp,G⟩:∃T,en P M (ev lq T ((List.replicate 40 false).map V.bool)::eR eN ey G4 (.slice lp 0 u.ef.length)::eR eN ey nW (.slice lb 0 u.ef.length)::ev lu 30 (uC u vv vb vs)::cs):=⟨_,G⟩
 obtain ⟨I,K⟩:∃I:Nat->LP,I=λk l h'=>∃(i:Nat) (ps:List Bool),l=[.ptr lu 0,pv,.slice ln 0 u.blocks.length,.slice lb 0 u.ef.length,.slice lp 0 u.ef.length,.ptr lq 0,.I i]/\i+k=u.ef.length/\Sn P h9 P h'/\ps.length=40/\
   (∀m:Nat,ps[m]? =some true->∃(w:Nat) (y:Vl),w<i/\u.ef[w]? =some y/\y.op=1/\y.n=(m:Int))/\
   en P h' (ev lq Tp (ps.map V.bool)::eR eN ey G4 (.slice lp 0 u.ef.length)::eR eN ey nW (.slice lb 0 u.ef.length)::ev lu 30 (uC u vv vb vs)::cs):=⟨_,rfl⟩
 refine An I (λk d x3 x4 x8 x9 bg bh h3 hi=>?_) (k:=u.ef.length) ?_;rotate_left
 ·rw[K];refine⟨0,_,rfl,by omega,s1.trans s2,Pl,λm L=>?_,G⟩;rw[Wb]at L;split at L <;> cases L
 rw[K]at hi;clear G H1 u1 s1 s2;obtain⟨i,ps,⟨⟩,hk,J,aD,am,r⟩:=hi;unfold rF;have u3:=u9.since J;refine oF (r.ld 3 rfl rfl) (ed u3.v.len ?_);by_cases hi:i<u.ef.length
 ·refine gG ?_;have hx:=gP hi;generalize u.ef[i]=x at*;obtain⟨l1,o1,w,_,d,_,_,xl⟩:=u3.val hx
  have aE:∀{h8} {Zh:List Bool},Sn P h3 P h8->Zh.length=40->(∀m:Nat,Zh[m]? =some true->∃(w:Nat) (y:Vl),w<i+1/\u.ef[w]? =some y/\y.op=1/\y.n=(m:Int))->en P h8 (ev lq Tp (Zh.map V.bool)::eR eN ey G4 (.slice lp 0 u.ef.length)::eR eN ey nW (.slice lb 0 u.ef.length)::ev lu 30 (uC u vv vb vs)::cs)->
    ka CS Q (CE I k) [.ptr lu 0,pv,.slice ln 0 u.blocks.length,.slice lb 0 u.ef.length,.slice lp 0 u.ef.length,.ptr lq 0,.I i] h8:=λ{h8 Zh} s8 hl hp H8=>by
   refine zT ?_;unfold qq;refine fN ⟨k-1,by omega,?_⟩;rw[K];exact⟨i+1,Zh,rfl,by omega,J.trans s8,hl,hp,H8⟩
  have aF:∀m:Nat,ps[m]? =some true->∃(w:Nat) (y:Vl),w<i+1/\u.ef[w]? =some y/\y.op=1/\y.n=(m:Int):=λm L=>by
   obtain⟨w,y,h1,M⟩:=am m L;exact⟨w,y,by omega,M⟩
  refine oF (r.ld 3 rfl rfl) (ed d (oF xl.op (gj ?_)));by_cases c:x.op=1
  ·refine gw (by omega) ?_;obtain⟨n1,n2,n3⟩:=g.param i x hx c;obtain⟨m,L⟩:=Z5 n1;have aW:m<40:=by omega
   have xn:=xl.n;rw[L]at xn;have eq:=ZO (n:=1) (l:=lq) (o:=0) (kd:= .i64) aW;have an:=gP (show m<ps.length by omega);have aX:ps[m]? =some false:=by
    cases e:ps[m]with
    | true=>
      rw[e]at an;obtain⟨w',y,h1,M,h3,h4⟩:=am m an;have:=n3 w' y M h3 (by omega)
      omega
    |false=>rw[an,e]
   have aY:ez (.ptr lq (0+m*1)) h3=some (.bool false):=r.ld 0 rfl (by rw[yC,Nat.mul_one,zG,aX];rfl);refine oF (r.ld 3 rfl rfl) (ed d (oF xn (ed eq (ed aY (js (gi (by simp) ?_))))));refine oF (r.ld 3 rfl rfl) (ed d (oF xn (ed eq ?_)));obtain⟨h4,e4,_,R,s4⟩:=r.st 0 (o:=m) (u:=V.bool true) rfl (by rw[CD];omega) rfl;have aZ:gK 1 (.ptr lq (0+m*1)) (V.bool true) h3=some (.val .undef h4):=by rw[yC,Nat.mul_one];exact e4
   rw[aZ,ei];simp only[iY]at R;refine aE s4 (Zh:=ps.set m true) (by rw[Mi];exact aD) (λm' aG=>?_) (by rw[List.map_set];exact R);by_cases e:m' = m
   ·subst e;exact⟨i,x,by omega,hx,c,L⟩
   ·rw[C8 λh=>e h.symm]at aG;exact aF m' aG
  ·exact gi (by omega) (aE (Sn.refl _ _) aD aF r)
 refine iI ?_;clear hk hi k K I am i;obtain⟨R,s4,r4⟩:=r.tail.lO 0 rfl;simp only[iY]at R;obtain⟨U,S,r5⟩:=R.tail.lO 0 rfl;simp only[iY]at U;have ao:=s4.trans S;have A:=(aR.trans J).trans ao;refine Zf W U.tail ((aQ.since J).since ao) λbi h6 dv MQ C p r6 D=>?_;refine ed (p.wS 0 rfl rfl) ?_;have aH:=(r4.since S).since C;have aI:=r5.since C;refine ed (a:= .agg (TA u vv vb vs (.slice lb 0 u.ef.length) (.slice lp 0 u.ef.length) dv)) ?_ ?_
 ·rcases r6 with⟨rfl,_⟩|⟨_,_,_,_,_,_,rfl,_⟩ <;> rfl
 have u6:=Z.since (A.trans C);refine iG p rfl rfl (by simp only[TA,eQ,u6.v.one,u6.b.one,u6.s.one,aH.one,aI.one,r6.one];rfl) λh7 H7 s7=>?_;refine Zl g ⟨λv b k q=>?_,D⟩ H7 (u6.since s7) (aI.since s7) (aH.since s7) (r6.since s7) ((((r9.since J).since ao).since C).since s7) λF8 h8 s8 H8=>H F8 h8 (((A.trans C).trans s7).trans s8) H8;refine P1.yes v b k q (.inl ?_);obtain⟨B,f,_⟩:=q;exact(iR.1 f).1
end
