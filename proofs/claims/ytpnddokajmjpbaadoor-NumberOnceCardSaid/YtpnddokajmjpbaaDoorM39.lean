/- Parts. -/
import Derived.Test.YtpnddokajmjpbaaDoorM38
import Derived.Test.YtpnddokajmjpbaaDoorM30
namespace Go.Proofs.YtpnddokajmjpbaaDoor.Hx
open Go.Proofs.YtpnddokajmjpbaaDoor.Un Go.Proofs.YtpnddokajmjpbaaDoor.Dm
theorem NZ{w:Bool}{X:Option V}{K:V->Prop}(h:K .undef):oP (fO w .undef) λb=>oP (gV b X) K:=by cases w <;> exact h
theorem zbB{w:Bool}{C:fu}{f:Nat}{a:List V}{h:Hp}{K:fx}(H:K .undef h):oP (fO w .undef) λb=>oP (gC b (some (f,a))) λy=>wR C y h K:=by cases w <;> exact H
theorem OG{t:Nat}{k:IntKind}{a b:Int}(h:¬b<a):er .gtr t (.int k a) (.int k b)=some (.bool false):=by rw[pU,K3 h]
theorem YF{t:Nat}{k:IntKind}{a b:Int}(h:¬a<b):er .lss t (.int k a) (.int k b)=some (.bool false):=by rw[om,K3 h]
theorem TB{t:Nat}{k:IntKind}{a b:Int}(h:a=b):er .neq t (.int k a) (.int k b)=some (.bool false):=by rw[tX,h];simp
theorem K7{t:Nat}{k:IntKind}{a b:Int}(h:a=b):er .eql t (.int k a) (.int k b)=some (.bool true):=by rw[iA,h];simp
theorem Kg{t:Nat}{k:IntKind}{a b:Int}(h:a≠b):er .eql t (.int k a) (.int k b)=some (.bool false):=by rw[iA];simp[h]
theorem yG{X:Option V}{K:V->Prop}(a:X=some (.bool false))(H:K (.bool false)):oP (pN (.bool false) X) K:=by rw[nq,a];exact H
section
variable{F F':Nat->Prop}{h h':Hp}{cs:List Pc}{Q:fx}{u:U}{vv vb vs:V}
theorem Zg {u:U}(g:Good u)(b:Nat):(pre u b).length<=u.ee.length:=jy _ _ (DV g b) λv hv=>by
 obtain⟨c,k,a,_⟩:=GN.1 hv;exact g.l0 _ _ _ a
theorem Ub (g:Good u)(H0:ei F h cs)(hu:zf F h u vv vb vs)(H:∀F' h',Sn F h F' h'->ei F' h' cs->Q (.bool true) h'):cP CS lB [.agg (uC u vv vb vs)] h Q:=by
 refine Cd rfl rfl ?_;unfold uP;have nv:=g.nv;have nb:=g.nb;have Ju:=g.Ju;have ns:=g.ns;have J:∀{l o k:Nat},fH k (.ptr l o)=some (.ptr l (o+k)):=ez _ _ _;refine mf H0 hu.one λA C L=>?_;generalize h.next=lu at*;have G:=hu.since L;have k3:ev (.ptr lu (0+3)) A=some vb:=C.ld 0 rfl rfl;have O:ev (.ptr lu (0+4)) A=some vs:=C.ld 0 rfl rfl;refine oF (C.ld 0 rfl rfl) (ed G.v.len (ed (OG (by omega)) ?_));refine yG (by simp only[fh,ez,k3,G.b.len];exact OG (by omega)) ?_;refine yG (by simp only[fh,ez,k3,G.b.len];exact YF (by omega)) ?_;refine yG (by simp only[fh,ez,O,G.s.len];exact OG (by omega)) (jH (gG (by simp) ?_));clear k3 O;refine zu (λk l h'=>∃(F':Nat->Prop) (i:Nat),l=[.ptr lu 0,.int .i64 i]/\i+k=u.eh.length/\Sn F h F' h'/\ei F' h' (eo lu 30 (uC u vv vb vs)::cs)) ?_ (k:=u.eh.length) ⟨F,0,rfl,by omega,L,C⟩;clear C G L A;rintro k _ _ A ⟨U,i,⟨⟩,hk,L,C⟩;unfold rm;have G:=hu.since L;have W:ev (.ptr lu (0+2)) A=some vv:=C.ld 0 rfl rfl;have O:ev (.ptr lu (0+4)) A=some vs:=C.ld 0 rfl rfl;refine oF O (ed G.s.len ?_);by_cases hi:i<u.eh.length
 ·refine gw ?_;have aj:=gQ hi;generalize u.eh[i]=fs at*;obtain⟨q1,q2,q3⟩:=g.st i fs aj;obtain⟨l1,o1,f,_,X,x2,x3,xf⟩:=G.st aj;have x3:ev (.ptr l1 (o1+0)) A=some f:=x3;refine oF O (ed X (oF x3 (ed xf.len (ed (YF (by omega)) ?_))));refine yG (by simp only[fh,ez,O,X,x3,xf.len];exact OG (by omega)) (jH (gG (by simp) ?_));refine zG (λk l h'=>∃j:Nat,l=[.ptr lu 0,.int .i64 i,.int .i64 (j:Nat)]/\j+k=fs.length/\h' = A) ?_ (k:=fs.length) ⟨0,rfl,by omega,rfl⟩;rintro k1 _ _ _ _ ⟨j,⟨⟩,bQ,rfl⟩;unfold qw;refine oF O (ed X (oF x3 (ed xf.len ?_)));by_cases hj:j<fs.length
  ·refine gw ?_;have hf:=gQ hj;obtain⟨r1,r2,_⟩:=q3 _ (AO hj);generalize fs[j]=x at*;obtain⟨l2,o2,a,b,_,P,R,y3,ya,yb⟩:=xf.zat hf;refine oF O (ed X (oF x3 (ed P (oF R (ed ya.len (ed (OG (by omega)) ?_))))));refine yG (by simp only[fh,ez,O,X,x3,P,y3,yb.len];exact OG (by omega)) (jH (gG (by simp) ?_));exact fM ⟨k1-1,by omega,j+1,rfl,by omega,rfl⟩
  ·refine iC ?_;refine oF O (ed X (ed x2 ?_));refine Mk C xf (BG g i fs aj) λF2 d fv S p r2=>?_;have bR:=B2 (fs:=fs) (BG g i fs aj).2;have al:=L.trans S;have u2:=G.since S;have W:ev (.ptr lu (0+2)) d=some vv:=p.ld 0 rfl rfl;refine ze (λk l h'=>∃j:Nat,l=[.ptr lu 0,.int .i64 i,fv,.int .i64 (j:Nat)]/\j+k=(ie fs).length/\h' = d) ?_ (k:=(ie fs).length) ⟨0,rfl,by omega,rfl⟩;rintro Y _ _ _ _ _ ⟨j,⟨⟩,aD,rfl⟩;unfold qn;refine ed r2.len ?_;by_cases hj:j<(ie fs).length
   ·refine gw ?_;have hx:=gQ hj;obtain⟨x,M,Z⟩:tI u (ie fs)[j]:=by
     have:=AO hj;unfold ie at this;obtain⟨f,hf,hm⟩:=Pp.1 this;obtain⟨_,_,t1,t2⟩:=q3 f hf;exact(xX.1 hm).elim (t1 _) (t2 _)
    generalize (ie fs)[j]=w at*;have am:=(iB.1 M).1;obtain⟨l3,o3,_,P,R⟩:=r2.nat hx .i64;obtain⟨l4,o4,_,_,z1,_,_,z2⟩:=u2.val M;refine ed P (ed R (oF W (ed u2.v.len (Ij am ⟨iW _,?_⟩))));refine ed rfl (fK (ed J (fK (ed W (fK (ed rfl (fK (ed rfl (fK (ed P (fK (ed R (fK (ed z1 (fK (ed J (fK (ed z2.op (xi (Qa ?_))))))))))))))))))));rw[Z];refine⟨iW _,ed rfl (jH (gG (by simp) ?_))⟩;exact fM ⟨Y-1,by omega,j+1,rfl,by omega,rfl⟩
   ·refine iC ?_;exact fM ⟨k-1,by omega,F2,i+1,rfl,by omega,al,p⟩
 refine iC ?_;clear hk hi k i W O;refine zJ (λk l h'=>∃(F':Nat->Prop) (i:Nat),l=[.ptr lu 0,.int .i64 i]/\i+k=u.ee.length/\Sn F h F' h'/\ei F' h' (eo lu 30 (uC u vv vb vs)::cs)) ?_ (k:=u.ee.length) ⟨U,0,rfl,by omega,L,C⟩;clear C G L A U;rintro k _ _ A ⟨U,i,⟨⟩,hk,L,C⟩;unfold qk;have G:=hu.since L;refine oF (C.ld 0 rfl rfl) (ed G.v.len ?_);by_cases hi:i<u.ee.length
 ·refine gw ?_;have hx:=gQ hi;generalize u.ee[i]=x at*;obtain⟨l1,o1,w,_,X,x2,xw,_⟩:=G.val hx;refine oF (C.ld 0 rfl rfl) (ed X (ed x2 ?_));refine iK C rfl rfl (by simp only[ll,eJ,xw.one];rfl) λd p S=>?_;generalize A.next=lx at*;have u2:=G.since S;have w2:=xw.since S;have z0:ev (.ptr lx (0+0)) d=some (.int .i64 x.op):=p.ld 0 rfl rfl;have z3:ev (.ptr lx (0+3)) d=some (.int .i64 x.n):=p.ld 0 rfl rfl;have z4:ev (.ptr lx (0+4)) d=some w:=p.ld 0 rfl rfl;have z5:ev (.ptr lx (0+5)) d=some (.int .i64 x.state):=p.ld 0 rfl rfl;have O:ev (.ptr lu (0+4)) d=some vs:=p.ld 1 rfl rfl;obtain⟨bS,bU⟩:=g.op i x hx;refine oF z0 (ed (YF (by omega)) ?_);refine yG (by simp only[fh,ez,z0];exact OG (by omega)) ?_;refine yG ?_ ?_
  ·simp only[fh,ez,z0];by_cases c:x.op=20
   ·rw[K7 (by omega)];simp only[fh,vD,z4,w2.len];exact TB (by rw[g.putAt i x hx c];rfl)
   ·rw[Kg (by omega)];rfl
  refine fK (ed J (fK (ed z0 ?_)));have kA:oP (pN (.bool false) (oB (fH 0 (V.ptr lx 0)) λaE=>oB (ev aE d) λaF=>oB (er .eql 3 aF (V.int .i64 1)) λaG=>oB (some aG) λaH=>jK aH (oB (fH 3 (V.ptr lx 0)) λaI=>oB (ev aI d) λaJ=>er .gtr 2 aJ (V.int .i64 1073741824)))) λv=>v = .bool false:=by
   refine yG ?_ rfl;simp only[fh,ez,z0];by_cases c:x.op=1
   ·rw[K7 (by omega)];simp only[fh,vD,z3];obtain⟨n1,n2,_⟩:=g.param i x hx c;exact OG (by omega)
   ·rw[Kg (by omega)];rfl
  obtain⟨vA,eA,rfl⟩:=jC.1 kA
  have ak:∀K:fx,K (.bool false) d->oP (fO false (V.bool false)) λan=>oP (gV an (fH 0 (V.ptr lx 0))) λaK=>oP (fO false (V.bool false)) λbc=>oP (gV bc (ev aK d)) λaL=>oP (fO false (V.bool false)) λbd=>oP (gV bd (er .eql 3 aL (V.int .i64 22))) λaM=>
    oP (fO false (V.bool false)) λbe=>oP (gV be (some aM)) λT=>oP (fO false T) λbf=>oP (gV bf (fH 0 (V.ptr lx 0))) λaN=>oP (fO false T) λbg=>oP (gV bg (ev aN d)) λaO=>oP (fO false T) λbh=>oP (gV bh (er .eql 3 aO (V.int .i64 23))) λaP=>
    oP (fO false (V.bool false)) λbi=>oP (gV bi (lJ T (V.bool true) aP)) λaQ=>oP (fO false (V.bool false)) λbj=>oP (gV bj (some aQ)) λq=>oP (fO true q) λao=>oP (gV ao (fH 5 (V.ptr lx 0))) λaa=>oP (fO true q) λap=>oP (gV ap (ev aa d)) λab=>
    oP (fO true q) λaq=>oP (gV aq (fH 4 (V.ptr lu 0))) λac=>oP (fO true q) λar=>oP (gV ar (ev ac d)) λae=>oP (fO true q) λau=>oP (gV au (fD ae)) λag=>oP (fO true q) λaw=>oP (gC aw (some (gi,[ab,ag]))) λax=>wR CS ax d λah h4=>
    oP (fO true q) λay=>oP (gV ay (sr .not ah)) λai=>oP (pN (V.bool false) (lJ q ai (V.bool false))) λD=>K D h4:=λK HK=>by
   refine fK (ed J (fK (ed z0 (fK (ed (iA ..) (fK (ed rfl ?_)))))))
   have fin:∀c:Bool,c=leaves x.op->oP (fO true (V.bool c)) λao=>oP (gV ao (fH 5 (V.ptr lx 0))) λaa=>oP (fO true (V.bool c)) λap=>oP (gV ap (ev aa d)) λab=>
     oP (fO true (V.bool c)) λaq=>oP (gV aq (fH 4 (V.ptr lu 0))) λac=>oP (fO true (V.bool c)) λar=>oP (gV ar (ev ac d)) λae=>oP (fO true (V.bool c)) λau=>oP (gV au (fD ae)) λag=>oP (fO true (V.bool c)) λaw=>oP (gC aw (some (gi,[ab,ag]))) λax=>wR CS ax d λah h4=>
     oP (fO true (V.bool c)) λay=>oP (gV ay (sr .not ah)) λai=>oP (pN (V.bool false) (lJ (V.bool c) ai (V.bool false))) λD=>K D h4:=λc hc=>by
    cases c with
    |true=>exact fY (ed J (fY (ed z5 (fY (ed J (fY (ed O (fY (ed u2.s.len (zR (Ij (g.leave i x hx hc.symm) (fY (ed rfl (ed rfl HK))))))))))))))
    |false=>exact gz (gz (gz (gz (gz (Cr (gz (ed rfl HK)))))))
   by_cases c:x.op=22
   ·rw[show((x.op:Int) == 22)=true by simp[c]];exact TO (TO (TO (fK (ed rfl (fK (ed rfl (fin true (by rw[c];rfl))))))))
   ·rw[show((x.op:Int) == 22)=false by rw[Tw];omega];refine fK (ed J (fK (ed z0 (fK (ed (iA ..) (fK (ed rfl (fK (ed rfl (fin _ ?_))))))))));rw[show((x.op:Int) == 23)=(x.op == 23) from Tv _ 23];unfold leaves;rw[show(x.op == 22)=false by rw[Tw];exact c];rfl
  have tl:jO CS Q [V.ptr lu 0,.int .i64 ((i+1:Nat):Int)] d=jO CS Q [V.ptr lu 0,.int .i64 ((i+1:Nat):Int)] d:=rfl;clear tl;have last:oP (gg 6 (V.ptr lx 0) d) λaR=>cP CS iu [aR] d λaS h5=>mc CS Q (Cs (λk l h'=>∃(F':Nat->Prop) (i:Nat),l=[.ptr lu 0,.int .i64 i]/\i+k=u.ee.length/\Sn F h F' h'/\ei F' h' (eo lu 30 (uC u vv vb vs)::cs)) k) [.ptr lu 0,.int .i64 i,aS,(V.int .i64 0)] h5:=by
   refine ed (p.wH 0 rfl rfl) ?_;refine B7 p w2 λF3 h3 uv s3 H3 r3=>?_;have u3:=u2.since s3;have W:ev (.ptr lu (0+2)) h3=some vv:=H3.ld 1 rfl rfl;have bV:=GM λh=>Mf g hx h;refine zx (λk l h'=>∃j:Nat,l=[.ptr lu 0,.int .i64 i,uv,.int .i64 (j:Nat)]/\j+k=(gJ x).length/\h' = h3) ?_ (k:=(gJ x).length) ⟨0,rfl,by omega,rfl⟩;rintro Y _ _ _ _ _ ⟨j,⟨⟩,aD,rfl⟩;unfold rj;refine ed r3.len ?_;by_cases hj:j<(gJ x).length
   ·refine gw ?_;have hw:=gQ hj;obtain⟨y,M,Z⟩:tI u (gJ x)[j]:=g.use i x hx _ (AO hj);generalize (gJ x)[j]=w at*;have am:=(iB.1 M).1;obtain⟨l3,o3,_,P,R⟩:=r3.nat hw .i64;obtain⟨l4,o4,_,_,z1,_,_,z2⟩:=u3.val M;refine ed P (ed R (oF W (ed u3.v.len (Ij am ⟨iW _,?_⟩))));refine ed rfl (fK (ed J (fK (ed W (fK (ed rfl (fK (ed rfl (fK (ed P (fK (ed R (fK (ed z1 (fK (ed J (fK (ed z2.op (xi (Qa ?_))))))))))))))))))));rw[Z];refine⟨iW _,ed rfl (jH (gG (by simp) ?_))⟩;exact fM ⟨Y-1,by omega,j+1,rfl,by omega,rfl⟩
   ·refine iC ?_;exact fM ⟨k-1,by omega,F3,i+1,rfl,by omega,(L.trans S).trans s3,H3.tail⟩
  by_cases c1:x.op=1
  ·obtain⟨n1,n2,_⟩:=g.param i x hx c1;obtain⟨m,hm⟩:=Int.eq_ofNat_of_zero_le n1;rw[hm]at z3;refine fK (ed (K7 (by omega)) (fK (ed rfl (fY (ed J (fY (ed z3 (zR (Ij (n:=40) (by omega) (fY (ed rfl (ed rfl (ed eA ?_)))))))))))));exact ak (λD h4=>bP D _ _) (jH (gG (by simp) last))
  ·refine fK (ed (Kg (by omega)) (fK (ed rfl (gz (gz (Cr (gz (ed rfl (ed eA ?_)))))))));exact ak (λD h4=>bP D _ _) (jH (gG (by simp) last))
 refine iC ?_;clear hk hi k i;refine oF (C.ld 0 rfl rfl) (ed G.v.len ?_);rw[jk (z:=V.bool false) rfl (by decide) (by omega),fq];obtain⟨p,S⟩:=C.make (E:=eB) (ty:=jf) (y:=false) (u:=V.bool false) u.ee.length rfl rfl;generalize A.new (.cells jf 1 true false (List.replicate u.ee.length (V.bool false)))=d at*;generalize A.next=lk at*;obtain⟨I,hI⟩:∃I:Nat->LP,I=λ(k:Nat) l h'=>∃(i:Nat) (seen:List Bool),l=[.ptr lu 0,.slice lk 0 u.ee.length,.int .i64 ((pre u i).length:Nat),.int .i64 i]/\i+k=u.blocks.length/\Sn F h U h'/\seen.length=u.ee.length/\(∀v:Nat,seen[v]? =some true↔v∈pre u i)/\ei U h' (eQ eB jf seen (.slice lk 0 u.ee.length)::eo lu 30 (uC u vv vb vs)::cs):=⟨_,rfl⟩
 refine zb I (λk X x2 x3 x4 h6 hi=>?_) (k:=u.blocks.length) ?_;rotate_left
 ·rw[hI];refine⟨0,_,rfl,by omega,L.trans S,Nt,λv=>?_,p⟩;constructor
  ·intro h;rw[VX]at h;split at h <;> cases h
  ·intro h;simp[pre]at h
 clear p S C G L d;clear A;revert h6 hi;intro A hi;rw[hI]at hi;obtain⟨i,seen,⟨⟩,hk,L,bm,bo,C⟩:=hi;unfold rh;have G:=hu.since L;have bW:=Zg g i;refine oF (C.ld 1 rfl rfl) (ed G.b.len ?_);by_cases hi:i<u.blocks.length;rotate_left
 ·refine iC ?_;obtain rfl:i=u.blocks.length:=by omega
  rw[Ja g];exact oF (C.ld 1 rfl rfl) (ed G.v.len (ed (K7 rfl) (H U A L C.tail.tail)))
 refine gw ?_;have hB:=gQ hi;generalize u.blocks[i]=B at*;obtain⟨l1,o1,bv,bn,bp,_,X,x2,iv,iN,ip,_⟩:=G.mS hB;refine oF (C.ld 1 rfl rfl) (ed X (ed x2 ?_));refine iK C rfl rfl (by simp only[kM,eJ,iv.one,iN.one,ip.one];rfl) λd p S=>?_;generalize A.next=lx at*;have p:ei U d (eo lx 44 (kM B bv bn bp)::_):=p;have u2:=G.since S;have al:=L.trans S;have bq:=iv.since S;have aT:=iN.since S
 have aA:∀n:Nat,B.next.length=n->iV CS Q (Cs I k)
   [.ptr lu 0,.slice lk 0 u.ee.length,.int .i64 ((pre u i).length:Nat),.int .i64 i,.ptr lx 0,.int .i64 (n:Nat)] d:=λn hn=>by
  refine yE ?_;unfold o0;have z1:ev (.ptr lx (0+1)) d=some (.int .i64 B.fin):=p.ld 0 rfl rfl;have z2:ev (.ptr lx (0+2)) d=some (.int .i64 B.cond):=p.ld 0 rfl rfl;have z5:ev (.ptr lx (0+5)) d=some (.int .i64 B.state):=p.ld 0 rfl rfl;have W:ev (.ptr lu (0+2)) d=some vv:=p.ld 2 rfl rfl;have O:ev (.ptr lu (0+4)) d=some vs:=p.ld 2 rfl rfl;have last:lZ CS Q (Cs I k) [.ptr lu 0,.slice lk 0 u.ee.length,.int .i64 ((pre u i).length:Nat),.int .i64 i,.ptr lx 0,.int .i64 n,.int .i64 0] d:=by
   refine zq (λk l h'=>∃j:Nat,l=[.ptr lu 0,.slice lk 0 u.ee.length,.int .i64 ((pre u i).length:Nat),.int .i64 i,.ptr lx 0,.int .i64 n,.int .i64 (j:Nat)]/\j+k=n/\h' = d) ?_ (k:=n) ⟨0,rfl,by omega,rfl⟩;rintro Y _ _ _ _ _ _ _ d ⟨j,⟨⟩,aD,rfl⟩;unfold qa;by_cases hj:j<n
   ·refine gw ?_;have ht:=gQ (show j<B.next.length by omega);have br:B.next[j]<u.blocks.length:=g.nx i _ (by unfold next;rw[hB];exact AO (show j<B.next.length by omega));generalize B.next[j]=t at*;obtain⟨l3,o3,_,P,R⟩:=aT.nat ht .i64;refine oF (p.ld 0 rfl rfl) (ed P (ed R (oF (p.ld 2 rfl rfl) (ed u2.b.len (Ij br ⟨iW _,?_⟩)))));refine pj (ig rfl ?_);exact j7 (m:=1) (by have:=Em g hB;omega) (by omega) ⟨Y-1,by omega,j+1,rfl,by omega,rfl⟩
   refine iC ?_;clear z1 z2 z5 W O
   refine zm (λk l h'=>∃(j:Nat) (seen:List Bool),l=[.ptr lu 0,.slice lk 0 u.ee.length,.int .i64 ((pre u i).length+j:Nat),.int .i64 i,.ptr lx 0,.int .i64 j]/\j+k=B.ee.length/\Sn F h U h'/\Sn U d U h'/\seen.length=u.ee.length/\(∀v:Nat,seen[v]? =some true↔v∈pre u i++B.ee.take j)/\ei U h' (eo lx 44 (kM B bv bn bp)::eQ eB jf seen (.slice lk 0 u.ee.length)::eo lu 30 (uC u vv vb vs)::cs)) ?_ (k:=B.ee.length)
    ⟨0,seen,rfl,by omega,al,Sn.refl _ _,bm,λv=>by rw[bo v,YI,Co],p⟩
   rintro k3 _ _ _ _ _ _ h3 ⟨j,sn,⟨⟩,bX,s3,aU,aV,aB,H3⟩;unfold qz;have aW:=bq.since aU;have u3:=hu.since s3;have bY:=Bj g hB;refine oF (H3.ld 0 rfl rfl) (ed aW.len ?_);by_cases hj:j<B.ee.length
   ·refine gw ?_;have hv:=gQ hj;have bt:=Nw hj;generalize B.ee[j]=v at*;have aC:At u v i j:=⟨B,hB,hv⟩
    have bu:=g.l0 v i j aC;obtain⟨l3,o3,_,P,R⟩:=aW.nat hv .i64;have aX:v ∉ pre u i++B.ee.take j:=λhm=>by
     rcases xX.1 hm with A|A
     ·obtain⟨c,m,d,h3⟩:=GN.1 A;have:=(g.EI _ _ _ _ _ d aC).1;omega
     ·obtain⟨m,hm⟩:=mA.1 A;rw[List.getElem?_take]at hm;split at hm
      ·have:=(g.EI _ _ _ _ _ ⟨B,hB,hm⟩ aC).2;omega
      ·cases hm
    have bw:sn[v]? =some false:=by
     have A:=gQ (show v<sn.length by omega);have d:=aB v
     cases e:sn[v]with
     |true=>rw[A,e]at d;exact absurd (d.1 rfl) aX
     |false=>rw[A,e]
    obtain⟨l4,o4,w1,w2⟩:=H3.ID 1 rfl bw .i64;have z0:ev (.ptr lx (0+0)) h3=some bv:=H3.ld 0 rfl rfl;refine oF z0 (ed P (ed R (oF (H3.ld 2 rfl rfl) (ed u3.v.len (Ij bu ⟨iW _,?_⟩)))));refine ed rfl (yG (by simp only[fh,ez,z0,P,R,w1,w2]) (jH (gG (by simp) ?_)));obtain⟨l5,o5,h4,e1,e2,_,H4,s4⟩:=H3.G7 1 rfl (k:=v) (y:=true) (u:=V.bool true) (by omega) rfl rfl rfl;refine oF z0 (ed P (ed R (ed e1 ?_)));rw[e2,ef];simp only[iO,kZ]at H4;refine fM (fM ⟨k3-1,by omega,j+1,_,rfl,by omega,s3.trans s4,aU.trans s4,by rw[Nu];exact aV,λx=>?_,H4⟩);rw[bt,<-Cy,xX,<-aB x,EB];by_cases e:x=v
    ·subst e;rw[Ct (by omega)];exact⟨λ_=> .inr rfl,λ_=>rfl⟩
    ·rw[AR λh=>e h.symm];exact⟨.inl,λh=>h.elim id λh=>absurd h e⟩
   ·refine iC ?_;obtain rfl:j=B.ee.length:=by omega
    refine fM ⟨k-1,by omega,?_⟩;rw[hI];refine⟨i+1,sn,?_,by omega,s3,aV,λv=>?_,H3.tail⟩
    ·rw[CP hB,zL]
    ·rw[aB v,IT,CP hB]
  have c3:∀K:fx,K (.bool false) d->oP (fO false (V.bool false)) λbx=>oP (gV bx (fH 1 (V.ptr lx 0))) λaY=>oP (fO false (V.bool false)) λbz=>oP (gV bz (ev aY d)) λaZ=>oP (fO false (V.bool false)) λbA=>oP (gV bA (er .eql 3 aZ (V.int .i64 3))) λa4=>oP (fO false (V.bool false)) λbC=>oP (gV bC (some a4)) λr=>
    oP (fO true r) λbD=>oP (gV bD (fH 5 (V.ptr lx 0))) λa5=>oP (fO true r) λbE=>oP (gV bE (ev a5 d)) λa6=>oP (fO true r) λbG=>oP (gV bG (fH 4 (V.ptr lu 0))) λa7=>oP (fO true r) λbH=>oP (gV bH (ev a7 d)) λa8=>oP (fO true r) λbI=>oP (gV bI (fD a8)) λa9=>
    oP (fO true r) λbJ=>oP (gC bJ (some (gi,[a6,a9]))) λbK=>wR CS bK d λba h3=>oP (fO true r) λan=>oP (gV an (sr .not ba)) λbb=>oP (pN (V.bool false) (lJ r bb (V.bool false))) λN=>K N h3:=λK HK=>by
   refine fK (ed J (fK (ed z1 ?_)));by_cases c:B.fin=3
   ·refine fK (ed (K7 (by omega)) (fK (ed rfl ?_)));have hs:B.state<u.eh.length:=by
     rcases g.fin i B hB with⟨e,_⟩|⟨e,_⟩|⟨_,_,e⟩
     ·omega
     ·omega
     ·exact e
    exact fY (ed J (fY (ed z5 (fY (ed J (fY (ed O (fY (ed u2.s.len (zR (Ij hs (fY (ed rfl (ed rfl HK))))))))))))))
   ·exact fK (ed (Kg (by omega)) (fK (ed rfl (gz (gz (gz (gz (gz (Cr (gz (ed rfl HK)))))))))))
  refine oF (p.ld 0 rfl rfl) (ed aT.len (ed (TB (by omega)) (fK (ed J (fK (ed z1 ?_))))));by_cases c:B.fin=2
  ·obtain ⟨y,M,Z⟩:tI u B.cond:=by
    rcases g.fin i B hB with⟨e,_⟩|⟨_,_,e⟩|⟨e,_⟩
    ·omega
    ·exact e
    ·omega
   have bL:=(iB.1 M).1;obtain⟨l4,o4,_,_,P,_,_,R⟩:=u2.val M;refine fK (ed (K7 (by omega)) (fK (ed rfl ?_)));refine fY (ed J (fY (ed z2 (fY (ed J (fY (ed W (fY (ed u2.v.len (zR (Ij bL ?_)))))))))));refine fY (ed rfl (fY (ed rfl ?_)));refine fK (ed J (fK (ed W (fK (ed J (fK (ed z2 (fK (ed P (fK (ed J (fK (ed R.op (xi (Qa ?_)))))))))))))));rw[Z];refine fK (ed rfl (fY (ed rfl (ed rfl ?_))));exact c3 (λN h3=>bP N _ _) (jH (gG (by simp) last))
  ·refine fK (ed (Kg (by omega)) (fK (ed rfl ?_)));refine gz (gz (gz (gz (gz (Cr (gz (gz ?_)))))));refine NZ (NZ (NZ (NZ (NZ (NZ (NZ (zbB (NZ (gz (ed rfl ?_))))))))));exact c3 (λN h3=>bP N _ _) (jH (gG (by simp) last))
 have z1:ev (.ptr lx (0+1)) d=some (.int .i64 B.fin):=p.ld 0 rfl rfl;refine oF z1 (gO ?_);rcases g.fin i B hB with⟨f1,f2⟩|⟨f1,f2,_⟩|⟨f1,f2,_⟩
 ·exact ig (by omega) (aA 1 f2)
 ·exact gG (by omega) (gO (ig (by omega) (aA 2 f2)))
 ·exact gG (by omega) (gO (gG (by omega) (gO (ig (by omega) (aA 0 (by rw[f2];rfl))))))
end
open Go.Proofs.YtpnddokajmjpbaaDoor.Un Go.Proofs.YtpnddokajmjpbaaDoor.Dm
section
variable{F F':Nat->Prop}{h h':Hp}{cs:List Pc}{Q:fx}{u:U}{vv vb vs:V}
theorem TY (g:Good u){w b:Nat}(h:ye u w b):∃c j,At u w c j/\(c=b/\j<1073741824\/c≠b/\mg (next u) c b):=by
 obtain⟨c,j,a,d⟩:=h;refine⟨c,j,a,?_⟩;by_cases e:c=b
 ·obtain⟨B,f,i⟩:=a;have:=Bj g f;have:=(iB.1 i).1;exact .inl ⟨e,by omega⟩
 ·exact .inr ⟨e,d⟩
structure XK (u:U) (i j:Nat) (mS EL:List Nat):Prop where
 nb:mS.length=u.ee.length
 np:EL.length=u.ee.length
 yes:∀(v c m:Nat),At u v c m->(c<i\/(c=i/\m<j))->mS[v]? =some c/\EL[v]? =some m
theorem XK.step (g:Good u){i j v:Nat}{mS EL:List Nat}(S:XK u i j mS EL)(hv:At u v i j):XK u i (j+1) (mS.set v i) (EL.set v j):=by
 have a:=g.l0 _ _ _ hv;refine⟨by rw[Nu];exact S.nb,by rw[Nu];exact S.np,λw c m d hc=>?_⟩;by_cases e:w=v
 ·subst e;obtain⟨rfl,rfl⟩:=g.EI _ _ _ _ _ d hv;rw[Ct (by rw[S.nb];exact a),Ct (by rw[S.np];exact a)];exact⟨rfl,rfl⟩
 ·rw [AR λh=>e h.symm,AR λh=>e h.symm];refine S.yes w c m d ?_;rcases hc with hc|⟨rfl,hc⟩
  ·exact .inl hc
  ·refine .inr ⟨rfl,?_⟩;by_cases k:m=j
   ·subst k;obtain⟨B,l,n⟩:=d;obtain⟨o,b,f⟩:=hv;rw[l]at b;cases b;rw[n]at f;cases f;exact absurd rfl e
   ·omega
theorem XK.next {i:Nat}{B:Bk}{mS EL:List Nat}(b:u.blocks[i]? =some B)(S:XK u i B.ee.length mS EL):XK u (i+1) 0 mS EL:=by
 refine⟨S.nb,S.np,λv c m hv hc=>S.yes v c m hv ?_⟩;rcases hc with hc|⟨_,hc⟩
 ·by_cases e:c=i
  ·subst e;obtain⟨f,a,d⟩:=hv;rw[b]at a;cases a;exact .inr ⟨rfl,(iB.1 d).1⟩
  ·exact .inl (by omega)
 ·omega
theorem O4 (g:Good u){Tz:List (List Nat)}(c:Tz.length=u.blocks.length)(d:∀b:Nat,b<u.blocks.length->Tz[b]? =some (Un.next u b)):Nxs u.blocks.length (Un.next u) Tz:=by
 refine⟨g.Ju,g.nb,c,d,λb hb=>?_,λb _ t ht=>g.nx b t ht⟩;have a:=gQ hb;have:Un.next u b=u.blocks[b].next:=by unfold Un.next;rw[a]
 rw[this];exact Em g a
theorem Qv (g:Good u){b k v:Nat}{x:Vl}{B:Bk}(c:u.blocks[b]? =some B)(a:At u v b k)(hx:u.ee[v]? =some x)(d:iG x.op=true):∀(j w:Nat)(y:Vl),j<k->B.ee[j]? =some w->u.ee[w]? =some y->iG y.op=true:=
 λj w y h e f=>Mn g a hx d ⟨B,c,e⟩ f (by omega)
theorem Vs:(eL eN).rel F h [] [.ec]:=⟨.ec,rfl,.nil⟩
theorem WL {len n l o m:Nat}{kd:IntKind}(a:m<len):Ys len n (.ptr l o) (.int kd (m:Nat))=some (.ptr l (o+m*n)):=by
 show bB (Nat.blt m len) _=_;rw[jm _ (by rw[LS];exact a)];rfl
theorem Tf (op:Nat):(((op:Int) == 21) ||((op:Int) == 1))=iG op:=by
 unfold iG;rw[show((op:Int) == 21)=(op == 21) from Tv _ 21,show((op:Int) == 1)=(op == 1) from Tv _ 1,Bool.or_comm]
theorem Wn {mS EL:List Nat}{Ir:List (List Bool)}{wb wp wd pv:V}{lu lo To:Nat}(g:Good u)(o:YJ u mS EL Ir)(H0:ei F h (eo lo To (Rz u vv vb vs wb wp wd)::eo lu 30 (uC u vv vb vs)::cs))(hu:zf F h u vv vb vs)
  (hb:ik eN F h mS wb) (Z:ik eN F h EL wp) (hd:ik (eL eB) F h Ir wd) (r:ik (eL eN) F h ((List.range u.blocks.length).map (Un.ahead u)) pv) (H:∀F' h',Sn F h F' h'->ei F' h' cs->Q (.bool true) h') :
  ma CS Q [.ptr lu 0,pv,.ptr lo 0,.int .i64 0] h:=by
 have nv:=g.nv;have nb:=g.nb;have pf:∀{l o k:Nat},fH k (.ptr l o)=some (.ptr l (o+k)):=ez _ _ _;have ak:∀b:Nat,b<u.blocks.length->((List.range u.blocks.length).map (Un.ahead u))[b]? =some (Un.ahead u b):=λb hb=>by rw[wq,XT hb];rfl
 obtain⟨I,hI⟩:∃I:Nat->LP,I=λk l h'=>∃(F':Nat->Prop) (i:Nat),l=[.ptr lu 0,pv,.ptr lo 0,.int .i64 i]/\i+k=u.blocks.length/\Sn F h F' h'/\ei F' h' (eo lo To (Rz u vv vb vs wb wp wd)::eo lu 30 (uC u vv vb vs)::cs):=⟨_,rfl⟩
 refine zz I (λk x1 x3 x4 x5 h1 hi=>?_) (k:=u.blocks.length) ?_;rotate_left
 ·rw[hI];exact⟨F,0,rfl,by omega,Sn.refl _ _,H0⟩
 rw[hI]at hi;obtain⟨F1,i,⟨⟩,hk,s1,H1⟩:=hi;unfold qI;refine oF (H1.ld 1 rfl rfl) (ed (hu.since s1).b.len ?_);by_cases hi:i<u.blocks.length;rotate_left
 ·exact iC (H F1 h1 s1 H1.tail.tail)
 refine gw ?_;have K:=gQ hi;generalize u.blocks[i]=B at*;obtain⟨l1,o1,S,T,U,_,x1,x2,iv,iN,ip,_⟩:=(hu.since s1).mS K;refine oF (H1.ld 1 rfl rfl) (ed x1 (ed x2 ?_));refine iK H1 rfl rfl (by simp only[kM,eJ,iv.one,iN.one,ip.one];rfl) λh2 H2 s2=>?_;generalize h1.next=lx at*;have H2:ei F1 h2 (eo lx 44 (kM B S T U)::_):=H2;have iv:=iv.since s2;have al:=s1.trans s2;have wm:∀{A d},Sn F h A d->ei A d (eo lx 44 (kM B S T U)::eo lo To (Rz u vv vb vs wb wp wd)::eo lu 30 (uC u vv vb vs)::cs)->oP (er .add 3 (V.int .i64 i) (V.int .i64 1)) λaa=>Cs I k [.ptr lu 0,pv,.ptr lo 0,aa] d:=λ{A d} f s=>by
  refine fM ⟨k-1,by omega,?_⟩;rw[hI];exact⟨A,i+1,rfl,by omega,f,s.tail⟩
 have aw:=Bj g K;obtain⟨I6,M⟩:∃I:Nat->LP,I=λk l h'=>∃(F':Nat->Prop) (m:Nat),l=[.ptr lu 0,pv,.ptr lo 0,.int .i64 i,.ptr lx 0,.int .i64 m]/\m+k=B.ee.length/\Sn F h F' h'/\Sn F1 h2 F' h'/\ei F' h' (eo lx 44 (kM B S T U)::eo lo To (Rz u vv vb vs wb wp wd)::eo lu 30 (uC u vv vb vs)::cs):=⟨_,rfl⟩
 refine zg I6 (λk6 x1 x3 x4 x5 x6 x7 W ab=>?_) (k:=B.ee.length) ?_;rotate_left
 ·rw[M];exact⟨F1,0,rfl,by omega,al,Sn.refl _ _,H2⟩
 rw[M]at ab;clear H2 H1;obtain⟨F3,m,⟨⟩,ax,C,ac,z⟩:=ab;unfold ql;have ae:=iv.since ac;refine oF (z.ld 0 rfl rfl) (ed ae.len ?_);have u3:=hu.since C;by_cases hm:m<B.ee.length
 ·refine gw ?_;have hv:=gQ hm;generalize B.ee[m]=v at*;have D:At u v i m:=⟨B,K,hv⟩
  obtain⟨x,hx⟩:∃x,u.ee[v]? =some x:=⟨_,gQ (g.l0 v i m D)⟩
  obtain⟨l4,o4,am,y1,y2⟩:=ae.nat hv .i64;obtain⟨l5,o5,w,an,X,z2,xw,_⟩:=u3.val hx;refine oF (z.ld 2 rfl rfl) (oF (z.ld 0 rfl rfl) (ed y1 (ed y2 (ed X (ed z2 ?_)))));rw[gY];obtain⟨H4,s4⟩:=z.yP 42 [V.int .i64 0,V.int .i64 0,V.int .i64 0,V.int .i64 0,V.ec,V.int .i64 0];have g4:(W.new (.cells 42 1 true false [V.int .i64 0,V.int .i64 0,V.int .i64 0,V.int .i64 0,V.ec,V.int .i64 0])).get W.next=some (.cells 42 1 true false [V.int .i64 0,V.int .i64 0,V.int .i64 0,V.int .i64 0,V.ec,V.int .i64 0]):=fg _ _;generalize W.new (.cells 42 1 true false [V.int .i64 0,V.int .i64 0,V.int .i64 0,V.int .i64 0,V.ec,V.int .i64 0])=h4 at*;refine⟨⟨g4,O.gL _ _ _ _ _⟩,HT z2 (s4.fc _ an),jj y2 (s4.fc _ am),H4.ld 1 rfl rfl,H4.ld 3 rfl rfl,?_⟩;obtain⟨h5,e5,n5,H5,s5⟩:=H4.VI 0 (ws:=ll x w) (n:=6) rfl rfl rfl (by simp only[ll,eJ,xw.one];rfl);rw[e5,ef];simp only[iO]at H5;refine⟨n5,ed (H5.wH 0 rfl rfl) ?_⟩;generalize W.next=Y at*;have N:=s4.trans s5;refine B7 H5 (xw.since N) λF6 h6 uv s6 H6 r6=>?_;have ay:=GM λh=>Mf g hx h;have ao:=(C.trans N).trans s6;have ap:=(ac.trans N).trans s6;clear H5 H4 e5 n5;obtain⟨I7,P⟩:∃I:Nat->LP,I=λk l h'=>∃(F':Nat->Prop) (j:Nat),l=[.ptr lu 0,pv,.ptr lo 0,.int .i64 i,.ptr lx 0,.int .i64 m,.ptr Y 0,uv,.int .i64 j]/\j+k=(gJ x).length/\Sn F h F' h'/\Sn F6 h6 F' h'/\ei F' h' (eo Y 42 (ll x w)::eo lx 44 (kM B S T U)::eo lo To (Rz u vv vb vs wb wp wd)::eo lu 30 (uC u vv vb vs)::cs):=⟨_,rfl⟩
  refine zy I7 (λk7 x1 x3 x4 x5 x6 x7 x8 x9 aA h7 ag=>?_) (k:=(gJ x).length) ?_;rotate_left
  ·rw[P];exact⟨F6,0,rfl,by omega,ao,Sn.refl _ _,H6⟩
  rw[P]at ag;clear H6;obtain⟨F7,j,⟨⟩,aB,t,R,L⟩:=ag;unfold qZ;have r7:=r6.since R;refine ed r7.len ?_;have u7:=hu.since t;by_cases hj:j<(gJ x).length
  ·refine gw ?_;have ha:=gQ hj;have aq:=AO hj;generalize (gJ x)[j]=a at*;obtain⟨l8,o8,_,q1,q2⟩:=r7.nat ha .i64;have ah:∀{d},Sn F7 h7 F7 d->ei F7 d (eo Y 42 (ll x w)::eo lx 44 (kM B S T U)::eo lo To (Rz u vv vb vs wb wp wd)::eo lu 30 (uC u vv vb vs)::cs)->jD CS Q (Cs I k) (Cs I6 k6) (Cs I7 k7) [.ptr lu 0,pv,.ptr lo 0,.int .i64 i,.ptr lx 0,.int .i64 m,.ptr Y 0,uv,.int .i64 j] d:=λ{d} f s=>by
    refine yw ?_;unfold pR;refine fM ⟨k7-1,by omega,?_⟩;rw[P];exact⟨F7,j+1,rfl,by omega,t.trans f,R.trans f,s⟩
   refine oF (L.ld 0 rfl rfl) (gO ?_);by_cases c:x.op=21
   ·refine ig (by omega) ?_;obtain⟨_,aC⟩:=g.IE v i m x B D hx c K;have ar:gJ x=x.args:=by unfold gJ;rw[if_pos c]
    rw[ar]at ha hj;have y:∃p,B.fe[j]? =some p:=⟨_,gQ (by omega)⟩
    obtain ⟨p,y⟩:=y;obtain⟨ca,ja,E,G⟩:=TY g (g.JU v i m x B D hx c K j a p ha y);have au:p<u.blocks.length:=by
     have hm:=xQ y;rw[g.fe i B K]at hm;obtain⟨q,B',h1,_,W⟩:=tf.1 hm;have:=(iB.1 h1).1;omega
    obtain⟨la,oa,wr,_,t1,t2,t3⟩:=(r.since t).list (ak i hi) .i64;rw[g.fe i B K]at y;obtain⟨lc,oc,_,t4,t5⟩:=t3.nat y .i64;refine ed (L.wH 2 rfl rfl) (ed q1 (ed q2 (ed t1 (ed t2 (ed t4 (ed t5 ?_))))));refine Ei o L u7 (hb.since t) (Z.since t) (hd.since t) (k:=1073741824) E au G λd f s=>?_;exact⟨f.next,pj (ig rfl (ah f s))⟩
   ·refine gG (by omega) ?_;obtain⟨ca,ja,E,G⟩:=g.IB v i m x D hx c a aq;refine ed (L.wH 2 rfl rfl) (ed q1 (ed q2 ?_));refine Ei o L u7 (hb.since t) (Z.since t) (hd.since t) E hi G λd f s=>?_;exact⟨f.next,pj (ig rfl (ah f s))⟩
  refine iC ?_;have z0:ev (.ptr Y (0+0)) h7=some (.int .i64 x.op):=L.ld 0 rfl rfl;refine oF z0 (ed (iA ..) (ed (a:= .bool (leaves x.op)) ?_ ?_))
  ·simp only[fh,ez,z0,iA,wM];unfold leaves;rw[show((x.op:Int) == 22)=(x.op == 22) from Tv _ 22,show((x.op:Int) == 23)=(x.op == 23) from Tv _ 23]
  have ai:∀{A d},Sn F7 h7 A d->ei A d (eo Y 42 (ll x w)::eo lx 44 (kM B S T U)::eo lo To (Rz u vv vb vs wb wp wd)::eo lu 30 (uC u vv vb vs)::cs)->oP (er .add 3 (V.int .i64 m) (V.int .i64 1)) λaj=>Cs I6 k6 [.ptr lu 0,pv,.ptr lo 0,.int .i64 i,.ptr lx 0,aj] d:=λ{A d} f s=>by
   refine fM ⟨k6-1,by omega,?_⟩;rw[M];exact⟨A,m+1,rfl,by omega,t.trans f,(ap.trans R).trans f,s.tail⟩
  cases hl:leaves x.op with
  | true=>
    obtain⟨fs,J⟩:∃fs,u.eh[x.state]? =some fs:=⟨_,gQ (g.leave v x hx hl)⟩
    refine fY (ed (L.wH 2 rfl rfl) (fY (ed pf (fY (ed (L.ld 0 rfl rfl) (fY (ed rfl (fY (ed rfl (zR ?_))))))))));refine Mb o g L u7 (hb.since t) (Z.since t) (hd.since t) J hi (λw hw=>g.J4 v i m x fs D hx hl J w hw) λA d f s=>?_
    exact ed rfl (jH (gG (by simp) (ai f s)))
  | false=>
    refine gz (gz (gz (gz (gz (Cr ?_)))));exact ed rfl (jH (gG (by simp) (ai (Sn.refl _ _) L)))
 refine iC ?_;have X:ev (.ptr lx (0+1)) W=some (.int .i64 B.fin):=z.ld 0 rfl rfl;refine oF X ?_;by_cases c2:B.fin=2
 ·obtain⟨ca,ja,E,G⟩:=TY g (g.JA i B K c2);refine ed (K7 (by omega)) (fY (ed (z.wH 1 rfl rfl) (fY (ed pf (fY (ed (z.ld 0 rfl rfl) (fY (ed rfl (zR ?_)))))))));refine Ei o z u3 (hb.since C) (Z.since C) (hd.since C) (k:=1073741824) E hi G λd f s=>?_;have X:ev (.ptr lx (0+1)) d=some (.int .i64 B.fin):=s.ld 0 rfl rfl;refine ed rfl (fK (ed pf (fK (ed X (fK (ed (Kg (by omega)) (fK (ed rfl ?_))))))));refine gz (gz (gz (gz (Cr (gz (ed rfl (jH (gG (by simp) ?_))))))));exact wm (C.trans f) s
 ·refine ed (Kg (by omega)) (gz (gz (gz (gz (Cr (ed rfl ?_))))));refine fK (ed pf (fK (ed X ?_)));by_cases c3:B.fin=3
  ·have hs:B.state<u.eh.length:=by
    rcases g.fin i B K with⟨e,_⟩|⟨e,_⟩|⟨_,_,e⟩
    ·omega
    ·omega
    ·exact e
   have J:=gQ hs;generalize u.eh[B.state]=fs at*;refine fK (ed (K7 (by omega)) (fK (ed rfl ?_)));refine fY (ed (z.wH 1 rfl rfl) (fY (ed pf (fY (ed (z.ld 0 rfl rfl) (fY (ed rfl (zR ?_))))))));refine Mb o g z u3 (hb.since C) (Z.since C) (hd.since C) (k:=1073741824) J hi (λw hw=>TY g (g.J2 i B fs K c3 J w hw)) λA d f s=>?_;exact fY (ed rfl (ed rfl (jH (gG (by simp) (wm (C.trans f) s)))))
  ·refine fK (ed (Kg (by omega)) (fK (ed rfl ?_)));exact gz (gz (gz (gz (Cr (gz (ed rfl (jH (gG (by simp) (wm C z)))))))))
theorem OI (g:Good u)(H0:ei F h cs)(Z:zf F h u vv vb vs)(H:∀F' h',Sn F h F' h'->ei F' h' cs->Q (.bool true) h'):cP CS lE [.agg (uC u vv vb vs)] h Q:=by
 refine BM rfl rfl ?_;unfold uK;have nv:=g.nv;have nb:=g.nb;have Ju:=g.Ju;have pf:∀{l o k:Nat},fH k (.ptr l o)=some (.ptr l (o+k)):=ez _ _ _;refine mf H0 Z.one λh1 H1 s1=>?_;generalize h.next=lu at*;refine ed (H1.wH 0 rfl rfl) (Ub g H1 (Z.since s1) λF2 M s2 G=>?_);have ag:=s1.trans s2;refine pj (ig rfl (ed (G.wH 0 rfl rfl) (T2 g G (Z.since ag) λF3 h3 pv J r r3=>?_)));have ap:=ag.trans J;refine oF (r.ld 0 rfl rfl) (ed (Z.since ap).b.len ?_);rw[jk (z:=V.ec) rfl (by decide) (by omega),fq];obtain⟨R,s4⟩:=r.make (E:=eL eN) (ty:=hZ) (y:=[]) (u:= .ec) u.blocks.length Vs rfl;generalize h3.new (.cells hZ 1 true false (List.replicate u.blocks.length V.ec))=h4 at*;generalize h3.next=ln at*;have aa:∀b:Nat,b<u.blocks.length->((List.range u.blocks.length).map (Un.ahead u))[b]? =some (Un.ahead u b):=λb hb=>by rw[wq,XT hb];rfl
 obtain ⟨I,K⟩:∃I:Nat->LP,I=λk l h'=>∃(i:Nat) (AJ:List (List Nat)),l=[.ptr lu 0,pv,.slice ln 0 u.blocks.length,.int .i64 i]/\i+k=u.blocks.length/\Sn F3 h3 F3 h'/\AJ.length=u.blocks.length/\(∀j:Nat,j<i->AJ[j]? =some (Un.next u j))/\
   ei F3 h' (eQ (eL eN) hZ AJ (.slice ln 0 u.blocks.length)::eo lu 30 (uC u vv vb vs)::cs):=⟨_,rfl⟩
 refine zH I (λk d x3 x4 x5 h5 hi=>?_) (k:=u.blocks.length) ?_;rotate_left
 ·rw[K];exact⟨0,_,rfl,by omega,s4,Nt,λj hj=>by omega,R⟩
 rw[K]at hi;clear R s4 h4 G H1 s1 s2 ag;obtain⟨i,AJ,⟨⟩,hk,S,aq,ar,U⟩:=hi;unfold qf;have A:=ap.trans S;have u5:=Z.since A;refine oF (U.ld 1 rfl rfl) (ed u5.b.len ?_);by_cases hi:i<u.blocks.length
 ·refine gw ?_;have f:=gQ hi;generalize u.blocks[i]=B at*;obtain⟨l1,o1,bv,bn,bp,_,d,x2,iv,iN,ip,xb⟩:=u5.mS f;refine oF (U.ld 1 rfl rfl) (ed d (oF xb.next ?_));obtain⟨l6,o6,h6,e1,e2,_,p,C⟩:=U.G7 0 rfl (k:=i) (y:=B.next) (u:=bn) (by omega) rfl iN.one ⟨bn,rfl,iN⟩;refine ed e1 ?_;rw[e2,ef];simp only[iO]at p;have N:=A.trans C;have u6:=Z.since N;have r6:=(r3.since S).since C;have a7:=iN.since C;obtain⟨l7,o7,a8,a9,ba,_,y1,_,_,_,aJ,yb⟩:=u6.mS f;rw[d]at y1;cases y1;obtain⟨l8,o8,pr,_,z1,z2,zr⟩:=r6.list (aa i hi) .i64;refine oF (p.ld 1 rfl rfl) (ed d (oF yb.fe (ed z1 (ed z2 ?_))));refine XA aJ (by rw[g.fe i B f];exact zr) (by have:=Fs g f;omega) ?_;refine⟨iW _,pj (ig rfl ?_)⟩;have k3:ev (.ptr lu (0+3)) h6=some vb:=p.ld 1 rfl rfl;obtain⟨l9,o9,bb,ah,bc,_,y2,_,_,au,_,aw⟩:=u6.mS f;rw[d]at y2;cases y2;refine oF k3 (ed d (oF aw.next (ed au.len (ed (iA ..) ?_))));refine ed (a:= .bool false) ?_ (jH (gG (by simp) ?_))
  ·by_cases c:B.next.length=2
   ·rw [show((B.next.length:Int) == 2)=true by rw[CN];omega,vD];have aK:B.fin=2:=by
     rcases g.fin i B f with⟨_,h⟩|⟨h,_⟩|⟨_,h,_⟩
     ·omega
     ·exact h
     ·rw[h]at c;simp at c
    have tt:∀j:Nat,j<2->∃l o t l' o' w,gD 1 ah (.int .i64 (j:Nat))=some (.ptr l o)/\ev (.ptr l o) h6=some (.int .i64 (t:Nat))/\gD 1 pv (.int .i64 (t:Nat))=some (.ptr l' o')/\ev (.ptr l' o') h6=some w/\fD w=some (.int .i64 ((1:Nat):Int)):=λj hj=>by
     have ht:=gQ (show j<B.next.length by omega);have L:=AO (show j<B.next.length by omega);have aL:=g.Hg i B f aK _ L;have aM:B.next[j]<u.blocks.length:=g.nx i _ (by unfold next;rw[f];exact L);obtain⟨l,o,_,q1,q2⟩:=au.nat ht .i64;obtain⟨l',o',w,_,q3,q4,q5⟩:=r6.list (aa _ aM) .i64;exact⟨l,o,_,l',o',w,q1,q2,q3,q4,by rw[q5.len,aL]⟩
    obtain⟨a1,a2,a3,a4,a5,a6,b1,b2,b3,b4,b5⟩:=tt 0 (by omega);obtain⟨c1,c2,c3,c4,c5,c6,d1,d2,d3,d4,d5⟩:=tt 1 (by omega);have b1:gD 1 ah (.int .i64 0)=some (.ptr a1 a2):=b1;have d1:gD 1 ah (.int .i64 1)=some (.ptr c1 c2):=d1;simp only[fh,ez,k3,d,aw.next,b1,b2,b3,b4,b5,d1,d2,d3,d4,d5,TB (show(((1:Nat):Int))=1 from rfl),nq]
   ·rw[show((B.next.length:Int) == 2)=false by rw[Tw];omega,FM]
  ·refine fM ⟨k-1,by omega,?_⟩;rw[K];refine⟨i+1,_,rfl,by omega,S.trans C,by rw[Nu];exact aq,λj hj=>?_,p⟩;by_cases e:j=i
   ·subst e;rw[Ct (by omega)];unfold next
    rw[f]
   ·rw[AR λh=>e h.symm];exact ar j (by omega)
 refine iC ?_;obtain rfl:i=u.blocks.length:=by omega
 clear hk hi k K I;have r5:=r3.since S;obtain⟨l6,o6,pr,_,z1,z2,zr⟩:=r5.list (aa 0 (by omega)) .i64;have z1:gD 1 pv (.int .i64 0)=some (.ptr l6 o6):=z1;refine ed z1 (ed z2 (ed zr.len (AM (gG (by rw[g.Dj];simp) ?_))));obtain⟨p,C,rn⟩:=U.kE 0 rfl;simp only[iO]at p;have p:=p.tail;have W:=O4 g aq ar;generalize aN:(λl=>F3 l\/Loc (V.slice ln 0 u.blocks.length) l)=P at*;have N:=A.trans C;have r6:=r5.since C;have u6:=Z.since N;clear U S r aN r5 r3 u5 A z1 z2 zr;refine JF W (-1) p rn λh7 sv seen s7 H7 aO aP=>?_;have ax:∀b:Nat,b<u.blocks.length->seen[b]? =some true:=λb hb=>by
  obtain⟨l,hl⟩:=g.reach b hb;exact(aP b).2 ⟨l,hl,λx _=>by omega⟩
 refine zi (λk l h'=>∃i:Nat,l=[.ptr lu 0,pv,.slice ln 0 u.blocks.length,sv,.int .i64 (i:Nat)]/\i+k=u.blocks.length/\h' = h7) ?_ (k:=u.blocks.length) ⟨0,rfl,by omega,rfl⟩;rintro k _ _ _ _ _ h7 ⟨i,⟨⟩,hk,rfl⟩;unfold qP;refine ed (H7.len 0 rfl) ?_;rw[aO];by_cases hi:i<u.blocks.length
 ·refine gw ?_;obtain⟨l8,o8,y1,y2⟩:=H7.ID 0 rfl (ax i hi) .i64;refine ed y1 (ed y2 (pj (ig rfl ?_)));exact fM ⟨k-1,by omega,i+1,rfl,by omega,rfl⟩
 refine iC ?_;clear hk hi k i;have H7:=H7.tail;have ai:=N.trans s7;refine oF (H7.ld 0 rfl rfl) (ed (Z.since ai).v.len ?_);rw[jk (z:=V.int .i64 0) rfl (by decide) (by omega),fq];obtain⟨H8,s8⟩:=H7.make (E:=eN) (ty:=en) (y:=0) (u:=V.int .i64 0) u.ee.length rfl rfl;generalize h7.new (.cells en 1 true false (List.replicate u.ee.length (V.int .i64 0)))=h8 at*;generalize h7.next=lb at*;have ay:=ai.trans s8;refine oF (H8.ld 1 rfl rfl) (ed (Z.since ay).v.len ?_);rw[jk (z:=V.int .i64 0) rfl (by decide) (by omega),fq];obtain⟨H9,s9⟩:=H8.make (E:=eN) (ty:=en) (y:=0) (u:=V.int .i64 0) u.ee.length rfl rfl;generalize h8.new (.cells en 1 true false (List.replicate u.ee.length (V.int .i64 0)))=h9 at*;generalize h8.next=lp at*;have X:=(s7.trans s8).trans s9;clear H8 H7 s8 s7 ai ay p;have u9:=u6.since X;have r9:=r6.since X;have aQ:=rn.since X;have aR:=N.trans X;clear X N s9 u6 r6 rn
 obtain ⟨I,K⟩:∃I:Nat->LP,I=λk l h'=>∃(i:Nat) (mS EL:List Nat),l=[.ptr lu 0,pv,.slice ln 0 u.blocks.length,.slice lb 0 u.ee.length,.slice lp 0 u.ee.length,.int .i64 i]/\i+k=u.blocks.length/\Sn P h9 P h'/\XK u i 0 mS EL/\
   ei P h' (eQ eN en EL (.slice lp 0 u.ee.length)::eQ eN en mS (.slice lb 0 u.ee.length)::eo lu 30 (uC u vv vb vs)::cs):=⟨_,rfl⟩
 refine zj I (λk d x3 x4 x5 x6 x7 h1 hi=>?_) (k:=u.blocks.length) ?_;rotate_left
 ·rw[K];exact⟨0,_,_,rfl,by omega,Sn.refl _ _,⟨Nt,Nt,λv c m _ hc=>by omega⟩,H9⟩
 rw[K]at hi;clear H9;obtain⟨i,mS,EL,⟨⟩,hk,s1,P1,H1⟩:=hi;unfold qB;have u1:=u9.since s1;refine oF (H1.ld 2 rfl rfl) (ed u1.b.len ?_);by_cases hi:i<u.blocks.length
 ·refine gw ?_;have f:=gQ hi;generalize u.blocks[i]=B at*;have bd:=Bj g f
  obtain ⟨I4,aj⟩:∃I:Nat->LP,I=λk l h'=>∃(j:Nat) (fst:Bool) (mS EL:List Nat),l=[.ptr lu 0,pv,.slice ln 0 u.blocks.length,.slice lb 0 u.ee.length,.slice lp 0 u.ee.length,.int .i64 i,.bool fst,.int .i64 j]/\j+k=B.ee.length/\Sn P h9 P h'/\XK u i j mS EL/\
    (fst=true↔∀(m w:Nat) (y:Vl),m<j->B.ee[m]? =some w->u.ee[w]? =some y->iG y.op=true)/\
    ei P h' (eQ eN en EL (.slice lp 0 u.ee.length)::eQ eN en mS (.slice lb 0 u.ee.length)::eo lu 30 (uC u vv vb vs)::cs):=⟨_,rfl⟩
  refine zA I4 (λk4 d x3 x4 x5 x6 x7 x8 x9 M aA=>?_) (k:=B.ee.length) ?_;rotate_left
  ·rw[aj];exact⟨0,true,mS,EL,rfl,by omega,s1,P1,⟨λ_ m _ _ L=>by omega,λ_=>rfl⟩,H1⟩
  rw[aj]at aA;clear H1 P1 u1 s1 mS EL;obtain⟨j,fst,mS,EL,⟨⟩,be,s2,P2,ae,G⟩:=aA;unfold qU;have u2:=u9.since s2;obtain⟨l1,o1,bv,bn,bp,ab,d,_,iv,_,_,xb⟩:=u2.mS f;refine oF (G.ld 2 rfl rfl) (ed d (oF xb.ee (ed iv.len ?_)));by_cases hj:j<B.ee.length;rotate_left
  ·refine iC ?_;obtain rfl:j=B.ee.length:=by omega
   refine fM ⟨k-1,by omega,?_⟩;rw[K];exact⟨i+1,mS,EL,rfl,by omega,s2,P2.next f,G⟩
  refine gw ?_;have hv:=gQ hj;generalize B.ee[j]=v at*;have q:At u v i j:=⟨B,f,hv⟩
  have ak:=g.l0 v i j q;obtain⟨x,hx⟩:∃x,u.ee[v]? =some x:=⟨_,gQ ak⟩
  obtain⟨l4,o4,ac,y1,y2⟩:=iv.nat hv .i64;obtain⟨l5,o5,w,aS,z1,z2,xw,_⟩:=u2.val hx;refine oF (G.ld 2 rfl rfl) (oF (G.ld 2 rfl rfl) (ed d (oF xb.ee (ed y1 (ed y2 (ed z1 (ed z2 ?_)))))));rw[gY];obtain⟨r,J⟩:=G.yP 42 [V.int .i64 0,V.int .i64 0,V.int .i64 0,V.int .i64 0,V.ec,V.int .i64 0];have g3:(M.new (.cells 42 1 true false [V.int .i64 0,V.int .i64 0,V.int .i64 0,V.int .i64 0,V.ec,V.int .i64 0])).get M.next=some (.cells 42 1 true false [V.int .i64 0,V.int .i64 0,V.int .i64 0,V.int .i64 0,V.ec,V.int .i64 0]):=fg _ _;generalize M.new (.cells 42 1 true false [V.int .i64 0,V.int .i64 0,V.int .i64 0,V.int .i64 0,V.ec,V.int .i64 0])=h3 at*;refine⟨⟨g3,O.gL _ _ _ _ _⟩,HT z2 (J.fc _ aS),jj y2 (J.fc _ ac),jj xb.ee (J.fc _ ab),r.ld 3 rfl rfl,r.ld 3 rfl rfl,?_⟩;obtain⟨h4,e4,n4,R,s4⟩:=r.VI 0 (ws:=ll x w) (n:=6) rfl rfl rfl (by simp only[ll,eJ,xw.one];rfl);rw[e4,ef];simp only[iO]at R;refine⟨n4,?_⟩;generalize M.next=ly at*;have aB:ev (.ptr l1 (o1+0)) h4=some bv:=jj (jj xb.ee (J.fc _ ab)) (s4.fc _ ab);have aC:ev (.ptr l4 o4) h4=some (.int .i64 v):=jj (jj y2 (J.fc _ ac)) (s4.fc _ ac);refine oF (R.ld 3 rfl rfl) (ed d (oF aB (ed y1 (ed aC ?_))));obtain⟨l6,o6,h5,e5,e6,n5,U,S⟩:=R.G7 2 rfl (k:=v) (y:=i) (u:=V.int .i64 i) (by rw[P2.nb];exact ak) rfl rfl rfl;refine ed e5 ?_;rw[e6,ef];simp only[iO,kZ]at U;have aT:ev (.ptr l1 (o1+0)) h5=some bv:=jj aB (S.fc _ ab);have aU:ev (.ptr l4 o4) h5=some (.int .i64 v):=jj aC (S.fc _ ac);refine oF (U.ld 3 rfl rfl) (ed d (oF aT (ed y1 (ed aU ?_))));obtain⟨l7,o7,h6,e7,e8,n6,p,C⟩:=U.G7 1 rfl (k:=v) (y:=j) (u:=V.int .i64 j) (by rw[P2.np];exact ak) rfl rfl rfl;refine ed e7 ?_;rw[e8,ef];simp only[iO,kZ]at p;have al:=((J.trans s4).trans S).trans C;have z0:ev (.ptr ly (0+0)) h6=some (.int .i64 x.op):=p.ld 0 rfl rfl;have z4:ev (.ptr ly (0+4)) h6=some w:=p.ld 0 rfl rfl;have w6:=xw.since al;have r6:=(r9.since s2).since al;obtain⟨lr,bf,pr,_,p1,p2,p3⟩:=r6.list (aa i hi) .i64;have aV:iG x.op=true->fst=true:=λhh=>ae.2 (Qv g f q hx hh);refine oF z0 (ed (iA ..) (ed (a:= .bool (iG x.op)) (by simp only[fh,ez,z0,iA,wM,Tf]) (ed (a:= .bool false) ?_ (yG ?_ (yG ?_ (jH (gG (by simp) ?_)))))))
  ·show jK _ (some (V.bool (!fst)))=_;rw[ji]
   cases hh:iG x.op with
   |true=>rw[aV hh];rfl
   |false=>rfl
  ·simp only[fh,ez,z0];by_cases c:x.op=21
   ·obtain⟨h0,hl⟩:=g.IE v i j x B q hx c f;rw[K7 (by omega)];simp only[fh,vD,z4,w6.len,p1,p2,p3.len];rw[TB (by rw[hl,g.fe i B f])];simp only[fh,nq];exact Kg (by omega)
   ·rw[Kg (by omega)];rfl
  ·simp only[fh,ez,z0];by_cases c:x.op=1
   ·have h0:=g.par v i j x q hx c;rw[K7 (by omega)];simp only[fh,vD];exact TB (by omega)
   ·rw[Kg (by omega)];rfl
  ·rw [ji];refine ed rfl (fM ⟨k4-1,by omega,?_⟩);rw[aj];refine⟨j+1,_,_,_,rfl,by omega,s2.trans al,P2.step g q,?_,p.tail⟩;rw[tN,ae];constructor
   ·rintro⟨h1,M⟩ m w' y L Y hy;by_cases e:m=j
    ·subst e;rw[hv]at Y;cases Y;rw[hx]at hy;cases hy;exact M
    ·exact h1 m w' y (by omega) Y hy
   ·intro h1;exact⟨λm w' y L Y hy=>h1 m w' y (by omega) Y hy,h1 j v x (by omega) hv hx⟩
 refine iC ?_;obtain rfl:i=u.blocks.length:=by omega
 clear hk hi k K I;refine yV H1 λM G s2=>?_;generalize h1.next=lq at*;obtain⟨Tp,G⟩:∃T,ei P M (eo lq T ((List.replicate 40 false).map V.bool)::eQ eN en EL (.slice lp 0 u.ee.length)::eQ eN en mS (.slice lb 0 u.ee.length)::eo lu 30 (uC u vv vb vs)::cs):=⟨_,G⟩
 obtain ⟨I,K⟩:∃I:Nat->LP,I=λk l h'=>∃(i:Nat) (ps:List Bool),l=[.ptr lu 0,pv,.slice ln 0 u.blocks.length,.slice lb 0 u.ee.length,.slice lp 0 u.ee.length,.ptr lq 0,.int .i64 i]/\i+k=u.ee.length/\Sn P h9 P h'/\ps.length=40/\
   (∀m:Nat,ps[m]? =some true->∃(w:Nat) (y:Vl),w<i/\u.ee[w]? =some y/\y.op=1/\y.n=(m:Int))/\
   ei P h' (eo lq Tp (ps.map V.bool)::eQ eN en EL (.slice lp 0 u.ee.length)::eQ eN en mS (.slice lb 0 u.ee.length)::eo lu 30 (uC u vv vb vs)::cs):=⟨_,rfl⟩
 refine zD I (λk d x3 x4 x8 x9 bg bh h3 hi=>?_) (k:=u.ee.length) ?_;rotate_left
 ·rw[K];refine⟨0,_,rfl,by omega,s1.trans s2,Nt,λm L=>?_,G⟩;rw[VX]at L;split at L <;> cases L
 rw[K]at hi;clear G H1 u1 s1 s2;obtain⟨i,ps,⟨⟩,hk,J,aD,am,r⟩:=hi;unfold qH;have u3:=u9.since J;refine oF (r.ld 3 rfl rfl) (ed u3.v.len ?_);by_cases hi:i<u.ee.length
 ·refine gw ?_;have hx:=gQ hi;generalize u.ee[i]=x at*;obtain⟨l1,o1,w,_,d,_,_,xl⟩:=u3.val hx
  have aE:∀{h8} {VW:List Bool},Sn P h3 P h8->VW.length=40->(∀m:Nat,VW[m]? =some true->∃(w:Nat) (y:Vl),w<i+1/\u.ee[w]? =some y/\y.op=1/\y.n=(m:Int))->ei P h8 (eo lq Tp (VW.map V.bool)::eQ eN en EL (.slice lp 0 u.ee.length)::eQ eN en mS (.slice lb 0 u.ee.length)::eo lu 30 (uC u vv vb vs)::cs)->
    jE CS Q (Cs I k) [.ptr lu 0,pv,.slice ln 0 u.blocks.length,.slice lb 0 u.ee.length,.slice lp 0 u.ee.length,.ptr lq 0,.int .i64 i] h8:=λ{h8 VW} s8 hl hp H8=>by
   refine yD ?_;unfold pq;refine fM ⟨k-1,by omega,?_⟩;rw[K];exact⟨i+1,VW,rfl,by omega,J.trans s8,hl,hp,H8⟩
  have aF:∀m:Nat,ps[m]? =some true->∃(w:Nat) (y:Vl),w<i+1/\u.ee[w]? =some y/\y.op=1/\y.n=(m:Int):=λm L=>by
   obtain⟨w,y,h1,M⟩:=am m L;exact⟨w,y,by omega,M⟩
  refine oF (r.ld 3 rfl rfl) (ed d (oF xl.op (gO ?_)));by_cases c:x.op=1
  ·refine ig (by omega) ?_;obtain⟨n1,n2,n3⟩:=g.param i x hx c;obtain⟨m,L⟩:=Int.eq_ofNat_of_zero_le n1;have aW:m<40:=by omega
   have xn:=xl.n;rw[L]at xn;have eq:=WL (n:=1) (l:=lq) (o:=0) (kd:= .i64) aW;have an:=gQ (show m<ps.length by omega);have aX:ps[m]? =some false:=by
    cases e:ps[m]with
    | true=>
      rw[e]at an;obtain⟨w',y,h1,M,h3,h4⟩:=am m an;have:=n3 w' y M h3 (by omega)
      omega
    |false=>rw[an,e]
   have aY:ev (.ptr lq (0+m*1)) h3=some (.bool false):=r.ld 0 rfl (by rw[vI,Nat.mul_one,wq,aX];rfl);refine oF (r.ld 3 rfl rfl) (ed d (oF xn (ed eq (ed aY (jH (gG (by simp) ?_))))));refine oF (r.ld 3 rfl rfl) (ed d (oF xn (ed eq ?_)));obtain⟨h4,e4,_,R,s4⟩:=r.st 0 (o:=m) (u:=V.bool true) rfl (by rw[Fk];omega) rfl;have aZ:gB 1 (.ptr lq (0+m*1)) (V.bool true) h3=some (.val .undef h4):=by rw[vI,Nat.mul_one];exact e4
   rw[aZ,ef];simp only[iO]at R;refine aE s4 (VW:=ps.set m true) (by rw[Nu];exact aD) (λm' aG=>?_) (by rw[List.map_set];exact R);by_cases e:m' = m
   ·subst e;exact⟨i,x,by omega,hx,c,L⟩
   ·rw[AR λh=>e h.symm]at aG;exact aF m' aG
  ·exact gG (by omega) (aE (Sn.refl _ _) aD aF r)
 refine iC ?_;clear hk hi k K I am i;obtain⟨R,s4,r4⟩:=r.tail.kE 0 rfl;simp only[iO]at R;obtain⟨U,S,r5⟩:=R.tail.kE 0 rfl;simp only[iO]at U;have ao:=s4.trans S;have A:=(aR.trans J).trans ao;refine QP W U.tail ((aQ.since J).since ao) λbi h6 dv Ir C p r6 D=>?_;refine ed (p.wH 0 rfl rfl) ?_;have aH:=(r4.since S).since C;have aI:=r5.since C;refine ed (a:= .agg (Rz u vv vb vs (.slice lb 0 u.ee.length) (.slice lp 0 u.ee.length) dv)) ?_ ?_
 ·rcases r6 with⟨rfl,_⟩|⟨_,_,_,_,_,_,rfl,_⟩ <;> rfl
 have u6:=Z.since (A.trans C);refine iK p rfl rfl (by simp only[Rz,eJ,u6.v.one,u6.b.one,u6.s.one,aH.one,aI.one,r6.one];rfl) λh7 H7 s7=>?_;refine Wn g ⟨λv b k q=>?_,D⟩ H7 (u6.since s7) (aI.since s7) (aH.since s7) (r6.since s7) ((((r9.since J).since ao).since C).since s7) λF8 h8 s8 H8=>H F8 h8 (((A.trans C).trans s7).trans s8) H8;refine P1.yes v b k q (.inl ?_);obtain⟨B,f,_⟩:=q;exact(iB.1 f).1
end
