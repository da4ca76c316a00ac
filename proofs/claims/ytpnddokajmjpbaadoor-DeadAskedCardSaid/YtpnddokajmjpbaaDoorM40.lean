/- Parts. -/
import Derived.Test.YtpnddokajmjpbaaDoorM39
import Derived.Test.YtpnddokajmjpbaaDoorM30
namespace Go.Proofs.YtpnddokajmjpbaaDoor.Hx
open Go.Proofs.YtpnddokajmjpbaaDoor.Un Go.Proofs.YtpnddokajmjpbaaDoor.Dm
theorem gd_u{w:Bool}{X:Option V}{K:V->Prop}(h:K .undef):oP (pGd w .undef) λb=>oP (gV b X) K:=by cases w <;> exact h
theorem gc_u{w:Bool}{C:Cfg}{f:Nat}{a:List V}{h:Hp}{K:QP1}(H:K .undef h):oP (pGd w .undef) λb=>oP (gC b (some (f,a))) λy=>cgP C y h K:=by cases w <;> exact H
theorem gtrF{t:Nat}{k:IntKind}{a b:Int}(h:¬b<a):hbin .gtr t (.int k a) (.int k b)=some (.bool false):=by rw[kK,wBL h]
theorem lssF{t:Nat}{k:IntKind}{a b:Int}(h:¬a<b):hbin .lss t (.int k a) (.int k b)=some (.bool false):=by rw[j4,wBL h]
theorem neqF{t:Nat}{k:IntKind}{a b:Int}(h:a=b):hbin .neq t (.int k a) (.int k b)=some (.bool false):=by rw[ut,h];simp
theorem eqlT{t:Nat}{k:IntKind}{a b:Int}(h:a=b):hbin .eql t (.int k a) (.int k b)=some (.bool true):=by rw[fF,h];simp
theorem eqlF{t:Nat}{k:IntKind}{a b:Int}(h:a≠b):hbin .eql t (.int k a) (.int k b)=some (.bool false):=by rw[fF];simp[h]
theorem sP{X:Option V}{K:V->Prop}(a:X=some (.bool false))(H:K (.bool false)):oP (pOr (.bool false) X) K:=by rw[jC,a];exact H
section
variable{F F':Nat->Prop}{h h':Hp}{cs:List Pc}{Q:QP1}{u:U}{vv vb vs:V}
theorem JT {u:U}(g:Good u)(b:Nat):(pre u b).length<=u.vals.length:=iy _ _ (xH g b) λv a=>by
 obtain⟨c,k,d,_⟩:=zB.1 a;exact g.atlt _ _ _ d
theorem Hk (g:Good u)(H0:Hold F h cs)(hu:URd F h u vv vb vs)(H:∀F' h',Sn F h F' h'->Hold F' h' cs->Q (.bool true) h'):cP CS iB [.agg (uC u vv vb vs)] h Q:=by
 refine vI rfl rfl ?_;unfold pJ;have nv:=g.nv;have nb:=g.nb;have nb0:=g.nb0;have ns:=g.ns;have J:∀{l o k:Nat},pFA k (.ptr l o)=some (.ptr l (o+k)):=ed _ _ _;refine kh H0 hu.one λA C L=>?_;generalize h.next=lu at*;have G:=hu.since L;have k3:pLd (.ptr lu (0+3)) A=some vb:=C.ld 0 rfl rfl;have O:pLd (.ptr lu (0+4)) A=some vs:=C.ld 0 rfl rfl;refine oF (C.ld 0 rfl rfl) (d9 G.v.len (d9 (gtrF (by omega)) ?_));refine sP (by simp only[en,ed,k3,G.b.len];exact gtrF (by omega)) ?_;refine sP (by simp only[en,ed,k3,G.b.len];exact lssF (by omega)) ?_;refine sP (by simp only[en,ed,O,G.s.len];exact gtrF (by omega)) (st_b (if_f (by simp) ?_));clear k3 O;refine tq (λk l h'=>∃(F':Nat->Prop) (i:Nat),l=[.ptr lu 0,.int .i64 i]/\i+k=u.states.length/\Sn F h F' h'/\Hold F' h' (cellP lu 30 (uC u vv vb vs)::cs)) ?_ (k:=u.states.length) ⟨F,0,rfl,by omega,L,C⟩;clear C G L A;rintro k _ _ A ⟨U,i,⟨⟩,hk,L,C⟩;unfold mq;have G:=hu.since L;have W:pLd (.ptr lu (0+2)) A=some vv:=C.ld 0 rfl rfl;have O:pLd (.ptr lu (0+4)) A=some vs:=C.ld 0 rfl rfl;refine oF O (d9 G.s.len ?_);by_cases hi:i<u.states.length
 ·refine ltYes ?_;have aj:=wAA hi;generalize u.states[i]=fs at*;obtain⟨q1,q2,q3⟩:=g.st i fs aj;obtain⟨l1,o1,f,_,X,x2,x3,xf⟩:=G.st aj;have x3:pLd (.ptr l1 (o1+0)) A=some f:=x3;refine oF O (d9 X (oF x3 (d9 xf.len (d9 (lssF (by omega)) ?_))));refine sP (by simp only[en,ed,O,X,x3,xf.len];exact gtrF (by omega)) (st_b (if_f (by simp) ?_));refine tg (λk l h'=>∃j:Nat,l=[.ptr lu 0,.int .i64 i,.int .i64 (j:Nat)]/\j+k=fs.length/\h' = A) ?_ (k:=fs.length) ⟨0,rfl,by omega,rfl⟩;rintro k1 _ _ _ _ ⟨j,⟨⟩,bS,rfl⟩;unfold mi;refine oF O (d9 X (oF x3 (d9 xf.len ?_)));by_cases hj:j<fs.length
  ·refine ltYes ?_;have hf:=wAA hj;obtain⟨r1,r2,_⟩:=q3 _ (wAR hj);generalize fs[j]=x at*;obtain⟨l2,o2,a,b,_,P,R,y3,ya,yb⟩:=xf.frm2 hf;refine oF O (d9 X (oF x3 (d9 P (oF R (d9 ya.len (d9 (gtrF (by omega)) ?_))))));refine sP (by simp only[en,ed,O,X,x3,P,y3,yb.len];exact gtrF (by omega)) (st_b (if_f (by simp) ?_));exact addOne ⟨k1-1,by omega,j+1,rfl,by omega,rfl⟩
  ·refine ltNo ?_;refine oF O (d9 X (d9 x2 ?_));refine CE C xf (rV g i fs aj) λF2 d fv S p r2=>?_;have bU:=vO (fs:=fs) (rV g i fs aj).2;have am:=L.trans S;have u2:=G.since S;have W:pLd (.ptr lu (0+2)) d=some vv:=p.ld 0 rfl rfl;refine ti (λk l h'=>∃j:Nat,l=[.ptr lu 0,.int .i64 i,fv,.int .i64 (j:Nat)]/\j+k=(frames fs).length/\h' = d) ?_ (k:=(frames fs).length) ⟨0,rfl,by omega,rfl⟩;rintro Y _ _ _ _ _ ⟨j,⟨⟩,aE,rfl⟩;unfold mG;refine d9 r2.len ?_;by_cases hj:j<(frames fs).length
   ·refine ltYes ?_;have hx:=wAA hj;obtain⟨x,M,Z⟩:Gives u (frames fs)[j]:=by
     have:=wAR hj;unfold frames at this;obtain⟨f,hf,hm⟩:=wAy.1 this;obtain⟨_,_,t1,t2⟩:=q3 f hf;exact(wAV.1 hm).elim (t1 _) (t2 _)
    generalize (frames fs)[j]=w at*;have an:=(wAB.1 M).1;obtain⟨l3,o3,_,P,R⟩:=r2.nat hx .i64;obtain⟨l4,o4,_,_,z1,_,_,z2⟩:=u2.val M;refine d9 P (d9 R (oF W (d9 u2.v.len (Ao an ⟨wAF _,?_⟩))));refine d9 rfl (ez (d9 J (ez (d9 W (ez (d9 rfl (ez (d9 rfl (ez (d9 P (ez (d9 R (ez (d9 z1 (ez (d9 J (ez (d9 z2.op (rr (rgives ?_))))))))))))))))))));rw[Z];refine⟨wAF _,d9 rfl (st_b (if_f (by simp) ?_))⟩;exact addOne ⟨Y-1,by omega,j+1,rfl,by omega,rfl⟩
   ·refine ltNo ?_;exact addOne ⟨k-1,by omega,F2,i+1,rfl,by omega,am,p⟩
 refine ltNo ?_;clear hk hi k i W O;refine tw (λk l h'=>∃(F':Nat->Prop) (i:Nat),l=[.ptr lu 0,.int .i64 i]/\i+k=u.vals.length/\Sn F h F' h'/\Hold F' h' (cellP lu 30 (uC u vv vb vs)::cs)) ?_ (k:=u.vals.length) ⟨U,0,rfl,by omega,L,C⟩;clear C G L A U;rintro k _ _ A ⟨U,i,⟨⟩,hk,L,C⟩;unfold mn;have G:=hu.since L;refine oF (C.ld 0 rfl rfl) (d9 G.v.len ?_);by_cases hi:i<u.vals.length
 ·refine ltYes ?_;have hx:=wAA hi;generalize u.vals[i]=x at*;obtain⟨l1,o1,w,_,X,x2,xw,_⟩:=G.val hx;refine oF (C.ld 0 rfl rfl) (d9 X (d9 x2 ?_));refine fU C rfl rfl (by simp only[vlC,ee,xw.one];rfl) λd p S=>?_;generalize A.next=lx at*;have u2:=G.since S;have w2:=xw.since S;have z0:pLd (.ptr lx (0+0)) d=some (.int .i64 x.op):=p.ld 0 rfl rfl;have z3:pLd (.ptr lx (0+3)) d=some (.int .i64 x.n):=p.ld 0 rfl rfl;have z4:pLd (.ptr lx (0+4)) d=some w:=p.ld 0 rfl rfl;have z5:pLd (.ptr lx (0+5)) d=some (.int .i64 x.state):=p.ld 0 rfl rfl;have O:pLd (.ptr lu (0+4)) d=some vs:=p.ld 1 rfl rfl;obtain⟨bV,bW⟩:=g.op i x hx;refine oF z0 (d9 (lssF (by omega)) ?_);refine sP (by simp only[en,ed,z0];exact gtrF (by omega)) ?_;refine sP ?_ ?_
  ·simp only[en,ed,z0];by_cases c:x.op=20
   ·rw[eqlT (by omega)];simp only[en,rX,z4,w2.len];exact neqF (by rw[g.putAt i x hx c];rfl)
   ·rw[eqlF (by omega)];rfl
  refine ez (d9 J (ez (d9 z0 ?_)));have kA:oP (pOr (.bool false) (oB (pFA 0 (V.ptr lx 0)) λaF=>oB (pLd aF d) λaG=>oB (hbin .eql 3 aG (V.int .i64 1)) λaH=>oB (some aH) λaI=>pAnd aI (oB (pFA 3 (V.ptr lx 0)) λaJ=>oB (pLd aJ d) λaK=>hbin .gtr 2 aK (V.int .i64 1073741824)))) λv=>v = .bool false:=by
   refine sP ?_ rfl;simp only[en,ed,z0];by_cases c:x.op=1
   ·rw[eqlT (by omega)];simp only[en,rX,z3];obtain⟨n1,n2,_⟩:=g.param i x hx c;exact gtrF (by omega)
   ·rw[eqlF (by omega)];rfl
  obtain⟨vA,eA,rfl⟩:=gz.1 kA
  have al:∀K:QP1,K (.bool false) d->oP (pGd false (V.bool false)) λao=>oP (gV ao (pFA 0 (V.ptr lx 0))) λaL=>oP (pGd false (V.bool false)) λbe=>oP (gV be (pLd aL d)) λaM=>oP (pGd false (V.bool false)) λbf=>oP (gV bf (hbin .eql 3 aM (V.int .i64 22))) λaN=>
    oP (pGd false (V.bool false)) λbg=>oP (gV bg (some aN)) λT=>oP (pGd false T) λbh=>oP (gV bh (pFA 0 (V.ptr lx 0))) λaO=>oP (pGd false T) λbi=>oP (gV bi (pLd aO d)) λaP=>oP (pGd false T) λbj=>oP (gV bj (hbin .eql 3 aP (V.int .i64 23))) λaQ=>
    oP (pGd false (V.bool false)) λbm=>oP (gV bm (pPick T (V.bool true) aQ)) λaR=>oP (pGd false (V.bool false)) λbo=>oP (gV bo (some aR)) λq=>oP (pGd true q) λap=>oP (gV ap (pFA 5 (V.ptr lx 0))) λaa=>oP (pGd true q) λaq=>oP (gV aq (pLd aa d)) λab=>
    oP (pGd true q) λar=>oP (gV ar (pFA 4 (V.ptr lu 0))) λac=>oP (pGd true q) λau=>oP (gV au (pLd ac d)) λae=>oP (pGd true q) λaw=>oP (gV aw (pLen ae)) λag=>oP (pGd true q) λax=>oP (gC ax (some (fh,[ab,ag]))) λay=>cgP CS ay d λah h4=>
    oP (pGd true q) λaA=>oP (gV aA (hun .not ah)) λai=>oP (pOr (V.bool false) (pPick q ai (V.bool false))) λD=>K D h4:=λK HK=>by
   refine ez (d9 J (ez (d9 z0 (ez (d9 (fF ..) (ez (d9 rfl ?_)))))))
   have fin:∀c:Bool,c=leaves x.op->oP (pGd true (V.bool c)) λap=>oP (gV ap (pFA 5 (V.ptr lx 0))) λaa=>oP (pGd true (V.bool c)) λaq=>oP (gV aq (pLd aa d)) λab=>
     oP (pGd true (V.bool c)) λar=>oP (gV ar (pFA 4 (V.ptr lu 0))) λac=>oP (pGd true (V.bool c)) λau=>oP (gV au (pLd ac d)) λae=>oP (pGd true (V.bool c)) λaw=>oP (gV aw (pLen ae)) λag=>oP (pGd true (V.bool c)) λax=>oP (gC ax (some (fh,[ab,ag]))) λay=>cgP CS ay d λah h4=>
     oP (pGd true (V.bool c)) λaA=>oP (gV aA (hun .not ah)) λai=>oP (pOr (V.bool false) (pPick (V.bool c) ai (V.bool false))) λD=>K D h4:=λc hc=>by
    cases c with
    |true=>exact fi (d9 J (fi (d9 z5 (fi (d9 J (fi (d9 O (fi (d9 u2.s.len (uU (Ao (g.leave i x hx hc.symm) (fi (d9 rfl (d9 rfl HK))))))))))))))
    |false=>exact ft (ft (ft (ft (ft (wZ (ft (d9 rfl HK)))))))
   by_cases c:x.op=22
   ·rw[show((x.op:Int) == 22)=true by simp[c]];exact Io (Io (Io (ez (d9 rfl (ez (d9 rfl (fin true (by rw[c];rfl))))))))
   ·rw[show((x.op:Int) == 22)=false by rw[wAz];omega];refine ez (d9 J (ez (d9 z0 (ez (d9 (fF ..) (ez (d9 rfl (ez (d9 rfl (fin _ ?_))))))))));rw[show((x.op:Int) == 23)=(x.op == 23) from ieq _ 23];unfold leaves;rw[show(x.op == 22)=false by rw[wAz];exact c];rfl
  have tl:gN CS Q [V.ptr lu 0,.int .i64 ((i+1:Nat):Int)] d=gN CS Q [V.ptr lu 0,.int .i64 ((i+1:Nat):Int)] d:=rfl;clear tl;have last:oP (pLdA 6 (V.ptr lx 0) d) λaS=>cP CS fR [aS] d λaT h5=>iS CS Q (ltI (λk l h'=>∃(F':Nat->Prop) (i:Nat),l=[.ptr lu 0,.int .i64 i]/\i+k=u.vals.length/\Sn F h F' h'/\Hold F' h' (cellP lu 30 (uC u vv vb vs)::cs)) k) [.ptr lu 0,.int .i64 i,aT,(V.int .i64 0)] h5:=by
   refine d9 (p.ldA 0 rfl rfl) ?_;refine yw p w2 λF3 h3 uv s3 H3 r3=>?_;have u3:=u2.since s3;have W:pLd (.ptr lu (0+2)) h3=some vv:=H3.ld 1 rfl rfl;have bX:=w9 λh=>ux g hx h;refine tk (λk l h'=>∃j:Nat,l=[.ptr lu 0,.int .i64 i,uv,.int .i64 (j:Nat)]/\j+k=(uses x).length/\h' = h3) ?_ (k:=(uses x).length) ⟨0,rfl,by omega,rfl⟩;rintro Y _ _ _ _ _ ⟨j,⟨⟩,aE,rfl⟩;unfold mb;refine d9 r3.len ?_;by_cases hj:j<(uses x).length
   ·refine ltYes ?_;have hw:=wAA hj;obtain⟨y,M,Z⟩:Gives u (uses x)[j]:=g.use i x hx _ (wAR hj);generalize (uses x)[j]=w at*;have an:=(wAB.1 M).1;obtain⟨l3,o3,_,P,R⟩:=r3.nat hw .i64;obtain⟨l4,o4,_,_,z1,_,_,z2⟩:=u3.val M;refine d9 P (d9 R (oF W (d9 u3.v.len (Ao an ⟨wAF _,?_⟩))));refine d9 rfl (ez (d9 J (ez (d9 W (ez (d9 rfl (ez (d9 rfl (ez (d9 P (ez (d9 R (ez (d9 z1 (ez (d9 J (ez (d9 z2.op (rr (rgives ?_))))))))))))))))))));rw[Z];refine⟨wAF _,d9 rfl (st_b (if_f (by simp) ?_))⟩;exact addOne ⟨Y-1,by omega,j+1,rfl,by omega,rfl⟩
   ·refine ltNo ?_;exact addOne ⟨k-1,by omega,F3,i+1,rfl,by omega,(L.trans S).trans s3,H3.tail⟩
  by_cases c1:x.op=1
  ·obtain⟨n1,n2,_⟩:=g.param i x hx c1;obtain⟨m,hm⟩:=Int.eq_ofNat_of_zero_le n1;rw[hm]at z3;refine ez (d9 (eqlT (by omega)) (ez (d9 rfl (fi (d9 J (fi (d9 z3 (uU (Ao (n:=40) (by omega) (fi (d9 rfl (d9 rfl (d9 eA ?_)))))))))))));exact al (λD h4=>bP D _ _) (st_b (if_f (by simp) last))
  ·refine ez (d9 (eqlF (by omega)) (ez (d9 rfl (ft (ft (wZ (ft (d9 rfl (d9 eA ?_)))))))));exact al (λD h4=>bP D _ _) (st_b (if_f (by simp) last))
 refine ltNo ?_;clear hk hi k i;refine oF (C.ld 0 rfl rfl) (d9 G.v.len ?_);rw[gh (z:=V.bool false) rfl (by decide) (by omega),ev];obtain⟨p,S⟩:=C.make (E:=eB) (ty:=tyBool) (y:=false) (u:=V.bool false) u.vals.length rfl rfl;generalize A.new (.cells tyBool 1 true false (List.replicate u.vals.length (V.bool false)))=d at*;generalize A.next=lk at*;obtain⟨I,hI⟩:∃I:Nat->LP,I=λ(k:Nat) l h'=>∃(i:Nat) (seen:List Bool),l=[.ptr lu 0,.slice lk 0 u.vals.length,.int .i64 ((pre u i).length:Nat),.int .i64 i]/\i+k=u.blocks.length/\Sn F h U h'/\seen.length=u.vals.length/\(∀v:Nat,seen[v]? =some true↔v∈pre u i)/\Hold U h' (rowP eB tyBool seen (.slice lk 0 u.vals.length)::cellP lu 30 (uC u vv vb vs)::cs):=⟨_,rfl⟩
 refine tF I (λk X x2 x3 x4 h6 hi=>?_) (k:=u.blocks.length) ?_;rotate_left
 ·rw[hI];refine⟨0,_,rfl,by omega,L.trans S,wAi,λv=>?_,p⟩;constructor
  ·intro h;rw[wA4]at h;split at h <;> cases h
  ·intro h;simp[pre]at h
 clear p S C G L d;clear A;revert h6 hi;intro A hi;rw[hI]at hi;obtain⟨i,seen,⟨⟩,hk,L,bq,br,C⟩:=hi;unfold lU;have G:=hu.since L;have bY:=JT g i;refine oF (C.ld 1 rfl rfl) (d9 G.b.len ?_);by_cases hi:i<u.blocks.length;rotate_left
 ·refine ltNo ?_;obtain rfl:i=u.blocks.length:=by omega
  rw[AS g];exact oF (C.ld 1 rfl rfl) (d9 G.v.len (d9 (eqlT rfl) (H U A L C.tail.tail)))
 refine ltYes ?_;have hB:=wAA hi;generalize u.blocks[i]=B at*;obtain⟨l1,o1,bv,bn,bp,_,X,x2,iv,iN,ip,_⟩:=G.blk hB;refine oF (C.ld 1 rfl rfl) (d9 X (d9 x2 ?_));refine fU C rfl rfl (by simp only[bkC,ee,iv.one,iN.one,ip.one];rfl) λd p S=>?_;generalize A.next=lx at*;have p:Hold U d (cellP lx 44 (bkC B bv bn bp)::_):=p;have u2:=G.since S;have am:=L.trans S;have bt:=iv.since S;have aU:=iN.since S
 have aB:∀n:Nat,B.next.length=n->fV CS Q (ltI I k)
   [.ptr lu 0,.slice lk 0 u.vals.length,.int .i64 ((pre u i).length:Nat),.int .i64 i,.ptr lx 0,.int .i64 (n:Nat)] d:=λn hn=>by
  refine sk ?_;unfold kS;have z1:pLd (.ptr lx (0+1)) d=some (.int .i64 B.fin):=p.ld 0 rfl rfl;have z2:pLd (.ptr lx (0+2)) d=some (.int .i64 B.cond):=p.ld 0 rfl rfl;have z5:pLd (.ptr lx (0+5)) d=some (.int .i64 B.state):=p.ld 0 rfl rfl;have W:pLd (.ptr lu (0+2)) d=some vv:=p.ld 2 rfl rfl;have O:pLd (.ptr lu (0+4)) d=some vs:=p.ld 2 rfl rfl;have last:iR CS Q (ltI I k) [.ptr lu 0,.slice lk 0 u.vals.length,.int .i64 ((pre u i).length:Nat),.int .i64 i,.ptr lx 0,.int .i64 n,.int .i64 0] d:=by
   refine tH (λk l h'=>∃j:Nat,l=[.ptr lu 0,.slice lk 0 u.vals.length,.int .i64 ((pre u i).length:Nat),.int .i64 i,.ptr lx 0,.int .i64 n,.int .i64 (j:Nat)]/\j+k=n/\h' = d) ?_ (k:=n) ⟨0,rfl,by omega,rfl⟩;rintro Y _ _ _ _ _ _ _ d ⟨j,⟨⟩,aE,rfl⟩;unfold mF;by_cases hj:j<n
   ·refine ltYes ?_;have ht:=wAA (show j<B.next.length by omega);have bu:B.next[j]<u.blocks.length:=g.nx i _ (by unfold next;rw[hB];exact wAR (show j<B.next.length by omega));generalize B.next[j]=t at*;obtain⟨l3,o3,_,P,R⟩:=aU.nat ht .i64;refine oF (p.ld 0 rfl rfl) (d9 P (d9 R (oF (p.ld 2 rfl rfl) (d9 u2.b.len (Ao bu ⟨wAF _,?_⟩)))));refine jE (if_t rfl ?_);exact gj (m:=1) (by have:=xo g hB;omega) (by omega) ⟨Y-1,by omega,j+1,rfl,by omega,rfl⟩
   refine ltNo ?_;clear z1 z2 z5 W O
   refine tz (λk l h'=>∃(j:Nat) (seen:List Bool),l=[.ptr lu 0,.slice lk 0 u.vals.length,.int .i64 ((pre u i).length+j:Nat),.int .i64 i,.ptr lx 0,.int .i64 j]/\j+k=B.vals.length/\Sn F h U h'/\Sn U d U h'/\seen.length=u.vals.length/\(∀v:Nat,seen[v]? =some true↔v∈pre u i++B.vals.take j)/\Hold U h' (cellP lx 44 (bkC B bv bn bp)::rowP eB tyBool seen (.slice lk 0 u.vals.length)::cellP lu 30 (uC u vv vb vs)::cs)) ?_ (k:=B.vals.length)
    ⟨0,seen,rfl,by omega,am,Sn.refl _ _,bq,λv=>by rw[br v,wBU,wAa],p⟩
   rintro k3 _ _ _ _ _ _ h3 ⟨j,sn,⟨⟩,bZ,s3,aV,aW,aC,H3⟩;unfold l0;have aX:=bt.since aV;have u3:=hu.since s3;have b4:=uI g hB;refine oF (H3.ld 0 rfl rfl) (d9 aX.len ?_);by_cases hj:j<B.vals.length
   ·refine ltYes ?_;have hv:=wAA hj;have bw:=wAT hj;generalize B.vals[j]=v at*;have aD:At u v i j:=⟨B,hB,hv⟩
    have bx:=g.atlt v i j aD;obtain⟨l3,o3,_,P,R⟩:=aX.nat hv .i64;have aY:v ∉ pre u i++B.vals.take j:=λhm=>by
     rcases wAV.1 hm with A|A
     ·obtain⟨c,m,d,h3⟩:=zB.1 A;have:=(g.at2 _ _ _ _ _ d aD).1;omega
     ·obtain⟨m,hm⟩:=wAD.1 A;rw[List.getElem?_take]at hm;split at hm
      ·have:=(g.at2 _ _ _ _ _ ⟨B,hB,hm⟩ aD).2;omega
      ·cases hm
    have bz:sn[v]? =some false:=by
     have A:=wAA (show v<sn.length by omega);have d:=aC v
     cases e:sn[v]with
     |true=>rw[A,e]at d;exact absurd (d.1 rfl) aY
     |false=>rw[A,e]
    obtain⟨l4,o4,w1,w2⟩:=H3.boolR 1 rfl bz .i64;have z0:pLd (.ptr lx (0+0)) h3=some bv:=H3.ld 0 rfl rfl;refine oF z0 (d9 P (d9 R (oF (H3.ld 2 rfl rfl) (d9 u3.v.len (Ao bx ⟨wAF _,?_⟩)))));refine d9 rfl (sP (by simp only[en,ed,z0,P,R,w1,w2]) (st_b (if_f (by simp) ?_)));obtain⟨l5,o5,h4,e1,e2,_,H4,s4⟩:=H3.stR 1 rfl (k:=v) (y:=true) (u:=V.bool true) (by omega) rfl rfl rfl;refine oF z0 (d9 P (d9 R (d9 e1 ?_)));rw[e2,ec];simp only[wAC,wAE]at H4;refine addOne (addOne ⟨k3-1,by omega,j+1,_,rfl,by omega,s3.trans s4,aV.trans s4,by rw[wA6];exact aW,λx=>?_,H4⟩);rw[bw,<-wAU,wAV,<-aC x,wAW];by_cases e:x=v
    ·subst e;rw[wAK (by omega)];exact⟨λ_=> .inr rfl,λ_=>rfl⟩
    ·rw[wAN λh=>e h.symm];exact⟨.inl,λh=>h.elim id λh=>absurd h e⟩
   ·refine ltNo ?_;obtain rfl:j=B.vals.length:=by omega
    refine addOne ⟨k-1,by omega,?_⟩;rw[hI];refine⟨i+1,sn,?_,by omega,s3,aW,λv=>?_,H3.tail⟩
    ·rw[wW hB,wAM]
    ·rw[aC v,wAg,wW hB]
  have c3:∀K:QP1,K (.bool false) d->oP (pGd false (V.bool false)) λbA=>oP (gV bA (pFA 1 (V.ptr lx 0))) λaZ=>oP (pGd false (V.bool false)) λbC=>oP (gV bC (pLd aZ d)) λa5=>oP (pGd false (V.bool false)) λbD=>oP (gV bD (hbin .eql 3 a5 (V.int .i64 3))) λa6=>oP (pGd false (V.bool false)) λbE=>oP (gV bE (some a6)) λr=>
    oP (pGd true r) λbG=>oP (gV bG (pFA 5 (V.ptr lx 0))) λa7=>oP (pGd true r) λbH=>oP (gV bH (pLd a7 d)) λa8=>oP (pGd true r) λbI=>oP (gV bI (pFA 4 (V.ptr lu 0))) λa9=>oP (pGd true r) λbJ=>oP (gV bJ (pLd a9 d)) λba=>oP (pGd true r) λbK=>oP (gV bK (pLen ba)) λbb=>
    oP (pGd true r) λbL=>oP (gC bL (some (fh,[a8,bb]))) λbQ=>cgP CS bQ d λbc h3=>oP (pGd true r) λao=>oP (gV ao (hun .not bc)) λbd=>oP (pOr (V.bool false) (pPick r bd (V.bool false))) λN=>K N h3:=λK HK=>by
   refine ez (d9 J (ez (d9 z1 ?_)));by_cases c:B.fin=3
   ·refine ez (d9 (eqlT (by omega)) (ez (d9 rfl ?_)));have hs:B.state<u.states.length:=by
     rcases g.fin i B hB with⟨e,_⟩|⟨e,_⟩|⟨_,_,e⟩
     ·omega
     ·omega
     ·exact e
    exact fi (d9 J (fi (d9 z5 (fi (d9 J (fi (d9 O (fi (d9 u2.s.len (uU (Ao hs (fi (d9 rfl (d9 rfl HK))))))))))))))
   ·exact ez (d9 (eqlF (by omega)) (ez (d9 rfl (ft (ft (ft (ft (ft (wZ (ft (d9 rfl HK)))))))))))
  refine oF (p.ld 0 rfl rfl) (d9 aU.len (d9 (neqF (by omega)) (ez (d9 J (ez (d9 z1 ?_))))));by_cases c:B.fin=2
  ·obtain ⟨y,M,Z⟩:Gives u B.cond:=by
    rcases g.fin i B hB with⟨e,_⟩|⟨_,_,e⟩|⟨e,_⟩
    ·omega
    ·exact e
    ·omega
   have bR:=(wAB.1 M).1;obtain⟨l4,o4,_,_,P,_,_,R⟩:=u2.val M;refine ez (d9 (eqlT (by omega)) (ez (d9 rfl ?_)));refine fi (d9 J (fi (d9 z2 (fi (d9 J (fi (d9 W (fi (d9 u2.v.len (uU (Ao bR ?_)))))))))));refine fi (d9 rfl (fi (d9 rfl ?_)));refine ez (d9 J (ez (d9 W (ez (d9 J (ez (d9 z2 (ez (d9 P (ez (d9 J (ez (d9 R.op (rr (rgives ?_)))))))))))))));rw[Z];refine ez (d9 rfl (fi (d9 rfl (d9 rfl ?_))));exact c3 (λN h3=>bP N _ _) (st_b (if_f (by simp) last))
  ·refine ez (d9 (eqlF (by omega)) (ez (d9 rfl ?_)));refine ft (ft (ft (ft (ft (wZ (ft (ft ?_)))))));refine gd_u (gd_u (gd_u (gd_u (gd_u (gd_u (gd_u (gc_u (gd_u (ft (d9 rfl ?_))))))))));exact c3 (λN h3=>bP N _ _) (st_b (if_f (by simp) last))
 have z1:pLd (.ptr lx (0+1)) d=some (.int .i64 B.fin):=p.ld 0 rfl rfl;refine oF z1 (fk ?_);rcases g.fin i B hB with⟨f1,f2⟩|⟨f1,f2,_⟩|⟨f1,f2,_⟩
 ·exact if_t (by omega) (aB 1 f2)
 ·exact if_f (by omega) (fk (if_t (by omega) (aB 2 f2)))
 ·exact if_f (by omega) (fk (if_f (by omega) (fk (if_t (by omega) (aB 0 (by rw[f2];rfl))))))
end
open Go.Proofs.YtpnddokajmjpbaaDoor.Un Go.Proofs.YtpnddokajmjpbaaDoor.Dm
section
variable{F F':Nat->Prop}{h h':Hp}{cs:List Pc}{Q:QP1}{u:U}{vv vb vs:V}
theorem seesE (g:Good u){w b:Nat}(h:SeesEnd u w b):∃c j,At u w c j/\(c=b/\j<1073741824\/c≠b/\Domi (next u) c b):=by
 obtain⟨c,j,a,d⟩:=h;refine⟨c,j,a,?_⟩;by_cases e:c=b
 ·obtain⟨B,f,i⟩:=a;have:=uI g f;have:=(wAB.1 i).1;exact .inl ⟨e,by omega⟩
 ·exact .inr ⟨e,d⟩
structure PlR (u:U) (i j:Nat) (blk plc:List Nat):Prop where
 nb:blk.length=u.vals.length
 np:plc.length=u.vals.length
 yes:∀(v c m:Nat),At u v c m->(c<i\/(c=i/\m<j))->blk[v]? =some c/\plc[v]? =some m
theorem PlR.step (g:Good u){i j v:Nat}{blk plc:List Nat}(S:PlR u i j blk plc)(d:At u v i j):PlR u i (j+1) (blk.set v i) (plc.set v j):=by
 have a:=g.atlt _ _ _ d;refine⟨by rw[wA6];exact S.nb,by rw[wA6];exact S.np,λw c m f hc=>?_⟩;by_cases e:w=v
 ·subst e;obtain⟨rfl,rfl⟩:=g.at2 _ _ _ _ _ f d;rw[wAK (by rw[S.nb];exact a),wAK (by rw[S.np];exact a)];exact⟨rfl,rfl⟩
 ·rw [wAN λh=>e h.symm,wAN λh=>e h.symm];refine S.yes w c m f ?_;rcases hc with hc|⟨rfl,hc⟩
  ·exact .inl hc
  ·refine .inr ⟨rfl,?_⟩;by_cases l:m=j
   ·subst l;obtain⟨B,n,o⟩:=f;obtain⟨p,b,k⟩:=d;rw[n]at b;cases b;rw[o]at k;cases k;exact absurd rfl e
   ·omega
theorem PlR.next {i:Nat}{B:Bk}{blk plc:List Nat}(d:u.blocks[i]? =some B)(S:PlR u i B.vals.length blk plc):PlR u (i+1) 0 blk plc:=by
 refine⟨S.nb,S.np,λv c m b hc=>S.yes v c m b ?_⟩;rcases hc with hc|⟨_,hc⟩
 ·by_cases e:c=i
  ·subst e;obtain⟨g,a,f⟩:=b;rw[d]at a;cases a;exact .inr ⟨rfl,(wAB.1 f).1⟩
  ·exact .inl (by omega)
 ·omega
theorem Hl (g:Good u){nxs:List (List Nat)}(c:nxs.length=u.blocks.length)(d:∀b:Nat,b<u.blocks.length->nxs[b]? =some (Un.next u b)):Nxs u.blocks.length (Un.next u) nxs:=by
 refine⟨g.nb0,g.nb,c,d,λb e=>?_,λb _ t f=>g.nx b t f⟩;have a:=wAA e;have:Un.next u b=u.blocks[b].next:=by unfold Un.next;rw[a]
 rw[this];exact xo g a
theorem EG (g:Good u){b k v:Nat}{x:Vl}{B:Bk}(c:u.blocks[b]? =some B)(a:At u v b k)(d:u.vals[v]? =some x)(e:isHead x.op=true):∀(j w:Nat)(y:Vl),j<k->B.vals[j]? =some w->u.vals[w]? =some y->isHead y.op=true:=
 λj w y i f h=>headsUp g a d e ⟨B,c,f⟩ h (by omega)
theorem J0:(eL eN).rel F h [] [.nilSlice]:=⟨.nilSlice,rfl,.nil⟩
theorem Ju {len n l o m:Nat}{kd:IntKind}(a:m<len):pIxA len n (.ptr l o) (.int kd (m:Nat))=some (.ptr l (o+m*n)):=by
 show bB (Nat.blt m len) _=_;rw[go _ (by rw[wBV];exact a)];rfl
theorem F0 (op:Nat):(((op:Int) == 21) ||((op:Int) == 1))=isHead op:=by
 unfold isHead;rw[show((op:Int) == 21)=(op == 21) from ieq _ 21,show((op:Int) == 1)=(op == 1) from ieq _ 1,Bool.or_comm]
theorem Jf {blk plc:List Nat}{dss:List (List Bool)}{wb wp wd pv:V}{lu lo To:Nat}(g:Good u)(o:OrdR u blk plc dss)(H0:Hold F h (cellP lo To (orC u vv vb vs wb wp wd)::cellP lu 30 (uC u vv vb vs)::cs))(hu:URd F h u vv vb vs)
  (M:SlR eN F h blk wb) (hp:SlR eN F h plc wp) (hd:SlR (eL eB) F h dss wd) (r:SlR (eL eN) F h ((List.range u.blocks.length).map (Un.ahead u)) pv) (H:∀F' h',Sn F h F' h'->Hold F' h' cs->Q (.bool true) h') :
  iP CS Q [.ptr lu 0,pv,.ptr lo 0,.int .i64 0] h:=by
 have nv:=g.nv;have nb:=g.nb;have pf:∀{l o k:Nat},pFA k (.ptr l o)=some (.ptr l (o+k)):=ed _ _ _;have al:∀b:Nat,b<u.blocks.length->((List.range u.blocks.length).map (Un.ahead u))[b]? =some (Un.ahead u b):=λb M=>by rw[wAQ,wBm M];rfl
 obtain⟨I,hI⟩:∃I:Nat->LP,I=λk l h'=>∃(F':Nat->Prop) (i:Nat),l=[.ptr lu 0,pv,.ptr lo 0,.int .i64 i]/\i+k=u.blocks.length/\Sn F h F' h'/\Hold F' h' (cellP lo To (orC u vv vb vs wb wp wd)::cellP lu 30 (uC u vv vb vs)::cs):=⟨_,rfl⟩
 refine te I (λk x1 x3 x4 x5 h1 hi=>?_) (k:=u.blocks.length) ?_;rotate_left
 ·rw[hI];exact⟨F,0,rfl,by omega,Sn.refl _ _,H0⟩
 rw[hI]at hi;obtain⟨F1,i,⟨⟩,hk,s1,H1⟩:=hi;unfold my;refine oF (H1.ld 1 rfl rfl) (d9 (hu.since s1).b.len ?_);by_cases hi:i<u.blocks.length;rotate_left
 ·exact ltNo (H F1 h1 s1 H1.tail.tail)
 refine ltYes ?_;have K:=wAA hi;generalize u.blocks[i]=B at*;obtain⟨l1,o1,U,W,X,_,x1,x2,iv,iN,ip,_⟩:=(hu.since s1).blk K;refine oF (H1.ld 1 rfl rfl) (d9 x1 (d9 x2 ?_));refine fU H1 rfl rfl (by simp only[bkC,ee,iv.one,iN.one,ip.one];rfl) λh2 H2 s2=>?_;generalize h1.next=lx at*;have H2:Hold F1 h2 (cellP lx 44 (bkC B U W X)::_):=H2;have iv:=iv.since s2;have am:=s1.trans s2;have hnext:∀{A d},Sn F h A d->Hold A d (cellP lx 44 (bkC B U W X)::cellP lo To (orC u vv vb vs wb wp wd)::cellP lu 30 (uC u vv vb vs)::cs)->oP (hbin .add 3 (V.int .i64 i) (V.int .i64 1)) λaa=>ltI I k [.ptr lu 0,pv,.ptr lo 0,aa] d:=λ{A d} f s=>by
  refine addOne ⟨k-1,by omega,?_⟩;rw[hI];exact⟨A,i+1,rfl,by omega,f,s.tail⟩
 have ax:=uI g K;obtain⟨I6,N⟩:∃I:Nat->LP,I=λk l h'=>∃(F':Nat->Prop) (m:Nat),l=[.ptr lu 0,pv,.ptr lo 0,.int .i64 i,.ptr lx 0,.int .i64 m]/\m+k=B.vals.length/\Sn F h F' h'/\Sn F1 h2 F' h'/\Hold F' h' (cellP lx 44 (bkC B U W X)::cellP lo To (orC u vv vb vs wb wp wd)::cellP lu 30 (uC u vv vb vs)::cs):=⟨_,rfl⟩
 refine tn I6 (λk6 x1 x3 x4 x5 x6 x7 Y ab=>?_) (k:=B.vals.length) ?_;rotate_left
 ·rw[N];exact⟨F1,0,rfl,by omega,am,Sn.refl _ _,H2⟩
 rw[N]at ab;clear H2 H1;obtain⟨F3,m,⟨⟩,ay,C,ac,z⟩:=ab;unfold mj;have ae:=iv.since ac;refine oF (z.ld 0 rfl rfl) (d9 ae.len ?_);have u3:=hu.since C;by_cases hm:m<B.vals.length
 ·refine ltYes ?_;have hv:=wAA hm;generalize B.vals[m]=v at*;have D:At u v i m:=⟨B,K,hv⟩
  obtain⟨x,P⟩:∃x,u.vals[v]? =some x:=⟨_,wAA (g.atlt v i m D)⟩
  obtain⟨l4,o4,an,y1,y2⟩:=ae.nat hv .i64;obtain⟨l5,o5,w,ao,Z,z2,xw,_⟩:=u3.val P;refine oF (z.ld 2 rfl rfl) (oF (z.ld 0 rfl rfl) (d9 y1 (d9 y2 (d9 Z (d9 z2 ?_)))));rw[fD];obtain⟨H4,s4⟩:=z.newC 42 [V.int .i64 0,V.int .i64 0,V.int .i64 0,V.int .i64 0,V.nilSlice,V.int .i64 0];have g4:(Y.new (.cells 42 1 true false [V.int .i64 0,V.int .i64 0,V.int .i64 0,V.int .i64 0,V.nilSlice,V.int .i64 0])).get Y.next=some (.cells 42 1 true false [V.int .i64 0,V.int .i64 0,V.int .i64 0,V.int .i64 0,V.nilSlice,V.int .i64 0]):=ef _ _;generalize Y.new (.cells 42 1 true false [V.int .i64 0,V.int .i64 0,V.int .i64 0,V.int .i64 0,V.nilSlice,V.int .i64 0])=h4 at*;refine⟨⟨g4,O.beq_cells _ _ _ _ _⟩,zZ z2 (s4.keep _ ao),gQ y2 (s4.keep _ an),H4.ld 1 rfl rfl,H4.ld 3 rfl rfl,?_⟩;obtain⟨h5,e5,n5,H5,s5⟩:=H4.stA 0 (ws:=vlC x w) (n:=6) rfl rfl rfl (by simp only[vlC,ee,xw.one];rfl);rw[e5,ec];simp only[wAC]at H5;refine⟨n5,d9 (H5.ldA 0 rfl rfl) ?_⟩;generalize Y.next=ly at*;have R:=s4.trans s5;refine yw H5 (xw.since R) λF6 h6 uv s6 H6 r6=>?_;have aA:=w9 λh=>ux g P h;have ap:=(C.trans R).trans s6;have aq:=(ac.trans R).trans s6;clear H5 H4 e5 n5;obtain⟨I7,S⟩:∃I:Nat->LP,I=λk l h'=>∃(F':Nat->Prop) (j:Nat),l=[.ptr lu 0,pv,.ptr lo 0,.int .i64 i,.ptr lx 0,.int .i64 m,.ptr ly 0,uv,.int .i64 j]/\j+k=(uses x).length/\Sn F h F' h'/\Sn F6 h6 F' h'/\Hold F' h' (cellP ly 42 (vlC x w)::cellP lx 44 (bkC B U W X)::cellP lo To (orC u vv vb vs wb wp wd)::cellP lu 30 (uC u vv vb vs)::cs):=⟨_,rfl⟩
  refine td I7 (λk7 x1 x3 x4 x5 x6 x7 x8 x9 aB h7 ag=>?_) (k:=(uses x).length) ?_;rotate_left
  ·rw[S];exact⟨F6,0,rfl,by omega,ap,Sn.refl _ _,H6⟩
  rw[S]at ag;clear H6;obtain⟨F7,j,⟨⟩,aC,t,T,L⟩:=ag;unfold lL;have r7:=r6.since T;refine d9 r7.len ?_;have u7:=hu.since t;by_cases hj:j<(uses x).length
  ·refine ltYes ?_;have ha:=wAA hj;have ar:=wAR hj;generalize (uses x)[j]=a at*;obtain⟨l8,o8,_,q1,q2⟩:=r7.nat ha .i64;have ah:∀{d},Sn F7 h7 F7 d->Hold F7 d (cellP ly 42 (vlC x w)::cellP lx 44 (bkC B U W X)::cellP lo To (orC u vv vb vs wb wp wd)::cellP lu 30 (uC u vv vb vs)::cs)->gG CS Q (ltI I k) (ltI I6 k6) (ltI I7 k7) [.ptr lu 0,pv,.ptr lo 0,.int .i64 i,.ptr lx 0,.int .i64 m,.ptr ly 0,uv,.int .i64 j] d:=λ{d} f s=>by
    refine sr ?_;unfold kL;refine addOne ⟨k7-1,by omega,?_⟩;rw[S];exact⟨F7,j+1,rfl,by omega,t.trans f,T.trans f,s⟩
   refine oF (L.ld 0 rfl rfl) (fk ?_);by_cases c:x.op=21
   ·refine if_t (by omega) ?_;obtain⟨_,aD⟩:=g.phi v i m x B D P c K;have au:uses x=x.args:=by unfold uses;rw[if_pos c]
    rw[au]at ha hj;have y:∃p,B.preds[j]? =some p:=⟨_,wAA (by omega)⟩
    obtain ⟨p,y⟩:=y;obtain⟨ca,ja,E,G⟩:=seesE g (g.seesP v i m x B D P c K j a p ha y);have aw:p<u.blocks.length:=by
     have hm:=wAI y;rw[g.preds i B K]at hm;obtain⟨q,B',h1,_,Y⟩:=nT.1 hm;have:=(wAB.1 h1).1;omega
    obtain⟨la,oa,wr,_,t1,t2,t3⟩:=(r.since t).list (al i hi) .i64;rw[g.preds i B K]at y;obtain⟨lc,oc,_,t4,t5⟩:=t3.nat y .i64;refine d9 (L.ldA 2 rfl rfl) (d9 q1 (d9 q2 (d9 t1 (d9 t2 (d9 t4 (d9 t5 ?_))))));refine xN o L u7 (M.since t) (hp.since t) (hd.since t) (k:=1073741824) E aw G λd f s=>?_;exact⟨f.next,jE (if_t rfl (ah f s))⟩
   ·refine if_f (by omega) ?_;obtain⟨ca,ja,E,G⟩:=g.seesV v i m x D P c a ar;refine d9 (L.ldA 2 rfl rfl) (d9 q1 (d9 q2 ?_));refine xN o L u7 (M.since t) (hp.since t) (hd.since t) E hi G λd f s=>?_;exact⟨f.next,jE (if_t rfl (ah f s))⟩
  refine ltNo ?_;have z0:pLd (.ptr ly (0+0)) h7=some (.int .i64 x.op):=L.ld 0 rfl rfl;refine oF z0 (d9 (fF ..) (d9 (a:= .bool (leaves x.op)) ?_ ?_))
  ·simp only[en,ed,z0,fF,sU];unfold leaves;rw[show((x.op:Int) == 22)=(x.op == 22) from ieq _ 22,show((x.op:Int) == 23)=(x.op == 23) from ieq _ 23]
  have ai:∀{A d},Sn F7 h7 A d->Hold A d (cellP ly 42 (vlC x w)::cellP lx 44 (bkC B U W X)::cellP lo To (orC u vv vb vs wb wp wd)::cellP lu 30 (uC u vv vb vs)::cs)->oP (hbin .add 3 (V.int .i64 m) (V.int .i64 1)) λaj=>ltI I6 k6 [.ptr lu 0,pv,.ptr lo 0,.int .i64 i,.ptr lx 0,aj] d:=λ{A d} f s=>by
   refine addOne ⟨k6-1,by omega,?_⟩;rw[N];exact⟨A,m+1,rfl,by omega,t.trans f,(aq.trans T).trans f,s.tail⟩
  cases hl:leaves x.op with
  | true=>
    obtain⟨fs,J⟩:∃fs,u.states[x.state]? =some fs:=⟨_,wAA (g.leave v x P hl)⟩
    refine fi (d9 (L.ldA 2 rfl rfl) (fi (d9 pf (fi (d9 (L.ld 0 rfl rfl) (fi (d9 rfl (fi (d9 rfl (uU ?_))))))))));refine CK o g L u7 (M.since t) (hp.since t) (hd.since t) J hi (λw hw=>g.seesS v i m x fs D P hl J w hw) λA d f s=>?_
    exact d9 rfl (st_b (if_f (by simp) (ai f s)))
  | false=>
    refine ft (ft (ft (ft (ft (wZ ?_)))));exact d9 rfl (st_b (if_f (by simp) (ai (Sn.refl _ _) L)))
 refine ltNo ?_;have Z:pLd (.ptr lx (0+1)) Y=some (.int .i64 B.fin):=z.ld 0 rfl rfl;refine oF Z ?_;by_cases c2:B.fin=2
 ·obtain⟨ca,ja,E,G⟩:=seesE g (g.seesC i B K c2);refine d9 (eqlT (by omega)) (fi (d9 (z.ldA 1 rfl rfl) (fi (d9 pf (fi (d9 (z.ld 0 rfl rfl) (fi (d9 rfl (uU ?_)))))))));refine xN o z u3 (M.since C) (hp.since C) (hd.since C) (k:=1073741824) E hi G λd f s=>?_;have Z:pLd (.ptr lx (0+1)) d=some (.int .i64 B.fin):=s.ld 0 rfl rfl;refine d9 rfl (ez (d9 pf (ez (d9 Z (ez (d9 (eqlF (by omega)) (ez (d9 rfl ?_))))))));refine ft (ft (ft (ft (wZ (ft (d9 rfl (st_b (if_f (by simp) ?_))))))));exact hnext (C.trans f) s
 ·refine d9 (eqlF (by omega)) (ft (ft (ft (ft (wZ (d9 rfl ?_))))));refine ez (d9 pf (ez (d9 Z ?_)));by_cases c3:B.fin=3
  ·have hs:B.state<u.states.length:=by
    rcases g.fin i B K with⟨e,_⟩|⟨e,_⟩|⟨_,_,e⟩
    ·omega
    ·omega
    ·exact e
   have J:=wAA hs;generalize u.states[B.state]=fs at*;refine ez (d9 (eqlT (by omega)) (ez (d9 rfl ?_)));refine fi (d9 (z.ldA 1 rfl rfl) (fi (d9 pf (fi (d9 (z.ld 0 rfl rfl) (fi (d9 rfl (uU ?_))))))));refine CK o g z u3 (M.since C) (hp.since C) (hd.since C) (k:=1073741824) J hi (λw hw=>seesE g (g.seesO i B fs K c3 J w hw)) λA d f s=>?_;exact fi (d9 rfl (d9 rfl (st_b (if_f (by simp) (hnext (C.trans f) s)))))
  ·refine ez (d9 (eqlF (by omega)) (ez (d9 rfl ?_)));exact ft (ft (ft (ft (wZ (ft (d9 rfl (st_b (if_f (by simp) (hnext C z)))))))))
theorem Dy (g:Good u)(H0:Hold F h cs)(Z:URd F h u vv vb vs)(H:∀F' h',Sn F h F' h'->Hold F' h' cs->Q (.bool true) h'):cP CS iE [.agg (uC u vv vb vs)] h Q:=by
 refine vH rfl rfl ?_;unfold px;have nv:=g.nv;have nb:=g.nb;have nb0:=g.nb0;have pf:∀{l o k:Nat},pFA k (.ptr l o)=some (.ptr l (o+k)):=ed _ _ _;refine kh H0 Z.one λh1 H1 s1=>?_;generalize h.next=lu at*;refine d9 (H1.ldA 0 rfl rfl) (Hk g H1 (Z.since s1) λF2 M s2 G=>?_);have ag:=s1.trans s2;refine jE (if_t rfl (d9 (G.ldA 0 rfl rfl) (GY g G (Z.since ag) λF3 h3 pv J r r3=>?_)));have aq:=ag.trans J;refine oF (r.ld 0 rfl rfl) (d9 (Z.since aq).b.len ?_);rw[gh (z:=V.nilSlice) rfl (by decide) (by omega),ev];obtain⟨R,s4⟩:=r.make (E:=eL eN) (ty:=tyInts) (y:=[]) (u:= .nilSlice) u.blocks.length J0 rfl;generalize h3.new (.cells tyInts 1 true false (List.replicate u.blocks.length V.nilSlice))=h4 at*;generalize h3.next=ln at*;have aa:∀b:Nat,b<u.blocks.length->((List.range u.blocks.length).map (Un.ahead u))[b]? =some (Un.ahead u b):=λb hb=>by rw[wAQ,wBm hb];rfl
 obtain ⟨I,K⟩:∃I:Nat->LP,I=λk l h'=>∃(i:Nat) (xss:List (List Nat)),l=[.ptr lu 0,pv,.slice ln 0 u.blocks.length,.int .i64 i]/\i+k=u.blocks.length/\Sn F3 h3 F3 h'/\xss.length=u.blocks.length/\(∀j:Nat,j<i->xss[j]? =some (Un.next u j))/\
   Hold F3 h' (rowP (eL eN) tyInts xss (.slice ln 0 u.blocks.length)::cellP lu 30 (uC u vv vb vs)::cs):=⟨_,rfl⟩
 refine tC I (λk d x3 x4 x5 h5 hi=>?_) (k:=u.blocks.length) ?_;rotate_left
 ·rw[K];exact⟨0,_,rfl,by omega,s4,wAi,λj hj=>by omega,R⟩
 rw[K]at hi;clear R s4 h4 G H1 s1 s2 ag;obtain⟨i,xss,⟨⟩,hk,S,ar,au,U⟩:=hi;unfold lQ;have A:=aq.trans S;have u5:=Z.since A;refine oF (U.ld 1 rfl rfl) (d9 u5.b.len ?_);by_cases hi:i<u.blocks.length
 ·refine ltYes ?_;have f:=wAA hi;generalize u.blocks[i]=B at*;obtain⟨l1,o1,bv,bn,bp,_,d,x2,iv,iN,ip,xb⟩:=u5.blk f;refine oF (U.ld 1 rfl rfl) (d9 d (oF xb.next ?_));obtain⟨l6,o6,h6,e1,e2,_,p,C⟩:=U.stR 0 rfl (k:=i) (y:=B.next) (u:=bn) (by omega) rfl iN.one ⟨bn,rfl,iN⟩;refine d9 e1 ?_;rw[e2,ec];simp only[wAC]at p;have N:=A.trans C;have u6:=Z.since N;have r6:=(r3.since S).since C;have a8:=iN.since C;obtain⟨l7,o7,a9,ba,bb,_,y1,_,_,_,aK,yb⟩:=u6.blk f;rw[d]at y1;cases y1;obtain⟨l8,o8,pr,_,z1,z2,zr⟩:=r6.list (aa i hi) .i64;refine oF (p.ld 1 rfl rfl) (d9 d (oF yb.preds (d9 z1 (d9 z2 ?_))));refine Jv aK (by rw[g.preds i B f];exact zr) (by have:=yO g f;omega) ?_;refine⟨wAF _,jE (if_t rfl ?_)⟩;have k3:pLd (.ptr lu (0+3)) h6=some vb:=p.ld 1 rfl rfl;obtain⟨l9,o9,bc,ah,bd,_,y2,_,_,aw,_,ax⟩:=u6.blk f;rw[d]at y2;cases y2;refine oF k3 (d9 d (oF ax.next (d9 aw.len (d9 (fF ..) ?_))));refine d9 (a:= .bool false) ?_ (st_b (if_f (by simp) ?_))
  ·by_cases c:B.next.length=2
   ·rw [show((B.next.length:Int) == 2)=true by rw[wAt];omega,rX];have aL:B.fin=2:=by
     rcases g.fin i B f with⟨_,h⟩|⟨h,_⟩|⟨_,h,_⟩
     ·omega
     ·exact h
     ·rw[h]at c;simp at c
    have tt:∀j:Nat,j<2->∃l o t l' o' w,pIx 1 ah (.int .i64 (j:Nat))=some (.ptr l o)/\pLd (.ptr l o) h6=some (.int .i64 (t:Nat))/\pIx 1 pv (.int .i64 (t:Nat))=some (.ptr l' o')/\pLd (.ptr l' o') h6=some w/\pLen w=some (.int .i64 ((1:Nat):Int)):=λj hj=>by
     have ht:=wAA (show j<B.next.length by omega);have L:=wAR (show j<B.next.length by omega);have aM:=g.crit i B f aL _ L;have aN:B.next[j]<u.blocks.length:=g.nx i _ (by unfold next;rw[f];exact L);obtain⟨l,o,_,q1,q2⟩:=aw.nat ht .i64;obtain⟨l',o',w,_,q3,q4,q5⟩:=r6.list (aa _ aN) .i64;exact⟨l,o,_,l',o',w,q1,q2,q3,q4,by rw[q5.len,aM]⟩
    obtain⟨a1,a2,a3,a4,a5,a6,b1,b2,b3,b4,b5⟩:=tt 0 (by omega);obtain⟨c1,c2,c3,c4,c5,c6,d1,d2,d3,d4,d5⟩:=tt 1 (by omega);have b1:pIx 1 ah (.int .i64 0)=some (.ptr a1 a2):=b1;have d1:pIx 1 ah (.int .i64 1)=some (.ptr c1 c2):=d1;simp only[en,ed,k3,d,ax.next,b1,b2,b3,b4,b5,d1,d2,d3,d4,d5,neqF (show(((1:Nat):Int))=1 from rfl),jC]
   ·rw[show((B.next.length:Int) == 2)=false by rw[wAz];omega,E8]
  ·refine addOne ⟨k-1,by omega,?_⟩;rw[K];refine⟨i+1,_,rfl,by omega,S.trans C,by rw[wA6];exact ar,λj hj=>?_,p⟩;by_cases e:j=i
   ·subst e;rw[wAK (by omega)];unfold next
    rw[f]
   ·rw[wAN λh=>e h.symm];exact au j (by omega)
 refine ltNo ?_;obtain rfl:i=u.blocks.length:=by omega
 clear hk hi k K I;have r5:=r3.since S;obtain⟨l6,o6,pr,_,z1,z2,zr⟩:=r5.list (aa 0 (by omega)) .i64;have z1:pIx 1 pv (.int .i64 0)=some (.ptr l6 o6):=z1;refine d9 z1 (d9 z2 (d9 zr.len (tS (if_f (by rw[g.preds0];simp) ?_))));obtain⟨p,C,rn⟩:=U.freezeR 0 rfl;simp only[wAC]at p;have p:=p.tail;have W:=Hl g ar au;generalize aO:(λl=>F3 l\/Loc (V.slice ln 0 u.blocks.length) l)=P at*;have N:=A.trans C;have r6:=r5.since C;have u6:=Z.since N;clear U S r aO r5 r3 u5 A z1 z2 zr;refine Be W (-1) p rn λh7 sv seen s7 H7 aP aQ=>?_;have ay:∀b:Nat,b<u.blocks.length->seen[b]? =some true:=λb hb=>by
  obtain⟨l,hl⟩:=g.reach b hb;exact(aQ b).2 ⟨l,hl,λx _=>by omega⟩
 refine tB (λk l h'=>∃i:Nat,l=[.ptr lu 0,pv,.slice ln 0 u.blocks.length,sv,.int .i64 (i:Nat)]/\i+k=u.blocks.length/\h' = h7) ?_ (k:=u.blocks.length) ⟨0,rfl,by omega,rfl⟩;rintro k _ _ _ _ _ h7 ⟨i,⟨⟩,hk,rfl⟩;unfold mr;refine d9 (H7.len 0 rfl) ?_;rw[aP];by_cases hi:i<u.blocks.length
 ·refine ltYes ?_;obtain⟨l8,o8,y1,y2⟩:=H7.boolR 0 rfl (ay i hi) .i64;refine d9 y1 (d9 y2 (jE (if_t rfl ?_)));exact addOne ⟨k-1,by omega,i+1,rfl,by omega,rfl⟩
 refine ltNo ?_;clear hk hi k i;have H7:=H7.tail;have ai:=N.trans s7;refine oF (H7.ld 0 rfl rfl) (d9 (Z.since ai).v.len ?_);rw[gh (z:=V.int .i64 0) rfl (by decide) (by omega),ev];obtain⟨H8,s8⟩:=H7.make (E:=eN) (ty:=tyInt) (y:=0) (u:=V.int .i64 0) u.vals.length rfl rfl;generalize h7.new (.cells tyInt 1 true false (List.replicate u.vals.length (V.int .i64 0)))=h8 at*;generalize h7.next=lb at*;have aA:=ai.trans s8;refine oF (H8.ld 1 rfl rfl) (d9 (Z.since aA).v.len ?_);rw[gh (z:=V.int .i64 0) rfl (by decide) (by omega),ev];obtain⟨H9,s9⟩:=H8.make (E:=eN) (ty:=tyInt) (y:=0) (u:=V.int .i64 0) u.vals.length rfl rfl;generalize h8.new (.cells tyInt 1 true false (List.replicate u.vals.length (V.int .i64 0)))=h9 at*;generalize h8.next=lp at*;have X:=(s7.trans s8).trans s9;clear H8 H7 s8 s7 ai aA p;have u9:=u6.since X;have r9:=r6.since X;have aR:=rn.since X;have aS:=N.trans X;clear X N s9 u6 r6 rn
 obtain ⟨I,K⟩:∃I:Nat->LP,I=λk l h'=>∃(i:Nat) (blk plc:List Nat),l=[.ptr lu 0,pv,.slice ln 0 u.blocks.length,.slice lb 0 u.vals.length,.slice lp 0 u.vals.length,.int .i64 i]/\i+k=u.blocks.length/\Sn P h9 P h'/\PlR u i 0 blk plc/\
   Hold P h' (rowP eN tyInt plc (.slice lp 0 u.vals.length)::rowP eN tyInt blk (.slice lb 0 u.vals.length)::cellP lu 30 (uC u vv vb vs)::cs):=⟨_,rfl⟩
 refine tG I (λk d x3 x4 x5 x6 x7 h1 hi=>?_) (k:=u.blocks.length) ?_;rotate_left
 ·rw[K];exact⟨0,_,_,rfl,by omega,Sn.refl _ _,⟨wAi,wAi,λv c m _ hc=>by omega⟩,H9⟩
 rw[K]at hi;clear H9;obtain⟨i,blk,plc,⟨⟩,hk,s1,P1,H1⟩:=hi;unfold lV;have u1:=u9.since s1;refine oF (H1.ld 2 rfl rfl) (d9 u1.b.len ?_);by_cases hi:i<u.blocks.length
 ·refine ltYes ?_;have f:=wAA hi;generalize u.blocks[i]=B at*;have be:=uI g f
  obtain ⟨I4,aj⟩:∃I:Nat->LP,I=λk l h'=>∃(j:Nat) (fst:Bool) (blk plc:List Nat),l=[.ptr lu 0,pv,.slice ln 0 u.blocks.length,.slice lb 0 u.vals.length,.slice lp 0 u.vals.length,.int .i64 i,.bool fst,.int .i64 j]/\j+k=B.vals.length/\Sn P h9 P h'/\PlR u i j blk plc/\
    (fst=true↔∀(m w:Nat) (y:Vl),m<j->B.vals[m]? =some w->u.vals[w]? =some y->isHead y.op=true)/\
    Hold P h' (rowP eN tyInt plc (.slice lp 0 u.vals.length)::rowP eN tyInt blk (.slice lb 0 u.vals.length)::cellP lu 30 (uC u vv vb vs)::cs):=⟨_,rfl⟩
  refine sZ I4 (λk4 d x3 x4 x5 x6 x7 x8 x9 M aB=>?_) (k:=B.vals.length) ?_;rotate_left
  ·rw[aj];exact⟨0,true,blk,plc,rfl,by omega,s1,P1,⟨λ_ m _ _ L=>by omega,λ_=>rfl⟩,H1⟩
  rw[aj]at aB;clear H1 P1 u1 s1 blk plc;obtain⟨j,fst,blk,plc,⟨⟩,bf,s2,P2,ae,G⟩:=aB;unfold mD;have u2:=u9.since s2;obtain⟨l1,o1,bv,bn,bp,ab,d,_,iv,_,_,xb⟩:=u2.blk f;refine oF (G.ld 2 rfl rfl) (d9 d (oF xb.vals (d9 iv.len ?_)));by_cases hj:j<B.vals.length;rotate_left
  ·refine ltNo ?_;obtain rfl:j=B.vals.length:=by omega
   refine addOne ⟨k-1,by omega,?_⟩;rw[K];exact⟨i+1,blk,plc,rfl,by omega,s2,P2.next f,G⟩
  refine ltYes ?_;have hv:=wAA hj;generalize B.vals[j]=v at*;have q:At u v i j:=⟨B,f,hv⟩
  have al:=g.atlt v i j q;obtain⟨x,hx⟩:∃x,u.vals[v]? =some x:=⟨_,wAA al⟩
  obtain⟨l4,o4,ac,y1,y2⟩:=iv.nat hv .i64;obtain⟨l5,o5,w,aT,z1,z2,xw,_⟩:=u2.val hx;refine oF (G.ld 2 rfl rfl) (oF (G.ld 2 rfl rfl) (d9 d (oF xb.vals (d9 y1 (d9 y2 (d9 z1 (d9 z2 ?_)))))));rw[fD];obtain⟨r,J⟩:=G.newC 42 [V.int .i64 0,V.int .i64 0,V.int .i64 0,V.int .i64 0,V.nilSlice,V.int .i64 0];have g3:(M.new (.cells 42 1 true false [V.int .i64 0,V.int .i64 0,V.int .i64 0,V.int .i64 0,V.nilSlice,V.int .i64 0])).get M.next=some (.cells 42 1 true false [V.int .i64 0,V.int .i64 0,V.int .i64 0,V.int .i64 0,V.nilSlice,V.int .i64 0]):=ef _ _;generalize M.new (.cells 42 1 true false [V.int .i64 0,V.int .i64 0,V.int .i64 0,V.int .i64 0,V.nilSlice,V.int .i64 0])=h3 at*;refine⟨⟨g3,O.beq_cells _ _ _ _ _⟩,zZ z2 (J.keep _ aT),gQ y2 (J.keep _ ac),gQ xb.vals (J.keep _ ab),r.ld 3 rfl rfl,r.ld 3 rfl rfl,?_⟩;obtain⟨h4,e4,n4,R,s4⟩:=r.stA 0 (ws:=vlC x w) (n:=6) rfl rfl rfl (by simp only[vlC,ee,xw.one];rfl);rw[e4,ec];simp only[wAC]at R;refine⟨n4,?_⟩;generalize M.next=ly at*;have aC:pLd (.ptr l1 (o1+0)) h4=some bv:=gQ (gQ xb.vals (J.keep _ ab)) (s4.keep _ ab);have aD:pLd (.ptr l4 o4) h4=some (.int .i64 v):=gQ (gQ y2 (J.keep _ ac)) (s4.keep _ ac);refine oF (R.ld 3 rfl rfl) (d9 d (oF aC (d9 y1 (d9 aD ?_))));obtain⟨l6,o6,h5,e5,e6,n5,U,S⟩:=R.stR 2 rfl (k:=v) (y:=i) (u:=V.int .i64 i) (by rw[P2.nb];exact al) rfl rfl rfl;refine d9 e5 ?_;rw[e6,ec];simp only[wAC,wAE]at U;have aU:pLd (.ptr l1 (o1+0)) h5=some bv:=gQ aC (S.keep _ ab);have aV:pLd (.ptr l4 o4) h5=some (.int .i64 v):=gQ aD (S.keep _ ac);refine oF (U.ld 3 rfl rfl) (d9 d (oF aU (d9 y1 (d9 aV ?_))));obtain⟨l7,o7,h6,e7,e8,n6,p,C⟩:=U.stR 1 rfl (k:=v) (y:=j) (u:=V.int .i64 j) (by rw[P2.np];exact al) rfl rfl rfl;refine d9 e7 ?_;rw[e8,ec];simp only[wAC,wAE]at p;have am:=((J.trans s4).trans S).trans C;have z0:pLd (.ptr ly (0+0)) h6=some (.int .i64 x.op):=p.ld 0 rfl rfl;have z4:pLd (.ptr ly (0+4)) h6=some w:=p.ld 0 rfl rfl;have w6:=xw.since am;have r6:=(r9.since s2).since am;obtain⟨lr,bg,pr,_,p1,p2,p3⟩:=r6.list (aa i hi) .i64;have aW:isHead x.op=true->fst=true:=λhh=>ae.2 (EG g f q hx hh);refine oF z0 (d9 (fF ..) (d9 (a:= .bool (isHead x.op)) (by simp only[en,ed,z0,fF,sU,F0]) (d9 (a:= .bool false) ?_ (sP ?_ (sP ?_ (st_b (if_f (by simp) ?_)))))))
  ·show pAnd _ (some (V.bool (!fst)))=_;rw[gv]
   cases hh:isHead x.op with
   |true=>rw[aW hh];rfl
   |false=>rfl
  ·simp only[en,ed,z0];by_cases c:x.op=21
   ·obtain⟨h0,hl⟩:=g.phi v i j x B q hx c f;rw[eqlT (by omega)];simp only[en,rX,z4,w6.len,p1,p2,p3.len];rw[neqF (by rw[hl,g.preds i B f])];simp only[en,jC];exact eqlF (by omega)
   ·rw[eqlF (by omega)];rfl
  ·simp only[en,ed,z0];by_cases c:x.op=1
   ·have h0:=g.par v i j x q hx c;rw[eqlT (by omega)];simp only[en,rX];exact neqF (by omega)
   ·rw[eqlF (by omega)];rfl
  ·rw [gv];refine d9 rfl (addOne ⟨k4-1,by omega,?_⟩);rw[aj];refine⟨j+1,_,_,_,rfl,by omega,s2.trans am,P2.step g q,?_,p.tail⟩;rw[wAJ,ae];constructor
   ·rintro⟨h1,M⟩ m w' y L Y hy;by_cases e:m=j
    ·subst e;rw[hv]at Y;cases Y;rw[hx]at hy;cases hy;exact M
    ·exact h1 m w' y (by omega) Y hy
   ·intro h1;exact⟨λm w' y L Y hy=>h1 m w' y (by omega) Y hy,h1 j v x (by omega) hv hx⟩
 refine ltNo ?_;obtain rfl:i=u.blocks.length:=by omega
 clear hk hi k K I;refine uG H1 λM G s2=>?_;generalize h1.next=lq at*;obtain⟨Tp,G⟩:∃T,Hold P M (cellP lq T ((List.replicate 40 false).map V.bool)::rowP eN tyInt plc (.slice lp 0 u.vals.length)::rowP eN tyInt blk (.slice lb 0 u.vals.length)::cellP lu 30 (uC u vv vb vs)::cs):=⟨_,G⟩
 obtain ⟨I,K⟩:∃I:Nat->LP,I=λk l h'=>∃(i:Nat) (ps:List Bool),l=[.ptr lu 0,pv,.slice ln 0 u.blocks.length,.slice lb 0 u.vals.length,.slice lp 0 u.vals.length,.ptr lq 0,.int .i64 i]/\i+k=u.vals.length/\Sn P h9 P h'/\ps.length=40/\
   (∀m:Nat,ps[m]? =some true->∃(w:Nat) (y:Vl),w<i/\u.vals[w]? =some y/\y.op=1/\y.n=(m:Int))/\
   Hold P h' (cellP lq Tp (ps.map V.bool)::rowP eN tyInt plc (.slice lp 0 u.vals.length)::rowP eN tyInt blk (.slice lb 0 u.vals.length)::cellP lu 30 (uC u vv vb vs)::cs):=⟨_,rfl⟩
 refine tu I (λk d x3 x4 x8 x9 bh bi h3 hi=>?_) (k:=u.vals.length) ?_;rotate_left
 ·rw[K];refine⟨0,_,rfl,by omega,s1.trans s2,wAi,λm L=>?_,G⟩;rw[wA4]at L;split at L <;> cases L
 rw[K]at hi;clear G H1 u1 s1 s2;obtain⟨i,ps,⟨⟩,hk,J,aE,an,r⟩:=hi;unfold lJ;have u3:=u9.since J;refine oF (r.ld 3 rfl rfl) (d9 u3.v.len ?_);by_cases hi:i<u.vals.length
 ·refine ltYes ?_;have hx:=wAA hi;generalize u.vals[i]=x at*;obtain⟨l1,o1,w,_,d,_,_,xl⟩:=u3.val hx
  have aF:∀{h8} {ps':List Bool},Sn P h3 P h8->ps'.length=40->(∀m:Nat,ps'[m]? =some true->∃(w:Nat) (y:Vl),w<i+1/\u.vals[w]? =some y/\y.op=1/\y.n=(m:Int))->Hold P h8 (cellP lq Tp (ps'.map V.bool)::rowP eN tyInt plc (.slice lp 0 u.vals.length)::rowP eN tyInt blk (.slice lb 0 u.vals.length)::cellP lu 30 (uC u vv vb vs)::cs)->
    gB CS Q (ltI I k) [.ptr lu 0,pv,.slice ln 0 u.blocks.length,.slice lb 0 u.vals.length,.slice lp 0 u.vals.length,.ptr lq 0,.int .i64 i] h8:=λ{h8 ps'} s8 hl hp H8=>by
   refine sm ?_;unfold kV;refine addOne ⟨k-1,by omega,?_⟩;rw[K];exact⟨i+1,ps',rfl,by omega,J.trans s8,hl,hp,H8⟩
  have aG:∀m:Nat,ps[m]? =some true->∃(w:Nat) (y:Vl),w<i+1/\u.vals[w]? =some y/\y.op=1/\y.n=(m:Int):=λm L=>by
   obtain⟨w,y,h1,M⟩:=an m L;exact⟨w,y,by omega,M⟩
  refine oF (r.ld 3 rfl rfl) (d9 d (oF xl.op (fk ?_)));by_cases c:x.op=1
  ·refine if_t (by omega) ?_;obtain⟨n1,n2,n3⟩:=g.param i x hx c;obtain⟨m,L⟩:=Int.eq_ofNat_of_zero_le n1;have aX:m<40:=by omega
   have xn:=xl.n;rw[L]at xn;have eq:=Ju (n:=1) (l:=lq) (o:=0) (kd:= .i64) aX;have ao:=wAA (show m<ps.length by omega);have aY:ps[m]? =some false:=by
    cases e:ps[m]with
    | true=>
      rw[e]at ao;obtain⟨w',y,h1,M,h3,h4⟩:=an m ao;have:=n3 w' y M h3 (by omega)
      omega
    |false=>rw[ao,e]
   have aZ:pLd (.ptr lq (0+m*1)) h3=some (.bool false):=r.ld 0 rfl (by rw[wAY,Nat.mul_one,wAQ,aY];rfl);refine oF (r.ld 3 rfl rfl) (d9 d (oF xn (d9 eq (d9 aZ (st_b (if_f (by simp) ?_))))));refine oF (r.ld 3 rfl rfl) (d9 d (oF xn (d9 eq ?_)));obtain⟨h4,e4,_,R,s4⟩:=r.st 0 (o:=m) (u:=V.bool true) rfl (by rw[wAb];omega) rfl;have a7:pSt 1 (.ptr lq (0+m*1)) (V.bool true) h3=some (.val .undef h4):=by rw[wAY,Nat.mul_one];exact e4
   rw[a7,ec];simp only[wAC]at R;refine aF s4 (ps':=ps.set m true) (by rw[wA6];exact aE) (λm' aH=>?_) (by rw[List.map_set];exact R);by_cases e:m' = m
   ·subst e;exact⟨i,x,by omega,hx,c,L⟩
   ·rw[wAN λh=>e h.symm]at aH;exact aG m' aH
  ·exact if_f (by omega) (aF (Sn.refl _ _) aE aG r)
 refine ltNo ?_;clear hk hi k K I an i;obtain⟨R,s4,r4⟩:=r.tail.freezeR 0 rfl;simp only[wAC]at R;obtain⟨U,S,r5⟩:=R.tail.freezeR 0 rfl;simp only[wAC]at U;have ap:=s4.trans S;have A:=(aS.trans J).trans ap;refine IK W U.tail ((aR.since J).since ap) λbj h6 dv dss C p r6 D=>?_;refine d9 (p.ldA 0 rfl rfl) ?_;have aI:=(r4.since S).since C;have aJ:=r5.since C;refine d9 (a:= .agg (orC u vv vb vs (.slice lb 0 u.vals.length) (.slice lp 0 u.vals.length) dv)) ?_ ?_
 ·rcases r6 with⟨rfl,_⟩|⟨_,_,_,_,_,_,rfl,_⟩ <;> rfl
 have u6:=Z.since (A.trans C);refine fU p rfl rfl (by simp only[orC,ee,u6.v.one,u6.b.one,u6.s.one,aI.one,aJ.one,r6.one];rfl) λh7 H7 s7=>?_;refine Jf g ⟨λv b k q=>?_,D⟩ H7 (u6.since s7) (aJ.since s7) (aI.since s7) (r6.since s7) ((((r9.since J).since ap).since C).since s7) λF8 h8 s8 H8=>H F8 h8 (((A.trans C).trans s7).trans s8) H8;refine P1.yes v b k q (.inl ?_);obtain⟨B,f,_⟩:=q;exact(wAB.1 f).1
end
