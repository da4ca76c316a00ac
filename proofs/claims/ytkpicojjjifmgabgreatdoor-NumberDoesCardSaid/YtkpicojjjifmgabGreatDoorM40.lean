/- Parts. -/
import Derived.Test.YtkpicojjjifmgabGreatDoorM39
import Derived.Test.YtkpicojjjifmgabGreatDoorM30
set_option maxHeartbeats 4000000
namespace Go.Proofs.YtkpicojjjifmgabGreatDoor.Hx
open Un Dm
theorem Tk{w:Bool}{X:Option V}{K:V->Prop}(h:K .undef):oP (fF w .undef) λb=>oP (gV b X) K:=by cases w <;> exact h
theorem zfy{w:Bool}{C:fu}{f:Nat}{a:List V}{h:Hp}{K:fD}(H:K .undef h):oP (fF w .undef) λb=>oP (gC b (some (f,a))) λy=>qP C y h K:=by cases w <;> exact H
theorem Sv{t:Nat}{k:IntKind}{a b:Int}(h:¬b<a):ez .gtr t (.int k a) (.int k b)=some (.bool false):=by simp_all
theorem zcv{t:Nat}{k:IntKind}{a b:Int}(h:¬a<b):ez .lss t (.int k a) (.int k b)=some (.bool false):=by simp_all
theorem XH{t:Nat}{k:IntKind}{a b:Int}(h:a=b):ez .neq t (.int k a) (.int k b)=some (.bool false):=by simp_all
theorem Qh{t:Nat}{k:IntKind}{a b:Int}(h:a=b):ez .eql t (.int k a) (.int k b)=some (.bool true):=by simp_all
theorem MW{t:Nat}{k:IntKind}{a b:Int}(h:a≠b):ez .eql t (.int k a) (.int k b)=some (.bool false):=by simp_all
theorem nf{X:Option V}{K:V->Prop}(a:X=some (.bool false))(H:K (.bool false)):oP (og (.bool false) X) K:=by simp_all
section
variable{F F':Nat->Prop}{h h':Hp}{cs:List Pc}{Q:fD}{u:U}{vv vb vs:V}
theorem zcA{u:U}(g:Good u)(b:Nat):(pre u b).length<=u.ej.length:=jM _ _ (HZ g b) λv hv=>by
 obtain⟨c,k,a,_⟩:=JO.1 hv;exact g.ko _ _ _ a
theorem Zn(g:Good u)(H0:eo F h cs)(hu:wW F h u vv vb vs)(H:∀F' h',Sn F h F' h'->eo F' h' cs->Q (.bool true) h'):cP CS ng [.agg (uC u vv vb vs)] h Q:=by
 refine Fc rfl rfl ?_;unfold yf;have nv:=g.nv;have nb:=g.nb;have MH:=g.MH;have ns:=g.ns;refine jH H0 hu.one λr C N=>?_;generalize h.next=lu at*;have D:=hu.since N;have k3:fe (.ptr lu (0+3)) r=some vb:=C.ld 0 rfl rfl;have L:fe (.ptr lu (0+4)) r=some vs:=C.ld 0 rfl rfl;refine oF (C.ld 0 rfl rfl) (eh D.v.len (eh (Sv (by omega)) ?_));refine nf (by simp only[fo,fM,k3,D.b.len];grind[Sv]) ?_;refine nf (by simp only[fo,fM,k3,D.b.len];grind[zcv]) ?_;refine nf (by simp only[fo,fM,L,D.s.len];grind[Sv]) (jj (gh (by simp) ?_));clear k3 L;refine Ca (λk l h'=>∃(F':Nat->Prop) (i:Nat),l=[.ptr lu 0,.I i]/\i+k=u.ev.length/\Sn F h F' h'/\eo F' h' (eQ lu 30 (uC u vv vb vs)::cs)) ?_ (k:=u.ev.length) (by grind);clear C D N r;rintro k _ _ r ⟨F1,i,⟨⟩,hk,N,C⟩;unfold tn;have D:=hu.since N;have S:fe (.ptr lu (0+2)) r=some vv:=C.ld 0 rfl rfl;have L:fe (.ptr lu (0+4)) r=some vs:=C.ld 0 rfl rfl;refine oF L (eh D.s.len ?_);by_cases hi:i<u.ev.length
 ·refine gK ?_;have ah:=iy hi;generalize u.ev[i]=fs at*;obtain⟨q1,q2,q3⟩:=g.st i fs ah;obtain⟨l1,o1,f,_,T,x2,x3,xf⟩:=D.st ah;have x3:fe (.ptr l1 (o1+0)) r=some f:=x3;refine oF L (eh T (oF x3 (eh xf.len (eh (zcv (by omega)) ?_))));refine nf (by simp only[fo,fM,L,T,x3,xf.len];grind[Sv]) (jj (gh (by simp) ?_));refine B2 (λk l h'=>∃j:Nat,l=[.ptr lu 0,.I i,.I (j:Nat)]/\j+k=fs.length/\h' = r) ?_ (k:=fs.length) (by simp_all);rintro k1 _ _ _ _ ⟨j,⟨⟩,bI,rfl⟩;unfold sB;refine oF L (eh T (oF x3 (eh xf.len ?_)));by_cases hj:j<fs.length
  ·refine gK ?_;have hf:=iy hj;obtain⟨r1,r2,_⟩:=q3 _ (AY hj);generalize fs[j]=x at*;obtain⟨l2,o2,a,b,_,M,O,y3,ya,yb⟩:=xf.zeK hf;refine oF L (eh T (oF x3 (eh M (oF O (eh ya.len (eh (Sv (by omega)) ?_))))));refine nf (by simp only[fo,fM,L,T,x3,M,y3,yb.len];grind[Sv]) (jj (gh (by simp) ?_));exact fL ⟨k1-1,by omega,j+1,rfl,by omega,rfl⟩
  ·refine iQ ?_;refine oF L (eh T (eh x2 ?_));refine Pb C xf (by simp_all) λF2 d fv P o r2=>?_;have bJ:=EP (fs:=fs) (EN g i fs ah).2;have ai:=N.trans P;have u2:=D.since P;have S:fe (.ptr lu (0+2)) d=some vv:=o.ld 0 rfl rfl;refine B3 (λk l h'=>∃j:Nat,l=[.ptr lu 0,.I i,fv,.I (j:Nat)]/\j+k=(ik fs).length/\h' = d) ?_ (k:=(ik fs).length) (by simp_all);rintro U _ _ _ _ _ ⟨j,⟨⟩,ay,rfl⟩;unfold tM;refine eh r2.len ?_;by_cases hj:j<(ik fs).length
   ·refine gK ?_;have hx:=iy hj;obtain⟨x,G,W⟩:vD u (ik fs)[j]:=by
     grind[AY,ik]
    generalize (ik fs)[j]=w at*;have aj:=(ki.1 G).1;obtain⟨l3,o3,_,M,O⟩:=r2.nat hx .i64;obtain⟨l4,o4,_,_,z1,_,_,z2⟩:=u2.val G;refine eh M (eh O (oF S (eh u2.v.len (L6 aj ⟨jO _,?_⟩))));refine eh rfl (fG (eh pf (fG (eh S (fG (eh rfl (fG (eh rfl (fG (eh M (fG (eh O (fG (eh z1 (fG (eh pf (fG (eh z2.op (pW (Uv ?_))))))))))))))))))));rw[W];refine⟨jO _,eh rfl (jj (gh (by simp) ?_))⟩;exact fL ⟨U-1,by omega,j+1,rfl,by omega,rfl⟩
   ·refine iQ ?_;exact fL ⟨k-1,by omega,F2,i+1,rfl,by omega,ai,o⟩
 refine iQ ?_;clear hk hi k i S L;refine BR (λk l h'=>∃(F':Nat->Prop) (i:Nat),l=[.ptr lu 0,.I i]/\i+k=u.ej.length/\Sn F h F' h'/\eo F' h' (eQ lu 30 (uC u vv vb vs)::cs)) ?_ (k:=u.ej.length) (by grind);clear C D N r F1;rintro k _ _ r ⟨F1,i,⟨⟩,hk,N,C⟩;unfold sY;have D:=hu.since N;refine oF (C.ld 0 rfl rfl) (eh D.v.len ?_);by_cases hi:i<u.ej.length
 ·refine gK ?_;have hx:=iy hi;generalize u.ej[i]=x at*;obtain⟨l1,o1,w,_,T,x2,xw,_⟩:=D.val hx;refine oF (C.ld 0 rfl rfl) (eh T (eh x2 ?_));refine gZ C rfl rfl (by simp only[mF,eJ,xw.one];rfl) λd o P=>?_;generalize r.next=lx at*;have u2:=D.since P;have w2:=xw.since P;have z0:fe (.ptr lx (0+0)) d=some (.I x.op):=o.ld 0 rfl rfl;have z3:fe (.ptr lx (0+3)) d=some (.I x.n):=o.ld 0 rfl rfl;have z4:fe (.ptr lx (0+4)) d=some w:=o.ld 0 rfl rfl;have z5:fe (.ptr lx (0+5)) d=some (.I x.state):=o.ld 0 rfl rfl;have L:fe (.ptr lu (0+4)) d=some vs:=o.ld 1 rfl rfl;obtain⟨bK,bL⟩:=g.op i x hx;refine oF z0 (eh (zcv (by omega)) ?_);refine nf (by grind[fo,fM,Sv]) ?_;refine nf ?_ ?_
  ·simp only[fo,fM,z0];by_cases c:x.op=20
   ·rw[Qh (by omega)];simp only[fo,mH,z4,w2.len];exact XH (by rw[g.putAt i x hx c];rfl)
   ·rw[MW (by omega)];rfl
  refine fG (eh pf (fG (eh z0 ?_)));have kA:oP (og (.bool false) (oB (fJ 0 (V.ptr lx 0)) λaA=>oB (fe aA d) λaB=>oB (ez .eql 3 aB (V.I 1)) λaC=>oB (some aC) λaD=>kE aD (oB (fJ 3 (V.ptr lx 0)) λaE=>oB (fe aE d) λaF=>ez .gtr 2 aF (V.I 1073741824)))) λv=>v = .bool false:=by
   refine nf ?_ rfl;simp only[fo,fM,z0];by_cases c:x.op=1
   ·rw[Qh (by omega)];simp only[fo,mH,z3];obtain⟨n1,n2,_⟩:=g.param i x hx c
    grind[Sv]
   ·rw[MW (by omega)];rfl
  obtain⟨vA,eA,rfl⟩:=lL.1 kA
  have ag:∀K:fD,K (.bool false) d->oP (fF false (V.bool false)) λak=>oP (gV ak (fJ 0 (V.ptr lx 0))) λaG=>oP (fF false (V.bool false)) λa8=>oP (gV a8 (fe aG d)) λaH=>oP (fF false (V.bool false)) λa9=>oP (gV a9 (ez .eql 3 aH (V.I 22))) λaI=>
    oP (fF false (V.bool false)) λba=>oP (gV ba (some aI)) λR=>oP (fF false R) λbb=>oP (gV bb (fJ 0 (V.ptr lx 0))) λaJ=>oP (fF false R) λbc=>oP (gV bc (fe aJ d)) λaK=>oP (fF false R) λbd=>oP (gV bd (ez .eql 3 aK (V.I 23))) λaL=>
    oP (fF false (V.bool false)) λbe=>oP (gV be (jB R (V.bool true) aL)) λaM=>oP (fF false (V.bool false)) λbf=>oP (gV bf (some aM)) λp=>oP (fF true p) λal=>oP (gV al (fJ 5 (V.ptr lx 0))) λX=>oP (fF true p) λam=>oP (gV am (fe X d)) λY=>
    oP (fF true p) λan=>oP (gV an (fJ 4 (V.ptr lu 0))) λZ=>oP (fF true p) λao=>oP (gV ao (fe Z d)) λaa=>oP (fF true p) λap=>oP (gV ap (fI aa)) λab=>oP (fF true p) λaq=>oP (gC aq (some (gP,[Y,ab]))) λar=>qP CS ar d λac h4=>
    oP (fF true p) λau=>oP (gV au (qf .not ac)) λae=>oP (og (V.bool false) (jB p ae (V.bool false))) λA=>K A h4:=λK HK=>by
   refine fG (eh pf (fG (eh z0 (fG (eh (g0 ..) (fG (eh rfl ?_)))))))
   have fin:∀c:Bool,c=leaves x.op->oP (fF true (V.bool c)) λal=>oP (gV al (fJ 5 (V.ptr lx 0))) λX=>oP (fF true (V.bool c)) λam=>oP (gV am (fe X d)) λY=>
     oP (fF true (V.bool c)) λan=>oP (gV an (fJ 4 (V.ptr lu 0))) λZ=>oP (fF true (V.bool c)) λao=>oP (gV ao (fe Z d)) λaa=>oP (fF true (V.bool c)) λap=>oP (gV ap (fI aa)) λab=>oP (fF true (V.bool c)) λaq=>oP (gC aq (some (gP,[Y,ab]))) λar=>qP CS ar d λac h4=>
     oP (fF true (V.bool c)) λau=>oP (gV au (qf .not ac)) λae=>oP (og (V.bool false) (jB (V.bool c) ae (V.bool false))) λA=>K A h4:=λc hc=>by
    cases c with
    |true=>exact fY (eh pf (fY (eh z5 (fY (eh pf (fY (eh L (fY (eh u2.s.len (vS (L6 (g.leave i x hx hc.symm) (fY (eh rfl (eh rfl HK))))))))))))))
    |false=>exact iu (iu (iu (iu (iu (GL (iu (eh rfl HK)))))))
   by_cases c:x.op=22
   ·rw[show((x.op:Int) == 22)=true by simp[c]];exact O3 (O3 (O3 (fG (eh rfl (fG (eh rfl (fin true (by rw[c];rfl))))))))
   ·rw[show((x.op:Int) == 22)=false by grind];refine fG (eh pf (fG (eh z0 (fG (eh (g0 ..) (fG (eh rfl (fG (eh rfl (fin _ ?_))))))))))
    grind[Int,ieq,leaves,Wc]
  have tl:lE CS Q [V.ptr lu 0,.I ((i+1:Nat):Int)] d=lE CS Q [V.ptr lu 0,.I ((i+1:Nat):Int)] d:=rfl;clear tl;have last:oP (fW 6 (V.ptr lx 0) d) λaN=>cP CS j7 [aN] d λaO h5=>oD CS Q (Ey (λk l h'=>∃(F':Nat->Prop) (i:Nat),l=[.ptr lu 0,.I i]/\i+k=u.ej.length/\Sn F h F' h'/\eo F' h' (eQ lu 30 (uC u vv vb vs)::cs)) k) [.ptr lu 0,.I i,aO,(V.I 0)] h5:=by
   refine eh (o.pC 0 rfl rfl) ?_;refine Nw o w2 λF3 h3 uv s3 H3 r3=>?_;have u3:=u2.since s3;have S:fe (.ptr lu (0+2)) h3=some vv:=H3.ld 1 rfl rfl;have bQ:=KI λh=>Pg g hx h;refine B8 (λk l h'=>∃j:Nat,l=[.ptr lu 0,.I i,uv,.I (j:Nat)]/\j+k=(hK x).length/\h' = h3) ?_ (k:=(hK x).length) (by simp_all);rintro U _ _ _ _ _ ⟨j,⟨⟩,ay,rfl⟩;unfold tC;refine eh r3.len ?_;by_cases hj:j<(hK x).length
   ·refine gK ?_;have hw:=iy hj;obtain⟨y,G,W⟩:vD u (hK x)[j]:=g.use i x hx _ (AY hj);generalize (hK x)[j]=w at*;have aj:=(ki.1 G).1;obtain⟨l3,o3,_,M,O⟩:=r3.nat hw .i64;obtain⟨l4,o4,_,_,z1,_,_,z2⟩:=u3.val G;refine eh M (eh O (oF S (eh u3.v.len (L6 aj ⟨jO _,?_⟩))));refine eh rfl (fG (eh pf (fG (eh S (fG (eh rfl (fG (eh rfl (fG (eh M (fG (eh O (fG (eh z1 (fG (eh pf (fG (eh z2.op (pW (Uv ?_))))))))))))))))))));rw[W];refine⟨jO _,eh rfl (jj (gh (by simp) ?_))⟩;exact fL ⟨U-1,by omega,j+1,rfl,by omega,rfl⟩
   ·refine iQ ?_;exact fL ⟨k-1,by omega,F3,i+1,rfl,by omega,(N.trans P).trans s3,H3.tail⟩
  by_cases c1:x.op=1
  ·obtain⟨n1,n2,_⟩:=g.param i x hx c1;obtain⟨m,hm⟩:=wBG n1;rw[hm]at z3;refine fG (eh (Qh (by omega)) (fG (eh rfl (fY (eh pf (fY (eh z3 (vS (L6 (n:=40) (by omega) (fY (eh rfl (eh rfl (eh eA ?_)))))))))))));exact ag (λA h4=>bP A _ _) (jj (gh (by simp) last))
  ·refine fG (eh (MW (by omega)) (fG (eh rfl (iu (iu (GL (iu (eh rfl (eh eA ?_)))))))));exact ag (λA h4=>bP A _ _) (jj (gh (by simp) last))
 refine iQ ?_;clear hk hi k i;refine oF (C.ld 0 rfl rfl) (eh D.v.len ?_);rw[ku (z:=V.bool false) rfl (by decide) (by omega),fE];obtain⟨o,P⟩:=C.make (E:=eB) (ty:=jZ) (y:=false) (u:=V.bool false) u.ej.length rfl rfl;generalize r.new (.cells jZ 1 true false (List.replicate u.ej.length (V.bool false)))=d at*;generalize r.next=lk at*;obtain⟨I,hI⟩:∃I:Nat->LP,I=λ(k:Nat) l h'=>∃(i:Nat) (seen:List Bool),l=[.ptr lu 0,.slice lk 0 u.ej.length,.I ((pre u i).length:Nat),.I i]/\i+k=u.blocks.length/\Sn F h F1 h'/\seen.length=u.ej.length/\(∀v:Nat,seen[v]? =some true↔v∈pre u i)/\eo F1 h' (fg eB jZ seen (.slice lk 0 u.ej.length)::eQ lu 30 (uC u vv vb vs)::cs):=⟨_,rfl⟩
 refine BV I (λk T x2 x3 x4 h6 hi=>?_) (k:=u.blocks.length) ?_;rotate_left
 ·rw[hI];refine⟨0,_,rfl,by omega,N.trans P,WI,λv=>?_,o⟩;constructor
  ·intro h;rw[wBx]at h;split at h <;> cases h
  ·intro h;simp[pre]at h
 clear o P C D N d;clear r;revert h6 hi;intro r hi;rw[hI]at hi;obtain⟨i,seen,⟨⟩,hk,N,oh,bg,C⟩:=hi;unfold tB;have D:=hu.since N;have bR:=zcA g i;refine oF (C.ld 1 rfl rfl) (eh D.b.len ?_);by_cases hi:i<u.blocks.length;rotate_left
 ·refine iQ ?_;obtain rfl:i=u.blocks.length:=by omega
  rw[MA g];exact oF (C.ld 1 rfl rfl) (eh D.v.len (eh (Qh rfl) (H F1 r N C.tail.tail)))
 refine gK ?_;have hB:=iy hi;generalize u.blocks[i]=B at*;obtain⟨l1,o1,bv,bn,bp,_,T,x2,iv,iN,ip,_⟩:=D.pE hB;refine oF (C.ld 1 rfl rfl) (eh T (eh x2 ?_));refine gZ C rfl rfl (by simp only[km,eJ,iv.one,iN.one,ip.one];rfl) λd o P=>?_;generalize r.next=lx at*;have o:eo F1 d (eQ lx 45 (km B bv bn bp)::_):=o;have u2:=D.since P;have ai:=N.trans P;have bh:=iv.since P;have aP:=iN.since P
 have PO:∀n:Nat,B.next.length=n->jI CS Q (Ey I k)
   [.ptr lu 0,.slice lk 0 u.ej.length,.I ((pre u i).length:Nat),.I i,.ptr lx 0,.I (n:Nat)] d:=λn hn=>by
  refine A0 ?_;unfold rC;have z1:fe (.ptr lx (0+1)) d=some (.I B.fin):=o.ld 0 rfl rfl;have z2:fe (.ptr lx (0+2)) d=some (.I B.cond):=o.ld 0 rfl rfl;have z5:fe (.ptr lx (0+5)) d=some (.I B.state):=o.ld 0 rfl rfl;have S:fe (.ptr lu (0+2)) d=some vv:=o.ld 2 rfl rfl;have L:fe (.ptr lu (0+4)) d=some vs:=o.ld 2 rfl rfl;have last:oE CS Q (Ey I k) [.ptr lu 0,.slice lk 0 u.ej.length,.I ((pre u i).length:Nat),.I i,.ptr lx 0,.I n,.I 0] d:=by
   refine BP (λk l h'=>∃j:Nat,l=[.ptr lu 0,.slice lk 0 u.ej.length,.I ((pre u i).length:Nat),.I i,.ptr lx 0,.I n,.I (j:Nat)]/\j+k=n/\h' = d) ?_ (k:=n) ⟨0,rfl,by omega,rfl⟩;rintro U _ _ _ _ _ _ _ d ⟨j,⟨⟩,ay,rfl⟩;unfold sV;by_cases hj:j<n
   ·refine gK ?_;have ht:=iy (show j<B.next.length by omega);have bi:B.next[j]<u.blocks.length:=g.nx i _ (by unfold next;rw[hB];exact AY (show j<B.next.length by omega));generalize B.next[j]=t at*;obtain⟨l3,o3,_,M,O⟩:=aP.nat ht .i64;refine oF (o.ld 0 rfl rfl) (eh M (eh O (oF (o.ld 2 rfl rfl) (eh u2.b.len (L6 bi ⟨jO _,?_⟩)))));refine rP (gz rfl ?_);exact lZ (m:=1) (by have:=Ei g hB;omega) (by omega) ⟨U-1,by omega,j+1,rfl,by omega,rfl⟩
   refine iQ ?_;clear z1 z2 z5 S L
   refine BM (λk l h'=>∃(j:Nat) (seen:List Bool),l=[.ptr lu 0,.slice lk 0 u.ej.length,.I ((pre u i).length+j:Nat),.I i,.ptr lx 0,.I j]/\j+k=B.ej.length/\Sn F h F1 h'/\Sn F1 d F1 h'/\seen.length=u.ej.length/\(∀v:Nat,seen[v]? =some true↔v∈pre u i++B.ej.take j)/\eo F1 h' (eQ lx 45 (km B bv bn bp)::fg eB jZ seen (.slice lk 0 u.ej.length)::eQ lu 30 (uC u vv vb vs)::cs)) ?_ (k:=B.ej.length)
    ⟨0,seen,rfl,by omega,ai,Sn.refl _ _,oh,λv=>by rw[bg v,wB4,JL],o⟩
   rintro k3 _ _ _ _ _ _ h3 ⟨j,sn,⟨⟩,bS,s3,aQ,aR,aw,H3⟩;unfold tp;have aS:=bh.since aQ;have u3:=hu.since s3;have bU:=AK g hB;refine oF (H3.ld 0 rfl rfl) (eh aS.len ?_);by_cases hj:j<B.ej.length
   ·refine gK ?_;have hv:=iy hj;have bj:=MU hj;generalize B.ej[j]=v at*;have ax:At u v i j:=⟨B,hB,hv⟩
    have bm:=g.ko v i j ax;obtain⟨l3,o3,_,M,O⟩:=aS.nat hv .i64;have aT:v ∉ pre u i++B.ej.take j:=λhm=>by
     rcases He.1 hm with r|r
     ·obtain⟨c,m,d,h3⟩:=JO.1 r;have:=(g.FQ _ _ _ _ _ d ax).1;omega
     ·obtain⟨m,hm⟩:=oY.1 r;rw[List.getElem?_take]at hm;split at hm
      ·have:=(g.FQ _ _ _ _ _ ⟨B,hB,hm⟩ ax).2;omega
      ·cases hm
    have bo:sn[v]? =some false:=by
     have r:=iy (show v<sn.length by omega);have d:=aw v
     cases e:sn[v]with
     |true=>rw[r,e]at d;exact absurd (d.1 rfl) aT
     |false=>rw[r,e]
    obtain⟨l4,o4,w1,w2⟩:=H3.Mf 1 rfl bo .i64;have z0:fe (.ptr lx (0+0)) h3=some bv:=H3.ld 0 rfl rfl;refine oF z0 (eh M (eh O (oF (H3.ld 2 rfl rfl) (eh u3.v.len (L6 bm ⟨jO _,?_⟩)))));refine eh rfl (nf (by simp only[fo,fM,z0,M,O,w1,w2]) (jj (gh (by simp) ?_)));obtain⟨l5,o5,h4,e1,e2,_,H4,s4⟩:=H3.Kh 1 rfl (k:=v) (y:=true) (u:=V.bool true) (by omega) rfl rfl rfl;refine oF z0 (eh M (eh O (eh e1 ?_)));rw[e2,en];simp only[ji,lO]at H4;refine fL (fL ⟨k3-1,by omega,j+1,_,rfl,by omega,s3.trans s4,aQ.trans s4,by rw[TH];exact aR,λx=>?_,H4⟩);rw[bj,<-Lb,He,<-aw x,QJ];by_cases e:x=v
    ·subst e;rw[NZ (by omega)];exact⟨λ_=> .inr rfl,λ_=>rfl⟩
    ·rw[KP λh=>e h.symm];exact⟨.inl,λh=>h.elim id λh=>absurd h e⟩
   ·refine iQ ?_;obtain rfl:j=B.ej.length:=by omega
    refine fL ⟨k-1,by omega,?_⟩;rw[hI];refine⟨i+1,sn,?_,by omega,s3,aR,λv=>?_,H3.tail⟩
    ·rw[G9 hB,KC]
    ·rw[aw v,Ki,G9 hB]
  have c3:∀K:fD,K (.bool false) d->oP (fF false (V.bool false)) λbr=>oP (gV br (fJ 1 (V.ptr lx 0))) λaU=>oP (fF false (V.bool false)) λbt=>oP (gV bt (fe aU d)) λaV=>oP (fF false (V.bool false)) λbu=>oP (gV bu (ez .eql 3 aV (V.I 3))) λaW=>oP (fF false (V.bool false)) λbw=>oP (gV bw (some aW)) λq=>
    oP (fF true q) λbx=>oP (gV bx (fJ 5 (V.ptr lx 0))) λaX=>oP (fF true q) λbz=>oP (gV bz (fe aX d)) λaY=>oP (fF true q) λbA=>oP (gV bA (fJ 4 (V.ptr lu 0))) λaZ=>oP (fF true q) λbC=>oP (gV bC (fe aZ d)) λa4=>oP (fF true q) λbD=>oP (gV bD (fI a4)) λa5=>
    oP (fF true q) λbE=>oP (gC bE (some (gP,[aY,a5]))) λbG=>qP CS bG d λa6 h3=>oP (fF true q) λak=>oP (gV ak (qf .not a6)) λa7=>oP (og (V.bool false) (jB q a7 (V.bool false))) λJ=>K J h3:=λK HK=>by
   refine fG (eh pf (fG (eh z1 ?_)));by_cases c:B.fin=3
   ·refine fG (eh (Qh (by omega)) (fG (eh rfl ?_)));have hs:B.state<u.ev.length:=by
     rcases g.fin i B hB with⟨e,_⟩|⟨e,_⟩|⟨_,_,e⟩
     ·omega
     ·omega
     ·exact e
    exact fY (eh pf (fY (eh z5 (fY (eh pf (fY (eh L (fY (eh u2.s.len (vS (L6 hs (fY (eh rfl (eh rfl HK))))))))))))))
   ·exact fG (eh (MW (by omega)) (fG (eh rfl (iu (iu (iu (iu (iu (GL (iu (eh rfl HK)))))))))))
  refine oF (o.ld 0 rfl rfl) (eh aP.len (eh (XH (by omega)) (fG (eh pf (fG (eh z1 ?_))))));by_cases c:B.fin=2
  ·obtain ⟨y,G,W⟩:vD u B.cond:=by
    rcases g.fin i B hB with⟨e,_⟩|⟨_,_,e⟩|⟨e,_⟩
    ·omega
    ·exact e
    ·omega
   have bH:=(ki.1 G).1;obtain⟨l4,o4,_,_,M,_,_,O⟩:=u2.val G;refine fG (eh (Qh (by omega)) (fG (eh rfl ?_)));refine fY (eh pf (fY (eh z2 (fY (eh pf (fY (eh S (fY (eh u2.v.len (vS (L6 bH ?_)))))))))));refine fY (eh rfl (fY (eh rfl ?_)));refine fG (eh pf (fG (eh S (fG (eh pf (fG (eh z2 (fG (eh M (fG (eh pf (fG (eh O.op (pW (Uv ?_)))))))))))))));rw[W];refine fG (eh rfl (fY (eh rfl (eh rfl ?_))));exact c3 (λJ h3=>bP J _ _) (jj (gh (by simp) last))
  ·refine fG (eh (MW (by omega)) (fG (eh rfl ?_)));refine iu (iu (iu (iu (iu (GL (iu (iu ?_)))))));refine Tk (Tk (Tk (Tk (Tk (Tk (Tk (zfy (Tk (iu (eh rfl ?_))))))))));exact c3 (λJ h3=>bP J _ _) (jj (gh (by simp) last))
 have z1:fe (.ptr lx (0+1)) d=some (.I B.fin):=o.ld 0 rfl rfl;refine oF z1 (gy ?_);rcases g.fin i B hB with⟨f1,f2⟩|⟨f1,f2,_⟩|⟨f1,f2,_⟩
 ·exact gz (by omega) (PO 1 f2)
 ·exact gh (by omega) (gy (gz (by omega) (PO 2 f2)))
 ·exact gh (by omega) (gy (gh (by omega) (gy (gz (by omega) (PO 0 (by rw[f2];rfl))))))
end
open Un Dm
section
variable{F F':Nat->Prop}{h h':Hp}{cs:List Pc}{Q:fD}{u:U}{vv vb vs:V}
theorem Y0(g:Good u){w b:Nat}(h:zb u w b):∃c j,At u w c j/\(c=b/\j<1073741824\/c≠b/\o0 (next u) c b):=by
 obtain⟨c,j,a,d⟩:=h;refine⟨c,j,a,?_⟩;by_cases e:c=b
 ·obtain⟨B,f,i⟩:=a
  grind[AK,ki]
 simp_all
structure PlR (u:U) (i j:Nat) (pE IA:List Nat):Prop where
 nb:pE.length=u.ej.length
 np:IA.length=u.ej.length
 yes:∀(v c m:Nat),At u v c m->(c<i\/(c=i/\m<j))->pE[v]? =some c/\IA[v]? =some m
theorem PlR.step(g:Good u){i j v:Nat}{pE IA:List Nat}(S:PlR u i j pE IA)(hv:At u v i j):PlR u i (j+1) (pE.set v i) (IA.set v j):=by
 have a:=g.ko _ _ _ hv;refine⟨by rw[TH];exact S.nb,by rw[TH];exact S.np,λw c m b hc=>?_⟩;by_cases e:w=v
 ·subst e;obtain⟨rfl,rfl⟩:=g.FQ _ _ _ _ _ b hv;rw[NZ (by rw[S.nb];exact a),NZ (by rw[S.np];exact a)]
  simp_all
 ·rw [KP (by omega),KP (by omega)];refine S.yes w c m b ?_;rcases hc with hc|⟨rfl,hc⟩
  ·omega
  ·refine .inr ⟨rfl,?_⟩;by_cases d:m=j
   ·subst d;obtain⟨B,h,k⟩:=b;obtain⟨l,f,n⟩:=hv
    simp_all
   ·omega
theorem PlR.next{i:Nat}{B:Bk}{pE IA:List Nat}(b:u.blocks[i]? =some B)(S:PlR u i B.ej.length pE IA):PlR u (i+1) 0 pE IA:=by
 refine⟨S.nb,S.np,λv c m hv hc=>S.yes v c m hv ?_⟩;rcases hc with hc|⟨_,hc⟩
 ·by_cases e:c=i
  ·subst e;obtain⟨d,a,f⟩:=hv
   grind
  omega
 ·omega
theorem Yo(g:Good u){X4:List (List Nat)}(a:X4.length=u.blocks.length)(c:∀b:Nat,b<u.blocks.length->X4[b]? =some (Un.next u b)):Nxs u.blocks.length (Un.next u) X4:=by
 refine⟨g.MH,g.nb,a,c,λb hb=>?_,λb _ t ht=>g.nx b t ht⟩
 grind[iy,Un.next,next,Ei]
theorem Uc(g:Good u){b k v:Nat}{x:Vl}{B:Bk}(c:u.blocks[b]? =some B)(a:At u v b k)(hx:u.ej[v]? =some x)(d:iO x.op=true):∀(j w:Nat)(y:Vl),j<k->B.ej[j]? =some w->u.ej[w]? =some y->iO y.op=true:=
 λj w y h e f=>QI g a hx d ⟨B,c,e⟩ f (by omega)
theorem zcz:(eL eN).rel F h [] [.ei]:=⟨.ei,rfl,.nil⟩
theorem za0{len n l o m:Nat}{kd:IntKind}(a:m<len):zcW len n (.ptr l o) (.int kd (m:Nat))=some (.ptr l (o+m*n)):=by
 show bB (Nat.blt m len) _=_
 grind[nt,Qq]
theorem We(op:Nat):(((op:Int) == 21) ||((op:Int) == 1))=iO op:=by
 grind[iO,Int,ieq,Bool.or_comm]
theorem za7{pE IA:List Nat}{OC:List (List Bool)}{wb wp wd pv:V}{lu lo To:Nat}(g:Good u)(o:zcm u pE IA OC)(H0:eo F h (eQ lo To (U3 u vv vb vs wb wp wd)::eQ lu 30 (uC u vv vb vs)::cs))(hu:wW F h u vv vb vs)
  (hb:im eN F h pE wb) (hp:im eN F h IA wp) (U:im (eL eB) F h OC wd) (r:im (eL eN) F h ((List.range u.blocks.length).map (Un.ahead u)) pv) (H:∀F' h',Sn F h F' h'->eo F' h' cs->Q (.bool true) h') :
  ot CS Q [.ptr lu 0,pv,.ptr lo 0,.I 0] h:=by
 have nv:=g.nv;have nb:=g.nb;have ag:∀b:Nat,b<u.blocks.length->((List.range u.blocks.length).map (Un.ahead u))[b]? =some (Un.ahead u b):=by simp_all
 obtain⟨I,hI⟩:∃I:Nat->LP,I=λk l h'=>∃(F':Nat->Prop) (i:Nat),l=[.ptr lu 0,pv,.ptr lo 0,.I i]/\i+k=u.blocks.length/\Sn F h F' h'/\eo F' h' (eQ lo To (U3 u vv vb vs wb wp wd)::eQ lu 30 (uC u vv vb vs)::cs):=⟨_,rfl⟩
 refine Cc I (λk x1 x3 x4 x5 h1 hi=>?_) (k:=u.blocks.length) ?_;rotate_left
 ·rw[hI];exact⟨F,0,rfl,by omega,Sn.refl _ _,H0⟩
 rw[hI]at hi;obtain⟨F1,i,⟨⟩,hk,s1,W⟩:=hi;unfold tL;refine oF (W.ld 1 rfl rfl) (eh (hu.since s1).b.len ?_);by_cases hi:i<u.blocks.length;rotate_left
 ·exact iQ (H F1 h1 s1 W.tail.tail)
 refine gK ?_;have K:=iy hi;generalize u.blocks[i]=B at*;obtain⟨l1,o1,bv,bn,bp,_,x1,x2,iv,iN,ip,_⟩:=(hu.since s1).pE K;refine oF (W.ld 1 rfl rfl) (eh x1 (eh x2 ?_));refine gZ W rfl rfl (by simp only[km,eJ,iv.one,iN.one,ip.one];rfl) λh2 H2 s2=>?_;generalize h1.next=lx at*;have H2:eo F1 h2 (eQ lx 45 (km B bv bn bp)::_):=H2;have iv:=iv.since s2;have ah:=s1.trans s2;have Ee:∀{A d},Sn F h A d->eo A d (eQ lx 45 (km B bv bn bp)::eQ lo To (U3 u vv vb vs wb wp wd)::eQ lu 30 (uC u vv vb vs)::cs)->oP (ez .add 3 (V.I i) (V.I 1)) λX=>Ey I k [.ptr lu 0,pv,.ptr lo 0,X] d:=λ{A d} f s=>by
  refine fL ⟨k-1,by omega,?_⟩;rw[hI];exact⟨A,i+1,rfl,by omega,f,s.tail⟩
 have aq:=AK g K;obtain⟨I6,M⟩:∃I:Nat->LP,I=λk l h'=>∃(F':Nat->Prop) (m:Nat),l=[.ptr lu 0,pv,.ptr lo 0,.I i,.ptr lx 0,.I m]/\m+k=B.ej.length/\Sn F h F' h'/\Sn F1 h2 F' h'/\eo F' h' (eQ lx 45 (km B bv bn bp)::eQ lo To (U3 u vv vb vs wb wp wd)::eQ lu 30 (uC u vv vb vs)::cs):=⟨_,rfl⟩
 refine BZ I6 (λk6 x1 x3 x4 x5 x6 x7 R Y=>?_) (k:=B.ej.length) ?_;rotate_left
 ·rw[M];exact⟨F1,0,rfl,by omega,ah,Sn.refl _ _,H2⟩
 rw[M]at Y;clear H2 W;obtain⟨F3,m,⟨⟩,ar,C,Z,z⟩:=Y;unfold tP;have aa:=iv.since Z;refine oF (z.ld 0 rfl rfl) (eh aa.len ?_);have u3:=hu.since C;by_cases hm:m<B.ej.length
 ·refine gK ?_;have hv:=iy hm;generalize B.ej[m]=v at*;have D:At u v i m:=⟨B,K,hv⟩
  obtain⟨x,hx⟩:∃x,u.ej[v]? =some x:=⟨_,iy (g.ko v i m D)⟩
  obtain⟨l4,o4,ai,y1,y2⟩:=aa.nat hv .i64;obtain⟨l5,o5,w,aj,S,z2,xw,_⟩:=u3.val hx;refine oF (z.ld 2 rfl rfl) (oF (z.ld 0 rfl rfl) (eh y1 (eh y2 (eh S (eh z2 ?_)))));rw[hX];obtain⟨H4,s4⟩:=z.Aw 34 [V.I 0,V.I 0,V.I 0,V.I 0,V.ei,V.I 0];have g4:(R.new (.cells 34 1 true false [V.I 0,V.I 0,V.I 0,V.I 0,V.ei,V.I 0])).get R.next=some (.cells 34 1 true false [V.I 0,V.I 0,V.I 0,V.I 0,V.ei,V.I 0]):=fq _ _;generalize R.new (.cells 34 1 true false [V.I 0,V.I 0,V.I 0,V.I 0,V.ei,V.I 0])=h4 at*;refine⟨by simp_all,HX z2 (s4.fj _ aj),iA y2 (s4.fj _ ai),H4.ld 1 rfl rfl,H4.ld 3 rfl rfl,?_⟩;obtain⟨h5,e5,n5,H5,s5⟩:=H4.U1 0 (ws:=mF x w) (n:=6) rfl rfl rfl (by simp only[mF,eJ,xw.one];rfl);rw[e5,en];simp only[ji]at H5;refine⟨n5,eh (H5.pC 0 rfl rfl) ?_⟩;generalize R.next=T at*;have N:=s4.trans s5;refine Nw H5 (xw.since N) λF6 h6 uv s6 H6 r6=>?_;have au:=KI λh=>Pg g hx h;have ak:=(C.trans N).trans s6;have al:=(Z.trans N).trans s6;clear H5 H4 e5 n5;obtain⟨I7,O⟩:∃I:Nat->LP,I=λk l h'=>∃(F':Nat->Prop) (j:Nat),l=[.ptr lu 0,pv,.ptr lo 0,.I i,.ptr lx 0,.I m,.ptr T 0,uv,.I j]/\j+k=(hK x).length/\Sn F h F' h'/\Sn F6 h6 F' h'/\eo F' h' (eQ T 34 (mF x w)::eQ lx 45 (km B bv bn bp)::eQ lo To (U3 u vv vb vs wb wp wd)::eQ lu 30 (uC u vv vb vs)::cs):=⟨_,rfl⟩
  refine BE I7 (λk7 x1 x3 x4 x5 x6 x7 x8 x9 aw h7 ab=>?_) (k:=(hK x).length) ?_;rotate_left
  ·rw[O];exact⟨F6,0,rfl,by omega,ak,Sn.refl _ _,H6⟩
  rw[O]at ab;clear H6;obtain⟨F7,j,⟨⟩,ax,t,P,L⟩:=ab;unfold sx;have r7:=r6.since P;refine eh r7.len ?_;have u7:=hu.since t;by_cases hj:j<(hK x).length
  ·refine gK ?_;have ha:=iy hj;have am:=AY hj;generalize (hK x)[j]=a at*;obtain⟨l8,o8,_,q1,q2⟩:=r7.nat ha .i64;have ac:∀{d},Sn F7 h7 F7 d->eo F7 d (eQ T 34 (mF x w)::eQ lx 45 (km B bv bn bp)::eQ lo To (U3 u vv vb vs wb wp wd)::eQ lu 30 (uC u vv vb vs)::cs)->kT CS Q (Ey I k) (Ey I6 k6) (Ey I7 k7) [.ptr lu 0,pv,.ptr lo 0,.I i,.ptr lx 0,.I m,.ptr T 0,uv,.I j] d:=λ{d} f s=>by
    refine Bi ?_;unfold rT;refine fL ⟨k7-1,by omega,?_⟩;rw[O];exact⟨F7,j+1,rfl,by omega,t.trans f,P.trans f,s⟩
   refine oF (L.ld 0 rfl rfl) (gy ?_);by_cases c:x.op=21
   ·refine gz (by omega) ?_;obtain⟨_,ay⟩:=g.KN v i m x B D hx c K;have an:hK x=x.args:=by unfold hK;rw[if_pos c]
    rw[an]at ha hj;have y:∃p,B.fi[j]? =some p:=by simp_all
    obtain ⟨p,y⟩:=y;obtain⟨ca,ja,E,G⟩:=Y0 g (g.L1 v i m x B D hx c K j a p ha y);have ao:p<u.blocks.length:=by
     have hm:=DG y;rw[g.fi i B K]at hm;obtain⟨q,B',h1,_,R⟩:=wA.1 hm;have:=(ki.1 h1).1;omega
    obtain⟨la,oa,wr,_,t1,t2,t3⟩:=(r.since t).list (ag i hi) .i64;rw[g.fi i B K]at y;obtain⟨lc,oc,_,t4,t5⟩:=t3.nat y .i64;refine eh (L.pC 2 rfl rfl) (eh q1 (eh q2 (eh t1 (eh t2 (eh t4 (eh t5 ?_))))));refine Hn o L u7 (hb.since t) (hp.since t) (U.since t) (k:=1073741824) E ao G λd f s=>?_;exact⟨f.next,rP (gz rfl (ac f s))⟩
   ·refine gh (by omega) ?_;obtain⟨ca,ja,E,G⟩:=g.GM v i m x D hx c a am;refine eh (L.pC 2 rfl rfl) (eh q1 (eh q2 ?_));refine Hn o L u7 (hb.since t) (hp.since t) (U.since t) E hi G λd f s=>?_;exact⟨f.next,rP (gz rfl (ac f s))⟩
  refine iQ ?_;have z0:fe (.ptr T (0+0)) h7=some (.I x.op):=L.ld 0 rfl rfl;refine oF z0 (eh (g0 ..) (eh (a:= .bool (leaves x.op)) ?_ ?_))
  ·simp only[fo,fM,z0,g0,pS];unfold leaves
   grind[Int,ieq]
  have ap:∀{A d},Sn F7 h7 A d->eo A d (eQ T 34 (mF x w)::eQ lx 45 (km B bv bn bp)::eQ lo To (U3 u vv vb vs wb wp wd)::eQ lu 30 (uC u vv vb vs)::cs)->oP (ez .add 3 (V.I m) (V.I 1)) λae=>Ey I6 k6 [.ptr lu 0,pv,.ptr lo 0,.I i,.ptr lx 0,ae] d:=λ{A d} f s=>by
   refine fL ⟨k6-1,by omega,?_⟩;rw[M];exact⟨A,m+1,rfl,by omega,t.trans f,(al.trans P).trans f,s.tail⟩
  cases hl:leaves x.op with
  | true=>
    obtain⟨fs,J⟩:∃fs,u.ev[x.state]? =some fs:=⟨_,iy (g.leave v x hx hl)⟩
    refine fY (eh (L.pC 2 rfl rfl) (fY (eh pf (fY (eh (L.ld 0 rfl rfl) (fY (eh rfl (fY (eh rfl (vS ?_))))))))));refine Pf o g L u7 (hb.since t) (hp.since t) (U.since t) J hi (λw hw=>g.Md v i m x fs D hx hl J w hw) λA d f s=>?_
    exact eh rfl (jj (gh (by simp) (ap f s)))
  | false=>
    refine iu (iu (iu (iu (iu (GL ?_)))));exact eh rfl (jj (gh (by simp) (by grind[Sn.refl])))
 refine iQ ?_;have S:fe (.ptr lx (0+1)) R=some (.I B.fin):=z.ld 0 rfl rfl;refine oF S ?_;by_cases c2:B.fin=2
 ·obtain⟨ca,ja,E,G⟩:=Y0 g (g.L8 i B K c2);refine eh (by simp_all) (fY (eh (z.pC 1 rfl rfl) (fY (eh pf (fY (eh (z.ld 0 rfl rfl) (fY (eh rfl (vS ?_)))))))));refine Hn o z u3 (hb.since C) (hp.since C) (U.since C) (k:=1073741824) E hi G λd f s=>?_;have S:fe (.ptr lx (0+1)) d=some (.I B.fin):=s.ld 0 rfl rfl;refine eh rfl (fG (eh pf (fG (eh S (fG (eh (MW (by omega)) (fG (eh rfl ?_))))))));refine iu (iu (iu (iu (GL (iu (eh rfl (jj (gh (by simp) ?_))))))));exact Ee (C.trans f) s
 ·refine eh (MW (by omega)) (iu (iu (iu (iu (GL (eh rfl ?_))))));refine fG (eh pf (fG (eh S ?_)));by_cases c3:B.fin=3
  ·have hs:B.state<u.ev.length:=by
    rcases g.fin i B K with⟨e,_⟩|⟨e,_⟩|⟨_,_,e⟩
    ·omega
    ·omega
    ·exact e
   have J:=iy hs;generalize u.ev[B.state]=fs at*;refine fG (eh (Qh (by omega)) (fG (eh rfl ?_)));refine fY (eh (z.pC 1 rfl rfl) (fY (eh pf (fY (eh (z.ld 0 rfl rfl) (fY (eh rfl (vS ?_))))))));refine Pf o g z u3 (hb.since C) (hp.since C) (U.since C) (k:=1073741824) J hi (λw hw=>Y0 g (g.L4 i B fs K c3 J w hw)) λA d f s=>?_;exact fY (eh rfl (eh rfl (jj (gh (by simp) (Ee (C.trans f) s)))))
  ·refine fG (eh (MW (by omega)) (fG (eh rfl ?_)));exact iu (iu (iu (iu (GL (iu (eh rfl (jj (gh (by simp) (Ee C z)))))))))
theorem SI(g:Good u)(H0:eo F h cs)(Z:wW F h u vv vb vs)(H:∀F' h',Sn F h F' h'->eo F' h' cs->Q (.bool true) h'):cP CS m0 [.agg (uC u vv vb vs)] h Q:=by
 refine Ff rfl rfl ?_;unfold xg;have nv:=g.nv;have nb:=g.nb;have MH:=g.MH;refine jH H0 Z.one λh1 H1 s1=>?_;generalize h.next=lu at*;refine eh (H1.pC 0 rfl rfl) (Zn g H1 (Z.since s1) λF2 K s2 G=>?_);have ag:=s1.trans s2;refine rP (gz rfl (eh (G.pC 0 rfl rfl) (X3 g G (Z.since ag) λF3 h3 pv J q r3=>?_)));have ap:=ag.trans J;refine oF (q.ld 0 rfl rfl) (eh (Z.since ap).b.len ?_);rw[ku (z:=V.ei) rfl (by decide) (by omega),fE];obtain⟨U,s4⟩:=q.make (E:=eL eN) (ty:=iZ) (y:=[]) (u:= .ei) u.blocks.length zcz rfl;generalize h3.new (.cells iZ 1 true false (List.replicate u.blocks.length V.ei))=h4 at*;generalize h3.next=ln at*;have aa:∀b:Nat,b<u.blocks.length->((List.range u.blocks.length).map (Un.ahead u))[b]? =some (Un.ahead u b):=by simp_all
 obtain ⟨I,L⟩:∃I:Nat->LP,I=λk l h'=>∃(i:Nat) (GP:List (List Nat)),l=[.ptr lu 0,pv,.slice ln 0 u.blocks.length,.I i]/\i+k=u.blocks.length/\Sn F3 h3 F3 h'/\GP.length=u.blocks.length/\(∀j:Nat,j<i->GP[j]? =some (Un.next u j))/\
   eo F3 h' (fg (eL eN) iZ GP (.slice ln 0 u.blocks.length)::eQ lu 30 (uC u vv vb vs)::cs):=⟨_,rfl⟩
 refine Bz I (λk d x3 x4 x5 h5 hi=>?_) (k:=u.blocks.length) ?_;rotate_left
 ·grind
 rw[L]at hi;clear U s4 h4 G H1 s1 s2 ag;obtain⟨i,GP,⟨⟩,hk,R,aH,aI,S⟩:=hi;unfold tj;have A:=ap.trans R;have u5:=Z.since A;refine oF (S.ld 1 rfl rfl) (eh u5.b.len ?_);by_cases hi:i<u.blocks.length
 ·refine gK ?_;have r:=iy hi;generalize u.blocks[i]=B at*;obtain⟨l1,o1,bv,bn,bp,_,d,x2,iv,iN,ip,xb⟩:=u5.pE r;refine oF (S.ld 1 rfl rfl) (eh d (oF xb.next ?_));obtain⟨l6,o6,h6,e1,e2,_,f,C⟩:=S.Kh 0 rfl (k:=i) (y:=B.next) (u:=bn) (by omega) rfl iN.one ⟨bn,rfl,iN⟩;refine eh e1 ?_;rw[e2,en];simp only[ji]at f;have M:=A.trans C;have u6:=Z.since M;have r6:=(r3.since R).since C;have a7:=iN.since C;obtain⟨l7,o7,a8,a9,ba,_,y1,_,_,_,aJ,yb⟩:=u6.pE r;rw[d]at y1;cases y1;obtain⟨l8,o8,pr,_,z1,z2,zr⟩:=r6.list (aa i hi) .i64;refine oF (f.ld 1 rfl rfl) (eh d (oF yb.fi (eh z1 (eh z2 ?_))));refine zaE aJ (by rw[g.fi i B r];exact zr) (by grind[AU]) ?_;refine⟨jO _,rP (gz rfl ?_)⟩;have k3:fe (.ptr lu (0+3)) h6=some vb:=f.ld 1 rfl rfl;obtain⟨l9,o9,bb,ah,bc,_,y2,_,_,aq,_,ar⟩:=u6.pE r;rw[d]at y2;cases y2;refine oF k3 (eh d (oF ar.next (eh aq.len (eh (g0 ..) ?_))));refine eh (a:= .bool false) ?_ (jj (gh (by simp) ?_))
  ·by_cases c:B.next.length=2
   ·rw [show((B.next.length:Int) == 2)=true by simp_all,mH];have aK:B.fin=2:=by
     rcases g.fin i B r with⟨_,h⟩|⟨h,_⟩|⟨_,h,_⟩
     ·omega
     ·exact h
     ·simp_all
    have tt:∀j:Nat,j<2->∃l o t l' o' w,gB 1 ah (.I (j:Nat))=some (.ptr l o)/\fe (.ptr l o) h6=some (.I (t:Nat))/\gB 1 pv (.I (t:Nat))=some (.ptr l' o')/\fe (.ptr l' o') h6=some w/\fI w=some (.I ((1:Nat):Int)):=λj hj=>by
     have ht:=iy (show j<B.next.length by omega);have N:=AY (show j<B.next.length by omega);have aL:=g.Lz i B r aK _ N;have aM:B.next[j]<u.blocks.length:=g.nx i _ (by grind[next]);obtain⟨l,o,_,q1,q2⟩:=aq.nat ht .i64;obtain⟨l',o',w,_,q3,q4,q5⟩:=r6.list (aa _ aM) .i64;exact⟨l,o,_,l',o',w,q1,q2,q3,q4,by rw[q5.len,aL]⟩
    obtain⟨a1,a2,a3,a4,a5,a6,b1,b2,b3,b4,b5⟩:=tt 0 (by omega);obtain⟨c1,c2,c3,c4,c5,c6,d1,d2,d3,d4,d5⟩:=tt 1 (by omega);have b1:gB 1 ah (.I 0)=some (.ptr a1 a2):=b1;have d1:gB 1 ah (.I 1)=some (.ptr c1 c2):=d1;simp only[fo,fM,k3,d,ar.next,b1,b2,b3,b4,b5,d1,d2,d3,d4,d5,XH (show(((1:Nat):Int))=1 from rfl),oH]
   ·rw[show((B.next.length:Int) == 2)=false by grind,Fo]
  ·refine fL ⟨k-1,by omega,?_⟩;rw[L];refine⟨i+1,_,rfl,by omega,R.trans C,by simp_all,λj hj=>?_,f⟩
   grind[NZ,next,KP]
 refine iQ ?_;obtain rfl:i=u.blocks.length:=by omega
 clear hk hi k L I;have r5:=r3.since R;obtain⟨l6,o6,pr,_,z1,z2,zr⟩:=r5.list (aa 0 (by omega)) .i64;have z1:gB 1 pv (.I 0)=some (.ptr l6 o6):=z1;refine eh z1 (eh z2 (eh zr.len (DT (gh (by rw[g.Hf];simp) ?_))));obtain⟨f,C,rn⟩:=S.kL 0 rfl;simp only[ji]at f;have f:=f.tail;have W:=Yo g aH aI;generalize aN:(λl=>F3 l\/Loc (V.slice ln 0 u.blocks.length) l)=P at*;have M:=A.trans C;have r6:=r5.since C;have u6:=Z.since M;clear S R q aN r5 r3 u5 A z1 z2 zr;refine Nh W (-1) f rn λh7 sv seen s7 H7 aO aP=>?_;have au:∀b:Nat,b<u.blocks.length->seen[b]? =some true:=λb hb=>by
  obtain⟨l,hl⟩:=g.reach b hb;exact(aP b).2 ⟨l,hl,λx _=>by omega⟩
 refine BH (λk l h'=>∃i:Nat,l=[.ptr lu 0,pv,.slice ln 0 u.blocks.length,sv,.I (i:Nat)]/\i+k=u.blocks.length/\h' = h7) ?_ (k:=u.blocks.length) ⟨0,rfl,by omega,rfl⟩;rintro k _ _ _ _ _ h7 ⟨i,⟨⟩,hk,rfl⟩;unfold tN;refine eh (H7.len 0 rfl) ?_;rw[aO];by_cases hi:i<u.blocks.length
 ·refine gK ?_;obtain⟨l8,o8,y1,y2⟩:=H7.Mf 0 rfl (au i hi) .i64;refine eh y1 (eh y2 (rP (gz rfl ?_)));exact fL ⟨k-1,by omega,i+1,rfl,by omega,rfl⟩
 refine iQ ?_;clear hk hi k i;have H7:=H7.tail;have ai:=M.trans s7;refine oF (H7.ld 0 rfl rfl) (eh (Z.since ai).v.len ?_);rw[ku (z:=V.I 0) rfl (by decide) (by omega),fE];obtain⟨H8,s8⟩:=H7.make (E:=eN) (ty:=eR) (y:=0) (u:=V.I 0) u.ej.length rfl rfl;generalize h7.new (.cells eR 1 true false (List.replicate u.ej.length (V.I 0)))=h8 at*;generalize h7.next=lb at*;have aw:=ai.trans s8;refine oF (H8.ld 1 rfl rfl) (eh (Z.since aw).v.len ?_);rw[ku (z:=V.I 0) rfl (by decide) (by omega),fE];obtain⟨H9,s9⟩:=H8.make (E:=eN) (ty:=eR) (y:=0) (u:=V.I 0) u.ej.length rfl rfl;generalize h8.new (.cells eR 1 true false (List.replicate u.ej.length (V.I 0)))=h9 at*;generalize h8.next=lp at*;have X:=(s7.trans s8).trans s9;clear H8 H7 s8 s7 ai aw f;have u9:=u6.since X;have r9:=r6.since X;have aQ:=rn.since X;have aR:=M.trans X;clear X M s9 u6 r6 rn
 obtain ⟨I,L⟩:∃I:Nat->LP,I=λk l h'=>∃(i:Nat) (pE IA:List Nat),l=[.ptr lu 0,pv,.slice ln 0 u.blocks.length,.slice lb 0 u.ej.length,.slice lp 0 u.ej.length,.I i]/\i+k=u.blocks.length/\Sn P h9 P h'/\PlR u i 0 pE IA/\
   eo P h' (fg eN eR IA (.slice lp 0 u.ej.length)::fg eN eR pE (.slice lb 0 u.ej.length)::eQ lu 30 (uC u vv vb vs)::cs):=⟨_,rfl⟩
 refine BA I (λk d x3 x4 x5 x6 x7 h1 hi=>?_) (k:=u.blocks.length) ?_;rotate_left
 ·rw[L];exact⟨0,_,_,rfl,by omega,Sn.refl _ _,⟨WI,WI,λv c m _ hc=>by omega⟩,H9⟩
 rw[L]at hi;clear H9;obtain⟨i,pE,IA,⟨⟩,hk,s1,P1,H1⟩:=hi;unfold tY;have u1:=u9.since s1;refine oF (H1.ld 2 rfl rfl) (eh u1.b.len ?_);by_cases hi:i<u.blocks.length
 ·refine gK ?_;have r:=iy hi;generalize u.blocks[i]=B at*;have bd:=AK g r
  obtain ⟨I4,aj⟩:∃I:Nat->LP,I=λk l h'=>∃(j:Nat) (fst:Bool) (pE IA:List Nat),l=[.ptr lu 0,pv,.slice ln 0 u.blocks.length,.slice lb 0 u.ej.length,.slice lp 0 u.ej.length,.I i,.bool fst,.I j]/\j+k=B.ej.length/\Sn P h9 P h'/\PlR u i j pE IA/\
    (fst=true↔∀(m w:Nat) (y:Vl),m<j->B.ej[m]? =some w->u.ej[w]? =some y->iO y.op=true)/\
    eo P h' (fg eN eR IA (.slice lp 0 u.ej.length)::fg eN eR pE (.slice lb 0 u.ej.length)::eQ lu 30 (uC u vv vb vs)::cs):=⟨_,rfl⟩
  refine BG I4 (λk4 d x3 x4 x5 x6 x7 x8 x9 K ax=>?_) (k:=B.ej.length) ?_;rotate_left
  ·rw[aj];exact⟨0,true,pE,IA,rfl,by omega,s1,P1,⟨λ_ m _ _ N=>by omega,λ_=>rfl⟩,H1⟩
  rw[aj]at ax;clear H1 P1 u1 s1 pE IA;obtain⟨j,fst,pE,IA,⟨⟩,be,s2,P2,ae,G⟩:=ax;unfold sQ;have u2:=u9.since s2;obtain⟨l1,o1,bv,bn,bp,ab,d,_,iv,_,_,xb⟩:=u2.pE r;refine oF (G.ld 2 rfl rfl) (eh d (oF xb.ej (eh iv.len ?_)));by_cases hj:j<B.ej.length;rotate_left
  ·refine iQ ?_;obtain rfl:j=B.ej.length:=by omega
   refine fL ⟨k-1,by omega,?_⟩;rw[L];exact⟨i+1,pE,IA,rfl,by omega,s2,P2.next r,G⟩
  refine gK ?_;have hv:=iy hj;generalize B.ej[j]=v at*;have p:At u v i j:=⟨B,r,hv⟩
  have ak:=g.ko v i j p;obtain⟨x,hx⟩:∃x,u.ej[v]? =some x:=⟨_,iy ak⟩
  obtain⟨l4,o4,ac,y1,y2⟩:=iv.nat hv .i64;obtain⟨l5,o5,w,aS,z1,z2,xw,_⟩:=u2.val hx;refine oF (G.ld 2 rfl rfl) (oF (G.ld 2 rfl rfl) (eh d (oF xb.ej (eh y1 (eh y2 (eh z1 (eh z2 ?_)))))));rw[hX];obtain⟨q,J⟩:=G.Aw 34 [V.I 0,V.I 0,V.I 0,V.I 0,V.ei,V.I 0];have g3:(K.new (.cells 34 1 true false [V.I 0,V.I 0,V.I 0,V.I 0,V.ei,V.I 0])).get K.next=some (.cells 34 1 true false [V.I 0,V.I 0,V.I 0,V.I 0,V.ei,V.I 0]):=fq _ _;generalize K.new (.cells 34 1 true false [V.I 0,V.I 0,V.I 0,V.I 0,V.ei,V.I 0])=h3 at*;refine⟨⟨g3,O.kF _ _ _ _ _⟩,HX z2 (J.fj _ aS),iA y2 (J.fj _ ac),iA xb.ej (J.fj _ ab),q.ld 3 rfl rfl,q.ld 3 rfl rfl,?_⟩;obtain⟨h4,e4,n4,U,s4⟩:=q.U1 0 (ws:=mF x w) (n:=6) rfl rfl rfl (by simp only[mF,eJ,xw.one];rfl);rw[e4,en];simp only[ji]at U;refine⟨n4,?_⟩;generalize K.next=ly at*;have ay:fe (.ptr l1 (o1+0)) h4=some bv:=iA (iA xb.ej (J.fj _ ab)) (s4.fj _ ab);have aA:fe (.ptr l4 o4) h4=some (.I v):=iA (iA y2 (J.fj _ ac)) (s4.fj _ ac);refine oF (U.ld 3 rfl rfl) (eh d (oF ay (eh y1 (eh aA ?_))));obtain⟨l6,o6,h5,e5,e6,n5,S,R⟩:=U.Kh 2 rfl (k:=v) (y:=i) (u:=V.I i) (by rw[P2.nb];exact ak) rfl rfl rfl;refine eh e5 ?_;rw[e6,en];simp only[ji,lO]at S;have aT:fe (.ptr l1 (o1+0)) h5=some bv:=iA ay (R.fj _ ab);have aU:fe (.ptr l4 o4) h5=some (.I v):=iA aA (R.fj _ ac);refine oF (S.ld 3 rfl rfl) (eh d (oF aT (eh y1 (eh aU ?_))));obtain⟨l7,o7,h6,e7,e8,n6,f,C⟩:=S.Kh 1 rfl (k:=v) (y:=j) (u:=V.I j) (by rw[P2.np];exact ak) rfl rfl rfl;refine eh e7 ?_;rw[e8,en];simp only[ji,lO]at f;have al:=((J.trans s4).trans R).trans C;have z0:fe (.ptr ly (0+0)) h6=some (.I x.op):=f.ld 0 rfl rfl;have z4:fe (.ptr ly (0+4)) h6=some w:=f.ld 0 rfl rfl;have w6:=xw.since al;have r6:=(r9.since s2).since al;obtain⟨lr,bf,pr,_,p1,p2,p3⟩:=r6.list (aa i hi) .i64;have aV:iO x.op=true->fst=true:=λhh=>ae.2 (Uc g r p hx hh);refine oF z0 (eh (g0 ..) (eh (a:= .bool (iO x.op)) (by simp only[fo,fM,z0,g0,pS,We]) (eh (a:= .bool false) ?_ (nf ?_ (nf ?_ (jj (gh (by simp) ?_)))))))
  ·show kE _ (some (V.bool (!fst)))=_;rw[j8]
   cases hh:iO x.op with
   |true=>rw[aV hh];rfl
   |false=>rfl
  ·simp only[fo,fM,z0];by_cases c:x.op=21
   ·obtain⟨h0,hl⟩:=g.KN v i j x B p hx c r;rw[Qh (by omega)];simp only[fo,mH,z4,w6.len,p1,p2,p3.len];rw[XH (by rw[hl,g.fi i B r])];simp only[fo,oH];exact MW (by omega)
   ·rw[MW (by omega)];rfl
  ·simp only[fo,fM,z0];by_cases c:x.op=1
   ·have h0:=g.par v i j x p hx c;rw[Qh (by omega)];simp only[fo,mH];exact XH (by omega)
   ·rw[MW (by omega)];rfl
  ·rw [j8];refine eh rfl (fL ⟨k4-1,by omega,?_⟩);rw[aj];refine⟨j+1,_,_,_,rfl,by omega,s2.trans al,P2.step g p,?_,f.tail⟩;rw[vH,ae];constructor
   ·rintro⟨h1,K⟩ m w' y N Y hy;by_cases e:m=j
    ·subst e;rw[hv]at Y;cases Y;rw[hx]at hy;cases hy;exact K
    ·exact h1 m w' y (by omega) Y hy
   ·intro h1;exact⟨λm w' y N Y hy=>h1 m w' y (by omega) Y hy,h1 j v x (by omega) hv hx⟩
 refine iQ ?_;obtain rfl:i=u.blocks.length:=by omega
 clear hk hi k L I;refine xz H1 λK G s2=>?_;generalize h1.next=lq at*;obtain⟨Tp,G⟩:∃T,eo P K (eQ lq T ((List.replicate 40 false).map V.bool)::fg eN eR IA (.slice lp 0 u.ej.length)::fg eN eR pE (.slice lb 0 u.ej.length)::eQ lu 30 (uC u vv vb vs)::cs):=⟨_,G⟩
 obtain ⟨I,L⟩:∃I:Nat->LP,I=λk l h'=>∃(i:Nat) (ps:List Bool),l=[.ptr lu 0,pv,.slice ln 0 u.blocks.length,.slice lb 0 u.ej.length,.slice lp 0 u.ej.length,.ptr lq 0,.I i]/\i+k=u.ej.length/\Sn P h9 P h'/\ps.length=40/\
   (∀m:Nat,ps[m]? =some true->∃(w:Nat) (y:Vl),w<i/\u.ej[w]? =some y/\y.op=1/\y.n=(m:Int))/\
   eo P h' (eQ lq Tp (ps.map V.bool)::fg eN eR IA (.slice lp 0 u.ej.length)::fg eN eR pE (.slice lb 0 u.ej.length)::eQ lu 30 (uC u vv vb vs)::cs):=⟨_,rfl⟩
 refine BS I (λk d x3 x4 x8 x9 bg bh h3 hi=>?_) (k:=u.ej.length) ?_;rotate_left
 ·rw[L];refine⟨0,_,rfl,by omega,s1.trans s2,WI,λm N=>?_,G⟩;rw[wBx]at N;split at N <;> cases N
 rw[L]at hi;clear G H1 u1 s1 s2;obtain⟨i,ps,⟨⟩,hk,J,aB,am,q⟩:=hi;unfold tU;have u3:=u9.since J;refine oF (q.ld 3 rfl rfl) (eh u3.v.len ?_);by_cases hi:i<u.ej.length
 ·refine gK ?_;have hx:=iy hi;generalize u.ej[i]=x at*;obtain⟨l1,o1,w,_,d,_,_,xl⟩:=u3.val hx
  have aC:∀{h8} {ps':List Bool},Sn P h3 P h8->ps'.length=40->(∀m:Nat,ps'[m]? =some true->∃(w:Nat) (y:Vl),w<i+1/\u.ej[w]? =some y/\y.op=1/\y.n=(m:Int))->eo P h8 (eQ lq Tp (ps'.map V.bool)::fg eN eR IA (.slice lp 0 u.ej.length)::fg eN eR pE (.slice lb 0 u.ej.length)::eQ lu 30 (uC u vv vb vs)::cs)->
    kW CS Q (Ey I k) [.ptr lu 0,pv,.slice ln 0 u.blocks.length,.slice lb 0 u.ej.length,.slice lp 0 u.ej.length,.ptr lq 0,.I i] h8:=λ{h8 ps'} s8 hl hp H8=>by
   refine Bq ?_;unfold rO;refine fL ⟨k-1,by omega,?_⟩;rw[L];exact⟨i+1,ps',rfl,by omega,J.trans s8,hl,hp,H8⟩
  have aD:∀m:Nat,ps[m]? =some true->∃(w:Nat) (y:Vl),w<i+1/\u.ej[w]? =some y/\y.op=1/\y.n=(m:Int):=λm N=>by
   obtain⟨w,y,h1,K⟩:=am m N;exact⟨w,y,by omega,K⟩
  refine oF (q.ld 3 rfl rfl) (eh d (oF xl.op (gy ?_)));by_cases c:x.op=1
  ·refine gz (by omega) ?_;obtain⟨n1,n2,n3⟩:=g.param i x hx c;obtain⟨m,N⟩:=wBG n1;have aW:m<40:=by omega
   have xn:=xl.n;rw[N]at xn;have eq:=za0 (n:=1) (l:=lq) (o:=0) (kd:= .i64) aW;have an:=iy (show m<ps.length by omega);have aX:ps[m]? =some false:=by
    cases e:ps[m]with
    | true=>
      rw[e]at an;obtain⟨w',y,h1,K,h3,h4⟩:=am m an;have:=n3 w' y K h3 (by omega)
      omega
    |false=>rw[an,e]
   have aY:fe (.ptr lq (0+m*1)) h3=some (.bool false):=q.ld 0 rfl (by rw[zO,Nat.mul_one,Dn,aX];rfl);refine oF (q.ld 3 rfl rfl) (eh d (oF xn (eh eq (eh aY (jj (gh (by simp) ?_))))));refine oF (q.ld 3 rfl rfl) (eh d (oF xn (eh eq ?_)));obtain⟨h4,e4,_,U,s4⟩:=q.st 0 (o:=m) (u:=V.bool true) rfl (by rw[Ik];omega) rfl;have aZ:gJ 1 (.ptr lq (0+m*1)) (V.bool true) h3=some (.val .undef h4):=by rw[zO,Nat.mul_one];exact e4
   rw[aZ,en];simp only[ji]at U;refine aC s4 (ps':=ps.set m true) (by rw[TH];exact aB) (λm' aE=>?_) (by rw[List.map_set];exact U);by_cases e:m' = m
   ·subst e;exact⟨i,x,by omega,hx,c,N⟩
   ·rw[KP λh=>e h.symm]at aE;exact aD m' aE
  ·exact gh (by omega) (aC (Sn.refl _ _) aB aD q)
 refine iQ ?_;clear hk hi k L I am i;obtain⟨U,s4,r4⟩:=q.tail.kL 0 rfl;simp only[ji]at U;obtain⟨S,R,r5⟩:=U.tail.kL 0 rfl;simp only[ji]at S;have ao:=s4.trans R;have A:=(aR.trans J).trans ao;refine zbi W S.tail ((aQ.since J).since ao) λbi h6 dv OC C f r6 D=>?_;refine eh (f.pC 0 rfl rfl) ?_;have aF:=(r4.since R).since C;have aG:=r5.since C;refine eh (a:= .agg (U3 u vv vb vs (.slice lb 0 u.ej.length) (.slice lp 0 u.ej.length) dv)) ?_ ?_
 ·rcases r6 with⟨rfl,_⟩|⟨_,_,_,_,_,_,rfl,_⟩ <;> rfl
 have u6:=Z.since (A.trans C);refine gZ f rfl rfl (by simp only[U3,eJ,u6.v.one,u6.b.one,u6.s.one,aF.one,aG.one,r6.one];rfl) λh7 H7 s7=>?_;refine za7 g ⟨λv b k p=>?_,D⟩ H7 (u6.since s7) (aG.since s7) (aF.since s7) (r6.since s7) ((((r9.since J).since ao).since C).since s7) λF8 h8 s8 H8=>H F8 h8 (((A.trans C).trans s7).trans s8) H8;refine P1.yes v b k p (.inl ?_);obtain⟨B,r,_⟩:=p;exact(ki.1 r).1
end
