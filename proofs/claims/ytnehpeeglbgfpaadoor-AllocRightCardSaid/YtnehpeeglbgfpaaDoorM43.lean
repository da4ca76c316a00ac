/- Parts. -/
import Derived.Test.YtnehpeeglbgfpaaDoorM42
set_option maxHeartbeats 4000000
namespace Go.Proofs.YtnehpeeglbgfpaaDoor.Hx
open Un Dm
section
variable{F F':Nat->Prop}{h h':Hp}{cs:List Pc}{Q:fm}{u:U}{vv vb vs:V}{of:List Int}{uO:V}{fw:Int}
theorem Ll{l:List Bool}{v:V}{ii n:Nat}(f:er F h (fo eB fx l v::cs))(b:cs[ii]? =some (fo eZ fy of uO))(R:l.length=of.length)(S:of.length<1000000)(I:n<of.length)
  (H:∀c,(c=true↔∃w,w<of.length/\w≠n/\On l w/\of[w]? =of[n]?)->Q (.bool c) h):cP CS jz [v,uO,.I n] h Q:=by
 refine zz rfl rfl ?_;unfold rN;obtain⟨z,j⟩:∃z,of[n]? =some z:=⟨_,iH I⟩
 obtain⟨T,U,J,K⟩:=f.wQ (ii+1) b j .i64;refine xj (λk L h'=>∃i:Nat,L=[v,uO,.I n,.I (i:Nat)]/\i+k=of.length/\h' = h/\∀w,w<i->w≠n->On l w->of[w]?≠of[n]?) ?_ (k:=of.length) ⟨0,rfl,by omega,rfl,λw h=>by omega⟩;rintro k _ _ _ _ h' ⟨i,⟨⟩,W,rfl,d⟩;unfold oL;refine ec (f.len (ii+1) b) ?_;by_cases hi:i<of.length
 ·refine hV ?_;obtain⟨x,m⟩:∃x,l[i]? =some x:=⟨_,iH (by omega)⟩
  obtain⟨y,o⟩:∃y,of[i]? =some y:=⟨_,iH hi⟩
  obtain ⟨X,o1,p1,p2⟩:=f.Gf 0 rfl m .i64;obtain⟨l2,o2,M,N⟩:=f.wQ (ii+1) b o .i64;have E1:∀c,jq (.bool c) (oB (some v) λp=>oB (some (V.I i)) λq=>oB (gy 1 p q) λr=>en r h')=some (.bool (c&&x)):=λc=>by
   simp only[eQ,p1,p2,ir]
  have O:∀c,jq (.bool c) (oB (some uO) λs=>oB (some (V.I i)) λt=>oB (gy 1 s t) λu=>oB (en u h') λA=>oB (some uO) λB=>oB (some (V.I n)) λC=>oB (gy 1 B C) λD=>oB (en D h') λE=>ef .eql 3 A E)=some (.bool (c&&y == z)):=λc=>by
   simp only[eQ,M,N,J,K,ig,ir]
  refine ec (yI _ _ _ _) (ec (E1 _) (ec (O _) (je ?_)));by_cases hc:i≠n/\x=true/\y=z
  ·refine gU (by obtain⟨g,a,G⟩:=hc;simp[a,G];omega) (H true ⟨λ_=>⟨i,hi,hc.1,by unfold On;rw[m,hc.2.1],by rw[o,j,hc.2.2]⟩,λ_=>rfl⟩)
  ·refine gB (λe=>hc ?_) (gq ⟨k-1,by omega,i+1,rfl,by omega,rfl,λw Y g a=>?_⟩)
   ·simp only[qU,Su,ne_eq,Int.natCast_inj,Jg]at e;exact⟨e.1.1,e.1.2,e.2⟩
   ·by_cases e:w=i
    ·subst e;intro e2;unfold On at a;rw[m]at a;rw[o,j]at e2;exact hc ⟨g,Option.some.inj a,Option.some.inj e2⟩
    ·exact d w (by omega) g a
 ·refine jG (H false ⟨λh=>(by cases h),λ⟨w,g,a,G,P⟩=>absurd P (d w (by omega) a G)⟩)
theorem BG(g:Good u)(aX:0<u.ee.length)(H0:er F h cs)(hu:Af F h u vv vb vs){ii:Nat}(A:cs[ii]? =some (fo eZ fy of uO))(hl:of.length<1000000)
  (H:∀F' h' c,Sn F h F' h'->er F' h' cs->(c=true->∃In Out,lR u (gw u) In Out/\kT u Out of fw)->(c=false->(∀Out,¬kT u Out of fw)\/∃In Out,lR u (gw u) In Out/\¬kT u Out of fw)->Q (.bool c) h') :
  cP CS gJ [.agg (uC u vv vb vs),uO,.I fw] h Q:=by
 refine zV rfl rfl ?_;unfold qZ;have nv:=g.nv;have nb:=g.nb;have ac:∀n:Nat,n<=3000->jt .i64 (((n:Nat):Int)-1)=(n:Int)-1:=λn hn=>by rw[iO (by simp only[Fb];omega)]
 refine qx H0 hu.one λK W s1=>?_;generalize h.next=lu at*;have u1:=hu.since s1;refine ec (W.len (ii+1) A) (oF (W.ld 0 rfl rfl) (ec u1.v.len (ec (yI _ _ _ _) ?_)));have E2:∀b,mh (.bool b) (oB (some (V.I fw)) λaY=>ef .lss 3 aY (V.I 0))=some (.bool (b ||decide (fw<0))):=λb=>by
  simp only[eQ,jo,iM]
 have E3:∀b,mh (.bool b) (oB (some (V.I fw)) λaZ=>ef .gtr 3 aZ (V.I 399))=some (.bool (b ||decide (399<fw))):=λb=>by
  simp only[eQ,my,iM]
 refine ec (E2 _) (ec (E3 _) (je ?_));by_cases hc:of.length=u.ee.length/\0<=fw/\fw<=399;rotate_left
 ·refine gU ?_ (H F K false s1 W.tail (by simp) λ_=> .inl λOut r=>hc ⟨r.len,r.s0,r.s1⟩);simp only[IY,Su,IM];omega
 obtain⟨c1,c2,c3⟩:=hc;refine gB (by simp only[IY,Su,IM];omega) ?_;have a0:jt .i64 (16+fw)=16+fw:=iO (by simp only[Fb];omega);refine xm (λk a h'=>∃i:Nat,a=[uO,.I fw,.ptr lu 0,.I (i:Nat)]/\i+k=of.length/\h' = K/\∀k∈of.take i,GD fw k) ?_ (k:=of.length) ⟨0,rfl,by omega,rfl,by simp⟩;rintro k _ _ _ _ h' ⟨i,⟨⟩,hk,rfl,L⟩;unfold pd;refine ec (W.len (ii+1) A) ?_;by_cases hi:i<of.length
 ·refine hV ?_;obtain⟨y,t⟩:∃y,of[i]? =some y:=⟨_,iH hi⟩
  obtain ⟨l4,o4,p1,p2⟩:=W.wQ (ii+1) A t .i64;have E4:∀c,jq (.bool c) (oB (some uO) λa1=>oB (some (V.I i)) λa2=>oB (gy 1 a1 a2) λa3=>oB (en a3 h') λa4=>ef .lss 3 a4 (V.I 12))=some (.bool (c&&decide (y<12))):=λc=>by
   simp only[eQ,p1,p2,jo,ir]
  have E5:∀c,mh (.bool c) (oB (some uO) λa5=>oB (some (V.I i)) λa6=>oB (gy 1 a5 a6) λa7=>oB (en a7 h') λa8=>oB (ef .geq 3 a8 (V.I 16)) λa9=>oB (some a9) λba=>jq ba (oB (some uO) λbb=>oB (some (V.I i)) λbc=>oB (gy 1 bb bc) λbd=>oB (en bd h') λbe=>oB (some (V.I fw)) λbf=>oB (ef .add 3 (V.I 16) bf) λbg=>ef .lss 3 be bg)) =
    some (.bool (c ||(decide (16<=y)&&decide (y<16+fw)))):=λc=>by
   simp only[eQ,p1,p2,nU,Ba,a0,jo,ir,iM]
  refine ec p1 (ec p2 (ec (nU _ _ _ _) (ec (E4 _) (ec (E5 _) ?_))));refine yz ?_;by_cases hp:GD fw y
  ·unfold GD at hp;refine gU (by simp only[IY,qU,IM];omega) ?_;refine gq ⟨k-1,by omega,i+1,rfl,by omega,rfl,λk' aw=>?_⟩;obtain⟨_,rfl⟩:=jw.1 t;rw[KM hi,AI,Ig]at aw;rcases aw with K|rfl
   ·exact L k' K
   ·exact hp
  ·refine gB (λe=>hp ?_) (H F h' false s1 W.tail (by simp) λ_=> .inl λOut r=>hp (RQ r.pl t));simp only[IY,qU,IM]at e;unfold GD;omega
 refine jG ?_;obtain rfl:i=of.length:=by omega
 rw[Yn]at L;refine ec (W.CI 0 rfl rfl) ?_;refine LD g aX W u1 λD iT fR outs In s2 H2 ax hA=>?_;refine ec rfl (ec rfl ?_);generalize ay:iz (o1 outs)=Out at*;have no:∀c i,¬PA u Out of c i->(∀Out,¬kT u Out of fw)\/∃In Out,lR u (gw u) In Out/\¬kT u Out of fw:=λc i hn=> .inr ⟨_,_,hA,λr=>hn (r.pa c i)⟩;clear hk k
 obtain ⟨I1,ai⟩:∃I1:Nat->LP,I1=λk l h'=>∃(F':Nat->Prop) (b:Nat),l=[uO,.ptr lu 0,fR,.I b]/\b+k=u.blocks.length/\Sn F h F' h'/\
  er F' h' (Sx b outs fR::ey lu 29 (uC u vv vb vs)::cs)/\∀c,c<b->∀j,PA u Out of c j:=⟨_,rfl⟩
 refine xk I1 ?_ (k:=u.blocks.length) (by rw[ai];exact⟨F,0,rfl,by omega,s1.trans s2,H2,λc h=>by omega⟩);clear W H2 s1 s2 u1;intro k _ _ _ _ h3 az;rw[ai]at az;obtain⟨F3,b,⟨⟩,hk,s3,H3,aA⟩:=az;unfold pz;have u3:=hu.since s3;refine oF (H3.ld 1 rfl rfl) (ec u3.b.len ?_);by_cases hb:b<u.blocks.length;rotate_left
 ·refine jG (H F3 h3 true s3 H3.tail.tail (λ_=>⟨In,Out,hA,c1,c2,c3,L,λc j=>?_⟩) (by simp));by_cases hc:c<u.blocks.length
  ·exact aA c (by omega) j
  ·exact⟨λv ⟨B,E,_⟩=>absurd (jw.1 E).1 hc,λv ⟨B,E,_⟩=>absurd (jw.1 E).1 hc⟩
 refine hV ?_;obtain⟨B,E⟩:∃B,u.blocks[b]? =some B:=⟨_,iH hb⟩
 have aB:ik u b=B.ee:=by unfold ik;rw[E]
 have bi:=mP g E;obtain⟨⟨G,t0⟩,M⟩:∃x,outs[b]? =some x:=⟨_,iH (by rw[<-Ix,ax.len];exact hb)⟩
 have bj:=ax.row G (xu (CR M));obtain⟨H3,lx,ox,e1,e2⟩:=H3.U7 M;simp only at H3 e2;obtain⟨l4,o4,bv,bn,bp,_,i1,i2,iv,iN,ip,_⟩:=u3.wh E;refine ec e1 (ec e2 (oF (H3.ld 2 rfl rfl) (ec i1 (ec i2 ?_))));generalize V.slice t0 0 G.length=row at*;refine jy H3 rfl rfl (by simp only[lC,fc,iv.one,iN.one,ip.one];rfl) λh4 H4 s4=>?_;generalize h3.next=bx at*;have H4:=H4.sw;have aj:=iv.since s4;refine oF (H4.ld 1 rfl rfl) (ec aj.len (ec (iy _ _ _ _) ?_));rw[ac _ bi];have aC:∀w,On G w↔bh u [] (Out b) w:=λw=>by
  show _↔Out b w;rw[<-ay,rJ (CR M) w]
 obtain ⟨I2,ak⟩:∃I2:Nat->LP,I2=λk l h'=>∃(F':Nat->Prop) (a d:List Nat) (cur:List Bool),l=[uO,.ptr lu 0,fR,.I b,row,.ptr bx 0,.I ((a.length:Int)-1)]/\k=a.length/\B.ee=a++d/\Sn F3 h4 F' h'/\cur.length=u.ee.length/\
  er F' h' (fo eB fx cur row::ey bx 44 (lC B bv bn bp)::Sx (b+1) outs fR::ey lu 29 (uC u vv vb vs)::cs)/\(∀w,On cur w↔bh u d (Out b) w)/\∀j v,a.length<=j->At u v b j->gi u v=false/\PA u Out of b j:=⟨_,rfl⟩
 refine xn I2 ?_ (k:=B.ee.length) (by rw[ak];exact⟨F3,B.ee,[],G,rfl,rfl,by simp,.refl _ _,bj,H4,aC,λj v hj ⟨B',N,I⟩=>by
  rw[E]at N;cases N;have:=(jw.1 I).1;omega⟩)
 clear H3 H4 aC e1 e2 i1 i2;have sF:=s3.trans s4;have aD:=aj;clear s3 s4 iv aj iN ip u3;intro k1 _ _ _ _ _ _ _ h5 aE;rw[ak]at aE;obtain⟨F5,a,d,cur,⟨⟩,bm,o,s5,bo,H5,X,aF⟩:=aE;unfold pf;have u5:=(hu.since sF).since s5;have bq:a.length<=B.ee.length:=by rw[o,Ja];omega
 have Ie:∀(F6:Nat->Prop) (h6:Hp),Sn F5 h5 F6 h6->er F6 h6 (fo eB fx cur row::ey bx 44 (lC B bv bn bp)::Sx (b+1) outs fR::ey lu 29 (uC u vv vb vs)::cs)->(∀v∈a,gi u v=true)->
   jE CS Q (IL I1 k) [uO,.ptr lu 0,fR,.I b,row,.ptr bx 0,.I ((a.length:Int)-1)] h6:=by
  intro F6 h6 s6 Y hh;refine wH ?_;unfold nM;have aG:iL eN F6 h6 B.ee bv:=aD.since (s5.trans s6);obtain⟨I3,al⟩:∃I3:Nat->LP,I3=λk l h'=>∃j:Nat,l=[uO,.ptr lu 0,fR,.I b,row,.ptr bx 0,.I ((a.length:Int)-1),.I (j:Nat)]/\j+k=a.length/\h' = h6/\∀J,J<j->PA u Out of b J:=⟨_,rfl⟩
  refine xf I3 ?_ (k:=a.length) (by rw[al];exact⟨0,rfl,by omega,rfl,λj h=>by omega⟩);intro k3 _ _ _ _ _ _ _ _ h7 aH;rw[al]at aH;obtain⟨j,⟨⟩,bZ,rfl,aI⟩:=aH;unfold oQ;by_cases hj:j<a.length
  ·refine Ui (gU (by omega) ?_);have aJ:B.ee[j]? =some a[j]:=by rw[o,Qg hj];exact iH hj
   have f:At u a[j] b j:=⟨B,E,aJ⟩
   have aK:=g.vR a[j] b j f;obtain⟨l8,o8,_,p1,p2⟩:=aG.nat aJ .i64;refine oF (Y.ld 1 rfl rfl) (ec p1 (ec p2 ?_));have P:∀w,bh u ((ik u b).drop (j+1)) (Out b) w↔On cur w:=λw=>by
    rw[aB,o,List.drop_append_of_le_length (by omega),X w];exact IF λx C=>hh x (List.mem_of_mem_drop C)
   refine Ll (ii:=ii+3) Y A (by omega) hl (by omega) λc hc=>je ?_
   cases c with
   | true=>
     refine gU rfl (H F6 h7 false (sF.trans (s5.trans s6)) Y.tail.tail.tail.tail (by simp) λ_=>no b j λpa=>?_);obtain⟨w,K,D,h3,h4⟩:=hc.1 rfl
     exact pa.ap a[j] f w (by omega) ((P w).2 h3) D h4
   | false =>
     refine gB (by simp) ?_;have br:∀w,w<u.ee.length->On cur w->w≠a[j]->of[w]?≠of[a[j]]?:=λw K D h3 h4=>by
       have:=hc.2 ⟨w,by omega,h3,D,h4⟩;cases this
     obtain⟨z,hz⟩:∃z,of[a[j]]? =some z:=⟨_,iH (show a[j]<of.length by omega)⟩
     obtain⟨l9,o9,z1,z2⟩:=Y.wQ (ii+4) A hz .i64;obtain⟨I4,am⟩:∃I4:Nat->LP,I4=λk l h'=>∃q:Nat,l=[uO,.ptr lu 0,fR,.I (b:Nat),row,.ptr bx 0,.I ((a.length:Int)-1),.I (j:Nat),.I (q:Nat)]/\q+k=j/\h' = h7/\∀q' w,q' < q->B.ee[q']? =some w->of[w]?≠of[a[j]]?:=⟨_,rfl⟩
     refine xx I4 ?_ (k:=j) (by rw[am];exact⟨0,rfl,by omega,rfl,λq w h=>by omega⟩);intro k4 _ _ _ _ _ _ _ _ _ h8 aL;rw[am]at aL;obtain⟨q,⟨⟩,b1,rfl,hq⟩:=aL;unfold pb;by_cases hqj:q<j
     ·refine hV ?_
      have Z:B.ee[q]? =some a[q]:=by rw[o,Qg (by omega)];exact iH (by omega)
      have bX:=g.vR a[q] b q ⟨B,E,Z⟩;obtain⟨y,t⟩:∃y,of[a[q]]? =some y:=⟨_,iH (show a[q]<of.length by omega)⟩
      obtain⟨MK,bt,_,p3,p4⟩:=aG.nat Z .i64;obtain⟨Ir,b2,q1,q2⟩:=Y.wQ (ii+4) A t .i64;refine oF (Y.ld 1 rfl rfl) (ec p3 (ec p4 (ec q1 (ec q2 (oF (Y.ld 1 rfl rfl) (ec p1 (ec p2 (ec z1 (ec z2 (gG (je ?_)))))))))));by_cases e:y=z
      ·refine gU (by simpa using e) (H F6 h8 false (sF.trans (s5.trans s6)) Y.tail.tail.tail.tail (by simp) λ_=>no b j λpa=>?_)
       exact pa.hd a[j] f (hh _ (Cj hj)) q a[q] hqj ⟨B,E,Z⟩ (hh _ (Cj _)) (by rw[t,hz,e])
      ·refine gB (by simpa using e) (iA (m:=1) (by omega) (by omega) ⟨k4-1,by omega,?_⟩)
       rw[am];refine⟨q+1,rfl,by omega,rfl,λq' w K D=>?_⟩;by_cases e2:q' = q
       ·subst e2
        rw[Z]at D;cases D;rw[t,hz];exact λh=>e (Option.some.inj h)
       ·exact hq q' w (by omega) D
     ·refine jG (iA (m:=1) (by omega) (by omega) ⟨k3-1,by omega,?_⟩)
      rw[al];refine⟨j+1,rfl,by omega,rfl,λJ bu=>?_⟩;by_cases e:J=j
      ·subst e
       have uq:∀v,At u v b J->v=a[J]:=λv I=>Option.some.inj ((hX.2 I).symm.trans (hX.2 f));refine⟨λv I b3 q' w K ⟨B',N,D⟩ b4=>?_,λv I w hw aa pe=>?_⟩
       ·obtain rfl:=uq v I
        rw[E]at N;cases N;exact hq q' w (by omega) D
       ·obtain rfl:=uq v I
        exact br w hw ((P w).1 aa) pe
      ·exact aI J (by omega)
  ·refine Ui (gB (by omega) (gq ⟨k-1,by omega,?_⟩));rw[ai];refine⟨F6,b+1,rfl,by omega,sF.trans (s5.trans s6),Y.tail.tail,λc hc J=>?_⟩;by_cases hcb':c<b
   ·exact aA c hcb' J
   obtain rfl:c=b:=by omega
   by_cases bu:J<a.length
   ·exact aI J (by omega)
   ·by_cases I:∃v,At u v c J
    ·obtain⟨v,I⟩:=I;exact(aF J v (by omega) I).2
    ·exact⟨λv h=>absurd ⟨v,h⟩ I,λv h=>absurd ⟨v,h⟩ I⟩
 have aM:iL eN F5 h5 B.ee bv:=aD.since s5;rcases gY a with rfl|⟨s,v,rfl⟩
 ·exact CL (gB (by simp) (Ie F5 h5 (.refl _ _) H5 (by simp)))
 have an:((s++[v]).length:Int)-1=(s.length:Nat):=by simp
 rw[an]at Ie⊢;refine CL (gU (by omega) ?_);have R:B.ee[s.length]? =some v:=by rw[o];simp
 have f:At u v b s.length:=⟨B,E,R⟩
 have aK:=g.vR v b _ f;obtain⟨x,C⟩:∃x,u.ee[v]? =some x:=⟨_,iH aK⟩
 obtain ⟨l7,o7,bw,p1,p2⟩:=aM.nat R .i64;obtain⟨l8,o8,xw,bz,r1,r2,aN,_⟩:=u5.val C;refine oF (H5.ld 3 rfl rfl) (oF (H5.ld 1 rfl rfl) (ec p1 (ec p2 (ec r1 (ec r2 ?_)))));rw[ij];obtain⟨H7,s7⟩:=H5.GG 46 [V.I 0,V.I 0,V.I 0,V.I 0,V.ed,V.I 0];have g7:(h5.new (.cells 46 1 true false [V.I 0,V.I 0,V.I 0,V.I 0,V.ed,V.I 0])).get h5.next=some (.cells 46 1 true false [V.I 0,V.I 0,V.I 0,V.I 0,V.ed,V.I 0]):=ez _ _;generalize h5.new (.cells 46 1 true false [V.I 0,V.I 0,V.I 0,V.I 0,V.ed,V.I 0])=h7 at*;refine⟨⟨g7,O.ie _ _ _ _ _⟩,Fu r2 (s7.eD _ bz),mN p2 (s7.eD _ bw),H7.ld 2 rfl rfl,H7.ld 4 rfl rfl,?_⟩;obtain⟨h8,e8,n8,U,s8⟩:=H7.WC 0 (ws:=qT x xw) (n:=6) rfl rfl rfl (by simp only[qT,fc,aN.one];rfl);rw[e8,ej];simp only[ot]at U;refine⟨n8,?_⟩;generalize h5.next=xc at*;have ab:=s7.trans s8;have U:=U.sw;have aO:en (.ptr xc (0+0)) h8=some (.I x.op):=U.ld 1 rfl rfl;refine oF aO (ec (ig _ _ _ _) ?_);have eH:mh (.bool ((x.op:Int) == 21)) (oB (fI 0 (V.ptr xc 0)) λaP=>oB (en aP h8) λaQ=>ef .eql 3 aQ (V.I 1))=some (.bool (gi u v)):=by
  simp only[eQ,fH,aO,ig,iM];unfold gi;rw[C];show _=some (V.bool (iC x.op));unfold iC;rw[show((x.op:Int) == 21)=(x.op == 21) from G6 _ 21,show((x.op:Int) == 1)=(x.op == 1) from G6 _ 1,Bool.or_comm]
 refine ec eH (je ?_)
 cases hq:gi u v with
 | true=>
   refine gU rfl (Ie F5 h8 ab U.vL λy t=>?_);obtain⟨j,hj⟩:=mM.1 t;have aR:=(jw.1 hj).1
   exact g.DN f hq ⟨B,E,by rw[o,Qg aR];exact hj⟩ (by simp at aR;omega)
 | false =>
   refine gB (by simp) ?_;obtain⟨l9,o9,_,p3,p4⟩:=(aM.since ab).nat R .i64;have P:(ik u b).drop (s.length+1)=d:=by rw[aB,o];simp
   refine oF (U.ld 2 rfl rfl) (ec p3 (ec p4 ?_));refine Ll (ii:=ii+4) U A (by omega) hl (by omega) λc hc=>je ?_
   cases c with
   | true=>
     refine gU rfl (H F5 h8 false (sF.trans (s5.trans ab)) U.tail.tail.tail.tail.tail (by simp) λ_=>no b s.length λpa=>?_);obtain⟨w,K,D,h3,h4⟩:=hc.1 rfl
     exact pa.ap v f w (by omega) (by rw[P];exact(X w).1 h3) D h4
   |false=>
   refine gB (by simp) ?_;have bA:PA u Out of b s.length:=by
     have uq:∀x,At u x b s.length->x=v:=λx C=>Option.some.inj ((hX.2 C).symm.trans (hX.2 f));refine⟨λx C aS=>?_,λx C w hw aa pe e=>?_⟩
     ·obtain rfl:=uq x C
      rw[hq]at aS;cases aS
     ·obtain rfl:=uq x C
      rw[P]at aa;have:=hc.2 ⟨w,by omega,pe,(X w).2 aa,e⟩;cases this
   obtain⟨MK,bt,b5,bC,bD,_,ao,bE⟩:=U.AD 0 rfl (k:=v) (y:=false) (u:=V.bool false) (show v<cur.length by omega) rfl rfl rfl;refine oF (U.ld 2 rfl rfl) (ec p3 (ec p4 (ec bC ?_)));rw[bD,ej];simp only[AT,ot]at ao;have aT:=ab.trans bE;have aU:=aN.since aT;refine ec (ao.CI 1 rfl rfl) ?_;refine Hl ao aU λbG b6 vu bH bI bJ=>?_;have aq:=Fp g C;have aV:∀y∈mD x,y<u.ee.length:=λy t=>rV (g.use v x C y t);have ar:(cur.set v false).length=u.ee.length:=by rw[TF];exact bo
   refine Ks bI bJ (by have:=AR aq;omega) (λy t=>by rw[ar];exact aV y t) λau Wh bK S bY ae=>?_;have ag:en (.ptr xc (0+0)) au=some (.I (x.op:Nat)):=S.ld 1 rfl rfl;refine oF ag (ec (ig _ _ _ _) ?_);have bL:mh (.bool ((x.op:Int) == 22)) (oB (fI 0 (.ptr xc 0)) λbQ=>oB (en bQ au) λbR=>ef .eql 3 bR (V.I 23))=some (.bool (leaves x.op)):=by
     simp only[fH,eQ,ag,ig,iM];unfold leaves;rw[show((x.op:Int) == 22)=(x.op == 22) from G6 _ 22,show((x.op:Int) == 23)=(x.op == 23) from G6 _ 23]
   refine ec bL (je ?_);have T:=(aT.trans bH).trans bK;have bS:=u5.since T;have ah:∀y,On (cur.set v false) y↔On cur y/\y≠v:=λy=>by
     rw[rL (by omega)];constructor
     ·rintro(⟨_,h⟩|⟨K,D⟩)
      ·cases h
      ·exact⟨D,K⟩
     ·exact λh=> .inr ⟨h.2,h.1⟩
   have fin:∀(F':Nat->Prop) (h':Hp) (p:List Bool),Sn F5 h5 F' h'->er F' h' (fo eB fx p row::ey xc 46 (qT x xw)::ey bx 44 (lC B bv bn bp)::Sx (b+1) outs fR::ey lu 29 (uC u vv vb vs)::cs)->p.length=u.ee.length->
       (∀y,On p y↔(On cur y/\y≠v)\/y∈sY u v)->jx CS Q (IL I1 k) (IL I2 k1) [uO,.ptr lu 0,fR,.I (b:Nat),row,.ptr bx 0,.I (s.length:Nat)] h':=by
     intro F' h' p s' H' aW bU;refine wm ?_;unfold nr;refine ec (iy _ _ _ _) ?_;rw[ac s.length (by simp at bq;omega)];refine⟨s.length,by rw[bm];simp,?_⟩;rw[ak];refine⟨F',s,v::d,p,rfl,rfl,by rw[o];simp,s5.trans s',aW,H'.vL,λw=>?_,λj y hj t=>?_⟩
     ·rw[bU w]
      unfold bh;rw[if_neg (by rw[hq];simp),X w]
     ·by_cases e:j=s.length
      ·subst e
       obtain rfl:=Option.some.inj ((hX.2 f).symm.trans (hX.2 t));exact⟨hq,bA⟩
      ·exact aF j y (by simp;omega) t
   cases hlv:leaves x.op with
   | false=>
     refine gB (by simp) (fin bG au Wh T S (by omega) λy=>?_);rw[ae y,ah y];unfold sY;rw[C]
     simp[hlv]
   | true=>
     refine gU rfl ?_;have an:=g.leave v x C hlv;refine oF (S.ld 4 rfl rfl) (oF (S.ld 1 rfl rfl) ?_);refine Im g S bS (by omega) an λF' h' l' s' H' bV bW=>fin F' h' l' (T.trans s') H' bV λy=>?_;rw[bW y,ae y,ah y];unfold sY;rw[C];simp[hlv,or_assoc]
end
open Un Dm
section
variable{F F':Nat->Prop}{h h':Hp}{cs:List Pc}{Q:fm}{u:U}{of:List Int}{fw:Int}
theorem O7(a b:Bool):ef .eql fx (.bool a) (.bool b)=some (.bool (a == b)):=by
 show Mi fx false (.bool a) (.bool b)=_;unfold Mi TE Ov;rw[Lj];rfl
theorem Tz{a:V}{n:Int}(b:a.one=true):fG [V.ed,V.I 0] [(0,1),(1,1)] [(0,a),(1,V.I n)]=some (.agg [a,.I n]):=by
 have:a.cells=[a]:=by cases a <;> first|rfl|(cases b)
 unfold fG wk;simp only[this];rfl
theorem Ab{In Out:Nat->Nat->Prop}{c:Bool}(d:lR u (gw u) In Out)(a:kT u Out of fw)(h:c=false->(∀Out,¬kT u Out of fw)\/∃In Out,lR u (gw u) In Out/\¬kT u Out of fw):c=true:=by
 cases c with
 |true=>rfl
 | false=>
   rcases h rfl with h|⟨e,b,f,g⟩
   ·exact absurd a (h Out)
   ·exact absurd (a.congr d f) g
theorem ME{a c2:Bool}(d:a=true->∃In Out,lR u (gw u) In Out/\kT u Out of fw)(e:a=false->(∀Out,¬kT u Out of fw)\/∃In Out,lR u (gw u) In Out/\¬kT u Out of fw)
  (f:c2=true->∃In Out,lR u (gw u) In Out/\kT u Out of fw) (g:c2=false->(∀Out,¬kT u Out of fw)\/∃In Out,lR u (gw u) In Out/\¬kT u Out of fw):a=c2:=by
 cases a with
 | true=>
   obtain⟨_,_,b,c⟩:=d rfl
   exact(Ab b c g).symm
 | false=>
   cases c2 with
   |false=>rfl
   | true=>
     obtain⟨_,_,b,c⟩:=f rfl;exact Ab b c e
theorem IW{ops a f q:List Int}{np ns:Int}{M e vp K:V}(H0:er F h cs)(Z:iL (eI .i64) F h ops M)(aa:iL (eI .i64) F h a e)(ho:ops.length<9223372036854775808)
  (ao:iL (eI .i64) F h f vp) (aq:iL (eI .i64) F h q K) (H:∀h',Q (.bool true) h') :
  cP CS iF [.agg [M,e,.I np],vp,.I ns,K] h Q:=by
 refine vQ rfl rfl ?_;unfold kS;refine qx H0 (by simp only[fc,Z.one,aa.one];rfl) λh1 H1 s1=>?_;refine ec (H1.CI 0 rfl rfl) ?_;refine S6 H1 (Z.since s1) (aa.since s1) ho λr h2 w s2 H2 hw=>?_;have g:Good (Ak ops a np):=JL ops a np;have sz:=TS ops a np;generalize Ak ops a np=u at*;obtain⟨vv,vb,vs,rfl,w1,w2,N⟩:=hw;have u2:Af r h2 u vv vb vs:=⟨w1,w2,N⟩
 refine jy H2 rfl rfl u2.one λh3 H3 s3=>?_;generalize h2.next=lu at*;refine zX (m:=40) (by omega) (by omega) ?_;generalize ar:jk ns 40=s0;have aK:s0<40:=by rw[<-ar];exact wS ns (by omega)
 refine ec (show _=some (V.agg [.ed,.I s0]) from rfl) ?_;refine jy H3 rfl rfl rfl λh4 H4 s4=>?_;generalize h3.next=s at*;have ab:=((s1.trans s2).trans s3).trans s4;have u4:=(u2.since s3).since s4;have H4:er r h4 (fo eZ fy [] .ed::ey s kj [.ed,.I s0]::ey lu 29 (uC u vv vb vs)::ey h.next 24 [M,e,.I np]::cs):=H4.add (p:=fo eZ fy [] .ed) .nil λ_ h=>h
 refine tz (λk P B D j l h'=>∃(i:Nat) (of:List Int) (uO:V),P=vp/\B=K/\D = .ptr lu 0/\j = .ptr s 0/\l = .I i/\i+k=u.ee.length/\Sn r h4 r h'/\
  er r h' (fo eZ fy of uO::ey s kj [uO,.I s0]::ey lu 29 (uC u vv vb vs)::ey h.next 24 [M,e,.I np]::cs)/\of.length=i) ?_ (k:=u.ee.length)
  ⟨0,[],.ed,rfl,rfl,rfl,rfl,rfl,by omega,Sn.refl _ _,H4,rfl⟩
 rintro k P B D j l h5 ⟨i,of,uO,e1,e3,rfl,rfl,rfl,hk,s5,U,au⟩;subst P B;unfold jU;have u5:=u4.since s5;have aw:en (.ptr lu (0+2)) h5=some vv:=U.ld 2 rfl rfl;refine oF aw (ec u5.v.len ?_);by_cases hi:i<u.ee.length
 ·refine hV ?_;have ac:=ao.since (ab.trans s5);refine ec ac.len ?_
  have next:∀x:Int,iJ CS Q (λP B D j l h'=>∃k',k' < k/\∃(i:Nat) (of:List Int) (uO:V),P=vp/\B=K/\D = .ptr lu 0/\j = .ptr s 0/\l = .I i/\i+k' = u.ee.length/\Sn r h4 r h'/\
    er r h' (fo eZ fy of uO::ey s kj [uO,.I s0]::ey lu 29 (uC u vv vb vs)::ey h.next 24 [M,e,.I np]::cs)/\of.length=i)
    vp K (.ptr lu 0) (.ptr s 0) (.I i) (.I x) h5:=λx=>by
   refine sM ?_;unfold jL
   have fin:∀y:Int,iI CS Q (λP B D j l h'=>∃k',k' < k/\∃(i:Nat) (of:List Int) (uO:V),P=vp/\B=K/\D = .ptr lu 0/\j = .ptr s 0/\l = .I i/\i+k' = u.ee.length/\Sn r h4 r h'/\
     er r h' (fo eZ fy of uO::ey s kj [uO,.I s0]::ey lu 29 (uC u vv vb vs)::ey h.next 24 [M,e,.I np]::cs)/\of.length=i)
     vp K (.ptr lu 0) (.ptr s 0) (.I i) (.I y) h5:=λy=>by
    refine sN ?_;unfold jK;refine oF (U.ld 1 rfl rfl) ?_;rw[KB rfl rfl,fJ];obtain⟨v6,h6,e6,n6,W,s6⟩:=U.DD 0 rfl (lV:=8) (Pw:=3) (y:=y) (w:=[.I y]) (ro:=false) rfl (by decide) (by decide) (by omega);have ax:fh 3 1 8 uO (.slice h5.next 0 1) (h5.new (.cells 3 1 true false [V.I y]))=some (.val v6 h6):=e6;rw[ax,ej];simp only[ot]at W;obtain⟨h7,e7,n7,R,s7⟩:=W.st 1 (o:=0) (u:=v6) rfl (by simp) (W.one 0 rfl);refine ec (fH _ _ _) ?_;rw[show gW 1 (.ptr s (0+0)) v6 h6=_ from e7,ej];simp only[ot,AT]at R;exact gq ⟨k-1,by omega,i+1,of++[y],v6,rfl,rfl,rfl,rfl,rfl,by omega,(s5.trans s6).trans s7,R,by simp[au]⟩
   refine oF (U.ld 1 rfl rfl) (iA (n:=16) (m:=s0) (by omega) (by omega) ?_);refine zX (by omega) (by omega) (ec (nU _ _ _ _) ?_);generalize jk x (16+s0)=y;refine ec (show jq (.bool (decide ((12:Int)<=(y:Nat)))) (oB (some (V.I y)) λay=>ef .lss 3 ay (V.I 16))=some (.bool (decide ((12:Int)<=(y:Nat))&&decide (((y:Nat):Int)<16))) by simp only[eQ,jo,ir]) (je ?_);split
   ·exact fin 0
   ·exact fin (y:Nat)
  by_cases hp:i<f.length
  ·refine hV ?_;obtain⟨l6,o6,x,_,p1,p2,p3⟩:=ac.PO hp .i64 rfl;obtain⟨p3,_⟩:=p3;cases p3;exact ec p1 (ec p2 (next _))
  ·exact jG (next _)
 refine jG ?_;refine ec (U.CI 2 rfl rfl) ?_;refine L2 g (by omega) U u5 λF6 h6 G b fw In Out s6 W hA S hW=>?_;obtain⟨d,rfl⟩:∃n:Nat,fw=(n:Nat):=⟨fw.toNat,(Int.toNat_of_nonneg S.s0).symm⟩
 have aL:d<=399:=by have:=S.s1;omega
 refine ec rfl (ec rfl ?_);refine jy W rfl rfl (by simp only[fc,W.one 0 rfl];rfl) λh7 R s7=>?_;generalize h6.next=lq at*;have u7:=(u5.since s6).since s7;have az:=(ab.trans s5).trans (s6.trans s7);refine PR ⟨jn _,Oo ?_⟩;refine ec (show mh (.bool (!true)) (oB (some (V.I 0)) λaA=>ef .neq 33 aA (V.I 0))=some (.bool false) from rfl) ?_;refine gM (ec (R.CI 4 rfl rfl) (gM (ec (fH _ _ _) (gM (ec (R.ld 0 rfl rfl) (gM (ec (fH _ _ _) (gM (ec (R.ld 0 rfl rfl) (tN ?_))))))))));refine BG g sz.1 R u7 (ii:=1) rfl (by rw[S.len];omega) λF8 h8 c s8 H8 _ hc=>?_;obtain rfl:=Ab hA S hc;clear hc;refine⟨s8.next,ec (show mh (.bool false) (tk .not (.bool true))=some (.bool false) from rfl) ?_⟩;have u8:=u7.since s8;refine gM (ec (H8.CI 4 rfl rfl) (gM (ec (H8.CI 0 rfl rfl) (tN ?_))));refine HW g H8 u8 (ii:=1) rfl (by rw[S.len];omega) λF9 h9 c s9 X _ hc=>?_;obtain rfl:=Ab hA S hc;clear hc;have u9:=u8.since s9;refine⟨s9.next,ec (show mh (.bool false) (tk .not (.bool true))=some (.bool false) from rfl) ?_⟩;refine gM (ec (X.CI 4 rfl rfl) (gM (ec (X.CI 3 rfl rfl) (gM (ec (X.CI 4 rfl rfl) (gM (ec (fH _ _ _) (gM (ec (X.ld 3 rfl rfl) (gM (ec (fH _ _ _) (gM (ec (X.ld 3 rfl rfl) (tN ?_))))))))))))));refine HW g X u9 (ii:=2) rfl (by omega) λFA aM I sA HA a1 b1=>?_;refine⟨sA.next,HA.ld 3 rfl rfl,HA.ld 3 rfl rfl,HA.CI 4 rfl rfl,tN ?_⟩;have uA:=u9.since sA;refine BG g sz.1 HA uA (ii:=2) rfl (by omega) λY t c2 sB HB a2 b2=>?_;obtain rfl:=ME a1 b1 a2 b2;refine⟨sB.next,ec (show mh (.bool false) (ef .neq 4 (.bool I) (.bool I))=some (.bool false) by rw[show ef .neq 4 (V.bool I) (V.bool I)=_ from zn I I,iM];simp) (je (gB (by simp) ?_))⟩;have uB:=uA.since sB;have aB:=((((az.trans s8).trans s9).trans sA).trans sB)
 have aC:=aq.since aB;have aD:G.length=u.ee.length:=S.len;rw[wJ,ij];obtain⟨HC,sC⟩:=HB.KX (E:=eZ) (xs:=[]) (ws:=[]) (n:=0) fy rfl trivial rfl;have gC:(t.new (.cells 3 1 true false [])).get t.next=some (.cells 3 1 true false []):=ez _ _;have HC:er Y (t.new (.cells 3 1 true false [])) (fo eZ fy [] (.slice t.next 0 0)::ey lq kj [b,.I d]::fo eZ fy G b::_):=HC;have sC:Sn Y t Y (t.new (.cells 3 1 true false [])):=sC;have nC:(t.new (.cells 3 1 true false [])).next=t.next+1:=rfl;generalize t.new (.cells 3 1 true false [])=hC at*;refine oF (HC.ld 1 rfl rfl) (oF (HC.ld 1 rfl rfl) ?_);rw[ij];obtain⟨HD,sD⟩:=HC.GG kj [.ed,.I 0];have gD:(hC.new (.cells kj 1 true false [.ed,.I 0])).get t.next=some (.cells 3 1 true false []):=by rw[<-gC];exact eR _ (by omega)
 generalize hC.new (.cells kj 1 true false [.ed,.I 0])=hD at*;generalize hC.next=lr at*;refine⟨⟨HD.get 0 rfl,O.ie _ _ _ _ _⟩,HD.ld 2 rfl rfl,HD.ld 2 rfl rfl,⟨gD,O.ie _ _ _ _ _⟩,?_⟩;obtain⟨J,hE,aE,aF,HE,sE⟩:=HD.RG 1 3 rfl rfl (lV:=8) (by decide) (by decide) (by simp;omega);have ae:fh 3 1 8 (.slice t.next 0 0) b hD=some (.val J hE):=aE;rw[ae,ej];simp only[AT,ot,LR]at HE;have ag:J.one=true:=HE.one 1 rfl;refine⟨aF,ec (Tz ag) ⟨⟨HE.get 0 rfl,O.ie _ _ _ _ _⟩,HE.ld 2 rfl rfl,?_⟩⟩;obtain⟨hG,aG,aH,HG,sG⟩:=HE.WC 0 (ws:=[J,.I d]) (n:=2) rfl rfl rfl (by simp only[fc,ag];rfl);rw[aG,ej];simp only[ot]at HG;refine⟨aH,?_⟩;have ah:=((sC.trans sD).trans sE).trans sG;have uG:=uB.since ah;have aI:=aC.since ah
 refine tE (λk B D ai aj ak h'=>∃(i:Nat) (A:List Int) (N:V),B=K/\D = .ptr lu 0/\ai = .ptr lq 0/\aj = .ptr lr 0/\ak = .I i/\i+k=2/\A.length=u.ee.length/\Sn Y hG Y h'/\
  er Y h' (ey lr kj [N,.I d]::fo eZ fy A N::ey lq kj [b,.I d]::fo eZ fy G b::fo eZ fy of uO::ey s kj [uO,.I s0]::ey lu 29 (uC u vv vb vs)::ey h.next 24 [M,e,.I np]::cs)) ?_ (k:=2)
  ⟨0,G,J,rfl,rfl,rfl,rfl,rfl,rfl,aD,Sn.refl _ _,HG⟩
 rintro k B D ai aj ak hI ⟨i,A,N,rfl,rfl,rfl,rfl,rfl,aN,al,sI,C⟩;unfold jT;have am:=aI.since sI;have uI:=uG.since sI;refine ec am.len (ec (jo _ _ _ _) (ec (show jq (.bool (decide ((i:Int)<(q.length:Nat)))) (oB (some (V.I i)) λan=>ef .lss 3 an (V.I 2))=some (.bool (decide ((i:Int)<(q.length:Nat))&&decide ((i:Int)<2))) by simp only[eQ,jo,ir]) (je ?_)));by_cases hc:i<q.length/\i<2
 ·refine gU (by simp;omega) ?_;obtain⟨l6,o6,x,_,p1,p2,p3⟩:=am.PO hc.1 .i64 rfl;obtain⟨p3,_⟩:=p3;cases p3;have lw:en (.ptr lr (0+0)) hI=some N:=C.ld 0 rfl rfl;have ls:en (.ptr lq (0+1)) hI=some (.I d):=C.ld 2 rfl rfl;refine oF lw (ec p1 (ec p2 (oF lw (ec (C.len 1 rfl) (ec p1 (ec p2 (ec rfl (oF ls (iA (n:=20) (m:=d) (by omega) (by omega) ?_)))))))));have L:0<A.length:=by rw[al];exact sz.1
  refine zX L (by omega) ⟨jn _,ls,p2,lw,?_⟩;have aJ:=wS (q[i]'hc.1) L;refine zX (by omega) (by omega) ⟨jn _,?_⟩;generalize jk _ (20+d)=y;refine ec (iy _ _ _ _) ?_;generalize jt .i64 (((y:Nat):Int)-1)=z;obtain⟨l7,o7,hJ,q1,q2,q3,T,sJ⟩:=C.AD 1 rfl aJ rfl (y:=z) (u:= .I z) rfl rfl;refine ec q1 ⟨lw,?_⟩;rw[q2,ej];simp only[AT,ot]at T;exact⟨q3,gq ⟨k-1,by omega,i+1,A.set _ z,N,rfl,rfl,rfl,rfl,rfl,by omega,by simp[al],sI.trans sJ,T⟩⟩
 ·refine gB (by simp;omega) ?_;refine ec (C.CI 6 rfl rfl) (ec (C.CI 0 rfl rfl) (ec (C.CI 6 rfl rfl) (oF (C.ld 0 rfl rfl) (oF (C.ld 0 rfl rfl) ?_))));refine HW g C uI (ii:=1) rfl (by omega) λFJ hJ I sJ T a1 b1=>?_;refine⟨sJ.next,T.ld 0 rfl rfl,T.ld 0 rfl rfl,T.CI 6 rfl rfl,?_⟩;refine BG g sz.1 T (uI.since sJ) (ii:=1) rfl (by omega) λFK hK c2 sK HK a2 b2=>?_;obtain rfl:=ME a1 b1 a2 b2;refine⟨sK.next,ec (O7 I I) ?_⟩;rw[beq_self_eq_true];exact H _
end
abbrev YO:sQ (List Int):=eL (eI .i64)
abbrev Z0:sQ Int:=eI .i64
