/- Parts. -/
import Derived.Test.YtcoaokdoecgcbaaGreatDoorM40
import Derived.Test.YtcoaokdoecgcbaaGreatDoorM37
import Derived.Test.YtcoaokdoecgcbaaGreatDoorM46
set_option maxHeartbeats 4000000
namespace Go.Proofs.YtcoaokdoecgcbaaGreatDoor.Hx
open Un Dm
abbrev zgB:Nat:=198
abbrev zgJ:Nat:=195
abbrev zeP:Nat:=197
def TM:HT:=⟨zgB,zgJ,sL,rD,rF,lX,sI⟩
theorem htM:Lf TM where
 agg:=by kernel_rfl
 mL:=by kernel_rfl
 mS:=by kernel_rfl
 mW:=by kernel_rfl
 mP:=by kernel_rfl
 mQ:=by kernel_rfl
 kL h:=Jh rfl rfl h
 kS h:=HO rfl rfl h
 kW h:=HZ rfl rfl h
 kP h:=HG rfl rfl h
 kQ h:=Jf rfl rfl h
abbrev vfM(a ln:Nat)(b:V)(w:V):List V:=[.map a,.map ln,w,b]
theorem hvM(a ln:Nat)(b:V):HV 2 (vfM a ln b):=⟨λ_=>rfl,λ_ _=>rfl⟩
section
variable{F F':Nat->Prop}{h h':Hp}{cs:List Pc}{Q:fo}
structure Or (F:Nat->Prop) (h:Hp) (lo c ln:Nat) (cs:List Pc) (R:List Mv) (N:Int->Option Int) (b:List Int) (out:List Mv) (f:Int->Option Int) (w d:V):Prop where
 H:ej F h (fE eZ fw b w::ft lo zeP (vfM c ln d w)::Ms c f::Ms ln N::fE eMv CV out d::cs)
 f:∀t a,f t=some a↔(a,t)∈R
theorem Fj(a b:Int):fm [V.I 0,V.I 0] [(0,1),(1,1)] [(0,V.I a),(1,V.I b)]=some (.agg [.I a,.I b]):=rfl
theorem Kg:∀l:List Mv,l.length<=cost l
 |[]=>jv _
 |m::l=>by have:=Kg l;have:1<=Eh m:=by unfold Eh;split <;> omega
           simp only[Un.cost,Jo];omega
theorem MM{lo g ln:Nat}{R:List Mv}{N:Int->Option Int}{c:List Int}{out:List Mv}{f:Int->Option Int}{w d:V}{a b:Int}{K:fo}(O:Or F h lo g ln cs R N c out f w d)(z:out.length<900000)
  (k:∀h' e,Sn F h F h'->Or F h' lo g ln cs R N c (out++[(a,b)]) f w e->K .undef h') :
  hZ (iK CV 2 1 (.agg [.I 0,.I 0]) [(0,.agg [.I a,.I b])]) h λv m=>fg (eQ CV 2 16 d v m) λn i=>oP (gq (.ptr lo 0)) λp=>oP (fK 3 p) λq=>fg (gL 1 q n i) K:=by
 rw[show iK CV 2 1 (.agg [.I 0,.I 0]) [(0,.agg [.I a,.I b])]=some (.cells CV 2 true false [.I a,.I b],λl=> .slice l 0 1) from rfl,fI];obtain⟨w2,i,e2,_,j,r⟩:=O.H.wi 4 rfl (lE:=16) (IZ:=CV) (ro:=false) (y:=(a,b)) (w:=[.I a,.I b]) rfl (by decide) (by decide) (by omega);rw[show eQ CV 2 16 d (.slice h.next 0 1) (h.new (.cells CV 2 true false [.I a,.I b]))=_ from e2,eh];obtain⟨s,t,_,u,x⟩:=j.st 1 rfl (o:=0+3) (by simp) (j.one 4 rfl);refine ec (fi _ _) (ec pf ?_);rw[t,eh];exact k s w2 (r.trans x) ⟨u,O.f⟩
theorem Pg{R:List Mv}(nd:(jP R).Nodup){f:Int->Option Int}(b:∀t a,f t=some a↔(a,t)∈R)(t:Int):∀t' a,Cz f t none t' = some a↔(a,t')∈less R t:=λt' a=>by
 unfold Cz;rw[kr];split
 ·rename_i e;simp[e]
 ·rename_i e;rw[b];simp[e]
theorem SZ{l:List Mv}{sp:Int}(OM:l.length<40000){R out:List Mv}(I:RO l sp R out):out.length<90000/\R.length<90000:=by
 have a:=I.cost;have b:=Kg out;omega
variable{l:List Mv}{sp:Int}(hl:(jP l).Nodup)(hs:∀m∈l,m.1≠sp/\m.2≠sp)(OM:l.length<40000)
include hl hs OM
theorem zbG{lo s ln:Nat}{R:List Mv}{N:Int->Option Int}{c:List Int}{out:List Mv}{f:Int->Option Int}{w wo:V}(O:Or F h lo s ln cs R N c out f w wo)(E:∀p,(N p).getD 0=(K8 R p:Nat))(I:RO l sp R out)(o:W9 R c)
  (H:∀h' R' T b Y w' u,Sn F h F h'->Or F h' lo s ln cs R' T [] b Y w' u->RO l sp R' b->W9 R' []->(∀x∈jP R',x∈jP R)->Q (.tuple []) h'):cP CS ni [.ptr lo 0] h Q:=by
 refine Fx rfl rfl ?_;unfold xu;obtain⟨J,U⟩:∃J:Nat->LP,J=λk l' h'=>∃R' T d b Y w' u,l' = [.ptr lo 0]/\R'.length=k/\Sn F h F h'/\Or F h' lo s ln cs R' T d b Y w' u/\(∀p,(T p).getD 0=(K8 R' p:Nat))/\RO l sp R' b/\W9 R' d/\∀x∈jP R',x∈jP R:=⟨_,rfl⟩
 refine CH J ?_ (k:=R.length) (by rw[U];exact⟨R,N,c,out,f,w,wo,rfl,rfl,.refl _ _,O,E,I,o,λ_ h=>h⟩);clear E I o O;intro k _ Z G;rw[U]at G;obtain⟨R1,W,aa,g,v,w1,z,⟨⟩,hk,s1,A,E,I,o,q⟩:=G;unfold sW;refine oN (A.H.ld 1 rfl rfl) (ec (A.H.len 0 rfl) (ec (iG _ _ _ _) (gh ?_)))
 cases aa with
 |nil=>exact gD (by simp) (H Z R1 W g v w1 z s1 A I o q)
 | cons t fr=>
   refine gN (by simp) (ec (fi _ _) (ec pf ?_));have ht:=(o.iff t).1 (RN ..);obtain⟨m,C,rfl⟩:=iB.1 ht.1;have ax:=SZ OM I;have ab:fr.length<90000:=by
     have Z:fr.length<=(jP R1).length:=by
       have ac:=(TJ.1 o.nd).2;exact Qf ac λx hx=>((o.iff x).1 (Yd _ hx)).1
     simp only[jP,XS]at Z;omega
   refine htM.pop (hvM s ln z) A.H ab λh2 i w2 s2 hp X=>?_;refine ec (show Ek 3 (V.I 0) (.iface fw (.I m.2))=some (.I m.2) from rfl) ?_;have ae:v m.2=some m.1:=(A.f _ _).2 C;have lk:=(X.Mb 2 rfl m.2).1;rw[ae,Option.getD_some]at lk;refine oN (X.ld 1 rfl rfl) (ec lk (oN (X.ld 1 rfl rfl) (ec (Fj _ _) ?_)));have O2:Or F h2 lo s ln cs R1 W i g v w2 z:=⟨X,A.f⟩
   refine MM O2 (by omega) λh3 j s3 O3=>?_;refine oN (O3.H.ld 1 rfl rfl) ?_;obtain⟨h4,e4,_,H4,s4⟩:=O3.H.zfd 2 rfl m.2;rw[e4,eh];have K:=(H4.Mb 3 rfl m.1).1;rw[E]at K;refine oN (H4.ld 1 rfl rfl) (ec K ?_);have hc:=N8 I.nd C m.1;rw[if_pos rfl]at hc;have ay:K8 R1 m.1<=R1.length:=List.length_filter_le _ _;rw[iu,fY,gS (by simp only[Cf];omega),show((K8 R1 m.1:Nat):Int)-1=(K8 (less R1 m.2) m.1:Nat) by omega];obtain⟨L,e5,_,D,s5⟩:=H4.zeg 3 rfl m.1 (K8 (less R1 m.2) m.1:Nat);rw[e5,eh];have n:=Pg I.nd A.f m.2;have B:∀p,((Cz W m.1 (some (K8 (less R1 m.2) m.1:Nat))) p).getD 0=(K8 (less R1 m.2) p:Nat):=λp=>by
     unfold Cz;split
     ·rename_i e;rw[e];rfl
     ·rename_i e
      have:=N8 I.nd C p;rw[if_neg e]at this;rw[E];omega
   have ag:W9 R1 (m.2::i):=o.perm (hp.cons _);obtain⟨ah,ai⟩:=ag.step I.nd C;have I5:=I.zgK hl hs C ht.2;have ll:=FY I.nd C;have r:∀x∈jP (less R1 m.2),x∈jP R:=λx hx=>by
     obtain⟨y,hy,rfl⟩:=iB.1 hx;exact q _ (iB.2 ⟨y,(kr.1 hy).1,rfl⟩)
   have M:=(((s1.trans s2).trans s3).trans s4).trans s5;have O5:Or F L lo s ln cs (less R1 m.2) (Cz W m.1 (some (K8 (less R1 m.2) m.1:Nat))) i (g++[(m.1,m.2)]) (Cz v m.2 none) w2 j:=⟨D,n⟩
   have aj:=(D.Mb 2 rfl m.1).2;have P:=(D.Mb 3 rfl m.1).1;rw[B]at P;refine oN (D.ld 1 rfl rfl) (ec aj (ec rfl (ec rfl ?_)));have S:(Cz v m.2 none m.1).isSome=true↔m.1∈jP (less R1 m.2):=by
     rw[Option.isSome_iff_exists];constructor
     ·rintro⟨a,ha⟩;exact iB.2 ⟨_,(n _ _).1 ha,rfl⟩
     ·intro ak
      obtain⟨y,hy,e⟩:=iB.1 ak;exact⟨y.1,(n _ _).2 (by rw[<-e];exact hy)⟩
   have eA:iM (.bool (Cz v m.2 none m.1).isSome) (oB (some (V.ptr lo 0)) λal=>oB (gq al) λam=>oB (fK 1 am) λan=>oB (eC an L) λao=>oB (some (V.I m.1)) λaq=>oB (p5 3 none (V.I 0) false ao aq L) λar=>ef .eql 3 ar (V.I 0)) =
       some (.bool ((Cz v m.2 none m.1).isSome&&decide (K8 (less R1 m.2) m.1=0))):=by
     simp only[eD,fi,fN];rw[show eC (.ptr lo (0+1)) L=some (.map ln) from D.ld 1 rfl rfl,eD,show p5 3 none (V.I 0) false (.map ln) (.I m.1) L=_ from P,eD,iE,gQ];congr 3;rw[Uv,KC,AL];omega
   refine ec eA (gh ?_);by_cases hc0:K8 (less R1 m.2) m.1=0/\m.1∈jP (less R1 m.2)
   ·refine gN (by rw[S.2 hc0.2,hc0.1];rfl) (ec (fi _ _) (ec pf ?_))
    refine htM.push (hvM s ln j) D (by have:=hp.length_eq;omega) λh6 au w6 s6 aw _ H6=>⟨k-1,by omega,?_⟩
    rw[U];exact⟨less R1 m.2,_,au,_,_,w6,j,rfl,by omega,M.trans s6,⟨H6,n⟩,B,I5,(ah hc0).perm (aw.trans (List.perm_append_singleton _ _)),r⟩
   ·refine gD (λe=>?_) ⟨k-1,by omega,?_⟩
    ·rw[sJ,AL,S]at e
     exact hc0 ⟨e.2,e.1⟩
    ·rw[U]
     exact⟨less R1 m.2,_,i,_,_,w2,j,rfl,by omega,M,O5,B,I5,ai hc0,r⟩
theorem zaV(B:sp<16){lo v ln:Nat}{R:List Mv}{N:Int->Option Int}{g:List Int}{out:List Mv}{f:Int->Option Int}{w M:V}{p:Int}(O:Or F h lo v ln cs R N g out f w M)(I:RgI l sp p p R out)
  (H:∀h' R' d C n,Sn F h F h'->Or F h' lo v ln cs R' N g d C w n->RO l sp R' d->Kl R'->(∀x∈jP R',x∈jP R)->p ∉ jP R'->Q (.tuple []) h'):cP CS mU [.ptr lo 0,.I p,.I sp] h Q:=by
 refine Fv rfl rfl ?_;unfold xS;obtain⟨J,D⟩:∃J:Nat->LP,J=λk X h'=>∃t R' d C n,X=[.ptr lo 0,.I p,.I sp,.I t]/\R'.length=k/\Sn F h F h'/\Or F h' lo v ln cs R' N g d C w n/\RgI l sp p t R' d/\(∀x∈jP R',x∈jP R)/\(t≠p->p ∉ jP R'):=⟨_,rfl⟩
 refine Co J ?_ (k:=R.length) (by rw[D];exact⟨p,R,out,f,M,rfl,rfl,.refl _ _,O,I,λ_ h=>h,λe=>(e rfl).elim⟩);clear I O;intro k _ _ _ _ Y r;rw[D]at r;obtain⟨t,R1,i,P,E,⟨⟩,hk,s1,q,I,s,u⟩:=r;unfold tf;obtain⟨m,z,rfl⟩:=iB.1 I.mem;have G:P m.2=some m.1:=(q.f _ _).2 z;have S:=(q.H.Mb 2 rfl m.2).1;rw[G,Option.getD_some]at S;have Z:i.length<90000:=by
  have Y:=I.cost;have T:=Kg i;omega
 refine oN (q.H.ld 1 rfl rfl) (ec S (oN (q.H.ld 1 rfl rfl) ?_));obtain⟨T,e2,_,H2,U⟩:=q.H.zfd 2 rfl m.2;rw[e2,eh];have A:Or F T lo v ln cs (less R1 m.2) N g i (Cz P m.2 none) w E:=⟨H2,Pg I.nd q.f m.2⟩
 have ll:=FY I.nd z;have c:∀x∈jP (less R1 m.2),x∈jP R/\x≠m.2/\x∈jP R1:=λx j=>by
  obtain⟨y,hy,rfl⟩:=iB.1 j;have:=kr.1 hy;exact⟨s _ (iB.2 ⟨y,this.1,rfl⟩),this.2,iB.2 ⟨y,this.1,rfl⟩⟩
 refine gw ?_;by_cases e:m.1=p
 ·refine gN e (oN (A.H.ld 1 rfl rfl) (ec (Fj _ _) ?_));rw[<-e]at I;refine MM A (by omega) λW o K L=>?_;obtain⟨a,b⟩:=I.close hl hs B z;refine H W _ _ _ o ((s1.trans U).trans K) L a b (λx j=>(c x j).1) λj=>?_;by_cases e2:m.2=p
  ·exact(c p j).2.1 e2.symm
  ·exact u e2 (c p j).2.2
 ·refine gD e (oN (A.H.ld 1 rfl rfl) (ec (Fj _ _) ?_));refine MM A (by omega) λW o K L=>⟨k-1,by omega,?_⟩
  rw[D];refine⟨m.1,less R1 m.2,_,_,o,rfl,by omega,(s1.trans U).trans K,L,I.step hl hs z e,λx j=>(c x j).1,λ_ j=>?_⟩;by_cases e2:m.2=p
  ·exact(c p j).2.1 e2.symm
  ·exact u e2 (c p j).2.2
end
open Un Dm
section
variable{F F':Nat->Prop}{h h':Hp}{cs:List Pc}{Q:fo}
theorem Zf(a b:Nat):fm [V.ke,V.ke,V.ed,V.ed] [(0,1),(1,1),(2,1),(3,1)] [(0,V.map a),(1,V.map b)]=some (.agg [.map a,.map b,.ed,.ed]):=rfl
theorem M8{l:List Mv}{i:Nat}(hi:i<l.length):(l.take (i+1)).filter (λm=>m.1≠m.2)=(l.take i).filter (λm=>m.1≠m.2)++if l[i].1=l[i].2 then[] else[l[i]]:=by
 rw[Nt hi,List.filter_append];congr 1;by_cases e:l[i].1=l[i].2 <;> simp[e]
theorem zef{l:List Mv}{sp:Int}{vl:V}(H0:ej F h cs)(rl:iH eMv F h l vl)(hl:(jP l).Nodup)(hs:∀m∈l,m.1≠sp/\m.2≠sp)(OM:l.length<40000)(aa:sp<16)
  (H:∀F' h' out wo,Sn F h F' h'->ej F' h' (fE eMv CV out wo::cs)->zel l sp out->out.length<90000->Q wo h'):cP CS AY [vl,.I sp] h Q:=by
 refine Sa rfl rfl ?_;unfold Md;rw[fI];have Ha:ej F h (fE eZ fw [] .ed::cs):=H0.add .nil λ_ h=>h;have Hb:ej F h (fE eMv CV [] .ed::fE eZ fw [] .ed::cs):=Ha.add .nil λ_ h=>h;obtain⟨H1,s1⟩:=Hb.zeS;rw[fI];obtain⟨H2,s2⟩:=H1.zeS;have ab:=s1.trans s2;have H2:=H2.sw;generalize (h.new (.map [] 0)).new (.map [] 0)=r at*;generalize (h.new (.map [] 0)).next=ln at*;generalize h.next=E at*;refine ec (Zf _ _) (rL H2 rfl λh3 H3 s3=>?_);generalize r.next=lo at*;have aw:=rl.since (ab.trans s3);refine ec aw.len ?_
 obtain ⟨J,hJ⟩:∃J:Nat->LP,J=λk l' h'=>∃F' i N f I,l' = [.I sp,.ptr lo 0,I,vl,.I l.length,.I (i:Nat)]/\i+k=l.length/\Sn F h F' h'/\
   Or F' h' lo E ln (fE eZ fw (jP ((l.take i).filter λm=>m.1≠m.2)) I::cs) ((l.take i).filter λm=>m.1≠m.2) N [] [] f .ed .ed/\∀p,(N p).getD 0=(K8 ((l.take i).filter λm=>m.1≠m.2) p:Nat):=⟨_,rfl⟩
 refine Om J ?_ (k:=l.length) ?_;rotate_left
 ·rw[hJ];exact⟨F,0,_,_,.ed,rfl,by omega,ab.trans s3,⟨H3.add .nil λ_ h=>h,λt a=>by simp⟩,λp=>rfl⟩
 intro k _ _ q _ _ _ h4 ac;rw[hJ]at ac;obtain⟨s,i,N,f,_,⟨⟩,hk,s4,W,X⟩:=ac;have ax:=rl.since s4;unfold Fu;by_cases hi:i<l.length
 ·
  have o:=iz hi;have K:=M8 hi;have ae:=Dg hi;have ag:l[i].2 ∉ jP ((l.take i).filter λm=>m.1≠m.2):=λhm=>by
   obtain⟨y,hy,e⟩:=iB.1 hm;have hy:=(Zm.1 hy).1;obtain⟨n,hn,rfl⟩:=wBi.1 hy;rw[Rh]at hn;rw[List.getElem_take]at e;have:=(List.getElem_inj (h₀:=by simp[jP];omega) (h₁:=by simp[jP];omega) hl (i:=n) (j:=i)).1 (by simpa[jP]using e);omega
  have hlen:((l.take i).filter λm=>decide (m.1≠m.2)).length<=i:=by
   have u:=List.length_filter_le (λm:Mv=>decide (m.1≠m.2)) (l.take i);rw[Rh]at u;omega
  generalize (l.take i).filter (λm=>m.1≠m.2)=R at*;generalize l[i]=m at*;obtain⟨a,b⟩:=m;obtain⟨q1,q2,q3,_,i1,i2,rfl,_⟩:=ax.ix hi .i64;have ei:l[i]=(a,b):=Option.some.inj ((iz hi).symm.trans o);rw[ei]at i2;refine gU (ec i1 (ec i2 ?_));refine tW W.H rfl rfl rfl λF5 Y lc H5 s5 c5=>?_;have B:Or F5 Y lo E ln (fE eZ fw (jP R) q::cs) R N [] [] f .ed .ed:=⟨H5,W.f⟩
  refine oF (c5.ld rfl) (oF (c5.ld rfl) (Ef ?_))
  have d:∀F9 g R' N' C I,Sn F5 Y F9 g->R' = (l.take (i+1)).filter (λm=>decide (m.1≠m.2))->Or F9 g lo E ln (fE eZ fw (jP R') I::cs) R' N' [] [] C .ed .ed->(∀p,(N' p).getD 0=(K8 R' p:Nat))->
    sr CS Q (KJ J k) [.I sp,.ptr lo 0,I,vl,.I l.length,.I i] g:=λF9 g R' N' C I L eR M ay=>by
   refine Mr ?_;unfold El;refine gf ⟨k-1,by omega,?_⟩;rw[hJ];subst eR;exact⟨F9,i+1,N',C,I,rfl,by omega,(s4.trans s5).trans L,M,ay⟩
  by_cases e:a=b
  ·refine gN e ?_;exact d F5 Y R N f q (.refl _ _) (by rw[K,if_pos e,Hf]) B X
  ·refine gD e ?_;rw[if_neg e]at K;have aI:(a,b)∈l:=ae;refine oN (H5.ld 1 rfl rfl) (oF (c5.ld rfl) (oF (c5.ld rfl) ?_));obtain⟨h6,e6,n6,H6,Z⟩:=H5.zeg 2 rfl b a;rw[e6,eh];have c6:=c5.since Z;have O:=(H6.Mb 3 rfl a).1;rw[X]at O;refine⟨n6,oN (H6.ld 1 rfl rfl) (oF (c6.ld rfl) (ec O ?_))⟩;have aJ:K8 R a<=R.length:=List.length_filter_le _ _;refine gf ?_;obtain⟨h7,e7,n7,H7,s7⟩:=H6.zeg 3 rfl a ((K8 R a+1:Nat):Int);rw[e7,eh];have c7:=c6.since s7;refine⟨n7,oF (c7.ld rfl) ?_⟩;rw[show iK 3 1 1 (.I 0) [(0,.I b)]=some (.cells 3 1 true false [.I b],λl=> .slice l 0 1) from rfl,fI];obtain⟨w8,h8,e8,n8,H8,s8⟩:=H7.wi 5 rfl (lE:=8) (IZ:=3) (y:=b) (w:=[.I b]) (ro:=false) rfl (by decide) (by decide) (by simp only[jP,XS];omega);rw[show eQ 3 1 8 q (.slice h7.next 0 1) (h7.new (.cells 3 1 true false [.I b]))=_ from e8,eh];have et:jP (R++[(a,b)])=jP R++[b]:=by simp[jP]
   refine d F5 h8 (R++[(a,b)]) _ _ w8 ((Z.trans s7).trans s8) K.symm ⟨by rw[et];exact H8,λt y=>?_⟩ λp=>?_
   ·unfold Cz;rw[xU,EI];split
    ·rename_i et;subst et;constructor
     ·intro h;cases h;exact .inr rfl
     ·rintro(h|h)
      ·exact(ag (iB.2 ⟨_,h,rfl⟩)).elim
      ·cases h;rfl
    ·rename_i et;rw[W.f];constructor
     ·exact .inl
     ·rintro(h|h)
      ·exact h
      ·cases h;exact(et rfl).elim
   ·rw[ZP];unfold Cz;split
    ·rename_i ep;subst ep;simp
    ·rename_i ep;rw[if_neg (Ne.symm ep),X];rfl
 ·refine iY ?_;obtain rfl:i=l.length:=by omega
  rw[SM]at W X;have I0:=RO.start sp hl;generalize (l.filter λm=>m.1≠m.2)=R at*;have aK:R.length<50000:=by have:=I0.cost;simp only[Un.cost]at this;omega
  refine ec (W.H.len 5 rfl) ?_
  obtain ⟨J1,P⟩:∃J1:Nat->LP,J1=λk l' h'=>∃i fr w,l' = [.I sp,.ptr lo 0,q,q,.I ((jP R).length:Nat),.I (i:Nat)]/\i+k=(jP R).length/\Sn F h s h'/\
    Or s h' lo E ln (fE eZ fw (jP R) q::cs) R N fr [] f w .ed/\fr.Nodup/\(∀p,p∈fr↔p∈(jP R).take i/\p ∉ oH R):=⟨_,rfl⟩
  refine OA J1 ?_ (k:=(jP R).length) (by rw[P];exact⟨0,[],.ed,rfl,by omega,s4,W,.nil,λp=>by simp⟩);intro k1 _ _ _ _ _ _ Y ah;rw[P]at ah;obtain⟨i,fr,w,⟨⟩,aL,s5,B,fn,ff⟩:=ah;unfold FQ;by_cases hi:i<(jP R).length
  ·have o:=iz hi;have ai:=Nt hi;have aj:(jP R)[i] ∉ (jP R).take i:=λhm=>by
    obtain⟨n,hn,e⟩:=wBi.1 hm;rw[Rh]at hn;rw[List.getElem_take]at e;have:=(List.getElem_inj I0.nd).1 e;omega
   generalize (jP R)[i]=p at*;obtain⟨l1,o1,p1,p2⟩:=B.H.AI 5 rfl o .i64;have O:=(B.H.Mb 3 rfl p).1;rw[X]at O;refine gU (ec p1 (ec p2 (oN (B.H.ld 1 rfl rfl) (ec O (gw ?_)))))
   have d:∀g v w',Sn s Y s g->Or s g lo E ln (fE eZ fw (jP R) q::cs) R N v [] f w' .ed->v.Nodup->(∀p,p∈v↔p∈(jP R).take (i+1)/\p ∉ oH R)->
     sm CS Q (KJ J1 k1) [.I sp,.ptr lo 0,q,q,.I ((jP R).length:Nat),.I i] g:=λg v w' L M a b=>by
    refine Mo ?_;unfold Ey;have:(jP R).length=R.length:=by simp[jP]
    refine gf ⟨k1-1,by omega,?_⟩;rw[P];exact⟨i+1,v,w',rfl,by omega,s5.trans L,M,a,b⟩
   have az:p ∉ fr:=λhm=>aj ((ff p).1 hm).1;by_cases hc:K8 R p=0
   ·have S:=Cy.1 hc;refine gN (by omega) (ec (fi _ _) (ec pf ?_));have aA:fr.length<90000:=by
     have:=Qf fn (b:=jP R) λx o=>wBk ((ff x).1 o).1;simp only[jP,XS]at this;omega
    refine htM.push (hvM E ln .ed) B.H aA λh6 aB w6 Z D _ H6=>?_;have D:=D.trans (List.perm_append_singleton p fr);refine d h6 aB w6 Z ⟨H6,B.f⟩ (D.nodup_iff.2 (TJ.2 ⟨az,fn⟩)) λx=>?_;rw[D.mem_iff,wM,ff x,ai,xU,EI];constructor
    ·rintro(rfl|⟨u,r⟩)
     ·exact⟨.inr rfl,S⟩
     ·exact⟨.inl u,r⟩
    ·rintro⟨u|rfl,r⟩
     ·exact .inr ⟨u,r⟩
     ·exact .inl rfl
   ·have S:p∈oH R:=Classical.byContradiction λhn=>hc (Cy.2 hn);refine gD (by omega) (d Y fr w (.refl _ _) B fn λx=>?_);rw[ff x,ai,xU,EI];constructor
    ·rintro⟨u,r⟩;exact⟨.inl u,r⟩
    ·rintro⟨u|rfl,r⟩
     ·exact⟨u,r⟩
     ·exact(r S).elim
  ·refine iY ?_;obtain rfl:i=(jP R).length:=by omega
   rw[SM]at ff;refine zbG hl hs OM B X I0 ⟨fn,ff⟩ λh6 R6 N6 ak f6 w6 aC Z O6 I6 aD T=>?_;refine ec (O6.H.len 5 rfl) ?_
   obtain ⟨J2,U⟩:∃J2:Nat->LP,J2=λk l' h'=>∃i R' c C z,l' = [.I sp,.ptr lo 0,q,.I ((jP R).length:Nat),.I (i:Nat)]/\i+k=(jP R).length/\Sn F h s h'/\
     Or s h' lo E ln (fE eZ fw (jP R) q::cs) R' N6 [] c C w6 z/\RO l sp R' c/\Kl R'/\∀x∈jP R',x∈(jP R).drop i:=⟨_,rfl⟩
   refine Oj J2 ?_ (k:=(jP R).length) (by rw[U];exact⟨0,R6,ak,f6,aC,rfl,by omega,s5.trans Z,O6,I6,aD.rings I6.nd,by simpa using T⟩);intro k2 _ _ _ _ _ h7 al;rw[U]at al;obtain⟨i,R7,G,f7,am,⟨⟩,aM,s7,A,I7,an,ao⟩:=al;unfold Gi;have aN:=SZ OM I7;by_cases hi:i<(jP R).length
   ·have o:=iz hi;have aE:=wAj hi;generalize (jP R)[i]=p at*;obtain⟨l1,o1,p1,p2⟩:=A.H.AI 5 rfl o .i64;have O:=(A.H.Mb 2 rfl p).2;refine gU (ec p1 (ec p2 (oN (A.H.ld 1 rfl rfl) (ec O (ec rfl (ec rfl (gh ?_)))))));have aq:(f7 p).isSome=true↔p∈jP R7:=by
     rw[Option.isSome_iff_exists];constructor
     ·rintro⟨a,ha⟩;exact iB.2 ⟨_,(A.f _ _).1 ha,rfl⟩
     ·intro aF;obtain⟨y,hy,e⟩:=iB.1 aF;exact⟨y.1,(A.f _ _).2 (by rw[<-e];exact hy)⟩
    have d:∀g R' c C z,Sn s h7 s g->Or s g lo E ln (fE eZ fw (jP R) q::cs) R' N6 [] c C w6 z->RO l sp R' c->Kl R'->(∀x∈jP R',x∈jP R7/\x≠p)->
      su CS Q (KJ J2 k2) [.I sp,.ptr lo 0,q,.I ((jP R).length:Nat),.I i] g:=λg R' c C z L M I9 r9 d9=>by
     refine Mu ?_;unfold Ee;have:(jP R).length=R.length:=by simp[jP]
     refine gf ⟨k2-1,by omega,?_⟩;rw[U];refine⟨i+1,R',c,C,z,rfl,by omega,s7.trans L,M,I9,r9,λx o=>?_⟩;obtain⟨u,r⟩:=d9 x o;have:=ao x u;rw[aE]at this;exact(wM.1 this).resolve_left r
    by_cases hp:p∈jP R7
    ·refine gN (aq.2 hp) (oN (A.H.ld 1 rfl rfl) (ec (Fj _ _) ?_));refine MM A (by omega) λh8 aO s8 O8=>?_;exact zaV hl hs OM aa O8 (I7.ring hs an aa hp) λg R9 ar f9 aG L M I9 r9 au aH=>d g R9 ar f9 aG (s8.trans L) M I9 r9 λx o=>⟨au x o,λe=>aH (e▸o)⟩
    ·exact gD (λe=>hp (aq.1 e)) (d h7 R7 G f7 am (.refl _ _) A I7 an λx o=>⟨o,λe=>hp (e▸o)⟩)
   ·refine iY (oN (A.H.ld 1 rfl rfl) ?_);obtain rfl:i=(jP R).length:=by omega
    have hR:R7=[]:=by
     cases R7 with
     |nil=>rfl
     | cons m R7=>
       have:=ao m.2 (iB.2 ⟨m,by simp,rfl⟩);rw[List.drop_length]at this;cases this
    subst hR;exact H s h7 G am s7 A.H.tail.tail.tail.tail.Fk I7.done (by omega)
end
open Un Dm
section
variable{F F':Nat->Prop}{h h':Hp}{cs:List Pc}{Q:fo}{e:Ge}{s:Ga}{w:Gx}
theorem Ma{p:Nat}{l:List Nat}{k q:Nat}(a:k+1<l.length)(hq:l[k]? =some q):qy p (l.drop k)=if q=p then 0 else qy p (l.drop (k+1))+1:=by
 obtain⟨b,rfl⟩:=kE.1 hq;rw[wAj b,wAj a];rfl
theorem Sb{p:Nat}{l:List Nat}{k:Nat}(b:k+1=l.length):qy p (l.drop k)=0:=by
 have a:k<l.length:=by omega
 rw[wAj a,wBS (by omega)];rfl
theorem Vg(k:QY e)(E:Gm F h cs e s w)(hl:s.l.length<150000){p t:Nat}{B:Bk}(C:e.u.blocks[t]? =some B)(aL:0<B.fu.length)
  (H:∀F' h' w' c,Sn F h F' h'->zau e.u e.of p t c->Gm F' h' cs e {s with l:=s.l++c} w'->Q (.tuple []) h'):cP CS lV [.ptr e.le 0,.I p,.I t] h Q:=by
 refine Hg rfl rfl ?_;unfold zo;obtain⟨l1,o1,bv,bn,bp,_,b1,b2,rv,rn,rp,_⟩:=E.u.AA C;refine ec (fi _ _) (ec pf (oF (E.ld 5 rfl) (ec b1 (ec b2 ?_))));refine tW E.H rfl rfl (by simp only[rr,fe,rv.one,rn.one,rp.one];rfl) λF2 h2 l H2 s2 c2=>?_;have E2:=E.since s2 H2;have aj:=rp.since s2;have aM:=Je k.g C;have aN:=qT k.g C;obtain⟨J0,D⟩:∃J0:Nat->LP,J0=λn l' h'=>∃i,l' = [.ptr e.le 0,.I p,.ptr l 0,.I (i:Nat)]/\i+n+1=B.fu.length/\h' = h2/\qy p B.fu=i+qy p (B.fu.drop i):=⟨_,rfl⟩
 refine CP J0 ?_ (k:=B.fu.length-1) (by rw[D];exact⟨0,rfl,by omega,rfl,by simp⟩);intro n _ _ _ _ h3 ak;rw[D]at ak;obtain⟨i,⟨⟩,hn,rfl,hw⟩:=ak;unfold uY;refine oF (c2.ld rfl) (ec aj.len ?_);rw[iu,fY,gS (by simp only[Cf];omega)];refine ec (jC _ _ _ _) ?_;obtain⟨q,hq⟩:∃q,B.fu[i]? =some q:=⟨_,iz (by omega)⟩
 obtain⟨l2,o2,_,p1,p2⟩:=aj.nat hq .i64
 have eA:iM (.bool (decide (((i:Nat):Int)<((B.fu.length:Nat):Int)-1))) (oB (fK 4 (.ptr l 0)) λaw=>oB (eC aw h3) λax=>oB (some (V.I i)) λay=>oB (gP 1 ax ay) λaz=>oB (eC az h3) λaA=>oB (some (V.I p)) λaB=>ef .neq 3 aA aB) =
   some (.bool (decide (i+1<B.fu.length)&&decide (q≠p))):=by
  simp only[fN,eD];rw[show eC (.ptr l (0+4)) h3=some bp from c2.ld rfl];simp only[eD,p1,p2,vB,gQ];congr 2;rw[Uv];simp only[sJ,AL,wB3,ne_eq];omega
 refine ec eA (gh ?_);by_cases hc:i+1<B.fu.length/\q≠p
 ·refine gN (by simp[hc]) (gf ⟨n-1,by omega,?_⟩);rw[D];refine⟨i+1,rfl,by omega,rfl,?_⟩;rw[hw,Ma hc.1 hq,if_neg hc.2];omega
 refine gD (by simpa using hc) ?_;have hw:qy p B.fu=i:=by
  by_cases P:i+1<B.fu.length
  ·have h2:q=p:=Classical.byContradiction λh=>hc ⟨P,h⟩;rw[hw,Ma P hq,if_pos h2];rfl
  ·rw[hw,Sb (by omega)];rfl
 clear eA hc D;have aC:=rv.since s2;refine oF (c2.ld rfl) (ec aC.len ?_)
 obtain ⟨J1,R⟩:∃J1:Nat->LP,J1=λn l' h'=>∃F' j S,l' = [.ptr e.le 0,.I i,S,bv,.I B.ee.length,.I (j:Nat)]/\j+n=B.ee.length/\Sn F h F' h'/\
   Gm F' h' (fE eMv CV ((B.ee.take j).flatMap (sU e.u e.of i)) S::cs) e s w:=⟨_,rfl⟩
 obtain ⟨jp,T⟩:=E.p;refine Dl J1 ?_ (k:=B.ee.length) (by
  rw[R];refine⟨F2,0,.ed,rfl,by omega,s2,⟨?_,E2.u,⟨jp+1,by simpa using T⟩,E.n⟩⟩;exact(ej.YI (H2.add .nil λ_ h=>h)))
 intro n1 _ _ x8 _ _ _ h4 al;rw[R]at al;obtain⟨F4,j,_,⟨⟩,aO,s4,L⟩:=al;unfold uB;have aD:=rv.since s4;have M:∀l:List Nat,(l.flatMap (sU e.u e.of i)).length<=l.length:=λl=>by
  induction l with
  |nil=>simp
  | cons v l ih=>
    have:(sU e.u e.of i v).length<=1:=by
      unfold sU;split
      ·split <;> simp
      ·simp
    simp only[TB,oQ,Jo];omega
 have U:rE e.u e.of p t=B.ee.flatMap (sU e.u e.of i):=by unfold rE;rw[C];simp only[hw]
 by_cases G:j<B.ee.length
 ·have hv:=iz G;have I:=Nt G;generalize B.ee[j]=v at*;obtain⟨l3,o3,_,q1,q2⟩:=aD.nat hv .i64;have N:=k.g.DW v t j ⟨B,C,hv⟩;obtain⟨x,z⟩:∃x,e.u.ee[v]? =some x:=⟨_,iz N⟩
  obtain⟨l5,o5,wa,_,i1,i2,ra,_⟩:=L.u.val z;refine gU (ec q1 (ec q2 (ec (fi _ _) (ec pf (oF (L.ld 4 rfl) (ec i1 (ec i2 ?_)))))));refine tW L.H rfl rfl (by simp only[yH,fe,ra.one];rfl) λF5 J lx A s5 c5=>?_;have E5:=L.since s5 A;refine oF (c5.ld rfl) (gw ?_)
  have am:∀F9 W S,Sn F4 h4 F9 W->Gm F9 W (fE eMv CV ((B.ee.take (j+1)).flatMap (sU e.u e.of i)) S::cs) e s w->
    lH CS Q (KJ J1 n1) [.ptr e.le 0,.I i,S,bv,.I B.ee.length,.I j] W:=λF9 W S X E9=>by
   refine Cg ?_;unfold tq;refine gf ⟨n1-1,by omega,?_⟩;rw[R];exact⟨F9,j+1,S,rfl,by omega,s4.trans X,E9⟩
  by_cases Y:x.op=21
  ·refine gN (by omega) ?_;have aE:=(k.g.Yb v t j x B ⟨B,C,hv⟩ z Y C).2;have Z:x.args[i]? =some (x.args.getD i 0):=by rw[OV,iz (by omega)];rfl
   have aa:x.args.getD i 0∈kj x:=by
    unfold kj;rw[if_pos Y];exact zQ Z
   have pa:=k.v (qf (k.g.use v x z _ aa));have pv:=k.v N;generalize x.args.getD i 0=a at*;obtain⟨l6,o6,f6,r1,r2⟩:=(ra.since s5).nat Z .i64;obtain⟨l7,o7,t1,t2,t3⟩:=E5.pl pa.1;obtain⟨l8,o8,u1,u2,u3⟩:=E5.pl pv.1;have K:eC (.ptr e.le (0+0+0+0)) J=some e.tR:=E5.ld 0 rfl;refine ec (fi _ _) (ec pf (ec pf (ec (fN ..) (ec K (ec (fN ..) (ec (c5.ld rfl) (ec r1 (ec r2 (ec t1 (ec t2 ?_))))))))));refine ec (fi _ _) (ec pf (ec pf (ec (fN ..) (ec K (ec u1 (ec u2 (ec (Fj _ _) ?_)))))));rw[show iK CV 2 1 (.agg [.I 0,.I 0]) [(0,.agg [.I (jK e.of a),.I (jK e.of v)])]=some (.cells CV 2 true false [.I (jK e.of a),.I (jK e.of v)],λl=> .slice l 0 1) from rfl,hH];obtain⟨w9,W,e9,n9,H9,X⟩:=A.wi 5 rfl (lE:=16) (IZ:=CV) (ro:=false) (y:=(jK e.of a,jK e.of v)) (w:=[.I (jK e.of a),.I (jK e.of v)]) rfl (by decide) (by decide) (by
    have:=M (B.ee.take j);have:=List.length_take_le j B.ee;omega)
   have ab:∀{l o:Nat} {x:Int},eC (.ptr l o) J=some (.I x)->l<J.next->eC (.ptr l o) (J.new (.cells CV 2 true false [.I (jK e.of a),.I (jK e.of v)]))=some (.I x):=λh hl=>iJ h (eE _ hl);refine⟨⟨eJ _ _,bq⟩,ab u2 u3,iJ K (eE _ (BD A 0 rfl)),ab t2 t3,ab r2 (A.fl _ f6),iJ (c5.ld rfl) (eE _ (A.fl _ c5.f)),iJ K (eE _ (BD A 0 rfl)),?_⟩;rw[show eQ CV 2 16 x8 (.slice J.next 0 1) (J.new (.cells CV 2 true false [.I (jK e.of a),.I (jK e.of v)]))=_ from e9,eh];refine⟨by have:(J.new (.cells CV 2 true false [.I (jK e.of a),.I (jK e.of v)])).next=J.next+1:=rfl;omega,am F5 W w9 (s5.trans X) ?_⟩;have e1:sU e.u e.of i v=[(jK e.of a,jK e.of v)]:=by
    unfold sU;rw[z];simp only[Y,if_true];rw[OV,Z];rfl
   refine⟨?_,E5.u.since X,⟨jp+1,by simpa using T⟩,E5.n⟩;rw[I,wA4,wBT,e1];exact H9
  ·refine gD (by omega) (am F5 J x8 s5 ?_);have e1:sU e.u e.of i v=[]:=by unfold sU;rw[z];simp only[Y,if_false]
   rw[I,wA4,wBT,e1,Hf];exact E5
 refine iY ?_;obtain rfl:j=B.ee.length:=by omega
 rw[SM,<-U]at L;obtain⟨A,s5,r5⟩:=L.H.ji 5 rfl;have A:ej _ h4 (Uz e s w cs):=A.zcB;have aP:(rE e.u e.of p t).length<=B.ee.length:=by rw[U];exact M _
 have ac:∀m∈rE e.u e.of p t,lT m.1/\lT m.2/\m.1≠15/\m.2≠15:=λm d=>by
  rw[U]at d;obtain⟨v,hv,d⟩:=wBI.1 d;unfold sU at d;split at d
  ·rename_i x z;split at d
   ·rename_i Y;rw[EI.1 d];obtain⟨j,G⟩:=oR.1 hv;have aE:=(k.g.Yb v t j x B ⟨B,C,G⟩ z Y C).2;have aa:x.args.getD i 0∈kj x:=by
     unfold kj;rw[if_pos Y,OV,iz (by omega)];exact Dg _
    have a1:=qf (k.g.use v x z _ aa);have a2:=(kE.1 z).1;have b1:=k.p _ a1;have b2:=k.p _ a2;exact⟨k.p.pos a1,k.p.pos a2,by simp only;omega,by simp only;omega⟩
   ·cases d
  ·cases d
 refine zef A r5 (k.nd p t) (λm d=>(ac m d).2.2) (by omega) (by omega) λF6 h6 out wo s6 H6 ae aQ=>?_;have an:=s5.trans s6;obtain⟨H7,s7,r7⟩:=H6.ji 0 rfl;have E7:Gm _ h6 cs e s w:=⟨H7.tail,L.u.since (an.trans s7),⟨jp,T⟩,L.n⟩
 refine ec r7.len ?_;have ao:∀m∈out,lT m.1/\lT m.2:=λm d=>by
  have sp:lT 15:= .inl (by omega);have fr:∀q∈oH (rE e.u e.of p t),lT q:=λq hq=>by obtain⟨m,P,rfl⟩:=pE.1 hq;exact(ac m P).1
  have tr:∀q∈jP (rE e.u e.of p t),lT q:=λq hq=>by obtain⟨m,P,rfl⟩:=iB.1 hq;exact(ac m P).2.1
  obtain⟨a,b⟩:=ae.Iu m d;exact⟨a.elim (λe=>by rw[e];exact sp) λa=>a.elim (fr _) (tr _),b.elim (λe=>by rw[e];exact sp) (tr _)⟩
 obtain⟨J2,ag⟩:∃J2:Nat->LP,J2=λn l' h'=>∃F' j w',l' = [.ptr e.le 0,wo,.I out.length,.I (j:Nat)]/\j+n=out.length/\Sn F h F' h'/\Gm F' h' cs e {s with l:=s.l++(out.take j).flatMap Bl} w'/\iH eMv F' h' out wo:=⟨_,rfl⟩
 refine Dv J2 ?_ (k:=out.length) (by rw[ag];exact⟨_,0,w,rfl,by omega,(s4.trans an).trans s7,by simpa using E7,r7⟩);intro n2 _ _ _ _ h8 aq;rw[ag]at aq;obtain⟨F8,j,w8,⟨⟩,aR,s8,E8,r8⟩:=aq;unfold uc;by_cases G:j<out.length
 ·have z:=iz G;have I:=Nt G;have O:=ao _ (Dg G);have ar:∀l:List Mv,(l.flatMap Bl).length<=2*l.length:=λl=>by
   induction l with
   |nil=>simp
   | cons m l ih=>
     have:(Bl m).length<=2:=by
       unfold Bl;split <;> split <;> simp
     simp only[TB,oQ,Jo];omega
  obtain⟨l1,o1,ws,_,i1,i2,e3,_⟩:=r8.ix G .i64;generalize out[j]=m at*;have e3:ws=[.I m.1,.I m.2]:=e3;subst e3;refine gU (ec i1 (ec i2 ?_));refine tW E8.H rfl rfl rfl λF9 W lx H9 X c9=>?_;have E9:=E8.since X H9;refine oF (c9.ld rfl) (oF (c9.ld rfl) ?_);have q1:lT m.1:=O.1;have q2:lT m.2:=O.2;refine QV (by unfold lT at q1;omega) (by unfold lT at q1;omega) E9.H λaS aT ah aF=>⟨ah.next,(c9.since ah).ld rfl,?_⟩
  refine QV (by unfold lT at q2;omega) (by unfold lT at q2;omega) aF λaU aV au aG=>⟨au.next,?_⟩
  have r:=(X.trans ah).trans au;have aH:=E8.since r aG;refine zbb aH (by
   have P:=ar (out.take j);have h2:=List.length_take_le j out;have h3:=ae.cost;have h4:=Kg out;simp only[oQ];omega) q1 q2 λaI aW aJ ai aK=>⟨ai.next,gf ⟨n2-1,by omega,?_⟩⟩
  rw[ag];refine⟨aI,j+1,aJ,rfl,by omega,(s8.trans r).trans ai,?_,(r8.since r).since ai⟩;rw[I,wA4,wBT,<-KB];exact aK
 ·refine iY ?_;obtain rfl:j=out.length:=by omega
  rw[SM]at E8;exact H F8 h8 w8 _ s8 ⟨out,ae,rfl⟩ E8
end
