/- Parts. -/
import Derived.Test.YtcoaokdoecgcbaaGreatDoorM40
import Derived.Test.YtcoaokdoecgcbaaGreatDoorM37
import Derived.Test.YtcoaokdoecgcbaaGreatDoorM46
set_option maxHeartbeats 4000000
namespace Go.Proofs.YtcoaokdoecgcbaaGreatDoor.Hx
open Un Dm
variable{R l:List Mv}
abbrev zgI:Nat:=198
abbrev zg0:Nat:=195
abbrev zfW:Nat:=197
def TM:HT:=⟨zgI,zg0,Bc,z8,Aa,mz,Bf⟩
theorem htM:MU TM where
 agg:=by kernel_rfl
 mL:=by kernel_rfl
 mS:=by kernel_rfl
 mW:=by kernel_rfl
 mP:=by kernel_rfl
 mQ:=by kernel_rfl
 kL h:=JK h
 kS h:=IT h
 kW h:=Js h
 kP h:=Jj rfl rfl h
 kQ h:=Kd h
abbrev vfM(a ln:Nat)(b:V)(w:V):List V:=[.map a,.map ln,w,b]
theorem hvM(a ln:Nat)(b:V):HV 2 (vfM a ln b):=⟨λ_=>rfl,λ_ _=>rfl⟩
section
variable{F F':Nat->Prop}{h h':Hp}{cs:List Pc}{Q:fo}
structure Or (F:Nat->Prop) (h:Hp) (lo c ln:Nat) (cs:List Pc) (R:List Mv) (N:Int->Option Int) (b:List Int) (out:List Mv) (f:Int->Option Int) (w d:V):Prop where
 H:ej F h (fu eZ fJ b w::fi lo zfW (vfM c ln d w)::Sq c f::Sq ln N::fu eMv ED out d::cs)
 f:∀t a,f t=some a↔(a,t)∈R
theorem GU(a b:Int):fq [V.I 0,V.I 0] [(0,1),(1,1)] [(0,V.I a),(1,V.I b)]=some (.agg [.I a,.I b]):=rfl
theorem LQ:∀l:List Mv,l.length<=cost l
 |[]=>jj _
 |m::l=>by have:=LQ l;have:1<=FZ m:=by unfold FZ;split <;> omega
           simp[Un.cost,MZ];omega
theorem Oq{lo g ln:Nat}{N:Int->Option Int}{c:List Int}{out:List Mv}{f:Int->Option Int}{w d:V}{a b:Int}{K:fo}(O:Or F h lo g ln cs R N c out f w d)(z:out.length<900000)
  (k:∀h' e,Sn F h F h'->Or F h' lo g ln cs R N c (out++[(a,b)]) f w e->K .undef h') :
  hV (iW ED 2 1 (.agg [.I 0,.I 0]) [(0,.agg [.I a,.I b])]) h λv m=>eJ (fg ED 2 16 d v m) λn i=>oP (fR (.ptr lo 0)) λp=>oP (fV 3 p) λq=>eJ (gw 1 q n i) K:=by
 rw[show iW ED 2 1 (.agg [.I 0,.I 0]) [(0,.agg [.I a,.I b])]=some (.cells ED 2 true false [.I a,.I b],λl=> .slice l 0 1) from rfl,fH]
 let⟨w2,i,e2,_,j,r⟩:=O.H.tz 4 rfl (jh:=16) (NM:=ED) (ro:=false) (y:=(a,b)) rfl (by decide) (by decide) (by omega)
 rw[show fg ED 2 16 d (.slice h.next 0 1) (h.new (.cells ED 2 true false [.I a,.I b]))=_ from e2,ef]
 let⟨s,t,_,u,x⟩:=j.st 1 rfl (o:=0+3) (by simp) (j.one 4 rfl)
 refine ec (eC _ _) (ec pf ?_);rw[t,ef];exact k s w2 (r.trans x) ⟨u,O.f⟩
theorem RI(nd:(kr R).Nodup){f:Int->Option Int}(b:∀t a,f t=some a↔(a,t)∈R)(t:Int):∀t' a,Gp f t none t' = some a↔(a,t')∈less R t:=λt' a=>by
 unfold Gp;rw[lF];split
 ·rename_i e;simp[e]
 ·rename_i e;rw[b];simp[e]
theorem UG{sp:Int}(Ma:l.length<40000){R out:List Mv}(I:Tw l sp R out):out.length<90000/\R.length<90000:=by
 have a:=I.cost;have b:=LQ out;omega
variable{l:List Mv}{sp:Int}(hl:(kr l).Nodup)(hs:∀m∈l,m.1≠sp/\m.2≠sp)(Ma:l.length<40000)
include hl hs Ma
theorem zck{lo r ln:Nat}{N:Int->Option Int}{d:List Int}{out:List Mv}{f:Int->Option Int}{w wo:V}(O:Or F h lo r ln cs R N d out f w wo)(S:∀p,(N p).getD 0=(MH R p:Nat))(I:Tw l sp R out)(s:ZS R d)
  (H:∀h' R' T c X w' u,Sn F h F h'->Or F h' lo r ln cs R' T [] c X w' u->Tw l sp R' c->ZS R' []->(∀x∈kr R',x∈kr R)->Q (.tuple []) h'):cP CS sP [.ptr lo 0] h Q:=by
 refine HM ?_
 let J:Nat->LP:=λk l' h'=>∃R' T g c X w' u,l' = [.ptr lo 0]/\R'.length=k/\Sn F h F h'/\Or F h' lo r ln cs R' T g c X w' u/\(∀p,(T p).getD 0=(MH R' p:Nat))/\Tw l sp R' c/\ZS R' g/\∀x∈kr R',x∈kr R
 refine DL J ?_ (⟨R,N,d,out,f,w,wo,rfl,rfl,.refl _ _,O,S,I,s,λ_ h=>h⟩);intro k _ Y Z;obtain⟨b,U,aa,i,C,w1,v,⟨⟩,hk,s1,z,S,I,s,o⟩:=Z;unfold vD;refine oN (z.H.ld 1 rfl rfl) (ec (z.H.len 0 rfl) (ec (iT _ _ _ _) (gf ?_)))
 cases aa with
 |nil=>exact fN (by simp) (H Y b U i C w1 v s1 z I s o)
 | cons t fr=>
   refine fX (by simp) (ec (eC _ _) (ec pf ?_));have ht:=(s.iff t).1 (Tx ..);obtain⟨m,D,rfl⟩:=iz.1 ht.1;have ar:=UG Ma I;have ab:fr.length<90000:=by
     have Y:fr.length<=(kr b).length:=by
       have ac:=(Tz.1 s.nd).2;exact Rp ac λx hx=>((s.iff x).1 (wA7 _ hx)).1
     simp[kr,Qv]at Y;omega
   refine htM.pop (hvM r ln v) z.H ab λh2 A w2 s2 hp W=>?_;refine ec (rfl) ?_;have ad:=(z.f _ _).2 D;have lk:=(W.Ng 2 rfl m.2).1;rw[ad,Option.getD_some]at lk;refine oN (W.ld 1 rfl rfl) (ec lk (oN (W.ld 1 rfl rfl) (ec (GU _ _) ?_)));have O2:Or F h2 lo r ln cs b U A i C w2 v:=⟨W,z.f⟩
   refine Oq O2 (by omega) λh3 j s3 O3=>?_;refine oN (O3.H.ld 1 rfl rfl) ?_
   let⟨h4,e4,_,H4,s4⟩:=O3.H.zfZ 2 rfl m.2
   rw[e4,ef];have G:=(H4.Ng 3 rfl m.1).1;rw[S]at G;refine oN (H4.ld 1 rfl rfl) (ec G ?_);have hc:=Pz I.nd D m.1;rw[if_pos rfl]at hc;have au:MH b m.1<=b.length:=List.length_filter_le _ _;rw[iI,gz,gK (by simp[mR];omega),show((MH b m.1:Nat):Int)-1=(MH (less b m.2) m.1:Nat) by omega]
   let⟨K,e5,_,E,s5⟩:=H4.zfa 3 rfl m.1 (MH (less b m.2) m.1:Nat)
   rw[e5,ef];have n:=RI I.nd z.f m.2;have B:∀p,((Gp U m.1 (some (MH (less b m.2) m.1:Nat))) p).getD 0=(MH (less b m.2) p:Nat):=λp=>by
     unfold Gp;split
     ·rename_i e;rw[e];rfl
     ·rename_i e
      have:=Pz I.nd D p;rw[if_neg e]at this;rw[S];omega
   have ae:=s.perm (hp.cons _)
   let⟨st1,st2⟩:=ae.step I.nd D
   have I5:=I.zgL hl hs D ht.2;have ll:=HX I.nd D;have q:∀x∈kr (less b m.2),x∈kr R:=λx hx=>by
     obtain⟨y,hy,rfl⟩:=iz.1 hx;exact o _ (iz.2 ⟨y,(lF.1 hy).1,rfl⟩)
   have L:=(((s1.trans s2).trans s3).trans s4).trans s5;have O5:Or F K lo r ln cs (less b m.2) (Gp U m.1 (some (MH (less b m.2) m.1:Nat))) A (i++[(m.1,m.2)]) (Gp C m.2 none) w2 j:=⟨E,n⟩
   have ag:=(E.Ng 2 rfl m.1).2;have M:=(E.Ng 3 rfl m.1).1;rw[B]at M;refine oN (E.ld 1 rfl rfl) (ec ag (ec rfl (ec rfl ?_)));have P:(Gp C m.2 none m.1).isSome=true↔m.1∈kr (less b m.2):=by
     rw[Option.isSome_iff_exists];constructor
     ·rintro⟨a,ha⟩;exact iz.2 ⟨_,(n _ _).1 ha,rfl⟩
     ·intro ah
      let⟨y,hy,e⟩:=iz.1 ah
      exact⟨y.1,(n _ _).2 (by rw[<-e];exact hy)⟩
   have eA:jm (.bool (Gp C m.2 none m.1).isSome) (oB (some (V.ptr lo 0)) λai=>oB (fR ai) λaj=>oB (fV 1 aj) λak=>oB (eD ak K) λal=>oB (some (V.I m.1)) λam=>oB (rG 3 none (V.I 0) false al am K) λan=>eh .eql 3 an (V.I 0)) =
       some (.bool ((Gp C m.2 none m.1).isSome&&decide (MH (less b m.2) m.1=0))):=by
     simp[fe,eC,fx];rw[show eD (.ptr lo (0+1)) K=some (.map ln) from E.ld 1 rfl rfl,fe,show rG 3 none (V.I 0) false (.map ln) (.I m.1) K=_ from M,fe,hZ,jU];congr 3;rw[VC,Gi,xX];omega
   refine ec eA (gf ?_);by_cases hc0:MH (less b m.2) m.1=0/\m.1∈kr (less b m.2)
   ·refine fX (by rw[P.2 hc0.2,hc0.1];rfl) (ec (eC _ _) (ec pf ?_))
    refine htM.push (hvM r ln j) E (by have:=hp.length_eq;omega) λh6 ao w6 s6 aq _ H6=>⟨k-1,by omega,?_⟩
    exact⟨less b m.2,_,ao,_,_,w6,j,rfl,by omega,L.trans s6,⟨H6,n⟩,B,I5,(st1 hc0).perm (aq.trans (List.perm_append_singleton _ _)),q⟩
   ·refine fN (λe=>?_) ⟨k-1,by omega,?_⟩
    ·rw[xB,xX,P]at e
     exact hc0 ⟨e.2,e.1⟩
    ·exact⟨less b m.2,_,A,_,_,w2,j,rfl,by omega,L,O5,B,I5,st2 hc0,q⟩
theorem zdO(B:sp<16){lo u ln:Nat}{R:List Mv}{N:Int->Option Int}{g:List Int}{out:List Mv}{f:Int->Option Int}{w M:V}{p:Int}(O:Or F h lo u ln cs R N g out f w M)(I:RgI l sp p p R out)
  (H:∀h' R' d C n,Sn F h F h'->Or F h' lo u ln cs R' N g d C w n->Tw l sp R' d->Lt R'->(∀x∈kr R',x∈kr R)->p ∉ kr R'->Q (.tuple []) h'):cP CS sj [.ptr lo 0,.I p,.I sp] h Q:=by
 refine GB ?_
 let J:Nat->LP:=λk W h'=>∃t R' d C n,W=[.ptr lo 0,.I p,.I sp,.I t]/\R'.length=k/\Sn F h F h'/\Or F h' lo u ln cs R' N g d C w n/\RgI l sp p t R' d/\(∀x∈kr R',x∈kr R)/\(t≠p->p ∉ kr R')
 refine DP J ?_ (⟨p,R,out,f,M,rfl,rfl,.refl _ _,O,I,λ_ h=>h,λe=>(e rfl).elim⟩);intro k _ _ _ _ X D;obtain⟨t,v,i,Y,E,⟨⟩,hk,s1,q,I,r,s⟩:=D;unfold vy;obtain⟨m,z,rfl⟩:=iz.1 I.mem;have G:=(q.f _ _).2 z;have P:=(q.H.Ng 2 rfl m.2).1;rw[G,Option.getD_some]at P;have Z:i.length<90000:=by
  have X:=I.cost;have S:=LQ i;omega
 refine oN (q.H.ld 1 rfl rfl) (ec P (oN (q.H.ld 1 rfl rfl) ?_))
 let⟨S,e2,_,H2,T⟩:=q.H.zfZ 2 rfl m.2
 rw[e2,ef];have A:Or F S lo u ln cs (less v m.2) N g i (Gp Y m.2 none) w E:=⟨H2,RI I.nd q.f m.2⟩
 have ll:=HX I.nd z;have c:∀x∈kr (less v m.2),x∈kr R/\x≠m.2/\x∈kr v:=λx j=>by
  obtain⟨y,hy,rfl⟩:=iz.1 j;have:=lF.1 hy;exact⟨r _ (iz.2 ⟨y,this.1,rfl⟩),this.2,iz.2 ⟨y,this.1,rfl⟩⟩
 refine fD ?_;by_cases e:m.1=p
 ·refine fX e (oN (A.H.ld 1 rfl rfl) (ec (GU _ _) ?_));rw[<-e]at I;refine Oq A (by omega) λU o K L=>?_
  let⟨a,b⟩:=I.close hl hs B z
  refine H U _ _ _ o ((s1.trans T).trans K) L a b (λx j=>(c x j).1) λj=>?_;by_cases e2:m.2=p
  ·exact(c p j).2.1 e2.symm
  ·exact s e2 (c p j).2.2
 ·refine fN e (oN (A.H.ld 1 rfl rfl) (ec (GU _ _) ?_));refine Oq A (by omega) λU o K L=>⟨k-1,by omega,?_⟩
  refine⟨m.1,less v m.2,_,_,o,rfl,by omega,(s1.trans T).trans K,L,I.step hl hs z e,λx j=>(c x j).1,λ_ j=>?_⟩;by_cases e2:m.2=p
  ·exact(c p j).2.1 e2.symm
  ·exact s e2 (c p j).2.2
end
section
variable{F F':Nat->Prop}{h h':Hp}{cs:List Pc}{Q:fo}
theorem zbE(a b:Nat):fq [V.nJ,V.nJ,V.ed,V.ed] [(0,1),(1,1),(2,1),(3,1)] [(0,V.map a),(1,V.map b)]=some (.agg [.map a,.map b,.ed,.ed]):=rfl
theorem PH{i:Nat}(hi:i<l.length):(l.take (i+1)).filter (λm=>m.1≠m.2)=(l.take i).filter (λm=>m.1≠m.2)++if l[i].1=l[i].2 then[] else[l[i]]:=by
 rw[JE hi,List.filter_append];congr 1;by_cases e:l[i].1=l[i].2 <;> simp[e]
theorem zeC{sp:Int}{vl:V}(H0:ej F h cs)(rl:iD eMv F h l vl)(hl:(kr l).Nodup)(hs:∀m∈l,m.1≠sp/\m.2≠sp)(Ma:l.length<40000)(aa:sp<16)
  (H:∀F' h' out wo,Sn F h F' h'->ej F' h' (fu eMv ED out wo::cs)->zeE l sp out->out.length<90000->Q wo h'):cP CS GW [vl,.I sp] h Q:=by
 refine U7 ?_;rw[fH];have Ha:ej F h (fu eZ fJ [] .ed::cs):=H0.add .nil λ_ h=>h;have Hb:ej F h (fu eMv ED [] .ed::fu eZ fJ [] .ed::cs):=Ha.add .nil λ_ h=>h
 let⟨H1,s1⟩:=Hb.zgd
 rw[fH]
 let⟨H2,s2⟩:=H1.zgd
 have ab:=s1.trans s2;have H2:=H2.sw;generalize (h.new (.map [] 0)).new (.map [] 0)=q at*;generalize (h.new (.map [] 0)).next=ln at*;generalize h.next=D at*;refine ec (zbE _ _) (pz H2 rfl λh3 H3 s3=>?_);generalize q.next=lo at*;have ar:=rl.since (ab.trans s3);refine ec ar.len ?_
 let J:Nat->LP:=λk l' h'=>∃F' i N f G,l' = [.I sp,.ptr lo 0,G,vl,.I l.length,.I (i:Nat)]/\i+k=l.length/\Sn F h F' h'/\
   Or F' h' lo D ln (fu eZ fJ (kr ((l.take i).filter λm=>m.1≠m.2)) G::cs) ((l.take i).filter λm=>m.1≠m.2) N [] [] f .ed .ed/\∀p,(N p).getD 0=(MH ((l.take i).filter λm=>m.1≠m.2) p:Nat)
 refine O1 J ?_ (k:=l.length) ?_;rotate_left
 ·exact⟨F,0,_,_,.ed,rfl,by omega,ab.trans s3,⟨H3.add .nil λ_ h=>h,λt a=>by simp⟩,λp=>rfl⟩
 intro k _ _ o _ _ _ h4 au;obtain⟨r,i,N,f,_,⟨⟩,hk,s4,W,X⟩:=au;have aw:=rl.since s4;unfold Ij;by_cases hi:i<l.length
 ·
  have j:=hN hi;have I:=PH hi;have ac:=AQ hi;have ad:l[i].2 ∉ kr ((l.take i).filter λm=>m.1≠m.2):=λhm=>by
   let⟨y,hy,e⟩:=iz.1 hm
   have hy:=(wBA.1 hy).1;obtain⟨n,hn,rfl⟩:=wBr.1 hy;rw[Sr]at hn;rw[wB2]at e;have:=(List.getElem_inj (h₀:=by simp[kr];omega) (h₁:=by simp[kr];omega) hl (i:=n)).1 (by simpa[kr]using e);omega
  have hlen:((l.take i).filter λm=>decide (m.1≠m.2)).length<=i:=by
   have s:=List.length_filter_le (λm:Mv=>decide (m.1≠m.2)) (l.take i);rw[Sr]at s;omega
  generalize (l.take i).filter (λm=>m.1≠m.2)=R at*;generalize l[i]=m at*
  let⟨a,b⟩:=m
  obtain⟨q1,q2,q3,_,i1,i2,rfl,_⟩:=aw.ix hi .i64;have ei:=Option.some.inj ((hN hi).symm.trans j);rw[ei]at i2;refine gJ (ec i1 (ec i2 ?_));refine yR W.H rfl rfl rfl λF5 Y lc H5 s5 c5=>?_;have A:Or F5 Y lo D ln (fu eZ fJ (kr R) o::cs) R N [] [] f .ed .ed:=⟨H5,W.f⟩
  refine oF (c5.ld rfl) (oF (c5.ld rfl) (Eo ?_))
  have d:∀F9 g R' N' B G,Sn F5 Y F9 g->R' = (l.take (i+1)).filter (λm=>decide (m.1≠m.2))->Or F9 g lo D ln (fu eZ fJ (kr R') G::cs) R' N' [] [] B .ed .ed->(∀p,(N' p).getD 0=(MH R' p:Nat))->
    uP Q (NG J k) [.I sp,.ptr lo 0,G,vl,.I l.length,.I i] g:=λF9 g R' N' B G K eR L ax=>by
   refine NS ?_;unfold FY;refine fT ⟨k-1,by omega,?_⟩;subst eR;exact⟨F9,i+1,N',B,G,rfl,by omega,(s4.trans s5).trans K,L,ax⟩
  by_cases e:a=b
  ·refine fX e ?_;exact d F5 Y R N f o (.refl _ _) (by rw[I,if_pos e,GA]) A X
  ·refine fN e ?_;rw[if_neg e]at I;have aH:=ac;refine oN (H5.ld 1 rfl rfl) (oF (c5.ld rfl) (oF (c5.ld rfl) ?_))
   let⟨h6,e6,n6,H6,Z⟩:=H5.zfa 2 rfl b a
   rw[e6,ef];have c6:=c5.since Z;have M:=(H6.Ng 3 rfl a).1;rw[X]at M;refine⟨n6,oN (H6.ld 1 rfl rfl) (oF (c6.ld rfl) (ec M ?_))⟩;have aI:MH R a<=R.length:=List.length_filter_le _ _;refine fT ?_
   let⟨h7,e7,n7,H7,s7⟩:=H6.zfa 3 rfl a ((MH R a+1:Nat):Int)
   rw[e7,ef];have c7:=c6.since s7;refine⟨n7,oF (c7.ld rfl) ?_⟩;rw[show iW 3 1 1 (.I 0) [(0,.I b)]=some (.cells 3 1 true false [.I b],λl=> .slice l 0 1) from rfl,fH]
   let⟨w8,h8,e8,n8,H8,s8⟩:=H7.tz 5 rfl (jh:=8) (NM:=3) (y:=b) (w:=[.I b]) (ro:=false) rfl (by decide) (by decide) (by simp[kr,Qv];omega)
   rw[show fg 3 1 8 o (.slice h7.next 0 1) (h7.new (.cells 3 1 true false [.I b]))=_ from e8,ef];have et:kr (R++[(a,b)])=kr R++[b]:=by simp[kr]
   refine d F5 h8 (R++[(a,b)]) _ _ w8 ((Z.trans s7).trans s8) I.symm ⟨by rw[et];exact H8,λt y=>?_⟩ λp=>?_
   ·unfold Gp;rw[vU,Et];split
    ·rename_i et;subst et;constructor
     ·intro h;cases h;exact .inr rfl
     ·rintro(h|h)
      ·exact(ad (iz.2 ⟨_,h,rfl⟩)).elim
      ·cases h;rfl
    ·rename_i et;rw[W.f];constructor
     ·exact .inl
     ·rintro(h|h)
      ·exact h
      ·cases h;exact(et rfl).elim
   ·rw[za0];unfold Gp;split
    ·rename_i ep;subst ep;simp
    ·rename_i ep;rw[if_neg (Ne.symm ep),X];rfl
 ·refine iY ?_;obtain rfl:i=l.length:=by omega
  rw[QQ]at W X;have I0:=Tw.start sp hl;generalize (l.filter λm=>m.1≠m.2)=R at*;have aJ:R.length<50000:=by have:=I0.cost;simp[Un.cost]at this;omega
  refine ec (W.H.len 5 rfl) ?_
  obtain ⟨J1,O⟩:∃J1,J1=λk l' h'=>∃i fr w,l' = [.I sp,.ptr lo 0,o,o,.I ((kr R).length:Nat),.I (i:Nat)]/\i+k=(kr R).length/\Sn F h r h'/\
    Or r h' lo D ln (fu eZ fJ (kr R) o::cs) R N fr [] f w .ed/\fr.Nodup/\(∀p,p∈fr↔p∈(kr R).take i/\p ∉ qM R):=⟨_,rfl⟩
  refine Qi J1 ?_ (k:=(kr R).length) (by rw[O];exact⟨0,[],.ed,rfl,by omega,s4,W,.nil,λp=>by simp⟩);intro k1 _ _ _ _ _ _ Y ae;rw[O]at ae;obtain⟨i,fr,w,⟨⟩,aK,s5,A,fn,ff⟩:=ae;unfold GY;by_cases hi:i<(kr R).length
  ·have j:=hN hi;have ag:=JE hi;have ah:(kr R)[i] ∉ (kr R).take i:=λhm=>by
    let⟨n,hn,e⟩:=wBr.1 hm
    rw[Sr]at hn;rw[wB2]at e;have:=(List.getElem_inj I0.nd).1 e;omega
   generalize (kr R)[i]=p at*
   let⟨l1,o1,p1,p2⟩:=A.H.BG 5 rfl j .i64
   have M:=(A.H.Ng 3 rfl p).1;rw[X]at M;refine gJ (ec p1 (ec p2 (oN (A.H.ld 1 rfl rfl) (ec M (fD ?_)))))
   have d:∀g u w',Sn r Y r g->Or r g lo D ln (fu eZ fJ (kr R) o::cs) R N u [] f w' .ed->u.Nodup->(∀p,p∈u↔p∈(kr R).take (i+1)/\p ∉ qM R)->
     uO Q (NG J1 k1) [.I sp,.ptr lo 0,o,o,.I ((kr R).length:Nat),.I i] g:=λg u w' K L a b=>by
    refine N5 ?_;unfold FL;have:(kr R).length=R.length:=by simp[kr]
    refine fT ⟨k1-1,by omega,?_⟩;rw[O];exact⟨i+1,u,w',rfl,by omega,s5.trans K,L,a,b⟩
   have ay:=λhm=>ah ((ff p).1 hm).1;by_cases hc:MH R p=0
   ·have P:=Dl.1 hc;refine fX (by omega) (ec (eC _ _) (ec pf ?_));have az:fr.length<90000:=by
     have:=Rp fn (b:=kr R) λx j=>wBs ((ff x).1 j).1;simp[kr,Qv]at this;omega
    refine htM.push (hvM D ln .ed) A.H az λh6 aA w6 Z C _ H6=>?_;have C:=C.trans (List.perm_append_singleton p fr);refine d h6 aA w6 Z ⟨H6,A.f⟩ (C.nodup_iff.2 (Tz.2 ⟨ay,fn⟩)) λx=>?_;rw[C.mem_iff,yt,ff x,ag,vU,Et];constructor
    ·rintro(rfl|⟨s,q⟩)
     ·exact⟨.inr rfl,P⟩
     ·exact⟨.inl s,q⟩
    ·rintro⟨s|rfl,q⟩
     ·exact .inr ⟨s,q⟩
     ·exact .inl rfl
   ·have P:=Classical.byContradiction λhn=>hc (Dl.2 hn);refine fN (by omega) (d Y fr w (.refl _ _) A fn λx=>?_);rw[ff x,ag,vU,Et];constructor
    ·rintro⟨s,q⟩;exact⟨.inl s,q⟩
    ·rintro⟨s|rfl,q⟩
     ·exact⟨s,q⟩
     ·exact(q P).elim
  ·refine iY ?_;obtain rfl:i=(kr R).length:=by omega
   rw[QQ]at ff;refine zck hl hs Ma A X I0 ⟨fn,ff⟩ λh6 R6 N6 ai f6 w6 aB Z O6 I6 aC S=>?_;refine ec (O6.H.len 5 rfl) ?_
   obtain ⟨J2,T⟩:∃J2,J2=λk l' h'=>∃i R' c B v,l' = [.I sp,.ptr lo 0,o,.I ((kr R).length:Nat),.I (i:Nat)]/\i+k=(kr R).length/\Sn F h r h'/\
     Or r h' lo D ln (fu eZ fJ (kr R) o::cs) R' N6 [] c B w6 v/\Tw l sp R' c/\Lt R'/\∀x∈kr R',x∈(kr R).drop i:=⟨_,rfl⟩
   refine Qc J2 ?_ (k:=(kr R).length) (by rw[T];exact⟨0,R6,ai,f6,aB,rfl,by omega,s5.trans Z,O6,I6,aC.rings I6.nd,by simpa using S⟩);intro k2 _ _ _ _ _ h7 aj;rw[T]at aj;obtain⟨i,U,E,f7,ak,⟨⟩,aL,s7,z,I7,al,am⟩:=aj;unfold Hn;have aM:=UG Ma I7;by_cases hi:i<(kr R).length
   ·have j:=hN hi;have aD:=ZH hi;generalize (kr R)[i]=p at*
    let⟨l1,o1,p1,p2⟩:=z.H.BG 5 rfl j .i64
    have M:=(z.H.Ng 2 rfl p).2;refine gJ (ec p1 (ec p2 (oN (z.H.ld 1 rfl rfl) (ec M (ec rfl (ec rfl (gf ?_)))))));have an:(f7 p).isSome=true↔p∈kr U:=by
     rw[Option.isSome_iff_exists];constructor
     ·rintro⟨a,ha⟩;exact iz.2 ⟨_,(z.f _ _).1 ha,rfl⟩
     ·intro aE
      let⟨y,hy,e⟩:=iz.1 aE
      exact⟨y.1,(z.f _ _).2 (by rw[<-e];exact hy)⟩
    have d:∀g R' c B v,Sn r h7 r g->Or r g lo D ln (fu eZ fJ (kr R) o::cs) R' N6 [] c B w6 v->Tw l sp R' c->Lt R'->(∀x∈kr R',x∈kr U/\x≠p)->
      uM Q (NG J2 k2) [.I sp,.ptr lo 0,o,.I ((kr R).length:Nat),.I i] g:=λg R' c B v K L I9 r9 d9=>by
     refine NW ?_;unfold FN;have:(kr R).length=R.length:=by simp[kr]
     refine fT ⟨k2-1,by omega,?_⟩;rw[T];refine⟨i+1,R',c,B,v,rfl,by omega,s7.trans K,L,I9,r9,λx j=>?_⟩
     let⟨s,q⟩:=d9 x j
     have:=am x s;rw[aD]at this;exact(yt.1 this).resolve_left q
    by_cases hp:p∈kr U
    ·refine fX (an.2 hp) (oN (z.H.ld 1 rfl rfl) (ec (GU _ _) ?_));refine Oq z (by omega) λh8 aN s8 O8=>?_;exact zdO hl hs Ma aa O8 (I7.ring hs al aa hp) λg R9 ao f9 aF K L I9 r9 aq aG=>d g R9 ao f9 aF (s8.trans K) L I9 r9 λx j=>⟨aq x j,λe=>aG (e▸j)⟩
    ·exact fN (λe=>hp (an.1 e)) (d h7 U E f7 ak (.refl _ _) z I7 al λx j=>⟨j,λe=>hp (e▸j)⟩)
   ·refine iY (oN (z.H.ld 1 rfl rfl) ?_);obtain rfl:i=(kr R).length:=by omega
    have hR:U=[]:=by
     cases U with
     |nil=>rfl
     | cons m U=>
       have:=am m.2 (iz.2 ⟨m,by simp,rfl⟩);rw[List.drop_length]at this;cases this
    subst hR;exact H r h7 E ak s7 z.H.tail.tail.tail.tail.Em I7.done (by omega)
variable{e:Ge}{s:Ga}{w:Gx}
theorem NJ{p:Nat}{l:List Nat}{k q:Nat}(a:k+1<l.length)(hq:l[k]? =some q):j9 p (l.drop k)=if q=p then 0 else j9 p (l.drop (k+1))+1:=by
 obtain⟨b,rfl⟩:=j6.1 hq;rw[ZH b,ZH a];rfl
theorem Ty{p:Nat}{l:List Nat}{k:Nat}(b:k+1=l.length):j9 p (l.drop k)=0:=by
 have a:k<l.length:=by omega
 rw[ZH a,wBa (by omega)];rfl
theorem X0(k:S4 e)(E:Gm F h cs e s w)(hl:s.l.length<150000){p t:Nat}{B:Bk}(C:e.u.blocks[t]? =some B)(aI:0<B.fj.length)
  (H:∀F' h' w' c,Sn F h F' h'->UM e.u e.of p t c->Gm F' h' cs e {s with l:=s.l++c} w'->Q (.tuple []) h'):cP CS pt [.ptr e.le 0,.I p,.I t] h Q:=by
 refine IQ ?_
 let⟨l1,o1,bv,bn,bp,_,b1,b2,rv,rn,rp,_⟩:=E.u.Bt C
 refine ec (eC _ _) (ec pf (oF (E.ld 5 rfl) (ec b1 (ec b2 ?_))));refine yR E.H rfl rfl (by simp only[pY,fh,rv.one,rn.one,rp.one];rfl) λF2 h2 l H2 s2 c2=>?_;have E2:=E.since s2 H2;have ag:=rp.since s2;have aJ:=JW k.g C;have aK:=tw k.g C;obtain⟨J0,N⟩:∃J0:Nat->LP,J0=λn l' h'=>∃i,l' = [.ptr e.le 0,.I p,.ptr l 0,.I (i:Nat)]/\i+n+1=B.fj.length/\h' = h2/\j9 p B.fj=i+j9 p (B.fj.drop i):=⟨_,rfl⟩
 refine EU J0 ?_ (k:=B.fj.length-1) (by rw[N];exact⟨0,rfl,by omega,rfl,by simp⟩);intro n _ _ _ _ h3 ah;rw[N]at ah;obtain⟨i,⟨⟩,hn,rfl,hw⟩:=ah;unfold wu;refine oF (c2.ld rfl) (ec ag.len ?_);rw[iI,gz,gK (by simp[mR];omega)];refine ec (gX _ _ _ _) ?_;obtain⟨q,hq⟩:∃q,B.fj[i]? =some q:=⟨_,hN (by omega)⟩
 let⟨l2,o2,_,p1,p2⟩:=ag.nat hq .i64
 have eA:jm (.bool (decide (((i:Nat):Int)<((B.fj.length:Nat):Int)-1))) (oB (fV 4 (.ptr l 0)) λaq=>oB (eD aq h3) λar=>oB (some (V.I i)) λau=>oB (gQ 1 ar au) λaw=>oB (eD aw h3) λax=>oB (some (V.I p)) λay=>eh .neq 3 ax ay) =
   some (.bool (decide (i+1<B.fj.length)&&decide (q≠p))):=by
  simp only[fx,fe];rw[show eD (.ptr l (0+4)) h3=some bp from c2.ld rfl];simp only[fe,p1,p2,wj,jU];congr 2;rw[VC];simp[xB,xX,wB6,ne_eq];omega
 refine ec eA (gf ?_);by_cases hc:i+1<B.fj.length/\q≠p
 ·refine fX (by simp[hc]) (fT ⟨n-1,by omega,?_⟩);rw[N];refine⟨i+1,rfl,by omega,rfl,?_⟩;rw[hw,NJ hc.1 hq,if_neg hc.2];omega
 refine fN (by simpa using hc) ?_;have hw:j9 p B.fj=i:=by
  by_cases O:i+1<B.fj.length
  ·have h2:=Classical.byContradiction λh=>hc ⟨O,h⟩;rw[hw,NJ O hq,if_pos h2];rfl
  ·rw[hw,Ty (by omega)];rfl
 have az:=rv.since s2;refine oF (c2.ld rfl) (ec az.len ?_)
 obtain ⟨J1,P⟩:∃J1,J1=λn l' h'=>∃F' j R,l' = [.ptr e.le 0,.I i,R,bv,.I B.ee.length,.I (j:Nat)]/\j+n=B.ee.length/\Sn F h F' h'/\
   Gm F' h' (fu eMv ED ((B.ee.take j).flatMap (oL e.u e.of i)) R::cs) e s w:=⟨_,rfl⟩
 let⟨jp,hjp⟩:=E.p
 refine Fc J1 ?_ (k:=B.ee.length) (by
  rw[P];refine⟨F2,0,.ed,rfl,by omega,s2,⟨?_,E2.u,⟨jp+1,by simpa using hjp⟩,E.n⟩⟩;exact(ej.zaT (H2.add .nil λ_ h=>h)))
 intro n1 _ _ x8 _ _ _ h4 ai;rw[P]at ai;obtain⟨F4,j,_,⟨⟩,aL,s4,I⟩:=ai;unfold wF;have aA:=rv.since s4;have J:∀l:List Nat,(l.flatMap (oL e.u e.of i)).length<=l.length:=λl=>by
  induction l with
  |nil=>simp
  | cons v l ih=>
    have:(oL e.u e.of i v).length<=1:=by
      unfold oL;split
      ·split <;> simp
      ·simp
    simp only[Ob,nB,MZ];omega
 have S:mZ e.u e.of p t=B.ee.flatMap (oL e.u e.of i):=by unfold mZ;rw[C];simp[hw]
 by_cases hj:j<B.ee.length
 ·have hv:=hN hj;have D:=JE hj;generalize B.ee[j]=v at*
  let⟨l3,o3,_,q1,q2⟩:=aA.nat hv .i64
  have K:=k.g.uz v t j ⟨B,C,hv⟩;obtain⟨x,z⟩:∃x,e.u.ee[v]? =some x:=⟨_,hN K⟩
  let⟨l5,o5,wa,_,i1,i2,ra,_⟩:=I.u.val z
  refine gJ (ec q1 (ec q2 (ec (eC _ _) (ec pf (oF (I.ld 4 rfl) (ec i1 (ec i2 ?_)))))));refine yR I.H rfl rfl (by simp only[ym,fh,ra.one];rfl) λF5 L lx A s5 c5=>?_;have E5:=I.since s5 A;refine oF (c5.ld rfl) (fD ?_)
  have aj:∀F9 T R,Sn F4 h4 F9 T->Gm F9 T (fu eMv ED ((B.ee.take (j+1)).flatMap (oL e.u e.of i)) R::cs) e s w->
    mm Q (NG J1 n1) [.ptr e.le 0,.I i,R,bv,.I B.ee.length,.I j] T:=λF9 T R U E9=>by
   refine DS ?_;unfold vA;refine fT ⟨n1-1,by omega,?_⟩;rw[P];exact⟨F9,j+1,R,rfl,by omega,s4.trans U,E9⟩
  by_cases W:x.op=21
  ·refine fX (by omega) ?_;have aB:=(k.g.VG v t j x B ⟨B,C,hv⟩ z W C).2;have X:x.args[i]? =some (x.args.getD i 0):=by rw[Dz,hN (by omega)];rfl
   have Y:x.args.getD i 0∈jq x:=by
    unfold jq;rw[if_pos W];exact Ap X
   have pa:=k.v (iC (k.g.use v x z _ Y));have pv:=k.v K;generalize x.args.getD i 0=a at*
   let⟨l6,o6,f6,r1,r2⟩:=(ra.since s5).nat X .i64
   let⟨l7,o7,t1,t2,t3⟩:=E5.pl pa.1
   let⟨l8,o8,u1,u2,u3⟩:=E5.pl pv.1
   have G:=E5.ld 0 rfl;refine ec (eC _ _) (ec pf (ec pf (ec (fx ..) (ec G (ec (fx ..) (ec (c5.ld rfl) (ec r1 (ec r2 (ec t1 (ec t2 ?_))))))))));refine ec (eC _ _) (ec pf (ec pf (ec (fx ..) (ec G (ec u1 (ec u2 (ec (GU _ _) ?_)))))));rw[show iW ED 2 1 (.agg [.I 0,.I 0]) [(0,.agg [.I (hO e.of a),.I (hO e.of v)])]=some (.cells ED 2 true false [.I (hO e.of a),.I (hO e.of v)],λl=> .slice l 0 1) from rfl,gU]
   let ⟨w9,T,e9,n9,H9,U⟩:=A.tz 5 rfl (jh:=16) (NM:=ED) (ro:=false) (y:=(hO e.of a,hO e.of v)) (w:=[.I (hO e.of a),.I (hO e.of v)]) rfl (by decide) (by decide) (by
    have:=J (B.ee.take j);have:=List.length_take_le j B.ee;omega)
   have Z:∀{l o:Nat} {x:Int},eD (.ptr l o) L=some (.I x)->l<L.next->eD (.ptr l o) (L.new (.cells ED 2 true false [.I (hO e.of a),.I (hO e.of v)]))=some (.I x):=λh hl=>gS h (eE _ hl);refine⟨⟨eQ _ _,bq⟩,Z u2 u3,gS G (eE _ (CB A 0 rfl)),Z t2 t3,Z r2 (A.fl _ f6),gS (c5.ld rfl) (eE _ (A.fl _ c5.f)),gS G (eE _ (CB A 0 rfl)),?_⟩;rw[show fg ED 2 16 x8 (.slice L.next 0 1) (L.new (.cells ED 2 true false [.I (hO e.of a),.I (hO e.of v)]))=_ from e9,ef];refine⟨by have:(L.new (.cells ED 2 true false [.I (hO e.of a),.I (hO e.of v)])).next=L.next+1:=rfl;omega,aj F5 T w9 (s5.trans U) ?_⟩;have e1:oL e.u e.of i v=[(hO e.of a,hO e.of v)]:=by
    unfold oL;rw[z];simp only[W,if_true];rw[Dz,X];rfl
   refine⟨?_,E5.u.since U,⟨jp+1,by simpa using hjp⟩,E5.n⟩;rw[D,WQ,wBb,e1];exact H9
  ·refine fN (by omega) (aj F5 L x8 s5 ?_);have e1:oL e.u e.of i v=[]:=by unfold oL;rw[z];simp[W,if_false]
   rw[D,WQ,wBb,e1,GA];exact E5
 refine iY ?_;obtain rfl:j=B.ee.length:=by omega
 rw[QQ,<-S]at I
 let⟨A,s5,r5⟩:=I.H.jG 5 rfl
 have A:=A.zdP;have aM:(mZ e.u e.of p t).length<=B.ee.length:=by rw[S];exact J _
 have aa:∀m∈mZ e.u e.of p t,kV m.1/\kV m.2/\m.1≠15/\m.2≠15:=λm d=>by
  rw[S]at d
  let⟨v,hv,d⟩:=Rb.1 d
  unfold oL at d;split at d
  ·rename_i x z;split at d
   ·rename_i W;rw[Et.1 d]
    let⟨j,hj⟩:=mG.1 hv
    have aB:=(k.g.VG v t j x B ⟨B,C,hj⟩ z W C).2;have Y:x.args.getD i 0∈jq x:=by
     unfold jq;rw[if_pos W,Dz,hN (by omega)];exact AQ _
    have a1:=iC (k.g.use v x z _ Y);have a2:=(j6.1 z).1;have b1:=k.p _ a1;have b2:=k.p _ a2;exact⟨k.p.pos a1,k.p.pos a2,by simp only;omega,by simp only;omega⟩
   ·cases d
  ·cases d
 refine zeC A r5 (k.nd p t) (λm d=>(aa m d).2.2) (by omega) (by omega) λF6 h6 out wo s6 H6 ab aN=>?_;have ak:=s5.trans s6
 let⟨H7,s7,r7⟩:=H6.jG 0 rfl
 have E7:Gm _ h6 cs e s w:=⟨H7.tail,I.u.since (ak.trans s7),⟨jp,hjp⟩,I.n⟩
 refine ec r7.len ?_;have al:∀m∈out,kV m.1/\kV m.2:=λm d=>by
  have sp:kV 15:= .inl (by omega);have fr:∀q∈qM (mZ e.u e.of p t),kV q:=λq hq=>by obtain⟨m,O,rfl⟩:=pM.1 hq;exact(aa m O).1
  have tr:∀q∈kr (mZ e.u e.of p t),kV q:=λq hq=>by obtain⟨m,O,rfl⟩:=iz.1 hq;exact(aa m O).2.1
  let⟨a,b⟩:=ab.Iq m d
  exact⟨a.elim (λe=>by rw[e];exact sp) λa=>a.elim (fr _) (tr _),b.elim (λe=>by rw[e];exact sp) (tr _)⟩
 obtain⟨J2,ac⟩:∃J2,J2=λn l' h'=>∃F' j w',l' = [.ptr e.le 0,wo,.I out.length,.I (j:Nat)]/\j+n=out.length/\Sn F h F' h'/\Gm F' h' cs e {s with l:=s.l++(out.take j).flatMap rr} w'/\iD eMv F' h' out wo:=⟨_,rfl⟩
 refine EG J2 ?_ (k:=out.length) (by rw[ac];exact⟨_,0,w,rfl,by omega,(s4.trans ak).trans s7,by simpa using E7,r7⟩);intro n2 _ _ _ _ h8 am;rw[ac]at am;obtain⟨F8,j,w8,⟨⟩,aO,s8,E8,r8⟩:=am;unfold wi;by_cases hj:j<out.length
 ·have z:=hN hj;have D:=JE hj;have M:=al _ (AQ hj);have an:∀l:List Mv,(l.flatMap rr).length<=2*l.length:=λl=>by
   induction l with
   |nil=>simp
   | cons m l ih=>
     have:(rr m).length<=2:=by
       unfold rr;split <;> split <;> simp
     simp only[Ob,nB,MZ];omega
  let⟨l1,o1,ws,_,i1,i2,e3,_⟩:=r8.ix hj .i64
  have e3:=e3;subst e3;refine gJ (ec i1 (ec i2 ?_));refine yR E8.H rfl rfl rfl λF9 T lx H9 U c9=>?_;have E9:=E8.since U H9;refine oF (c9.ld rfl) (oF (c9.ld rfl) ?_);have q1:=M.1;have q2:=M.2;refine Tp (by unfold kV at q1;omega) (by unfold kV at q1;omega) E9.H λaP aQ ad aC=>⟨ad.next,(c9.since ad).ld rfl,?_⟩
  refine Tp (by unfold kV at q2;omega) (by unfold kV at q2;omega) aC λaR aS ao aD=>⟨ao.next,?_⟩
  have r:=(U.trans ad).trans ao;have aE:=E8.since r aD;refine zdx aE (by
   have O:=an (out.take j);have h2:=List.length_take_le j out;have h3:=ab.cost;have h4:=LQ out;simp only[nB];omega) q1 q2 λaF aT aG ae aH=>⟨ae.next,fT ⟨n2-1,by omega,?_⟩⟩
  rw[ac];refine⟨aF,j+1,aG,rfl,by omega,(s8.trans r).trans ae,?_,(r8.since r).since ae⟩;rw[D,WQ,wBb,<-Bo];exact aH
 ·refine iY ?_;obtain rfl:j=out.length:=by omega
  rw[QQ]at E8;exact H F8 h8 w8 _ s8 ⟨out,ab,rfl⟩ E8
