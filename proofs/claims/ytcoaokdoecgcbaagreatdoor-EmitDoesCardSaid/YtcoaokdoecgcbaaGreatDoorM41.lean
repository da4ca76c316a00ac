/- Parts. -/
import Derived.Test.YtcoaokdoecgcbaaGreatDoorM40
import Derived.Test.YtcoaokdoecgcbaaGreatDoorM37
import Derived.Test.YtcoaokdoecgcbaaGreatDoorM46
set_option maxHeartbeats 4000000
namespace Go.Proofs.YtcoaokdoecgcbaaGreatDoor.Hx
open Un Dm
variable{R l:List Mv}
abbrev zhV:Nat:=198
abbrev zh3:Nat:=195
abbrev zhc:Nat:=197
def TM:HT:=⟨zhV,zh3,Bd,Ae,As,mw,A1⟩
theorem htM:NU TM where
 agg:=by kernel_rfl
 mL:=by kernel_rfl
 mS:=by kernel_rfl
 mW:=by kernel_rfl
 mP:=by kernel_rfl
 mQ:=by kernel_rfl
 kL h:=K6 h
 kS h:=Kt h
 kW h:=J6 h
 kP h:=JP rfl rfl h
 kQ h:=LB h
abbrev vfM(a ln:Nat)(b:V)(w:V):List V:=[.map a,.map ln,w,b]
theorem hvM(a ln:Nat)(b:V):HV 2 (vfM a ln b):=⟨λ_=>rfl,by simp_all⟩
section
variable{F F':Nat->Prop}{h h':Hp}{cs:List Pc}{Q:fj}
structure Or (F:Nat->Prop) (h:Hp) (lo c ln:Nat) (cs:List Pc) (R:List Mv) (N:Int->Option Int) (b:List Int) (out:List Mv) (f:Int->Option Int) (w d:V):Prop where
 H:ej F h (ft eZ fN b w::eD lo zhc (vfM c ln d w)::S8 c f::S8 ln N::ft eMv G7 out d::cs)
 f:∀t a,f t=some a↔(a,t)∈R
theorem Ii(a b:Int):fq [V.I 0,V.I 0] dZ [(0,V.I a),(1,V.I b)]=some (.agg [.I a,.I b]):=rfl
theorem Mc:∀l:List Mv,l.length<=cost l
 |[]=>jJ _
 |m::l=>by have:=Mc l;grind[II,Un.cost,Re]
theorem Px{lo g ln:Nat}{N:Int->Option Int}{c:List Int}{out:List Mv}{f:Int->Option Int}{w d:V}{a b:Int}{K:fj}(O:Or F h lo g ln cs R N c out f w d)(z:out.length<900000)
  (k:∀h' e,Sn F h F h'->Or F h' lo g ln cs R N c (out++[(a,b)]) f w e->K .undef h') :
  gU (iO G7 2 1 (.agg [.I 0,.I 0]) [(0,.agg [.I a,.I b])]) h λv m=>eJ (fg G7 2 16 d v m) λn i=>oP (fR (.ptr lo 0)) λp=>oP (fJ 3 p) λq=>eJ (gj 1 q n i) K:=by
 rw[show iO G7 2 1 (.agg [.I 0,.I 0]) [(0,.agg [.I a,.I b])]=some (.cells G7 2 true false [.I a,.I b],λl=> .slice l 0 1) from rfl,fK]
 let⟨w2,i,e2,_,j,r⟩:=O.H.pT 4 rfl (iU:=16) (MB:=G7) (ro:=false) (y:=(a,b)) rfl (by decide) (by decide) (by omega)
 rw[show fg G7 2 16 d (.slice h.next 0 1) (h.new (.cells G7 2 true false [.I a,.I b]))=_ from e2,eh]
 let⟨s,t,_,u,x⟩:=j.st 1 rfl (o:=0+3) (by simp) (j.one 4 rfl)
 refine ec (eC _ _) (ec pf ?_);rw[t,eh];exact k s w2 (r.trans x) ⟨u,O.f⟩
theorem SI(nd:(km R).Nodup){f:Int->Option Int}(b:∀t a,f t=some a↔(a,t)∈R)(t:Int):∀t' a,GU f t none t' = some a↔(a,t')∈less R t:=by grind[GU,lD]
theorem VV{sp:Int}(NP:l.length<40000){R out:List Mv}(I:UH l sp R out):out.length<90000/\R.length<90000:=by
 have a:=I.cost
 grind[Mc]
variable{l:List Mv}{sp:Int}(hl:(km l).Nodup)(hs:∀m∈l,m.1≠sp/\m.2≠sp)(NP:l.length<40000)
include hl hs NP
theorem zdl{lo v ln:Nat}{N:Int->Option Int}{d:List Int}{out:List Mv}{f:Int->Option Int}{w wo:V}(O:Or F h lo v ln cs R N d out f w wo)(T:∀p,(N p).getD 0=(NO R p:Nat))(I:UH l sp R out)(n:Fre R d)
  (H:∀h' R' M c U w' o,Sn F h F h'->Or F h' lo v ln cs R' M [] c U w' o->UH l sp R' c->Fre R' []->(∀x∈km R',x∈km R)->Q (.tuple []) h'):cP CS rM [.ptr lo 0] h Q:=by
 refine HP ?_
 let J:Nat->LP:=λk l' h'=>∃R' M g c U w' o,l' = [.ptr lo 0]/\R'.length=k/\Sn F h F h'/\Or F h' lo v ln cs R' M g c U w' o/\(∀p,(M p).getD 0=(NO R' p:Nat))/\UH l sp R' c/\Fre R' g/\∀x∈km R',x∈km R
 refine Ez J ?_ (⟨R,N,d,out,f,w,wo,rfl,rfl,.refl _ _,O,T,I,n,λ_ h=>h⟩);intro k _ W X;obtain⟨b,P,Y,i,r,w1,z,⟨⟩,hk,s1,q,T,I,n,j⟩:=X;unfold vU;refine oN (q.H.ld 1 rfl rfl) (ec (q.H.len 0 rfl) (ec (by rfl) (fX ?_)))
 cases Y with
 |nil=>exact fH (by simp) (H W b P i r w1 z s1 q I n j)
 | cons t fr=>
   refine fO (by simp) (ec (eC _ _) (ec pf ?_));have ht:=(n.iff t).1 (Wh ..);obtain⟨m,s,rfl⟩:=iP.1 ht.1;have an:=VV NP I;have Z:fr.length<90000:=by
     have W:fr.length<=(km b).length:=by
       have aa:=(WM.1 n.nd).2;exact Sc aa λx hx=>((n.iff x).1 (wBA _ hx)).1
     simp[km,RC]at W;omega
   refine htM.pop (by simp_all[hvM]) q.H Z λh2 A w2 s2 hp S=>?_;refine ec (rfl) ?_;have ab:=(q.f _ _).2 s;have lk:=(S.Om 2 rfl m.2).1;rw[ab,Option.getD_some]at lk;refine oN (S.ld 1 rfl rfl) (ec lk (oN (S.ld 1 rfl rfl) (ec (Ii _ _) ?_)));have O2:Or F h2 lo v ln cs b P A i r w2 z:=⟨S,q.f⟩
   refine Px O2 (by omega) λh3 B s3 O3=>?_;refine oN (O3.H.ld 1 rfl rfl) ?_
   let⟨h4,e4,_,H4,s4⟩:=O3.H.zhk 2 rfl m.2
   rw[e4,eh];have C:=(H4.Om 3 rfl m.1).1;rw[T]at C;refine oN (H4.ld 1 rfl rfl) (ec C ?_);have hc:=Rf I.nd s m.1;rw[if_pos rfl]at hc;have ao:NO b m.1<=b.length:=List.length_filter_le _ _;rw[jx,gQ,gG (by grind[ml]),show((NO b m.1:Nat):Int)-1=(NO (less b m.2) m.1:Nat) by omega]
   let⟨D,e5,_,u,s5⟩:=H4.zfz 3 rfl m.1 (NO (less b m.2) m.1:Nat)
   rw[e5,eh];have E:=SI I.nd q.f m.2;have G:∀p,((GU P m.1 (some (NO (less b m.2) m.1:Nat))) p).getD 0=(NO (less b m.2) p:Nat):=λp=>by
     unfold GU;split
     ·simp_all
     ·rename_i e
      have:=Rf I.nd s p
      simp_all
   have ac:=n.perm (hp.cons _)
   let⟨st1,st2⟩:=ac.step I.nd s
   have I5:=I.zh7 hl hs s ht.2;have ll:=IC I.nd s;have K:∀x∈km (less b m.2),x∈km R:=λx hx=>by
     obtain⟨y,hy,rfl⟩:=iP.1 hx;exact j _ (iP.2 ⟨y,(lD.1 hy).1,rfl⟩)
   have ad:=(((s1.trans s2).trans s3).trans s4).trans s5;have O5:Or F D lo v ln cs (less b m.2) (GU P m.1 (some (NO (less b m.2) m.1:Nat))) A (i++[(m.1,m.2)]) (GU r m.2 none) w2 B:=⟨u,E⟩
   have ae:=(u.Om 2 rfl m.1).2;have L:=(u.Om 3 rfl m.1).1;rw[G]at L;refine oN (u.ld 1 rfl rfl) (ec ae (ec rfl (ec rfl ?_)));have aq:(GU r m.2 none m.1).isSome=true↔m.1∈km (less b m.2):=by
     rw[Option.isSome_iff_exists];constructor
     ·rintro⟨a,ha⟩;exact iP.2 (by grind)
     ·grind[iP]
   have eA:iM (.bool (GU r m.2 none m.1).isSome) (oB (some (V.ptr lo 0)) λag=>oB (fR ag) λah=>oB (fJ 1 ah) λai=>oB (ez ai D) λaj=>oB (some (V.I m.1)) λak=>oB (rH 3 none (V.I 0) false aj ak D) λal=>ef .eql 3 al (V.I 0)) =
       some (.bool ((GU r m.2 none m.1).isSome&&decide (NO (less b m.2) m.1=0))):=by
     simp[eQ,eC,fo];rw[show ez (.ptr lo (0+1)) D=some (.map ln) from u.ld 1 rfl rfl,eQ,show rH 3 none (V.I 0) false (.map ln) (.I m.1) D=_ from L,eQ,gS,iT];congr 3;rw[WK,Ey,yU];omega
   refine ec eA (fX ?_);by_cases hc0:NO (less b m.2) m.1=0/\m.1∈km (less b m.2)
   ·refine fO (by simp_all) (ec (eC _ _) (ec pf ?_))
    refine htM.push (by simp_all[hvM]) u (by have:=hp.length_eq;omega) λh6 am w6 s6 ar _ H6=>⟨k-1,by omega,?_⟩
    exact⟨less b m.2,_,am,_,_,w6,B,rfl,by omega,ad.trans s6,⟨H6,E⟩,G,I5,(st1 hc0).perm (by grind),K⟩
   ·refine fH (λe=>?_) ⟨k-1,by omega,?_⟩
    ·simp_all
    grind
theorem zd4(v:sp<16){lo q ln:Nat}{R:List Mv}{N:Int->Option Int}{d:List Int}{out:List Mv}{f:Int->Option Int}{w K:V}{p:Int}(O:Or F h lo q ln cs R N d out f w K)(I:RgI l sp p p R out)
  (H:∀h' R' c z i,Sn F h F h'->Or F h' lo q ln cs R' N d c z w i->UH l sp R' c->MO R'->(∀x∈km R',x∈km R)->p ∉ km R'->Q (.tuple []) h'):cP CS th [.ptr lo 0,.I p,.I sp] h Q:=by
 refine HW ?_
 let J:Nat->LP:=λk U h'=>∃t R' c z i,U=[.ptr lo 0,.I p,.I sp,.I t]/\R'.length=k/\Sn F h F h'/\Or F h' lo q ln cs R' N d c z w i/\RgI l sp p t R' c/\(∀x∈km R',x∈km R)/\(t≠p->p ∉ km R')
 refine EX J ?_ (⟨p,R,out,f,K,rfl,rfl,.refl _ _,O,I,λ_ h=>h,by omega⟩);intro k _ _ _ _ W A;obtain⟨t,r,g,X,B,⟨⟩,hk,s1,n,I,o,Y⟩:=A;unfold vS;obtain⟨m,s,rfl⟩:=iP.1 I.mem;have C:=(n.f _ _).2 s;have L:=(n.H.Om 2 rfl m.2).1;rw[C,Option.getD_some]at L;have Z:g.length<90000:=by
  have W:=I.cost;have M:=Mc g;omega
 refine oN (n.H.ld 1 rfl rfl) (ec L (oN (n.H.ld 1 rfl rfl) ?_))
 let⟨M,e2,_,H2,P⟩:=n.H.zhk 2 rfl m.2
 rw[e2,eh];have u:Or F M lo q ln cs (less r m.2) N d g (GU X m.2 none) w B:=⟨H2,SI I.nd n.f m.2⟩
 have ll:=IC I.nd s;have S:∀x∈km (less r m.2),x∈km R/\x≠m.2/\x∈km r:=λx D=>by
  obtain⟨y,hy,rfl⟩:=iP.1 D;have:=lD.1 hy;exact⟨o _ (iP.2 (by grind)),this.2,iP.2 (by grind)⟩
 refine fx ?_;by_cases e:m.1=p
 ·refine fO e (oN (u.H.ld 1 rfl rfl) (ec (Ii _ _) ?_));rw[<-e]at I;refine Px u (by omega) λT j E G=>?_
  let⟨a,b⟩:=I.close hl hs v s
  refine H T _ _ _ j ((s1.trans P).trans E) G a b (by simp_all) λD=>?_
  grind
 ·refine fH e (oN (u.H.ld 1 rfl rfl) (ec (Ii _ _) ?_));refine Px u (by omega) λT j E G=>⟨k-1,by omega,?_⟩
  refine⟨m.1,less r m.2,_,_,j,rfl,by omega,(s1.trans P).trans E,G,I.step hl hs s e,by simp_all,λ_ D=>?_⟩
  grind
end
section
variable{F F':Nat->Prop}{h h':Hp}{cs:List Pc}{Q:fj}
theorem zaZ(a b:Nat):fq [V.nA,V.nA,V.ed,V.ed] fd [(0,V.map a),(1,V.map b)]=some (.agg [.map a,.map b,.ed,.ed]):=rfl
theorem QM{i:Nat}(hi:i<l.length):(l.take (i+1)).filter (λm=>m.1≠m.2)=(l.take i).filter (λm=>m.1≠m.2)++if l[i].1=l[i].2 then[] else[l[i]]:=by
 rw[Ho hi,List.filter_append];congr 1;by_cases e:l[i].1=l[i].2 <;> simp[e]
theorem zfU{sp:Int}{vl:V}(H0:ej F h cs)(rl:hD eMv F h l vl)(hl:(km l).Nodup)(hs:∀m∈l,m.1≠sp/\m.2≠sp)(NP:l.length<40000)(aa:sp<16)
  (H:∀F' h' out wo,Sn F h F' h'->ej F' h' (ft eMv G7 out wo::cs)->zfR l sp out->out.length<90000->Q wo h'):cP CS Ic [vl,.I sp] h Q:=by
 refine Vb ?_;rw[fK];have Ha:ej F h (ft eZ fN [] .ed::cs):=H0.add .nil λ_ h=>h;have Hb:ej F h (ft eMv G7 [] .ed::ft eZ fN [] .ed::cs):=Ha.add .nil λ_ h=>h
 let⟨H1,s1⟩:=Hb.zgK
 rw[fK]
 let⟨H2,s2⟩:=H1.zgK
 have ab:=s1.trans s2;have H2:=H2.sw;generalize (h.new (.map [] 0)).new (.map [] 0)=q at*;generalize (h.new (.map [] 0)).next=ln at*;generalize h.next=D at*;refine ec (zaZ _ _) (oC H2 rfl λh3 H3 s3=>?_);generalize q.next=lo at*;have ar:=rl.since (ab.trans s3);refine ec ar.len ?_
 let J:Nat->LP:=λk l' h'=>∃F' i N f G,l' = [.I sp,.ptr lo 0,G,vl,.I l.length,.I (i:Nat)]/\i+k=l.length/\Sn F h F' h'/\
   Or F' h' lo D ln (ft eZ fN (km ((l.take i).filter λm=>m.1≠m.2)) G::cs) ((l.take i).filter λm=>m.1≠m.2) N [] [] f .ed .ed/\∀p,(N p).getD 0=(NO ((l.take i).filter λm=>m.1≠m.2) p:Nat)
 refine Rl J ?_ (k:=l.length) ?_;rotate_left
 ·exact⟨F,0,_,_,.ed,rfl,by omega,ab.trans s3,⟨H3.add .nil λ_ h=>h,λt a=>by simp⟩,λp=>rfl⟩
 intro k _ _ o _ _ _ h4 au;obtain⟨r,i,N,f,_,⟨⟩,hk,s4,W,X⟩:=au;have aw:=rl.since s4;unfold Iq;by_cases hi:i<l.length
 ·have j:=hZ hi;have I:=QM hi;have ac:=AL hi;have ad:l[i].2 ∉ km ((l.take i).filter λm=>m.1≠m.2):=λhm=>by
   let⟨y,hy,e⟩:=iP.1 hm
   have hy:=(wA9.1 hy).1;obtain⟨n,hn,rfl⟩:=wBp.1 hy;rw[TV]at hn;rw[wBy]at e;have:=(List.getElem_inj (h₀:=by simp[km];omega) (h₁:=by simp[km];omega) hl (i:=n)).1 (by simpa[km]using e);omega
  have hlen:((l.take i).filter λm=>decide (m.1≠m.2)).length<=i:=by
   have s:=List.length_filter_le (λm:Mv=>decide (m.1≠m.2)) (l.take i);rw[TV]at s;omega
  generalize (l.take i).filter (λm=>m.1≠m.2)=R at*;generalize l[i]=m at*
  let⟨a,b⟩:=m
  obtain⟨q1,q2,q3,_,i1,i2,rfl,_⟩:=aw.ix hi .i64;have ei:=Option.some.inj ((hZ hi).symm.trans j);rw[ei]at i2;refine gy (ec i1 (ec i2 ?_));refine ud W.H rfl rfl rfl λF5 Y lc H5 s5 c5=>?_;have A:Or F5 Y lo D ln (ft eZ fN (km R) o::cs) R N [] [] f .ed .ed:=⟨H5,W.f⟩
  refine oF (c5.ld rfl) (oF (c5.ld rfl) (xh ?_))
  have d:∀F9 g R' N' B G,Sn F5 Y F9 g->R' = (l.take (i+1)).filter (λm=>decide (m.1≠m.2))->Or F9 g lo D ln (ft eZ fN (km R') G::cs) R' N' [] [] B .ed .ed->(∀p,(N' p).getD 0=(NO R' p:Nat))->
    vm Q (Pp J k) [.I sp,.ptr lo 0,G,vl,.I l.length,.I i] g:=λF9 g R' N' B G K eR L ax=>by
   refine O1 ?_;unfold GG;refine fG ⟨k-1,by omega,?_⟩;subst eR;exact⟨F9,i+1,N',B,G,rfl,by omega,(s4.trans s5).trans K,L,ax⟩
  by_cases e:a=b
  ·refine fO e ?_;exact d F5 Y R N f o (.refl _ _) (by rw[I,if_pos e,Ku]) A X
  ·refine fH e ?_;rw[if_neg e]at I;have aH:=ac;refine oN (H5.ld 1 rfl rfl) (oF (c5.ld rfl) (oF (c5.ld rfl) ?_))
   let⟨h6,e6,n6,H6,Z⟩:=H5.zfz 2 rfl b a
   rw[e6,eh];have c6:=c5.since Z;have M:=(H6.Om 3 rfl a).1;rw[X]at M;refine⟨n6,oN (H6.ld 1 rfl rfl) (oF (c6.ld rfl) (ec M ?_))⟩;have aI:NO R a<=R.length:=List.length_filter_le _ _;refine fG ?_
   let⟨h7,e7,n7,H7,s7⟩:=H6.zfz 3 rfl a ((NO R a+1:Nat):Int)
   rw[e7,eh];have c7:=c6.since s7;refine⟨n7,oF (c7.ld rfl) ?_⟩;rw[show iO 3 1 1 (.I 0) [(0,.I b)]=some (.cells 3 1 true false [.I b],λl=> .slice l 0 1) from rfl,fK]
   let⟨w8,h8,e8,n8,H8,s8⟩:=H7.pT 5 rfl (iU:=8) (MB:=3) (y:=b) (w:=[.I b]) (ro:=false) rfl (by decide) (by decide) (by simp[km,RC];omega)
   rw[show fg 3 1 8 o (.slice h7.next 0 1) (h7.new (.cells 3 1 true false [.I b]))=_ from e8,eh];have et:km (R++[(a,b)])=km R++[b]:=by simp[km]
   refine d F5 h8 (R++[(a,b)]) _ _ w8 ((Z.trans s7).trans s8) I.symm ⟨by rw[et];exact H8,λt y=>?_⟩ λp=>?_
   ·unfold GU;rw[yX,Hh];split
    ·rename_i et;subst et;constructor
     ·intro h;cases h;exact .inr rfl
     ·rintro(h|h)
      ·exact(ad (iP.2 ⟨_,h,rfl⟩)).elim
      ·cases h;rfl
    ·rename_i et;rw[W.f];constructor
     ·exact .inl
     ·rintro(h|h)
      ·exact h
      ·cases h;exact(et rfl).elim
   ·rw[zc7];unfold GU;split
    ·rename_i ep;subst ep;simp
    ·rename_i ep;rw[if_neg (Ne.symm ep),X];rfl
 ·refine iA ?_;obtain rfl:i=l.length:=by omega
  rw[PG]at W X;have I0:=UH.start sp hl;generalize (l.filter λm=>m.1≠m.2)=R at*;have aJ:R.length<50000:=by have:=I0.cost;simp[Un.cost]at this;omega
  refine ec (W.H.len 5 rfl) ?_
  obtain ⟨J1,O⟩:∃J1,J1=λk l' h'=>∃i fr w,l' = [.I sp,.ptr lo 0,o,o,.I ((km R).length:Nat),.I (i:Nat)]/\i+k=(km R).length/\Sn F h r h'/\
    Or r h' lo D ln (ft eZ fN (km R) o::cs) R N fr [] f w .ed/\fr.Nodup/\(∀p,p∈fr↔p∈(km R).take i/\p ∉ qI R):=⟨_,rfl⟩
  refine QY J1 ?_ (k:=(km R).length) (by rw[O];exact⟨0,[],.ed,rfl,by omega,s4,W,.nil,λp=>by simp⟩);intro k1 _ _ _ _ _ _ Y ae;rw[O]at ae;obtain⟨i,fr,w,⟨⟩,aK,s5,A,fn,ff⟩:=ae;unfold HF;by_cases hi:i<(km R).length
  ·have j:=hZ hi;have ag:=Ho hi;have ah:(km R)[i] ∉ (km R).take i:=λhm=>by
    let⟨n,hn,e⟩:=wBp.1 hm
    rw[TV]at hn;rw[wBy]at e;have:=(List.getElem_inj I0.nd).1 e;omega
   generalize (km R)[i]=p at*
   let⟨l1,o1,p1,p2⟩:=A.H.BY 5 rfl j .i64
   have M:=(A.H.Om 3 rfl p).1;rw[X]at M;refine gy (ec p1 (ec p2 (oN (A.H.ld 1 rfl rfl) (ec M (fx ?_)))))
   have d:∀g u w',Sn r Y r g->Or r g lo D ln (ft eZ fN (km R) o::cs) R N u [] f w' .ed->u.Nodup->(∀p,p∈u↔p∈(km R).take (i+1)/\p ∉ qI R)->
     vn Q (Pp J1 k1) [.I sp,.ptr lo 0,o,o,.I ((km R).length:Nat),.I i] g:=λg u w' K L a b=>by
    refine O7 ?_;unfold GQ;have:(km R).length=R.length:=by simp[km]
    refine fG ⟨k1-1,by omega,?_⟩;rw[O];exact⟨i+1,u,w',rfl,by omega,s5.trans K,L,a,b⟩
   have ay:=λhm=>ah ((ff p).1 hm).1;by_cases hc:NO R p=0
   ·have P:=Hr.1 hc;refine io (ec (eC _ _) (ec pf ?_));have az:fr.length<90000:=by
     have:=Sc fn (b:=km R) λx j=>wBq ((ff x).1 j).1;simp[km,RC]at this;omega
    refine htM.push (hvM D ln .ed) A.H az λh6 aA w6 Z C _ H6=>?_;have C:=C.trans (List.perm_append_singleton p fr);refine d h6 aA w6 Z ⟨H6,A.f⟩ (C.nodup_iff.2 (WM.2 ⟨ay,fn⟩)) λx=>?_;rw[C.mem_iff,Aw,ff x,ag,yX,Hh];constructor
    ·rintro(rfl|⟨s,q⟩)
     ·exact⟨.inr rfl,P⟩
     ·exact⟨.inl s,q⟩
    ·rintro⟨s|rfl,q⟩
     ·exact .inr ⟨s,q⟩
     ·exact .inl rfl
   ·have P:=Classical.byContradiction λhn=>hc (Hr.2 hn);refine kw (d Y fr w (.refl _ _) A fn λx=>?_);rw[ff x,ag,yX,Hh];constructor
    ·rintro⟨s,q⟩;exact⟨.inl s,q⟩
    ·rintro⟨s|rfl,q⟩
     ·exact⟨s,q⟩
     ·exact(q P).elim
  ·refine iA ?_;obtain rfl:i=(km R).length:=by omega
   rw[PG]at ff;refine zdl hl hs NP A X I0 ⟨fn,ff⟩ λh6 R6 N6 ai f6 w6 aB Z O6 I6 aC S=>?_;refine ec (O6.H.len 5 rfl) ?_
   obtain ⟨J2,T⟩:∃J2,J2=λk l' h'=>∃i R' c B v,l' = [.I sp,.ptr lo 0,o,.I ((km R).length:Nat),.I (i:Nat)]/\i+k=(km R).length/\Sn F h r h'/\
     Or r h' lo D ln (ft eZ fN (km R) o::cs) R' N6 [] c B w6 v/\UH l sp R' c/\MO R'/\∀x∈km R',x∈(km R).drop i:=⟨_,rfl⟩
   refine QR J2 ?_ (k:=(km R).length) (by rw[T];exact⟨0,R6,ai,f6,aB,rfl,by omega,s5.trans Z,O6,I6,aC.rings I6.nd,by simpa using S⟩);intro k2 _ _ _ _ _ h7 aj;rw[T]at aj;obtain⟨i,U,E,f7,ak,⟨⟩,aL,s7,z,I7,al,am⟩:=aj;unfold HI;have aM:=VV NP I7;by_cases hi:i<(km R).length
   ·have j:=hZ hi;have aD:=wAb hi;generalize (km R)[i]=p at*
    let⟨l1,o1,p1,p2⟩:=z.H.BY 5 rfl j .i64
    have M:=(z.H.Om 2 rfl p).2;refine gy (ec p1 (ec p2 (oN (z.H.ld 1 rfl rfl) (ec M (ec rfl (ec rfl (fX ?_)))))));have an:(f7 p).isSome=true↔p∈km U:=by
     rw[Option.isSome_iff_exists];constructor
     ·rintro⟨a,ha⟩;exact iP.2 ⟨_,(z.f _ _).1 ha,rfl⟩
     ·intro aE
      let⟨y,hy,e⟩:=iP.1 aE
      exact⟨y.1,(z.f _ _).2 (by rw[<-e];exact hy)⟩
    have d:∀g R' c B v,Sn r h7 r g->Or r g lo D ln (ft eZ fN (km R) o::cs) R' N6 [] c B w6 v->UH l sp R' c->MO R'->(∀x∈km R',x∈km U/\x≠p)->
      vy Q (Pp J2 k2) [.I sp,.ptr lo 0,o,.I ((km R).length:Nat),.I i] g:=λg R' c B v K L I9 r9 d9=>by
     refine Pe ?_;unfold GK;have:(km R).length=R.length:=by simp[km]
     refine fG ⟨k2-1,by omega,?_⟩;rw[T];refine⟨i+1,R',c,B,v,rfl,by omega,s7.trans K,L,I9,r9,λx j=>?_⟩
     let⟨s,q⟩:=d9 x j
     have:=am x s;rw[aD]at this;exact(Aw.1 this).resolve_left q
    by_cases hp:p∈km U
    ·refine fO (an.2 hp) (oN (z.H.ld 1 rfl rfl) (ec (Ii _ _) ?_));refine Px z (by omega) λh8 aN s8 O8=>?_;exact zd4 hl hs NP aa O8 (I7.ring hs al aa hp) λg R9 ao f9 aF K L I9 r9 aq aG=>d g R9 ao f9 aF (s8.trans K) L I9 r9 λx j=>⟨aq x j,λe=>aG (e▸j)⟩
    ·exact fH (λe=>hp (an.1 e)) (d h7 U E f7 ak (.refl _ _) z I7 al λx j=>⟨j,λe=>hp (e▸j)⟩)
   ·refine iA (oN (z.H.ld 1 rfl rfl) ?_);obtain rfl:i=(km R).length:=by omega
    have hR:U=[]:=by
     cases U with
     |nil=>rfl
     | cons m U=>
       have:=am m.2 (iP.2 ⟨m,by simp,rfl⟩);rw[List.drop_length]at this;cases this
    subst hR;exact H r h7 E ak s7 z.H.tail.tail.tail.tail.Eu I7.done (by omega)
variable{e:Ge}{s:Ga}{w:Gx}
theorem Ox{p:Nat}{l:List Nat}{k q:Nat}(a:k+1<l.length)(hq:l[k]? =some q):jM p (l.drop k)=if q=p then 0 else jM p (l.drop (k+1))+1:=by
 obtain⟨b,rfl⟩:=ke.1 hq
 grind[wAb,Un.jM]
theorem V0{p:Nat}{l:List Nat}{k:Nat}(a:k+1=l.length):jM p (l.drop k)=0:=by
 grind[wAb,wBX,Un.jM]
theorem YY(k:TO e)(E:Gm F h cs e s w)(hl:s.l.length<150000){p t:Nat}{B:Bk}(A:e.u.blocks[t]? =some B)(aG:0<B.fk.length)
  (H:∀F' h' w' c,Sn F h F' h'->Vd e.u e.of p t c->Gm F' h' cs e {s with l:=s.l++c} w'->Q (.tuple []) h'):cP CS oZ [.ptr e.le 0,.I p,.I t] h Q:=by
 refine Kb ?_
 let⟨l1,o1,bv,bn,bp,_,b1,b2,rv,rn,rp,_⟩:=E.u.B8 A
 refine ec (eC _ _) (ec pf (oF (E.ld 5 rfl) (ec b1 (ec b2 ?_))));refine ud E.H rfl rfl (by simp only[pR,fe,rv.one,rn.one,rp.one];rfl) λF2 h2 l H2 s2 c2=>?_;have E2:=E.since s2 H2;have aa:=rp.since s2;have aH:=Lf k.g A;have aI:=tB k.g A;obtain⟨J0,ab⟩:∃J0:Nat->LP,J0=λn l' h'=>∃i,l' = [.ptr e.le 0,.I p,.ptr l 0,.I (i:Nat)]/\i+n+1=B.fk.length/\h' = h2/\jM p B.fk=i+jM p (B.fk.drop i):=⟨_,rfl⟩
 refine Ff J0 ?_ (k:=B.fk.length-1) (by grind);intro n _ _ _ _ h3 ac;rw[ab]at ac;obtain⟨i,⟨⟩,hn,rfl,hw⟩:=ac;unfold wL;refine oF (c2.ld rfl) (ec aa.len ?_);rw[jx,gQ,gG (by grind[ml])];refine ec (by rfl) ?_;obtain⟨q,hq⟩:∃q,B.fk[i]? =some q:=⟨_,hZ (by omega)⟩
 let⟨l2,o2,_,p1,p2⟩:=aa.nat hq .i64
 have eA:iM (.bool (decide (((i:Nat):Int)<((B.fk.length:Nat):Int)-1))) (oB (fJ 4 (.ptr l 0)) λao=>oB (ez ao h3) λaq=>oB (some (V.I i)) λar=>oB (gM 1 aq ar) λau=>oB (ez au h3) λaw=>oB (some (V.I p)) λax=>ef .neq 3 aw ax) =
   some (.bool (decide (i+1<B.fk.length)&&decide (q≠p))):=by
  simp only[fo,eQ];rw[show ez (.ptr l (0+4)) h3=some bp from c2.ld rfl];simp only[eQ,p1,p2,rZ,iT];congr 2;rw[WK];simp[yF,yU,bne_iff_ne,ne_eq];omega
 refine ec eA (fX ?_);by_cases hc:i+1<B.fk.length/\q≠p
 ·refine fO (by simp[hc]) (fG ⟨n-1,by omega,?_⟩);rw[ab];refine⟨i+1,rfl,by omega,rfl,?_⟩;rw[hw,Ox hc.1 hq,if_neg hc.2];omega
 refine fH (by simp_all) ?_;have hw:jM p B.fk=i:=by
  by_cases h1:i+1<B.fk.length
  ·have h2:=by omega
   simp_all[Ox,if_pos]
  ·grind[V0]
 have ay:=rv.since s2;refine oF (c2.ld rfl) (ec ay.len ?_)
 obtain ⟨J1,J⟩:∃J1,J1=λn l' h'=>∃F' j K,l' = [.ptr e.le 0,.I i,K,bv,.I B.ee.length,.I (j:Nat)]/\j+n=B.ee.length/\Sn F h F' h'/\
   Gm F' h' (ft eMv G7 ((B.ee.take j).flatMap (rA e.u e.of i)) K::cs) e s w:=⟨_,rfl⟩
 let⟨jp,hjp⟩:=E.p
 refine FV J1 ?_ (k:=B.ee.length) (by
  rw[J];refine⟨F2,0,.ed,rfl,by omega,s2,⟨?_,E2.u,⟨jp+1,by simp_all⟩,E.n⟩⟩;exact(ej.zbx (H2.add .nil λ_ h=>h)))
 intro n1 _ _ x8 _ _ _ h4 ad;rw[J]at ad;obtain⟨F4,j,_,⟨⟩,aJ,s4,G⟩:=ad;unfold wX;have az:=rv.since s4;have ae:∀l:List Nat,(l.flatMap (rA e.u e.of i)).length<=l.length:=λl=>by
  induction l <;> grind[rA,qu,Re]
 have L:mN e.u e.of p t=B.ee.flatMap (rA e.u e.of i):=by unfold mN;rw[A];simp[hw]
 by_cases hj:j<B.ee.length
 ·have hv:=hZ hj;have ag:=Ho hj;generalize B.ee[j]=v at*
  let⟨l3,o3,_,q1,q2⟩:=az.nat hv .i64
  have ah:=k.g.uP v t j ⟨B,A,hv⟩;obtain⟨x,C⟩:∃x,e.u.ee[v]? =some x:=by simp_all
  let⟨l5,o5,wa,_,i1,i2,ra,_⟩:=G.u.val C
  refine gy (ec q1 (ec q2 (ec (eC _ _) (ec pf (oF (G.ld 4 rfl) (ec i1 (ec i2 ?_)))))));refine ud G.H rfl rfl (by simp only[yM,fe,ra.one];rfl) λF5 X lx z Y c5=>?_;have E5:=G.since Y z;refine oF (c5.ld rfl) (fx ?_)
  have ai:∀F9 M K,Sn F4 h4 F9 M->Gm F9 M (ft eMv G7 ((B.ee.take (j+1)).flatMap (rA e.u e.of i)) K::cs) e s w->
    lY Q (Pp J1 n1) [.ptr e.le 0,.I i,K,bv,.I B.ee.length,.I j] M:=λF9 M K N E9=>by
   refine Eg ?_;unfold wj;refine fG ⟨n1-1,by omega,?_⟩;rw[J];exact⟨F9,j+1,K,rfl,by omega,s4.trans N,E9⟩
  by_cases Z:x.op=21
  ·refine io ?_;have aA:=(k.g.XS v t j x B ⟨B,A,hv⟩ C Z A).2;have O:x.args[i]? =some (x.args.getD i 0):=by rw[IY,hZ (by omega)];rfl
   have P:x.args.getD i 0∈jn x:=by
    unfold jn;rw[if_pos Z];exact yN O
   have pa:=k.v (iy (k.g.use v x C _ P));have pv:=k.v ah;generalize x.args.getD i 0=a at*
   let⟨l6,o6,f6,r1,r2⟩:=(ra.since Y).nat O .i64
   let⟨l7,o7,t1,t2,t3⟩:=E5.pl pa.1
   let⟨l8,o8,u1,u2,u3⟩:=E5.pl pv.1
   have D:=E5.ld 0 rfl;refine ec (eC _ _) (ec pf (ec pf (ec (fo ..) (ec D (ec (fo ..) (ec (c5.ld rfl) (ec r1 (ec r2 (ec t1 (ec t2 ?_))))))))));refine ec (eC _ _) (ec pf (ec pf (ec (fo ..) (ec D (ec u1 (ec u2 (ec (Ii _ _) ?_)))))));rw[show iO G7 2 1 (.agg [.I 0,.I 0]) [(0,.agg [.I (hO e.of a),.I (hO e.of v)])]=some (.cells G7 2 true false [.I (hO e.of a),.I (hO e.of v)],λl=> .slice l 0 1) from rfl,gI]
   let ⟨w9,M,e9,n9,H9,N⟩:=z.pT 5 rfl (iU:=16) (MB:=G7) (ro:=false) (y:=(hO e.of a,hO e.of v)) (w:=[.I (hO e.of a),.I (hO e.of v)]) rfl (by decide) (by decide) (by
    grind)
   have R:∀{l o:Nat} {x:Int},ez (.ptr l o) X=some (.I x)->l<X.next->ez (.ptr l o) (X.new (.cells G7 2 true false [.I (hO e.of a),.I (hO e.of v)]))=some (.I x):=by grind[gz,fi]
   refine ⟨⟨fh _ _,bq⟩,R u2 u3,gz D (fi _ (CY z 0 rfl)),R t2 t3,R r2 (z.fl _ f6),gz (c5.ld rfl) (fi _ (z.fl _ c5.f)),gz D (fi _ (CY z 0 rfl)),?_⟩;rw[show fg G7 2 16 x8 (.slice X.next 0 1) (X.new (.cells G7 2 true false [.I (hO e.of a),.I (hO e.of v)]))=_ from e9,eh];refine⟨by simp_all,ai F5 M w9 (Y.trans N) ?_⟩;have e1:rA e.u e.of i v=[(hO e.of a,hO e.of v)]:=by
    unfold rA;rw[C];simp only[Z,if_true];rw[IY,O];rfl
   refine⟨?_,E5.u.since N,⟨jp+1,by simp_all⟩,E5.n⟩;rw[ag,wA2,wBm,e1];exact H9
  ·refine kw (ai F5 X x8 Y ?_)
   simp_all[rA,if_false,wA2,wBm,Ku]
 refine iA ?_;obtain rfl:j=B.ee.length:=by omega
 rw[PG,<-L]at G
 let⟨z,Y,r5⟩:=G.H.hY 5 rfl
 have z:=z.ze9;have aK:(mN e.u e.of p t).length<=B.ee.length:=by rw[L];exact ae _
 have aL:∀m∈mN e.u e.of p t,lC m.1/\lC m.2/\m.1≠15/\m.2≠15:=λm d=>by
  rw[L]at d
  let⟨v,hv,d⟩:=Sg.1 d
  unfold rA at d;split at d
  ·rename_i x C;split at d
   ·rename_i Z;rw[Hh.1 d]
    let⟨j,hj⟩:=mz.1 hv
    have aA:=(k.g.XS v t j x B ⟨B,A,hj⟩ C Z A).2;have P:x.args.getD i 0∈jn x:=by
     unfold jn;rw[if_pos Z,IY,hZ (by omega)];exact AL _
    have a1:=iy (k.g.use v x C _ P);have a2:=(ke.1 C).1;have b1:=k.p _ a1;have b2:=k.p _ a2;exact⟨k.p.pos a1,k.p.pos a2,by omega,by omega⟩
   ·cases d
  ·cases d
 refine zfU z r5 (k.nd p t) (by grind) (by omega) (by omega) λF6 h6 out wo s6 H6 S aM=>?_;have aj:=Y.trans s6
 let⟨H7,s7,r7⟩:=H6.hY 0 rfl
 have E7:Gm _ h6 cs e s w:=⟨H7.tail,G.u.since (aj.trans s7),⟨jp,hjp⟩,G.n⟩
 refine ec r7.len ?_;have ak:∀m∈out,lC m.1/\lC m.2:=λm d=>by
  have sp:lC 15:= .inl (by omega);have fr:∀q∈qI (mN e.u e.of p t),lC q:=λq hq=>by obtain⟨m,h1,rfl⟩:=pN.1 hq;grind
  have tr:∀q∈km (mN e.u e.of p t),lC q:=λq hq=>by obtain⟨m,h1,rfl⟩:=iP.1 hq;grind
  let⟨a,b⟩:=S.FK m d
  grind
 obtain⟨J2,T⟩:∃J2,J2=λn l' h'=>∃F' j w',l' = [.ptr e.le 0,wo,.I out.length,.I (j:Nat)]/\j+n=out.length/\Sn F h F' h'/\Gm F' h' cs e {s with l:=s.l++(out.take j).flatMap td} w'/\hD eMv F' h' out wo:=⟨_,rfl⟩
 refine Fh J2 ?_ (k:=out.length) (by rw[T];exact⟨_,0,w,rfl,by omega,(s4.trans aj).trans s7,by simp_all,r7⟩);intro n2 _ _ _ _ h8 al;rw[T]at al;obtain⟨F8,j,w8,⟨⟩,aN,s8,E8,r8⟩:=al;unfold wN;by_cases hj:j<out.length
 ·have C:=hZ hj;have ag:=Ho hj;have I:=ak _ (AL hj);have am:∀l:List Mv,(l.flatMap td).length<=2*l.length:=λl=>by
   induction l <;> grind[td,qu,Re]
  let⟨l1,o1,ws,_,i1,i2,e3,_⟩:=r8.ix hj .i64
  have e3:=e3;subst e3;refine gy (ec i1 (ec i2 ?_));refine ud E8.H rfl rfl rfl λF9 M lx H9 N c9=>?_;have E9:=E8.since N H9;refine oF (c9.ld rfl) (oF (c9.ld rfl) ?_);have q1:=I.1;have q2:=I.2;refine UA (by grind[lC]) (by grind[lC]) E9.H λaO aP U aB=>⟨U.next,(c9.since U).ld rfl,?_⟩
  refine UA (by grind[lC]) (by grind[lC]) aB λaQ aR an aC=>⟨an.next,?_⟩
  have r:=(N.trans U).trans an;have aD:=E8.since r aC;refine zdi aD (by
   have h1:=am (out.take j);have h2:=List.length_take_le j out;have h3:=S.cost
   grind[Mc,qu]) q1 q2 λaE aS aF W aT=>⟨W.next,fG ⟨n2-1,by omega,?_⟩⟩
  rw[T];refine⟨aE,j+1,aF,rfl,by omega,(s8.trans r).trans W,?_,(r8.since r).since W⟩
  grind
 ·refine iA ?_;obtain rfl:j=out.length:=by omega
  rw[PG]at E8;exact H F8 h8 w8 _ s8 ⟨out,S,rfl⟩ E8
