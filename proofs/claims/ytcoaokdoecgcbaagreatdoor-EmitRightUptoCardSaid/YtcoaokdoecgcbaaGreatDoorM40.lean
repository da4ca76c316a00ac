/- Parts. -/
import Derived.Test.YtcoaokdoecgcbaaGreatDoorM30
import Derived.Test.YtcoaokdoecgcbaaGreatDoorM34
set_option maxHeartbeats 4000000
namespace Go.Proofs.YtcoaokdoecgcbaaGreatDoor.Hx
open Un Dm
def Nh(l:Nat)(S:Int->Prop):Pc where
 oJ:=λm=>m=l
 ok F h:=((∃es c,h.get l=some (.map es c)/\(∀e∈es,∃k:Int,e.1 = .I k/\e.2.1 = .bool true/\S k)/\∀k,S k->∃e∈es,e.1 = .I k)\/∃ks,h.get l=some (.OG .i64 ks)/\∀k,k∈ks↔S k)/\l<h.next/\¬F l
 Iu:=λh _ e=>by subst e;exact h.2
 fh:=λ⟨a,d⟩ _ hl f=>⟨a.imp (λ⟨es,c,a,b⟩=>⟨es,c,(hl l rfl).trans a,b⟩) λ⟨ks,a,b⟩=>⟨ks,(hl l rfl).trans a,b⟩,Dy d.1 f,d.2⟩
 mono:=λh _ hl=>⟨h.1,h.2.1,hl l rfl⟩
section
variable{F F':Nat->Prop}{h h':Hp}{cs:List Pc}{l:Nat}{S:Int->Prop}
theorem ej.OG(H:ej F h cs)(i:Nat)(hi:cs[i]? =some (rW l S)):ej F h (cs.set i (Nh l S)):=
 H.swap hi (let⟨a,b⟩:=H.ok i _ hi;⟨.inl a,b⟩) λ_ h=>h
theorem N7:CZ fw=true:=by
 unfold CZ fw
 kernel_rfl
theorem ej.zcT(H:ej F h cs)(i:Nat)(hi:cs[i]? =some (Nh l S))(k:Int):∃b,p5 fw none (.bool false) false (.map l) (.I k) h=some (.bool b)/\(b=true↔S k):=by
 obtain⟨h0|⟨ks,a,c⟩,d,e⟩:=H.ok i _ hi
 ·have f:ej F h (cs.set i (rW l S)):=H.swap hi ⟨h0,d,e⟩ λ_ h=>h;exact f.look i (OY (kE.1 hi).1) k
 ·refine⟨GG ks k,?_,IW.trans (c k)⟩;unfold p5 yq;simp only[a,eD];unfold MI;simp only[N7];cases GG ks k <;> rfl
theorem ej.zgW(H:ej F h cs)(i:Nat)(hi:cs[i]? =some (Nh l S))(k:Int):∃h',xh fw none (.map l) (.I k) (.bool true) h=some (.val .undef h')/\h.next<=h'.next/\ej F h' (cs.set i (Nh l λx=>S x\/x=k))/\Sn F h F h':=by
 obtain⟨h0|⟨ks,d,e⟩,a,b⟩:=H.ok i _ hi
 ·have hl:=(kE.1 hi).1;have f:ej F h (cs.set i (rW l S)):=H.swap hi ⟨h0,a,b⟩ λ_ h=>h;obtain⟨h',e1,e2,c,g⟩:=f.hO i (OY hl) k;rw[List.set_set]at c;refine⟨h',e1,e2,?_,g⟩;have:=c.OG i (OY hl)
  rwa [List.set_set]at this
 ·refine⟨h.put l (.OG .i64 (k::ks)),?_,jv _,H.Bm (p:=Nh l λx=>S x\/x=k) hi (lU.put _ rfl a) ⟨.inr ⟨k::ks,fT _ a,λx=>?_⟩,a,b⟩ λ_ h=> .inl h⟩
  ·unfold xh yq;simp only[d,eD];unfold UC;simp only[N7];rfl
  ·rw[wM,e x];exact or_comm
theorem RR{S:Int->Prop}:∀{es:List (V×V×Nat)},(∀e∈es,∃k:Int,e.1 = .I k/\e.2.1 = .bool true/\S k)->∃ks,Mc .i64 es=some ks/\∀k,k∈ks↔∃e∈es,e.1 = .I k
 |[],_=>⟨[],rfl,by simp⟩
 | ⟨a,b,n⟩::es,hh=>by
   obtain⟨k,f,g,_⟩:=hh _ (RN ..);obtain⟨ks,h,i⟩:=RR (S:=S) (es:=es) λe c=>hh e (Yd _ c);simp only at f g;subst f g;refine⟨k::ks,by simp only[Mc,zee,h];rfl,λx=>?_⟩;rw[wM,i x];constructor
   ·rintro(rfl|⟨e,c,d⟩)
    ·exact⟨_,RN ..,rfl⟩
    ·exact⟨e,Yd _ c,d⟩
   ·rintro⟨e,c,d⟩
    rcases wM.1 c with rfl|c
    ·cases d;exact .inl rfl
    ·exact .inr ⟨e,c,d⟩
theorem ej.fill(H:ej F h cs)(i j:Nat){d lu:Nat}(hi:cs[i]? =some (rW d S))(n:cs[j]? =some (rW lu λ_=>False))(o:i≠j) :
  ∃s g,Fl (.map d) h=some (.val (.ptr h.next 0) s)/\NN .i64 (.ptr h.next 0) (.map lu) s=some g/\h.next<=g.next/\ej F g (cs.set j (Nh lu S))/\Sn F h F g:=by
 obtain ⟨⟨es,c,t,u,v⟩,w,J⟩:=H.ok i _ hi;obtain⟨⟨us,x,y,z,K⟩,q,A⟩:=H.ok j _ n;have r:us=[]:=by
  cases us with
  |nil=>rfl
  |cons e us=>obtain⟨_,_,_,B⟩:=z e (RN ..);exact B.elim
 subst r;have oS:lu≠d:=λe=>H.Kv i j _ _ hi n o d rfl e.symm;obtain⟨ks,C,D⟩:=RR u;have gn:=eJ h (.iter (some d) c [] c);have gm:(h.new (.iter (some d) c [] c)).get d=some (.map es c):=(eE _ w).trans t;have gu:(h.new (.iter (some d) c [] c)).get lu=some (.map [] x):=(eE _ q).trans y;have f:lu<(h.new (.iter (some d) c [] c)).next:=wBV q;refine⟨h.new (.iter (some d) c [] c),((h.new (.iter (some d) c [] c)).put h.next .gone).put lu (.OG .i64 ks),?_,?_,RM _,?_⟩
 ·unfold Fl yd;simp only[t,eD]
 ·unfold NN;simp only[rA,XV,bB,gn,eD,yd,gm,gu,C,Bool.and_self,List.isEmpty_nil];rw[show Nat.beq lu d=false from wB2.2 λe=>oS (yi e)];rfl
 ·have hc:lU (λm=>m=lu) h (((h.new (.iter (some d) c [] c)).put h.next .gone).put lu (.OG .i64 ks)):=by
   refine⟨RM _,λl hl E=>?_⟩;exact(gi (h:=(h.new (.iter (some d) c [] c)).put h.next .gone) _ f λe=>E e.symm).trans ((gi (h:=h.new (.iter (some d) c [] c)) _ (RC _) (by omega)).trans (eE _ hl))
  exact H.Bm (p:=Nh lu S) n hc ⟨.inr ⟨ks,fT (h:=(h.new (.iter (some d) c [] c)).put h.next .gone) _ f,λk=>(D k).trans ⟨λ⟨e,G,I⟩=>by
   obtain⟨k',a,_,b⟩:=u e G;rw[I]at a;cases a;exact b,v k⟩⟩,wBV q,A⟩ λ_ e=> .inl e
end
open Un Dm
structure HT where
 tp:Nat
 ty:Nat
 fL:Nat
 fS:Nat
 fW:Nat
 fP:Nat
 fQ:Nat
structure Lf (T:HT):Prop where
 agg:Mp T.ty=some false
 mL:methodOf T.tp "Len" = some (T.fL,some T.ty)
 mS:methodOf T.tp "Less" = some (T.fS,some T.ty)
 mW:methodOf T.tp "Swap" = some (T.fW,some T.ty)
 mP:methodOf T.tp "Push" = some (T.fP,none)
 mQ:methodOf T.tp "Pop" = some (T.fQ,none)
 kL:∀{a:V} {h:Hp} {Q:fo},(oP (fD a) λx=>Q x h)->cP CS T.fL [a] h Q
 kS:∀{a d m:V} {h:Hp} {Q:fo},(oP (gP 1 a d) λn=>oP (eC n h) λe=>oP (gP 1 a m) λf=>oP (eC f h) λg=>oP (ef .lss 3 e g) λi=>Q i h)->cP CS T.fS [a,d,m] h Q
 kW:∀{a d m:V} {h:Hp} {Q:fo},(oP (gP 1 a m) λb=>oP (eC b h) λf=>oP (gP 1 a d) λr=>oP (eC r h) λs=>oP (gP 1 a d) λj=>fg (gL 1 j f h) λ_ c=>
  (h.next<=c.next/\oP (gP 1 a m) λk=>fg (gL 1 k s c) λ_ o=>(c.next<=o.next/\Q (.tuple []) o)))->cP CS T.fW [a,d,m] h Q
 kP:∀{a d:V} {h:Hp} {Q:fo},(oP (gq a) λp=>oP (eC p h) λq=>oP (Ek 3 (V.I 0) d) λn=>vj (iK 3 1 1 (V.I 0) [(0,n)]) h λt e c=>
  ((c.get (h.next)=some t/\O.beq t t=true)/\((eC p c=some q)/\fg (eQ 3 1 8 q e c) λl o=>(c.next<=o.next/\oP (gq a) λb=>fg (gL 1 b l o) λ_ w=>(o.next<=w.next/\Q (.tuple []) w)))))->cP CS T.fP [a,d] h Q
 kQ:∀{a:V} {h:Hp} {Q:fo},(oP (gq a) λp=>oP (eC p h) λq=>oP (fD q) λy=>oP (ef .sub 3 y (V.I 1)) λn=>oP (gq a) λl=>oP (eC l h) λb=>oP (gP 1 b n) λg=>oP (eC g h) λi=>
  oP (gq a) λj=>oP (eC j h) λk=>oP (iL 1 k none (some n) h) λu=>oP (gq a) λv=>fg (gL 1 v u h) λ_ c=>Q (.iface 3 i) c)->cP CS T.fQ [a] h Q
theorem Xv{n:Nat}(a:n<1000000):ef .quo 3 (.I ((n:Nat):Int)) (.I 2)=some (.I ((n / 2:Nat):Int)):=by
 show some (V.I (iy .i64 (Int.tdiv (n:Int) 2)))=_;have:Int.tdiv (n:Int) 2=((n / 2:Nat):Int):=by rw[Int.tdiv_eq_ediv_of_nonneg (by omega)];rfl
 rw[this,gS (by simp only[Cf];omega)]
theorem VX{R:Option R}{h:Hp}{K:fo}(H:gO CS R h K):∃f a,oB R zS=some (f,a)/\cP CS f a h K:=by
 unfold gO oP at H
 cases e:oB R zS with
 |none=>rw[e]at H;exact H.elim
 |some y=>rw[e]at H;exact⟨y.1,y.2,rfl,H⟩
structure HV (o:Nat) (vf:V->List V):Prop where
 get:∀w,(vf w)[o]? =some w
 set:∀w w',(vf w).set o w' = vf w'
theorem HV.lt{o:Nat}{vf:V->List V}(v:HV o vf)(w:V):o<(vf w).length:=(kE.1 (v.get w)).1
section
variable{T:HT}(k:Lf T){F F':Nat->Prop}{h h':Hp}{cs:List Pc}{Q K:fo}{l o tc:Nat}{vf:V->List V}(hv:HV o vf){w:V}{xs:List Int}
abbrev NP(F:Nat->Prop)(h:Hp)(l tc:Nat)(vf:V->List V)(xs:List Int)(w:V)(cs:List Pc):Prop:=ej F h (fE eZ fw xs w::ft l tc (vf w)::cs)
theorem HT.zeW{a:String}{f:Nat}{args:List V}(b:methodOf T.tp a=some (f,none))(H:cP CS f (.ptr l o::args) h K):gO CS (jG a (.iface T.tp (.ptr l o)) args h) h K:=by
 have e:jG a (.iface T.tp (.ptr l o)) args h=some (.call f (.ptr l o::args)):=by
  unfold jG;simp only[b]
 rw[e,BT];exact H
include k
theorem Lf.inv{a:String}{f:Nat}{args:List V}(b:methodOf T.tp a=some (f,some T.ty))(hl:eC (.ptr l o) h=some w)(H:cP CS f (w::args) h K):gO CS (jG a (.iface T.tp (.ptr l o)) args h) h K:=by
 have e:jG a (.iface T.tp (.ptr l o)) args h=some (.call f (w::args)):=by
  unfold jG;have:(Ij T.ty ⟨λ_ _=>some (.ptr l o)⟩).f (.tree .leaf []) h=some w:=by
   rw[<-hl];unfold Ij;rw[k.agg];rfl
  simp only[b,this,eD]
 rw[e,BT];exact H
include hv
theorem Lf.len(H:NP F h l tc vf xs w cs) (a:K (.I xs.length) h):gO CS (jG "Len" (.iface T.tp (.ptr l o)) [] h) h K:=
 k.inv k.mL (H.ld 1 rfl (hv.get w)) (k.kL (ec (H.len 0 rfl) a))
theorem Lf.less(H:NP F h l tc vf xs w cs){i j:Nat}{x y:Int}(hi:xs[i]? =some x)(a:xs[j]? =some y)(b:K (.bool (decide (x<y))) h) :
  gO CS (jG "Less" (.iface T.tp (.ptr l o)) [.I i,.I j] h) h K:=by
 refine k.inv k.mS (H.ld 1 rfl (hv.get w)) (k.kS ?_);obtain⟨l1,e,p1,p2⟩:=H.AI 0 rfl hi .i64;obtain⟨l2,o2,c,d⟩:=H.AI 0 rfl a .i64;exact ec p1 (ec p2 (ec c (ec d (ec (jC _ _ _ _) b))))
def swp(xs:List Int)(i j:Nat)(x y:Int):List Int:=(xs.set i y).set j x
theorem Lf.swap(H:NP F h l tc vf xs w cs){i j:Nat}{x y:Int}(hi:xs[i]? =some x)(a:xs[j]? =some y)(c:∀h',Sn F h F h'->NP F h' l tc vf (swp xs i j x y) w cs->K (.tuple []) h') :
  gO CS (jG "Swap" (.iface T.tp (.ptr l o)) [.I i,.I j] h) h K:=by
 refine k.inv k.mW (H.ld 1 rfl (hv.get w)) (k.kW ?_);obtain⟨l1,s,p1,p2⟩:=H.AI 0 rfl hi .i64;obtain⟨l2,o2,d,e⟩:=H.AI 0 rfl a .i64;have f:=(kE.1 hi).1;have g:=(kE.1 a).1;obtain⟨l3,t,v,r1,r2,r3,b,s1⟩:=H.L9 0 rfl (k:=i) f rfl (y:=y) (u:= .I y) rfl rfl;simp only[AD]at b;obtain⟨l4,z,m,n,p,t3,q,r⟩:=b.L9 0 rfl (k:=j) (by simpa using g) rfl (y:=x) (u:= .I x) rfl rfl;refine ec d (ec e (ec p1 (ec p2 (ec r1 ?_))));rw[r2,eh];refine⟨r3,ec n ?_⟩;rw[p,eh];exact⟨t3,c m (s1.trans r) q⟩
theorem Lf.zeE(H:NP F h l tc vf xs w cs)(hl:xs.length<100000){x:Int}(g:∀h' w',Sn F h F h'->NP F h' l tc vf (xs++[x]) w' cs->K (.tuple []) h') :
  gO CS (jG "Push" (.iface T.tp (.ptr l o)) [.iface fw (.I x)] h) h K:=by
 refine HT.zeW k.mP (k.kP ?_);refine ec (fi _ _) (ec (H.ld 1 rfl (hv.get w)) (ec (show Ek 3 (V.I 0) (.iface fw (.I x))=some (.I x) from rfl) ?_));obtain⟨c,i,e1,e2,d,s1⟩:=H.wi 0 rfl (lE:=8) (IZ:=3) (y:=x) (w:=[.I x]) (ro:=false) rfl (by decide) (by decide) (by omega);rw[V1 rfl rfl];refine⟨⟨eJ _ _,by simp[O.beq,V.Mt,V.beq]⟩,?_⟩;have j:eC (.ptr l o) (h.new (.cells 3 1 true false [.I x]))=some w:=by
  obtain⟨a,b,_⟩:=H.ok 1 _ rfl;exact j5 ((eE _ b).trans a) (hv.get w)
 refine⟨j,?_⟩;have e:eQ 3 1 8 w (.slice h.next 0 1) (h.new (.cells 3 1 true false [.I x]))=some (.val c i):=e1;rw[e,eh];simp only[AD]at d;obtain⟨m,n,p,f,q⟩:=d.st 1 rfl (o:=o) (hv.lt w) (u:=c) (d.one 0 rfl);rw[hv.set]at f;refine⟨e2,ec (fi _ _) ?_⟩;rw[n,eh];exact⟨p,g m c (s1.trans q) f⟩
theorem Lf.zgH{x:Int}(H:NP F h l tc vf (xs++[x]) w cs)(hl:xs.length<100000)(f:∀h' w',Sn F h F h'->NP F h' l tc vf xs w' cs->K (.iface fw (.I x)) h') :
  gO CS (jG "Pop" (.iface T.tp (.ptr l o)) [] h) h K:=by
 refine HT.zeW k.mQ (k.kQ ?_);obtain⟨l1,p,p1,p2⟩:=H.AI 0 rfl (k:=xs.length) (x:=x) (by simp) .i64;have b:ef .sub 3 (.I ((xs++[x]).length:Nat)) (.I 1)=some (.I xs.length):=by
  rw[iu,gS (by simp only[Cf,oQ,Qv];omega)];simp
 have a:=H.ld 1 rfl (hv.get w);obtain⟨d,g,c⟩:=H.zdK 0 rfl (n:=xs.length) (by simp);simp only[AD,List.take_left]at c;refine ec (fi _ _) (ec a (ec (H.len 0 rfl) (ec b (ec (fi _ _) (ec a (ec p1 (ec p2 (ec (fi _ _) (ec a (ec g (ec (fi _ _) ?_)))))))))));obtain⟨i,j,q,e,m⟩:=c.st 1 rfl (o:=o) (hv.lt w) (u:=d) (c.one 0 rfl);rw[hv.set]at e;rw[j,eh];exact f i d m e
omit k hv
theorem Ny{xs:List Int}{i j:Nat}{x y:Int}(hi:xs[i]? =some x)(a:xs[j]? =some y):(swp xs i j x y).Perm xs:=by
 obtain⟨b,rfl⟩:=kE.1 hi;obtain⟨c,rfl⟩:=kE.1 a;unfold swp;exact List.set_set_perm b c
include k hv
theorem Lf.up{x:Int}(H:NP F h l tc vf (xs++[x]) w cs)(hl:xs.length<100000)(r:∀h' ys,Sn F h F h'->ys.Perm (xs++[x])->((∀y∈xs,y<=x)->ys=xs++[x])->NP F h' l tc vf ys w cs->K (.tuple []) h') :
  cP CS om [.iface T.tp (.ptr l o),.I xs.length] h K:=by
 refine Hm rfl rfl ?_;unfold yC
 refine CX (λk d h'=>∃(i:Nat) (ys:List Int),d=[.iface T.tp (.ptr l o),.I i]/\i=k/\i<=xs.length/\Sn F h F h'/\ys.Perm (xs++[x])/\((∀y∈xs,y<=x)->ys=xs++[x]/\i=xs.length)/\NP F h' l tc vf ys w cs) ?_ (k:=xs.length)
  ⟨xs.length,xs++[x],rfl,rfl,jv _,.refl _ _,.refl _,λ_=>⟨rfl,rfl⟩,H⟩
 rintro n _ _ b ⟨i,ys,⟨⟩,rfl,hi,s1,g,hq,j⟩;have s:ys.length=xs.length+1:=by rw[g.length_eq];simp
 have fin:K (.tuple []) b:=r b ys s1 g (λh=>(hq h).1) j;unfold uF;rw[iu,fY,gS (by simp only[Cf];omega)]
 cases i with
 | zero=>
   refine ec (show ef .quo 3 _ _=some (.I 0) from rfl) (ec (show ef .eql 3 _ _=some (.bool true) from rfl) ?_)
   exact vr (vr (vr fin))
 | succ n=>
   have e:((n+1:Nat):Int)-1=(n:Nat):=by omega
   rw[e];refine ec (Xv (by omega)) (fH ?_);rw[V7 (by omega)];refine gZ (ec rfl (gZ (ec rfl (gZ (ec rfl ?_)))));have m:ys[n / 2]? =some ys[n / 2]:=iz (by omega);have p:ys[n+1]? =some ys[n+1]:=iz (by omega)
   obtain ⟨f,a,e1,e2⟩:=VX (k.less hv j p m (K:=λt b=>oP (mm (.bool false) (qH .not t)) λq=>bP q (K (.tuple []) b) (gO CS (jG "Swap" (.iface T.tp (.ptr l o)) [.I ((n / 2:Nat):Int),.I ((n+1:Nat):Int)] b) b λ_ u=>
     KJ (λk d h'=>∃(i:Nat) (ys:List Int),d=[.iface T.tp (.ptr l o),.I (i:Nat)]/\i=k/\i<=xs.length/\Sn F h F h'/\ys.Perm (xs++[x])/\((∀y∈xs,y<=x)->ys=xs++[x]/\i=xs.length)/\NP F h' l tc vf ys w cs) (n+1) [.iface T.tp (.ptr l o),.I ((n / 2:Nat):Int)] u)) (by
     by_cases hc:ys[n+1]<ys[n / 2]
     ·rw[XJ hc]
      refine ec (show mm (.bool false) (qH .not (.bool true))=some (.bool false) from rfl) (gh (gD (by simp) (k.swap hv j m p λE v z=>⟨n / 2,by omega,n / 2,_,rfl,rfl,by omega,s1.trans v,(Ny m p).trans g,λhs=>?_,z⟩)));obtain⟨A,B⟩:=hq hs;subst A;have c:n / 2<xs.length:=by omega
      have C:(xs++[x])[n+1]=x:=by simp only[B,List.getElem_concat_length]
      have D:(xs++[x])[n / 2]=xs[n / 2]:=List.getElem_append_left c;rw[C,D]at hc;have:=hs _ (Dg c);omega
     ·rw[V7 hc]
      exact ec (show mm (.bool false) (qH .not (.bool false))=some (.bool true) from rfl) (gh (gN rfl fin))))
   rw[e1];exact vh e2
theorem Lf.push{x:Int}(H:NP F h l tc vf xs w cs)(hl:xs.length<90000)(b:∀h' ys w',Sn F h F h'->ys.Perm (xs++[x])->((∀y∈xs,y<=x)->ys=xs++[x])->NP F h' l tc vf ys w' cs->K (.tuple []) h') :
  cP CS iT [.iface T.tp (.ptr l o),.iface fw (.I x)] h K:=by
 refine EN rfl rfl ?_;unfold vX;refine k.zeE hv H (by omega) λg w1 s1 a=>?_;refine k.len hv a ?_;rw[iu,fY,gS (by simp only[Cf,oQ,Qv];omega)];rw[show(((xs++[x]).length:Nat):Int)-1=(xs.length:Nat) by simp];exact k.up hv a (by omega) λc ys d e hq f=>b c ys w1 (s1.trans d) e hq f
theorem Lf.down(H:NP F h l tc vf xs w cs){n:Nat}(L:n<=xs.length)(hl:xs.length<100000)(C:∀h' c b,Sn F h F h'->c.Perm xs->(∀k,n<=k->c[k]? =xs[k]?)->NP F h' l tc vf c w cs->K (.bool b) h') :
  cP CS mE [.iface T.tp (.ptr l o),.I 0,.I n] h K:=by
 refine EL rfl rfl ?_;unfold wb;obtain⟨I,s⟩:∃I:Nat->LP,I=λk D h'=>∃(i:Nat) (ys:List Int),D=[.iface T.tp (.ptr l o),.I 0,.I n,.I i]/\i+k=n+1/\Sn F h F h'/\ys.Perm xs/\(∀k,n<=k->ys[k]? =xs[k]?)/\NP F h' l tc vf ys w cs:=⟨_,rfl⟩
 refine Bu I ?_ (k:=n+1) (by rw[s];exact⟨0,xs,rfl,by omega,.refl _ _,.refl _,λ_ _=>rfl,H⟩);intro t _ _ _ _ d e;rw[s]at e;obtain⟨i,ys,⟨⟩,M,s1,u,g,r⟩:=e;have E:=u.length_eq;unfold rV;have e2:ef .mul 3 (.I 2) (.I i)=some (.I ((2*i:Nat):Int)):=by
  rw[Gb,gS (by simp only[Cf];omega)];rfl
 have fin:kM CS K [.I 0,.I i] d:=by
  refine Bp ?_;unfold sk;exact ec (iG _ _ _ _) (C d ys _ s1 u g r)
 refine ec e2 (ju (n:=2*i) (m:=1) (by omega) (by omega) (ec (jc _ _ _ _) ?_));have v:mm (.bool (decide (((n:Nat):Int)<=((2*i+1:Nat):Int)))) (oB (some (V.I ((2*i+1:Nat):Int))) λx=>ef .lss 3 x (V.I 0))=some (.bool (decide (n<=2*i+1))):=by
  simp only[eD,jC,iC];rw[V7 (p:=((2*i+1:Nat):Int)<0) (by omega),Bool.or_false,show decide (((n:Nat):Int)<=((2*i+1:Nat):Int))=decide (n<=2*i+1) from decide_eq_decide.2 (by omega)]
 refine ec v (gh ?_);by_cases hb:n<=2*i+1
 ·exact gN (by simpa using hb) fin
 refine gD (by simpa using hb) ?_;have next:∀j:Nat,i<j->j<n->iR CS K (KJ I t) [.iface T.tp (.ptr l o),.I 0,.I n,.I i,.I (j:Nat)] d:=λj N O=>by
  refine Br ?_;unfold se;have z:ys[j]? =some ys[j]:=iz (by omega);have A:ys[i]? =some ys[i]:=iz (by omega);refine k.less hv r z A ?_;refine po ?_;split
  ·refine k.swap hv r A z λP G J=>⟨n+1-j,by omega,?_⟩
   rw[s];refine⟨j,_,rfl,by omega,s1.trans G,(Ny A z).trans u,λq hq=>?_,J⟩;unfold swp;rw[QI (by omega),QI (by omega)];exact g q hq
  ·exact fin
 refine ju (n:=2*i+1) (m:=1) (by omega) (by omega) (ec (jC _ _ _ _) ?_);by_cases hc:2*i+1+1<n
 ·rw [XJ (by omega)];refine jH (ec rfl (jH (ec rfl (jH (ec rfl ?_)))))
  obtain ⟨f,a,e1,e2⟩:=VX (k.less hv r (i:=2*i+1+1) (j:=2*i+1) (iz (by omega)) (iz (by omega)) (K:=λy d=>oP (tA (.bool true) y (.bool false)) λB=>bP B
   (iR CS K (KJ I t) [.iface T.tp (.ptr l o),.I 0,.I n,.I i,.I ((2*i+1+1:Nat):Int)] d) (iR CS K (KJ I t) [.iface T.tp (.ptr l o),.I 0,.I n,.I i,.I ((2*i+1:Nat):Int)] d)) (by
   refine ec (UH _ _ _) ?_;rw[if_pos rfl];refine gh ?_;split
   ·exact next _ (by omega) hc
   ·exact next _ (by omega) (by omega)))
  rw[e1];exact NQ e2
 ·rw[V7 (by omega)];refine qx (qx (qx ?_));exact next _ (by omega) (by omega)
theorem Lf.pop{x:Int}(H:NP F h l tc vf (x::xs) w cs)(hl:xs.length<90000)(p:∀h' ys w',Sn F h F h'->ys.Perm xs->NP F h' l tc vf ys w' cs->K (.iface fw (.I x)) h'):cP CS lg [.iface T.tp (.ptr l o)] h K:=by
 refine GH rfl rfl ?_;unfold wO;refine k.len hv H ?_;rw[iu,fY,gS (by simp only[Cf,Jo];omega)];rw[show(((x::xs).length:Nat):Int)-1=(xs.length:Nat) by simp];obtain⟨y,gl⟩:∃y,(x::xs)[xs.length]? =some y:=⟨_,iz (by simp)⟩
 have f:=Ny (xs:=x::xs) (i:=0) (x:=x) rfl gl;refine k.swap hv (i:=0) H rfl gl λm s1 q=>?_;refine k.down hv q (n:=xs.length) (by simp[swp]) (by simp[swp];omega) λC a b r d g s=>?_;have e:a.length=xs.length+1:=by rw[d.length_eq];simp[swp]
 obtain ⟨c,z,rfl⟩:∃c z,a=c++[z]:=by
  rcases iQ a with h|h
  ·subst h;cases e
  ·exact h
 have t:c.length=xs.length:=by simpa using e
 have:z=x:=by
  have:=g xs.length (jv _);rw[show(c++[z])[xs.length]? =some z by rw[<-t];simp]at this;unfold swp at this;rw[OY (by simp)]at this;exact Option.some.inj this
 subst this;have j:c.Perm xs:=by
  have m:=d.trans f;exact List.Perm.cons_inv ((List.perm_append_singleton z c).symm.trans m)
 exact k.zgH hv s (by omega) λu v A B=>p u c v ((s1.trans r).trans A) j B
end
open Un Dm
def pO:List (Int×Int)->Int->Option Int
 |[],_=>none
 |x::m,k=>if x.1=k then some x.2 else pO m k
def IQ:List (Int×Int)->Int->Int->List (Int×Int)
 |[],k,v=>[(k,v)]
 |x::m,k,v=>if x.1=k then(k,v)::m else x::IQ m k v
def Qt:List (Int×Int)->Int->List (Int×Int)
 |[],_=>[]
 |x::m,k=>if x.1=k then m else x::Qt m k
inductive Mm:List (V×V×Nat)->List (Int×Int)->Prop
 |nil:Mm [] []
 |cons {k v:Int} {n:Nat} {es:List (V×V×Nat)} {m:List (Int×Int)} (h:Mm es m):Mm ((.I k,.I v,n)::es) ((k,v)::m)
theorem Mm.snoc{k v:Int}{n:Nat}:∀{es:List (V×V×Nat)}{m:List (Int×Int)},Mm es m->pO m k=none->Mm (es++[(.I k,.I v,n)]) (IQ m k v)
 |_,_,.nil,_=> .cons .nil
 | _,_,.cons (k:=a) h,hk=>by
   unfold pO at hk;split at hk
   ·cases hk
   ·rename_i e
    unfold IQ;rw[if_neg e];exact .cons (h.snoc hk)
theorem Mm.find{k:Int}:∀{es:List (V×V×Nat)}{m:List (Int×Int)}(i:Nat),Mm es m->
  (nI fw none (.I k) es i=some none/\pO m k=none)\/
  ∃j v e,nI fw none (.I k) es i=some (some (i+j,.I v))/\es[j]? =some e/\e.1 = .I k/\pO m k=some v/\(∀b n,Mm (es.set j (.I k,.I b,n)) (IQ m k b))/\Mm (es.eraseIdx j) (Qt m k)
 |_,_,i,.nil=> .inl ⟨rfl,rfl⟩
 | _,_,i,.cons (k:=a) (v:=v) (n:=n) (es:=es) (m:=m) h=>by
   have c:nI fw none (.I k) ((.I a,.I v,n)::es) i=if k=a then some (some (i,.I v)) else nI fw none (.I k) es (i+1):=by
     show oB (Ku fw none (.I k) (.I a)) _=_;rw[show Ku fw none (V.I k) (V.I a)=some (k == a) from N0 _ _];by_cases hk:k=a
     ·rw[if_pos hk,KC.2 hk];rfl
     ·rw[if_neg hk,wBA.2 hk];rfl
   by_cases hk:k=a
   ·subst hk
    rw[if_pos rfl]at c;refine .inr ⟨0,v,_,c,rfl,rfl,by unfold pO;rw[if_pos rfl],λb l=>?_,?_⟩
    ·unfold IQ;rw[if_pos rfl];exact .cons h
    ·unfold Qt;rw[if_pos rfl];exact h
   ·rw[if_neg hk]at c
    have d:¬a=k:=λe=>hk e.symm;rcases h.find (k:=k) (i+1)with⟨f,g⟩|⟨j,o,e,f,g,p,q,r,s⟩
    ·exact .inl ⟨c.trans f,by unfold pO;rw[if_neg d];exact g⟩
    ·refine .inr ⟨j+1,o,e,by rw[c,f];congr 3;omega,g,p,by unfold pO;rw[if_neg d];exact q,λb l=>?_,?_⟩
     ·unfold IQ;rw[if_neg d];exact .cons (r b l)
     ·unfold Qt;rw[if_neg d];exact .cons s
theorem Se(k v:Int)(x:Int):∀m,pO (IQ m k v) x=if x=k then some v else pO m x
 | []=>by
   by_cases h:x=k
   ·simp[IQ,pO,h]
   ·simp[IQ,pO,h,Ne.symm h]
 | y ::m=>by
   have a:=Se k v x m;unfold IQ;by_cases h:y.1=k
   ·rw[if_pos h]
    by_cases hx:x=k
    ·simp[pO,hx]
    ·simp[pO,hx,Ne.symm hx,h]
   ·rw[if_neg h]
    unfold pO;by_cases hy:y.1=x
    ·rw[if_pos hy,if_pos hy,if_neg λe=>h (hy.trans e)]
    ·rw[if_neg hy,if_neg hy,a]
def te(m:List (Int×Int)):List Int:=m.map (·.1)
theorem W2{m:List (Int×Int)}{k:Int}:pO m k=none↔k ∉ te m:=by
 induction m with
 |nil=>simp[pO,te]
 | cons y m a=>
   unfold pO;by_cases h:y.1=k
   ·simp[te,h]
   ·rw[if_neg h,a]
    simp[te,Ne.symm h]
theorem RZ{k v:Int}:∀{m:List (Int×Int)},(te m).Nodup->(te (IQ m k v)).Nodup/\∀x,x∈te (IQ m k v)->x∈te m\/x=k
 |[],_=>by simp[IQ,te]
 | y ::m,h=>by
   simp only[te,XY,TJ]at h;obtain⟨c,b⟩:=RZ (k:=k) (v:=v) h.2;unfold IQ;split
   ·rename_i e
    subst e;refine⟨by simp only[te,XY,TJ];exact h,λx a=>?_⟩;rcases wM.1 a with rfl|a
    ·exact .inr rfl
    ·exact .inl (Yd _ a)
   ·rename_i e
    refine⟨?_,λx a=>?_⟩
    ·simp only[te,XY,TJ]
     exact⟨λd=>(b _ d).elim h.1 e,c⟩
    ·rcases wM.1 a with rfl|a
     ·exact .inl (RN ..)
     ·exact(b x a).imp (Yd _) id
theorem zan{k:Int}:∀{m:List (Int×Int)},(te m).Nodup->(te (Qt m k)).Nodup/\(∀x,x∈te (Qt m k)->x∈te m)/\∀x,pO (Qt m k) x=if x=k then none else pO m x
 |[],_=>by simp[Qt,te,pO]
 | y ::m,h=>by
   have h0:=h;simp only[te,XY,TJ]at h;obtain⟨c,b,d⟩:=zan (k:=k) h.2;unfold Qt;split
   ·rename_i e
    subst e;refine⟨h.2,λx a=>Yd _ a,λx=>?_⟩;split
    ·rename_i e;subst e;exact W2.2 h.1
    ·rename_i e
     conv=>rhs;unfold pO
     rw[if_neg (Ne.symm e)]
   ·rename_i e
    refine⟨?_,λx a=>?_,λx=>?_⟩
    ·simp only[te,XY,TJ]
     exact⟨λf=>h.1 (b _ f),c⟩
    ·rcases wM.1 a with rfl|a
     ·exact RN ..
     ·exact Yd _ (b x a)
    ·unfold pO
     by_cases hy:y.1=x
     ·rw[if_pos hy,if_pos hy,if_neg λe'=>e (hy.trans e')]
     ·rw[if_neg hy,if_neg hy,d]
def Ms(l:Nat)(f:Int->Option Int):Pc where
 oJ:=λm=>m=l
 ok F h:=(∃es c m,h.get l=some (.map es c)/\Mm es m/\(te m).Nodup/\∀k,pO m k=f k)/\l<h.next/\¬F l
 Iu:=λh _ e=>by subst e;exact h.2
 fh:=λ⟨⟨es,c,m,b,d⟩,a⟩ _ hl g=>⟨⟨es,c,m,(hl l rfl).trans b,d⟩,Dy a.1 g,a.2⟩
 mono:=λh _ hl=>⟨h.1,h.2.1,hl l rfl⟩
def Cz(f:Int->Option Int)(k:Int)(v:Option Int):Int->Option Int:=λx=>if x=k then v else f x
section
variable{F F':Nat->Prop}{h h':Hp}{cs:List Pc}{l:Nat}{f:Int->Option Int}
theorem ej.zeS(H:ej F h cs):ej F (h.new (.map [] 0)) (Ms h.next (λ_=>none)::cs)/\Sn F h F (h.new (.map [] 0)):=
 H.new (p:=Ms h.next λ_=>none) _ ⟨⟨[],0,[],eJ _ _,.nil,.nil,λ_=>rfl⟩,RC _,H.fresh⟩ λ_ e=>e
theorem ej.Mb(H:ej F h cs)(i:Nat)(hi:cs[i]? =some (Ms l f))(k:Int):p5 fw none (.I 0) false (.map l) (.I k) h=some (.I ((f k).getD 0))/\
  p5 fw none (.I 0) true (.map l) (.I k) h=some (.tuple [.I ((f k).getD 0),.bool (f k).isSome]):=by
 obtain ⟨⟨es,c,m,g,n,_,d⟩,_⟩:=H.ok i _ hi;have e1:∀ok r,nI fw none (.I k) es 0=some r->p5 fw none (.I 0) ok (.map l) (.I k) h=some (found (.I 0) ok r):=λok r o=>by
  unfold p5 yq;simp only[g,eD];rw[o];rfl
 rcases n.find (k:=k) 0 with⟨a,b⟩|⟨j,v,e,a,_,_,b,_⟩
 ·rw[e1 _ _ a,e1 _ _ a,<-d,b];exact⟨rfl,rfl⟩
 ·rw[e1 _ _ a,e1 _ _ a,<-d,b];exact⟨rfl,rfl⟩
theorem ej.zeg(H:ej F h cs)(i:Nat)(hi:cs[i]? =some (Ms l f))(k v:Int):∃h',xh fw none (.map l) (.I k) (.I v) h=some (.val .undef h')/\h.next<=h'.next/\ej F h' (cs.set i (Ms l (Cz f k (some v))))/\Sn F h F h':=by
 obtain⟨⟨es,c,m,n,g,h0,o⟩,a,q⟩:=H.ok i _ hi
 have fin:∀iP c',zM fw none es c (.I k) (.I v)=some (.map iP c')->Mm iP (IQ m k v)->
   ∃h',xh fw none (.map l) (.I k) (.I v) h=some (.val .undef h')/\h.next<=h'.next/\ej F h' (cs.set i (Ms l (Cz f k (some v))))/\Sn F h F h':=by
  intro iP c' r s;refine⟨h.put l (.map iP c'),?_,jv _,H.Bm (p:=Ms l (Cz f k (some v))) hi (lU.put _ rfl a) ⟨⟨iP,c',_,fT _ a,s,(RZ h0).1,λx=>?_⟩,a,q⟩ λ_ h=> .inl h⟩
  ·unfold xh yq;simp only[n,eD,r];rfl
  ·rw[Se];unfold Cz;rw[o]
 rcases g.find (k:=k) 0 with⟨b,d⟩|⟨j,w,e,b,d,t,y,u,_⟩
 ·exact fin (es++[(.I k,.I v,c)]) (c+1) (by unfold zM;rw[b];rfl) (g.snoc d)
 ·refine fin (es.set j (.I k,.I v,e.2.2)) c ?_ (u v _);unfold zM;rw[b];simp only[eD,HP,d,t,V.BW];rfl
theorem ej.zfd(H:ej F h cs)(i:Nat)(hi:cs[i]? =some (Ms l f))(k:Int):∃h',Bf fw none (.map l) (.I k) h=some (.val (.tuple []) h')/\h.next<=h'.next/\ej F h' (cs.set i (Ms l (Cz f k none)))/\Sn F h F h':=by
 obtain⟨⟨es,c,m,b,g,h0,n⟩,a,o⟩:=H.ok i _ hi;rcases g.find (k:=k) 0 with⟨d,q⟩|⟨j,s,e,d,q,t,u,_,r⟩
 ·refine ⟨h,?_,jv _,H.swap hi ⟨⟨es,c,m,b,g,h0,λx=>?_⟩,a,o⟩ λ_ h=>h,.refl _ _⟩
  ·unfold Bf yd;simp only[b,eD,d];rfl
  ·unfold Cz;split
   ·rename_i e;rw[e];exact q
   ·exact n x
 ·obtain⟨d1,_,d3⟩:=zan (k:=k) h0;refine⟨h.put l (.map (es.eraseIdx j) c),?_,jv _,H.Bm (p:=Ms l (Cz f k none)) hi (lU.put _ rfl a) ⟨⟨_,c,_,fT _ a,r,d1,λx=>?_⟩,a,o⟩ λ_ h=> .inl h⟩
  ·unfold Bf yd;simp only[b,eD,d,HP];rfl
  ·rw[d3];unfold Cz;rw[n]
end
