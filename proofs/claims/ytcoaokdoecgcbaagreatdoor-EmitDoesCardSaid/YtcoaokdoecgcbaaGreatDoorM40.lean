/- Parts. -/
import Derived.Test.YtcoaokdoecgcbaaGreatDoorM30
import Derived.Test.YtcoaokdoecgcbaaGreatDoorM34
set_option maxHeartbeats 4000000
namespace Go.Proofs.YtcoaokdoecgcbaaGreatDoor.Hx
open Un Dm
def UB(l:Nat)(S:Int->Prop):Pc where
 pS:=λm=>m=l
 ok F h:=((∃es c,h.get l=some (.map es c)/\(∀e∈es,∃k,e.1 = .I k/\e.2.1 = .bool true/\S k)/\∀k,S k->∃e∈es,e.1 = .I k)\/∃ks,h.get l=some (.Rt .i64 ks)/\∀k,k∈ks↔S k)/\l<h.next/\¬F l
 FK:=λh _ e=>by subst e;exact h.2
 fy:=λ⟨a,d⟩ _ hl f=>⟨a.imp (λ⟨es,c,a,b⟩=>⟨es,c,(hl l rfl).trans a,b⟩) λ⟨ks,a,b⟩=>⟨ks,(hl l rfl).trans a,b⟩,NY d.1 f,d.2⟩
 mono:=λh _ hl=>⟨h.1,h.2.1,hl l rfl⟩
section
variable{F F':Nat->Prop}{h h':Hp}{cs:List Pc}{l:Nat}{S:Int->Prop}
theorem ej.Rt(H:ej F h cs)(i:Nat)(hi:cs[i]? =some (wH l S)):ej F h (cs.set i (UB l S)):=
 H.swap hi (let⟨a,b⟩:=H.ok i _ hi;⟨.inl a,b⟩) λ_ h=>h
theorem QD:Ht fN=true:=by
 kernel_rfl
theorem ej.zfj(H:ej F h cs)(i:Nat)(hi:cs[i]? =some (UB l S))(k:Int):∃b,rH fN none (.bool false) false (.map l) (.I k) h=some (.bool b)/\(b=true↔S k):=by
 obtain⟨h0|⟨ks,a,c⟩,d,e⟩:=H.ok i _ hi
 ·have f:ej F h (cs.set i (wH l S)):=H.swap hi ⟨h0,d,e⟩ λ_ h=>h;exact f.look i (Tt (ke.1 hi).1) k
 ·refine⟨IE ks k,?_,KN.trans (c k)⟩;unfold rH zU;simp[a,eQ];unfold Pk;simp[QD];cases IE ks k <;> rfl
theorem ej.zhR(H:ej F h cs)(i:Nat)(hi:cs[i]? =some (UB l S))(k:Int):∃h',xN fN none (.map l) (.I k) (.bool true) h=some (.val .undef h')/\h.next<=h'.next/\ej F h' (cs.set i (UB l λx=>S x\/x=k))/\Sn F h F h':=by
 obtain⟨h0|⟨ks,d,e⟩,a,b⟩:=H.ok i _ hi
 ·have hl:=(ke.1 hi).1;have f:ej F h (cs.set i (wH l S)):=H.swap hi ⟨h0,a,b⟩ λ_ h=>h
  let⟨h',e1,e2,c,g⟩:=f.il i (Tt hl) k
  rw[List.set_set]at c;refine⟨h',e1,e2,?_,g⟩;have:=c.Rt i (Tt hl)
  rwa [List.set_set]at this
 ·refine⟨h.put l (.Rt .i64 (k::ks)),?_,jJ _,H.z8 hi (uE.put _ rfl a) ⟨.inr ⟨k::ks,iB _ a,λx=>?_⟩,a,b⟩ λ_ h=> .inl h⟩
  ·unfold xN zU;simp[d,eQ];unfold WX;simp[QD];rfl
  ·rw[Aw,e x];exact or_comm
theorem Vi{S:Int->Prop}:∀{es:List (V×V×Nat)},(∀e∈es,∃k,e.1 = .I k/\e.2.1 = .bool true/\S k)->∃ks,Oe .i64 es=some ks/\∀k,k∈ks↔∃e∈es,e.1 = .I k
 |[],_=>⟨[],rfl,by simp⟩
 | ⟨a,b,n⟩::es,hh=>by
   let⟨k,f,g,_⟩:=hh _ (Wh ..)
   let⟨ks,h,i⟩:=Vi λe c=>hh e (wBA _ c)
   subst f g;refine⟨k::ks,by simp[Oe,zfv,h];rfl,λx=>?_⟩;rw[Aw,i x];constructor
   ·rintro(rfl|⟨e,c,d⟩)
    ·exact⟨_,Wh ..,rfl⟩
    ·exact⟨e,wBA _ c,d⟩
   ·rintro⟨e,c,d⟩
    rcases Aw.1 c with rfl|c
    ·cases d;exact .inl rfl
    ·exact .inr ⟨e,c,d⟩
theorem ej.fill(H:ej F h cs)(i j:Nat){lm lu:Nat}(hi:cs[i]? =some (wH lm S))(g:cs[j]? =some (wH lu λ_=>False))(n:i≠j) :
  ∃q f,ND (.map lm) h=some (.val (.ptr h.next 0) q)/\QX .i64 (.ptr h.next 0) (.map lu) q=some f/\h.next<=f.next/\ej F f (cs.set j (UB lu S))/\Sn F h F f:=by
 let⟨⟨es,c,r,s,t⟩,u,D⟩:=H.ok i _ hi
 let⟨⟨us,cu,v,w,E⟩,o,x⟩:=H.ok j _ g
 have p:us=[]:=by
  cases us with
  |nil=>rfl
  |cons e us=>let⟨_,_,_,hh⟩:=w e (Wh ..);exact hh.elim
 subst p;have nw:lu≠lm:=λe=>H.Hj i j _ _ hi g n lm rfl e.symm
 let⟨ks,y,z⟩:=Vi s
 have gn:=fh h (.iter (some lm) c [] c);have gm:(h.new (.iter (some lm) c [] c)).get lm=some (.map es c):=(fi _ u).trans r;have gu:(h.new (.iter (some lm) c [] c)).get lu=some (.map [] cu):=(fi _ o).trans v;have d:=wBj o;refine⟨h.new (.iter (some lm) c [] c),((h.new (.iter (some lm) c [] c)).put h.next .gone).put lu (.Rt .i64 ks),?_,?_,K5 _,?_⟩
 ·unfold ND BA;simp[r,eQ]
 ·unfold QX;simp[ wBh,gn,BA,gm,gu,y];rw[show Nat.beq lu lm=false from wB0.2 λe=>nw (DG e)];rfl
 ·have hc:uE (λm=>m=lu) h (((h.new (.iter (some lm) c [] c)).put h.next .gone).put lu (.Rt .i64 ks)):=by
   refine⟨K5 _,λl hl A=>?_⟩;exact(lE _ d λe=>A e.symm).trans ((lE _ (TU _) (by omega)).trans (fi _ hl))
  exact H.z8 g hc ⟨.inr ⟨ks,iB _ d,λk=>(z k).trans ⟨λ⟨e,B,C⟩=>by
   let⟨k',a,_,b⟩:=s e B
   rw[C]at a;cases a;exact b,t k⟩⟩,wBj o,x⟩ λ_ e=> .inl e
structure HT where
 tp:Nat
 ty:Nat
 fL:Nat
 fS:Nat
 fW:Nat
 fP:Nat
 fQ:Nat
structure NU (T:HT):Prop where
 agg:UR T.ty=some false
 mL:methodOf T.tp "Len" = some (T.fL,some T.ty)
 mS:methodOf T.tp "Less" = some (T.fS,some T.ty)
 mW:methodOf T.tp "Swap" = some (T.fW,some T.ty)
 mP:methodOf T.tp "Push" = some (T.fP,none)
 mQ:methodOf T.tp "Pop" = some (T.fQ,none)
 kL:∀{a:V} {h:Hp} {Q:fj},(oP (fE a) λx=>Q x h)->cP CS T.fL [a] h Q
 kS:∀{a d m:V} {h:Hp} {Q:fj},(oP (gM 1 a d) λn=>oP (ez n h) λe=>oP (gM 1 a m) λf=>oP (ez f h) λg=>oP (ef .lss 3 e g) λi=>Q i h)->cP CS T.fS [a,d,m] h Q
 kW:∀{a d m:V} {h:Hp} {Q:fj},(oP (gM 1 a m) λb=>oP (ez b h) λf=>oP (gM 1 a d) λr=>oP (ez r h) λs=>oP (gM 1 a d) λj=>eJ (gj 1 j f h) λ_ c=>
  (h.next<=c.next/\oP (gM 1 a m) λk=>eJ (gj 1 k s c) λ_ o=>(c.next<=o.next/\Q (.tuple []) o)))->cP CS T.fW [a,d,m] h Q
 kP:∀{a d:V} {h:Hp} {Q:fj},(oP (fR a) λp=>oP (ez p h) λq=>oP (LZ 3 (V.I 0) d) λn=>uj (iO 3 1 1 (V.I 0) [(0,n)]) h λt e c=>
  ((c.get (h.next)=some t/\O.beq t t=true)/\((ez p c=some q)/\eJ (fg 3 1 8 q e c) λl o=>(c.next<=o.next/\oP (fR a) λb=>eJ (gj 1 b l o) λ_ w=>(o.next<=w.next/\Q (.tuple []) w)))))->cP CS T.fP [a,d] h Q
 kQ:∀{a:V} {h:Hp} {Q:fj},(oP (fR a) λp=>oP (ez p h) λq=>oP (fE q) λy=>oP (ef .sub 3 y (V.I 1)) λn=>oP (fR a) λl=>oP (ez l h) λb=>oP (gM 1 b n) λg=>oP (ez g h) λi=>
  oP (fR a) λj=>oP (ez j h) λk=>oP (jw 1 k none (some n) h) λu=>oP (fR a) λv=>eJ (gj 1 v u h) λ_ c=>Q (.iface 3 i) c)->cP CS T.fQ [a] h Q
theorem zaF{n:Nat}(a:n<1000000):ef .quo 3 (.I ((n:Nat):Int)) (.I 2)=some (.I ((n / 2:Nat):Int)):=by
 show some (V.I (jo .i64 (Int.tdiv (n:Int) 2)))=_
 grind[Int.tdiv,Int,Nat,Int.tdiv_eq_ediv_of_nonneg,gG,ml]
theorem Zf{R:Option R}{h:Hp}{K:fj}(H:gP CS R h K):∃f a,oB R Ba=some (f,a)/\cP CS f a h K:=by
 unfold gP oP at H
 cases e:oB R Ba with
 |none=>simp_all
 |some y=>rw[e]at H;grind
structure HV (o:Nat) (vf:V->List V):Prop where
 get:∀w,(vf w)[o]? =some w
 set:∀w w',(vf w).set o w' = vf w'
theorem HV.lt{o:Nat}{vf:V->List V}(v:HV o vf)(w:V):o<(vf w).length:=(ke.1 (v.get w)).1
end
section
variable{T:HT}(k:NU T){F F':Nat->Prop}{h h':Hp}{cs:List Pc}{Q K:fj}{l o tc:Nat}{vf:V->List V}(hv:HV o vf){w:V}{xs:List Int}
abbrev Rr(F:Nat->Prop)(h:Hp)(l tc:Nat)(vf:V->List V)(xs:List Int)(w:V)(cs:List Pc):Prop:=ej F h (ft eZ fN xs w::eD l tc (vf w)::cs)
theorem HT.zha{a:String}{f:Nat}{args:List V}(b:methodOf T.tp a=some (f,none))(H:cP CS f (.ptr l o::args) h K):gP CS (kh a (.iface T.tp (.ptr l o)) args h) h K:=by
 grind[kh,JK]
include k
theorem NU.inv{a:String}{f:Nat}{args:List V}(b:methodOf T.tp a=some (f,some T.ty))(hl:ez (.ptr l o) h=some w)(H:cP CS f (w::args) h K):gP CS (kh a (.iface T.tp (.ptr l o)) args h) h K:=by
 have e:kh a (.iface T.tp (.ptr l o)) args h=some (.call f (w::args)):=by
  unfold kh;have:(Kx T.ty ⟨λ_ _=>some (.ptr l o)⟩).f (.tree .leaf []) h=some w:=by
   rw[<-hl];unfold Kx;rw[k.agg];rfl
  simp[b,this]
 simp_all
include hv
theorem NU.len(H:Rr F h l tc vf xs w cs) (a:K (.I xs.length) h):gP CS (kh "Len" (.iface T.tp (.ptr l o)) [] h) h K:=
 k.inv k.mL (H.ld 1 rfl (hv.get w)) (k.kL (ec (H.len 0 rfl) a))
theorem NU.less(H:Rr F h l tc vf xs w cs){i j:Nat}{x y:Int}(hi:xs[i]? =some x)(a:xs[j]? =some y)(b:K (.bool (decide (x<y))) h) :
  gP CS (kh "Less" (.iface T.tp (.ptr l o)) [.I i,.I j] h) h K:=by
 refine k.inv k.mS (H.ld 1 rfl (hv.get w)) (k.kS ?_)
 let⟨e,f,p1,p2⟩:=H.BY 0 rfl hi .i64
 let⟨g,o2,c,d⟩:=H.BY 0 rfl a .i64
 exact ec p1 (ec p2 (ec c (ec d (ec (iF _ _ _ _) b))))
def swp(xs:List Int)(i j:Nat)(x y:Int):List Int:=(xs.set i y).set j x
theorem NU.swap(H:Rr F h l tc vf xs w cs){i j:Nat}{x y:Int}(hi:xs[i]? =some x)(a:xs[j]? =some y)(b:∀h',Sn F h F h'->Rr F h' l tc vf (swp xs i j x y) w cs->K (.tuple []) h') :
  gP CS (kh "Swap" (.iface T.tp (.ptr l o)) [.I i,.I j] h) h K:=by
 refine k.inv k.mW (H.ld 1 rfl (hv.get w)) (k.kW ?_)
 let⟨s,t,p1,p2⟩:=H.BY 0 rfl hi .i64
 let⟨v,o2,c,d⟩:=H.BY 0 rfl a .i64
 have e:=(ke.1 hi).1;have z:=(ke.1 a).1
 let⟨A,B,C,r1,r2,f,g,s1⟩:=H.M7 0 rfl e rfl (u:= .I y) rfl rfl
 let⟨D,E,m,n,p,t3,q,r⟩:=g.M7 0 rfl (k:=j) (by simp_all) rfl (u:= .I x) rfl rfl
 refine ec c (ec d (ec p1 (ec p2 (ec r1 ?_))));rw[r2,eh];refine⟨f,ec n ?_⟩;rw[p,eh];exact⟨t3,b m (s1.trans r) q⟩
theorem NU.zhf(H:Rr F h l tc vf xs w cs)(hl:xs.length<100000){x:Int}(f:∀h' w',Sn F h F h'->Rr F h' l tc vf (xs++[x]) w' cs->K (.tuple []) h') :
  gP CS (kh "Push" (.iface T.tp (.ptr l o)) [.iface fN (.I x)] h) h K:=by
 refine HT.zha k.mP (k.kP ?_);refine ec (eC _ _) (ec (H.ld 1 rfl (hv.get w)) (ec (rfl) ?_))
 let⟨v',g,e1,e2,d,s1⟩:=H.pT 0 rfl (iU:=8) (MB:=3) (w:=[.I x]) (ro:=false) rfl (by decide) (by decide) (by omega)
 rw [YD rfl rfl];refine⟨by simp_all[fh,V.O4],?_⟩;have i:ez (.ptr l o) (h.new (.cells 3 1 true false [.I x]))=some w:=by
  let⟨a,b,_⟩:=H.ok 1 _ rfl
  exact lK ((fi _ b).trans a) (hv.get w)
 refine⟨i,?_⟩;have c:fg 3 1 8 w (.slice h.next 0 1) (h.new (.cells 3 1 true false [.I x]))=some (.val v' g):=e1;rw[c,eh]
 let⟨j,m,n,e,p⟩:=d.st 1 rfl (hv.lt w) (d.one 0 rfl)
 rw[hv.set]at e;refine⟨e2,ec (eC _ _) ?_⟩;rw[m,eh];exact⟨n,f j v' (s1.trans p) e⟩
theorem NU.zhT{x:Int}(H:Rr F h l tc vf (xs++[x]) w cs)(hl:xs.length<100000)(f:∀h' w',Sn F h F h'->Rr F h' l tc vf xs w' cs->K (.iface fN (.I x)) h') :
  gP CS (kh "Pop" (.iface T.tp (.ptr l o)) [] h) h K:=by
 refine HT.zha k.mQ (k.kQ ?_)
 let⟨g,i,p1,p2⟩:=H.BY 0 rfl (k:=xs.length) (x:=x) (by simp) .i64
 have b:ef .sub 3 (.I ((xs++[x]).length:Nat)) (.I 1)=some (.I xs.length):=by
  rw[jx,gG (by grind[ml,qu,YX])];simp
 have a:=H.ld 1 rfl (hv.get w)
 let⟨v',d,c⟩:=H.zd0 0 rfl (n:=xs.length) (by simp)
 simp[ List.take_left]at c;refine ec (eC _ _) (ec a (ec (H.len 0 rfl) (ec b (ec (eC _ _) (ec a (ec p1 (ec p2 (ec (eC _ _) (ec a (ec d (ec (eC _ _) ?_)))))))))))
 let⟨j,m,p,e,q⟩:=c.st 1 rfl (hv.lt w) (c.one 0 rfl)
 rw[hv.set]at e
 grind[eh]
omit k hv
theorem Qc{xs:List Int}{i j:Nat}{x y:Int}(hi:xs[i]? =some x)(a:xs[j]? =some y):(swp xs i j x y).Perm xs:=by
 obtain⟨b,rfl⟩:=ke.1 hi;obtain⟨c,rfl⟩:=ke.1 a;exact List.set_set_perm b c
include k hv
theorem NU.up{x:Int}(H:Rr F h l tc vf (xs++[x]) w cs)(hl:xs.length<100000)(p:∀h' ys,Sn F h F h'->ys.Perm (xs++[x])->((∀y∈xs,y<=x)->ys=xs++[x])->Rr F h' l tc vf ys w cs->K (.tuple []) h') :
  cP CS ux [.iface T.tp (.ptr l o),.I xs.length] h K:=by
 refine Kl ?_
 refine Fi (λk c h'=>∃i ys,c=[.iface T.tp (.ptr l o),.I (i:Nat)]/\i=k/\i<=xs.length/\Sn F h F h'/\ys.Perm (xs++[x])/\((∀y∈xs,y<=x)->ys=xs++[x]/\i=xs.length)/\Rr F h' l tc vf ys w cs) ?_
  ⟨xs.length,xs++[x],rfl,rfl,jJ _,.refl _ _,.refl _,by simp_all,H⟩
 rintro n _ _ b ⟨i,ys,⟨⟩,rfl,hi,s1,hp,hq,d⟩;have q:ys.length=xs.length+1:=by rw[hp.length_eq];simp
 have fin:=p b ys s1 hp (λh=>(hq h).1) d;unfold xz;rw[jx,gQ,gG (by grind[ml])]
 cases i with
 | zero=>
   refine ec (rfl) (ec (rfl) ?_)
   exact tX (tX (tX fin))
 | succ n=>
   have e:((n+1:Nat):Int)-1=(n:Nat):=by omega
   rw[e];refine ec (zaF (by omega)) (fM ?_);rw[LI (by omega)];refine fY (ec rfl (fY (ec rfl (fY (ec rfl ?_)))));have g:ys[n / 2]? =some ys[n / 2]:=by simp_all
   have j:ys[n+1]? =some ys[n+1]:=by simp_all
   let ⟨f,a,e1,e2⟩:=Zf (k.less hv d j g (K:=λr b=>oP (mi (.bool false) (wI .not r)) λm=>bP m (K (.tuple []) b) (gP CS (kh "Swap" (.iface T.tp (.ptr l o)) [.I ((n / 2:Nat):Int),.I ((n+1:Nat):Int)] b) b λ_ s=>
     Pp (λk c h'=>∃i ys,c=[.iface T.tp (.ptr l o),.I (i:Nat)]/\i=k/\i<=xs.length/\Sn F h F h'/\ys.Perm (xs++[x])/\((∀y∈xs,y<=x)->ys=xs++[x]/\i=xs.length)/\Rr F h' l tc vf ys w cs) (n+1) [.iface T.tp (.ptr l o),.I ((n / 2:Nat):Int)] s)) (by
     by_cases hc:ys[n+1]<ys[n / 2]
     ·rw[Ov hc]
      refine ec (rfl) (fX (fH (by simp) (k.swap hv d g j λu s4 t=>⟨n / 2,by omega,n / 2,_,rfl,rfl,by omega,s1.trans s4,(Qc g j).trans hp,λhs=>?_,t⟩)))
      grind[List.getElem_concat_length,List.getElem_append_left,AL]
     ·rw[LI hc]
      exact ec (rfl) (fX (fO rfl fin))))
   rw[e1];exact qC e2
theorem NU.push{x:Int}(H:Rr F h l tc vf xs w cs)(hl:xs.length<90000)(b:∀h' ys w',Sn F h F h'->ys.Perm (xs++[x])->((∀y∈xs,y<=x)->ys=xs++[x])->Rr F h' l tc vf ys w' cs->K (.tuple []) h') :
  cP CS jT [.iface T.tp (.ptr l o),.iface fN (.I x)] h K:=by
 refine GW ?_;refine k.zhf hv H (by omega) λf w1 s1 a=>?_;refine k.len hv a ?_;rw[jx,gQ,gG (by grind[ml,qu,YX])];rw[show(((xs++[x]).length:Nat):Int)-1=(xs.length:Nat) by simp];exact k.up hv a (by omega) λc ys d hp hq e=>b c ys w1 (s1.trans d) hp hq e
theorem NU.down(H:Rr F h l tc vf xs w cs){n:Nat}(E:n<=xs.length)(hl:xs.length<100000)(A:∀h' c b,Sn F h F h'->c.Perm xs->(∀k,n<=k->c[k]? =xs[k]?)->Rr F h' l tc vf c w cs->K (.bool b) h') :
  cP CS qM [.iface T.tp (.ptr l o),.I 0,.I n] h K:=by
 refine G0 ?_
 let I:Nat->LP:=λk B h'=>∃i ys,B=[.iface T.tp (.ptr l o),.I 0,.I n,.I (i:Nat)]/\i+k=n+1/\Sn F h F h'/\ys.Perm xs/\(∀k,n<=k->ys[k]? =xs[k]?)/\Rr F h' l tc vf ys w cs
 refine DA I ?_ (k:=n+1) (⟨0,xs,rfl,by omega,.refl _ _,.refl _,by simp_all,H⟩);intro g _ _ _ _ d m;obtain⟨i,ys,⟨⟩,G,s1,r,s,e⟩:=m;have C:=r.length_eq;unfold uV;have e2:ef .mul 3 (.I 2) (.I i)=some (.I ((2*i:Nat):Int)):=by
  rw[Bn,gG (by grind[ml])];rfl
 have fin:lL K [.I 0,.I i] d:=by
  refine DQ ?_;unfold uG;exact ec (jr _ _ _ _) (A d ys _ s1 r s e)
 refine ec e2 (fG (ec (by rfl) ?_));have t:mi (.bool (decide (((n:Nat):Int)<=((2*i+1:Nat):Int)))) (oB (some (V.I ((2*i+1:Nat):Int))) λu=>ef .lss 3 u (V.I 0))=some (.bool (decide (n<=2*i+1))):=by
  simp only[eQ,iF,jj];rw[LI (p:=((2*i+1:Nat):Int)<0) (by omega),Bool.or_false,show decide (((n:Nat):Int)<=((2*i+1:Nat):Int))=decide (n<=2*i+1) from by grind]
 refine ec t (fX ?_);by_cases hb:n<=2*i+1
 ·exact fO (by simpa using hb) fin
 refine fH (by simp_all) ?_;have next:∀j,i<j->j<n->jm K (Pp I g) [.iface T.tp (.ptr l o),.I 0,.I n,.I i,.I (j:Nat)] d:=λj J L=>by
  refine DP ?_;unfold uU;have v:ys[j]? =some ys[j]:=by simp_all
  have x:ys[i]? =some ys[i]:=by simp_all
  refine k.less hv e v x ?_;refine py ?_;split
  ·refine k.swap hv e x v λM s4 D=>⟨n+1-j,by omega,?_⟩
   refine⟨j,_,rfl,by omega,s1.trans s4,(Qc x v).trans r,λq hq=>?_,D⟩
   grind[swp,VL]
  omega
 refine fG (ec (by rfl) ?_);by_cases hc:2*i+1+1<n
 ·rw [Ov (by omega)];refine gY (ec rfl (gY (ec rfl (gY (ec rfl ?_)))))
  let ⟨f,a,e1,e2⟩:=Zf (k.less hv e (i:=2*i+1+1) (j:=2*i+1) (hZ (by omega)) (hZ (by omega)) (K:=λy d=>oP (yP (.bool true) y (.bool false)) λz=>bP z
   (jm K (Pp I g) [.iface T.tp (.ptr l o),.I 0,.I n,.I i,.I ((2*i+1+1:Nat):Int)] d) (jm K (Pp I g) [.iface T.tp (.ptr l o),.I 0,.I n,.I i,.I ((2*i+1:Nat):Int)] d)) (by
   refine ec (Fc _ _ _) ?_;rw[if_pos rfl];refine fX ?_;split
   ·exact next _ (by omega) hc
   ·exact next _ (by omega) (by omega)))
  rw[e1];exact Ci e2
 ·rw[LI (by omega)];refine sX (sX (sX ?_));exact next _ (by omega) (by omega)
theorem NU.pop{x:Int}(H:Rr F h l tc vf (x::xs) w cs)(hl:xs.length<90000)(m:∀h' ys w',Sn F h F h'->ys.Perm xs->Rr F h' l tc vf ys w' cs->K (.iface fN (.I x)) h'):cP CS nU [.iface T.tp (.ptr l o)] h K:=by
 refine I2 ?_;refine k.len hv H ?_;rw[jx,gQ,gG (by grind[ml,Re])];rw[show(((x::xs).length:Nat):Int)-1=(xs.length:Nat) by simp];obtain⟨y,gl⟩:∃y,(x::xs)[xs.length]? =some y:=by simp_all
 have e:=Qc (i:=0) rfl gl;refine k.swap hv H rfl gl λn s1 p=>?_;refine k.down hv p (by simp[swp]) (by grind[swp]) λA a b q d f r=>?_;have g:a.length=xs.length+1:=by rw[d.length_eq];simp[swp]
 obtain ⟨c,z,rfl⟩:∃c z,a=c++[z]:=by
  rcases jh a with h|h
  ·simp_all
  ·exact h
 have B:c.length=xs.length:=by simpa using g
 have:z=x:=by
  have:=f xs.length (jJ _);rw[show(c++[z])[xs.length]? =some z by simp_all]at this;unfold swp at this;rw[Tt (by simp)]at this;exact Option.some.inj this
 subst this;have j:c.Perm xs:=by
  have n:=d.trans e;exact by grind[List.Perm.cons_inv,List.perm_append_singleton]
 exact k.zhT hv r (by omega) λs t u v=>m s c t ((s1.trans q).trans u) j v
end
def rC:List (Int×Int)->Int->Option Int
 |[],_=>none
 |x::m,k=>if x.1=k then some x.2 else rC m k
def Lu:List (Int×Int)->Int->Int->List (Int×Int)
 |[],k,v=>[(k,v)]
 |x::m,k,v=>if x.1=k then(k,v)::m else x::Lu m k v
def Ux:List (Int×Int)->Int->List (Int×Int)
 |[],_=>[]
 |x::m,k=>if x.1=k then m else x::Ux m k
inductive OW:List (V×V×Nat)->List (Int×Int)->Prop
 |nil:OW [] []
 |cons {k v:Int} {n:Nat} {es:List (V×V×Nat)} {m:List (Int×Int)} (h:OW es m):OW ((.I k,.I v,n)::es) ((k,v)::m)
theorem OW.snoc{k v:Int}{n:Nat}:∀{es:List (V×V×Nat)}{m:List (Int×Int)},OW es m->rC m k=none->OW (es++[(.I k,.I v,n)]) (Lu m k v)
 |_,_,.nil,_=> .cons .nil
 | _,_,.cons h,hk=>by
   unfold rC at hk;split at hk
   ·cases hk
   ·rename_i e
    unfold Lu;rw[if_neg e];exact .cons (h.snoc hk)
theorem OW.find{k:Int}:∀{es:List (V×V×Nat)}{m:List (Int×Int)}(i:Nat),OW es m->
  (oU fN none (.I k) es i=some none/\rC m k=none)\/
  ∃j v e,oU fN none (.I k) es i=some (some (i+j,.I v))/\es[j]? =some e/\e.1 = .I k/\rC m k=some v/\(∀b n,OW (es.set j (.I k,.I b,n)) (Lu m k b))/\OW (es.eraseIdx j) (Ux m k)
 |_,_,i,.nil=> .inl ⟨rfl,rfl⟩
 | _,_,i,.cons (k:=a) (v:=v) (n:=n) (es:=es) h=>by
   have c:oU fN none (.I k) ((.I a,.I v,n)::es) i=if k=a then some (some (i,.I v)) else oU fN none (.I k) es (i+1):=by
     show oB (L0 fN none (.I k) (.I a)) _=_;rw[show L0 fN none (V.I k) (V.I a)=some (k == a) from Qg _ _];by_cases hk:k=a
     ·rw[if_pos hk,Ey.2 hk];rfl
     ·rw[if_neg hk,Ym.2 hk];rfl
   by_cases hk:k=a
   ·subst hk
    rw[if_pos rfl]at c;refine .inr ⟨0,v,_,c,rfl,rfl,by unfold rC;rw[if_pos rfl],λb l=>?_,?_⟩
    ·unfold Lu;rw[if_pos rfl];exact .cons h
    ·unfold Ux;rw[if_pos rfl];exact h
   ·rw[if_neg hk]at c
    have d:¬a=k:=λe=>hk e.symm;rcases h.find (i+1)with⟨f,g⟩|⟨j,o,e,f,g,p,q,r,s⟩
    ·exact .inl ⟨c.trans f,by unfold rC;rw[if_neg d];exact g⟩
    ·refine .inr ⟨j+1,o,e,by rw[c,f];congr 3;omega,g,p,by unfold rC;rw[if_neg d];exact q,λb l=>?_,?_⟩
     ·unfold Lu;rw[if_neg d];exact .cons (r b l)
     ·unfold Ux;rw[if_neg d];exact .cons s
theorem UM(k v:Int)(x:Int):∀m,rC (Lu m k v) x=if x=k then some v else rC m x
 | []=>by
   by_cases h:x=k
   ·simp[Lu,rC,h]
   ·simp[Lu,rC,h,Ne.symm h]
 | y ::m=>by
   have a:=UM k v x m;unfold Lu;by_cases h:y.1=k
   ·rw[if_pos h]
    by_cases hx:x=k
    ·simp[rC,hx]
    ·simp[rC,hx,Ne.symm hx,h]
   ·rw[if_neg h]
    unfold rC;by_cases hy:y.1=x
    ·rw[if_pos hy,if_pos hy,if_neg λe=>h (hy.trans e)]
    ·rw[if_neg hy,if_neg hy,a]
def vO(m:List (Int×Int)):List Int:=m.map (·.1)
theorem zaP{m:List (Int×Int)}{k:Int}:rC m k=none↔k ∉ vO m:=by
 induction m with
 |nil=>simp[rC,vO]
 | cons y m a=>
   unfold rC;by_cases h:y.1=k
   ·simp[vO,h]
   ·rw[if_neg h,a]
    simp[vO,Ne.symm h]
theorem UW{k v:Int}:∀{m:List (Int×Int)},(vO m).Nodup->(vO (Lu m k v)).Nodup/\∀x,x∈vO (Lu m k v)->x∈vO m\/x=k
 |[],_=>by simp[Lu,vO]
 | y ::m,h=>by
   simp only[vO,wBW,WM]at h
   let⟨c,b⟩:=UW (k:=k) (v:=v) h.2
   unfold Lu;split
   ·rename_i e
    subst e;refine⟨by simp only[vO,wBW,WM];exact h,λx a=>?_⟩;rcases Aw.1 a with rfl|a
    ·exact .inr rfl
    ·exact .inl (wBA _ a)
   ·rename_i e
    refine⟨?_,λx a=>?_⟩
    ·simp only[vO,wBW,WM]
     exact⟨λd=>(b _ d).elim h.1 e,c⟩
    ·rcases Aw.1 a with rfl|a
     ·exact .inl (Wh ..)
     ·exact(b x a).imp (wBA _) id
theorem zcT{k:Int}:∀{m:List (Int×Int)},(vO m).Nodup->(vO (Ux m k)).Nodup/\(∀x,x∈vO (Ux m k)->x∈vO m)/\∀x,rC (Ux m k) x=if x=k then none else rC m x
 |[],_=>by simp[Ux,vO,rC]
 | y ::m,h=>by
   simp only[vO,wBW,WM]at h
   let⟨c,b,d⟩:=zcT (k:=k) h.2
   unfold Ux;split
   ·rename_i e
    subst e;refine⟨h.2,λx a=>wBA _ a,λx=>?_⟩;split
    ·rename_i e;subst e;exact zaP.2 h.1
    ·rename_i e
     conv=>rhs;unfold rC
     rw[if_neg (Ne.symm e)]
   ·rename_i e
    refine⟨?_,λx a=>?_,λx=>?_⟩
    ·simp only[vO,wBW,WM]
     exact⟨λf=>h.1 (b _ f),c⟩
    ·rcases Aw.1 a with rfl|a
     ·exact Wh ..
     ·exact wBA _ (b x a)
    ·unfold rC
     by_cases hy:y.1=x
     ·rw[if_pos hy,if_pos hy,if_neg λe'=>e (hy.trans e')]
     ·rw[if_neg hy,if_neg hy,d]
def S8(l:Nat)(f:Int->Option Int):Pc where
 pS:=λm=>m=l
 ok F h:=(∃es c m,h.get l=some (.map es c)/\OW es m/\(vO m).Nodup/\∀k,rC m k=f k)/\l<h.next/\¬F l
 FK:=λh _ e=>by subst e;exact h.2
 fy:=λ⟨⟨es,c,m,b,d⟩,a⟩ _ hl g=>⟨⟨es,c,m,(hl l rfl).trans b,d⟩,NY a.1 g,a.2⟩
 mono:=λh _ hl=>⟨h.1,h.2.1,hl l rfl⟩
def GU(f:Int->Option Int)(k:Int)(v:Option Int):Int->Option Int:=λx=>if x=k then v else f x
section
variable{F F':Nat->Prop}{h h':Hp}{cs:List Pc}{l:Nat}{f:Int->Option Int}
theorem ej.zgK(H:ej F h cs):ej F (h.new (.map [] 0)) (S8 h.next (λ_=>none)::cs)/\Sn F h F (h.new (.map [] 0)):=
 H.new _ ⟨⟨[],0,[],fh _ _,.nil,.nil,λ_=>rfl⟩,TU _,H.fresh⟩ λ_ e=>e
theorem ej.Om(H:ej F h cs)(i:Nat)(hi:cs[i]? =some (S8 l f))(k:Int):rH fN none (.I 0) false (.map l) (.I k) h=some (.I ((f k).getD 0))/\
  rH fN none (.I 0) true (.map l) (.I k) h=some (.tuple [.I ((f k).getD 0),.bool (f k).isSome]):=by
 let⟨⟨es,c,m,g,n,_,d⟩,_⟩:=H.ok i _ hi
 have e1:∀ok r,oU fN none (.I k) es 0=some r->rH fN none (.I 0) ok (.map l) (.I k) h=some (found (.I 0) ok r):=λok r o=>by
  unfold rH zU;simp[g,eQ];rw[o];rfl
 rcases n.find 0 with⟨a,b⟩|⟨j,v,e,a,_,_,b,_⟩
 ·rw[e1 _ _ a,e1 _ _ a,<-d,b];exact⟨rfl,rfl⟩
 ·rw[e1 _ _ a,e1 _ _ a,<-d,b];exact⟨rfl,rfl⟩
theorem ej.zfz(H:ej F h cs)(i:Nat)(hi:cs[i]? =some (S8 l f))(k v:Int):∃h',xN fN none (.map l) (.I k) (.I v) h=some (.val .undef h')/\h.next<=h'.next/\ej F h' (cs.set i (S8 l (GU f k (some v))))/\Sn F h F h':=by
 let⟨⟨es,c,m,n,g,h0,o⟩,a,p⟩:=H.ok i _ hi
 have fin:∀jL c',BG fN none es c (.I k) (.I v)=some (.map jL c')->OW jL (Lu m k v)->
   ∃h',xN fN none (.map l) (.I k) (.I v) h=some (.val .undef h')/\h.next<=h'.next/\ej F h' (cs.set i (S8 l (GU f k (some v))))/\Sn F h F h':=by
  intro jL c' q r;refine⟨h.put l (.map jL c'),?_,jJ _,H.z8 hi (uE.put _ rfl a) ⟨⟨jL,c',_,iB _ a,r,(UW h0).1,λx=>?_⟩,a,p⟩ λ_ h=> .inl h⟩
  ·unfold xN zU;simp[n,eQ,q];rfl
  ·rw[UM];unfold GU;rw[o]
 rcases g.find 0 with⟨b,d⟩|⟨j,u,e,b,d,s,w,t,_⟩
 ·exact fin (es++[(.I k,.I v,c)]) (c+1) (by unfold BG;rw[b];rfl) (g.snoc d)
 ·refine fin (es.set j (.I k,.I v,e.2.2)) c ?_ (t v _);unfold BG;rw[b];simp[ Jn,d,s,V.Et];rfl
theorem ej.zhk(H:ej F h cs)(i:Nat)(hi:cs[i]? =some (S8 l f))(k:Int):∃h',Cg fN none (.map l) (.I k) h=some (.val (.tuple []) h')/\h.next<=h'.next/\ej F h' (cs.set i (S8 l (GU f k none)))/\Sn F h F h':=by
 let⟨⟨es,c,m,b,g,h0,n⟩,a,o⟩:=H.ok i _ hi
 rcases g.find (k:=k) 0 with⟨d,p⟩|⟨j,r,e,d,p,s,t,_,q⟩
 ·refine ⟨h,?_,jJ _,H.swap hi ⟨⟨es,c,m,b,g,h0,λx=>?_⟩,a,o⟩ λ_ h=>h,.refl _ _⟩
  ·unfold Cg BA;simp[b,eQ,d];rfl
  ·unfold GU;split
   ·rename_i e;rw[e];exact p
   ·exact n x
 ·let⟨d1,_,d3⟩:=zcT (k:=k) h0
  refine⟨h.put l (.map (es.eraseIdx j) c),?_,jJ _,H.z8 hi (uE.put _ rfl a) ⟨⟨_,c,_,iB _ a,q,d1,λx=>?_⟩,a,o⟩ λ_ h=> .inl h⟩
  ·unfold Cg BA;simp[b,eQ,d];rfl
  ·rw[d3];unfold GU;rw[n]
