/- Parts. -/
import Derived.Test.YtcoaokdoecgcbaaGreatDoorM30
import Derived.Test.YtcoaokdoecgcbaaGreatDoorM34
set_option maxHeartbeats 4000000
namespace Go.Proofs.YtcoaokdoecgcbaaGreatDoor.Hx
open Un Dm
def RN(l:Nat)(S:Int->Prop):Pc where
 pQ:=λm=>m=l
 ok F h:=((∃es c,h.get l=some (.map es c)/\(∀e∈es,∃k,e.1 = .I k/\e.2.1 = .bool true/\S k)/\∀k,S k->∃e∈es,e.1 = .I k)\/∃ks,h.get l=some (.Qj .i64 ks)/\∀k,k∈ks↔S k)/\l<h.next/\¬F l
 Iq:=λh _ e=>by subst e;exact h.2
 fm:=λ⟨a,d⟩ _ hl f=>⟨a.imp (λ⟨es,c,a,b⟩=>⟨es,c,(hl l rfl).trans a,b⟩) λ⟨ks,a,b⟩=>⟨ks,(hl l rfl).trans a,b⟩,EP d.1 f,d.2⟩
 mono:=λh _ hl=>⟨h.1,h.2.1,hl l rfl⟩
section
variable{F F':Nat->Prop}{h h':Hp}{cs:List Pc}{l:Nat}{S:Int->Prop}
theorem ej.Qj(H:ej F h cs)(i:Nat)(hi:cs[i]? =some (vT l S)):ej F h (cs.set i (RN l S)):=
 H.swap hi (let⟨a,b⟩:=H.ok i _ hi;⟨.inl a,b⟩) λ_ h=>h
theorem O0:He fJ=true:=by
 kernel_rfl
theorem ej.zdW(H:ej F h cs)(i:Nat)(hi:cs[i]? =some (RN l S))(k:Int):∃b,rG fJ none (.bool false) false (.map l) (.I k) h=some (.bool b)/\(b=true↔S k):=by
 obtain⟨h0|⟨ks,a,c⟩,d,e⟩:=H.ok i _ hi
 ·have f:ej F h (cs.set i (vT l S)):=H.swap hi ⟨h0,d,e⟩ λ_ h=>h;exact f.look i (Qk (j6.1 hi).1) k
 ·refine⟨Hi ks k,?_,Kz.trans (c k)⟩;unfold rG zy;simp[a,fe];unfold Og;simp[O0];cases Hi ks k <;> rfl
theorem ej.zgT(H:ej F h cs)(i:Nat)(hi:cs[i]? =some (RN l S))(k:Int):∃h',zk fJ none (.map l) (.I k) (.bool true) h=some (.val .undef h')/\h.next<=h'.next/\ej F h' (cs.set i (RN l λx=>S x\/x=k))/\Sn F h F h':=by
 obtain⟨h0|⟨ks,d,e⟩,a,b⟩:=H.ok i _ hi
 ·have hl:=(j6.1 hi).1;have f:ej F h (cs.set i (vT l S)):=H.swap hi ⟨h0,a,b⟩ λ_ h=>h
  let⟨h',e1,e2,c,g⟩:=f.ig i (Qk hl) k
  rw[List.set_set]at c;refine⟨h',e1,e2,?_,g⟩;have:=c.Qj i (Qk hl)
  rwa [List.set_set]at this
 ·refine⟨h.put l (.Qj .i64 (k::ks)),?_,jj _,H.BV hi (mr.put _ rfl a) ⟨.inr ⟨k::ks,fY _ a,λx=>?_⟩,a,b⟩ λ_ h=> .inl h⟩
  ·unfold zk zy;simp[d,fe];unfold WD;simp[O0];rfl
  ·rw[yt,e x];exact or_comm
theorem Vc{S:Int->Prop}:∀{es:List (V×V×Nat)},(∀e∈es,∃k,e.1 = .I k/\e.2.1 = .bool true/\S k)->∃ks,Nr .i64 es=some ks/\∀k,k∈ks↔∃e∈es,e.1 = .I k
 |[],_=>⟨[],rfl,by simp⟩
 | ⟨a,b,n⟩::es,hh=>by
   let⟨k,f,g,_⟩:=hh _ (Tx ..)
   let⟨ks,h,i⟩:=Vc λe c=>hh e (wA7 _ c)
   subst f g;refine⟨k::ks,by simp[Nr,zet,h];rfl,λx=>?_⟩;rw[yt,i x];constructor
   ·rintro(rfl|⟨e,c,d⟩)
    ·exact⟨_,Tx ..,rfl⟩
    ·exact⟨e,wA7 _ c,d⟩
   ·rintro⟨e,c,d⟩
    rcases yt.1 c with rfl|c
    ·cases d;exact .inl rfl
    ·exact .inr ⟨e,c,d⟩
theorem ej.fill(H:ej F h cs)(i j:Nat){lm lu:Nat}(hi:cs[i]? =some (vT lm S))(g:cs[j]? =some (vT lu λ_=>False))(n:i≠j) :
  ∃q f,MQ (.map lm) h=some (.val (.ptr h.next 0) q)/\PQ .i64 (.ptr h.next 0) (.map lu) q=some f/\h.next<=f.next/\ej F f (cs.set j (RN lu S))/\Sn F h F f:=by
 let⟨⟨es,c,r,s,t⟩,u,D⟩:=H.ok i _ hi
 let⟨⟨us,cu,v,w,E⟩,o,x⟩:=H.ok j _ g
 have p:us=[]:=by
  cases us with
  |nil=>rfl
  |cons e us=>let⟨_,_,_,hh⟩:=w e (Tx ..);exact hh.elim
 subst p;have mD:lu≠lm:=λe=>H.K5 i j _ _ hi g n lm rfl e.symm
 let⟨ks,y,z⟩:=Vc s
 have gn:=eQ h (.iter (some lm) c [] c);have gm:(h.new (.iter (some lm) c [] c)).get lm=some (.map es c):=(eE _ u).trans r;have gu:(h.new (.iter (some lm) c [] c)).get lu=some (.map [] cu):=(eE _ o).trans v;have d:=wBd o;refine⟨h.new (.iter (some lm) c [] c),((h.new (.iter (some lm) c [] c)).put h.next .gone).put lu (.Qj .i64 ks),?_,?_,Ql _,?_⟩
 ·unfold MQ AI;simp[r,fe]
 ·unfold PQ;simp[ wBk,gn,AI,gm,gu,y];rw[show Nat.beq lu lm=false from wB3.2 λe=>mD (Cj e)];rfl
 ·have hc:mr (λm=>m=lu) h (((h.new (.iter (some lm) c [] c)).put h.next .gone).put lu (.Qj .i64 ks)):=by
   refine⟨Ql _,λl hl A=>?_⟩;exact(gq _ d λe=>A e.symm).trans ((gq _ (Rz _) (by omega)).trans (eE _ hl))
  exact H.BV g hc ⟨.inr ⟨ks,fY _ d,λk=>(z k).trans ⟨λ⟨e,B,C⟩=>by
   let⟨k',a,_,b⟩:=s e B
   rw[C]at a;cases a;exact b,t k⟩⟩,wBd o,x⟩ λ_ e=> .inl e
structure HT where
 tp:Nat
 ty:Nat
 fL:Nat
 fS:Nat
 fW:Nat
 fP:Nat
 fQ:Nat
structure MU (T:HT):Prop where
 agg:Vp T.ty=some false
 mL:methodOf T.tp "Len" = some (T.fL,some T.ty)
 mS:methodOf T.tp "Less" = some (T.fS,some T.ty)
 mW:methodOf T.tp "Swap" = some (T.fW,some T.ty)
 mP:methodOf T.tp "Push" = some (T.fP,none)
 mQ:methodOf T.tp "Pop" = some (T.fQ,none)
 kL:∀{a:V} {h:Hp} {Q:fo},(oP (fM a) λx=>Q x h)->cP CS T.fL [a] h Q
 kS:∀{a d m:V} {h:Hp} {Q:fo},(oP (gQ 1 a d) λn=>oP (eD n h) λe=>oP (gQ 1 a m) λf=>oP (eD f h) λg=>oP (eh .lss 3 e g) λi=>Q i h)->cP CS T.fS [a,d,m] h Q
 kW:∀{a d m:V} {h:Hp} {Q:fo},(oP (gQ 1 a m) λb=>oP (eD b h) λf=>oP (gQ 1 a d) λr=>oP (eD r h) λs=>oP (gQ 1 a d) λj=>eJ (gw 1 j f h) λ_ c=>
  (h.next<=c.next/\oP (gQ 1 a m) λk=>eJ (gw 1 k s c) λ_ o=>(c.next<=o.next/\Q (.tuple []) o)))->cP CS T.fW [a,d,m] h Q
 kP:∀{a d:V} {h:Hp} {Q:fo},(oP (fR a) λp=>oP (eD p h) λq=>oP (K8 3 (V.I 0) d) λn=>vV (iW 3 1 1 (V.I 0) [(0,n)]) h λt e c=>
  ((c.get (h.next)=some t/\O.beq t t=true)/\((eD p c=some q)/\eJ (fg 3 1 8 q e c) λl o=>(c.next<=o.next/\oP (fR a) λb=>eJ (gw 1 b l o) λ_ w=>(o.next<=w.next/\Q (.tuple []) w)))))->cP CS T.fP [a,d] h Q
 kQ:∀{a:V} {h:Hp} {Q:fo},(oP (fR a) λp=>oP (eD p h) λq=>oP (fM q) λy=>oP (eh .sub 3 y (V.I 1)) λn=>oP (fR a) λl=>oP (eD l h) λb=>oP (gQ 1 b n) λg=>oP (eD g h) λi=>
  oP (fR a) λj=>oP (eD j h) λk=>oP (jE 1 k none (some n) h) λu=>oP (fR a) λv=>eJ (gw 1 v u h) λ_ c=>Q (.iface 3 i) c)->cP CS T.fQ [a] h Q
theorem Y5{n:Nat}(a:n<1000000):eh .quo 3 (.I ((n:Nat):Int)) (.I 2)=some (.I ((n / 2:Nat):Int)):=by
 show some (V.I (jo .i64 (Int.tdiv (n:Int) 2)))=_;have:Int.tdiv (n:Int) 2=((n / 2:Nat):Int):=by rw[Int.tdiv_eq_ediv_of_nonneg (by omega)];rfl
 rw[this,gK (by simp[mR];omega)]
theorem Xp{R:Option R}{h:Hp}{K:fo}(H:gO CS R h K):∃f a,oB R AN=some (f,a)/\cP CS f a h K:=by
 unfold gO oP at H
 cases e:oB R AN with
 |none=>rw[e]at H;exact H.elim
 |some y=>rw[e]at H;exact⟨y.1,y.2,rfl,H⟩
structure HV (o:Nat) (vf:V->List V):Prop where
 get:∀w,(vf w)[o]? =some w
 set:∀w w',(vf w).set o w' = vf w'
theorem HV.lt{o:Nat}{vf:V->List V}(v:HV o vf)(w:V):o<(vf w).length:=(j6.1 (v.get w)).1
end
section
variable{T:HT}(k:MU T){F F':Nat->Prop}{h h':Hp}{cs:List Pc}{Q K:fo}{l o tc:Nat}{vf:V->List V}(hv:HV o vf){w:V}{xs:List Int}
abbrev Qm(F:Nat->Prop)(h:Hp)(l tc:Nat)(vf:V->List V)(xs:List Int)(w:V)(cs:List Pc):Prop:=ej F h (fu eZ fJ xs w::fi l tc (vf w)::cs)
theorem HT.zf9{a:String}{f:Nat}{args:List V}(b:methodOf T.tp a=some (f,none))(H:cP CS f (.ptr l o::args) h K):gO CS (jZ a (.iface T.tp (.ptr l o)) args h) h K:=by
 have e:jZ a (.iface T.tp (.ptr l o)) args h=some (.call f (.ptr l o::args)):=by
  unfold jZ;simp[b]
 rw[e,DX];exact H
include k
theorem MU.inv{a:String}{f:Nat}{args:List V}(b:methodOf T.tp a=some (f,some T.ty))(hl:eD (.ptr l o) h=some w)(H:cP CS f (w::args) h K):gO CS (jZ a (.iface T.tp (.ptr l o)) args h) h K:=by
 have e:jZ a (.iface T.tp (.ptr l o)) args h=some (.call f (w::args)):=by
  unfold jZ;have:(JD T.ty ⟨λ_ _=>some (.ptr l o)⟩).f (.tree .leaf []) h=some w:=by
   rw[<-hl];unfold JD;rw[k.agg];rfl
  simp[b,this]
 rw[e,DX];exact H
include hv
theorem MU.len(H:Qm F h l tc vf xs w cs) (a:K (.I xs.length) h):gO CS (jZ "Len" (.iface T.tp (.ptr l o)) [] h) h K:=
 k.inv k.mL (H.ld 1 rfl (hv.get w)) (k.kL (ec (H.len 0 rfl) a))
theorem MU.less(H:Qm F h l tc vf xs w cs){i j:Nat}{x y:Int}(hi:xs[i]? =some x)(a:xs[j]? =some y)(b:K (.bool (decide (x<y))) h) :
  gO CS (jZ "Less" (.iface T.tp (.ptr l o)) [.I i,.I j] h) h K:=by
 refine k.inv k.mS (H.ld 1 rfl (hv.get w)) (k.kS ?_)
 let⟨e,f,p1,p2⟩:=H.BG 0 rfl hi .i64
 let⟨g,o2,c,d⟩:=H.BG 0 rfl a .i64
 exact ec p1 (ec p2 (ec c (ec d (ec (gX _ _ _ _) b))))
def swp(xs:List Int)(i j:Nat)(x y:Int):List Int:=(xs.set i y).set j x
theorem MU.swap(H:Qm F h l tc vf xs w cs){i j:Nat}{x y:Int}(hi:xs[i]? =some x)(a:xs[j]? =some y)(b:∀h',Sn F h F h'->Qm F h' l tc vf (swp xs i j x y) w cs->K (.tuple []) h') :
  gO CS (jZ "Swap" (.iface T.tp (.ptr l o)) [.I i,.I j] h) h K:=by
 refine k.inv k.mW (H.ld 1 rfl (hv.get w)) (k.kW ?_)
 let⟨t,v,p1,p2⟩:=H.BG 0 rfl hi .i64
 let⟨z,o2,c,d⟩:=H.BG 0 rfl a .i64
 have e:=(j6.1 hi).1;have f:=(j6.1 a).1
 let⟨A,B,C,r1,r2,g,m,s1⟩:=H.Mb 0 rfl e rfl (u:= .I y) rfl rfl
 let⟨D,E,n,p,q,t3,r,s⟩:=m.Mb 0 rfl (k:=j) (by simpa using f) rfl (u:= .I x) rfl rfl
 refine ec c (ec d (ec p1 (ec p2 (ec r1 ?_))));rw[r2,ef];refine⟨g,ec p ?_⟩;rw[q,ef];exact⟨t3,b n (s1.trans s) r⟩
theorem MU.zfY(H:Qm F h l tc vf xs w cs)(hl:xs.length<100000){x:Int}(f:∀h' w',Sn F h F h'->Qm F h' l tc vf (xs++[x]) w' cs->K (.tuple []) h') :
  gO CS (jZ "Push" (.iface T.tp (.ptr l o)) [.iface fJ (.I x)] h) h K:=by
 refine HT.zf9 k.mP (k.kP ?_);refine ec (eC _ _) (ec (H.ld 1 rfl (hv.get w)) (ec (rfl) ?_))
 let⟨v',g,e1,e2,d,s1⟩:=H.tz 0 rfl (jh:=8) (NM:=3) (w:=[.I x]) (ro:=false) rfl (by decide) (by decide) (by omega)
 rw [XM rfl rfl];refine⟨⟨eQ _ _,by simp[ V.N7]⟩,?_⟩;have i:eD (.ptr l o) (h.new (.cells 3 1 true false [.I x]))=some w:=by
  let⟨a,b,_⟩:=H.ok 1 _ rfl
  exact kH ((eE _ b).trans a) (hv.get w)
 refine⟨i,?_⟩;have c:fg 3 1 8 w (.slice h.next 0 1) (h.new (.cells 3 1 true false [.I x]))=some (.val v' g):=e1;rw[c,ef]
 let⟨j,m,n,e,p⟩:=d.st 1 rfl (hv.lt w) (d.one 0 rfl)
 rw[hv.set]at e;refine⟨e2,ec (eC _ _) ?_⟩;rw[m,ef];exact⟨n,f j v' (s1.trans p) e⟩
theorem MU.zgE{x:Int}(H:Qm F h l tc vf (xs++[x]) w cs)(hl:xs.length<100000)(e:∀h' w',Sn F h F h'->Qm F h' l tc vf xs w' cs->K (.iface fJ (.I x)) h') :
  gO CS (jZ "Pop" (.iface T.tp (.ptr l o)) [] h) h K:=by
 refine HT.zf9 k.mQ (k.kQ ?_)
 let⟨m,p,p1,p2⟩:=H.BG 0 rfl (k:=xs.length) (x:=x) (by simp) .i64
 have b:eh .sub 3 (.I ((xs++[x]).length:Nat)) (.I 1)=some (.I xs.length):=by
  rw[iI,gK (by simp[mR,nB,Tj];omega)];simp
 have a:=H.ld 1 rfl (hv.get w)
 let⟨v',f,c⟩:=H.ze1 0 rfl (n:=xs.length) (by simp)
 simp[ List.take_left]at c;refine ec (eC _ _) (ec a (ec (H.len 0 rfl) (ec b (ec (eC _ _) (ec a (ec p1 (ec p2 (ec (eC _ _) (ec a (ec f (ec (eC _ _) ?_)))))))))))
 let⟨g,i,q,d,j⟩:=c.st 1 rfl (hv.lt w) (c.one 0 rfl)
 rw[hv.set]at d;rw[i,ef];exact e g v' j d
omit k hv
theorem OC{xs:List Int}{i j:Nat}{x y:Int}(hi:xs[i]? =some x)(a:xs[j]? =some y):(swp xs i j x y).Perm xs:=by
 obtain⟨b,rfl⟩:=j6.1 hi;obtain⟨c,rfl⟩:=j6.1 a;exact List.set_set_perm b c
include k hv
theorem MU.up{x:Int}(H:Qm F h l tc vf (xs++[x]) w cs)(hl:xs.length<100000)(q:∀h' ys,Sn F h F h'->ys.Perm (xs++[x])->((∀y∈xs,y<=x)->ys=xs++[x])->Qm F h' l tc vf ys w cs->K (.tuple []) h') :
  cP CS uf [.iface T.tp (.ptr l o),.I xs.length] h K:=by
 refine Jq ?_
 refine FD (λk d h'=>∃i ys,d=[.iface T.tp (.ptr l o),.I (i:Nat)]/\i=k/\i<=xs.length/\Sn F h F h'/\ys.Perm (xs++[x])/\((∀y∈xs,y<=x)->ys=xs++[x]/\i=xs.length)/\Qm F h' l tc vf ys w cs) ?_
  ⟨xs.length,xs++[x],rfl,rfl,jj _,.refl _ _,.refl _,λ_=>⟨rfl,rfl⟩,H⟩
 rintro n _ _ b ⟨i,ys,⟨⟩,rfl,hi,s1,hp,hq,g⟩;have r:ys.length=xs.length+1:=by rw[hp.length_eq];simp
 have fin:=q b ys s1 hp (λh=>(hq h).1) g;unfold wQ;rw[iI,gz,gK (by simp[mR];omega)]
 cases i with
 | zero=>
   refine ec (rfl) (ec (rfl) ?_)
   exact BP (BP (BP fin))
 | succ n=>
   have e:((n+1:Nat):Int)-1=(n:Nat):=by omega
   rw[e];refine ec (Y5 (by omega)) (fK ?_);rw[JH (by omega)];refine gR (ec rfl (gR (ec rfl (gR (ec rfl ?_)))));have j:ys[n / 2]? =some ys[n / 2]:=hN (by omega);have m:ys[n+1]? =some ys[n+1]:=hN (by omega)
   let ⟨f,a,e1,e2⟩:=Xp (k.less hv g m j (K:=λs b=>oP (nr (.bool false) (za .not s)) λp=>bP p (K (.tuple []) b) (gO CS (jZ "Swap" (.iface T.tp (.ptr l o)) [.I ((n / 2:Nat):Int),.I ((n+1:Nat):Int)] b) b λ_ t=>
     NG (λk d h'=>∃i ys,d=[.iface T.tp (.ptr l o),.I (i:Nat)]/\i=k/\i<=xs.length/\Sn F h F h'/\ys.Perm (xs++[x])/\((∀y∈xs,y<=x)->ys=xs++[x]/\i=xs.length)/\Qm F h' l tc vf ys w cs) (n+1) [.iface T.tp (.ptr l o),.I ((n / 2:Nat):Int)] t)) (by
     by_cases hc:ys[n+1]<ys[n / 2]
     ·rw[No hc]
      refine ec (rfl) (gf (fN (by simp) (k.swap hv g j m λB s4 u=>⟨n / 2,by omega,n / 2,_,rfl,rfl,by omega,s1.trans s4,(OC j m).trans hp,λhs=>?_,u⟩)))
      let⟨v,z⟩:=hq hs
      subst v;have c:n / 2<xs.length:=by omega
      have C:(xs++[x])[n+1]=x:=by simp[z,List.getElem_concat_length]
      have A:(xs++[x])[n / 2]=xs[n / 2]:=List.getElem_append_left c;rw[ A]at hc;have:=hs _ (AQ c);omega
     ·rw[JH hc]
      exact ec (rfl) (gf (fX rfl fin))))
   rw[e1];exact xu e2
theorem MU.push{x:Int}(H:Qm F h l tc vf xs w cs)(hl:xs.length<90000)(b:∀h' ys w',Sn F h F h'->ys.Perm (xs++[x])->((∀y∈xs,y<=x)->ys=xs++[x])->Qm F h' l tc vf ys w' cs->K (.tuple []) h') :
  cP CS jS [.iface T.tp (.ptr l o),.iface fJ (.I x)] h K:=by
 refine Gu ?_;refine k.zfY hv H (by omega) λf w1 s1 a=>?_;refine k.len hv a ?_;rw[iI,gz,gK (by simp[mR,nB,Tj];omega)];rw[show(((xs++[x]).length:Nat):Int)-1=(xs.length:Nat) by simp];exact k.up hv a (by omega) λc ys d hp hq e=>b c ys w1 (s1.trans d) hp hq e
theorem MU.down(H:Qm F h l tc vf xs w cs){n:Nat}(E:n<=xs.length)(hl:xs.length<100000)(A:∀h' c b,Sn F h F h'->c.Perm xs->(∀k,n<=k->c[k]? =xs[k]?)->Qm F h' l tc vf c w cs->K (.bool b) h') :
  cP CS qW [.iface T.tp (.ptr l o),.I 0,.I n] h K:=by
 refine Gt ?_
 let I:Nat->LP:=λk B h'=>∃i ys,B=[.iface T.tp (.ptr l o),.I 0,.I n,.I (i:Nat)]/\i+k=n+1/\Sn F h F h'/\ys.Perm xs/\(∀k,n<=k->ys[k]? =xs[k]?)/\Qm F h' l tc vf ys w cs
 refine Ce I ?_ (k:=n+1) (⟨0,xs,rfl,by omega,.refl _ _,.refl _,λ_ _=>rfl,H⟩);intro m _ _ _ _ d r;obtain⟨i,ys,⟨⟩,G,s1,s,e,g⟩:=r;have C:=s.length_eq;unfold uI;have e2:eh .mul 3 (.I 2) (.I i)=some (.I ((2*i:Nat):Int)):=by
  rw[Dk,gK (by simp[mR];omega)];rfl
 have fin:lM K [.I 0,.I i] d:=by
  refine Cp ?_;unfold uH;exact ec (iT _ _ _ _) (A d ys _ s1 s e g)
 refine ec e2 (fT (ec (jt _ _ _ _) ?_));have t:nr (.bool (decide (((n:Nat):Int)<=((2*i+1:Nat):Int)))) (oB (some (V.I ((2*i+1:Nat):Int))) λu=>eh .lss 3 u (V.I 0))=some (.bool (decide (n<=2*i+1))):=by
  simp only[fe,gX,jB];rw[JH (p:=((2*i+1:Nat):Int)<0) (by omega),Bool.or_false,show decide (((n:Nat):Int)<=((2*i+1:Nat):Int))=decide (n<=2*i+1) from decide_eq_decide.2 (by omega)]
 refine ec t (gf ?_);by_cases hb:n<=2*i+1
 ·exact fX (by simpa using hb) fin
 refine fN (by simpa using hb) ?_;have next:∀j,i<j->j<n->jn K (NG I m) [.iface T.tp (.ptr l o),.I 0,.I n,.I i,.I (j:Nat)] d:=λj J L=>by
  refine CV ?_;unfold uF;have v:ys[j]? =some ys[j]:=hN (by omega);have x:ys[i]? =some ys[i]:=hN (by omega);refine k.less hv g v x ?_;refine qS ?_;split
  ·refine k.swap hv g x v λM s4 D=>⟨n+1-j,by omega,?_⟩
   refine⟨j,_,rfl,by omega,s1.trans s4,(OC x v).trans s,λq hq=>?_,D⟩;unfold swp;rw[Qp (by omega),Qp (by omega)];exact e q hq
  ·exact fin
 refine fT (ec (gX _ _ _ _) ?_);by_cases hc:2*i+1+1<n
 ·rw [No (by omega)];refine j7 (ec rfl (j7 (ec rfl (j7 (ec rfl ?_)))))
  let ⟨f,a,e1,e2⟩:=Xp (k.less hv g (i:=2*i+1+1) (j:=2*i+1) (hN (by omega)) (hN (by omega)) (K:=λy d=>oP (Jx (.bool true) y (.bool false)) λz=>bP z
   (jn K (NG I m) [.iface T.tp (.ptr l o),.I 0,.I n,.I i,.I ((2*i+1+1:Nat):Int)] d) (jn K (NG I m) [.iface T.tp (.ptr l o),.I 0,.I n,.I i,.I ((2*i+1:Nat):Int)] d)) (by
   refine ec (Wc _ _ _) ?_;rw[if_pos rfl];refine gf ?_;split
   ·exact next _ (by omega) hc
   ·exact next _ (by omega) (by omega)))
  rw[e1];exact OP e2
 ·rw[JH (by omega)];refine sy (sy (sy ?_));exact next _ (by omega) (by omega)
theorem MU.pop{x:Int}(H:Qm F h l tc vf (x::xs) w cs)(hl:xs.length<90000)(n:∀h' ys w',Sn F h F h'->ys.Perm xs->Qm F h' l tc vf ys w' cs->K (.iface fJ (.I x)) h'):cP CS oy [.iface T.tp (.ptr l o)] h K:=by
 refine Hc ?_;refine k.len hv H ?_;rw[iI,gz,gK (by simp[mR,MZ];omega)];rw[show(((x::xs).length:Nat):Int)-1=(xs.length:Nat) by simp];obtain⟨y,gl⟩:∃y,(x::xs)[xs.length]? =some y:=⟨_,hN (by simp)⟩
 have f:=OC (i:=0) rfl gl;refine k.swap hv H rfl gl λm s1 p=>?_;refine k.down hv p (by simp[swp]) (by simp[swp];omega) λB a b q d g r=>?_;have e:a.length=xs.length+1:=by rw[d.length_eq];simp[swp]
 obtain ⟨c,z,rfl⟩:∃c z,a=c++[z]:=by
  rcases jf a with h|h
  ·subst h;cases e
  ·exact h
 have s:c.length=xs.length:=by simpa using e
 have:z=x:=by
  have:=g xs.length (jj _);rw[show(c++[z])[xs.length]? =some z by rw[<-s];simp]at this;unfold swp at this;rw[Qk (by simp)]at this;exact Option.some.inj this
 subst this;have j:c.Perm xs:=by
  have m:=d.trans f;exact List.Perm.cons_inv ((List.perm_append_singleton z c).symm.trans m)
 exact k.zgE hv r (by omega) λt u v A=>n t c u ((s1.trans q).trans v) j A
end
def rD:List (Int×Int)->Int->Option Int
 |[],_=>none
 |x::m,k=>if x.1=k then some x.2 else rD m k
def Kb:List (Int×Int)->Int->Int->List (Int×Int)
 |[],k,v=>[(k,v)]
 |x::m,k,v=>if x.1=k then(k,v)::m else x::Kb m k v
def So:List (Int×Int)->Int->List (Int×Int)
 |[],_=>[]
 |x::m,k=>if x.1=k then m else x::So m k
inductive N1:List (V×V×Nat)->List (Int×Int)->Prop
 |nil:N1 [] []
 |cons {k v:Int} {n:Nat} {es:List (V×V×Nat)} {m:List (Int×Int)} (h:N1 es m):N1 ((.I k,.I v,n)::es) ((k,v)::m)
theorem N1.snoc{k v:Int}{n:Nat}:∀{es:List (V×V×Nat)}{m:List (Int×Int)},N1 es m->rD m k=none->N1 (es++[(.I k,.I v,n)]) (Kb m k v)
 |_,_,.nil,_=> .cons .nil
 | _,_,.cons h,hk=>by
   unfold rD at hk;split at hk
   ·cases hk
   ·rename_i e
    unfold Kb;rw[if_neg e];exact .cons (h.snoc hk)
theorem N1.find{k:Int}:∀{es:List (V×V×Nat)}{m:List (Int×Int)}(i:Nat),N1 es m->
  (oQ fJ none (.I k) es i=some none/\rD m k=none)\/
  ∃j v e,oQ fJ none (.I k) es i=some (some (i+j,.I v))/\es[j]? =some e/\e.1 = .I k/\rD m k=some v/\(∀b n,N1 (es.set j (.I k,.I b,n)) (Kb m k b))/\N1 (es.eraseIdx j) (So m k)
 |_,_,i,.nil=> .inl ⟨rfl,rfl⟩
 | _,_,i,.cons (k:=a) (v:=v) (n:=n) (es:=es) h=>by
   have c:oQ fJ none (.I k) ((.I a,.I v,n)::es) i=if k=a then some (some (i,.I v)) else oQ fJ none (.I k) es (i+1):=by
     show oB (L1 fJ none (.I k) (.I a)) _=_;rw[show L1 fJ none (V.I k) (V.I a)=some (k == a) from OU _ _];by_cases hk:k=a
     ·rw[if_pos hk,Gi.2 hk];rfl
     ·rw[if_neg hk,Yz.2 hk];rfl
   by_cases hk:k=a
   ·subst hk
    rw[if_pos rfl]at c;refine .inr ⟨0,v,_,c,rfl,rfl,by unfold rD;rw[if_pos rfl],λb l=>?_,?_⟩
    ·unfold Kb;rw[if_pos rfl];exact .cons h
    ·unfold So;rw[if_pos rfl];exact h
   ·rw[if_neg hk]at c
    have d:¬a=k:=λe=>hk e.symm;rcases h.find (i+1)with⟨f,g⟩|⟨j,o,e,f,g,p,q,r,s⟩
    ·exact .inl ⟨c.trans f,by unfold rD;rw[if_neg d];exact g⟩
    ·refine .inr ⟨j+1,o,e,by rw[c,f];congr 3;omega,g,p,by unfold rD;rw[if_neg d];exact q,λb l=>?_,?_⟩
     ·unfold Kb;rw[if_neg d];exact .cons (r b l)
     ·unfold So;rw[if_neg d];exact .cons s
theorem U8(k v:Int)(x:Int):∀m,rD (Kb m k v) x=if x=k then some v else rD m x
 | []=>by
   by_cases h:x=k
   ·simp[Kb,rD,h]
   ·simp[Kb,rD,h,Ne.symm h]
 | y ::m=>by
   have a:=U8 k v x m;unfold Kb;by_cases h:y.1=k
   ·rw[if_pos h]
    by_cases hx:x=k
    ·simp[rD,hx]
    ·simp[rD,hx,Ne.symm hx,h]
   ·rw[if_neg h]
    unfold rD;by_cases hy:y.1=x
    ·rw[if_pos hy,if_pos hy,if_neg λe=>h (hy.trans e)]
    ·rw[if_neg hy,if_neg hy,a]
def vM(m:List (Int×Int)):List Int:=m.map (·.1)
theorem Zy{m:List (Int×Int)}{k:Int}:rD m k=none↔k ∉ vM m:=by
 induction m with
 |nil=>simp[rD,vM]
 | cons y m a=>
   unfold rD;by_cases h:y.1=k
   ·simp[vM,h]
   ·rw[if_neg h,a]
    simp[vM,Ne.symm h]
theorem Vf{k v:Int}:∀{m:List (Int×Int)},(vM m).Nodup->(vM (Kb m k v)).Nodup/\∀x,x∈vM (Kb m k v)->x∈vM m\/x=k
 |[],_=>by simp[Kb,vM]
 | y ::m,h=>by
   simp only[vM,ZO,Tz]at h
   let⟨c,b⟩:=Vf (k:=k) (v:=v) h.2
   unfold Kb;split
   ·rename_i e
    subst e;refine⟨by simp only[vM,ZO,Tz];exact h,λx a=>?_⟩;rcases yt.1 a with rfl|a
    ·exact .inr rfl
    ·exact .inl (wA7 _ a)
   ·rename_i e
    refine⟨?_,λx a=>?_⟩
    ·simp only[vM,ZO,Tz]
     exact⟨λd=>(b _ d).elim h.1 e,c⟩
    ·rcases yt.1 a with rfl|a
     ·exact .inl (Tx ..)
     ·exact(b x a).imp (wA7 _) id
theorem zay{k:Int}:∀{m:List (Int×Int)},(vM m).Nodup->(vM (So m k)).Nodup/\(∀x,x∈vM (So m k)->x∈vM m)/\∀x,rD (So m k) x=if x=k then none else rD m x
 |[],_=>by simp[So,vM,rD]
 | y ::m,h=>by
   simp only[vM,ZO,Tz]at h
   let⟨c,b,d⟩:=zay (k:=k) h.2
   unfold So;split
   ·rename_i e
    subst e;refine⟨h.2,λx a=>wA7 _ a,λx=>?_⟩;split
    ·rename_i e;subst e;exact Zy.2 h.1
    ·rename_i e
     conv=>rhs;unfold rD
     rw[if_neg (Ne.symm e)]
   ·rename_i e
    refine⟨?_,λx a=>?_,λx=>?_⟩
    ·simp only[vM,ZO,Tz]
     exact⟨λf=>h.1 (b _ f),c⟩
    ·rcases yt.1 a with rfl|a
     ·exact Tx ..
     ·exact wA7 _ (b x a)
    ·unfold rD
     by_cases hy:y.1=x
     ·rw[if_pos hy,if_pos hy,if_neg λe'=>e (hy.trans e')]
     ·rw[if_neg hy,if_neg hy,d]
def Sq(l:Nat)(f:Int->Option Int):Pc where
 pQ:=λm=>m=l
 ok F h:=(∃es c m,h.get l=some (.map es c)/\N1 es m/\(vM m).Nodup/\∀k,rD m k=f k)/\l<h.next/\¬F l
 Iq:=λh _ e=>by subst e;exact h.2
 fm:=λ⟨⟨es,c,m,b,d⟩,a⟩ _ hl g=>⟨⟨es,c,m,(hl l rfl).trans b,d⟩,EP a.1 g,a.2⟩
 mono:=λh _ hl=>⟨h.1,h.2.1,hl l rfl⟩
def Gp(f:Int->Option Int)(k:Int)(v:Option Int):Int->Option Int:=λx=>if x=k then v else f x
section
variable{F F':Nat->Prop}{h h':Hp}{cs:List Pc}{l:Nat}{f:Int->Option Int}
theorem ej.zgd(H:ej F h cs):ej F (h.new (.map [] 0)) (Sq h.next (λ_=>none)::cs)/\Sn F h F (h.new (.map [] 0)):=
 H.new _ ⟨⟨[],0,[],eQ _ _,.nil,.nil,λ_=>rfl⟩,Rz _,H.fresh⟩ λ_ e=>e
theorem ej.Ng(H:ej F h cs)(i:Nat)(hi:cs[i]? =some (Sq l f))(k:Int):rG fJ none (.I 0) false (.map l) (.I k) h=some (.I ((f k).getD 0))/\
  rG fJ none (.I 0) true (.map l) (.I k) h=some (.tuple [.I ((f k).getD 0),.bool (f k).isSome]):=by
 let⟨⟨es,c,m,g,n,_,d⟩,_⟩:=H.ok i _ hi
 have e1:∀ok r,oQ fJ none (.I k) es 0=some r->rG fJ none (.I 0) ok (.map l) (.I k) h=some (found (.I 0) ok r):=λok r o=>by
  unfold rG zy;simp[g,fe];rw[o];rfl
 rcases n.find 0 with⟨a,b⟩|⟨j,v,e,a,_,_,b,_⟩
 ·rw[e1 _ _ a,e1 _ _ a,<-d,b];exact⟨rfl,rfl⟩
 ·rw[e1 _ _ a,e1 _ _ a,<-d,b];exact⟨rfl,rfl⟩
theorem ej.zfa(H:ej F h cs)(i:Nat)(hi:cs[i]? =some (Sq l f))(k v:Int):∃h',zk fJ none (.map l) (.I k) (.I v) h=some (.val .undef h')/\h.next<=h'.next/\ej F h' (cs.set i (Sq l (Gp f k (some v))))/\Sn F h F h':=by
 let⟨⟨es,c,m,n,g,h0,o⟩,a,p⟩:=H.ok i _ hi
 have fin:∀jM c',Bl fJ none es c (.I k) (.I v)=some (.map jM c')->N1 jM (Kb m k v)->
   ∃h',zk fJ none (.map l) (.I k) (.I v) h=some (.val .undef h')/\h.next<=h'.next/\ej F h' (cs.set i (Sq l (Gp f k (some v))))/\Sn F h F h':=by
  intro jM c' q r;refine⟨h.put l (.map jM c'),?_,jj _,H.BV hi (mr.put _ rfl a) ⟨⟨jM,c',_,fY _ a,r,(Vf h0).1,λx=>?_⟩,a,p⟩ λ_ h=> .inl h⟩
  ·unfold zk zy;simp[n,fe,q];rfl
  ·rw[U8];unfold Gp;rw[o]
 rcases g.find 0 with⟨b,d⟩|⟨j,u,e,b,d,s,w,t,_⟩
 ·exact fin (es++[(.I k,.I v,c)]) (c+1) (by unfold Bl;rw[b];rfl) (g.snoc d)
 ·refine fin (es.set j (.I k,.I v,e.2.2)) c ?_ (t v _);unfold Bl;rw[b];simp[ Gg,d,s,V.DH];rfl
theorem ej.zfZ(H:ej F h cs)(i:Nat)(hi:cs[i]? =some (Sq l f))(k:Int):∃h',BW fJ none (.map l) (.I k) h=some (.val (.tuple []) h')/\h.next<=h'.next/\ej F h' (cs.set i (Sq l (Gp f k none)))/\Sn F h F h':=by
 let⟨⟨es,c,m,b,g,h0,n⟩,a,o⟩:=H.ok i _ hi
 rcases g.find (k:=k) 0 with⟨d,p⟩|⟨j,r,e,d,p,s,t,_,q⟩
 ·refine ⟨h,?_,jj _,H.swap hi ⟨⟨es,c,m,b,g,h0,λx=>?_⟩,a,o⟩ λ_ h=>h,.refl _ _⟩
  ·unfold BW AI;simp[b,fe,d];rfl
  ·unfold Gp;split
   ·rename_i e;rw[e];exact p
   ·exact n x
 ·let⟨d1,_,d3⟩:=zay (k:=k) h0
  refine⟨h.put l (.map (es.eraseIdx j) c),?_,jj _,H.BV hi (mr.put _ rfl a) ⟨⟨_,c,_,fY _ a,q,d1,λx=>?_⟩,a,o⟩ λ_ h=> .inl h⟩
  ·unfold BW AI;simp[b,fe,d];rfl
  ·rw[d3];unfold Gp;rw[n]
