/- Parts. -/
import Derived.Test.YtnehpeeglbgfpaaDoorM30
import Derived.Test.YtnehpeeglbgfpaaDoorM34
set_option maxHeartbeats 4000000
namespace Go.Proofs.YtnehpeeglbgfpaaDoor.Hx
open Un Dm
def IG(l:Nat)(S:Int->Prop):Pc where
 me:=λm=>m=l
 ok F h:=((∃es c,h.get l=some (.map es c)/\(∀e∈es,∃k:Int,e.1 = .I k/\e.2.1 = .bool true/\S k)/\∀k,S k->∃e∈es,e.1 = .I k)\/∃ks,h.get l=some (.IP .i64 ks)/\∀k,k∈ks↔S k)/\l<h.next/\¬F l
 I8:=λh _ e=>by subst e;exact h.2
 eD:=λ⟨a,f⟩ _ b g=>⟨a.imp (λ⟨es,c,a,d⟩=>⟨es,c,(b l rfl).trans a,d⟩) λ⟨ks,a,d⟩=>⟨ks,(b l rfl).trans a,d⟩,zr f.1 g,f.2⟩
 mono:=λh _ b=>⟨h.1,h.2.1,b l rfl⟩
section
variable{F F':Nat->Prop}{h h':Hp}{cs:List Pc}{l:Nat}{S:Int->Prop}
theorem er.IP(H:er F h cs)(i:Nat)(hi:cs[i]? =some (oH l S)):er F h (cs.set i (IG l S)):=
 H.swap hi (let⟨a,b⟩:=H.ok i _ hi;⟨.inl a,b⟩) λ_ h=>h
theorem IK:zE fy=true:=by
 unfold zE fy
 kernel_rfl
theorem er.Uj(H:er F h cs)(i:Nat)(hi:cs[i]? =some (IG l S))(k:Int):∃b,CK fy none (.bool false) false (.map l) (.I k) h=some (.bool b)/\(b=true↔S k):=by
 obtain⟨h0|⟨ks,a,c⟩,d,e⟩:=H.ok i _ hi
 ·have f:er F h (cs.set i (oH l S)):=H.swap hi ⟨h0,d,e⟩ λ_ h=>h;exact f.look i (G2 (jw.1 hi).1) k
 ·refine⟨AV ks k,?_,CT.trans (c k)⟩;unfold CK yn;simp only[a,eQ];unfold GU;simp only[IK];cases AV ks k <;> rfl
theorem er.ZK(H:er F h cs)(i:Nat)(hi:cs[i]? =some (IG l S))(k:Int):∃h',yQ fy none (.map l) (.I k) (.bool true) h=some (.val .undef h')/\h.next<=h'.next/\er F h' (cs.set i (IG l λx=>S x\/x=k))/\Sn F h F h':=by
 obtain⟨h0|⟨ks,e,f⟩,a,b⟩:=H.ok i _ hi
 ·have c:=(jw.1 hi).1;have g:er F h (cs.set i (oH l S)):=H.swap hi ⟨h0,a,b⟩ λ_ h=>h;obtain⟨h',e1,e2,d,e4⟩:=g.gX i (G2 c) k;rw[List.set_set]at d;refine⟨h',e1,e2,?_,e4⟩;have:=d.IP i (G2 c)
  rwa [List.set_set]at this
 ·refine⟨h.put l (.IP .i64 (k::ks)),?_,jn _,H.CN (p:=IG l λx=>S x\/x=k) hi (kX.put _ rfl a) ⟨.inr ⟨k::ks,fO _ a,λx=>?_⟩,a,b⟩ λ_ h=> .inl h⟩
  ·unfold yQ yn;simp only[e,eQ];unfold Ng;simp only[IK];rfl
  ·rw[AJ,f x];exact or_comm
theorem LO{S:Int->Prop}:∀{es:List (V×V×Nat)},(∀e∈es,∃k:Int,e.1 = .I k/\e.2.1 = .bool true/\S k)->∃ks,Gg .i64 es=some ks/\∀k,k∈ks↔∃e∈es,e.1 = .I k
 |[],_=>⟨[],rfl,by simp⟩
 | ⟨a,b,n⟩::es,hh=>by
   obtain⟨k,f,g,_⟩:=hh _ (M9 ..);obtain⟨ks,h,i⟩:=LO (S:=S) (es:=es) λe c=>hh e (V4 _ c);simp only at f g;subst f g;refine⟨k::ks,by simp only[Gg,VW,h];rfl,λx=>?_⟩;rw[AJ,i x];constructor
   ·rintro(rfl|⟨e,c,d⟩)
    ·exact⟨_,M9 ..,rfl⟩
    ·exact⟨e,V4 _ c,d⟩
   ·rintro⟨e,c,d⟩
    rcases AJ.1 c with rfl|c
    ·cases d;exact .inl rfl
    ·exact .inr ⟨e,c,d⟩
theorem er.fill(H:er F h cs)(i j:Nat){d lu:Nat}(hi:cs[i]? =some (oH d S))(n:cs[j]? =some (oH lu λ_=>False))(o:i≠j) :
  ∃r g,BA (.map d) h=some (.val (.ptr h.next 0) r)/\Ii .i64 (.ptr h.next 0) (.map lu) r=some g/\h.next<=g.next/\er F g (cs.set j (IG lu S))/\Sn F h F g:=by
 obtain ⟨⟨es,c,s,t,u⟩,g4,I⟩:=H.ok i _ hi;obtain⟨⟨us,v,w,x,J⟩,k4,y⟩:=H.ok j _ n;have q:us=[]:=by
  cases us with
  |nil=>rfl
  |cons e us=>obtain⟨_,_,_,z⟩:=x e (M9 ..);exact z.elim
 subst q;have pe:lu≠d:=λe=>H.B5 i j _ _ hi n o d rfl e.symm;obtain⟨ks,A,B⟩:=LO t;have gn:=ez h (.iter (some d) c [] c);have gm:(h.new (.iter (some d) c [] c)).get d=some (.map es c):=(eR _ g4).trans s;have gu:(h.new (.iter (some d) c [] c)).get lu=some (.map [] v):=(eR _ k4).trans w;have f:lu<(h.new (.iter (some d) c [] c)).next:=UT k4;refine⟨h.new (.iter (some d) c [] c),((h.new (.iter (some d) c [] c)).put h.next .gone).put lu (.IP .i64 ks),?_,?_,La _,?_⟩
 ·unfold BA wz;simp only[s,eQ]
 ·unfold Ii;simp only[pN,Qe,bB,gn,eQ,wz,gm,gu,A,Bool.and_self,List.isEmpty_nil];rw[show Nat.beq lu d=false from Xh.2 λe=>pe (uW e)];rfl
 ·have hc:kX (λm=>m=lu) h (((h.new (.iter (some d) c [] c)).put h.next .gone).put lu (.IP .i64 ks)):=by
   refine⟨La _,λl C D=>?_⟩;exact(fS (h:=(h.new (.iter (some d) c [] c)).put h.next .gone) _ f λe=>D e.symm).trans ((fS (h:=h.new (.iter (some d) c [] c)) _ (K8 _) (by omega)).trans (eR _ C))
  exact H.CN (p:=IG lu S) n hc ⟨.inr ⟨ks,fO (h:=(h.new (.iter (some d) c [] c)).put h.next .gone) _ f,λk=>(B k).trans ⟨λ⟨e,E,G⟩=>by
   obtain⟨k',a,_,b⟩:=t e E;rw[G]at a;cases a;exact b,u k⟩⟩,UT k4,y⟩ λ_ e=> .inl e
end
open Un Dm
section
variable{F F':Nat->Prop}{h h':Hp}{cs:List Pc}{Q K:fm}{lf:Nat}{w:V}{xs:List Int}
theorem Qr:methodOf uU "Len" = some (tD,some IT):=by kernel_rfl
theorem EO:methodOf uU "Less" = some (ni,some IT):=by kernel_rfl
theorem Pj:methodOf uU "Swap" = some (ru,some IT):=by kernel_rfl
theorem Px:methodOf uU "Push" = some (lO,none):=by kernel_rfl
theorem Sh:methodOf uU "Pop" = some (tG,none):=by kernel_rfl
theorem LN{v:V}(a:en (.ptr lf 0) h=some w)(b:v = .ptr lf 0):(Cz IT ⟨λ_ _=>some v⟩).f (.tree .leaf []) h=some w:=by
 subst b;rw[<-a];unfold Cz;rw[show GJ IT=some false from by kernel_rfl];rfl
theorem HT{a:String}{f:Nat}{args:List V}(b:methodOf uU a=some (f,some IT))(c:en (.ptr lf 0) h=some w)(H:cP CS f (w::args) h K):gv CS (jj a (.iface uU (.ptr lf 0)) args h) h K:=by
 have e:jj a (.iface uU (.ptr lf 0)) args h=some (.call f (w::args)):=by
  unfold jj;simp only[b,LN c rfl,eQ]
 rw[e,BX];exact H
theorem OQ{a:String}{f:Nat}{args:List V}(b:methodOf uU a=some (f,none))(H:cP CS f (.ptr lf 0::args) h K):gv CS (jj a (.iface uU (.ptr lf 0)) args h) h K:=by
 have e:jj a (.iface uU (.ptr lf 0)) args h=some (.call f (.ptr lf 0::args)):=by
  unfold jj;simp only[b]
 rw[e,BX];exact H
abbrev J7(F:Nat->Prop)(h:Hp)(lf:Nat)(xs:List Int)(w:V)(cs:List Pc):Prop:=er F h (fo eZ fy xs w::ey lf IT [w]::cs)
theorem Sf(H:J7 F h lf xs w cs) (a:K (.I xs.length) h):gv CS (jj "Len" (.iface uU (.ptr lf 0)) [] h) h K:=by
 refine HT Qr (H.ld 1 rfl rfl) (Fw rfl rfl ?_);unfold yR;exact ec (H.len 0 rfl) a
theorem Ke(H:J7 F h lf xs w cs){i j:Nat}{x y:Int}(hi:xs[i]? =some x)(a:xs[j]? =some y)(b:K (.bool (decide (x<y))) h) :
  cP CS ni [w,.I i,.I j] h K:=by
 refine EJ rfl rfl ?_;unfold xM;obtain⟨e,o1,p1,p2⟩:=H.wQ 0 rfl hi .i64;obtain⟨l2,o2,c,d⟩:=H.wQ 0 rfl a .i64;exact ec p1 (ec p2 (ec c (ec d (ec (jo _ _ _ _) b))))
def Vk(xs:List Int)(i j:Nat)(x y:Int):List Int:=(xs.set i y).set j x
theorem NU(H:J7 F h lf xs w cs){i j:Nat}{x y:Int}(hi:xs[i]? =some x)(a:xs[j]? =some y)(c:∀h',Sn F h F h'->J7 F h' lf (Vk xs i j x y) w cs->K (.tuple []) h') :
  gv CS (jj "Swap" (.iface uU (.ptr lf 0)) [.I i,.I j] h) h K:=by
 refine HT Pj (H.ld 1 rfl rfl) (DY rfl rfl ?_);unfold xK;obtain⟨q,o1,p1,p2⟩:=H.wQ 0 rfl hi .i64;obtain⟨l2,o2,d,e⟩:=H.wQ 0 rfl a .i64;have f:=(jw.1 hi).1;have g:=(jw.1 a).1;obtain⟨l3,r,s,r1,r2,r3,b,s1⟩:=H.AD 0 rfl (k:=i) f rfl (y:=y) (u:= .I y) rfl rfl;simp only[ot]at b;obtain⟨l4,t,l,m,n,t3,o,p⟩:=b.AD 0 rfl (k:=j) (by simpa using g) rfl (y:=x) (u:= .I x) rfl rfl;refine ec d (ec e (ec p1 (ec p2 (ec r1 ?_))));rw[r2,ej];refine⟨r3,ec m ?_⟩;rw[n,ej];exact⟨t3,c l (s1.trans p) o⟩
theorem SS(H:J7 F h lf xs w cs)(p:xs.length<100){x:Int}(f:∀h' w',Sn F h F h'->J7 F h' lf (xs++[x]) w' cs->K (.tuple []) h') :
  gv CS (jj "Push" (.iface uU (.ptr lf 0)) [.iface fy (.I x)] h) h K:=by
 refine OQ Px (Ex rfl rfl ?_);unfold rz;refine ec (fj _ _) (ec (H.ld 1 rfl rfl) (ec (show J0 3 (V.I 0) (.iface fy (.I x))=some (.I x) from rfl) ?_));obtain⟨c,g,e1,e2,d,s1⟩:=H.DD 0 rfl (lV:=8) (Pw:=3) (y:=x) (w:=[.I x]) (ro:=false) rfl (by decide) (by decide) (by omega);rw[KB rfl rfl];refine⟨⟨ez _ _,by simp[O.beq,V.GL,V.beq]⟩,?_⟩;have i:en (.ptr lf (0+0)) (h.new (.cells 3 1 true false [.I x]))=some w:=by
  obtain⟨a,b,_⟩:=H.ok 1 _ rfl;exact js ((eR _ b).trans a) rfl
 refine⟨i,?_⟩;have e:fh 3 1 8 w (.slice h.next 0 1) (h.new (.cells 3 1 true false [.I x]))=some (.val c g):=e1;rw[e,ej];simp only[ot]at d;obtain⟨j,k,l,m,n⟩:=d.st 1 rfl (o:=0) (by simp) (u:=c) (d.one 0 rfl);refine⟨e2,ec (fj _ _) ?_⟩;rw[k,ej];exact⟨l,f j c (s1.trans n) m⟩
theorem Vg{x:Int}(H:J7 F h lf (xs++[x]) w cs)(l:xs.length<100)(c:∀h',Sn F h F h'->er F h' cs->K (.iface fy (.I x)) h') :
  gv CS (jj "Pop" (.iface uU (.ptr lf 0)) [] h) h K:=by
 refine OQ Sh (FW rfl rfl ?_);unfold y5;obtain⟨m,o1,p1,p2⟩:=H.wQ 0 rfl (k:=xs.length) (x:=x) (by simp) .i64;have a:ef .sub 3 (.I ((xs++[x]).length:Nat)) (.I 1)=some (.I xs.length):=by
  rw[iy,iO (by simp only[Fb,Ja,Xk];omega)];simp
 obtain⟨d,e,b⟩:=H.Vd 0 rfl (n:=xs.length) (by simp);simp only[ot]at b;refine ec (fj _ _) (ec (H.ld 1 rfl rfl) (ec (H.len 0 rfl) (ec a (ec (fj _ _) (ec (H.ld 1 rfl rfl) (ec p1 (ec p2 (ec (fj _ _) (ec (H.ld 1 rfl rfl) (ec e (ec (fj _ _) ?_)))))))))));obtain⟨f,g,p,i,j⟩:=b.st 1 rfl (o:=0) (by simp) (u:=d) (b.one 0 rfl);rw[g,ej];exact c f j i.tail.tail
theorem PY{n:Nat}(a:n<1000000):ef .quo 3 (.I ((n:Nat):Int)) (.I 2)=some (.I ((n / 2:Nat):Int)):=by
 show some (V.I (jt .i64 (Int.tdiv (n:Int) 2)))=_;have:Int.tdiv (n:Int) 2=((n / 2:Nat):Int):=by rw[Int.tdiv_eq_ediv_of_nonneg (by omega)];rfl
 rw[this,iO (by simp only[Fb];omega)]
theorem LY{a:String}{f:Nat}{args:List V}(b:methodOf uU a=some (f,some IT))(c:en (.ptr lf 0) h=some w):oB (jj a (.iface uU (.ptr lf 0)) args h) ye=some (f,w::args):=by
 unfold jj;simp only[b,LN c rfl,eQ];rfl
theorem Yq{x:Int}(H:J7 F h lf (xs++[x]) w cs)(b:∀y∈xs,y<=x)(c:xs.length<100)(a:K (.tuple []) h):cP CS mj [.iface uU (.ptr lf 0),.I (xs.length:Nat)] h K:=by
 refine B9 rfl rfl ?_;unfold uY;refine zM (λ_ l h'=>l=[.iface uU (.ptr lf 0),.I xs.length]/\h' = h) ?_ (k:=0) ⟨rfl,rfl⟩;rintro k _ _ h' ⟨⟨⟩,rfl⟩;unfold sk;rw[iy,gZ,iO (by simp only[Fb];omega)]
 cases hn:xs.length with
 | zero=>
   refine ec (show ef .quo 3 _ _=some (.I 0) from rfl) (ec (show ef .eql 3 _ _=some (.bool true) from rfl) ?_);refine QZ (QZ (QZ ?_))
   exact a
 | succ n=>
   rw[hn]at c;have e:((n+1:Nat):Int)-1=(n:Nat):=by omega
   rw[e];refine ec (PY (by omega)) (gG ?_);rw[OI (by omega)];refine gM (ec rfl (gM (ec rfl (gM (ec rfl ?_)))));have hi:(xs++[x])[n / 2]? =some xs[n / 2]:=by rw[Qg (by omega)];exact iH (by omega)
   have d:(xs++[x])[n+1]? =some x:=by rw[<-hn];simp
   rw[LY EO (H.ld 1 rfl rfl)];refine tN (Ke H d hi ?_);rw[OI (by have:=b _ (Cj (show n / 2<xs.length by omega));omega)];exact a
theorem NS{x:Int}(H:J7 F h lf xs w cs)(c:∀y∈xs,y<=x)(b:xs.length<100)(d:∀h' w',Sn F h F h'->J7 F h' lf (xs++[x]) w' cs->K (.tuple []) h') :
  cP CS jQ [.iface uU (.ptr lf 0),.iface fy (.I x)] h K:=by
 refine Ax rfl rfl ?_;unfold sZ;refine SS H b λe w1 s1 a=>?_;refine Sf a ?_;rw[iy,gZ,iO (by simp only[Fb,Ja,Xk];omega)];rw[show(((xs++[x]).length:Nat):Int)-1=(xs.length:Nat) by simp];exact Yq a c b (d e w1 s1 a)
theorem TV(H:J7 F h lf xs w cs){n:Nat}(z:n<=xs.length)(A:xs.length<100)(t:∀h' a b,Sn F h F h'->a.length=xs.length->(∀k,n<=k->a[k]? =xs[k]?)->J7 F h' lf a w cs->K (.bool b) h') :
  cP CS lB [.iface uU (.ptr lf 0),.I 0,.I n] h K:=by
 refine AE rfl rfl ?_;unfold te
 refine yB (λk l h'=>∃(i:Nat) (ys:List Int),l=[.iface uU (.ptr lf 0),.I 0,.I n,.I i]/\i+k=n+1/\Sn F h F h'/\ys.length=xs.length/\(∀k,n<=k->ys[k]? =xs[k]?)/\J7 F h' lf ys w cs) ?_ (k:=n+1)
  ⟨0,xs,rfl,by omega,.refl _ _,rfl,λ_ _=>rfl,H⟩
 rintro k _ _ _ _ e ⟨i,ys,⟨⟩,B,s1,o,d,c⟩;unfold qf;have e2:ef .mul 3 (.I 2) (.I i)=some (.I ((2*i:Nat):Int)):=by
  rw[Sc,iO (by simp only[Fb];omega)];rfl
 have fin:jZ CS K [.I 0,.I i] e:=by
  refine yo ?_;unfold pW;exact ec (my _ _ _ _) (t e ys _ s1 o d c)
 refine ec e2 (iA (n:=2*i) (m:=1) (by omega) (by omega) (ec (nU _ _ _ _) ?_));have f:mh (.bool (decide (((n:Nat):Int)<=((2*i+1:Nat):Int)))) (oB (some (V.I ((2*i+1:Nat):Int))) λg=>ef .lss 3 g (V.I 0))=some (.bool (decide (n<=2*i+1))):=by
  simp only[eQ,jo,iM];rw[OI (p:=((2*i+1:Nat):Int)<0) (by omega),Bool.or_false,show decide (((n:Nat):Int)<=((2*i+1:Nat):Int))=decide (n<=2*i+1) from decide_eq_decide.2 (by omega)]
 refine ec f (je ?_);by_cases hb:n<=2*i+1
 ·exact gU (by simpa using hb) fin
 refine gB (by simpa using hb) ?_
 have next:∀j:Nat,i<j->j<n->j6 CS K (IL (λk l h'=>∃(i:Nat) (ys:List Int),l=[.iface uU (.ptr lf 0),.I 0,.I n,.I i]/\i+k=n+1/\Sn F h F h'/\ys.length=xs.length/\(∀k,n<=k->ys[k]? =xs[k]?)/\J7 F h' lf ys w cs) k)
   [.iface uU (.ptr lf 0),.I 0,.I n,.I i,.I (j:Nat)] e:=λj C D=>by
  refine yx ?_;unfold pV;have r:ys[j]? =some ys[j]:=iH (by omega);have s:ys[i]? =some ys[i]:=iH (by omega);refine HT EO (c.ld 1 rfl rfl) (Ke c r s ?_);refine yz ?_;split
  ·refine NU c s r λE u v=>⟨n+1-j,by omega,j,_,rfl,by omega,s1.trans u,by simp[Vk,o],λq hq=>?_,v⟩
   unfold Vk;rw[Iv (by omega),Iv (by omega)];exact d q hq
  ·exact fin
 refine iA (n:=2*i+1) (m:=1) (by omega) (by omega) (ec (jo _ _ _ _) ?_);by_cases hc:2*i+1+1<n
 ·rw[Qy (by omega)];refine jl (ec rfl (jl (ec rfl (jl (ec rfl ?_)))));rw[LY EO (c.ld 1 rfl rfl)];refine Hj (Ke c (x:=ys[2*i+1+1]) (y:=ys[2*i+1]) (iH (by omega)) (iH (by omega)) ?_);refine ec (Nm _ _ _) ?_;rw[if_pos rfl];refine je ?_;split
  ·exact next _ (by omega) hc
  ·exact next _ (by omega) (by omega)
 ·rw[OI (by omega)];refine nR (nR (nR ?_));exact next _ (by omega) (by omega)
theorem VR{x:Int}(H:J7 F h lf (x::xs) w cs)(q:xs.length<90)(g:∀h',Sn F h F h'->er F h' cs->K (.iface fy (.I x)) h'):cP CS lT [.iface uU (.ptr lf 0)] h K:=by
 refine AL rfl rfl ?_;unfold ug;refine Sf H ?_;rw[iy,gZ,iO (by simp only[Fb,MX];omega)];rw[show(((x::xs).length:Nat):Int)-1=(xs.length:Nat) by simp];obtain⟨y,gl⟩:∃y,(x::xs)[xs.length]? =some y:=⟨_,iH (by simp)⟩
 refine NU (i:=0) H rfl gl λr s1 j=>?_;refine TV j (n:=xs.length) (by simp[Vk]) (by simp[Vk];omega) λs a b k e f l=>?_;have c:a.length=xs.length+1:=by rw[e];simp[Vk]
 obtain ⟨d,z,rfl⟩:∃d z,a=d++[z]:=by
  rcases gY a with h|h
  ·subst h;cases c
  ·exact h
 have m:d.length=xs.length:=by simpa using c
 have:z=x:=by
  have:=f xs.length (jn _);rw[show(d++[z])[xs.length]? =some z by rw[<-m];simp]at this;unfold Vk at this;rw[G2 (by simp)]at this;exact Option.some.inj this
 subst this;exact Vg l (by omega) λo p=>g o ((s1.trans k).trans p)
theorem QW{t:Nat}{S:Int->Prop}{i:Nat}(Q:er F h cs)(hi:cs[i]? =some (IG t S)){s0:Nat}(R:s0<=3000)(zg:¬S ((16+s0:Nat):Int))
  (T:∀h' k,Sn F h F h'->er F h' cs->¬S k->((0<=k/\k<12)\/(16<=k/\k<=16+s0/\∀r:Nat,r<12->S (r:Nat)))->K (.I k) h'):cP CS tL [.map t] h K:=by
 refine Jf rfl rfl ?_;unfold CM;rw[wJ,fJ];obtain⟨B,s1⟩:=Q.KX (E:=eZ) (xs:=[]) (ws:=[]) (n:=0) fy rfl trivial rfl;have B:er F (h.new (.cells 3 1 true false [])) (fo eZ fy [] (.slice h.next 0 0)::cs):=B;have s1:Sn F h F (h.new (.cells 3 1 true false [])):=s1;generalize h.new (.cells 3 1 true false [])=m at*;generalize V.slice h.next 0 0=w0 at*;obtain⟨v,C⟩:=B.GG IT [.ed];rw[fJ];have v:er F (m.new (.cells 88 1 true false [.ed])) (ey m.next IT [.ed]::fo eZ fy [] w0::cs):=v;have C:Sn F m F (m.new (.cells 88 1 true false [.ed])):=C;generalize m.new (.cells 88 1 true false [.ed])=Y at*;generalize m.next=lf at*;obtain⟨U,N,_,D,O⟩:=v.st 0 rfl (o:=0) (by simp) (u:=w0) (v.one 1 rfl);simp only[ot]at D;rw[N,ej];have D:J7 F U lf [] w0 cs:=D.sw;have G:=(s1.trans C).trans O;clear B v s1 C O N;have a:∀{x:Nat},ef .add 3 (.I (x:Nat)) (.I 1)=ef .add 3 (.I (x:Nat)) (.I ((1:Nat):Int)):=rfl
 have fw:∀(s:Nat) (xs:List Int) (w:V) (h':Hp) (k:Nat),Sn F h F h'->J7 F h' lf xs w cs->xs.length<=13->(∀x∈xs,¬S x/\((0<=x/\x<12)\/(16<=x/\x<=16+s0/\∀r:Nat,r<12->S (r:Nat))))->
   (xs=[]->s+k=s0+1/\s<=s0/\∀r:Nat,r<12->S (r:Nat))->s<=s0+1->tm CS K [.map t,.ptr lf 0,.I ((16+s:Nat):Int)] h':=by
  intro s xs w h' k f c p g j H
  refine FM (λk l h'=>∃(s:Nat) (xs:List Int) (w:V),l=[.map t,.ptr lf 0,.I ((16+s:Nat):Int)]/\Sn F h F h'/\J7 F h' lf xs w cs/\xs.length<=13/\
   (∀x∈xs,¬S x/\((0<=x/\x<12)\/(16<=x/\x<=16+s0/\∀r:Nat,r<12->S (r:Nat))))/\(xs=[]->s+k=s0+1/\s<=s0/\∀r:Nat,r<12->S (r:Nat))/\s<=s0+1) ?_ (k:=k) ⟨s,xs,w,rfl,f,c,p,g,j,H⟩
  clear f c p g j H s xs w h' k;rintro k _ _ _ h' ⟨s,xs,w,⟨⟩,f,c,p,g,j,H⟩;unfold yN;refine ec (c.ld 1 rfl rfl) (ec (c.len 0 rfl) (gG (je ?_)))
  cases xs with
  | nil=>
    obtain⟨Z,b2,P⟩:=j rfl;refine gU rfl ?_;obtain⟨b,I,c2⟩:=c.Uj (i+2) hi ((16+s:Nat):Int);refine ec I (yz ?_);by_cases hb:b=true
    ·refine gU hb (xQ ?_)
     unfold rU;rw[a];have hs:s≠s0:=λe=>zg (e▸c2.1 hb);exact iA (by omega) (by omega) ⟨k-1,by omega,s+1,[],w,rfl,f,c,p,g,λ_=>⟨by omega,by omega,P⟩,by omega⟩
    ·refine gB hb (NS c (by simp) (by simp) λJ L z A=>xQ ?_)
     unfold rU;rw[a];refine iA (by omega) (by omega) ⟨0,by omega,s+1,[((16+s:Nat):Int)],L,rfl,f.trans z,A,by simp,λx d=>?_,(λe=>by cases e),by omega⟩;obtain rfl:=Ig.1 d
     exact⟨λM=>hb (c2.2 M),.inr ⟨by omega,by omega,P⟩⟩
  | cons x xs=>
    refine gB (by simp;omega) (VR c (by simp at p;omega) λJ z A=>?_);refine ec (show J0 3 (V.I 0) (.iface fy (.I x))=some (.I x) from rfl) ?_;have d:=g x (M9 ..);exact T J x (f.trans z) A d.1 d.2
 refine Fv (λk l h'=>∃(r:Nat) (xs:List Int) (w:V),l=[.map t,.ptr lf 0,.I r]/\r+k=12/\Sn F h F h'/\J7 F h' lf xs w cs/\xs.length<=r/\(∀x∈xs,0<=x/\x<r/\¬S x)/\∀q:Nat,q<r->S (q:Nat)\/((q:Nat):Int)∈xs) ?_ (k:=12)
  ⟨0,[],w0,rfl,rfl,G,D,jn _,by simp,by simp⟩
 rintro k _ _ _ h' ⟨r,xs,w,⟨⟩,hk,f,c,p,g,j⟩;unfold zp;by_cases hr:r<12
 ·refine hV ?_;obtain⟨b,I,c2⟩:=c.Uj (i+2) hi (r:Nat);refine ec I (yz ?_);by_cases hb:b=true
  ·refine gU hb (xU ?_);unfold sy;rw[a];refine iA (by omega) (by omega) ⟨k-1,by omega,r+1,xs,w,rfl,by omega,f,c,by omega,λx d=>?_,λq hq=>?_⟩
   ·have:=g x d;exact⟨this.1,by omega,this.2.2⟩
   ·by_cases hq2:q=r
    ·subst hq2;exact .inl (c2.1 hb)
    ·exact j q (by omega)
  ·refine gB hb (NS c (λy W=>by have:=g y W;omega) (by omega) λJ L z A=>xU ?_);unfold sy;rw[a];refine iA (by omega) (by omega) ⟨k-1,by omega,r+1,xs++[((r:Nat):Int)],L,rfl,by omega,f.trans z,A,by simp;omega,λx d=>?_,λq hq=>?_⟩
   ·rcases AI.1 d with d|d
    ·have:=g x d;exact⟨this.1,by omega,this.2.2⟩
    ·obtain rfl:=Ig.1 d;exact⟨by omega,by omega,λM=>hb (c2.2 M)⟩
   ·by_cases hq2:q=r
    ·subst hq2;exact .inr (List.mem_append_right _ (Ig.2 rfl))
    ·exact(j q (by omega)).imp id λX=>Sv _ X
 ·refine jG ?_;obtain rfl:r=12:=by omega
  refine fw 0 xs w h' (s0+1) f c (by omega) (λx d=>?_) (λe=>⟨by omega,by omega,λq hq=>(j q hq).resolve_right (by rw[e];simp)⟩) (by omega);have:=g x d;exact⟨this.2.2,.inl ⟨this.1,this.2.1⟩⟩
end
