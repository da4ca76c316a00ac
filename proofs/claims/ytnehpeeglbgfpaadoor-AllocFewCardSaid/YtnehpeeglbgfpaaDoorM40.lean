/- Parts. -/
import Derived.Test.YtnehpeeglbgfpaaDoorM30
import Derived.Test.YtnehpeeglbgfpaaDoorM34
set_option maxHeartbeats 4000000
namespace Go.Proofs.YtnehpeeglbgfpaaDoor.Hx
open Un Dm
def GO(l:Nat)(S:Int->Prop):Pc where
 lG:=λm=>m=l
 ok F h:=((∃es c,h.get l=some (.map es c)/\(∀e∈es,∃k:Int,e.1 = .I k/\e.2.1 = .bool true/\S k)/\∀k,S k->∃e∈es,e.1 = .I k)\/∃ks,h.get l=some (.Hi .i64 ks)/\∀k,k∈ks↔S k)/\l<h.next/\¬F l
 Hl:=λh _ e=>by subst e;exact h.2
 eC:=λ⟨a,f⟩ _ b g=>⟨a.imp (λ⟨es,c,a,d⟩=>⟨es,c,(b l rfl).trans a,d⟩) λ⟨ks,a,d⟩=>⟨ks,(b l rfl).trans a,d⟩,yG f.1 g,f.2⟩
 mono:=λh _ b=>⟨h.1,h.2.1,b l rfl⟩
section
variable{F F':Nat->Prop}{h h':Hp}{cs:List Pc}{l:Nat}{S:Int->Prop}
theorem en.Hi(H:en F h cs)(i:Nat)(hi:cs[i]? =some (pY l S)):en F h (cs.set i (GO l S)):=
 H.swap hi (let⟨a,b⟩:=H.ok i _ hi;⟨.inl a,b⟩) λ_ h=>h
theorem FO:yx fI=true:=by
 unfold yx fI
 kernel_rfl
theorem en.Ti(H:en F h cs)(i:Nat)(hi:cs[i]? =some (GO l S))(k:Int):∃b,He fI none (.bool false) false (.map l) (.I k) h=some (.bool b)/\(b=true↔S k):=by
 obtain⟨h0|⟨ks,a,c⟩,d,e⟩:=H.ok i _ hi
 ·have f:en F h (cs.set i (pY l S)):=H.swap hi ⟨h0,d,e⟩ λ_ h=>h;exact f.look i (Fz (jv.1 hi).1) k
 ·refine⟨zE ks k,?_,B6.trans (c k)⟩;unfold He xG;simp only[a,fg];unfold Fp;simp only[FO];cases zE ks k <;> rfl
theorem en.Xu(H:en F h cs)(i:Nat)(hi:cs[i]? =some (GO l S))(k:Int):∃h',zt fI none (.map l) (.I k) (.bool true) h=some (.val .undef h')/\h.next<=h'.next/\en F h' (cs.set i (GO l λx=>S x\/x=k))/\Sn F h F h':=by
 obtain⟨h0|⟨ks,e,f⟩,a,b⟩:=H.ok i _ hi
 ·have c:=(jv.1 hi).1;have g:en F h (cs.set i (pY l S)):=H.swap hi ⟨h0,a,b⟩ λ_ h=>h;obtain⟨h',e1,e2,d,j⟩:=g.gR i (Fz c) k;rw[List.set_set]at d;refine⟨h',e1,e2,?_,j⟩;have:=d.Hi i (Fz c)
  rwa [List.set_set]at this
 ·refine⟨h.put l (.Hi .i64 (k::ks)),?_,je _,H.BE (p:=GO l λx=>S x\/x=k) hi (ki.put _ rfl a) ⟨.inr ⟨k::ks,fG _ a,λx=>?_⟩,a,b⟩ λ_ h=> .inl h⟩
  ·unfold zt xG;simp only[e,fg];unfold Lm;simp only[FO];rfl
  ·rw[zq,f x];exact or_comm
theorem Kf{S:Int->Prop}:∀{es:List (V×V×Nat)},(∀e∈es,∃k:Int,e.1 = .I k/\e.2.1 = .bool true/\S k)->∃ks,EU .i64 es=some ks/\∀k,k∈ks↔∃e∈es,e.1 = .I k
 |[],_=>⟨[],rfl,by simp⟩
 | ⟨a,b,n⟩::es,hh=>by
   obtain⟨k,f,g,_⟩:=hh _ (Lh ..);obtain⟨ks,h,i⟩:=Kf (S:=S) (es:=es) λe c=>hh e (SP _ c);simp only at f g;subst f g;refine⟨k::ks,by simp only[EU,TP,h];rfl,λx=>?_⟩;rw[zq,i x];constructor
   ·rintro(rfl|⟨e,c,d⟩)
    ·exact⟨_,Lh ..,rfl⟩
    ·exact⟨e,SP _ c,d⟩
   ·rintro⟨e,c,d⟩
    rcases zq.1 c with rfl|c
    ·cases d;exact .inl rfl
    ·exact .inr ⟨e,c,d⟩
theorem en.fill(H:en F h cs)(i j:Nat){d lu:Nat}(hi:cs[i]? =some (pY d S))(n:cs[j]? =some (pY lu λ_=>False))(o:i≠j) :
  ∃s g,zG (.map d) h=some (.val (.ptr h.next 0) s)/\FY .i64 (.ptr h.next 0) (.map lu) s=some g/\h.next<=g.next/\en F g (cs.set j (GO lu S))/\Sn F h F g:=by
 obtain ⟨⟨es,c,t,u,v⟩,w,K⟩:=H.ok i _ hi;obtain⟨⟨us,x,y,z,L⟩,q,A⟩:=H.ok j _ n;have r:us=[]:=by
  cases us with
  |nil=>rfl
  |cons e us=>obtain⟨_,_,_,B⟩:=z e (Lh ..);exact B.elim
 subst r;have pQ:lu≠d:=λe=>H.AO i j _ _ hi n o d rfl e.symm;obtain⟨ks,C,D⟩:=Kf u;have gn:=ey h (.iter (some d) c [] c);have gm:(h.new (.iter (some d) c [] c)).get d=some (.map es c):=(eJ _ w).trans t;have gu:(h.new (.iter (some d) c [] c)).get lu=some (.map [] x):=(eJ _ q).trans y;have f:lu<(h.new (.iter (some d) c [] c)).next:=SI q;refine⟨h.new (.iter (some d) c [] c),((h.new (.iter (some d) c [] c)).put h.next .gone).put lu (.Hi .i64 ks),?_,?_,JM _,?_⟩
 ·unfold zG vr;simp only[t,fg]
 ·unfold FY;simp only[px,Oy,bB,gn,fg,vr,gm,gu,C,Bool.and_self,List.isEmpty_nil];rw[show Nat.beq lu d=false from VI.2 λe=>pQ (tS e)];rfl
 ·have hc:ki (λm=>m=lu) h (((h.new (.iter (some d) c [] c)).put h.next .gone).put lu (.Hi .i64 ks)):=by
   refine⟨JM _,λl E G=>?_⟩;exact(fN (h:=(h.new (.iter (some d) c [] c)).put h.next .gone) _ f λe=>G e.symm).trans ((fN (h:=h.new (.iter (some d) c [] c)) _ (JI _) (by omega)).trans (eJ _ E))
  exact H.BE (p:=GO lu S) n hc ⟨.inr ⟨ks,fG (h:=(h.new (.iter (some d) c [] c)).put h.next .gone) _ f,λk=>(D k).trans ⟨λ⟨e,I,J⟩=>by
   obtain⟨k',a,_,b⟩:=u e I;rw[J]at a;cases a;exact b,v k⟩⟩,SI q,A⟩ λ_ e=> .inl e
end
open Un Dm
section
variable{F F':Nat->Prop}{h h':Hp}{cs:List Pc}{Q K:fu}{lf:Nat}{w:V}{xs:List Int}
theorem Pl:methodOf tT "Len" = some (sD,some Hw):=by kernel_rfl
theorem DS:methodOf tT "Less" = some (mE,some Hw):=by kernel_rfl
theorem NH:methodOf tT "Swap" = some (qZ,some Hw):=by kernel_rfl
theorem Ob:methodOf tT "Push" = some (kQ,none):=by kernel_rfl
theorem Qg:methodOf tT "Pop" = some (sk,none):=by kernel_rfl
theorem KF{v:V}(a:er (.ptr lf 0) h=some w)(b:v = .ptr lf 0):(BB Hw ⟨λ_ _=>some v⟩).f (.tree .leaf []) h=some w:=by
 subst b;rw[<-a];unfold BB;rw[show Ff Hw=some false from by kernel_rfl];rfl
theorem G2{a:String}{f:Nat}{args:List V}(b:methodOf tT a=some (f,some Hw))(c:er (.ptr lf 0) h=some w)(H:cP CS f (w::args) h K):gg CS (iY a (.iface tT (.ptr lf 0)) args h) h K:=by
 have e:iY a (.iface tT (.ptr lf 0)) args h=some (.call f (w::args)):=by
  unfold iY;simp only[b,KF c rfl,fg]
 rw[e,AQ];exact H
theorem Mm{a:String}{f:Nat}{args:List V}(b:methodOf tT a=some (f,none))(H:cP CS f (.ptr lf 0::args) h K):gg CS (iY a (.iface tT (.ptr lf 0)) args h) h K:=by
 have e:iY a (.iface tT (.ptr lf 0)) args h=some (.call f (.ptr lf 0::args)):=by
  unfold iY;simp only[b]
 rw[e,AQ];exact H
abbrev IC(F:Nat->Prop)(h:Hp)(lf:Nat)(xs:List Int)(w:V)(cs:List Pc):Prop:=en F h (ft eZ fI xs w::eE lf Hw [w]::cs)
theorem PT(H:IC F h lf xs w cs) (a:K (.I xs.length) h):gg CS (iY "Len" (.iface tT (.ptr lf 0)) [] h) h K:=by
 refine G2 Pl (H.ld 1 rfl rfl) (Eg rfl rfl ?_);unfold xI;exact ec (H.len 0 rfl) a
theorem Jl(H:IC F h lf xs w cs){i j:Nat}{x y:Int}(hi:xs[i]? =some x)(a:xs[j]? =some y)(b:K (.bool (decide (x<y))) h) :
  cP CS mE [w,.I i,.I j] h K:=by
 refine De rfl rfl ?_;unfold wF;obtain⟨g,o1,c,d⟩:=H.Cg 0 rfl hi .i64;obtain⟨l2,o2,e,f⟩:=H.Cg 0 rfl a .i64;exact ec c (ec d (ec e (ec f (ec (mU _ _ _ _) b))))
def Ui(xs:List Int)(i j:Nat)(x y:Int):List Int:=(xs.set i y).set j x
theorem M1(H:IC F h lf xs w cs){i j:Nat}{x y:Int}(hi:xs[i]? =some x)(a:xs[j]? =some y)(c:∀h',Sn F h F h'->IC F h' lf (Ui xs i j x y) w cs->K (.tuple []) h') :
  gg CS (iY "Swap" (.iface tT (.ptr lf 0)) [.I i,.I j] h) h K:=by
 refine G2 NH (H.ld 1 rfl rfl) (Dc rfl rfl ?_);unfold wP;obtain⟨s,o1,d,e⟩:=H.Cg 0 rfl hi .i64;obtain⟨l2,o2,f,g⟩:=H.Cg 0 rfl a .i64;have l:=(jv.1 hi).1;have m:=(jv.1 a).1;obtain⟨l3,t,v,r1,r2,r3,b,s1⟩:=H.zm 0 rfl (k:=i) l rfl (y:=y) (u:= .I y) rfl rfl;simp only[pP]at b;obtain⟨l4,z,n,o,p,t3,q,r⟩:=b.zm 0 rfl (k:=j) (by simpa using m) rfl (y:=x) (u:= .I x) rfl rfl;refine ec f (ec g (ec d (ec e (ec r1 ?_))));rw[r2,eh];refine⟨r3,ec o ?_⟩;rw[p,eh];exact⟨t3,c n (s1.trans r) q⟩
theorem RS(H:IC F h lf xs w cs)(p:xs.length<100){x:Int}(f:∀h' w',Sn F h F h'->IC F h' lf (xs++[x]) w' cs->K (.tuple []) h') :
  gg CS (iY "Push" (.iface tT (.ptr lf 0)) [.iface fI (.I x)] h) h K:=by
 refine Mm Ob (CM rfl rfl ?_);unfold rG;refine ec (fc _ _) (ec (H.ld 1 rfl rfl) (ec (show HS 3 (V.I 0) (.iface fI (.I x))=some (.I x) from rfl) ?_));obtain⟨c,g,e1,e2,d,s1⟩:=H.En 0 rfl (lD:=8) (Ox:=3) (y:=x) (w:=[.I x]) (ro:=false) rfl (by decide) (by decide) (by omega);rw[Mq rfl rfl];refine⟨⟨ey _ _,by simp[O.beq,V.E8,V.beq]⟩,?_⟩;have i:er (.ptr lf (0+0)) (h.new (.cells 3 1 true false [.I x]))=some w:=by
  obtain⟨a,b,_⟩:=H.ok 1 _ rfl;exact jd ((eJ _ b).trans a) rfl
 refine⟨i,?_⟩;have e:fh 3 1 8 w (.slice h.next 0 1) (h.new (.cells 3 1 true false [.I x]))=some (.val c g):=e1;rw[e,eh];simp only[pP]at d;obtain⟨j,k,l,m,n⟩:=d.st 1 rfl (o:=0) (by simp) (u:=c) (d.one 0 rfl);refine⟨e2,ec (fc _ _) ?_⟩;rw[k,eh];exact⟨l,f j c (s1.trans n) m⟩
theorem TO{x:Int}(H:IC F h lf (xs++[x]) w cs)(p:xs.length<100)(c:∀h',Sn F h F h'->en F h' cs->K (.iface fI (.I x)) h') :
  gg CS (iY "Pop" (.iface tT (.ptr lf 0)) [] h) h K:=by
 refine Mm Qg (El rfl rfl ?_);unfold xZ;obtain⟨q,o1,d,e⟩:=H.Cg 0 rfl (k:=xs.length) (x:=x) (by simp) .i64;have a:ej .sub 3 (.I ((xs++[x]).length:Nat)) (.I 1)=some (.I xs.length):=by
  rw[hZ,iR (by simp only[Fe,Hm,Wc];omega)];simp
 obtain⟨f,g,b⟩:=H.TN 0 rfl (n:=xs.length) (by simp);simp only[pP]at b;refine ec (fc _ _) (ec (H.ld 1 rfl rfl) (ec (H.len 0 rfl) (ec a (ec (fc _ _) (ec (H.ld 1 rfl rfl) (ec d (ec e (ec (fc _ _) (ec (H.ld 1 rfl rfl) (ec g (ec (fc _ _) ?_)))))))))));obtain⟨i,j,r,l,m⟩:=b.st 1 rfl (o:=0) (by simp) (u:=f) (b.one 0 rfl);rw[j,eh];exact c i m l.tail.tail
theorem NK{n:Nat}(a:n<1000000):ej .quo 3 (.I ((n:Nat):Int)) (.I 2)=some (.I ((n / 2:Nat):Int)):=by
 show some (V.I (jw .i64 (Int.tdiv (n:Int) 2)))=_;have:Int.tdiv (n:Int) 2=((n / 2:Nat):Int):=by rw[Int.tdiv_eq_ediv_of_nonneg (by omega)];rfl
 rw[this,iR (by simp only[Fe];omega)]
theorem KV{a:String}{f:Nat}{args:List V}(b:methodOf tT a=some (f,some Hw))(c:er (.ptr lf 0) h=some w):oB (iY a (.iface tT (.ptr lf 0)) args h) xj=some (f,w::args):=by
 unfold iY;simp only[b,KF c rfl,fg];rfl
theorem Wj{x:Int}(H:IC F h lf (xs++[x]) w cs)(b:∀y∈xs,y<=x)(c:xs.length<100)(a:K (.tuple []) h):cP CS lI [.iface tT (.ptr lf 0),.I (xs.length:Nat)] h K:=by
 refine Bv rfl rfl ?_;unfold uk;refine ym (λ_ l h'=>l=[.iface tT (.ptr lf 0),.I xs.length]/\h' = h) ?_ (k:=0) ⟨rfl,rfl⟩;rintro k _ _ h' ⟨⟨⟩,rfl⟩;unfold rn;rw[hZ,gQ,iR (by simp only[Fe];omega)]
 cases hn:xs.length with
 | zero=>
   refine ec (show ej .quo 3 _ _=some (.I 0) from rfl) (ec (show ej .eql 3 _ _=some (.bool true) from rfl) ?_);refine PX (PX (PX ?_))
   exact a
 | succ n=>
   rw[hn]at c;have e:((n+1:Nat):Int)-1=(n:Nat):=by omega
   rw[e];refine ec (NK (by omega)) (gj ?_);rw[ML (by omega)];refine ig (ec rfl (ig (ec rfl (ig (ec rfl ?_)))));have hi:(xs++[x])[n / 2]? =some xs[n / 2]:=by rw[NQ (by omega)];exact iQ (by omega)
   have d:(xs++[x])[n+1]? =some x:=by rw[<-hn];simp
   rw[KV DS (H.ld 1 rfl rfl)];refine ye (Jl H d hi ?_);rw[ML (by have:=b _ (B9 (show n / 2<xs.length by omega));omega)];exact a
theorem Mw{x:Int}(H:IC F h lf xs w cs)(c:∀y∈xs,y<=x)(b:xs.length<100)(d:∀h' w',Sn F h F h'->IC F h' lf (xs++[x]) w' cs->K (.tuple []) h') :
  cP CS jy [.iface tT (.ptr lf 0),.iface fI (.I x)] h K:=by
 refine zs rfl rfl ?_;unfold rP;refine RS H b λe w1 s1 a=>?_;refine PT a ?_;rw[hZ,gQ,iR (by simp only[Fe,Hm,Wc];omega)];rw[show(((xs++[x]).length:Nat):Int)-1=(xs.length:Nat) by simp];exact Wj a c b (d e w1 s1 a)
theorem RY(H:IC F h lf xs w cs){n:Nat}(z:n<=xs.length)(A:xs.length<100)(t:∀h' a b,Sn F h F h'->a.length=xs.length->(∀k,n<=k->a[k]? =xs[k]?)->IC F h' lf a w cs->K (.bool b) h') :
  cP CS kE [.iface tT (.ptr lf 0),.I 0,.I n] h K:=by
 refine zu rfl rfl ?_;unfold rM
 refine wW (λk l h'=>∃(i:Nat) (ys:List Int),l=[.iface tT (.ptr lf 0),.I 0,.I n,.I i]/\i+k=n+1/\Sn F h F h'/\ys.length=xs.length/\(∀k,n<=k->ys[k]? =xs[k]?)/\IC F h' lf ys w cs) ?_ (k:=n+1)
  ⟨0,xs,rfl,by omega,.refl _ _,rfl,λ_ _=>rfl,H⟩
 rintro k _ _ _ _ e ⟨i,ys,⟨⟩,B,s1,o,d,c⟩;unfold pN;have e2:ej .mul 3 (.I 2) (.I i)=some (.I ((2*i:Nat):Int)):=by
  rw[OL,iR (by simp only[Fe];omega)];rfl
 have fin:jF CS K [.I 0,.I i] e:=by
  refine wV ?_;unfold pb;exact ec (ml _ _ _ _) (t e ys _ s1 o d c)
 refine ec e2 (iE (n:=2*i) (m:=1) (by omega) (by omega) (ec (yd _ _ _ _) ?_));have f:qe (.bool (decide (((n:Nat):Int)<=((2*i+1:Nat):Int)))) (oB (some (V.I ((2*i+1:Nat):Int))) λg=>ej .lss 3 g (V.I 0))=some (.bool (decide (n<=2*i+1))):=by
  simp only[fg,mU,ko];rw[ML (p:=((2*i+1:Nat):Int)<0) (by omega),Bool.or_false,show decide (((n:Nat):Int)<=((2*i+1:Nat):Int))=decide (n<=2*i+1) from decide_eq_decide.2 (by omega)]
 refine ec f (jL ?_);by_cases hb:n<=2*i+1
 ·exact hV (by simpa using hb) fin
 refine gJ (by simpa using hb) ?_
 have next:∀j:Nat,i<j->j<n->jG CS K (Hg (λk l h'=>∃(i:Nat) (ys:List Int),l=[.iface tT (.ptr lf 0),.I 0,.I n,.I i]/\i+k=n+1/\Sn F h F h'/\ys.length=xs.length/\(∀k,n<=k->ys[k]? =xs[k]?)/\IC F h' lf ys w cs) k)
   [.iface tT (.ptr lf 0),.I 0,.I n,.I i,.I (j:Nat)] e:=λj C D=>by
  refine xd ?_;unfold pE;have r:ys[j]? =some ys[j]:=iQ (by omega);have s:ys[i]? =some ys[i]:=iQ (by omega);refine G2 DS (c.ld 1 rfl rfl) (Jl c r s ?_);refine yS ?_;split
  ·refine M1 c s r λE u v=>⟨n+1-j,by omega,j,_,rfl,by omega,s1.trans u,by simp[Ui,o],λq hq=>?_,v⟩
   unfold Ui;rw[GI (by omega),GI (by omega)];exact d q hq
  ·exact fin
 refine iE (n:=2*i+1) (m:=1) (by omega) (by omega) (ec (mU _ _ _ _) ?_);by_cases hc:2*i+1+1<n
 ·rw[OH (by omega)];refine iV (ec rfl (iV (ec rfl (iV (ec rfl ?_)))));rw[KV DS (c.ld 1 rfl rfl)];refine EG (Jl c (x:=ys[2*i+1+1]) (y:=ys[2*i+1]) (iQ (by omega)) (iQ (by omega)) ?_);refine ec (Mg _ _ _) ?_;rw[if_pos rfl];refine jL ?_;split
  ·exact next _ (by omega) hc
  ·exact next _ (by omega) (by omega)
 ·rw[ML (by omega)];refine mV (mV (mV ?_));exact next _ (by omega) (by omega)
theorem Ty{x:Int}(H:IC F h lf (x::xs) w cs)(q:xs.length<90)(g:∀h',Sn F h F h'->en F h' cs->K (.iface fI (.I x)) h'):cP CS kY [.iface tT (.ptr lf 0)] h K:=by
 refine zJ rfl rfl ?_;unfold tF;refine PT H ?_;rw[hZ,gQ,iR (by simp only[Fe,Li];omega)];rw[show(((x::xs).length:Nat):Int)-1=(xs.length:Nat) by simp];obtain⟨y,gl⟩:∃y,(x::xs)[xs.length]? =some y:=⟨_,iQ (by simp)⟩
 refine M1 (i:=0) H rfl gl λr s1 j=>?_;refine RY j (n:=xs.length) (by simp[Ui]) (by simp[Ui];omega) λs a b k e f l=>?_;have c:a.length=xs.length+1:=by rw[e];simp[Ui]
 obtain ⟨d,z,rfl⟩:∃d z,a=d++[z]:=by
  rcases gO a with h|h
  ·subst h;cases c
  ·exact h
 have m:d.length=xs.length:=by simpa using c
 have:z=x:=by
  have:=f xs.length (je _);rw[show(d++[z])[xs.length]? =some z by rw[<-m];simp]at this;unfold Ui at this;rw[Fz (by simp)]at this;exact Option.some.inj this
 subst this;exact TO l (by omega) λo p=>g o ((s1.trans k).trans p)
theorem Pk{t:Nat}{S:Int->Prop}{i:Nat}(Q:en F h cs)(hi:cs[i]? =some (GO t S)){s0:Nat}(R:s0<=3000)(yk:¬S ((16+s0:Nat):Int))
  (T:∀h' k,Sn F h F h'->en F h' cs->¬S k->((0<=k/\k<12)\/(16<=k/\k<=16+s0/\∀r:Nat,r<12->S (r:Nat)))->K (.I k) h'):cP CS sH [.map t] h K:=by
 refine Hy rfl rfl ?_;unfold BG;rw[yf,fF];obtain⟨B,s1⟩:=Q.JX (E:=eZ) (xs:=[]) (ws:=[]) (n:=0) fI rfl trivial rfl;have B:en F (h.new (.cells 3 1 true false [])) (ft eZ fI [] (.slice h.next 0 0)::cs):=B;have s1:Sn F h F (h.new (.cells 3 1 true false [])):=s1;generalize h.new (.cells 3 1 true false [])=m at*;generalize V.slice h.next 0 0=w0 at*;obtain⟨v,C⟩:=B.GZ Hw [.ed];rw[fF];have v:en F (m.new (.cells 88 1 true false [.ed])) (eE m.next Hw [.ed]::ft eZ fI [] w0::cs):=v;have C:Sn F m F (m.new (.cells 88 1 true false [.ed])):=C;generalize m.new (.cells 88 1 true false [.ed])=Y at*;generalize m.next=lf at*;obtain⟨U,N,_,D,O⟩:=v.st 0 rfl (o:=0) (by simp) (u:=w0) (v.one 1 rfl);simp only[pP]at D;rw[N,eh];have D:IC F U lf [] w0 cs:=D.sw;have G:=(s1.trans C).trans O;clear B v s1 C O N;have a:∀{x:Nat},ej .add 3 (.I (x:Nat)) (.I 1)=ej .add 3 (.I (x:Nat)) (.I ((1:Nat):Int)):=rfl
 have fY:∀(s:Nat) (xs:List Int) (w:V) (h':Hp) (k:Nat),Sn F h F h'->IC F h' lf xs w cs->xs.length<=13->(∀x∈xs,¬S x/\((0<=x/\x<12)\/(16<=x/\x<=16+s0/\∀r:Nat,r<12->S (r:Nat))))->
   (xs=[]->s+k=s0+1/\s<=s0/\∀r:Nat,r<12->S (r:Nat))->s<=s0+1->sB CS K [.map t,.ptr lf 0,.I ((16+s:Nat):Int)] h':=by
  intro s xs w h' k f c p g j H
  refine DZ (λk l h'=>∃(s:Nat) (xs:List Int) (w:V),l=[.map t,.ptr lf 0,.I ((16+s:Nat):Int)]/\Sn F h F h'/\IC F h' lf xs w cs/\xs.length<=13/\
   (∀x∈xs,¬S x/\((0<=x/\x<12)\/(16<=x/\x<=16+s0/\∀r:Nat,r<12->S (r:Nat))))/\(xs=[]->s+k=s0+1/\s<=s0/\∀r:Nat,r<12->S (r:Nat))/\s<=s0+1) ?_ (k:=k) ⟨s,xs,w,rfl,f,c,p,g,j,H⟩
  clear f c p g j H s xs w h' k;rintro k _ _ _ h' ⟨s,xs,w,⟨⟩,f,c,p,g,j,H⟩;unfold xX;refine ec (c.ld 1 rfl rfl) (ec (c.len 0 rfl) (gj (jL ?_)))
  cases xs with
  | nil=>
    obtain⟨Z,b2,P⟩:=j rfl;refine hV rfl ?_;obtain⟨b,I,c2⟩:=c.Ti (i+2) hi ((16+s:Nat):Int);refine ec I (yS ?_);by_cases hb:b=true
    ·refine hV hb (wC ?_)
     unfold qz;rw[a];have hs:s≠s0:=λe=>yk (e▸c2.1 hb);exact iE (by omega) (by omega) ⟨k-1,by omega,s+1,[],w,rfl,f,c,p,g,λ_=>⟨by omega,by omega,P⟩,by omega⟩
    ·refine gJ hb (Mw c (by simp) (by simp) λJ L z A=>wC ?_)
     unfold qz;rw[a];refine iE (by omega) (by omega) ⟨0,by omega,s+1,[((16+s:Nat):Int)],L,rfl,f.trans z,A,by simp,λx d=>?_,(λe=>by cases e),by omega⟩;obtain rfl:=Hh.1 d
     exact⟨λM=>hb (c2.2 M),.inr ⟨by omega,by omega,P⟩⟩
  | cons x xs=>
    refine gJ (by simp;omega) (Ty c (by simp at p;omega) λJ z A=>?_);refine ec (show HS 3 (V.I 0) (.iface fI (.I x))=some (.I x) from rfl) ?_;have d:=g x (Lh ..);exact T J x (f.trans z) A d.1 d.2
 refine DQ (λk l h'=>∃(r:Nat) (xs:List Int) (w:V),l=[.map t,.ptr lf 0,.I r]/\r+k=12/\Sn F h F h'/\IC F h' lf xs w cs/\xs.length<=r/\(∀x∈xs,0<=x/\x<r/\¬S x)/\∀q:Nat,q<r->S (q:Nat)\/((q:Nat):Int)∈xs) ?_ (k:=12)
  ⟨0,[],w0,rfl,rfl,G,D,je _,by simp,by simp⟩
 rintro k _ _ _ h' ⟨r,xs,w,⟨⟩,hk,f,c,p,g,j⟩;unfold yg;by_cases hr:r<12
 ·refine ij ?_;obtain⟨b,I,c2⟩:=c.Ti (i+2) hi (r:Nat);refine ec I (yS ?_);by_cases hb:b=true
  ·refine hV hb (wG ?_);unfold qI;rw[a];refine iE (by omega) (by omega) ⟨k-1,by omega,r+1,xs,w,rfl,by omega,f,c,by omega,λx d=>?_,λq hq=>?_⟩
   ·have:=g x d;exact⟨this.1,by omega,this.2.2⟩
   ·by_cases hq2:q=r
    ·subst hq2;exact .inl (c2.1 hb)
    ·exact j q (by omega)
  ·refine gJ hb (Mw c (λy W=>by have:=g y W;omega) (by omega) λJ L z A=>wG ?_);unfold qI;rw[a];refine iE (by omega) (by omega) ⟨k-1,by omega,r+1,xs++[((r:Nat):Int)],L,rfl,by omega,f.trans z,A,by simp;omega,λx d=>?_,λq hq=>?_⟩
   ·rcases zH.1 d with d|d
    ·have:=g x d;exact⟨this.1,by omega,this.2.2⟩
    ·obtain rfl:=Hh.1 d;exact⟨by omega,by omega,λM=>hb (c2.2 M)⟩
   ·by_cases hq2:q=r
    ·subst hq2;exact .inr (List.mem_append_right _ (Hh.2 rfl))
    ·exact(j q (by omega)).imp id λX=>QX _ X
 ·refine jZ ?_;obtain rfl:r=12:=by omega
  refine fY 0 xs w h' (s0+1) f c (by omega) (λx d=>?_) (λe=>⟨by omega,by omega,λq hq=>(j q hq).resolve_right (by rw[e];simp)⟩) (by omega);have:=g x d;exact⟨this.2.2,.inl ⟨this.1,this.2.1⟩⟩
end
