/- Parts. -/
import Derived.Test.YtcoaokdoecgcbaaGreatDoorM13
set_option maxHeartbeats 4000000
namespace Go.Proofs.YtcoaokdoecgcbaaGreatDoor.Un
variable{ops a:List Int}{i:Nat}{W:Type}{j n:Nat}{B:Bk}{s:Ds}
abbrev Mv:=Int×Int
def JU(σ:Int->W)(t:Int)(w:W):Int->W:=λp=>if p=t then w else σ p
def xA:List Mv->(Int->W)->Int->W
 |[],σ=>σ
 |m::l,σ=>xA l (JU σ m.2 (σ m.1))
theorem As (m:Mv):∀l (σ:Int->W),xA (l++[m]) σ=JU (xA l σ) m.2 (xA l σ m.1)
 |[],_=>rfl
 |_::l,_=>As m l _
def FZ(m:Mv):Nat:=if 16<=m.1/\16<=m.2 then 2 else 1
def cost:List Mv->Nat
 |[]=>0
 |m::l=>FZ m+cost l
theorem Eu(m:Mv):∀l,cost (l++[m])=cost l+FZ m
 |[]=>by simp[cost]
 |a::l=>by simp[wBT,cost,Eu m l];omega
theorem T9(m:Mv):FZ m<=2:=by unfold FZ;split <;> omega
def kr(l:List Mv):List Int:=l.map (·.2)
def qM(l:List Mv):List Int:=l.map (·.1)
theorem iz{l:List Mv}{p:Int}:p∈kr l↔∃m∈l,m.2=p:=by simp[kr]
theorem pM{l:List Mv}{p:Int}:p∈qM l↔∃m∈l,m.1=p:=by simp[qM]
def less(R:List Mv)(t:Int):List Mv:=R.filter λm=>m.2≠t
theorem lF{R:List Mv}{t:Int}{m:Mv}:m∈less R t↔m∈R/\m.2≠t:=by simp[less]
theorem Wy{R:List Mv} (h:(kr R).Nodup) {m k:Mv} (d:m∈R) (f:k∈R) (e:m.2=k.2):m=k:=by
 induction R with
 |nil=>cases d
 | cons a R g=>
   simp only[kr,ZO,Tz]at h;rcases yt.1 d with rfl|b <;> rcases yt.1 f with rfl|c
   ·rfl
   ·exact(h.1 (Ov.2 ⟨k,c,e.symm⟩)).elim
   ·exact(h.1 (Ov.2 ⟨m,b,e⟩)).elim
   ·exact g h.2 b c
theorem XW{R:List Mv} (h:(qM R).Nodup) {m k:Mv} (d:m∈R) (f:k∈R) (e:m.1=k.1):m=k:=by
 induction R with
 |nil=>cases d
 | cons a R g=>
   simp only[qM,ZO,Tz]at h;rcases yt.1 d with rfl|b <;> rcases yt.1 f with rfl|c
   ·rfl
   ·exact(h.1 (Ov.2 ⟨k,c,e.symm⟩)).elim
   ·exact(h.1 (Ov.2 ⟨m,b,e⟩)).elim
   ·exact g h.2 b c
theorem HX{R:List Mv} (h:(kr R).Nodup) {m:Mv} (b:m∈R):(less R m.2).length+1=R.length:=by
 induction R with
 |nil=>cases b
 | cons a R d=>
   simp only[kr,ZO,Tz]at h;rcases yt.1 b with rfl|b
   ·have:less R m.2=R:=List.filter_eq_self.2 λk f=>by
      simp[ decide_not];exact λe=>h.1 (Ov.2 ⟨k,f,e⟩)
    have c:less (m::R) m.2=less R m.2:=by simp[less]
    rw[c,this];rfl
   ·have mD:a.2≠m.2:=λe=>h.1 (Ov.2 ⟨m,b,e.symm⟩)
    have c:less (a::R) m.2=a::less R m.2:=by simp[less,mD]
    have:=d h.2 b;rw[c];simp[MZ];omega
theorem Ti{R:List Mv}(h:(kr R).Nodup)(t:Int):(kr (less R t)).Nodup:=h.sublist (List.filter_sublist.map _)
theorem TG{R:List Mv}(h:(qM R).Nodup)(t:Int):(qM (less R t)).Nodup:=h.sublist (List.filter_sublist.map _)
structure Tw (l:List Mv) (sp:Int) (R out:List Mv):Prop where
 nd:(kr R).Nodup
 sub:∀m∈R,m∈l/\m.1≠m.2
 Iq:∀m∈out,(m.1=sp\/m.1∈qM l\/m.1∈kr l)/\(m.2=sp\/m.2∈kr l)
 cost:cost out+2*R.length<=2*l.length
 ZT:∀W (σ:Int->W),(∀m∈l,m ∉ R->xA out σ m.2=σ m.1)/\(∀m∈R,xA out σ m.1=σ m.1)/\∀p,p≠sp->p ∉ kr l->xA out σ p=σ p
theorem Tw.start{l:List Mv} (sp:Int) (h:(kr l).Nodup):Tw l sp (l.filter λm=>m.1≠m.2) [] where
 nd:=h.sublist (List.filter_sublist.map _)
 sub m a:=by simpa using a
 Iq:=by simp
 cost:=by have:=List.length_filter_le (λm:Mv=>decide (m.1≠m.2)) l;simp only[Un.cost];omega
 ZT W σ:=by
  refine⟨λm a b=>?_,λ_ _=>rfl,λ_ _ _=>rfl⟩;have:=Classical.byContradiction λe=>b (wBA.2 ⟨a,by simpa using e⟩);show σ m.2=σ m.1;rw[this]
theorem Tw.zgL{l:List Mv} {sp:Int} {R out:List Mv} (I:Tw l sp R out) (hl:(kr l).Nodup) (hs:∀m∈l,m.1≠sp/\m.2≠sp) {m:Mv} (b:m∈R) (i:m.2 ∉ qM R):Tw l sp (less R m.2) (out++[m]) where
 nd:=Ti I.nd _
 sub k a:=I.sub k (lF.1 a).1
 Iq k a:=by
  rcases vU.1 a with a|a
  ·exact I.Iq k a
  ·have f:k=m:=by simpa using a
   subst f;have:=(I.sub k b).1;exact⟨.inr (.inl (pM.2 ⟨k,this,rfl⟩)),.inr (iz.2 ⟨k,this,rfl⟩)⟩
 cost:=by
  have o:=HX I.nd b;have q:=I.cost;have r:=T9 m;rw[Eu];omega
 ZT W σ:=by
  let⟨s1,h,j⟩:=I.ZT W σ
  simp only[As,JU];refine⟨λk a g=>?_,λk a=>?_,λp hp c=>?_⟩
  ·split
   ·rename_i e;have:=Wy hl a (I.sub m b).1 e;subst this;exact h _ b
   ·rename_i e;exact s1 k a λn=>g (lF.2 ⟨n,e⟩)
  ·have d:=lF.1 a;rw[if_neg λe=>i (pM.2 ⟨k,d.1,e⟩)];exact h k d.1
  ·rw[if_neg λe=>c (iz.2 ⟨m,(I.sub m b).1,e.symm⟩)];exact j p hp c
structure Lt (R:List Mv):Prop where
 inj:(qM R).Nodup
 cl:∀m∈R,m.1∈kr R
theorem XB:∀{b:List Int},a.Nodup->(∀x∈a,x∈b)->b.length<=a.length->b.Perm a:=by
 induction a with
 |nil=>intro b _ _ h;have:=List.length_eq_zero_iff.1 (by simpa using h);rw[this]
 | cons x a f=>
   intro b c hs hl;have d:=hs x (by simp);have g:=List.perm_cons_erase d;rw[Tz]at c;refine g.trans (List.Perm.cons x (f c.2 (λy e=>?_) ?_))
   ·exact(List.mem_erase_of_ne (by rintro rfl;exact c.1 e)).2 (hs y (by simp[e]))
   ·rw[List.length_erase_of_mem d];simp at hl;omega
theorem Rp:∀{b:List Int},a.Nodup->(∀x∈a,x∈b)->a.length<=b.length:=by
 induction a with
 |nil=>intro b _ _;exact L9 _
 | cons x a f=>
   intro b c hs;have d:=hs x (by simp);rw[Tz]at c;have g:=f c.2 λy e=>(List.mem_erase_of_ne (by rintro rfl;exact c.1 e)).2 (hs y (by simp[e]));have h:=List.length_erase_of_mem d;have:=List.length_pos_of_mem d;simp[MZ];omega
theorem Lt.of{R:List Mv} (nd:(kr R).Nodup) (h:∀m∈R,m.2∈qM R):Lt R:=by
 have p:=XB nd (λx b=>by obtain⟨m,a,rfl⟩:=iz.1 b;exact h m a) (by simp[kr,qM]);exact⟨p.nodup_iff.2 nd,λm a=>p.mem_iff.1 (pM.2 ⟨m,a,rfl⟩)⟩
structure RgI (l:List Mv) (sp first to:Int) (R out:List Mv):Prop where
 nd:(kr R).Nodup
 sub:∀m∈R,m∈l/\m.1≠m.2
 Iq:∀m∈out,(m.1=sp\/m.1∈qM l\/m.1∈kr l)/\(m.2=sp\/m.2∈kr l)
 cost:cost out+2*R.length<=2*l.length+1
 inj:(qM R).Nodup
 mem:to∈kr R
 rg:∀m∈R,m.1=first\/(m.1≠to/\m.1∈kr R)
 ZT:∀W (σ:Int->W),(∀m∈l,m ∉ R->xA out σ m.2=σ m.1)/\(∀m∈R,m.1≠first->xA out σ m.1=σ m.1)/\xA out σ sp=σ first/\∀p,p≠sp->p ∉ kr l->xA out σ p=σ p
theorem Tw.ring{l:List Mv} {sp:Int} {R out:List Mv} (I:Tw l sp R out) (hs:∀m∈l,m.1≠sp/\m.2≠sp) (c:Lt R) (n:sp<16) {p:Int} (hp:p∈kr R):RgI l sp p p R (out++[(p,sp)]):=by
 obtain⟨m,d,rfl⟩:=iz.1 hp;have f:=(I.sub m d).1;refine⟨I.nd,I.sub,λk a=>?_,?_,c.inj,hp,λk a=>?_,λW σ=>?_⟩
 ·rcases vU.1 a with a|a
  ·exact I.Iq k a
  ·have g:k=(m.2,sp):=by simpa using a
   subst g;exact⟨.inr (.inr (iz.2 ⟨m,f,rfl⟩)),.inl rfl⟩
 ·have s:=I.cost;have:FZ (m.2,sp)=1:=by unfold FZ;rw[if_neg];omega
  rw[Eu,this];omega
 ·by_cases e:k.1=m.2
  ·exact .inl e
  ·exact .inr ⟨e,c.cl k a⟩
 ·let ⟨s1,j,o⟩:=I.ZT W σ
  have b:∃k∈R,k.1=m.2:=by
   have p:=XB c.inj (λx r=>by obtain⟨m,d,rfl⟩:=pM.1 r;exact c.cl m d) (by simp[kr,qM]);exact pM.1 (p.mem_iff.1 hp)
  simp only[As,JU];refine⟨λk a h=>?_,λk a _=>?_,?_,λq hq i=>?_⟩
  ·rw[if_neg (hs k a).2];exact s1 k a h
  ·rw[if_neg (hs k (I.sub k a).1).1];exact j k a
  ·let⟨k,a,e⟩:=b
   rw[<-e];exact(if_pos trivial).trans (j k a)
  ·rw[if_neg hq];exact o q hq i
theorem RgI.step{l:List Mv} {sp first:Int} {R out:List Mv} {m:Mv} (I:RgI l sp first m.2 R out) (hl:(kr l).Nodup) (hs:∀m∈l,m.1≠sp/\m.2≠sp) (d:m∈R) (mD:m.1≠first):RgI l sp first m.1 (less R m.2) (out++[m]) where
 nd:=Ti I.nd _
 sub k a:=I.sub k (lF.1 a).1
 Iq k a:=by
  rcases vU.1 a with a|a
  ·exact I.Iq k a
  ·have o:k=m:=by simpa using a
   subst o;have:=(I.sub k d).1;exact⟨.inr (.inl (pM.2 ⟨k,this,rfl⟩)),.inr (iz.2 ⟨k,this,rfl⟩)⟩
 cost:=by
  have f:=HX I.nd d;have n:=I.cost;have u:=T9 m;rw[Eu];omega
 inj:=TG I.inj _
 mem:=by
  rcases I.rg m d with h|⟨f,n⟩
  ·exact(mD h).elim
  ·let⟨k,a,e⟩:=iz.1 n
   exact iz.2 ⟨k,lF.2 ⟨a,e▸f⟩,e⟩
 rg k a:=by
  have b:=lF.1 a;rcases I.rg k b.1 with h|⟨f,n⟩
  ·exact .inl h
  ·refine .inr ⟨λe=>?_,?_⟩
   ·exact b.2 (by rw[XW I.inj b.1 d e])
   ·let⟨j,hj,e⟩:=iz.1 n
    exact iz.2 ⟨j,lF.2 ⟨hj,e▸f⟩,e⟩
 ZT W σ:=by
  let⟨s1,r,s,s4⟩:=I.ZT W σ
  have c:=(I.sub m d).1;simp only[As,JU];refine⟨λk a q=>?_,λk a g=>?_,?_,λp hp i=>?_⟩
  ·split
   ·rename_i e;have:=Wy hl a c e;subst this;exact r _ d mD
   ·rename_i e;exact s1 k a λt=>q (lF.2 ⟨t,e⟩)
  ·have b:=lF.1 a;rcases I.rg k b.1 with h|⟨f,_⟩
   ·exact(g h).elim
   ·rw[if_neg f];exact r k b.1 g
  ·rw[if_neg (Ne.symm (hs m c).2)];exact s
  ·rw[if_neg λe=>i (iz.2 ⟨m,c,e.symm⟩)];exact s4 p hp i
theorem RgI.close{l:List Mv} {sp:Int} {R out:List Mv} {m:Mv} (I:RgI l sp m.1 m.2 R out) (hl:(kr l).Nodup) (hs:∀m∈l,m.1≠sp/\m.2≠sp) (q:sp<16) (f:m∈R):Tw l sp (less R m.2) (out++[(sp,m.2)])/\Lt (less R m.2):=by
 have b:=(I.sub m f).1;have cl:∀k∈less R m.2,k.1≠m.1/\k.1≠m.2/\k.1∈kr (less R m.2):=λk a=>by
  have c:=lF.1 a;have mD:=λe=>c.2 (by rw[XW I.inj c.1 f e]);rcases I.rg k c.1 with h|⟨g,o⟩
  ·exact(mD h).elim
  ·let⟨j,hj,e⟩:=iz.1 o
   exact⟨mD,g,iz.2 ⟨j,lF.2 ⟨hj,e▸g⟩,e⟩⟩
 refine⟨⟨Ti I.nd _,λk a=>I.sub k (lF.1 a).1,λk a=>?_,?_,λW σ=>?_⟩,TG I.inj _,λk a=>(cl k a).2.2⟩
 ·rcases vU.1 a with a|a
  ·exact I.Iq k a
  ·have i:k=(sp,m.2):=by simpa using a
   subst i;exact⟨.inl rfl,.inr (iz.2 ⟨m,b,rfl⟩)⟩
 ·have g:=HX I.nd f;have o:=I.cost;have:FZ (sp,m.2)=1:=by unfold FZ;rw[if_neg];omega
  rw[Eu,this];omega
 ·let ⟨s1,r,s,s4⟩:=I.ZT W σ
  simp only[As,JU];refine⟨λk a n=>?_,λk a=>?_,λp hp d=>?_⟩
  ·split
   ·rename_i e;have:=Wy hl a b e;subst this;exact s
   ·rename_i e;exact s1 k a λt=>n (lF.2 ⟨t,e⟩)
  ·let⟨u,c2,_⟩:=cl k a
   rw[if_neg c2];exact r k (lF.1 a).1 u
  ·rw[if_neg λe=>d (iz.2 ⟨m,b,e.symm⟩)];exact s4 p hp d
structure zeE (l:List Mv) (sp:Int) (out:List Mv):Prop where
 Iq:∀m∈out,(m.1=sp\/m.1∈qM l\/m.1∈kr l)/\(m.2=sp\/m.2∈kr l)
 cost:cost out<=2*l.length
 ZT:∀W (σ:Int->W),(∀m∈l,xA out σ m.2=σ m.1)/\∀p,p≠sp->p ∉ kr l->xA out σ p=σ p
theorem Tw.done{l:List Mv} {sp:Int} {out:List Mv} (I:Tw l sp [] out):zeE l sp out:=
 ⟨I.Iq,by have:=I.cost;simpa using this,λW σ=>⟨λm a=>(I.ZT W σ).1 m a (by simp),(I.ZT W σ).2.2⟩⟩
def MH(R:List Mv)(p:Int):Nat:=(R.filter λm=>m.1=p).length
theorem Dl{R:List Mv} {p:Int}:MH R p=0↔p ∉ qM R:=by
 unfold MH;rw[List.length_eq_zero_iff,List.filter_eq_nil_iff,pM];simp only[xX,not_exists,not_and]
theorem Pz{R:List Mv} (h:(kr R).Nodup) {m:Mv} (b:m∈R) (p:Int):MH (less R m.2) p+(if p=m.1 then 1 else 0)=MH R p:=by
 induction R with
 |nil=>cases b
 | cons a R d=>
   simp only[kr,ZO,Tz]at h;rcases yt.1 b with rfl|b
   ·have e:less R m.2=R:=List.filter_eq_self.2 λk f=>by
      simp[ decide_not];exact λe=>h.1 (Ov.2 ⟨k,f,e⟩)
    have c:less (m::R) m.2=less R m.2:=by simp[less]
    rw[c,e];unfold MH;rw[List.filter_cons];by_cases e:m.1=p
    ·simp[e]
    ·simp[e,Ne.symm e]
   ·have mD:a.2≠m.2:=λe=>h.1 (Ov.2 ⟨m,b,e.symm⟩)
    have c:less (a::R) m.2=a::less R m.2:=by simp[less,mD]
    have:=d h.2 b;rw[c];unfold MH at this⊢;rw[ List.filter_cons];by_cases e:a.1=p <;> simp[e,decide_true] <;> omega
theorem za0(R:List Mv) (m:Mv) (p:Int):MH (R++[m]) p=MH R p+(if m.1=p then 1 else 0):=by
 unfold MH;rw[List.filter_append,nB];congr 1;by_cases e:m.1=p <;> simp[e]
structure ZS (R:List Mv) (a:List Int):Prop where
 nd:a.Nodup
 iff:∀p,p∈a↔p∈kr R/\p ∉ qM R
theorem ZS.perm{R:List Mv}{b:List Int}(h:ZS R a)(p:b.Perm a):ZS R b:=⟨p.nodup_iff.2 h.nd,λx=>p.mem_iff.trans (h.iff x)⟩
theorem ZS.step{R:List Mv} {m:Mv}  (h:ZS R (m.2::a)) (nd:(kr R).Nodup) (l:m∈R) :
  (MH (less R m.2) m.1=0/\m.1∈kr (less R m.2)->ZS (less R m.2) (m.1::a))/\(¬(MH (less R m.2) m.1=0/\m.1∈kr (less R m.2))->ZS (less R m.2) a):=by
 have d:=Tz.1 h.nd;have tl:∀p,p∈kr (less R m.2)↔p∈kr R/\p≠m.2:=λp=>by
  simp only[iz,lF];constructor
  ·rintro⟨k,⟨b,c⟩,rfl⟩;exact⟨⟨k,b,rfl⟩,c⟩
  ·rintro⟨⟨k,b,rfl⟩,c⟩;exact⟨k,⟨b,c⟩,rfl⟩
 have fl:∀p,p≠m.1->(p ∉ qM (less R m.2)↔p ∉ qM R):=λp hp=>by
  have:=Pz nd l p;rw[if_neg hp]at this;rw[<-Dl,<-Dl];omega
 have g:m.1 ∉ a:=λi=>((h.iff m.1).1 (by simp[i])).2 (pM.2 ⟨m,l,rfl⟩);have f:∀p,p≠m.1->(p∈a↔p∈kr (less R m.2)/\p ∉ qM (less R m.2)):=λp hp=>by
  rw[tl,fl p hp];have:=h.iff p;rw[yt]at this;constructor
  ·intro i;exact⟨⟨(this.1 (.inr i)).1,λe=>d.1 (e▸i)⟩,(this.1 (.inr i)).2⟩
  ·rintro⟨⟨b,c⟩,n⟩;rcases this.2 ⟨b,n⟩ with j|j
   ·exact(c j).elim
   ·exact j
 refine⟨λ⟨b,c⟩=>⟨Tz.2 ⟨g,d.2⟩,λp=>?_⟩,λo=>⟨d.2,λp=>?_⟩⟩
 ·by_cases e:p=m.1
  ·subst e;exact⟨λ_=>⟨c,Dl.1 b⟩,λ_=>Tx ..⟩
  ·rw[yt];exact⟨λh=>(f p e).1 (h.resolve_left e),λh=> .inr ((f p e).2 h)⟩
 ·by_cases e:p=m.1
  ·subst e;exact⟨λh=>(g h).elim,λ⟨b,c⟩=>(o ⟨Dl.2 c,b⟩).elim⟩
  ·exact f p e
theorem ZS.rings{R:List Mv} (h:ZS R []) (nd:(kr R).Nodup):Lt R:=Lt.of nd λm a=>Classical.byContradiction λb=>by
 have:=(h.iff m.2).2 ⟨iz.2 ⟨m,a,rfl⟩,b⟩;cases this
structure Ni where
 op:Nat
 a:Nat
 b:Nat
 c:Nat
 n:Int
structure Nl where
 kind:Int
 n:Int
structure Nf where
 func:Int
 pc:Int
 locals:List Nl
 stack:List Nl
structure Nx where
 iG:List Nf
 state:Int
 val:Int
def kK(op:Nat):Nat:=
 if op=1\/op=3\/op=4\/op=24\/op=25 then 1 else if op=2\/op=10\/op=11\/op=17\/op=18\/op=19\/op=21 then 2
 else if(5<=op/\op<=9)\/(12<=op/\op<=16)\/op=20\/op=22 then 3 else 0
def sR(op:Nat) (x:Int) (n:Nat):Prop:=
 if op=1\/op=19\/op=21 then True else if op=3\/op=4 then 0<=x/\x<400 else if op=23\/op=24 then 0<=x/\x<=n
 else if op=25\/op=26\/op=27 then 0<=x/\x<=1048576 else x=0
def pK(k r i:Nat):Prop:=r<16/\(k<=i->r=0)
def Bw(n:Nat)(x:Ni):Prop:=(1<=x.op/\x.op<=27)/\sR x.op x.n n/\pK (kK x.op) x.a 0/\pK (kK x.op) x.b 1/\pK (kK x.op) x.c 2
def lE(p:Int):Nl:=if p<16 then⟨1,p⟩ else⟨2,p-16⟩
def Yb(sp:Nat)(p:Int):Ni:=⟨3,sp,0,0,p-16⟩
def VD(r:Nat)(p:Int):Ni:=⟨4,r,0,0,p-16⟩
def ko(p:Int)(sp:Nat):List Ni:=if p<16 then[] else[Yb sp p]
def lD(p:Int)(sp:Nat):Nat:=if p<16 then p.toNat else sp
def Ad(p:Int)(x:Ni):List Ni:=if p<16 then[{x with a:=p.toNat}] else[{x with a:=14},VD 14 p]
def rr(m:Mv):List Ni:=
 if m.1<16 then(if m.2<16 then[⟨2,m.2.toNat,m.1.toNat,0,0⟩] else[VD m.1.toNat m.2])
 else if m.2<16 then[Yb m.2.toNat m.1] else[Yb 13 m.1,VD 13 m.2]
section
variable (u:U)(of:List Int)
def hO(v:Nat):Int:=of.getD v 0
def opV(v:Nat):Nat:=match u.ee[v]? with
 |some x=>x.op
 |none=>0
def frC(f:Fm):Nf:=⟨f.func,f.pc,f.locals.map λv=>lE (hO of v),f.stack.map λv=>lE (hO of v)⟩
def Rv(s:Nat)(v:Int):Nx:=⟨(match u.ez[s]? with|some fs=>fs|none=>[]).map (frC of),s,v⟩
def px(v:Nat) (x:Vl) (k:Nat):List Ni:=
 if x.op=1\/x.op=21 then[] else if x.op=2 then Ad (hO of v) ⟨1,0,0,0,x.n⟩
 else if x.op=19 then ko (hO of x.a) 12++ko (hO of x.b) 13++[⟨21,lD (hO of x.a) 12,lD (hO of x.b) 13,0,x.n⟩]
 else if x.op=20 then ko (hO of x.a) 12++ko (hO of x.b) 13++ko (hO of (x.args.getD 0 0)) 14++[⟨22,lD (hO of x.a) 12,lD (hO of x.b) 13,lD (hO of (x.args.getD 0 0)) 14,0⟩]
 else if x.op=22 then ko (hO of x.a) 12++[⟨25,lD (hO of x.a) 12,0,0,k⟩]
 else if x.op=23 then[⟨26,0,0,0,k⟩]
 else if x.op=8\/x.op=9\/x.op=15\/x.op=16\/x.op=17 then ko (hO of x.a) 12++Ad (hO of v) ⟨x.op+2,0,lD (hO of x.a) 12,0,if x.op=17 then x.n else 0⟩
 else ko (hO of x.a) 12++ko (hO of x.b) 13++Ad (hO of v) ⟨x.op+2,0,lD (hO of x.a) 12,lD (hO of x.b) 13,0⟩
def Bv(v:Nat)(x:Vl):List Nx:=if x.op=22\/x.op=23 then[Rv u of x.state v] else[]
def rJ(v:Nat):List Nx:=match u.ee[v]? with
 |some x=>Bv u of v x
 |none=>[]
def zQ(v k:Nat):List Ni:=match u.ee[v]? with
 |some x=>px of v x k
 |none=>[]
def ju(l:List Nat):List Nx:=l.flatMap (rJ u of)
def jQ:List Nat->Nat->List Ni
 |[],_=>[]
 |v::l,k=>zQ u of v k++jQ l (k+(rJ u of v).length)
def j9(p:Nat):List Nat->Nat
 |[]=>0
 |[_]=>0
 |q::r::l=>if q=p then 0 else j9 p (r::l)+1
def oL(j:Nat) (v:Nat):List Mv:=match u.ee[v]? with
 |some x=>if x.op=21 then[(hO of (x.args.getD j 0),hO of v)] else[]
 |none=>[]
def mZ(p t:Nat):List Mv:=match u.blocks[t]? with
 |some B=>B.ee.flatMap (oL u of (j9 p B.fj))
 |none=>[]
def UM(p t:Nat)(c:List Ni):Prop:=∃out,zeE (mZ u of p t) 15 out/\c=out.flatMap rr
def isIf(p:Nat):Bool:=match u.blocks[p]? with
 |some B=>B.fin == 2
 |none=>false
def KJ(b:Nat)(B:Bk)(c:List Ni):Prop:=if B.fj.length=1/\isIf u (B.fj.getD 0 0)=true then UM u of (B.fj.getD 0 0) b c else c=[]
def Qr(b:Nat) (B:Bk) (k:Nat) (c:List Ni):Prop:=
 if B.fin=1 then ∃d,UM u of b (B.next.getD 0 0) d/\c=d++[⟨23,0,0,0,(B.next.getD 0 0:Nat)⟩]
 else if B.fin=2 then c=ko (hO of B.cond) 12++[⟨24,lD (hO of B.cond) 12,0,0,(B.next.getD 1 0:Nat)⟩,⟨23,0,0,0,(B.next.getD 0 0:Nat)⟩]
 else c=[⟨27,0,0,0,k⟩]
def Lv(B:Bk):List Nx:=if B.fin=1\/B.fin=2 then[] else[Rv u of B.state (-1)]
def Cu(B:Bk):List Nx:=ju u of B.ee++Lv u of B
def zap(b:Nat)(B:Bk)(k:Nat)(c:List Ni):Prop:=∃a d,KJ u of b B a/\Qr u of b B (k+(ju u of B.ee).length) d/\c=a++jQ u of B.ee k++d
inductive zV:List Bk->Nat->Nat->List (List Ni)->Prop
 |nil (b k:Nat):zV [] b k []
 |cons {B:Bk} {l:List Bk} {b k:Nat} {c:List Ni} {cs:List (List Ni)} (h:zap u of b B k c) (t:zV l (b+1) (k+(Cu u of B).length) cs):zV (B::l) b k (c::cs)
def qf:List Nx:=u.blocks.flatMap (Cu u of)
end
def iJ:Nat->List (List Ni)->List Nat
 |_,[]=>[]
 |n,c::cs=>n::iJ (n+c.length) cs
def tJ(x:Ni):Bool:=x.op == 23 ||x.op == 24
def patch(bs:List Nat)(x:Ni):Ni:=if tJ x=true then{x with n:=((bs.getD x.n.toNat 0:Nat):Int)} else x
def EmitC(u:U)(of:List Int)(l:List Ni):Prop:=∃cs,zV u of u.blocks 0 0 cs/\l=cs.flatten.map (patch (iJ 0 cs))
section
variable{u:U}{of:List Int}
theorem Wi(l:List Nat)(v:Nat):ju u of (l++[v])=ju u of l++rJ u of v:=by simp[ju]
theorem ES:∀l m k,jQ u of (l++m) k=jQ u of l k++jQ u of m (k+(ju u of l).length)
 |[],m,k=>by simp[jQ,ju]
 | v::l,m,k=>by
   simp only[wBT,jQ,ES l m,Bo];congr 3;simp[ju,Ob,nB];omega
theorem WM(l:List Nat) (v k:Nat):jQ u of (l++[v]) k=jQ u of l k++zQ u of v (k+(ju u of l).length):=by
 rw[ES];simp[jQ]
theorem zV.snoc {c:List Ni}:∀{l:List Bk} {b k:Nat} {cs:List (List Ni)},zV u of l b k cs->zap u of (b+l.length) B (k+(l.flatMap (Cu u of)).length) c->zV u of (l++[B]) b k (cs++[c])
 |_,_,_,_,.nil b k,h=> .cons h (.nil _ _)
 | _,_,_,_,.cons (l:=l) (b:=b) a t,h=> .cons a (t.snoc (by
   simp only[ Ob,nB]at h;rw[show b+1+l.length=b+(l.length+1) by omega,VB];exact h))
theorem zV.length:∀{l:List Bk} {b k:Nat} {cs:List (List Ni)},zV u of l b k cs->cs.length=l.length
 |_,_,_,_,.nil _ _=>rfl
 |_,_,_,_,.cons _ t=>by simp[t.length]
theorem zV.get:∀{l:List Bk} {b k:Nat} {cs:List (List Ni)} {i:Nat} {B:Bk},zV u of l b k cs->l[i]? =some B->∃c,cs[i]? =some c/\zap u of (b+i) B (k+((l.take i).flatMap (Cu u of)).length) c
 |_,_,_,_,_,_,.nil _ _,h=>by simp at h
 |_,_,_,_,0,_,.cons a _,h=>by cases h;exact⟨_,rfl,by simpa using a⟩
 | _,b,k,_,i+1,B,.cons a t,h=>by
   let⟨c,d,e⟩:=t.get h
   refine⟨c,d,?_⟩;simp only[List.take_succ_cons,Ob,nB];rw[show b+(i+1)=b+1+i by omega,<-VB];exact e
theorem Nv(c:List Ni):∀cs n,iJ n (cs++[c])=iJ n cs++[n+cs.flatten.length]
 |[],n=>by simp[iJ]
 |d::cs,n=>by simp[wBT,iJ,Nv c cs,wB1,nB];rw[VB]
theorem Fy:∀cs n,(iJ n cs).length=cs.length
 |[],_=>rfl
 |d::cs,n=>by simp[iJ,Fy cs]
theorem Ko:∀cs n i,i<cs.length->(iJ n cs)[i]? =some (n+(cs.take i).flatten.length)
 |[],_,_,h=>by simp at h
 |d::cs,n,0,_=>by simp[iJ]
 | d::cs,n,i+1,h=>by
   simp[iJ,List.getElem?_cons_succ,Ko cs (n+d.length) i (by simpa using h),List.take_succ_cons,wB1,nB];rw[VB]
def JP(u:U)(of:List Int):Prop:=∀v,v<u.ee.length->(0<=hO of v/\hO of v<12)\/(16<=hO of v/\hO of v<415)
structure rj (u:U) (nb ne:Nat) (x:Ni):Prop where
 op:1<=x.op/\x.op<=27
 a:pK (kK x.op) x.a 0
 b:pK (kK x.op) x.b 1
 c:pK (kK x.op) x.c 2
 j:tJ x=true->0<=x.n/\x.n<nb
 n:tJ x=false->sR x.op x.n 0
 e:x.op=25\/x.op=26\/x.op=27->x.n<ne
 w:x.op=1\/x.op=19\/x.op=21->∃v∈u.ee,x.n=v.n
def kV(p:Int):Prop:=(0<=p/\p<16)\/(16<=p/\p<416)
variable{nb ne:Nat}
theorem za1{sp:Nat} {p:Int} (hs:sp<16) (h:kV p) (hp:¬p<16):rj u nb ne (Yb sp p):=by
 refine⟨by simp[Yb],?_,?_,?_,?_,?_,?_,?_⟩ <;> simp[Yb,kK,pK,tJ,sR] <;> unfold kV at h <;> omega
theorem zae{r:Nat} {p:Int} (hs:r<16) (h:kV p) (hp:¬p<16):rj u nb ne (VD r p):=by
 refine⟨by simp[VD],?_,?_,?_,?_,?_,?_,?_⟩ <;> simp[VD,kK,pK,tJ,sR] <;> unfold kV at h <;> omega
theorem yf{sp:Nat} {p:Int} (hs:sp<16) (h:kV p):(∀i∈ko p sp,rj u nb ne i)/\(ko p sp).length<=1/\lD p sp<16:=by
 unfold ko lD;split
 ·refine⟨by simp,by simp,?_⟩;unfold kV at h;omega
 ·rename_i e;exact⟨λi hi=>by rw[Et.1 hi];exact za1 hs h e,by simp,hs⟩
theorem SY{p:Int} {x:Ni} (h:kV p) (b:∀r,r<16->rj u nb ne {x with a:=r}):(∀i∈Ad p x,rj u nb ne i)/\(Ad p x).length<=2:=by
 unfold Ad;split
 ·refine⟨λi hi=>?_,by simp⟩;rw[Et.1 hi];exact b _ (by unfold kV at h;omega)
 ·rename_i e;refine⟨λi hi=>?_,by simp⟩;simp[ wBp]at hi;rcases hi with rfl|rfl
  ·exact b 14 (by omega)
  ·exact zae (by omega) h e
theorem Uv{m:Mv} (a:kV m.1) (b:kV m.2):(∀i∈rr m,rj u nb ne i)/\(rr m).length=FZ m:=by
 have r1:m.1<16->m.1.toNat<16:=by unfold kV at a;omega
 have r2:m.2<16->m.2.toNat<16:=by unfold kV at b;omega
 unfold rr FZ;split
 ·rename_i e1;split
  ·rename_i e2;refine⟨λi hi=>?_,by rw[if_neg (by omega)];rfl⟩;rw[Et.1 hi];refine⟨by simp,?_,?_,?_,?_,?_,?_,?_⟩ <;> simp[kK,pK,tJ,sR,r1 e1,r2 e2]
  ·rename_i e2;refine⟨λi hi=>?_,by rw[if_neg (by omega)];rfl⟩;rw[Et.1 hi];exact zae (r1 e1) b e2
 ·rename_i e1;split
  ·rename_i e2;refine⟨λi hi=>?_,by rw[if_neg (by omega)];rfl⟩;rw[Et.1 hi];exact za1 (r2 e2) a e1
  ·rename_i e2;refine⟨λi hi=>?_,by rw[if_pos (by omega)];rfl⟩;simp[yt,wBp,or_false]at hi;rcases hi with rfl|rfl
   ·exact za1 (by omega) a e1
   ·exact zae (by omega) b e2
theorem RB:∀{l:List Mv},(∀m∈l,kV m.1/\kV m.2)->(∀i∈l.flatMap rr,rj u nb ne i)/\(l.flatMap rr).length=cost l
 |[],_=>⟨by simp,rfl⟩
 | m::l,h=>by
   let⟨a,d⟩:=Uv (u:=u) (nb:=nb) (ne:=ne) (h m (by simp)).1 (h m (by simp)).2
   let⟨b,e⟩:=RB (l:=l) λk c=>h k (by simp[c])
   refine⟨λi hi=>?_,by simp only[Ob,nB,cost];omega⟩;rw[Ob]at hi;rcases vU.1 hi with hi|hi
   ·exact a i hi
   ·exact b i hi
theorem JP.pos(h:JP u of) {v:Nat} (hv:v<u.ee.length):kV (hO of v):=by
 rcases h v hv with h|h <;> unfold kV <;> omega
theorem iC{v:Nat} (h:nD u v):v<u.ee.length:=by
 let⟨x,hx,_⟩:=h
 exact(j6.1 hx).1
theorem zcD(g:Good u) (hp:JP u of) {v:Nat} {x:Vl} (j:u.ee[v]? =some x) {k:Nat} (K:k+(Bv u of v x).length<=ne) (mD:ne<=1048576) :
  (∀i∈px of v x k,rj u nb ne i)/\(px of v x k).length<=4:=by
 have pv:=hp.pos (j6.1 j).1;have use:=g.use v x j;have pa:=λw D=>hp.pos (iC (use w D));have E:=g.op v x j;have t:=Ap j;have ap:∀{l m:List Ni},(∀i∈l,rj u nb ne i)->(∀i∈m,rj u nb ne i)->∀i∈l++m,rj u nb ne i:=λz B i hi=>(vU.1 hi).elim (z i) (B i);have one:∀{y:Ni},rj u nb ne y->∀i∈[y],rj u nb ne i:=λh i hi=>by rw[Et.1 hi];exact h
 unfold px;split
 ·exact⟨by simp,by simp⟩
 rename_i L;split
 ·let ⟨z,B⟩:=SY (u:=u) (nb:=nb) (ne:=ne) (x:=⟨1,0,0,0,x.n⟩) pv (λr o=>by
   refine⟨by simp,?_,?_,?_,?_,?_,?_,λ_=>⟨x,t,rfl⟩⟩ <;> simp[kK,pK,tJ,sR,o])
  exact⟨z,by omega⟩
 rename_i M;split
 ·rename_i e;have c:jq x=[x.a,x.b]:=by unfold jq two;simp[e]
  let⟨d,s,f⟩:=yf (u:=u) (nb:=nb) (ne:=ne) (sp:=12) (by omega) (pa x.a (by simp[c]))
  let⟨p,C,q⟩:=yf (u:=u) (nb:=nb) (ne:=ne) (sp:=13) (by omega) (pa x.b (by simp[c]))
  refine⟨ap (ap d p) (one ?_),by simp[nB,Tj];omega⟩;refine⟨by simp,?_,?_,?_,?_,?_,?_,λ_=>⟨x,t,rfl⟩⟩ <;> simp[kK,pK,tJ,sR,f,q]
 rename_i N;split
 ·rename_i e;have hl:=g.putAt v x j e;have c:jq x=[x.a,x.b,x.args.getD 0 0]:=by
   unfold jq;rw[if_neg (by omega),if_pos e]
   match h:x.args,hl with
   |[w],_=>rfl
  let⟨d,s,f⟩:=yf (u:=u) (nb:=nb) (ne:=ne) (sp:=12) (by omega) (pa x.a (by simp[c]))
  let⟨p,C,q⟩:=yf (u:=u) (nb:=nb) (ne:=ne) (sp:=13) (by omega) (pa x.b (by simp[c]))
  let⟨F,c2,G⟩:=yf (u:=u) (nb:=nb) (ne:=ne) (sp:=14) (by omega) (pa (x.args.getD 0 0) (by rw[c];simp))
  refine⟨ap (ap (ap d p) F) (one ?_),by simp only[nB,Tj];omega⟩;refine⟨by simp,?_,?_,?_,?_,?_,?_,?_⟩ <;> simp[kK,pK,tJ,sR,-List.getD_eq_getElem?_getD,f,q,G]
 rename_i O;split
 ·rename_i e;have c:jq x=[x.a]:=by unfold jq two tZ;simp[e]
  let⟨d,s,f⟩:=yf (u:=u) (nb:=nb) (ne:=ne) (sp:=12) (by omega) (pa x.a (by simp[c]))
  have H:(Bv u of v x).length=1:=by unfold Bv;simp[e]
  refine⟨ap d (one ?_),by simp[nB,Tj];omega⟩;refine⟨by simp,?_,?_,?_,?_,?_,?_,?_⟩ <;> simp[kK,pK,tJ,sR,f] <;> omega
 rename_i P;split
 ·rename_i e;have H:(Bv u of v x).length=1:=by unfold Bv;simp[e]
  refine⟨one ?_,by simp⟩;refine⟨by simp,?_,?_,?_,?_,?_,?_,?_⟩ <;> simp[kK,pK,tJ,sR] <;> omega
 rename_i Q;split
 ·rename_i e;have c:jq x=[x.a]:=by unfold jq two tZ;rcases e with e|e|e|e|e <;> simp[e]
  let⟨d,s,f⟩:=yf (u:=u) (nb:=nb) (ne:=ne) (sp:=12) (by omega) (pa x.a (by simp[c]))
  let ⟨s1,I⟩:=SY (u:=u) (nb:=nb) (ne:=ne) (x:=⟨x.op+2,0,lD (hO of x.a) 12,0,if x.op=17 then x.n else 0⟩) pv (λr o=>by
   rcases e with e|e|e|e|e <;> refine⟨by simp[e],?_,?_,?_,?_,?_,?_,?_⟩ <;> simp[e,kK,pK,tJ,sR,f,o];exact⟨x,t,rfl⟩)
  exact⟨ap d s1,by simp[nB];omega⟩
 rename_i R;have J:two x.op=true:=by
  unfold two;simp[Jz,xB,xX,Gi];omega
 have c:jq x=[x.a,x.b]:=by unfold jq;rw[if_neg (by omega),if_neg (by omega),if_pos J]
 let⟨d,s,f⟩:=yf (u:=u) (nb:=nb) (ne:=ne) (sp:=12) (by omega) (pa x.a (by simp[c]))
 let⟨p,C,q⟩:=yf (u:=u) (nb:=nb) (ne:=ne) (sp:=13) (by omega) (pa x.b (by simp[c]))
 let ⟨s1,I⟩:=SY (u:=u) (nb:=nb) (ne:=ne) (x:=⟨x.op+2,0,lD (hO of x.a) 12,lD (hO of x.b) 13,0⟩) pv (λr o=>by
  have A:kK (x.op+2)=3:=by
   unfold kK;rw[if_neg (by omega),if_neg (by omega),if_pos (by omega)]
  refine⟨by simp;omega,?_,?_,?_,?_,?_,?_,?_⟩
  ·simp[A];exact⟨o,by omega⟩
  ·simp[A];exact⟨f,by omega⟩
  ·simp[A];exact⟨q,by omega⟩
  ·simp[tJ];omega
  ·intro _;unfold sR;rw[if_neg (by simp;omega),if_neg (by simp;omega),if_neg (by simp;omega),if_neg (by simp;omega)]
  ·simp;omega
  ·simp;omega)
 exact⟨ap (ap d p) s1,by simp[nB];omega⟩
theorem U2(g:Good u) (hp:JP u of) (mD:ne<=1048576):∀{l:List Nat} {k:Nat},k+(ju u of l).length<=ne->(∀i∈jQ u of l k,rj u nb ne i)/\(jQ u of l k).length<=4*l.length
 |[],_,_=>⟨by simp[jQ],by simp[jQ]⟩
 | v ::l,k,h=>by
   simp only[ju,Ob,nB]at h
   let⟨c,d⟩:=U2 g hp mD (l:=l) (k:=k+(rJ u of v).length) (by unfold ju;omega)
   have a:(∀i∈zQ u of v k,rj u nb ne i)/\(zQ u of v k).length<=4:=by
     unfold zQ;split
     ·rename_i x b
      refine zcD g hp b ?_ mD;unfold rJ at h;rw[b]at h;simp only at h;omega
     ·exact⟨by simp,by simp⟩
   refine⟨λi hi=>?_,?_⟩
   ·rcases vU.1 hi with hi|hi
    ·exact a.1 i hi
    ·exact c i hi
   ·have:=a.2
    simp[jQ,nB,MZ];omega
theorem Q1(p:Nat):∀{l:List Nat},0<l.length->j9 p l<l.length
 |[_],_=>Nat.zero_lt_one
 | q ::r::l,_=>by
   unfold j9;split
   ·simp
   ·have:=Q1 p (l:=r::l) (by simp)
    simp[MZ]at this⊢;omega
theorem Oi(g:Good u) (hp:JP u of) {p t:Nat} {B:Bk} (j:u.blocks[t]? =some B) (n:0<B.fj.length) {c:List Ni} (h:UM u of p t c):(∀i∈c,rj u nb ne i)/\c.length<=2*B.ee.length:=by
 obtain ⟨out,s,rfl⟩:=h;have d:∀m∈mZ u of p t,kV m.1/\kV m.2:=λm d=>by
  unfold mZ at d;rw[j]at d
  let⟨v,hv,d⟩:=Rb.1 d
  unfold oL at d;split at d
  ·rename_i x o;split at d
   ·rename_i e;rw[Et.1 d]
    let⟨k,hk⟩:=mG.1 hv
    have ⟨_,hl⟩:=g.VG v t k x B ⟨B,j,hk⟩ o e j;have z:=Q1 p n;have w:x.args.getD (j9 p B.fj) 0∈jq x:=by
     unfold jq;rw[if_pos e,Dz,hN (by omega)];exact AQ _
    exact⟨hp.pos (iC (g.use v x o _ w)),hp.pos (j6.1 o).1⟩
   ·cases d
  ·cases d
 have hl:(mZ u of p t).length<=B.ee.length:=by
  unfold mZ;rw[j];simp only;have:∀l:List Nat,(l.flatMap (oL u of (j9 p B.fj))).length<=l.length:=λl=>by
   induction l with
   |nil=>simp
   | cons v l A=>
     have:(oL u of (j9 p B.fj) v).length<=1:=by
       unfold oL;split
       ·split <;> simp
       ·simp
     simp only[Ob,nB,MZ];omega
  exact this _
 have sp:kV 15:= .inl (by omega);have fr:∀q∈qM (mZ u of p t),kV q:=λq hq=>by obtain⟨m,f,rfl⟩:=pM.1 hq;exact(d m f).1
 have tr:∀q∈kr (mZ u of p t),kV q:=λq hq=>by obtain⟨m,f,rfl⟩:=iz.1 hq;exact(d m f).2
 let ⟨f,y⟩:=RB (u:=u) (nb:=nb) (ne:=ne) (l:=out) λm r=>by
  let⟨a,b⟩:=s.Iq m r
  exact⟨a.elim (λe=>by rw[e];exact sp) λa=>a.elim (fr _) (tr _),b.elim (λe=>by rw[e];exact sp) (tr _)⟩
 refine⟨f,?_⟩;rw[y];have:=s.cost;omega
theorem Yt(g:Good u) (hp:JP u of) (mD:ne<=1048576) {b:Nat} {B:Bk} (n:u.blocks[b]? =some B) {k:Nat} {c:List Ni} (h:zap u of b B k c) (x:k+(Cu u of B).length<=ne) {m:Nat} (y:∀(t:Nat) T,u.blocks[t]? =some T->T.ee.length<=m) :
  (∀i∈c,rj u u.blocks.length ne i)/\c.length<=4*B.ee.length+4*m+3/\0<c.length:=by
 obtain⟨z,s,r,o,rfl⟩:=h;unfold Cu at x;rw[nB]at x
 let⟨C,F⟩:=U2 (nb:=u.blocks.length) g hp mD (l:=B.ee) (k:=k) (by omega)
 have f:=λt a=>g.nx b t (by unfold next;rw[n];exact a);have w1:(∀i∈z,rj u u.blocks.length ne i)/\z.length<=2*m:=by
  unfold KJ at r;split at r
  ·rename_i e
   let⟨p,A⟩:=Oi (nb:=u.blocks.length) (ne:=ne) g hp n (by omega) r
   have:=y b B n;exact⟨p,by omega⟩
  ·subst r;exact⟨by simp,by simp⟩
 have D:(∀i∈s,rj u u.blocks.length ne i)/\s.length<=2*m+3/\0<s.length:=by
  unfold Qr at o;have q:∀t∈B.next,rj u u.blocks.length ne ⟨23,0,0,0,(t:Nat)⟩:=λt a=>by
   have:=f t a;refine⟨by simp,?_,?_,?_,?_,?_,?_,?_⟩ <;> simp[ pK,tJ] <;> omega
  split at o
  ·rename_i e;obtain⟨d,hd,rfl⟩:=o;rcases g.fin b B n with⟨_,E⟩|⟨e2,_⟩|⟨e2,_⟩
   ·have a:B.next.getD 0 0∈B.next:=by
     rw[Dz,hN (by omega)];exact AQ _
    obtain⟨T,v⟩:∃T,u.blocks[B.next.getD 0 0]? =some T:=⟨_,hN (f _ a)⟩
    have w:0<T.fj.length:=by
     rw[g.fj _ T v];exact List.length_pos_of_mem (mU.2 (by unfold next;rw[n];exact a))
    let⟨p,A⟩:=Oi (nb:=u.blocks.length) (ne:=ne) g hp v w hd
    have:=y _ T v;refine⟨λi hi=>?_,by rw[nB,Tj];omega,by simp⟩;rcases vU.1 hi with hi|hi
    ·exact p i hi
    ·rw[Et.1 hi];exact q _ a
   ·omega
   ·omega
  ·rename_i e1;split at o
   ·rename_i e;rcases g.fin b B n with⟨e2,_⟩|⟨_,E,hc⟩|⟨e2,_⟩
    ·omega
    ·have a:∀j,j<2->B.next.getD j 0∈B.next:=λj G=>by
      rw[Dz,hN (by omega)];exact AQ _
     obtain⟨p,A,H⟩:=yf (nb:=u.blocks.length) (ne:=ne) (sp:=12) (by omega) (hp.pos (iC hc));subst o;refine⟨λi hi=>?_,by simp[nB,MZ,wBt];omega,by simp⟩;rcases vU.1 hi with hi|hi
     ·exact p i hi
     ·simp only[yt,wBp,or_false]at hi;rcases hi with rfl|rfl
      ·have:=f _ (a 1 (by omega));refine⟨by simp,?_,?_,?_,?_,?_,?_,?_⟩ <;> simp only[kK,pK,tJ] <;> simp[-List.getD_eq_getElem?_getD] <;> omega
      ·exact q _ (a 0 (by omega))
    ·omega
   ·rename_i e;have I:(Lv u of B).length=1:=by unfold Lv;rw[if_neg (by omega)];rfl
    subst o;refine⟨λi hi=>?_,by simp,by simp⟩;rw[Et.1 hi];refine⟨by simp,?_,?_,?_,?_,?_,?_,?_⟩ <;> simp[kK,pK,tJ,sR] <;> omega
 refine⟨λi hi=>?_,by simp[nB];omega,by simp[nB];omega⟩;rcases vU.1 hi with hi|hi
 ·rcases vU.1 hi with hi|hi
  ·exact w1.1 i hi
  ·exact C i hi
 ·exact D.1 i hi
def uN(n:Int):Nat:=(n % 18446744073709551616).toNat
def sN(n:Nat):Int:=if n<9223372036854775808 then n else(n:Int)-18446744073709551616
def Cz(n k:Nat):Nat:=n / 256 ^ k % 256
def T8(x:Ni):List Nat:=[x.op % 256,(16*x.a+x.b) % 256,x.c % 256]++(List.range 8).map (Cz (uN x.n))
def Ah(l:List Ni):List Nat:=l.flatMap T8
def Au(b:List Nat) (i:Nat):Nat->Nat
 |0=>0
 |k+1=>Au b i k+b.getD (i+k) 0*256 ^ k
def Dj(b:List Nat)(i:Nat):Ni:=⟨b.getD i 0,b.getD (i+1) 0 / 16,b.getD (i+1) 0 % 16,b.getD (i+2) 0,sN (Au b (i+3) 8)⟩
def Jf(b:List Nat):List Ni:=(List.range (b.length / 11)).map λi=>Dj b (11*i)
structure Qw (b:List Nat) (l:List Ni):Prop where
 len:b.length % 11=0
 eq:l=Jf b
 zcR:l.length<=32768
 ok:∀x∈l,Bw l.length x
theorem PU{b:List Nat} (a:∀x∈b,x<256) (i:Nat):∀k,Au b i k<256 ^ k
 |0=>Nat.one_pos
 | k + 1=>by
   have d:=PU a i k;have c:b.getD (i+k) 0<256:=by
     rw[Dz];by_cases h:i+k<b.length
     ·rw[hN h];exact a _ (AQ h)
     ·rw[ZR (by omega)];decide
   have e:b.getD (i+k) 0*256 ^ k+256 ^ k<=256*256 ^ k:=by
     rw[<-Nat.succ_mul];exact wBM _ c
   unfold Au;rw[Nat.pow_succ,wB5 (256 ^ k) 256];omega
theorem Lf(x:Ni):(T8 x).length=11:=by simp[T8]
theorem Du:∀l,(Ah l).length=11*l.length
 |[]=>rfl
 | x::l=>by
   have:=Du l;unfold Ah at this⊢;rw[Ob,nB,Lf,MZ];omega
theorem zea(n:Int):uN n<18446744073709551616:=by unfold uN;omega
theorem zfM{n:Int} (a : -9223372036854775808<=n) (b:n<9223372036854775808):sN (uN n)=n:=by
 unfold sN uN;split <;> omega
theorem zad{l:List Ni}  {x:Ni} (a:l[i]? =some x) (c:j<11):(Ah l)[11*i+j]? = (T8 x)[j]?:=by
 induction l generalizing i with
 |nil=>simp at a
 | cons y l b=>
   have e:Ah (y::l)=T8 y++Ah l:=by unfold Ah;rw[Ob]
   rw[e]
   cases i with
   | zero=>
     simp[ Option.some.injEq]at a;subst a
     rw[VQ (by rw[Lf];omega),Nat.mul_zero,Gg]
   | succ i=>
     rw[ZQ (by rw[Lf];omega),Lf,<-b (by simpa using a)];congr 1;omega
theorem UR{b:List Nat}  (a:∀k,k<8->b.getD (i+k) 0=Cz n k):∀k,k<=8->Au b i k=n % 256 ^ k
 |0,_=>by unfold Au;omega
 | k+1,h=>by
   unfold Au;rw[UR a k (by omega),a k (by omega)];unfold Cz;rw[Nat.pow_succ,Nat.mod_mul];rw[wB5]
theorem Zs{l:List Ni}  {x:Ni} (c:l[i]? =some x) {n:Nat} (ok:Bw n x) (d : -9223372036854775808<=x.n) (e:x.n<9223372036854775808):Dj (Ah l) (11*i)=x:=by
 have g:∀j,j<11->(Ah l).getD (11*i+j) 0=(T8 x).getD j 0:=λj f=>by rw[Dz,Dz,zad c f]
 have h:Au (Ah l) (11*i+3) 8=uN x.n:=by
  rw[UR (λk m=>?_) 8 (jj _)]
  ·exact Nat.mod_eq_of_lt (zea _)
  ·rw[VB,g (3+k) (by omega)];unfold T8;rw[Dz,ZQ (by simp),wA8,wBv (by simpa using m)];simp
 have o:=ok.2.2.1.1;have a:=ok.2.2.2.1.1;have b:=ok.2.2.2.2.1;have p:=ok.1;have e0:=g 0 (by omega);have e1:=g 1 (by omega);have e2:=g 2 (by omega);rw[Nat.add_zero]at e0;unfold Dj;rw[h,zfM d e,e0,e1,e2];cases x;simp[T8,Ni.mk.injEq,and_true,wBT,List.getD_cons_zero,List.getD_cons_succ]at*;omega
theorem zdG{l:List Ni} (hl:l.length<=32768) (ok:∀x∈l,Bw l.length x) (b:∀x∈l,-9223372036854775808<=x.n/\x.n<9223372036854775808):Qw (Ah l) l where
 len:=by rw[Du];omega
 eq:=by
  unfold Jf;rw[Du,Nat.mul_div_cancel_left _ (by decide)];refine wBz λi=>?_;rw[wA8];by_cases h:i<l.length
  ·rw[wBv h,hN h,Option.map_some];have a:=AQ h;rw[Zs (hN h) (ok _ a) (b _ a).1 (b _ a).2]
  ·rw[ZR (by omega),ZR (by simpa using by omega)];rfl
 zcR:=hl
 ok:=ok
theorem Qw.uniq{b:List Nat}{l a:List Ni}(h:Qw b l)(h':Qw b a):l=a:=h.eq.trans h'.eq.symm
def qy:Nat->List Ni->List Nat
 |_,[]=>[]
 |n,x::c=>if tJ x=true then n::qy (n+1) c else qy (n+1) c
theorem vJ:∀c d n,qy n (c++d)=qy n c++qy (n+c.length) d
 |[],d,n=>by simp[qy]
 | x::c,d,n=>by
   have a:=vJ c d (n+1);simp[wBT,qy,a,MZ];rw[show n+(c.length+1)=n+1+c.length by omega];split <;> simp
theorem Lr:∀{c:List Ni} {n:Nat},(∀x∈c,tJ x=false)->qy n c=[]
 |[],_,_=>rfl
 | x::c,n,h=>by
   unfold qy;rw[if_neg (by rw[h x (by simp)];simp)];exact Lr λy a=>h y (by simp[a])
theorem zbF{x y:Ni}  (a:tJ x=true) (b:tJ y=true):qy n [x,y]=[n,n+1]:=by
 simp[qy,a,b]
theorem Um:∀c n,(qy n c).length<=c.length
 |[],_=>jj _
 | x::c,n=>by
   have:=Um c (n+1);unfold qy;split <;> simp[MZ] <;> omega
theorem Rt{k:Nat} {r:List Nat}:∀{c:List Ni} {n:Nat},qy n c=k::r->∃a x c2,c=a++x::c2/\k=n+a.length/\(∀y∈a,tJ y=false)/\tJ x=true/\r=qy (k+1) c2
 |[],_,h=>by cases h
 | x ::c,n,h=>by
   unfold qy at h;split at h
   ·rename_i e
    cases h;exact⟨[],x,c,rfl,rfl,by simp,e,rfl⟩
   ·rename_i e
    let⟨a,y,c2,d,j,f,g,i⟩:=Rt h
    refine⟨x::a,y,c2,by rw[d];rfl,by rw[ MZ];omega,λz b=>?_,g,i⟩;rcases yt.1 b with rfl|b
    ·simpa using e
    ·exact f z b
theorem Vq{bs:List Nat} {c:List Ni} (h:∀x∈c,tJ x=false):c.map (patch bs)=c:=by
 have:c.map (patch bs)=c.map id:=wBe λx a=>by
  unfold patch;rw[if_neg (by rw[h x a];simp)];rfl
 rw[this,List.map_id]
theorem Cy(p:Int) (sp:Nat):∀i∈ko p sp,tJ i=false:=by
 unfold ko;split
 ·simp
 ·intro i hi;rw[Et.1 hi];rfl
theorem W4{p:Int} {x:Ni} (h:x.op≠23/\x.op≠24):∀i∈Ad p x,tJ i=false:=by
 unfold Ad;split <;> simp[tJ,VD,h]
theorem zcF(m:Mv):∀i∈rr m,tJ i=false:=by
 unfold rr;split <;> split <;> simp[tJ,VD,Yb]
theorem zbL{u:U} {of:List Int} {p t:Nat} {c:List Ni} (h:UM u of p t c):∀i∈c,tJ i=false:=by
 obtain⟨out,_,rfl⟩:=h;intro i hi
 let⟨m,_,hm⟩:=Rb.1 hi
 exact zcF m i hm
theorem zeI{u:U} (g:Good u) {of:List Int} {v:Nat} {x:Vl} (c:u.ee[v]? =some x) (k:Nat):∀i∈px of v x k,tJ i=false:=by
 have one:∀{l:List Ni} {y:Ni},(∀i∈l,tJ i=false)->tJ y=false->∀i∈l++[y],tJ i=false:=λa b i hi=>(vU.1 hi).elim (a i) λhi=>by rw[Et.1 hi];exact b
 have ap:∀{l m:List Ni},(∀i∈l,tJ i=false)->(∀i∈m,tJ i=false)->∀i∈l++m,tJ i=false:=λa b i hi=>(vU.1 hi).elim (a i) (b i);unfold px;split
 ·simp
 rename_i d;split
 ·exact W4 (by simp)
 split
 ·exact one (ap (Cy _ _) (Cy _ _)) rfl
 split
 ·exact one (ap (ap (Cy _ _) (Cy _ _)) (Cy _ _)) rfl
 split
 ·exact one (Cy _ _) rfl
 split
 ·intro i hi;rw[Et.1 hi];rfl
 split
 ·rename_i e;exact ap (Cy _ _) (W4 (by simp only;omega))
 ·refine ap (ap (Cy _ _) (Cy _ _)) (W4 ?_);simp only;omega
theorem X1{u:U} (g:Good u) {of:List Int}:∀l k,∀i∈jQ u of l k,tJ i=false
 |[],_,i,h=>by cases h
 | v ::l,k,i,h=>by
   rcases vU.1 h with h|h
   ·unfold zQ at h
    split at h
    ·rename_i x a;exact zeI g a k i h
    ·cases h
   ·exact X1 g l _ i h
theorem KT{α:Type} {m:Nat}:∀{l:List (List α)},(∀c∈l,c.length<=m)->l.flatten.length<=l.length*m
 |[],_=>by simp
 | c::l,h=>by
   have a:=h c (by simp);have b:=KT (l:=l) λd hd=>h d (by simp[hd]);simp only[wB1,nB,MZ,YH];omega
theorem Uk{x:Ni} {cs:List (List Ni)} (h:x∈cs.flatten):∃(i:Nat) (c:List Ni),cs[i]? =some c/\x∈c:=by
 let⟨c,hc,hx⟩:=List.mem_flatten.1 h
 let⟨i,hi⟩:=mG.1 hc
 exact⟨i,c,hi,hx⟩
theorem M0  (a:u.blocks[i]? =some B):((u.blocks.take i).flatMap (Cu u of)).length+(Cu u of B).length<=(qf u of).length:=by
 have h:u.blocks=u.blocks.take i++B::u.blocks.drop (i+1):=by
  let⟨b,c⟩:=j6.1 a
  rw[<-c,<-ZH b,wA0]
 unfold qf
 conv=>rhs;rw[h]
 simp only[WQ,Ob,nB];omega
theorem zez{nb ne:Nat} {x:Ni} (h:rj u nb ne x) (bs:List Nat) (f:∀b,b<nb->∃k,bs[b]? =some k/\k<=n) (mD:ne<=1048576):Bw n (patch bs x)/\((patch bs x).op=25\/(patch bs x).op=26\/(patch bs x).op=27->(patch bs x).n<ne)/\((patch bs x).op=1\/(patch bs x).op=19\/(patch bs x).op=21->∃v∈u.ee,(patch bs x).n=v.n):=by
 unfold patch;split
 ·rename_i e
  let⟨i,l⟩:=h.j e
  let⟨k,hk,hkn⟩:=f x.n.toNat (by omega)
  have e':x.op=23\/x.op=24:=by simpa[tJ]using e
  refine⟨⟨h.op,?_,h.a,h.b,h.c⟩,λh=>by simp only at h;omega,λh=>by simp only at h;omega⟩;unfold sR;rw[if_neg (by simp only;omega),if_neg (by simp only;omega),if_pos (by simp only;omega),Dz,hk];exact⟨Int.natCast_nonneg _,by simp[Option.getD_some];omega⟩
 ·rename_i e;have e0:tJ x=false:=by simpa using e
  have e':¬(x.op=23\/x.op=24):=by
   intro h;exact e (by simpa[tJ]using h)
  refine⟨⟨h.op,?_,h.a,h.b,h.c⟩,h.e,h.w⟩;have:=h.n e0;unfold sR at this⊢;split
  ·trivial
  rename_i g;rw[if_neg g]at this;split
  ·rename_i d;rw[if_pos d]at this;exact this
  rename_i d;rw[if_neg d]at this;rw[if_neg e']at this;exact this
theorem Xl(g:Good u) (hp:JP u of) {l:List Ni} (h:EmitC u of l) {m:Nat} (e:∀(t:Nat) T,u.blocks[t]? =some T->T.ee.length<=m) (mD:(qf u of).length<=1048576) :
  (∀x∈l,Bw l.length x/\(x.op=25\/x.op=26\/x.op=27->x.n<(qf u of).length)/\(x.op=1\/x.op=19\/x.op=21->∃v∈u.ee,x.n=v.n))/\l.length<=u.blocks.length*(8*m+3)/\0<l.length:=by
 obtain ⟨cs,hc,rfl⟩:=h;have hl:=hc.length;have a:∀(i:Nat) c,cs[i]? =some c->(∀x∈c,rj u u.blocks.length (qf u of).length x)/\c.length<=8*m+3/\0<c.length:=λi c hi=>by
  have p:=(j6.1 hi).1;obtain⟨B,f⟩:∃B,u.blocks[i]? =some B:=⟨_,hN (by omega)⟩
  let⟨c',j,k⟩:=hc.get f
  rw[hi]at j;cases j;rw[Gg,Gg]at k
  let⟨q,C,r⟩:=Yt g hp mD f k (M0 f) e
  have:=e i B f;exact⟨q,by omega,r⟩
 refine⟨λx w=>?_,?_,?_⟩
 ·rw[Qv];obtain⟨y,z,rfl⟩:=Ov.1 w
  let⟨i,c,j,k⟩:=Uk z
  refine zez ((a i c j).1 y k) _ (λb D=>⟨_,Ko cs 0 b (by omega),?_⟩) mD;rw[Gg]
  conv=>rhs;rw[<-wA0 b cs]
  rw[List.flatten_append,nB];omega
 ·rw [Qv,<-hl];exact KT λc o=>by
   let⟨i,hi⟩:=mG.1 o
   exact(a i c hi).2.1
 ·rw[Qv];have A:=g.WI;obtain⟨c,d⟩:∃c,cs[0]? =some c:=⟨_,hN (by omega)⟩
  have:=(a 0 c d).2.2;have e:=mG.2 ⟨0,d⟩;obtain⟨s,t,rfl⟩:=wBw e;simp[List.flatten_append,wB1,nB];omega
theorem UP(ops c:List Int) (n:Int):(zG ops c n).blocks.length<=19/\∃(b:Nat) (B:Bk),(zG ops c n).blocks[b]? =some B/\B.fin=3:=by
 constructor
 ·have hp:=IE (jD n 5) 0 ⟨[],[],[],[],0⟩;have e:=yJ n (m:=5) (by omega)
  let⟨r1,r2⟩:=Cq ops (ig (params (jD n 5) 0 ⟨[],[],[],[],0⟩) (vl 2 0 0 5 [] 0))
  have e1:(ig (params (jD n 5) 0 ⟨[],[],[],[],0⟩) (vl 2 0 0 5 [] 0)).ee.length=jD n 5+1:=by
   simp only[ig,nB,hp.1];simp
  have e2:(ig (params (jD n 5) 0 ⟨[],[],[],[],0⟩) (vl 2 0 0 5 [] 0)).ez=[]:=hp.2;have d:ZJ ⟨row ops (ig (params (jD n 5) 0 ⟨[],[],[],[],0⟩) (vl 2 0 0 5 [] 0)),[],[]⟩ 0:=by
   have a:=r1.ee;have b:=r1.ez;rw[e1]at a b r2;rw[e2]at b;refine⟨by grind,?_,jj _⟩;show(row ops _).ez.length<=(row ops _).ee.length+0;simp at b;omega
  have f:=EL ops (c.take 6) d;have hlen:(c.take 6).length<=6:=by rw[Sr];omega
  unfold zG;simp only;generalize kY ops (c.take 6) ⟨row ops (ig (params (jD n 5) 0 ⟨[],[],[],[],0⟩) (vl 2 0 0 5 [] 0)),[],[]⟩=t at*;have bl:=f.blocks;show(t.blocks++[_]).length<=19;rw[nB,Tj];omega
 ·unfold zG end_;exact⟨_,_,wBC,rfl⟩
theorem RA{m:Nat} (a:∀(t:Nat) T,u.blocks[t]? =some T->T.ee.length<=m):(qf u of).length<=u.blocks.length*(m+1):=by
 have one:∀l,(ju u of l).length<=l.length:=λl=>by
  induction l with
  |nil=>simp[ju]
  | cons v l b=>
    have:(rJ u of v).length<=1:=by
      unfold rJ;split
      ·unfold Bv;split <;> simp
      ·simp
    unfold ju at b⊢;simp only[Ob,nB,MZ];omega
 have h:(u.blocks.map (Cu u of)).flatten.length<=(u.blocks.map (Cu u of)).length*(m+1):=KT λc hc=>by
  obtain⟨B,d,rfl⟩:=Ov.1 hc
  let⟨t,ht⟩:=mG.1 d
  have e:=a t B ht;have f:=one B.ee;have g:(Lv u of B).length<=1:=by unfold Lv;split <;> simp
  unfold Cu;rw[nB];omega
 rw[Qv]at h;exact h
def Nn(l:List Vl):Prop:=∀x∈l,-9<=x.n/\x.n<=1048576
theorem kZ{l:List Vl} {x:Vl} (h:Nn l) (b : -9<=x.n/\x.n<=1048576):Nn (l++[x]):=λy a=>by
 rcases vU.1 a with a|a
 ·exact h y a
 ·rw[Et.1 a];exact b
theorem Yo(ops:List Int):∀i s l,(some_ ops i s l).2.ee=s.ee
 |0,_,_=>rfl
 |i+1,s,l=>(Yo ops i (fO ops s).2 _).trans rfl
theorem PE(ops:List Int)(s:Ds):(fI ops s).2.ee=s.ee:=Yo ops _ _ _
theorem zcG  (h:Nn s.ee) (k a b:Nat):Nn (tF ops s k a b).ee:=by
 have d:=λm (c:0<m)=>wV ops s.pos c;unfold tF
 repeat' split
 ·exact kZ h (by simp[vl])
 ·have:=d 1048576 (by decide);exact kZ h (by simp[vl,num];omega)
 ·have:=d 5 (by decide);exact kZ h (by simp[vl,num];omega)
 ·exact kZ h (by simp[vl])
 ·have:=d 5 (by decide);exact kZ h (by simp[vl,num];omega)
 ·exact kZ h (by simp[vl])
 ·exact kZ ((PE ops s).symm▸h) (by simp[vl])
 ·exact kZ ((PE ops s).symm▸h) (by simp[vl])
 ·exact kZ h (by simp[vl])
theorem XA:∀i {s:Ds},Nn s.ee->Nn (rows ops i s).ee
 |0,_,h=>h
 | i+1,s,h=>by
   unfold rows;split
   ·exact XA i (by unfold uJ;refine zcG ?_ _ _ _;exact h)
   ·exact h
theorem EX(h:Nn s.ee):Nn (row ops s).ee:=XA _ h
theorem SQ{l:List Vl} (h:Nn l) {v:Nat} {a:List Nat}:Nn (l.modify v λx=>{x with args:=a}):=λx b=>by
 let⟨i,hi⟩:=mG.1 b
 simp only[List.getElem?_modify]at hi
 cases hy:l[i]? with
 |none=>rw[hy]at hi;cases hi
 | some y=>
   rw[hy]at hi;have:=h y (Ap hy)
   grind
theorem Xk(h:Nn s.ee):Nn (fI ops s).2.ee:=(PE ops s).symm▸h
theorem zaU {t:Dt} (h:Nn t.s.ee) (k:Nat):Nn (tW ops k t).s.ee:=by
 unfold tW
 repeat' split
 ·unfold fork;refine EX (kZ ?_ (by simp[vl]));exact EX (EX h)
 ·unfold loop;refine EX (SQ (?_:Nn (ite _ _ _:Ds).ee));split
  ·refine SQ (SQ (EX (kZ (kZ (kZ (Xk (kZ (kZ h ?_) ?_)) ?_) ?_) ?_))) <;> simp[vl]
  ·refine SQ (EX (kZ (kZ (kZ (Xk (kZ (kZ h ?_) ?_)) ?_) ?_) ?_)) <;> simp[vl]
 ·unfold zM;exact EX (Xk (EX h))
theorem QS:∀l {t:Dt},Nn t.s.ee->Nn (kY ops l t).s.ee
 |[],_,h=>h
 | k::l,t,h=>by
   unfold kY;split
   ·exact QS l (zaU h _)
   ·exact h
theorem RJ:∀n i {s:Ds},Nn s.ee->i+n<=9->Nn (params n i s).ee
 |0,_,_,h,_=>h
 |n+1,i,s,h,hi=>RJ n (i+1) (kZ h (by simp[vl];omega)) (by omega)
theorem Z6(ops a:List Int) (n:Int):Nn (zG ops a n).ee:=by
 have:=yJ n (m:=5) (by decide);exact Xk (QS _ (EX (kZ (RJ _ _ (λ_ h=>nomatch h) (by omega)) (by simp[vl]))))
theorem zbZ{u:U} (c:Nn u.ee) {l:List Ni} (hl:l.length<=32768) (h:∀x∈l,Bw l.length x/\(x.op=25\/x.op=26\/x.op=27->x.n<1048576)/\(x.op=1\/x.op=19\/x.op=21->∃v∈u.ee,x.n=v.n)):Qw (Ah l) l:=
 zdG hl (λx a=>(h x a).1) λx a=>by
  let⟨⟨_,b,_⟩,_,d⟩:=h x a
  unfold sR at b;split at b
  ·rename_i e
   let⟨v,hv,e⟩:=d e
   have:=c v hv;omega
  repeat' split at b
  all_goals omega
end
open Dm
section
variable (u:U)(as:Nat->Int)
def stays(v:Nat):Bool:=as v == (v:Int)
def zdX:List Nat:=u.blocks.flatMap λB=>B.ee.filter (stays as)
def zbO:Nat->Nat->Nat
 |0,v=>v
 |k+1,v=>if 0<=as v/\as v≠(v:Int) then zbO k (as v).toNat else v
def nm(v:Nat):Nat:=if zbO as (u.ee.length+1) v∈zdX u as then(zdX u as).idxOf (zbO as (u.ee.length+1) v) else 0
end
def zgG(u:U):Prop:=∀v b k a k',At u v b k->At u v a k'->b=a/\k=k'
theorem WK{u:U} (c:zgG u) {b:Nat} {B:Bk} (a:u.blocks[b]? =some B):B.ee.Nodup:=by
 refine wBK.2 λi j hi d f e=>?_;have g:At u B.ee[i] b i:=⟨B,a,hN hi⟩
 have h:At u B.ee[i] b j:=⟨B,a,by rw[e];exact hN d⟩
 have:=(c _ _ _ _ _ g h).2;omega
structure Fit (u:U) (as:Nat->Int):Prop where
 root:∀v,v<u.ee.length->0<=as v->∃w:Nat,as v=(w:Int)/\w<u.ee.length/\as w=(w:Int)
 up:∀(v w b k:Nat),as v=(w:Int)->At u v b k->∃c j,At u w c j/\(c=b/\j<=k\/c≠b/\zo (next u) c b)
 zfB:∀(v w:Nat),as v=(w:Int)->nD u v->nD u w
 use:∀v x,u.ee[v]? =some x->stays as v=true->∀w∈jq x,0<=as w
 st:∀v x fs,u.ee[v]? =some x->stays as v=true->leaves x.op=true->u.ez[x.state]? =some fs->∀w∈iG fs,0<=as w
 cond:∀(b:Nat) B,u.blocks[b]? =some B->B.fin=2->0<=as B.cond
 out:∀(b:Nat) B fs,u.blocks[b]? =some B->B.fin=3->u.ez[B.state]? =some fs->∀w∈iG fs,0<=as w
class zbn (P:Nat->Prop) (as:Nat->Int):Prop where
 h:∀v,stays as v=true->P v
instance (as:Nat->Int):zbn (λ_=>True) as:=⟨λ_ _=>trivial⟩
instance (as:Nat->Int):zbn (λv=>stays as v=true) as:=⟨λ_ h=>h⟩
section
variable{u:U}{P:Nat->Prop}{as:Nat->Int}[hP:zbn P as] (g:Gd u P)(f:Fit u as)
include g
theorem Ir{b:Nat}(a:u.blocks[b]? =some B):B.ee.Nodup:=WK g.PD a
include f
omit f g
include g f
end
def qQ(n:Int):Int:=n % 18446744073709551616
def Gz(n:Int):Int:=if n<9223372036854775808 then n else n-18446744073709551616
def LH(b:Bool):Int:=if b=true then 1 else 0
def Mf(op:Nat) (a b:Int):Int:=
 if op=3 then qQ (a+b) else if op=4 then qQ (a-b) else if op=5 then qQ (a*b)
 else if op=6 then(if Gz b=0 then 0 else if Gz b = -1 then qQ (-a) else qQ ((Gz a).tdiv (Gz b)))
 else if op=7 then(if Gz b=0\/Gz b = -1 then 0 else qQ ((Gz a).tmod (Gz b)))
 else if op=8 then qQ (-a) else if op=9 then LH (decide (a=0)) else if op=10 then LH (decide (a=b)) else if op=11 then LH (decide (a≠b))
 else if op=12 then LH (decide (Gz a<Gz b)) else if op=13 then LH (decide (Gz a<=Gz b)) else if op=14 then LH (decide (a<b)) else 0
def mN(h:List Int)(a:Int):Int:=h.getD a.toNat 0
def Ea(h:List Int)(a v:Int):List Int:=if a=0 then h else h.set a.toNat v
def rZ(x:Vl) (val:Nat->Int) (h:List Int):Int:=
 if x.op=2 then qQ x.n else if x.op=15 then mN h (val x.a) / 4294967296 else if x.op=16 then mN h (val x.a) % 4294967296
 else if x.op=17 then mN h (qQ (val x.a+qQ x.n)) else if x.op=18 then mN h (qQ (qQ (val x.a+1)+val x.b))
 else if x.op=8\/x.op=9 then Mf x.op (val x.a) 0 else Mf x.op (val x.a) (val x.b)
structure Rs where
 val:List Int
 heap:List Int
 steps:Nat
 polls:Nat
def Rs.of(s:Rs)(v:Nat):Int:=s.val.getD v 0
structure Fw where
 func:Int
 pc:Int
 locals:List Int
 stack:List Int
inductive Ex where
 |z9
 |left (steps:Nat) (fr:List Fw) (heap:List Int) (st:Nat) (jh:Int)
 |stuck
def zt(u:U)(s:Rs)(st:Nat)(jh:Int):Ex:= .left s.steps (((u.ez[st]?).getD []).map λf=>⟨f.func,f.pc,f.locals.map s.of,f.stack.map s.of⟩) s.heap st jh
def uD(u:U) (fk:Int) (n:Nat) (x:Vl) (s:Rs):Ex ⊕ Rs:=
 if x.op=19 then .inr {s with heap:=Ea s.heap (qQ (s.of x.a+qQ x.n)) (s.of x.b),steps:=s.steps+1}
 else if x.op=20 then .inr {s with heap:=Ea s.heap (qQ (qQ (s.of x.a+1)+s.of x.b)) (s.of (x.args.getD 0 0)),steps:=s.steps+1}
 else if x.op=22 then(if s.of x.a=0 then .inl (zt u {s with steps:=s.steps+1} x.state n) else .inr {s with steps:=s.steps+1})
 else if x.op=23 then(if 0<=fk/\(s.polls:Int)=fk then .inl (zt u {s with steps:=s.steps+1} x.state n) else .inr {s with steps:=s.steps+1,polls:=s.polls+1})
 else .inr {s with val:=s.val.set n (rZ x s.of s.heap),steps:=s.steps+1}
def p9(u:U) (fk:Int) (fuel:Nat):List Nat->Rs->Ex ⊕ Rs
 |[],s=> .inr s
 | n ::l,s=>if fuel<=s.steps then .inl .z9 else match u.ee[n]? with
   |none=> .inl .stuck
   | some x=>match uD u fk n x s with
     | .inl e=> .inl e
     | .inr s=>p9 u fk fuel l s
def gM(u:U) (v:Nat):Bool:=match u.ee[v]? with
 |some x=>iX x.op
 |none=>false
def KG(u:U) (locals:List Int) (qO:Option Nat) (B:Bk) (val:Nat->Int) (v:Nat):Int:=match u.ee[v]? with
 | some x=>if x.op=1 then locals.getD x.n.toNat 0 else match qO with
   | some p=>match B.fj.findIdx? (·== p)with
     |some j=>val (x.args.getD j 0)
     |none=>0
   |none=>0
 |none=>0
def B6(val:List Int)(l:List (Nat×Int)):List Int:=l.foldl (λa p=>a.set p.1 p.2) val
def lW(u:U) (locals:List Int) (qO:Option Nat) (B:Bk) (s:Rs):Rs:=
 let hs:=B.ee.takeWhile (gM u)
 {s with val:=B6 s.val (hs.map λv=>(v,KG u locals qO B s.of v)),steps:=s.steps+hs.length}
def FV(B:Bk)(s:Rs):Option Nat:=if B.fin=1 then B.next[0]? else if B.fin=2 then(if s.of B.cond=0 then B.next[1]? else B.next[0]?) else none
def runM(u:U) (locals:List Int) (fk:Int) (fuel:Nat):Nat->Option Nat->Nat->Rs->Ex
 |0,_,_,_=> .stuck
 | Jn+1,qO,b,s=>match u.blocks[b]? with
   |none=> .stuck
   | some B=>match p9 u fk fuel (B.ee.dropWhile (gM u)) (lW u locals qO B s)with
     | .inl e=>e
     | .inr s=>if fuel<=s.steps then .z9 else if B.fin=3 then zt u {s with steps:=s.steps+1} B.state (-1) else match FV B s with
       |none=> .stuck
       |some t=>runM u locals fk fuel Jn (some b) t {s with steps:=s.steps+1}
def EH(u:U)(heap:List Int):Rs:=⟨List.replicate u.ee.length 0,heap,0,0⟩
theorem HD{l:List Int}  {x:Int} (hi:i<l.length):(l.set i x).getD j 0=if j=i then x else l.getD j 0:=by
 grind
theorem Kw(l:List (Nat×Int)):∀val,(B6 val l).length=val.length:=by
 induction l with
 |nil=>exact λ_=>rfl
 | cons p l a=>
   grind[B6,YI]
theorem J5{f:Nat->Int} :∀(l:List Nat) val,(∀v∈l,v<val.length)->(B6 val (l.map λv=>(v,f v))).getD j 0=if j∈l then f j else val.getD j 0
 |[],_,_=>by rfl
 | v::l,val,h=>by
   show(B6 (val.set v (f v)) (l.map λv=>(v,f v))).getD j 0=_;rw[J5 l _ (by simp_all),HD (by simp_all)]
   grind
theorem AP{u:U} {t:Nat} {B:Bk} (g:Good u) (d:u.blocks[t]? =some B):∀v∈B.ee.dropWhile (gM u),gM u v=false:=λv hv=>by
 obtain⟨i,hi⟩:=mG.1 hv;have hs:=wBf (p:=gM u) (l:=B.ee);generalize k:B.ee.takeWhile (gM u)=a at*;have mD:B.ee.dropWhile (gM u)≠[]:=λh=>by rw[h]at hv;cases hv
 have h0:=List.head_dropWhile_not (gM u) mD;have c:(B.ee.dropWhile (gM u))[0]? =some ((B.ee.dropWhile (gM u)).head mD):=by rw[List.head_eq_getElem,hN]
 generalize B.ee.dropWhile (gM u)=b at*;have at_:∀{j w:Nat},b[j]? =some w->At u w t (a.length+j):=λ{j w} f=>⟨B,d,by rw[<-hs,ZQ (by omega),wBQ];exact f⟩
 cases hh:gD u v with
 |false=>exact hh
 | true=>
   have:=g.Od (at_ hi) hh (at_ c) (by omega);have e:gM u (b.head mD)=gD u (b.head mD):=rfl;rw[e,this]at h0;cases h0
