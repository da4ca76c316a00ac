/- Parts. -/
import Derived.Test.YtcoaokdoecgcbaaGreatDoorM13
set_option maxHeartbeats 4000000
namespace Go.Proofs.YtcoaokdoecgcbaaGreatDoor.Un
abbrev Mv:=Int×Int
def KL{W:Type}(σ:Int->W)(t:Int)(w:W):Int->W:=λp=>if p=t then w else σ p
def Cq{W:Type}:List Mv->(Int->W)->Int->W
 |[],σ=>σ
 |m::l,σ=>Cq l (KL σ m.2 (σ m.1))
theorem zU{W:Type} (m:Mv):∀(l:List Mv) (σ:Int->W),Cq (l++[m]) σ=KL (Cq l σ) m.2 (Cq l σ m.1)
 |[],_=>rfl
 |_::l,_=>zU m l _
def Eh(m:Mv):Nat:=if 16<=m.1/\16<=m.2 then 2 else 1
def cost:List Mv->Nat
 |[]=>0
 |m::l=>Eh m+cost l
theorem CE(m:Mv):∀l,cost (l++[m])=cost l+Eh m
 |[]=>by simp[cost]
 |a::l=>by simp only[wBQ,cost,CE m l];omega
theorem TT(m:Mv):Eh m<=2:=by unfold Eh;split <;> omega
def jP(l:List Mv):List Int:=l.map (·.2)
def oH(l:List Mv):List Int:=l.map (·.1)
theorem iB{l:List Mv}{p:Int}:p∈jP l↔∃m∈l,m.2=p:=by simp[jP]
theorem pE{l:List Mv}{p:Int}:p∈oH l↔∃m∈l,m.1=p:=by simp[oH]
def less(R:List Mv)(t:Int):List Mv:=R.filter λm=>m.2≠t
theorem kr{R:List Mv}{t:Int}{m:Mv}:m∈less R t↔m∈R/\m.2≠t:=by simp[less]
theorem T9{R:List Mv} (h:(jP R).Nodup) {m k:Mv} (d:m∈R) (f:k∈R) (e:m.2=k.2):m=k:=by
 induction R with
 |nil=>cases d
 | cons a R g=>
   simp only[jP,XY,TJ]at h;rcases wM.1 d with rfl|b <;> rcases wM.1 f with rfl|c
   ·rfl
   ·exact(h.1 (Q1.2 ⟨k,c,e.symm⟩)).elim
   ·exact(h.1 (Q1.2 ⟨m,b,e⟩)).elim
   ·exact g h.2 b c
theorem Vj{R:List Mv} (h:(oH R).Nodup) {m k:Mv} (d:m∈R) (f:k∈R) (e:m.1=k.1):m=k:=by
 induction R with
 |nil=>cases d
 | cons a R g=>
   simp only[oH,XY,TJ]at h;rcases wM.1 d with rfl|b <;> rcases wM.1 f with rfl|c
   ·rfl
   ·exact(h.1 (Q1.2 ⟨k,c,e.symm⟩)).elim
   ·exact(h.1 (Q1.2 ⟨m,b,e⟩)).elim
   ·exact g h.2 b c
theorem FY{R:List Mv} (h:(jP R).Nodup) {m:Mv} (b:m∈R):(less R m.2).length+1=R.length:=by
 induction R with
 |nil=>cases b
 | cons a R d=>
   simp only[jP,XY,TJ]at h;rcases wM.1 b with rfl|b
   ·have:less R m.2=R:=List.filter_eq_self.2 λk f=>by
      simp only[ne_eq,decide_not,Bool.not_eq_eq_eq_not,wBc,decide_eq_false_iff_not];exact λe=>h.1 (Q1.2 ⟨k,f,e⟩)
    have c:less (m::R) m.2=less R m.2:=by simp[less]
    rw[c,this];rfl
   ·have oS:a.2≠m.2:=λe=>h.1 (Q1.2 ⟨m,b,e.symm⟩)
    have c:less (a::R) m.2=a::less R m.2:=by simp[less,oS]
    have:=d h.2 b;rw[c];simp only[Jo];omega
theorem QM{R:List Mv}(h:(jP R).Nodup)(t:Int):(jP (less R t)).Nodup:=h.sublist (List.filter_sublist.map _)
theorem Sl{R:List Mv}(h:(oH R).Nodup)(t:Int):(oH (less R t)).Nodup:=h.sublist (List.filter_sublist.map _)
structure RO (l:List Mv) (sp:Int) (R out:List Mv):Prop where
 nd:(jP R).Nodup
 sub:∀m∈R,m∈l/\m.1≠m.2
 Iu:∀m∈out,(m.1=sp\/m.1∈oH l\/m.1∈jP l)/\(m.2=sp\/m.2∈jP l)
 cost:cost out+2*R.length<=2*l.length
 Y5:∀(W:Type) (σ:Int->W),(∀m∈l,m ∉ R->Cq out σ m.2=σ m.1)/\(∀m∈R,Cq out σ m.1=σ m.1)/\∀p,p≠sp->p ∉ jP l->Cq out σ p=σ p
theorem RO.start{l:List Mv} (sp:Int) (h:(jP l).Nodup):RO l sp (l.filter λm=>m.1≠m.2) [] where
 nd:=h.sublist (List.filter_sublist.map _)
 sub m a:=by simpa using a
 Iu:=by simp
 cost:=by have:=List.length_filter_le (λm:Mv=>decide (m.1≠m.2)) l;simp only[Un.cost];omega
 Y5 W σ:=by
  refine⟨λm a b=>?_,λ_ _=>rfl,λ_ _ _=>rfl⟩;have:m.1=m.2:=Classical.byContradiction λe=>b (Zm.2 ⟨a,by simpa using e⟩);show σ m.2=σ m.1;rw[this]
theorem RO.zgK{l:List Mv} {sp:Int} {R out:List Mv} (I:RO l sp R out) (hl:(jP l).Nodup) (hs:∀m∈l,m.1≠sp/\m.2≠sp) {m:Mv} (b:m∈R) (i:m.2 ∉ oH R):RO l sp (less R m.2) (out++[m]) where
 nd:=QM I.nd _
 sub k a:=I.sub k (kr.1 a).1
 Iu k a:=by
  rcases xU.1 a with a|a
  ·exact I.Iu k a
  ·have f:k=m:=by simpa using a
   subst f;have:=(I.sub k b).1;exact⟨.inr (.inl (pE.2 ⟨k,this,rfl⟩)),.inr (iB.2 ⟨k,this,rfl⟩)⟩
 cost:=by
  have q:=FY I.nd b;have r:=I.cost;have s:=TT m;rw[CE];omega
 Y5 W σ:=by
  obtain⟨s1,h,j⟩:=I.Y5 W σ;simp only[zU,KL];refine⟨λk a g=>?_,λk a=>?_,λp n c=>?_⟩
  ·split
   ·rename_i e;have:=T9 hl a (I.sub m b).1 e;subst this;exact h _ b
   ·rename_i e;exact s1 k a λo=>g (kr.2 ⟨o,e⟩)
  ·have d:=kr.1 a;rw[if_neg λe=>i (pE.2 ⟨k,d.1,e⟩)];exact h k d.1
  ·rw[if_neg λe=>c (iB.2 ⟨m,(I.sub m b).1,e.symm⟩)];exact j p n c
structure Kl (R:List Mv):Prop where
 inj:(oH R).Nodup
 cl:∀m∈R,m.1∈jP R
theorem VE{a:List Int}:∀{b:List Int},a.Nodup->(∀x∈a,x∈b)->b.length<=a.length->b.Perm a:=by
 induction a with
 |nil=>intro b _ _ h;have:b=[]:=List.length_eq_zero_iff.1 (by simpa using h);rw[this]
 | cons x a f=>
   intro b c hs hl;have d:=hs x (by simp);have g:=List.perm_cons_erase d;rw[TJ]at c;refine g.trans (List.Perm.cons x (f c.2 (λy e=>?_) ?_))
   ·exact(List.mem_erase_of_ne (by rintro rfl;exact c.1 e)).2 (hs y (by simp[e]))
   ·rw[List.length_erase_of_mem d];simp at hl;omega
theorem Qf{a:List Int}:∀{b:List Int},a.Nodup->(∀x∈a,x∈b)->a.length<=b.length:=by
 induction a with
 |nil=>intro b _ _;exact Ll _
 | cons x a f=>
   intro b c hs;have d:=hs x (by simp);rw[TJ]at c;have g:=f (b:=b.erase x) c.2 λy e=>(List.mem_erase_of_ne (by rintro rfl;exact c.1 e)).2 (hs y (by simp[e]));have h:=List.length_erase_of_mem d;have:=List.length_pos_of_mem d;simp only[Jo];omega
theorem Kl.of{R:List Mv} (nd:(jP R).Nodup) (h:∀m∈R,m.2∈oH R):Kl R:=by
 have p:=VE (a:=jP R) (b:=oH R) nd (λx d=>by obtain⟨m,c,rfl⟩:=iB.1 d;exact h m c) (by simp[jP,oH]);exact⟨p.nodup_iff.2 nd,λm c=>p.mem_iff.1 (pE.2 ⟨m,c,rfl⟩)⟩
structure RgI (l:List Mv) (sp first to:Int) (R out:List Mv):Prop where
 nd:(jP R).Nodup
 sub:∀m∈R,m∈l/\m.1≠m.2
 Iu:∀m∈out,(m.1=sp\/m.1∈oH l\/m.1∈jP l)/\(m.2=sp\/m.2∈jP l)
 cost:cost out+2*R.length<=2*l.length+1
 inj:(oH R).Nodup
 mem:to∈jP R
 rg:∀m∈R,m.1=first\/(m.1≠to/\m.1∈jP R)
 Y5:∀(W:Type) (σ:Int->W),(∀m∈l,m ∉ R->Cq out σ m.2=σ m.1)/\(∀m∈R,m.1≠first->Cq out σ m.1=σ m.1)/\Cq out σ sp=σ first/\∀p,p≠sp->p ∉ jP l->Cq out σ p=σ p
theorem RO.ring{l:List Mv} {sp:Int} {R out:List Mv} (I:RO l sp R out) (hs:∀m∈l,m.1≠sp/\m.2≠sp) (f:Kl R) (s:sp<16) {p:Int} (g:p∈jP R):RgI l sp p p R (out++[(p,sp)]):=by
 obtain⟨m,h,rfl⟩:=iB.1 g;have i:=(I.sub m h).1;refine⟨I.nd,I.sub,λk c=>?_,?_,f.inj,g,λk c=>?_,λW σ=>?_⟩
 ·rcases xU.1 c with c|c
  ·exact I.Iu k c
  ·have j:k=(m.2,sp):=by simpa using c
   subst j;exact⟨.inr (.inr (iB.2 ⟨m,i,rfl⟩)),.inl rfl⟩
 ·have v:=I.cost;have:Eh (m.2,sp)=1:=by unfold Eh;rw[if_neg];omega
  rw[CE,this];omega
 ·by_cases e:k.1=m.2
  ·exact .inl e
  ·exact .inr ⟨e,f.cl k c⟩
 ·obtain ⟨s1,r,t⟩:=I.Y5 W σ;have d:∃k∈R,k.1=m.2:=by
   have p:=VE (a:=oH R) (b:=jP R) f.inj (λx u=>by obtain⟨m,h,rfl⟩:=pE.1 u;exact f.cl m h) (by simp[jP,oH]);exact pE.1 (p.mem_iff.1 g)
  simp only[zU,KL];refine⟨λk c n=>?_,λk c _=>?_,?_,λq hq o=>?_⟩
  ·rw[if_neg (hs k c).2];exact s1 k c n
  ·rw[if_neg (hs k (I.sub k c).1).1];exact r k c
  ·obtain⟨k,c,e⟩:=d;rw[<-e];exact(if_pos trivial).trans (r k c)
  ·rw[if_neg hq];exact t q hq o
theorem RgI.step{l:List Mv} {sp first:Int} {R out:List Mv} {m:Mv} (I:RgI l sp first m.2 R out) (hl:(jP l).Nodup) (hs:∀m∈l,m.1≠sp/\m.2≠sp) (d:m∈R) (oS:m.1≠first):RgI l sp first m.1 (less R m.2) (out++[m]) where
 nd:=QM I.nd _
 sub k a:=I.sub k (kr.1 a).1
 Iu k a:=by
  rcases xU.1 a with a|a
  ·exact I.Iu k a
  ·have o:k=m:=by simpa using a
   subst o;have:=(I.sub k d).1;exact⟨.inr (.inl (pE.2 ⟨k,this,rfl⟩)),.inr (iB.2 ⟨k,this,rfl⟩)⟩
 cost:=by
  have f:=FY I.nd d;have n:=I.cost;have x:=TT m;rw[CE];omega
 inj:=Sl I.inj _
 mem:=by
  rcases I.rg m d with h|⟨f,n⟩
  ·exact(oS h).elim
  ·obtain⟨k,a,e⟩:=iB.1 n;exact iB.2 ⟨k,kr.2 ⟨a,e▸f⟩,e⟩
 rg k a:=by
  have b:=kr.1 a;rcases I.rg k b.1 with h|⟨f,n⟩
  ·exact .inl h
  ·refine .inr ⟨λe=>?_,?_⟩
   ·exact b.2 (by rw[Vj I.inj b.1 d e])
   ·obtain⟨j,s,e⟩:=iB.1 n;exact iB.2 ⟨j,kr.2 ⟨s,e▸f⟩,e⟩
 Y5 W σ:=by
  obtain⟨s1,r,t,u⟩:=I.Y5 W σ;have c:=(I.sub m d).1;simp only[zU,KL];refine⟨λk a q=>?_,λk a g=>?_,?_,λp v i=>?_⟩
  ·split
   ·rename_i e;have:=T9 hl a c e;subst this;exact r _ d oS
   ·rename_i e;exact s1 k a λw=>q (kr.2 ⟨w,e⟩)
  ·have b:=kr.1 a;rcases I.rg k b.1 with h|⟨f,_⟩
   ·exact(g h).elim
   ·rw[if_neg f];exact r k b.1 g
  ·rw[if_neg (Ne.symm (hs m c).2)];exact t
  ·rw[if_neg λe=>i (iB.2 ⟨m,c,e.symm⟩)];exact u p v i
theorem RgI.close{l:List Mv} {sp:Int} {R out:List Mv} {m:Mv} (I:RgI l sp m.1 m.2 R out) (hl:(jP l).Nodup) (hs:∀m∈l,m.1≠sp/\m.2≠sp) (q:sp<16) (f:m∈R):RO l sp (less R m.2) (out++[(sp,m.2)])/\Kl (less R m.2):=by
 have b:=(I.sub m f).1;have cl:∀k∈less R m.2,k.1≠m.1/\k.1≠m.2/\k.1∈jP (less R m.2):=λk a=>by
  have c:=kr.1 a;have oS:k.1≠m.1:=λe=>c.2 (by rw[Vj I.inj c.1 f e]);rcases I.rg k c.1 with h|⟨g,o⟩
  ·exact(oS h).elim
  ·obtain⟨j,r,e⟩:=iB.1 o;exact⟨oS,g,iB.2 ⟨j,kr.2 ⟨r,e▸g⟩,e⟩⟩
 refine⟨⟨QM I.nd _,λk a=>I.sub k (kr.1 a).1,λk a=>?_,?_,λW σ=>?_⟩,Sl I.inj _,λk a=>(cl k a).2.2⟩
 ·rcases xU.1 a with a|a
  ·exact I.Iu k a
  ·have i:k=(sp,m.2):=by simpa using a
   subst i;exact⟨.inl rfl,.inr (iB.2 ⟨m,b,rfl⟩)⟩
 ·have g:=FY I.nd f;have o:=I.cost;have:Eh (sp,m.2)=1:=by unfold Eh;rw[if_neg];omega
  rw[CE,this];omega
 ·obtain ⟨s1,s,t,u⟩:=I.Y5 W σ;simp only[zU,KL];refine⟨λk a n=>?_,λk a=>?_,λp v d=>?_⟩
  ·split
   ·rename_i e;have:=T9 hl a b e;subst this;exact t
   ·rename_i e;exact s1 k a λw=>n (kr.2 ⟨w,e⟩)
  ·obtain⟨x,c2,_⟩:=cl k a;rw[if_neg c2];exact s k (kr.1 a).1 x
  ·rw[if_neg λe=>d (iB.2 ⟨m,b,e.symm⟩)];exact u p v d
structure zel (l:List Mv) (sp:Int) (out:List Mv):Prop where
 Iu:∀m∈out,(m.1=sp\/m.1∈oH l\/m.1∈jP l)/\(m.2=sp\/m.2∈jP l)
 cost:cost out<=2*l.length
 Y5:∀(W:Type) (σ:Int->W),(∀m∈l,Cq out σ m.2=σ m.1)/\∀p,p≠sp->p ∉ jP l->Cq out σ p=σ p
theorem RO.done{l:List Mv} {sp:Int} {out:List Mv} (I:RO l sp [] out):zel l sp out:=
 ⟨I.Iu,by have:=I.cost;simpa using this,λW σ=>⟨λm a=>(I.Y5 W σ).1 m a (by simp),(I.Y5 W σ).2.2⟩⟩
def K8(R:List Mv)(p:Int):Nat:=(R.filter λm=>m.1=p).length
theorem Cy{R:List Mv} {p:Int}:K8 R p=0↔p ∉ oH R:=by
 unfold K8;rw[List.length_eq_zero_iff,List.filter_eq_nil_iff,pE];simp only[AL,not_exists,not_and]
theorem N8{R:List Mv} (h:(jP R).Nodup) {m:Mv} (b:m∈R) (p:Int):K8 (less R m.2) p+(if p=m.1 then 1 else 0)=K8 R p:=by
 induction R with
 |nil=>cases b
 | cons a R d=>
   simp only[jP,XY,TJ]at h;rcases wM.1 b with rfl|b
   ·have e:less R m.2=R:=List.filter_eq_self.2 λk f=>by
      simp only[ne_eq,decide_not,Bool.not_eq_eq_eq_not,wBc,decide_eq_false_iff_not];exact λe=>h.1 (Q1.2 ⟨k,f,e⟩)
    have c:less (m::R) m.2=less R m.2:=by simp[less]
    rw[c,e];unfold K8;rw[List.filter_cons];by_cases e:m.1=p
    ·simp[e]
    ·simp[e,Ne.symm e]
   ·have oS:a.2≠m.2:=λe=>h.1 (Q1.2 ⟨m,b,e.symm⟩)
    have c:less (a::R) m.2=a::less R m.2:=by simp[less,oS]
    have:=d h.2 b;rw[c];unfold K8 at this⊢;rw[List.filter_cons,List.filter_cons];by_cases e:a.1=p <;> simp only[e,decide_true,decide_false,if_true,PM,if_false,Jo] <;> omega
theorem ZP(R:List Mv) (m:Mv) (p:Int):K8 (R++[m]) p=K8 R p+(if m.1=p then 1 else 0):=by
 unfold K8;rw[List.filter_append,oQ];congr 1;by_cases e:m.1=p <;> simp[e]
structure W9 (R:List Mv) (a:List Int):Prop where
 nd:a.Nodup
 iff:∀p,p∈a↔p∈jP R/\p ∉ oH R
theorem W9.perm{R:List Mv}{a b:List Int}(h:W9 R a)(p:b.Perm a):W9 R b:=⟨p.nodup_iff.2 h.nd,λx=>p.mem_iff.trans (h.iff x)⟩
theorem W9.step{R:List Mv} {m:Mv} {a:List Int} (h:W9 R (m.2::a)) (nd:(jP R).Nodup) (n:m∈R) :
  (K8 (less R m.2) m.1=0/\m.1∈jP (less R m.2)->W9 (less R m.2) (m.1::a))/\(¬(K8 (less R m.2) m.1=0/\m.1∈jP (less R m.2))->W9 (less R m.2) a):=by
 have d:=TJ.1 h.nd;have o:∀p,p∈jP (less R m.2)↔p∈jP R/\p≠m.2:=λp=>by
  simp only[iB,kr];constructor
  ·rintro⟨k,⟨b,c⟩,rfl⟩;exact⟨⟨k,b,rfl⟩,c⟩
  ·rintro⟨⟨k,b,rfl⟩,c⟩;exact⟨k,⟨b,c⟩,rfl⟩
 have fl:∀p,p≠m.1->(p ∉ oH (less R m.2)↔p ∉ oH R):=λp j=>by
  have:=N8 nd n p;rw[if_neg j]at this;rw[<-Cy,<-Cy];omega
 have g:m.1 ∉ a:=λi=>((h.iff m.1).1 (by simp[i])).2 (pE.2 ⟨m,n,rfl⟩);have f:∀p,p≠m.1->(p∈a↔p∈jP (less R m.2)/\p ∉ oH (less R m.2)):=λp j=>by
  rw[o,fl p j];have:=h.iff p;rw[wM]at this;constructor
  ·intro i;exact⟨⟨(this.1 (.inr i)).1,λe=>d.1 (e▸i)⟩,(this.1 (.inr i)).2⟩
  ·rintro⟨⟨b,c⟩,q⟩;rcases this.2 ⟨b,q⟩ with l|l
   ·exact(c l).elim
   ·exact l
 refine⟨λ⟨b,c⟩=>⟨TJ.2 ⟨g,d.2⟩,λp=>?_⟩,λr=>⟨d.2,λp=>?_⟩⟩
 ·by_cases e:p=m.1
  ·subst e;exact⟨λ_=>⟨c,Cy.1 b⟩,λ_=>RN ..⟩
  ·rw[wM];exact⟨λh=>(f p e).1 (h.resolve_left e),λh=> .inr ((f p e).2 h)⟩
 ·by_cases e:p=m.1
  ·subst e;exact⟨λh=>(g h).elim,λ⟨b,c⟩=>(r ⟨Cy.2 c,b⟩).elim⟩
  ·exact f p e
theorem W9.rings{R:List Mv} (h:W9 R []) (nd:(jP R).Nodup):Kl R:=Kl.of nd λm a=>Classical.byContradiction λb=>by
 have:=(h.iff m.2).2 ⟨iB.2 ⟨m,a,rfl⟩,b⟩;cases this
structure Ni where
 op:Nat
 a:Nat
 b:Nat
 c:Nat
 n:Int
structure Nl where
 kind:Int
 n:Int
structure Nf where
 func:Int
 pc:Int
 locals:List Nl
 stack:List Nl
structure Nx where
 il:List Nf
 state:Int
 val:Int
def jO(op:Nat):Nat:=
 if op=1\/op=3\/op=4\/op=24\/op=25 then 1 else if op=2\/op=10\/op=11\/op=17\/op=18\/op=19\/op=21 then 2
 else if(5<=op/\op<=9)\/(12<=op/\op<=16)\/op=20\/op=22 then 3 else 0
def tF(op:Nat) (x:Int) (n:Nat):Prop:=
 if op=1\/op=19\/op=21 then True else if op=3\/op=4 then 0<=x/\x<400 else if op=23\/op=24 then 0<=x/\x<=n
 else if op=25\/op=26\/op=27 then 0<=x/\x<=1048576 else x=0
def oO(k r i:Nat):Prop:=r<16/\(k<=i->r=0)
def Hl(n:Nat)(x:Ni):Prop:=(1<=x.op/\x.op<=27)/\tF x.op x.n n/\oO (jO x.op) x.a 0/\oO (jO x.op) x.b 1/\oO (jO x.op) x.c 2
def nV(p:Int):Nl:=if p<16 then⟨1,p⟩ else⟨2,p-16⟩
def gIn(sp:Nat)(p:Int):Ni:=⟨3,sp,0,0,p-16⟩
def YS(r:Nat)(p:Int):Ni:=⟨4,r,0,0,p-16⟩
def wX(p:Int)(sp:Nat):List Ni:=if p<16 then[] else[gIn sp p]
def tQ(p:Int)(sp:Nat):Nat:=if p<16 then p.toNat else sp
def NB(p:Int)(x:Ni):List Ni:=if p<16 then[{x with a:=p.toNat}] else[{x with a:=14},YS 14 p]
def Bl(m:Mv):List Ni:=
 if m.1<16 then(if m.2<16 then[⟨2,m.2.toNat,m.1.toNat,0,0⟩] else[YS m.1.toNat m.2])
 else if m.2<16 then[gIn m.2.toNat m.1] else[gIn 13 m.1,YS 13 m.2]
section
variable (u:U)(of:List Int)
def jK(v:Nat):Int:=of.getD v 0
def opV(v:Nat):Nat:=match u.ee[v]? with
 |some x=>x.op
 |none=>0
def frC(f:Fm):Nf:=⟨f.func,f.pc,f.locals.map λv=>nV (jK of v),f.stack.map λv=>nV (jK of v)⟩
def exC(s:Nat)(v:Int):Nx:=⟨(match u.ez[s]? with|some fs=>fs|none=>[]).map (frC of),s,v⟩
def EM(v:Nat) (x:Vl) (k:Nat):List Ni:=
 if x.op=1\/x.op=21 then[] else if x.op=2 then NB (jK of v) ⟨1,0,0,0,x.n⟩
 else if x.op=19 then wX (jK of x.a) 12++wX (jK of x.b) 13++[⟨21,tQ (jK of x.a) 12,tQ (jK of x.b) 13,0,x.n⟩]
 else if x.op=20 then wX (jK of x.a) 12++wX (jK of x.b) 13++wX (jK of (x.args.getD 0 0)) 14++[⟨22,tQ (jK of x.a) 12,tQ (jK of x.b) 13,tQ (jK of (x.args.getD 0 0)) 14,0⟩]
 else if x.op=22 then wX (jK of x.a) 12++[⟨25,tQ (jK of x.a) 12,0,0,k⟩]
 else if x.op=23 then[⟨26,0,0,0,k⟩]
 else if x.op=8\/x.op=9\/x.op=15\/x.op=16\/x.op=17 then wX (jK of x.a) 12++NB (jK of v) ⟨x.op+2,0,tQ (jK of x.a) 12,0,if x.op=17 then x.n else 0⟩
 else wX (jK of x.a) 12++wX (jK of x.b) 13++NB (jK of v) ⟨x.op+2,0,tQ (jK of x.a) 12,tQ (jK of x.b) 13,0⟩
def IY(v:Nat)(x:Vl):List Nx:=if x.op=22\/x.op=23 then[exC u of x.state v] else[]
def Eb(v:Nat):List Nx:=match u.ee[v]? with
 |some x=>IY u of v x
 |none=>[]
def Iq(v k:Nat):List Ni:=match u.ee[v]? with
 |some x=>EM of v x k
 |none=>[]
def oG(l:List Nat):List Nx:=l.flatMap (Eb u of)
def mc:List Nat->Nat->List Ni
 |[],_=>[]
 |v::l,k=>Iq u of v k++mc l (k+(Eb u of v).length)
def qy(p:Nat):List Nat->Nat
 |[]=>0
 |[_]=>0
 |q::r::l=>if q=p then 0 else qy p (r::l)+1
def sU(j:Nat) (v:Nat):List Mv:=match u.ee[v]? with
 |some x=>if x.op=21 then[(jK of (x.args.getD j 0),jK of v)] else[]
 |none=>[]
def rE(p t:Nat):List Mv:=match u.blocks[t]? with
 |some B=>B.ee.flatMap (sU u of (qy p B.fu))
 |none=>[]
def zau(p t:Nat)(c:List Ni):Prop:=∃out,zel (rE u of p t) 15 out/\c=out.flatMap Bl
def isIf(p:Nat):Bool:=match u.blocks[p]? with
 |some B=>B.fin == 2
 |none=>false
def M4(b:Nat)(B:Bk)(c:List Ni):Prop:=if B.fu.length=1/\isIf u (B.fu.getD 0 0)=true then zau u of (B.fu.getD 0 0) b c else c=[]
def Wq(b:Nat) (B:Bk) (k:Nat) (c:List Ni):Prop:=
 if B.fin=1 then ∃d,zau u of b (B.next.getD 0 0) d/\c=d++[⟨23,0,0,0,(B.next.getD 0 0:Nat)⟩]
 else if B.fin=2 then c=wX (jK of B.cond) 12++[⟨24,tQ (jK of B.cond) 12,0,0,(B.next.getD 1 0:Nat)⟩,⟨23,0,0,0,(B.next.getD 0 0:Nat)⟩]
 else c=[⟨27,0,0,0,k⟩]
def N4(B:Bk):List Nx:=if B.fin=1\/B.fin=2 then[] else[exC u of B.state (-1)]
def EV(B:Bk):List Nx:=oG u of B.ee++N4 u of B
def ZW(b:Nat)(B:Bk)(k:Nat)(c:List Ni):Prop:=∃a d,M4 u of b B a/\Wq u of b B (k+(oG u of B.ee).length) d/\c=a++mc u of B.ee k++d
inductive Bb:List Bk->Nat->Nat->List (List Ni)->Prop
 |nil (b k:Nat):Bb [] b k []
 |cons {B:Bk} {l:List Bk} {b k:Nat} {c:List Ni} {cs:List (List Ni)} (h:ZW u of b B k c) (t:Bb l (b+1) (k+(EV u of B).length) cs):Bb (B::l) b k (c::cs)
def nK:List Nx:=u.blocks.flatMap (EV u of)
end
def jU:Nat->List (List Ni)->List Nat
 |_,[]=>[]
 |n,c::cs=>n::jU (n+c.length) cs
def A1(x:Ni):Bool:=x.op == 23 ||x.op == 24
def patch(bs:List Nat)(x:Ni):Ni:=if A1 x=true then{x with n:=((bs.getD x.n.toNat 0:Nat):Int)} else x
def EmitC(u:U)(of:List Int)(l:List Ni):Prop:=∃cs,Bb u of u.blocks 0 0 cs/\l=cs.flatten.map (patch (jU 0 cs))
section
variable{u:U}{of:List Int}
theorem UF(l:List Nat)(v:Nat):oG u of (l++[v])=oG u of l++Eb u of v:=by simp[oG]
theorem Kj:∀(l m:List Nat) (k:Nat),mc u of (l++m) k=mc u of l k++mc u of m (k+(oG u of l).length)
 |[],m,k=>by simp[mc,oG]
 | v::l,m,k=>by
   simp only[wBQ,mc,Kj l m,KB];congr 3;simp only[oG,TB,oQ];omega
theorem Vd(l:List Nat) (v k:Nat):mc u of (l++[v]) k=mc u of l k++Iq u of v (k+(oG u of l).length):=by
 rw[Kj];simp[mc]
theorem Bb.snoc{B:Bk} {c:List Ni}:∀{l:List Bk} {b k:Nat} {cs:List (List Ni)},Bb u of l b k cs->ZW u of (b+l.length) B (k+(l.flatMap (EV u of)).length) c->Bb u of (l++[B]) b k (cs++[c])
 |_,_,_,_,.nil b k,h=> .cons h (.nil _ _)
 | _,_,_,_,.cons (l:=l) (b:=b) (k:=k) a t,h=> .cons a (t.snoc (by
   simp only[Jo,TB,oQ]at h;rw[show b+1+l.length=b+(l.length+1) by omega,X8];exact h))
theorem Bb.length:∀{l:List Bk} {b k:Nat} {cs:List (List Ni)},Bb u of l b k cs->cs.length=l.length
 |_,_,_,_,.nil _ _=>rfl
 |_,_,_,_,.cons _ t=>by simp[t.length]
theorem Bb.get:∀{l:List Bk} {b k:Nat} {cs:List (List Ni)} {i:Nat} {B:Bk},Bb u of l b k cs->l[i]? =some B->∃c,cs[i]? =some c/\ZW u of (b+i) B (k+((l.take i).flatMap (EV u of)).length) c
 |_,_,_,_,_,_,.nil _ _,h=>by simp at h
 |_,_,_,_,0,_,.cons a _,h=>by cases h;exact⟨_,rfl,by simpa using a⟩
 | _,b,k,_,i+1,B,.cons (B:=f) (l:=l) a t,h=>by
   obtain⟨c,d,e⟩:=t.get (i:=i) h;refine⟨c,d,?_⟩;simp only[List.take_succ_cons,TB,oQ];rw[show b+(i+1)=b+1+i by omega,<-X8];exact e
end
theorem LY(c:List Ni):∀(cs:List (List Ni)) (n:Nat),jU n (cs++[c])=jU n cs++[n+cs.flatten.length]
 |[],n=>by simp[jU]
 |d::cs,n=>by simp only[wBQ,jU,LY c cs,List.flatten_cons,oQ];rw[X8]
theorem De:∀(cs:List (List Ni)) (n:Nat),(jU n cs).length=cs.length
 |[],_=>rfl
 |d::cs,n=>by simp[jU,De cs]
theorem No:∀(cs:List (List Ni)) (n i:Nat),i<cs.length->(jU n cs)[i]? =some (n+(cs.take i).flatten.length)
 |[],_,_,h=>by simp at h
 |d::cs,n,0,_=>by simp[jU]
 | d::cs,n,i+1,h=>by
   simp only[jU,wBr,No cs (n+d.length) i (by simpa using h),List.take_succ_cons,List.flatten_cons,oQ];rw[X8]
def OU(u:U)(of:List Int):Prop:=∀v,v<u.ee.length->(0<=jK of v/\jK of v<12)\/(16<=jK of v/\jK of v<415)
structure pW (nb ne:Nat) (x:Ni):Prop where
 op:1<=x.op/\x.op<=27
 a:oO (jO x.op) x.a 0
 b:oO (jO x.op) x.b 1
 c:oO (jO x.op) x.c 2
 j:A1 x=true->0<=x.n/\x.n<nb
 n:A1 x=false->tF x.op x.n 0
 e:x.op=25\/x.op=26\/x.op=27->x.n<ne
def lT(p:Int):Prop:=(0<=p/\p<16)\/(16<=p/\p<416)
section
variable{nb ne:Nat}
theorem Zt{sp:Nat} {p:Int} (hs:sp<16) (h:lT p) (a:¬p<16):pW nb ne (gIn sp p):=by
 refine⟨by simp[gIn],?_,?_,?_,?_,?_,?_⟩ <;> simp[gIn,jO,oO,A1,tF] <;> unfold lT at h <;> omega
theorem Yc{r:Nat} {p:Int} (hs:r<16) (h:lT p) (a:¬p<16):pW nb ne (YS r p):=by
 refine⟨by simp[YS],?_,?_,?_,?_,?_,?_⟩ <;> simp[YS,jO,oO,A1,tF] <;> unfold lT at h <;> omega
theorem wH{sp:Nat} {p:Int} (hs:sp<16) (h:lT p):(∀i∈wX p sp,pW nb ne i)/\(wX p sp).length<=1/\tQ p sp<16:=by
 unfold wX tQ;split
 ·refine⟨by simp,by simp,?_⟩;unfold lT at h;omega
 ·rename_i e;exact⟨λi hi=>by rw[EI.1 hi];exact Zt hs h e,by simp,hs⟩
theorem Rm{p:Int} {x:Ni} (h:lT p) (b:∀r,r<16->pW nb ne {x with a:=r}):(∀i∈NB p x,pW nb ne i)/\(NB p x).length<=2:=by
 unfold NB;split
 ·refine⟨λi hi=>?_,by simp⟩;rw[EI.1 hi];exact b _ (by unfold lT at h;omega)
 ·rename_i e;refine⟨λi hi=>?_,by simp⟩;simp only[wM,wBg,or_false]at hi;rcases hi with rfl|rfl
  ·exact b 14 (by omega)
  ·exact Yc (by omega) h e
theorem ZA{m:Mv} (a:lT m.1) (b:lT m.2):(∀i∈Bl m,pW nb ne i)/\(Bl m).length=Eh m:=by
 have r1:m.1<16->m.1.toNat<16:=by unfold lT at a;omega
 have r2:m.2<16->m.2.toNat<16:=by unfold lT at b;omega
 unfold Bl Eh;split
 ·rename_i e1;split
  ·rename_i e2;refine⟨λi hi=>?_,by rw[if_neg (by omega)];rfl⟩;rw[EI.1 hi];refine⟨by simp,?_,?_,?_,?_,?_,?_⟩ <;> simp[jO,oO,A1,tF,r1 e1,r2 e2]
  ·rename_i e2;refine⟨λi hi=>?_,by rw[if_neg (by omega)];rfl⟩;rw[EI.1 hi];exact Yc (r1 e1) b e2
 ·rename_i e1;split
  ·rename_i e2;refine⟨λi hi=>?_,by rw[if_neg (by omega)];rfl⟩;rw[EI.1 hi];exact Zt (r2 e2) a e1
  ·rename_i e2;refine⟨λi hi=>?_,by rw[if_pos (by omega)];rfl⟩;simp only[wM,wBg,or_false]at hi;rcases hi with rfl|rfl
   ·exact Zt (by omega) a e1
   ·exact Yc (by omega) b e2
theorem Po:∀{l:List Mv},(∀m∈l,lT m.1/\lT m.2)->(∀i∈l.flatMap Bl,pW nb ne i)/\(l.flatMap Bl).length=cost l
 |[],_=>⟨by simp,rfl⟩
 | m::l,h=>by
   obtain⟨a,d⟩:=ZA (nb:=nb) (ne:=ne) (h m (by simp)).1 (h m (by simp)).2;obtain⟨b,e⟩:=Po (l:=l) λk c=>h k (by simp[c]);refine⟨λi hi=>?_,by simp only[TB,oQ,cost];omega⟩;rw[TB]at hi;rcases xU.1 hi with hi|hi
   ·exact a i hi
   ·exact b i hi
end
section
variable{u:U}{of:List Int}{nb ne:Nat}
theorem OU.pos(h:OU u of) {v:Nat} (hv:v<u.ee.length):lT (jK of v):=by
 rcases h v hv with h|h <;> unfold lT <;> omega
theorem qf{v:Nat} (h:FD u v):v<u.ee.length:=by
 obtain⟨x,a,_⟩:=h;exact(kE.1 a).1
theorem za9(g:Good u) (A:OU u of) {v:Nat} {x:Vl} (q:u.ee[v]? =some x) {k:Nat} (K:k+(IY u of v x).length<=ne) (oS:ne<=1048576) :
  (∀i∈EM of v x k,pW nb ne i)/\(EM of v x k).length<=4:=by
 have pv:=A.pos (kE.1 q).1;have use:=g.use v x q;have pa:∀w∈kj x,lT (jK of w):=λw D=>A.pos (qf (use w D));have E:=g.op v x q;have ap:∀{l m:List Ni},(∀i∈l,pW nb ne i)->(∀i∈m,pW nb ne i)->∀i∈l++m,pW nb ne i:=λt B i hi=>(xU.1 hi).elim (t i) (B i);have one:∀{y:Ni},pW nb ne y->∀i∈[y],pW nb ne i:=λh i hi=>by rw[EI.1 hi];exact h
 unfold EM;split
 ·exact⟨by simp,by simp⟩
 rename_i L;split
 ·obtain ⟨t,B⟩:=Rm (nb:=nb) (ne:=ne) (x:=⟨1,0,0,0,x.n⟩) pv (λr j=>by
   refine⟨by simp,?_,?_,?_,?_,?_,?_⟩ <;> simp[jO,oO,A1,tF,j])
  exact⟨t,by omega⟩
 rename_i M;split
 ·rename_i e;have c:kj x=[x.a,x.b]:=by unfold kj two;simp[e]
  obtain⟨d,s,f⟩:=wH (nb:=nb) (ne:=ne) (sp:=12) (by omega) (pa x.a (by simp[c]));obtain⟨o,C,p⟩:=wH (nb:=nb) (ne:=ne) (sp:=13) (by omega) (pa x.b (by simp[c]));refine⟨ap (ap d o) (one ?_),by simp only[oQ,Qv];omega⟩;refine⟨by simp,?_,?_,?_,?_,?_,?_⟩ <;> simp[jO,oO,A1,tF,f,p]
 rename_i N;split
 ·rename_i e;have hl:=g.putAt v x q e;have c:kj x=[x.a,x.b,x.args.getD 0 0]:=by
   unfold kj;rw[if_neg (by omega),if_pos e]
   match h:x.args,hl with
   |[w],_=>rfl
  obtain⟨d,s,f⟩:=wH (nb:=nb) (ne:=ne) (sp:=12) (by omega) (pa x.a (by simp[c]));obtain⟨o,C,p⟩:=wH (nb:=nb) (ne:=ne) (sp:=13) (by omega) (pa x.b (by simp[c]));obtain⟨F,c2,G⟩:=wH (nb:=nb) (ne:=ne) (sp:=14) (by omega) (pa (x.args.getD 0 0) (by rw[c];simp));refine⟨ap (ap (ap d o) F) (one ?_),by simp only[oQ,Qv];omega⟩;refine⟨by simp,?_,?_,?_,?_,?_,?_⟩ <;> simp[jO,oO,A1,tF,-List.getD_eq_getElem?_getD,f,p,G]
 rename_i O;split
 ·rename_i e;have c:kj x=[x.a]:=by unfold kj two zA;simp[e]
  obtain⟨d,s,f⟩:=wH (nb:=nb) (ne:=ne) (sp:=12) (by omega) (pa x.a (by simp[c]));have H:(IY u of v x).length=1:=by unfold IY;simp[e]
  refine⟨ap d (one ?_),by simp only[oQ,Qv];omega⟩;refine⟨by simp,?_,?_,?_,?_,?_,?_⟩ <;> simp[jO,oO,A1,tF,f] <;> omega
 rename_i P;split
 ·rename_i e;have H:(IY u of v x).length=1:=by unfold IY;simp[e]
  refine⟨one ?_,by simp⟩;refine⟨by simp,?_,?_,?_,?_,?_,?_⟩ <;> simp[jO,oO,A1,tF] <;> omega
 rename_i Q;split
 ·rename_i e;have c:kj x=[x.a]:=by unfold kj two zA;rcases e with e|e|e|e|e <;> simp[e]
  obtain ⟨d,s,f⟩:=wH (nb:=nb) (ne:=ne) (sp:=12) (by omega) (pa x.a (by simp[c]));obtain⟨s1,I⟩:=Rm (nb:=nb) (ne:=ne) (x:=⟨x.op+2,0,tQ (jK of x.a) 12,0,if x.op=17 then x.n else 0⟩) pv (λr j=>by
   rcases e with e|e|e|e|e <;> refine⟨by simp[e],?_,?_,?_,?_,?_,?_⟩ <;> simp[e,jO,oO,A1,tF,f,j])
  exact⟨ap d s1,by simp only[oQ];omega⟩
 rename_i R;have J:two x.op=true:=by
  unfold two;simp only[GY,sJ,AL,KC];omega
 have c:kj x=[x.a,x.b]:=by unfold kj;rw[if_neg (by omega),if_neg (by omega),if_pos J]
 obtain ⟨d,s,f⟩:=wH (nb:=nb) (ne:=ne) (sp:=12) (by omega) (pa x.a (by simp[c]));obtain⟨o,C,p⟩:=wH (nb:=nb) (ne:=ne) (sp:=13) (by omega) (pa x.b (by simp[c]));obtain⟨s1,I⟩:=Rm (nb:=nb) (ne:=ne) (x:=⟨x.op+2,0,tQ (jK of x.a) 12,tQ (jK of x.b) 13,0⟩) pv (λr j=>by
  have hc:(3<=x.op/\x.op<=7)\/(10<=x.op/\x.op<=14)\/x.op=18:=by omega
  have z:jO (x.op+2)=3:=by
   unfold jO;rw[if_neg (by omega),if_neg (by omega),if_pos (by omega)]
  refine⟨by simp;omega,?_,?_,?_,?_,?_,?_⟩
  ·simp only[z];exact⟨j,by omega⟩
  ·simp only[z];exact⟨f,by omega⟩
  ·simp only[z];exact⟨p,by omega⟩
  ·simp[A1];omega
  ·intro _;unfold tF;rw[if_neg (by simp;omega),if_neg (by simp;omega),if_neg (by simp;omega),if_neg (by simp;omega)]
  ·simp;omega)
 exact⟨ap (ap d o) s1,by simp only[oQ];omega⟩
theorem Tg(g:Good u) (a:OU u of) (oS:ne<=1048576):∀{l:List Nat} {k:Nat},k+(oG u of l).length<=ne->(∀i∈mc u of l k,pW nb ne i)/\(mc u of l k).length<=4*l.length
 |[],_,_=>⟨by simp[mc],by simp[mc]⟩
 | v ::l,k,h=>by
   simp only[oG,TB,oQ]at h;obtain⟨d,e⟩:=Tg g a oS (l:=l) (k:=k+(Eb u of v).length) (by unfold oG;omega);have b:(∀i∈Iq u of v k,pW nb ne i)/\(Iq u of v k).length<=4:=by
     unfold Iq;split
     ·rename_i x c
      refine za9 g a c ?_ oS;unfold Eb at h;rw[c]at h;simp only at h;omega
     ·exact⟨by simp,by simp⟩
   refine⟨λi hi=>?_,?_⟩
   ·rcases xU.1 hi with hi|hi
    ·exact b.1 i hi
    ·exact d i hi
   ·have:=b.2
    simp only[mc,oQ,Jo];omega
theorem PI(p:Nat):∀{l:List Nat},0<l.length->qy p l<l.length
 |[_],_=>Nat.zero_lt_one
 | q ::r::l,_=>by
   unfold qy;split
   ·simp
   ·have:=PI p (l:=r::l) (by simp)
    simp only[Jo]at this⊢;omega
theorem MR(g:Good u) (s:OU u of) {p t:Nat} {B:Bk} (j:u.blocks[t]? =some B) (n:0<B.fu.length) {c:List Ni} (h:zau u of p t c):(∀i∈c,pW nb ne i)/\c.length<=2*B.ee.length:=by
 obtain ⟨out,w,rfl⟩:=h;have d:∀m∈rE u of p t,lT m.1/\lT m.2:=λm d=>by
  unfold rE at d;rw[j]at d;obtain⟨v,hv,d⟩:=wBI.1 d;unfold sU at d;split at d
  ·rename_i x o;split at d
   ·rename_i e;rw[EI.1 d];obtain⟨k,y⟩:=oR.1 hv;have⟨_,hl⟩:=g.Yb v t k x B ⟨B,j,y⟩ o e j;have C:=PI p n;have z:x.args.getD (qy p B.fu) 0∈kj x:=by
     unfold kj;rw[if_pos e,OV,iz (by omega)];exact Dg _
    exact⟨s.pos (qf (g.use v x o _ z)),s.pos (kE.1 o).1⟩
   ·cases d
  ·cases d
 have hl:(rE u of p t).length<=B.ee.length:=by
  unfold rE;rw[j];simp only;have:∀l:List Nat,(l.flatMap (sU u of (qy p B.fu))).length<=l.length:=λl=>by
   induction l with
   |nil=>simp
   | cons v l D=>
     have:(sU u of (qy p B.fu) v).length<=1:=by
       unfold sU;split
       ·split <;> simp
       ·simp
     simp only[TB,oQ,Jo];omega
  exact this _
 have sp:lT 15:= .inl (by omega);have fr:∀q∈oH (rE u of p t),lT q:=λq hq=>by obtain⟨m,f,rfl⟩:=pE.1 hq;exact(d m f).1
 have tr:∀q∈jP (rE u of p t),lT q:=λq hq=>by obtain⟨m,f,rfl⟩:=iB.1 hq;exact(d m f).2
 obtain ⟨f,A⟩:=Po (nb:=nb) (ne:=ne) (l:=out) λm r=>by
  obtain⟨a,b⟩:=w.Iu m r;exact⟨a.elim (λe=>by rw[e];exact sp) λa=>a.elim (fr _) (tr _),b.elim (λe=>by rw[e];exact sp) (tr _)⟩
 refine⟨f,?_⟩;rw[A];have:=w.cost;omega
theorem Wh(g:Good u) (r:OU u of) (oS:ne<=1048576) {b:Nat} {B:Bk} (n:u.blocks[b]? =some B) {k:Nat} {c:List Ni} (h:ZW u of b B k c) (y:k+(EV u of B).length<=ne) {m:Nat} (z:∀(t:Nat) T,u.blocks[t]? =some T->T.ee.length<=m) :
  (∀i∈c,pW u.blocks.length ne i)/\c.length<=4*B.ee.length+4*m+3/\0<c.length:=by
 obtain ⟨A,v,s,o,rfl⟩:=h;unfold EV at y;rw[oQ]at y;obtain⟨D,G⟩:=Tg (nb:=u.blocks.length) g r oS (l:=B.ee) (k:=k) (by omega);have f:∀t∈B.next,t<u.blocks.length:=λt a=>g.nx b t (by unfold next;rw[n];exact a);have w1:(∀i∈A,pW u.blocks.length ne i)/\A.length<=2*m:=by
  unfold M4 at s;split at s
  ·rename_i e;obtain⟨p,C⟩:=MR (nb:=u.blocks.length) (ne:=ne) g r n (by omega) s;have:=z b B n;exact⟨p,by omega⟩
  ·subst s;exact⟨by simp,by simp⟩
 have E:(∀i∈v,pW u.blocks.length ne i)/\v.length<=2*m+3/\0<v.length:=by
  unfold Wq at o;have q:∀t∈B.next,pW u.blocks.length ne ⟨23,0,0,0,(t:Nat)⟩:=λt a=>by
   have:=f t a;refine⟨by simp,?_,?_,?_,?_,?_,?_⟩ <;> simp[jO,oO,A1] <;> omega
  split at o
  ·rename_i e;obtain⟨d,hd,rfl⟩:=o;rcases g.fin b B n with⟨_,F⟩|⟨e2,_⟩|⟨e2,_⟩
   ·have a:B.next.getD 0 0∈B.next:=by
     rw[OV,iz (by omega)];exact Dg _
    obtain⟨T,w⟩:∃T,u.blocks[B.next.getD 0 0]? =some T:=⟨_,iz (f _ a)⟩
    have x:0<T.fu.length:=by
     rw[g.fu _ T w];exact List.length_pos_of_mem (wu.2 (by unfold next;rw[n];exact a))
    obtain⟨p,C⟩:=MR (nb:=u.blocks.length) (ne:=ne) g r w x hd;have:=z _ T w;refine⟨λi hi=>?_,by rw[oQ,Qv];omega,by simp⟩;rcases xU.1 hi with hi|hi
    ·exact p i hi
    ·rw[EI.1 hi];exact q _ a
   ·omega
   ·omega
  ·rename_i e1;split at o
   ·rename_i e;rcases g.fin b B n with⟨e2,_⟩|⟨_,F,hc⟩|⟨e2,_⟩
    ·omega
    ·have a:∀j,j<2->B.next.getD j 0∈B.next:=λj H=>by
      rw[OV,iz (by omega)];exact Dg _
     obtain⟨p,C,I⟩:=wH (nb:=u.blocks.length) (ne:=ne) (sp:=12) (by omega) (r.pos (qf hc));subst o;refine⟨λi hi=>?_,by simp only[oQ,Jo,wBw];omega,by simp⟩;rcases xU.1 hi with hi|hi
     ·exact p i hi
     ·simp only[wM,wBg,or_false]at hi;rcases hi with rfl|rfl
      ·have:=f _ (a 1 (by omega));refine⟨by simp,?_,?_,?_,?_,?_,?_⟩ <;> simp only[jO,oO,A1] <;> simp[-List.getD_eq_getElem?_getD] <;> omega
      ·exact q _ (a 0 (by omega))
    ·omega
   ·rename_i e;have J:(N4 u of B).length=1:=by unfold N4;rw[if_neg (by omega)];rfl
    subst o;refine⟨λi hi=>?_,by simp,by simp⟩;rw[EI.1 hi];refine⟨by simp,?_,?_,?_,?_,?_,?_⟩ <;> simp[jO,oO,A1,tF] <;> omega
 refine⟨λi hi=>?_,by simp only[oQ];omega,by simp only[oQ];omega⟩;rcases xU.1 hi with hi|hi
 ·rcases xU.1 hi with hi|hi
  ·exact w1.1 i hi
  ·exact D i hi
 ·exact E.1 i hi
end
def uN(n:Int):Nat:=(n % 18446744073709551616).toNat
def sN(n:Nat):Int:=if n<9223372036854775808 then n else(n:Int)-18446744073709551616
def By(n k:Nat):Nat:=n / 256 ^ k % 256
def zd5(x:Ni):List Nat:=[x.op % 256,(16*x.a+x.b) % 256,x.c % 256]++(List.range 8).map (By (uN x.n))
def EK(l:List Ni):List Nat:=l.flatMap zd5
def A5(b:List Nat) (i:Nat):Nat->Nat
 |0=>0
 |k+1=>A5 b i k+b.getD (i+k) 0*256 ^ k
def oX(b:List Nat)(i:Nat):Ni:=⟨b.getD i 0,b.getD (i+1) 0 / 16,b.getD (i+1) 0 % 16,b.getD (i+2) 0,sN (A5 b (i+3) 8)⟩
def AJ(b:List Nat):List Ni:=(List.range (b.length / 11)).map λi=>oX b (11*i)
structure SV (b:List Nat) (l:List Ni):Prop where
 len:b.length % 11=0
 eq:l=AJ b
 zbC:l.length<=32768
 ok:∀x∈l,Hl l.length x
theorem F0{b:List Nat} (a:∀x∈b,x<256) (i:Nat):∀k,A5 b i k<256 ^ k
 |0=>Nat.one_pos
 | k + 1=>by
   have d:=F0 a i k;have c:b.getD (i+k) 0<256:=by
     rw[OV];by_cases h:i+k<b.length
     ·rw[iz h];exact a _ (Dg h)
     ·rw[wBK (by omega)];decide
   have e:b.getD (i+k) 0*256 ^ k+256 ^ k<=256*256 ^ k:=by
     rw[<-Nat.succ_mul];exact wA9 _ c
   unfold A5;rw[Nat.pow_succ,wB6 (256 ^ k) 256];omega
theorem zad(x:Ni):(zd5 x).length=11:=by simp[zd5]
theorem Nb:∀l:List Ni,(EK l).length=11*l.length
 |[]=>rfl
 | x::l=>by
   have:=Nb l;unfold EK at this⊢;rw[TB,oQ,zad,this,Jo];omega
theorem zfz(n:Int):uN n<18446744073709551616:=by unfold uN;omega
theorem SV.uniq{b:List Nat}{l a:List Ni}(h:SV b l)(h':SV b a):l=a:=h.eq.trans h'.eq.symm
def oC:Nat->List Ni->List Nat
 |_,[]=>[]
 |n,x::c=>if A1 x=true then n::oC (n+1) c else oC (n+1) c
theorem sY:∀(c d:List Ni) (n:Nat),oC n (c++d)=oC n c++oC (n+c.length) d
 |[],d,n=>by simp[oC]
 | x::c,d,n=>by
   have a:=sY c d (n+1);simp only[wBQ,oC,a,Jo];rw[show n+(c.length+1)=n+1+c.length by omega];split <;> simp
theorem KG:∀{c:List Ni} {n:Nat},(∀x∈c,A1 x=false)->oC n c=[]
 |[],_,_=>rfl
 | x::c,n,h=>by
   unfold oC;rw[if_neg (by rw[h x (by simp)];simp)];exact KG λy a=>h y (by simp[a])
theorem Zx{x y:Ni} {n:Nat} (a:A1 x=true) (b:A1 y=true):oC n [x,y]=[n,n+1]:=by
 simp[oC,a,b]
theorem RY:∀(c:List Ni) (n:Nat),(oC n c).length<=c.length
 |[],_=>jv _
 | x::c,n=>by
   have:=RY c (n+1);unfold oC;split <;> simp only[Jo] <;> omega
theorem PZ{k:Nat} {r:List Nat}:∀{c:List Ni} {n:Nat},oC n c=k::r->∃a x c2,c=a++x::c2/\k=n+a.length/\(∀y∈a,A1 y=false)/\A1 x=true/\r=oC (k+1) c2
 |[],_,h=>by cases h
 | x ::c,n,h=>by
   unfold oC at h;split at h
   ·rename_i e
    cases h;exact⟨[],x,c,rfl,rfl,by simp,e,rfl⟩
   ·rename_i e
    obtain⟨a,y,c2,d,f,g,i,j⟩:=PZ h;refine⟨x::a,y,c2,by rw[d];rfl,by rw[f,Jo];omega,λz b=>?_,i,j⟩;rcases wM.1 b with rfl|b
    ·simpa using e
    ·exact g z b
theorem SQ{bs:List Nat} {c:List Ni} (h:∀x∈c,A1 x=false):c.map (patch bs)=c:=by
 have:c.map (patch bs)=c.map id:=List.map_congr_left λx a=>by
  unfold patch;rw[if_neg (by rw[h x a];simp)];rfl
 rw[this,List.map_id]
theorem Bq(p:Int) (sp:Nat):∀i∈wX p sp,A1 i=false:=by
 unfold wX;split
 ·simp
 ·intro i hi;rw[EI.1 hi];rfl
theorem Ve{p:Int} {x:Ni} (h:x.op≠23/\x.op≠24):∀i∈NB p x,A1 i=false:=by
 unfold NB;split <;> simp[A1,YS,h]
theorem zbE(m:Mv):∀i∈Bl m,A1 i=false:=by
 unfold Bl;split <;> split <;> simp[A1,YS,gIn]
theorem Yv{u:U} {of:List Int} {p t:Nat} {c:List Ni} (h:zau u of p t c):∀i∈c,A1 i=false:=by
 obtain⟨out,_,rfl⟩:=h;intro i hi;obtain⟨m,_,a⟩:=wBI.1 hi;exact zbE m i a
theorem zdC{u:U} (g:Good u) {of:List Int} {v:Nat} {x:Vl} (c:u.ee[v]? =some x) (k:Nat):∀i∈EM of v x k,A1 i=false:=by
 have d:=g.op v x c;have one:∀{l:List Ni} {y:Ni},(∀i∈l,A1 i=false)->A1 y=false->∀i∈l++[y],A1 i=false:=λa b i hi=>(xU.1 hi).elim (a i) λhi=>by rw[EI.1 hi];exact b
 have ap:∀{l m:List Ni},(∀i∈l,A1 i=false)->(∀i∈m,A1 i=false)->∀i∈l++m,A1 i=false:=λa b i hi=>(xU.1 hi).elim (a i) (b i);unfold EM;split
 ·simp
 rename_i f;split
 ·exact Ve (by simp)
 split
 ·exact one (ap (Bq _ _) (Bq _ _)) rfl
 split
 ·exact one (ap (ap (Bq _ _) (Bq _ _)) (Bq _ _)) rfl
 split
 ·exact one (Bq _ _) rfl
 split
 ·intro i hi;rw[EI.1 hi];rfl
 split
 ·rename_i e;exact ap (Bq _ _) (Ve (by simp only;omega))
 ·refine ap (ap (Bq _ _) (Bq _ _)) (Ve ?_);simp only;omega
theorem VF{u:U} (g:Good u) {of:List Int}:∀(l:List Nat) (k:Nat),∀i∈mc u of l k,A1 i=false
 |[],_,i,h=>by cases h
 | v ::l,k,i,h=>by
   rcases xU.1 h with h|h
   ·unfold Iq at h
    split at h
    ·rename_i x a;exact zdC g a k i h
    ·cases h
   ·exact VF g l _ i h
section
variable{u:U}{of:List Int}
theorem J9{α:Type} {m:Nat}:∀{l:List (List α)},(∀c∈l,c.length<=m)->l.flatten.length<=l.length*m
 |[],_=>by simp
 | c::l,h=>by
   have a:=h c (by simp);have b:=J9 (l:=l) (m:=m) λd hd=>h d (by simp[hd]);simp only[List.flatten_cons,oQ,Jo,XA,Nat.one_mul];omega
theorem SA{x:Ni} {cs:List (List Ni)} (h:x∈cs.flatten):∃(i:Nat) (c:List Ni),cs[i]? =some c/\x∈c:=by
 obtain⟨c,hc,a⟩:=List.mem_flatten.1 h;obtain⟨i,hi⟩:=oR.1 hc;exact⟨i,c,hi,a⟩
theorem GV{i:Nat} {B:Bk} (a:u.blocks[i]? =some B):((u.blocks.take i).flatMap (EV u of)).length+(EV u of B).length<=(nK u of).length:=by
 have h:u.blocks=u.blocks.take i++B::u.blocks.drop (i+1):=by
  obtain⟨b,c⟩:=kE.1 a;rw[<-c,<-wAj b,wA3]
 unfold nK
 conv=>rhs;rw[h]
 simp only[wA4,TB,oQ];omega
theorem zep{nb ne n:Nat} {x:Ni} (h:pW nb ne x) (bs:List Nat) (f:∀b,b<nb->∃k,bs[b]? =some k/\k<=n) (oS:ne<=1048576):Hl n (patch bs x)/\((patch bs x).op=25\/(patch bs x).op=26\/(patch bs x).op=27->(patch bs x).n<ne):=by
 unfold patch;split
 ·rename_i e;obtain⟨m,o⟩:=h.j e;obtain⟨k,g,i⟩:=f x.n.toNat (by omega)
  have e':x.op=23\/x.op=24:=by simpa[A1]using e
  refine⟨⟨h.op,?_,h.a,h.b,h.c⟩,λh=>by simp only at h;omega⟩;unfold tF;rw[if_neg (by simp only;omega),if_neg (by simp only;omega),if_pos (by simp only;omega),OV,g];exact⟨Int.natCast_nonneg _,by simp only[Option.getD_some];omega⟩
 ·rename_i e;have e0:A1 x=false:=by simpa using e
  have e':¬(x.op=23\/x.op=24):=by
   intro h;exact e (by simpa[A1]using h)
  refine⟨⟨h.op,?_,h.a,h.b,h.c⟩,h.e⟩;have:=h.n e0;unfold tF at this⊢;split
  ·trivial
  rename_i l;rw[if_neg l]at this;split
  ·rename_i d;rw[if_pos d]at this;exact this
  rename_i d;rw[if_neg d]at this;rw[if_neg e']at this;exact this
theorem VS(g:Good u) (p:OU u of) {l:List Ni} (h:EmitC u of l) {m:Nat} (e:∀(t:Nat) T,u.blocks[t]? =some T->T.ee.length<=m) (oS:(nK u of).length<=1048576) :
  (∀x∈l,Hl l.length x/\(x.op=25\/x.op=26\/x.op=27->x.n<(nK u of).length))/\l.length<=u.blocks.length*(8*m+3)/\0<l.length:=by
 obtain ⟨cs,hc,rfl⟩:=h;have hl:=hc.length;have a:∀(i:Nat) c,cs[i]? =some c->(∀x∈c,pW u.blocks.length (nK u of).length x)/\c.length<=8*m+3/\0<c.length:=λi c hi=>by
  have q:=(kE.1 hi).1;obtain⟨B,f⟩:∃B,u.blocks[i]? =some B:=⟨_,iz (by omega)⟩
  obtain⟨c',j,k⟩:=hc.get f;rw[hi]at j;cases j;rw[HP,HP]at k;obtain⟨r,C,v⟩:=Wh g p oS f k (GV f) e;have:=e i B f;exact⟨r,by omega,v⟩
 refine⟨λx w=>?_,?_,?_⟩
 ·rw[XS];obtain⟨y,z,rfl⟩:=Q1.1 w;obtain⟨i,c,j,k⟩:=SA z;refine zep ((a i c j).1 y k) _ (λb D=>⟨_,No cs 0 b (by omega),?_⟩) oS;rw[HP]
  conv=>rhs;rw[<-wA3 b cs]
  rw[List.flatten_append,oQ];omega
 ·rw [XS,<-hl];exact J9 λc o=>by
   obtain⟨i,hi⟩:=oR.1 o;exact(a i c hi).2.1
 ·rw[XS];have A:=g.XW;obtain⟨c,d⟩:∃c,cs[0]? =some c:=⟨_,iz (by omega)⟩
  have:=(a 0 c d).2.2;have e:=oR.2 ⟨0,d⟩;obtain⟨s,t,rfl⟩:=wBv e;simp only[List.flatten_append,List.flatten_cons,oQ];omega
end
theorem TP(ops c:List Int) (n:Int):(zn ops c n).blocks.length<=19/\∃(b:Nat) (B:Bk),(zn ops c n).blocks[b]? =some B/\B.fin=3:=by
 constructor
 ·have e:=G8 (iF n 5) 0 ⟨[],[],[],[],0⟩;have f:=rO n (m:=5) (by omega);obtain⟨r1,r2⟩:=BC ops (hO (params (iF n 5) 0 ⟨[],[],[],[],0⟩) (vl 2 0 0 5 [] 0));have e1:(hO (params (iF n 5) 0 ⟨[],[],[],[],0⟩) (vl 2 0 0 5 [] 0)).ee.length=iF n 5+1:=by
   simp only[hO,oQ,Qv,e.1];simp
  have e2:(hO (params (iF n 5) 0 ⟨[],[],[],[],0⟩) (vl 2 0 0 5 [] 0)).ez=[]:=e.2;have d:Xt ⟨row ops (hO (params (iF n 5) 0 ⟨[],[],[],[],0⟩) (vl 2 0 0 5 [] 0)),[],[]⟩ 0:=by
   have a:=r1.ee;have b:=r1.ez;rw[e1]at a b r2;rw[e2]at b;refine⟨by grind,?_,jv _⟩;show(row ops _).ez.length<=(row ops _).ee.length+0;simp at b;omega
  have g:=CU ops (c.take 6) d;have hlen:(c.take 6).length<=6:=by rw[Rh];omega
  unfold zn;simp only;generalize lh ops (c.take 6) ⟨row ops (hO (params (iF n 5) 0 ⟨[],[],[],[],0⟩) (vl 2 0 0 5 [] 0)),[],[]⟩=t at*;have bl:=g.blocks;show(t.blocks++[_]).length<=19;rw[oQ,Qv];omega
 ·unfold zn end_;exact⟨_,_,wA6,rfl⟩
section
variable{u:U}{of:List Int}
theorem Pk{m:Nat} (a:∀(t:Nat) T,u.blocks[t]? =some T->T.ee.length<=m):(nK u of).length<=u.blocks.length*(m+1):=by
 have one:∀l:List Nat,(oG u of l).length<=l.length:=λl=>by
  induction l with
  |nil=>simp[oG]
  | cons v l b=>
    have:(Eb u of v).length<=1:=by
      unfold Eb;split
      ·unfold IY;split <;> simp
      ·simp
    unfold oG at b⊢;simp only[TB,oQ,Jo];omega
 have h:(u.blocks.map (EV u of)).flatten.length<=(u.blocks.map (EV u of)).length*(m+1):=J9 λc hc=>by
  obtain⟨B,d,rfl⟩:=Q1.1 hc;obtain⟨t,e⟩:=oR.1 d;have f:=a t B e;have g:=one B.ee;have i:(N4 u of B).length<=1:=by unfold N4;split <;> simp
  unfold EV;rw[oQ];omega
 rw[XS]at h;exact h
theorem XF{b:Nat} {B:Bk} (a:u.blocks[b]? =some B) (c:B.fin=3):0<(nK u of).length:=by
 have h:=GV (of:=of) a;have:(N4 u of B).length=1:=by unfold N4;rw[if_neg (by omega)];rfl
 unfold EV at h;rw[oQ]at h;omega
end
