/- Parts. -/
import Derived.Test.YtcoaokdoecgcbaaGreatDoorM13
set_option maxHeartbeats 4000000
namespace Go.Proofs.YtcoaokdoecgcbaaGreatDoor.Un
variable{ops a:List Int}{i:Nat}{W:Type}{j n:Nat}{B:Bk}{s:Ds}
abbrev Mv:=Int×Int
def Lm(σ:Int->W)(t:Int)(w:W):Int->W:=λp=>if p=t then w else σ p
def xU:List Mv->(Int->W)->Int->W
 |[],σ=>σ
 |m::l,σ=>xU l (Lm σ m.2 (σ m.1))
theorem Bs (m:Mv):∀l (σ:Int->W),xU (l++[m]) σ=Lm (xU l σ) m.2 (xU l σ m.1)
 |[],_=>rfl
 |_::l,_=>Bs m l _
def II(m:Mv):Nat:=if 16<=m.1/\16<=m.2 then 2 else 1
def cost:List Mv->Nat
 |[]=>0
 |m::l=>II m+cost l
theorem DX(m:Mv):∀l,cost (l++[m])=cost l+II m
 |[]=>by simp[cost]
 |a::l=>by simp[wBS,cost,DX m l];omega
theorem V6(m:Mv):II m<=2:=by grind[II]
def km(l:List Mv):List Int:=l.map (·.2)
def qI(l:List Mv):List Int:=l.map (·.1)
theorem iP{l:List Mv}{p:Int}:p∈km l↔∃m∈l,m.2=p:=by simp[km]
theorem pN{l:List Mv}{p:Int}:p∈qI l↔∃m∈l,m.1=p:=by simp[qI]
def less(R:List Mv)(t:Int):List Mv:=R.filter λm=>m.2≠t
theorem lD{R:List Mv}{t:Int}{m:Mv}:m∈less R t↔m∈R/\m.2≠t:=by simp[less]
theorem W9{R:List Mv} (h:(km R).Nodup) {m k:Mv} (d:m∈R) (f:k∈R) (e:m.2=k.2):m=k:=by
 induction R with
 |nil=>cases d
 | cons a R g=>
   simp only[km,wBW,WM]at h;rcases Aw.1 d with rfl|b <;> rcases Aw.1 f with rfl|c
   ·rfl
   ·simp_all
   ·grind
   ·exact g h.2 b c
theorem Yx{R:List Mv} (h:(qI R).Nodup) {m k:Mv} (d:m∈R) (f:k∈R) (e:m.1=k.1):m=k:=by
 induction R with
 |nil=>cases d
 | cons a R g=>
   simp only[qI,wBW,WM]at h;rcases Aw.1 d with rfl|b <;> rcases Aw.1 f with rfl|c
   ·rfl
   ·simp_all
   ·grind
   ·exact g h.2 b c
theorem IC{R:List Mv} (h:(km R).Nodup) {m:Mv} (b:m∈R):(less R m.2).length+1=R.length:=by
 induction R with
 |nil=>cases b
 | cons a R c=>
   simp only[km,wBW,WM]at h;rcases Aw.1 b with rfl|b
   ·grind[less,List.filter_eq_self,decide_not]
   ·have nw:a.2≠m.2:=by grind
    have d:less (a::R) m.2=a::less R m.2:=by simp[less,nw]
    have:=c h.2 b
    simp_all
theorem Ub{R:List Mv}(h:(km R).Nodup)(t:Int):(km (less R t)).Nodup:=h.sublist (List.filter_sublist.map _)
theorem V1{R:List Mv}(h:(qI R).Nodup)(t:Int):(qI (less R t)).Nodup:=h.sublist (List.filter_sublist.map _)
structure UH (l:List Mv) (sp:Int) (R out:List Mv):Prop where
 nd:(km R).Nodup
 sub:∀m∈R,m∈l/\m.1≠m.2
 FK:∀m∈out,(m.1=sp\/m.1∈qI l\/m.1∈km l)/\(m.2=sp\/m.2∈km l)
 cost:cost out+2*R.length<=2*l.length
 sem:∀W (σ:Int->W),(∀m∈l,m ∉ R->xU out σ m.2=σ m.1)/\(∀m∈R,xU out σ m.1=σ m.1)/\∀p,p≠sp->p ∉ km l->xU out σ p=σ p
theorem UH.start{l:List Mv} (sp:Int) (h:(km l).Nodup):UH l sp (l.filter λm=>m.1≠m.2) [] where
 nd:=h.sublist (List.filter_sublist.map _)
 sub m a:=by simp_all
 FK:=by simp
 cost:=by have:=List.length_filter_le (λm:Mv=>decide (m.1≠m.2)) l;grind[Un.cost]
 sem W σ:=by
  refine⟨λm a b=>?_,λ_ _=>rfl,λ_ _ _=>rfl⟩;have:=Classical.byContradiction λe=>b (wA9.2 ⟨a,by simpa using e⟩);show σ m.2=σ m.1;rw[this]
theorem UH.zh7{l:List Mv} {sp:Int} {R out:List Mv} (I:UH l sp R out) (hl:(km l).Nodup) (hs:∀m∈l,m.1≠sp/\m.2≠sp) {m:Mv} (b:m∈R) (h:m.2 ∉ qI R):UH l sp (less R m.2) (out++[m]) where
 nd:=Ub I.nd _
 sub k a:=I.sub k (lD.1 a).1
 FK k a:=by
  rcases yX.1 a with a|a
  ·exact I.FK k a
  ·have c:k=m:=by simpa using a
   subst c;have:=(I.sub k b).1;exact⟨.inr (.inl (pN.2 (by grind))),.inr (iP.2 (by grind))⟩
 cost:=by
  have i:=IC I.nd b;have j:=I.cost
  grind[V6,DX]
 sem W σ:=by
  let⟨s1,n,o⟩:=I.sem W σ
  simp only[Bs,Lm];refine⟨λk a f=>?_,λk a=>?_,λp hp d=>?_⟩
  ·split
   ·rename_i e;have:=W9 hl a (I.sub m b).1 e
    grind
   grind[lD]
  ·have g:=lD.1 a;rw[if_neg (by grind[pN])]
   grind
  ·rw[if_neg λe=>d (iP.2 ⟨m,(I.sub m b).1,e.symm⟩)]
   simp_all
structure MO (R:List Mv):Prop where
 inj:(qI R).Nodup
 cl:∀m∈R,m.1∈km R
theorem Zw:∀{b:List Int},a.Nodup->(∀x∈a,x∈b)->b.length<=a.length->b.Perm a:=by
 induction a with
 |nil=>simp_all
 | cons x a d=>
   intro b c hs hl;have e:=hs x (by simp);have f:=List.perm_cons_erase e;rw[WM]at c;refine f.trans (List.Perm.cons x (d c.2 (λy g=>?_) ?_))
   ·grind
   simp_all
theorem Sc:∀{b:List Int},a.Nodup->(∀x∈a,x∈b)->a.length<=b.length:=by
 induction a with
 |nil=>simp_all
 | cons x a e=>
   intro b c hs;have f:=hs x (by simp);rw[WM]at c;have g:=e c.2 λy d=>(List.mem_erase_of_ne (by rintro rfl;exact c.1 d)).2 (hs y (by simp[d]))
   grind
theorem MO.of{R:List Mv} (nd:(km R).Nodup) (h:∀m∈R,m.2∈qI R):MO R:=by
 have p:=Zw nd (λx b=>by obtain⟨m,a,rfl⟩:=iP.1 b;exact h m a) (by simp[km,qI]);exact⟨p.nodup_iff.2 nd,λm a=>p.mem_iff.1 (pN.2 ⟨m,a,rfl⟩)⟩
structure RgI (l:List Mv) (sp first to:Int) (R out:List Mv):Prop where
 nd:(km R).Nodup
 sub:∀m∈R,m∈l/\m.1≠m.2
 FK:∀m∈out,(m.1=sp\/m.1∈qI l\/m.1∈km l)/\(m.2=sp\/m.2∈km l)
 cost:cost out+2*R.length<=2*l.length+1
 inj:(qI R).Nodup
 mem:to∈km R
 rg:∀m∈R,m.1=first\/(m.1≠to/\m.1∈km R)
 sem:∀W (σ:Int->W),(∀m∈l,m ∉ R->xU out σ m.2=σ m.1)/\(∀m∈R,m.1≠first->xU out σ m.1=σ m.1)/\xU out σ sp=σ first/\∀p,p≠sp->p ∉ km l->xU out σ p=σ p
theorem UH.ring{l:List Mv} {sp:Int} {R out:List Mv} (I:UH l sp R out) (hs:∀m∈l,m.1≠sp/\m.2≠sp) (b:MO R) (g:sp<16) {p:Int} (hp:p∈km R):RgI l sp p p R (out++[(p,sp)]):=by
 obtain⟨m,c,rfl⟩:=iP.1 hp;have h:=(I.sub m c).1;refine⟨I.nd,I.sub,λk a=>?_,?_,b.inj,hp,λk a=>?_,λW σ=>?_⟩
 ·rcases yX.1 a with a|a
  ·exact I.FK k a
  ·have d:k=(m.2,sp):=by simpa using a
   subst d;exact⟨.inr (.inr (iP.2 (by grind))),.inl rfl⟩
 ·have o:=I.cost;have:II (m.2,sp)=1:=by unfold II;rw[if_neg];omega
  grind[DX]
 ·by_cases e:k.1=m.2
  ·omega
  ·exact .inr ⟨e,b.cl k a⟩
 ·let ⟨s1,r,s⟩:=I.sem W σ
  have f:∃k∈R,k.1=m.2:=by
   have p:=Zw b.inj (λx i=>by obtain⟨m,c,rfl⟩:=pN.1 i;exact b.cl m c) (by simp[km,qI]);exact pN.1 (p.mem_iff.1 hp)
  simp only[Bs,Lm];refine⟨λk a j=>?_,λk a _=>?_,?_,λq hq n=>?_⟩
  ·grind
  ·rw[if_neg (hs k (I.sub k a).1).1];grind
  ·grind
  simp_all
theorem RgI.step{l:List Mv} {sp first:Int} {R out:List Mv} {m:Mv} (I:RgI l sp first m.2 R out) (hl:(km l).Nodup) (hs:∀m∈l,m.1≠sp/\m.2≠sp) (c:m∈R) (nw:m.1≠first):RgI l sp first m.1 (less R m.2) (out++[m]) where
 nd:=Ub I.nd _
 sub k a:=I.sub k (lD.1 a).1
 FK k a:=by
  rcases yX.1 a with a|a
  ·exact I.FK k a
  ·have d:k=m:=by simpa using a
   subst d;have:=(I.sub k c).1;exact⟨.inr (.inl (pN.2 (by grind))),.inr (iP.2 (by grind))⟩
 cost:=by
  have f:=IC I.nd c;have g:=I.cost
  grind[V6,DX]
 inj:=V1 I.inj _
 mem:=by
  rcases I.rg m c with h|⟨f,g⟩
  ·omega
  simp_all[iP,lD]
 rg k a:=by
  have b:=lD.1 a;rcases I.rg k b.1 with h|⟨f,g⟩
  ·omega
  ·refine .inr ⟨λe=>?_,?_⟩
   ·exact b.2 (by rw[Yx I.inj b.1 c e])
   simp_all[iP,lD]
 sem W σ:=by
  let⟨s1,q,r,s4⟩:=I.sem W σ
  have i:=(I.sub m c).1;simp only[Bs,Lm];refine⟨λk a j=>?_,λk a n=>?_,?_,λp hp o=>?_⟩
  ·grind[W9,lD]
  ·have b:=lD.1 a;rcases I.rg k b.1 with h|⟨f,_⟩
   ·omega
   grind
  ·grind
  ·rw[if_neg (by grind[iP])]
   simp_all
theorem RgI.close{l:List Mv} {sp:Int} {R out:List Mv} {m:Mv} (I:RgI l sp m.1 m.2 R out) (hl:(km l).Nodup) (hs:∀m∈l,m.1≠sp/\m.2≠sp) (f:sp<16) (c:m∈R):UH l sp (less R m.2) (out++[(sp,m.2)])/\MO (less R m.2):=by
 have g:=(I.sub m c).1;have cl:∀k∈less R m.2,k.1≠m.1/\k.1≠m.2/\k.1∈km (less R m.2):=λk a=>by
  have b:=lD.1 a;have nw:=λe=>b.2 (by rw[Yx I.inj b.1 c e]);rcases I.rg k b.1 with h|⟨i,j⟩
  ·simp_all
  simp_all[iP,lD]
 refine⟨⟨Ub I.nd _,λk a=>I.sub k (lD.1 a).1,λk a=>?_,?_,λW σ=>?_⟩,V1 I.inj _,by grind⟩
 ·rcases yX.1 a with a|a
  ·exact I.FK k a
  ·have d:k=(sp,m.2):=by simpa using a
   subst d;exact⟨.inl rfl,.inr (iP.2 (by grind))⟩
 ·have i:=IC I.nd c;have j:=I.cost;have:II (sp,m.2)=1:=by unfold II;rw[if_neg];omega
  grind[DX]
 ·let ⟨s1,q,r,s4⟩:=I.sem W σ
  simp only[Bs,Lm];refine⟨λk a n=>?_,λk a=>?_,λp hp o=>?_⟩
  ·grind[W9,lD]
  ·let⟨s,c2,_⟩:=cl k a
   rw[if_neg c2];grind[lD]
  ·rw[if_neg (by grind[iP])]
   simp_all
structure zfR (l:List Mv) (sp:Int) (out:List Mv):Prop where
 FK:∀m∈out,(m.1=sp\/m.1∈qI l\/m.1∈km l)/\(m.2=sp\/m.2∈km l)
 cost:cost out<=2*l.length
 sem:∀W (σ:Int->W),(∀m∈l,xU out σ m.2=σ m.1)/\∀p,p≠sp->p ∉ km l->xU out σ p=σ p
theorem UH.done{l:List Mv} {sp:Int} {out:List Mv} (I:UH l sp [] out):zfR l sp out:=
 ⟨I.FK,by have:=I.cost;omega,λW σ=>⟨λm a=>(I.sem W σ).1 m a (by simp),(I.sem W σ).2.2⟩⟩
def NO(R:List Mv)(p:Int):Nat:=(R.filter λm=>m.1=p).length
theorem Hr{R:List Mv} {p:Int}:NO R p=0↔p ∉ qI R:=by
 unfold NO;rw[List.length_eq_zero_iff,List.filter_eq_nil_iff,pN]
 grind
theorem Rf{R:List Mv} (h:(km R).Nodup) {m:Mv} (b:m∈R) (p:Int):NO (less R m.2) p+(if p=m.1 then 1 else 0)=NO R p:=by
 induction R with
 |nil=>cases b
 | cons a R d=>
   simp only[km,wBW,WM]at h;rcases Aw.1 b with rfl|b
   ·have e:less R m.2=R:=List.filter_eq_self.2 λk f=>by
      simp[ decide_not];exact λe=>h.1 (V7.2 ⟨k,f,e⟩)
    have c:less (m::R) m.2=less R m.2:=by simp[less]
    rw[c,e];unfold NO
    grind
   ·have nw:a.2≠m.2:=by grind
    have c:less (a::R) m.2=a::less R m.2:=by simp[less,nw]
    have:=d h.2 b
    grind[NO,decide_true]
theorem zc7(R:List Mv) (m:Mv) (p:Int):NO (R++[m]) p=NO R p+(if m.1=p then 1 else 0):=by
 grind[NO,qu]
structure Fre (R:List Mv) (a:List Int):Prop where
 nd:a.Nodup
 iff:∀p,p∈a↔p∈km R/\p ∉ qI R
theorem Fre.perm{R:List Mv}{b:List Int}(h:Fre R a)(p:b.Perm a):Fre R b:=⟨p.nodup_iff.2 h.nd,λx=>p.mem_iff.trans (h.iff x)⟩
theorem Fre.step{R:List Mv} {m:Mv}  (h:Fre R (m.2::a)) (nd:(km R).Nodup) (c:m∈R) :
  (NO (less R m.2) m.1=0/\m.1∈km (less R m.2)->Fre (less R m.2) (m.1::a))/\(¬(NO (less R m.2) m.1=0/\m.1∈km (less R m.2))->Fre (less R m.2) a):=by
 have b:=WM.1 h.nd;have tl:∀p,p∈km (less R m.2)↔p∈km R/\p≠m.2:=λp=>by
  simp only[iP,lD]
  simp_all
 have fl:∀p,p≠m.1->(p ∉ qI (less R m.2)↔p ∉ qI R):=λp hp=>by
  have:=Rf nd c p;rw[if_neg hp]at this
  grind[Hr]
 have d:m.1 ∉ a:=λe=>((h.iff m.1).1 (by simp[e])).2 (pN.2 ⟨m,c,rfl⟩);have f:∀p,p≠m.1->(p∈a↔p∈km (less R m.2)/\p ∉ qI (less R m.2)):=λp hp=>by
  rw[tl,fl p hp];have:=h.iff p
  grind
 refine⟨λ⟨g,i⟩=>⟨by simp_all,λp=>?_⟩,λj=>⟨b.2,λp=>?_⟩⟩
 ·grind[Hr,Wh]
 grind[Hr]
theorem Fre.rings{R:List Mv} (h:Fre R []) (nd:(km R).Nodup):MO R:=MO.of nd λm a=>Classical.byContradiction λb=>by
 have:=(h.iff m.2).2 ⟨iP.2 ⟨m,a,rfl⟩,b⟩;cases this
structure Ni where
 op:Nat
 a:Nat
 b:Nat
 c:Nat
 n:Int
structure Nl where
 kind:Int
 n:Int
structure Nf where
 func:Int
 pc:Int
 locals:List Nl
 stack:List Nl
structure Nx where
 gB:List Nf
 state:Int
 val:Int
def kG(op:Nat):Nat:=
 if op=1\/op=3\/op=4\/op=24\/op=25 then 1 else if op=2\/op=10\/op=11\/op=17\/op=18\/op=19\/op=21 then 2
 else if(5<=op/\op<=9)\/(12<=op/\op<=16)\/op=20\/op=22 then 3 else 0
def rS(op:Nat) (x:Int) (n:Nat):Prop:=
 if op=1\/op=19\/op=21 then True else if op=3\/op=4 then 0<=x/\x<400 else if op=23\/op=24 then 0<=x/\x<=n
 else if op=25\/op=26\/op=27 then 0<=x/\x<=1048576 else x=0
def pI(k r i:Nat):Prop:=r<16/\(k<=i->r=0)
def AH(n:Nat)(x:Ni):Prop:=(1<=x.op/\x.op<=27)/\rS x.op x.n n/\pI (kG x.op) x.a 0/\pI (kG x.op) x.b 1/\pI (kG x.op) x.c 2
def lg(p:Int):Nl:=if p<16 then⟨1,p⟩ else⟨2,p-16⟩
def Zk(sp:Nat)(p:Int):Ni:=⟨3,sp,0,0,p-16⟩
def WO(r:Nat)(p:Int):Ni:=⟨4,r,0,0,p-16⟩
def ki(p:Int)(sp:Nat):List Ni:=if p<16 then[] else[Zk sp p]
def lB(p:Int)(sp:Nat):Nat:=if p<16 then p.toNat else sp
def AP(p:Int)(x:Ni):List Ni:=if p<16 then[{x with a:=p.toNat}] else[{x with a:=14},WO 14 p]
def td(m:Mv):List Ni:=
 if m.1<16 then(if m.2<16 then[⟨2,m.2.toNat,m.1.toNat,0,0⟩] else[WO m.1.toNat m.2])
 else if m.2<16 then[Zk m.2.toNat m.1] else[Zk 13 m.1,WO 13 m.2]
section
variable (u:U)(of:List Int)
def hO(v:Nat):Int:=of.getD v 0
def opV(v:Nat):Nat:=match u.ee[v]? with
 |some x=>x.op
 |none=>0
def frC(f:Fm):Nf:=⟨f.func,f.pc,f.locals.map λv=>lg (hO of v),f.stack.map λv=>lg (hO of v)⟩
def Ss(s:Nat)(v:Int):Nx:=⟨(match u.eE[s]? with|some fs=>fs|none=>[]).map (frC of),s,v⟩
def pt(v:Nat) (x:Vl) (k:Nat):List Ni:=
 if x.op=1\/x.op=21 then[] else if x.op=2 then AP (hO of v) ⟨1,0,0,0,x.n⟩
 else if x.op=19 then ki (hO of x.a) 12++ki (hO of x.b) 13++[⟨21,lB (hO of x.a) 12,lB (hO of x.b) 13,0,x.n⟩]
 else if x.op=20 then ki (hO of x.a) 12++ki (hO of x.b) 13++ki (hO of (x.args.getD 0 0)) 14++[⟨22,lB (hO of x.a) 12,lB (hO of x.b) 13,lB (hO of (x.args.getD 0 0)) 14,0⟩]
 else if x.op=22 then ki (hO of x.a) 12++[⟨25,lB (hO of x.a) 12,0,0,k⟩]
 else if x.op=23 then[⟨26,0,0,0,k⟩]
 else if x.op=8\/x.op=9\/x.op=15\/x.op=16\/x.op=17 then ki (hO of x.a) 12++AP (hO of v) ⟨x.op+2,0,lB (hO of x.a) 12,0,if x.op=17 then x.n else 0⟩
 else ki (hO of x.a) 12++ki (hO of x.b) 13++AP (hO of v) ⟨x.op+2,0,lB (hO of x.a) 12,lB (hO of x.b) 13,0⟩
def EG(v:Nat)(x:Vl):List Nx:=if x.op=22\/x.op=23 then[Ss u of x.state v] else[]
def tP(v:Nat):List Nx:=match u.ee[v]? with
 |some x=>EG u of v x
 |none=>[]
def Aa(v k:Nat):List Ni:=match u.ee[v]? with
 |some x=>pt of v x k
 |none=>[]
def jD(l:List Nat):List Nx:=l.flatMap (tP u of)
def jZ:List Nat->Nat->List Ni
 |[],_=>[]
 |v::l,k=>Aa u of v k++jZ l (k+(tP u of v).length)
def jM(p:Nat):List Nat->Nat
 |[]=>0
 |[_]=>0
 |q::r::l=>if q=p then 0 else jM p (r::l)+1
def rA(j:Nat) (v:Nat):List Mv:=match u.ee[v]? with
 |some x=>if x.op=21 then[(hO of (x.args.getD j 0),hO of v)] else[]
 |none=>[]
def mN(p t:Nat):List Mv:=match u.blocks[t]? with
 |some B=>B.ee.flatMap (rA u of (jM p B.fk))
 |none=>[]
def Vd(p t:Nat)(c:List Ni):Prop:=∃out,zfR (mN u of p t) 15 out/\c=out.flatMap td
def isIf(p:Nat):Bool:=match u.blocks[p]? with
 |some B=>B.fin == 2
 |none=>false
def LK(b:Nat)(B:Bk)(c:List Ni):Prop:=if B.fk.length=1/\isIf u (B.fk.getD 0 0)=true then Vd u of (B.fk.getD 0 0) b c else c=[]
def RD(b:Nat) (B:Bk) (k:Nat) (c:List Ni):Prop:=
 if B.fin=1 then ∃d,Vd u of b (B.next.getD 0 0) d/\c=d++[⟨23,0,0,0,(B.next.getD 0 0:Nat)⟩]
 else if B.fin=2 then c=ki (hO of B.cond) 12++[⟨24,lB (hO of B.cond) 12,0,0,(B.next.getD 1 0:Nat)⟩,⟨23,0,0,0,(B.next.getD 0 0:Nat)⟩]
 else c=[⟨27,0,0,0,k⟩]
def Nv(B:Bk):List Nx:=if B.fin=1\/B.fin=2 then[] else[Ss u of B.state (-1)]
def Dy(B:Bk):List Nx:=jD u of B.ee++Nv u of B
def zct(b:Nat)(B:Bk)(k:Nat)(c:List Ni):Prop:=∃a d,LK u of b B a/\RD u of b B (k+(jD u of B.ee).length) d/\c=a++jZ u of B.ee k++d
inductive zi:List Bk->Nat->Nat->List (List Ni)->Prop
 |nil (b k:Nat):zi [] b k []
 |cons {B:Bk} {l:List Bk} {b k:Nat} {c:List Ni} {cs:List (List Ni)} (h:zct u of b B k c) (t:zi l (b+1) (k+(Dy u of B).length) cs):zi (B::l) b k (c::cs)
def mJ:List Nx:=u.blocks.flatMap (Dy u of)
end
def iL:Nat->List (List Ni)->List Nat
 |_,[]=>[]
 |n,c::cs=>n::iL (n+c.length) cs
def tM(x:Ni):Bool:=x.op == 23 ||x.op == 24
def patch(bs:List Nat)(x:Ni):Ni:=if tM x=true then{x with n:=((bs.getD x.n.toNat 0:Nat):Int)} else x
def EmitC(u:U)(of:List Int)(l:List Ni):Prop:=∃cs,zi u of u.blocks 0 0 cs/\l=cs.flatten.map (patch (iL 0 cs))
section
variable{u:U}{of:List Int}
theorem Xy(l:List Nat)(v:Nat):jD u of (l++[v])=jD u of l++tP u of v:=by simp[jD]
theorem FN:∀l m k,jZ u of (l++m) k=jZ u of l k++jZ u of m (k+(jD u of l).length)
 |[],m,k=>by rfl
 | v::l,m,k=>by
   simp only[wBS,jZ,FN l m,Cy]
   grind[jD,qu]
theorem Xu(l:List Nat) (v k:Nat):jZ u of (l++[v]) k=jZ u of l k++Aa u of v (k+(jD u of l).length):=by
 grind[FN,jZ]
theorem zi.snoc {c:List Ni}:∀{l:List Bk} {b k:Nat} {cs:List (List Ni)},zi u of l b k cs->zct u of (b+l.length) B (k+(l.flatMap (Dy u of)).length) c->zi u of (l++[B]) b k (cs++[c])
 |_,_,_,_,.nil b k,h=> .cons h (.nil _ _)
 | _,_,_,_,.cons (l:=l) (b:=b) a t,h=> .cons a (t.snoc (by
   grind))
theorem zi.length:∀{l:List Bk} {b k:Nat} {cs:List (List Ni)},zi u of l b k cs->cs.length=l.length
 |_,_,_,_,.nil _ _=>rfl
 |_,_,_,_,.cons _ t=>by simp[t.length]
theorem zi.get:∀{l:List Bk} {b k:Nat} {cs:List (List Ni)} {i:Nat} {B:Bk},zi u of l b k cs->l[i]? =some B->∃c,cs[i]? =some c/\zct u of (b+i) B (k+((l.take i).flatMap (Dy u of)).length) c
 |_,_,_,_,_,_,.nil _ _,h=>by simp_all
 |_,_,_,_,0,_,.cons a _,h=>by simp_all
 | _,b,k,_,i+1,B,.cons a t,h=>by
   let⟨c,d,e⟩:=t.get h
   grind
theorem OL(c:List Ni):∀cs n,iL n (cs++[c])=iL n cs++[n+cs.flatten.length]
 |[],n=>by rfl
 |d::cs,n=>by simp[wBS,iL,OL c cs,List.flatten_cons,qu];rw[Zz]
theorem FH:∀cs n,(iL n cs).length=cs.length
 |[],_=>rfl
 |d::cs,n=>by simp[iL,FH cs]
theorem K3:∀cs n i,i<cs.length->(iL n cs)[i]? =some (n+(cs.take i).flatten.length)
 |[],_,_,h=>by simp_all
 |d::cs,n,0,_=>by rfl
 | d::cs,n,i+1,h=>by
   simp[iL,List.getElem?_cons_succ,K3 cs (n+d.length) i (by simp_all),List.take_succ_cons,List.flatten_cons,qu];rw[Zz]
def KZ(u:U)(of:List Int):Prop:=∀v,v<u.ee.length->(0<=hO of v/\hO of v<12)\/(16<=hO of v/\hO of v<415)
structure rE (u:U) (nb ne:Nat) (x:Ni):Prop where
 op:1<=x.op/\x.op<=27
 a:pI (kG x.op) x.a 0
 b:pI (kG x.op) x.b 1
 c:pI (kG x.op) x.c 2
 j:tM x=true->0<=x.n/\x.n<nb
 n:tM x=false->rS x.op x.n 0
 e:x.op=25\/x.op=26\/x.op=27->x.n<ne
 w:x.op=1\/x.op=19\/x.op=21->∃v∈u.ee,x.n=v.n
def lC(p:Int):Prop:=(0<=p/\p<16)\/(16<=p/\p<416)
variable{nb ne:Nat}
theorem zck{sp:Nat} {p:Int} (hs:sp<16) (h:lC p) (hp:¬p<16):rE u nb ne (Zk sp p):=by
 refine⟨by simp[Zk],?_,?_,?_,?_,?_,?_,?_⟩ <;> simp[Zk,kG,pI,tM,rS] <;> unfold lC at h <;> omega
theorem zcn{r:Nat} {p:Int} (hs:r<16) (h:lC p) (hp:¬p<16):rE u nb ne (WO r p):=by
 refine⟨by simp[WO],?_,?_,?_,?_,?_,?_,?_⟩ <;> simp[WO,kG,pI,tM,rS] <;> unfold lC at h <;> omega
theorem yE{sp:Nat} {p:Int} (hs:sp<16) (h:lC p):(∀i∈ki p sp,rE u nb ne i)/\(ki p sp).length<=1/\lB p sp<16:=by
 grind[ki,lB,lC,Hh,zck]
theorem Tx{p:Int} {x:Ni} (h:lC p) (b:∀r,r<16->rE u nb ne {x with a:=r}):(∀i∈AP p x,rE u nb ne i)/\(AP p x).length<=2:=by
 unfold AP;split
 ·simp_all
 ·rename_i e;refine⟨λi hi=>?_,by simp⟩;simp[ List.mem_nil_iff]at hi;rcases hi with rfl|rfl
  ·simp_all
  grind[zcn]
theorem U2{m:Mv} (a:lC m.1) (b:lC m.2):(∀i∈td m,rE u nb ne i)/\(td m).length=II m:=by
 have r1:m.1<16->m.1.toNat<16:=by unfold lC at a;omega
 have r2:m.2<16->m.2.toNat<16:=by unfold lC at b;omega
 unfold td II;split
 ·rename_i e1;split
  ·rename_i e2;refine⟨λi hi=>?_,by simp_all⟩;rw[Hh.1 hi];refine⟨by simp,?_,?_,?_,?_,?_,?_,?_⟩ <;> simp[kG,pI,tM,rS,r1 e1,r2 e2]
  simp_all[if_neg,Hh,zcn]
 ·rename_i e1;split
  ·simp_all[if_neg,Hh,zck]
  ·rename_i e2;refine⟨λi hi=>?_,by simp_all⟩;simp[Aw,List.mem_nil_iff,or_false]at hi;rcases hi with rfl|rfl
   ·grind[zck]
   grind[zcn]
theorem RS:∀{l:List Mv},(∀m∈l,lC m.1/\lC m.2)->(∀i∈l.flatMap td,rE u nb ne i)/\(l.flatMap td).length=cost l
 |[],_=>⟨by simp,rfl⟩
 | m::l,h=>by
   let⟨a,b⟩:=U2 (u:=u) (nb:=nb) (ne:=ne) (by simp_all) (h m (by simp)).2
   let⟨c,d⟩:=RS (l:=l) (by grind)
   grind[qu,cost]
theorem KZ.pos(h:KZ u of) {v:Nat} (hv:v<u.ee.length):lC (hO of v):=by
 rcases h v hv with h|h <;> unfold lC <;> omega
theorem iy{v:Nat} (h:nz u v):v<u.ee.length:=by
 let⟨x,hx,_⟩:=h
 grind
theorem zdH(g:Good u) (hp:KZ u of) {v:Nat} {x:Vl} (j:u.ee[v]? =some x) {k:Nat} (H:k+(EG u of v x).length<=ne) (nw:ne<=1048576) :
  (∀i∈pt of v x k,rE u nb ne i)/\(pt of v x k).length<=4:=by
 have pv:=hp.pos (ke.1 j).1;have use:=g.use v x j;have pa:=λw A=>hp.pos (iy (use w A));have B:=g.op v x j;have C:=yN j;have ap:∀{l m:List Ni},(∀i∈l,rE u nb ne i)->(∀i∈m,rE u nb ne i)->∀i∈l++m,rE u nb ne i:=by grind
 have one:∀{y:Ni},rE u nb ne y->∀i∈[y],rE u nb ne i:=by simp_all
 unfold pt;split
 ·simp_all
 rename_i I;split
 ·let ⟨J,K⟩:=Tx (u:=u) (nb:=nb) (ne:=ne) (x:=⟨1,0,0,0,x.n⟩) pv (λr o=>by
   refine⟨by simp,?_,?_,?_,?_,?_,?_,by grind⟩ <;> simp[kG,pI,tM,rS,o])
  grind
 rename_i L;split
 ·rename_i e;have c:jn x=[x.a,x.b]:=by unfold jn two;simp[e]
  let⟨f,q,d⟩:=yE (u:=u) (nb:=nb) (ne:=ne) (sp:=12) (by omega) (pa x.a (by simp[c]))
  let⟨s,z,p⟩:=yE (u:=u) (nb:=nb) (ne:=ne) (sp:=13) (by omega) (pa x.b (by simp[c]))
  refine⟨ap (ap f s) (one ?_),by grind⟩;refine⟨by simp,?_,?_,?_,?_,?_,?_,by grind⟩ <;> simp[kG,pI,tM,rS,d,p]
 rename_i M;split
 ·rename_i e;have hl:=g.putAt v x j e;have c:jn x=[x.a,x.b,x.args.getD 0 0]:=by
   unfold jn;rw[if_neg (by omega),if_pos e]
   match h:x.args,hl with
   |[w],_=>rfl
  let⟨f,q,d⟩:=yE (u:=u) (nb:=nb) (ne:=ne) (sp:=12) (by omega) (pa x.a (by simp[c]))
  let⟨s,z,p⟩:=yE (u:=u) (nb:=nb) (ne:=ne) (sp:=13) (by omega) (pa x.b (by simp[c]))
  let⟨N,c2,D⟩:=yE (u:=u) (nb:=nb) (ne:=ne) (sp:=14) (by omega) (pa (x.args.getD 0 0) (by rw[c];simp))
  refine⟨ap (by grind) (one ?_),by grind⟩;refine⟨by simp,?_,?_,?_,?_,?_,?_,?_⟩ <;> simp[kG,pI,tM,rS,-List.getD_eq_getElem?_getD,d,p,D]
 rename_i O;split
 ·rename_i e;have c:jn x=[x.a]:=by unfold jn two uk;simp[e]
  let⟨f,q,d⟩:=yE (u:=u) (nb:=nb) (ne:=ne) (sp:=12) (by omega) (pa x.a (by simp[c]))
  have E:(EG u of v x).length=1:=by unfold EG;simp[e]
  refine⟨ap f (one ?_),by grind⟩;refine⟨by simp,?_,?_,?_,?_,?_,?_,?_⟩ <;> simp[kG,pI,tM,rS,d] <;> omega
 rename_i P;split
 ·rename_i e;have E:(EG u of v x).length=1:=by unfold EG;simp[e]
  refine⟨one ?_,by simp⟩;refine⟨by simp,?_,?_,?_,?_,?_,?_,?_⟩ <;> simp[kG,pI,tM,rS] <;> omega
 rename_i Q;split
 ·rename_i e;have c:jn x=[x.a]:=by unfold jn two uk;rcases e with e|e|e|e|e <;> simp[e]
  let⟨f,q,d⟩:=yE (u:=u) (nb:=nb) (ne:=ne) (sp:=12) (by omega) (pa x.a (by simp[c]))
  let ⟨s1,F⟩:=Tx (u:=u) (nb:=nb) (ne:=ne) (x:=⟨x.op+2,0,lB (hO of x.a) 12,0,if x.op=17 then x.n else 0⟩) pv (λr o=>by
   rcases e with e|e|e|e|e <;> refine⟨by simp[e],?_,?_,?_,?_,?_,?_,?_⟩ <;> simp[e,kG,pI,tM,rS,d,o];exact⟨x,C,rfl⟩)
  exact⟨ap f s1,by simp[qu];omega⟩
 rename_i R;have G:two x.op=true:=by
  unfold two;simp[JD,yF,yU,Ey];omega
 have c:jn x=[x.a,x.b]:=by unfold jn;rw[if_neg (by omega),if_neg (by omega),if_pos G]
 let⟨f,q,d⟩:=yE (u:=u) (nb:=nb) (ne:=ne) (sp:=12) (by omega) (pa x.a (by simp[c]))
 let⟨s,z,p⟩:=yE (u:=u) (nb:=nb) (ne:=ne) (sp:=13) (by omega) (pa x.b (by simp[c]))
 let ⟨s1,F⟩:=Tx (u:=u) (nb:=nb) (ne:=ne) (x:=⟨x.op+2,0,lB (hO of x.a) 12,lB (hO of x.b) 13,0⟩) pv (λr o=>by
  have t:kG (x.op+2)=3:=by
   unfold kG;rw[if_neg (by omega),if_neg (by omega),if_pos (by omega)]
  refine⟨by simp;omega,?_,?_,?_,?_,?_,?_,?_⟩
  ·simp[t];exact⟨o,by omega⟩
  ·simp[t];exact⟨d,by omega⟩
  ·simp[t];exact⟨p,by omega⟩
  ·simp[tM];omega
  ·intro _;unfold rS;rw[if_neg (by simp;omega),if_neg (by simp;omega),if_neg (by simp;omega),if_neg (by simp;omega)]
  ·simp;omega
  ·simp;omega)
 exact⟨ap (ap f s) s1,by simp[qu];omega⟩
theorem Wa(g:Good u) (hp:KZ u of) (nw:ne<=1048576):∀{l:List Nat} {k:Nat},k+(jD u of l).length<=ne->(∀i∈jZ u of l k,rE u nb ne i)/\(jZ u of l k).length<=4*l.length
 |[],_,_=>by grind[jZ]
 | v ::l,k,h=>by
   simp only[jD,wA6,qu]at h
   let⟨b,c⟩:=Wa g hp nw (l:=l) (k:=k+(tP u of v).length) (by grind[jD])
   have d:(∀i∈Aa u of v k,rE u nb ne i)/\(Aa u of v k).length<=4:=by
     unfold Aa;split
     ·rename_i x a
      refine zdH g hp a ?_ nw
      grind[tP]
     ·simp_all
   grind[jZ,qu,Re]
theorem Sd(p:Nat):∀{l:List Nat},0<l.length->jM p l<l.length
 |[_],_=>Nat.zero_lt_one
 | q ::r::l,_=>by
   unfold jM;split
   ·simp
   ·have:=Sd p (l:=r::l) (by simp)
    simp_all
theorem PH(g:Good u) (hp:KZ u of) {p t:Nat} {B:Bk} (f:u.blocks[t]? =some B) (j:0<B.fk.length) {c:List Ni} (h:Vd u of p t c):(∀i∈c,rE u nb ne i)/\c.length<=2*B.ee.length:=by
 obtain ⟨out,r,rfl⟩:=h;have d:∀m∈mN u of p t,lC m.1/\lC m.2:=λm d=>by
  unfold mN at d;rw[f]at d
  let⟨v,hv,d⟩:=Sg.1 d
  unfold rA at d;split at d
  ·rename_i x s;split at d
   ·rename_i e;rw[Hh.1 d]
    let⟨k,hk⟩:=mz.1 hv
    have ⟨_,hl⟩:=g.XS v t k x B ⟨B,f,hk⟩ s e f;have z:=Sd p j;have w:x.args.getD (jM p B.fk) 0∈jn x:=by
     unfold jn;rw[if_pos e,IY,hZ (by omega)];exact AL _
    exact⟨hp.pos (iy (g.use v x s _ w)),hp.pos (by grind)⟩
   ·cases d
  ·cases d
 have hl:(mN u of p t).length<=B.ee.length:=by
  unfold mN;rw[f];simp only;have:∀l:List Nat,(l.flatMap (rA u of (jM p B.fk))).length<=l.length:=λl=>by
   induction l <;> grind[rA,jM,qu,Re]
  exact this _
 have sp:lC 15:= .inl (by omega);have fr:∀q∈qI (mN u of p t),lC q:=λq hq=>by obtain⟨m,n,rfl⟩:=pN.1 hq;grind
 have tr:∀q∈km (mN u of p t),lC q:=λq hq=>by obtain⟨m,n,rfl⟩:=iP.1 hq;grind
 let ⟨n,y⟩:=RS (u:=u) (nb:=nb) (ne:=ne) (l:=out) λm o=>by
  let⟨a,b⟩:=r.FK m o
  grind
 refine⟨n,?_⟩;rw[y];have:=r.cost;omega
theorem YO(g:Good u) (hp:KZ u of) (nw:ne<=1048576) {b:Nat} {B:Bk} (n:u.blocks[b]? =some B) {k:Nat} {c:List Ni} (h:zct u of b B k c) (v:k+(Dy u of B).length<=ne) {m:Nat} (C:∀(t:Nat) T,u.blocks[t]? =some T->T.ee.length<=m) :
  (∀i∈c,rE u u.blocks.length ne i)/\c.length<=4*B.ee.length+4*m+3/\0<c.length:=by
 obtain⟨w,p,q,f,rfl⟩:=h;unfold Dy at v;rw[qu]at v
 let⟨D,E⟩:=Wa (nb:=u.blocks.length) g hp nw (l:=B.ee) (k:=k) (by omega)
 have o:=λt a=>g.nx b t (by unfold next;rw[n];exact a);have w1:(∀i∈w,rE u u.blocks.length ne i)/\w.length<=2*m:=by
  unfold LK at q;split at q
  ·rename_i e
   let⟨r,x⟩:=PH (nb:=u.blocks.length) (ne:=ne) g hp n (by omega) q
   grind
  ·simp_all
 have F:(∀i∈p,rE u u.blocks.length ne i)/\p.length<=2*m+3/\0<p.length:=by
  unfold RD at f;have z:∀t∈B.next,rE u u.blocks.length ne ⟨23,0,0,0,(t:Nat)⟩:=λt a=>by
   have:=o t a;refine⟨by simp,?_,?_,?_,?_,?_,?_,?_⟩ <;> simp[ pI,tM] <;> omega
  split at f
  ·rename_i e;obtain⟨d,hd,rfl⟩:=f;rcases g.fin b B n with⟨_,A⟩|⟨e2,_⟩|⟨e2,_⟩
   ·have a:B.next.getD 0 0∈B.next:=by
     rw[IY,hZ (by omega)];exact AL _
    obtain⟨T,y⟩:∃T,u.blocks[B.next.getD 0 0]? =some T:=by simp_all
    have s:0<T.fk.length:=by
     rw[g.fk _ T y];exact List.length_pos_of_mem (mK.2 (by unfold next;rw[n];exact a))
    let⟨r,x⟩:=PH (nb:=u.blocks.length) (ne:=ne) g hp y s hd
    grind
   ·omega
   ·omega
  ·rename_i e1;split at f
   ·rename_i e;rcases g.fin b B n with⟨e2,_⟩|⟨_,A,hc⟩|⟨e2,_⟩
    ·omega
    ·have a:∀j,j<2->B.next.getD j 0∈B.next:=by simp_all
     obtain⟨r,x,G⟩:=yE (nb:=u.blocks.length) (ne:=ne) (sp:=12) (by omega) (hp.pos (iy hc));subst f;refine⟨λi hi=>?_,by grind,by simp⟩;rcases yX.1 hi with hi|hi
     ·exact r i hi
     ·simp only[Aw,List.mem_nil_iff,or_false]at hi;rcases hi with rfl|rfl
      ·have:=o _ (a 1 (by omega));refine⟨by simp,?_,?_,?_,?_,?_,?_,?_⟩ <;> simp only[kG,pI,tM] <;> simp[-List.getD_eq_getElem?_getD] <;> omega
      simp_all
    ·omega
   ·rename_i e;have H:(Nv u of B).length=1:=by unfold Nv;rw[if_neg (by omega)];rfl
    subst f;refine⟨λi hi=>?_,by simp,by simp⟩;rw[Hh.1 hi];refine⟨by simp,?_,?_,?_,?_,?_,?_,?_⟩ <;> simp[kG,pI,tM,rS] <;> omega
 grind
def uN(n:Int):Nat:=(n % 18446744073709551616).toNat
def sN(n:Nat):Int:=if n<9223372036854775808 then n else(n:Int)-18446744073709551616
def CM(n k:Nat):Nat:=n / 256 ^ k % 256
def W8(x:Ni):List Nat:=[x.op % 256,(16*x.a+x.b) % 256,x.c % 256]++(List.range 8).map (CM (uN x.n))
def xL(l:List Ni):List Nat:=l.flatMap W8
def ye(b:List Nat) (i:Nat):Nat->Nat
 |0=>0
 |k+1=>ye b i k+b.getD (i+k) 0*256 ^ k
def rB(b:List Nat)(i:Nat):Ni:=⟨b.getD i 0,b.getD (i+1) 0 / 16,b.getD (i+1) 0 % 16,b.getD (i+2) 0,sN (ye b (i+3) 8)⟩
def Bo(b:List Nat):List Ni:=(List.range (b.length / 11)).map λi=>rB b (11*i)
structure Mq (b:List Nat) (l:List Ni):Prop where
 len:b.length % 11=0
 eq:l=Bo b
 zcj:l.length<=32768
 ok:∀x∈l,AH l.length x
theorem Is{b:List Nat} (a:∀x∈b,x<256) (i:Nat):∀k,ye b i k<256 ^ k
 |0=>Nat.one_pos
 | k + 1=>by
   have d:=Is a i k;have c:b.getD (i+k) 0<256:=by
     rw[IY];by_cases h:i+k<b.length
     ·simp_all
     ·simp_all
   have e:b.getD (i+k) 0*256 ^ k+256 ^ k<=256*256 ^ k:=by
     rw[<-Nat.succ_mul];exact wBJ _ c
   grind[ye,Nat.pow_succ,wB1]
theorem QP(x:Ni):(W8 x).length=11:=by rfl
theorem IQ:∀l,(xL l).length=11*l.length
 |[]=>rfl
 | x::l=>by
   have:=IQ l
   grind[xL,qu,QP,Re]
theorem zfe(n:Int):uN n<18446744073709551616:=by grind[uN]
theorem zgP{n:Int} (a : -9223372036854775808<=n) (b:n<9223372036854775808):sN (uN n)=n:=by
 grind[sN,uN]
theorem zcq{l:List Ni}  {x:Ni} (a:l[i]? =some x) (b:j<11):(xL l)[11*i+j]? = (W8 x)[j]?:=by
 induction l generalizing i with
 |nil=>simp_all
 | cons y l c=>
   have e:xL (y::l)=W8 y++xL l:=by unfold xL;rw[wA6]
   rw[e]
   cases i with
   | zero=>
     simp_all[Option.some.injEq,UF,QP,Nat.mul_zero,Jn]
   | succ i=>
     grind[Ze,QP]
theorem We{b:List Nat}  (a:∀k,k<8->b.getD (i+k) 0=CM n k):∀k,k<=8->ye b i k=n % 256 ^ k
 |0,_=>by grind[ye]
 | k+1,h=>by
   unfold ye;rw[We a k (by omega),a k (by omega)];unfold CM;rw[Nat.pow_succ,Nat.mod_mul];rw[wB1]
theorem zaO{l:List Ni}  {x:Ni} (m:l[i]? =some x) {n:Nat} (ok:AH n x) (c : -9223372036854775808<=x.n) (d:x.n<9223372036854775808):rB (xL l) (11*i)=x:=by
 have g:∀j,j<11->(xL l).getD (11*i+j) 0=(W8 x).getD j 0:=by grind[zcq]
 have e:ye (xL l) (11*i+3) 8=uN x.n:=by
  rw[We (λk o=>?_) 8 (jJ _)]
  ·exact Nat.mod_eq_of_lt (zfe _)
  ·rw[Zz,g (3+k) (by omega)]
   grind[W8,Ze,wBs]
 have f:=ok.2.2.1.1;have a:=ok.2.2.2.1.1;have b:=ok.2.2.2.2.1;have h:=ok.1;have e0:=g 0 (by omega);have e1:=g 1 (by omega);have e2:=g 2 (by omega);rw[Nat.add_zero]at e0;unfold rB;rw[e,zgP c d,e0,e1,e2];cases x;simp[W8,Ni.mk.injEq,and_true,wBS,List.getD_cons_zero,List.getD_cons_succ]at*;omega
theorem zdN{l:List Ni} (hl:l.length<=32768) (ok:∀x∈l,AH l.length x) (a:∀x∈l,-9223372036854775808<=x.n/\x.n<9223372036854775808):Mq (xL l) l where
 len:=by grind[IQ]
 eq:=by
  unfold Bo;rw[IQ,Nat.mul_div_cancel_left _ (by decide)];refine wBw λi=>?_
  grind[wBs,hZ,AL,zaO,Z2]
 zcj:=hl
 ok:=ok
theorem Mq.uniq{b:List Nat}{l a:List Ni}(h:Mq b l)(h':Mq b a):l=a:=h.eq.trans h'.eq.symm
def qO:Nat->List Ni->List Nat
 |_,[]=>[]
 |n,x::c=>if tM x=true then n::qO (n+1) c else qO (n+1) c
theorem vQ:∀c d n,qO n (c++d)=qO n c++qO (n+c.length) d
 |[],d,n=>by simp[qO]
 | x::c,d,n=>by
   have a:=vQ c d (n+1);simp[wBS,qO,a,Re];rw[show n+(c.length+1)=n+1+c.length by omega];split <;> simp
theorem MR:∀{c:List Ni} {n:Nat},(∀x∈c,tM x=false)->qO n c=[]
 |[],_,_=>rfl
 | x::c,n,h=>by
   unfold qO;rw[if_neg (by rw[h x (by simp)];simp)];exact MR λy a=>h y (by simp[a])
theorem zbI{x y:Ni}  (a:tM x=true) (b:tM y=true):qO n [x,y]=[n,n+1]:=by
 simp[qO,a,b]
theorem VQ:∀c n,(qO n c).length<=c.length
 |[],_=>jJ _
 | x::c,n=>by
   have:=VQ c (n+1);unfold qO;split <;> simp[Re] <;> omega
theorem Sa{k:Nat} {r:List Nat}:∀{c:List Ni} {n:Nat},qO n c=k::r->∃a x c2,c=a++x::c2/\k=n+a.length/\(∀y∈a,tM y=false)/\tM x=true/\r=qO (k+1) c2
 |[],_,h=>by cases h
 | x ::c,n,h=>by
   unfold qO at h;split at h
   ·rename_i e
    cases h;exact⟨[],x,c,rfl,rfl,by simp,e,rfl⟩
   ·rename_i e
    let⟨a,y,c2,d,j,f,g,i⟩:=Sa h
    refine⟨x::a,y,c2,by rw[d];rfl,by rw[ Re];omega,λz b=>?_,g,i⟩;rcases Aw.1 b with rfl|b
    ·simpa using e
    ·exact f z b
theorem VZ{bs:List Nat} {c:List Ni} (h:∀x∈c,tM x=false):c.map (patch bs)=c:=by
 have:c.map (patch bs)=c.map id:=wBZ λx a=>by
  unfold patch;rw[if_neg (by rw[h x a];simp)];rfl
 rw[this,List.map_id]
theorem Du(p:Int) (sp:Nat):∀i∈ki p sp,tM i=false:=by
 unfold ki;split
 ·simp
 ·intro i hi;rw[Hh.1 hi];rfl
theorem Yc{p:Int} {x:Ni} (h:x.op≠23/\x.op≠24):∀i∈AP p x,tM i=false:=by
 unfold AP;split <;> simp[tM,WO,h]
theorem zei(m:Mv):∀i∈td m,tM i=false:=by
 unfold td;split <;> split <;> simp[tM,WO,Zk]
theorem za5{u:U} {of:List Int} {p t:Nat} {c:List Ni} (h:Vd u of p t c):∀i∈c,tM i=false:=by
 obtain⟨out,_,rfl⟩:=h;intro i hi
 let⟨m,_,hm⟩:=Sg.1 hi
 exact zei m i hm
theorem zf5{u:U} (g:Good u) {of:List Int} {v:Nat} {x:Vl} (c:u.ee[v]? =some x) (k:Nat):∀i∈pt of v x k,tM i=false:=by
 have one:∀{l:List Ni} {y:Ni},(∀i∈l,tM i=false)->tM y=false->∀i∈l++[y],tM i=false:=λa b i hi=>(yX.1 hi).elim (a i) λhi=>by rw[Hh.1 hi];exact b
 have ap:∀{l m:List Ni},(∀i∈l,tM i=false)->(∀i∈m,tM i=false)->∀i∈l++m,tM i=false:=λa b i hi=>(yX.1 hi).elim (a i) (b i);unfold pt;split
 ·simp
 rename_i d;split
 ·exact Yc (by simp)
 split
 ·exact one (ap (Du _ _) (Du _ _)) rfl
 split
 ·exact one (ap (ap (Du _ _) (Du _ _)) (Du _ _)) rfl
 split
 ·exact one (Du _ _) rfl
 split
 ·intro i hi;rw[Hh.1 hi];rfl
 split
 ·rename_i e;exact ap (Du _ _) (Yc (by simp only;omega))
 ·refine ap (ap (Du _ _) (Du _ _)) (Yc ?_);simp only;omega
theorem YC{u:U} (g:Good u) {of:List Int}:∀l k,∀i∈jZ u of l k,tM i=false
 |[],_,i,h=>by cases h
 | v ::l,k,i,h=>by
   rcases yX.1 h with h|h
   ·unfold Aa at h
    split at h
    ·rename_i x a;exact zf5 g a k i h
    ·cases h
   ·exact YC g l _ i h
theorem MS{α:Type} {m:Nat}:∀{l:List (List α)},(∀c∈l,c.length<=m)->l.flatten.length<=l.length*m
 |[],_=>by simp
 | c::l,h=>by
   have a:=h c (by simp);have b:=MS (l:=l) λd hd=>h d (by simp[hd])
   grind[List.flatten_cons,qu,Re,ZX]
theorem VH{x:Ni} {cs:List (List Ni)} (h:x∈cs.flatten):∃(i:Nat) (c:List Ni),cs[i]? =some c/\x∈c:=by
 grind[List.mem_flatten,mz]
theorem Nw  (a:u.blocks[i]? =some B):((u.blocks.take i).flatMap (Dy u of)).length+(Dy u of B).length<=(mJ u of).length:=by
 grind[ke,wAb,wAu,mJ,qu]
theorem zfu{nb ne:Nat} {x:Ni} (h:rE u nb ne x) (bs:List Nat) (d:∀b,b<nb->∃k,bs[b]? =some k/\k<=n) (nw:ne<=1048576):AH n (patch bs x)/\((patch bs x).op=25\/(patch bs x).op=26\/(patch bs x).op=27->(patch bs x).n<ne)/\((patch bs x).op=1\/(patch bs x).op=19\/(patch bs x).op=21->∃v∈u.ee,(patch bs x).n=v.n):=by
 unfold patch;split
 ·rename_i e
  let⟨f,g⟩:=h.j e
  let⟨k,hk,hkn⟩:=d x.n.toNat (by omega)
  have e':x.op=23\/x.op=24:=by simpa[tM]using e
  refine⟨⟨h.op,?_,h.a,h.b,h.c⟩,by grind,by grind⟩;unfold rS
  grind
 ·rename_i e;have e0:tM x=false:=by simpa using e
  have e':¬(x.op=23\/x.op=24):=by
   intro h;exact by grind[tM]
  refine⟨⟨h.op,?_,h.a,h.b,h.c⟩,h.e,h.w⟩;have:=h.n e0
  simp_all[rS,if_neg,if_pos]
theorem ZF(g:Good u) (hp:KZ u of) {l:List Ni} (h:EmitC u of l) {m:Nat} (j:∀(t:Nat) T,u.blocks[t]? =some T->T.ee.length<=m) (nw:(mJ u of).length<=1048576) :
  (∀x∈l,AH l.length x/\(x.op=25\/x.op=26\/x.op=27->x.n<(mJ u of).length)/\(x.op=1\/x.op=19\/x.op=21->∃v∈u.ee,x.n=v.n))/\l.length<=u.blocks.length*(8*m+3)/\0<l.length:=by
 obtain ⟨cs,hc,rfl⟩:=h;have hl:=hc.length;have a:∀(i:Nat) c,cs[i]? =some c->(∀x∈c,rE u u.blocks.length (mJ u of).length x)/\c.length<=8*m+3/\0<c.length:=λi c hi=>by
  have o:=(ke.1 hi).1;obtain⟨B,k⟩:∃B,u.blocks[i]? =some B:=by simp_all
  let⟨c',e,f⟩:=hc.get k
  rw[hi]at e;cases e;rw[Jn,Jn]at f
  let⟨w,z,A⟩:=YO g hp nw k f (Nw k) j
  grind
 refine⟨λx p=>?_,?_,?_⟩
 ·rw[RC];obtain⟨y,q,rfl⟩:=V7.1 p
  let⟨i,c,e,f⟩:=VH q
  refine zfu ((a i c e).1 y f) _ (λb C=>⟨_,K3 cs 0 b (by omega),?_⟩) nw;rw[Jn]
  grind[wAu,List.flatten_append,qu]
 ·rw[RC,<-hl];exact MS (by grind[mz])
 ·rw[RC];have r:=g.Xi;obtain⟨c,d⟩:∃c,cs[0]? =some c:=⟨_,hZ (by omega)⟩
  have:=(a 0 c d).2.2;have j:=mz.2 ⟨0,d⟩;obtain⟨s,t,rfl⟩:=wBt j
  grind
theorem VP(ops c:List Int) (n:Int):(Ao ops c n).blocks.length<=19/\∃(b:Nat) (B:Bk),(Ao ops c n).blocks[b]? =some B/\B.fin=3:=by
 constructor
 ·have hp:=Jz (jC n 5) 0 ⟨[],[],[],[],0⟩;have e:=zq n (m:=5) (by omega)
  let⟨r1,r2⟩:=CZ ops (il (params (jC n 5) 0 ⟨[],[],[],[],0⟩) (vl 2 0 0 5 [] 0))
  have e1:(il (params (jC n 5) 0 ⟨[],[],[],[],0⟩) (vl 2 0 0 5 [] 0)).ee.length=jC n 5+1:=by
   simp only[il,qu,hp.1];simp
  have e2:(il (params (jC n 5) 0 ⟨[],[],[],[],0⟩) (vl 2 0 0 5 [] 0)).eE=[]:=hp.2;have d:Big ⟨row ops (il (params (jC n 5) 0 ⟨[],[],[],[],0⟩) (vl 2 0 0 5 [] 0)),[],[]⟩ 0:=by
   have a:=r1.ee;have b:=r1.eE;rw[e1]at a b r2;rw[e2]at b;refine⟨by grind,?_,jJ _⟩;show(row ops _).eE.length<=(row ops _).ee.length+0;simp at b;omega
  have f:=FE ops (c.take 6) d;have hlen:(c.take 6).length<=6:=by rw[TV];omega
  unfold Ao;simp only;generalize kM ops (c.take 6) ⟨row ops (il (params (jC n 5) 0 ⟨[],[],[],[],0⟩) (vl 2 0 0 5 [] 0)),[],[]⟩=t at*;have bl:=f.blocks;show(t.blocks++[_]).length<=19
  grind
 ·unfold Ao end_;exact⟨_,_,wBB,rfl⟩
theorem Sq{m:Nat} (a:∀(t:Nat) T,u.blocks[t]? =some T->T.ee.length<=m):(mJ u of).length<=u.blocks.length*(m+1):=by
 have one:∀l,(jD u of l).length<=l.length:=λl=>by
  induction l <;> grind[jD,tP,EG,qu,Re]
 have h:(u.blocks.map (Dy u of)).flatten.length<=(u.blocks.map (Dy u of)).length*(m+1):=MS λc hc=>by
  obtain⟨B,b,rfl⟩:=V7.1 hc
  grind[mz,Nv,Dy,qu]
 rw[RC]at h;exact h
def Nn(l:List Vl):Prop:=∀x∈l,-9<=x.n/\x.n<=1048576
theorem kX{l:List Vl} {x:Vl} (h:Nn l) (b : -9<=x.n/\x.n<=1048576):Nn (l++[x]):=λy a=>by
 rcases yX.1 a with a|a
 ·exact h y a
 ·rw[Hh.1 a];exact b
theorem Zt(ops:List Int):∀i s l,(some_ ops i s l).2.ee=s.ee
 |0,_,_=>rfl
 |i+1,s,l=>(Zt ops i (fT ops s).2 _).trans rfl
theorem QQ(ops:List Int)(s:Ds):(fI ops s).2.ee=s.ee:=Zt ops _ _ _
theorem zeM  (h:Nn s.ee) (k a b:Nat):Nn (tS ops s k a b).ee:=by
 have d:=λm (c:0<m)=>xx ops s.pos c;unfold tS
 repeat' split
 ·exact kX h (by simp[vl])
 ·have:=d 1048576 (by decide);exact kX h (by simp[vl,num];omega)
 ·have:=d 5 (by decide);exact kX h (by simp[vl,num];omega)
 ·exact kX h (by simp[vl])
 ·have:=d 5 (by decide);exact kX h (by simp[vl,num];omega)
 ·exact kX h (by simp[vl])
 ·exact kX ((QQ ops s).symm▸h) (by simp[vl])
 ·exact kX ((QQ ops s).symm▸h) (by simp[vl])
 ·exact kX h (by simp[vl])
theorem Y6:∀i {s:Ds},Nn s.ee->Nn (rows ops i s).ee
 |0,_,h=>h
 | i+1,s,h=>by
   unfold rows;split
   ·exact Y6 i (by unfold vx;refine zeM ?_ _ _ _;exact h)
   ·exact h
theorem Fk(h:Nn s.ee):Nn (row ops s).ee:=Y6 _ h
theorem Tb{l:List Vl} (h:Nn l) {v:Nat} {a:List Nat}:Nn (l.modify v λx=>{x with args:=a}):=λx b=>by
 let⟨i,hi⟩:=mz.1 b
 simp only[List.getElem?_modify]at hi
 cases hy:l[i]? with
 |none=>rw[hy]at hi;cases hi
 | some y=>
   rw[hy]at hi;have:=h y (yN hy)
   grind
theorem ZG(h:Nn s.ee):Nn (fI ops s).2.ee:=(QQ ops s).symm▸h
theorem zcV {t:Dt} (h:Nn t.s.ee) (k:Nat):Nn (um ops k t).s.ee:=by
 unfold um
 repeat' split
 ·unfold fork;refine Fk (kX ?_ (by simp[vl]));exact Fk (Fk h)
 ·unfold loop;refine Fk (Tb (?_:Nn (ite _ _ _:Ds).ee));split
  ·refine Tb (Tb (Fk (kX (kX (kX (ZG (kX (kX h ?_) ?_)) ?_) ?_) ?_))) <;> simp[vl]
  ·refine Tb (Fk (kX (kX (kX (ZG (kX (kX h ?_) ?_)) ?_) ?_) ?_)) <;> simp[vl]
 ·unfold Ai;exact Fk (ZG (Fk h))
theorem SC:∀l {t:Dt},Nn t.s.ee->Nn (kM ops l t).s.ee
 |[],_,h=>h
 | k::l,t,h=>by
   unfold kM;split
   ·exact SC l (zcV h _)
   ·exact h
theorem SE:∀n i {s:Ds},Nn s.ee->i+n<=9->Nn (params n i s).ee
 |0,_,_,h,_=>h
 |n+1,i,s,h,hi=>SE n (i+1) (kX h (by simp[vl];omega)) (by omega)
theorem zbp(ops a:List Int) (n:Int):Nn (Ao ops a n).ee:=by
 have:=zq n (m:=5) (by decide);exact ZG (SC _ (Fk (kX (SE _ _ (λ_ h=>nomatch h) (by omega)) (by simp[vl]))))
theorem zbg{u:U} (c:Nn u.ee) {l:List Ni} (hl:l.length<=32768) (h:∀x∈l,AH l.length x/\(x.op=25\/x.op=26\/x.op=27->x.n<1048576)/\(x.op=1\/x.op=19\/x.op=21->∃v∈u.ee,x.n=v.n)):Mq (xL l) l:=
 zdN hl (λx a=>(h x a).1) λx a=>by
  let⟨⟨_,b,_⟩,_,d⟩:=h x a
  unfold rS at b;split at b
  ·rename_i e
   let⟨v,hv,e⟩:=d e
   have:=c v hv;omega
  repeat' split at b
  all_goals omega
end
open Dm
section
variable (u:U)(as:Nat->Int)
def stays(v:Nat):Bool:=as v == (v:Int)
def ze1:List Nat:=u.blocks.flatMap λB=>B.ee.filter (stays as)
def zb2:Nat->Nat->Nat
 |0,v=>v
 |k+1,v=>if 0<=as v/\as v≠(v:Int) then zb2 k (as v).toNat else v
def nm(v:Nat):Nat:=if zb2 as (u.ee.length+1) v∈ze1 u as then(ze1 u as).idxOf (zb2 as (u.ee.length+1) v) else 0
end
def zhS(u:U):Prop:=∀v b k a k',At u v b k->At u v a k'->b=a/\k=k'
theorem X4{u:U} (c:zhS u) {b:Nat} {B:Bk} (a:u.blocks[b]? =some B):B.ee.Nodup:=by
 refine wBI.2 λi j hi d f e=>?_;have g:At u B.ee[i] b i:=⟨B,a,hZ hi⟩
 have h:At u B.ee[i] b j:=⟨B,a,by rw[e];exact hZ d⟩
 have:=(c _ _ _ _ _ g h).2;omega
structure Fit (u:U) (as:Nat->Int):Prop where
 root:∀v,v<u.ee.length->0<=as v->∃w:Nat,as v=(w:Int)/\w<u.ee.length/\as w=(w:Int)
 up:∀(v w b k:Nat),as v=(w:Int)->At u v b k->∃c j,At u w c j/\(c=b/\j<=k\/c≠b/\zJ (next u) c b)
 zgZ:∀(v w:Nat),as v=(w:Int)->nz u v->nz u w
 use:∀v x,u.ee[v]? =some x->stays as v=true->∀w∈jn x,0<=as w
 st:∀v x fs,u.ee[v]? =some x->stays as v=true->leaves x.op=true->u.eE[x.state]? =some fs->∀w∈gB fs,0<=as w
 cond:∀(b:Nat) B,u.blocks[b]? =some B->B.fin=2->0<=as B.cond
 out:∀(b:Nat) B fs,u.blocks[b]? =some B->B.fin=3->u.eE[B.state]? =some fs->∀w∈gB fs,0<=as w
class zcP (P:Nat->Prop) (as:Nat->Int):Prop where
 h:∀v,stays as v=true->P v
instance (as:Nat->Int):zcP (λ_=>True) as:=⟨λ_ _=>trivial⟩
instance (as:Nat->Int):zcP (λv=>stays as v=true) as:=⟨λ_ h=>h⟩
section
variable{u:U}{P:Nat->Prop}{as:Nat->Int}[hP:zcP P as] (g:Gd u P)(f:Fit u as)
include g
theorem Ju{b:Nat}(a:u.blocks[b]? =some B):B.ee.Nodup:=X4 g.Rp a
include f
omit f g
include g f
end
def qN(n:Int):Int:=n % 18446744073709551616
def Hk(n:Int):Int:=if n<9223372036854775808 then n else n-18446744073709551616
def LU(b:Bool):Int:=if b=true then 1 else 0
def Ng(op:Nat) (a b:Int):Int:=
 if op=3 then qN (a+b) else if op=4 then qN (a-b) else if op=5 then qN (a*b)
 else if op=6 then(if Hk b=0 then 0 else if Hk b = -1 then qN (-a) else qN ((Hk a).tdiv (Hk b)))
 else if op=7 then(if Hk b=0\/Hk b = -1 then 0 else qN ((Hk a).tmod (Hk b)))
 else if op=8 then qN (-a) else if op=9 then LU (decide (a=0)) else if op=10 then LU (decide (a=b)) else if op=11 then LU (decide (a≠b))
 else if op=12 then LU (decide (Hk a<Hk b)) else if op=13 then LU (decide (Hk a<=Hk b)) else if op=14 then LU (decide (a<b)) else 0
def mI(h:List Int)(a:Int):Int:=h.getD a.toNat 0
def Eo(h:List Int)(a v:Int):List Int:=if a=0 then h else h.set a.toNat v
def ti(x:Vl) (val:Nat->Int) (h:List Int):Int:=
 if x.op=2 then qN x.n else if x.op=15 then mI h (val x.a) / 4294967296 else if x.op=16 then mI h (val x.a) % 4294967296
 else if x.op=17 then mI h (qN (val x.a+qN x.n)) else if x.op=18 then mI h (qN (qN (val x.a+1)+val x.b))
 else if x.op=8\/x.op=9 then Ng x.op (val x.a) 0 else Ng x.op (val x.a) (val x.b)
structure Rs where
 val:List Int
 heap:List Int
 steps:Nat
 polls:Nat
def Rs.of(s:Rs)(v:Nat):Int:=s.val.getD v 0
structure Fw where
 func:Int
 pc:Int
 locals:List Int
 stack:List Int
inductive Ex where
 |AE
 |left (steps:Nat) (fr:List Fw) (heap:List Int) (st:Nat) (iU:Int)
 |stuck
def zK(u:U)(s:Rs)(st:Nat)(iU:Int):Ex:= .left s.steps (((u.eE[st]?).getD []).map λf=>⟨f.func,f.pc,f.locals.map s.of,f.stack.map s.of⟩) s.heap st iU
def uQ(u:U) (fm:Int) (n:Nat) (x:Vl) (s:Rs):Ex ⊕ Rs:=
 if x.op=19 then .inr {s with heap:=Eo s.heap (qN (s.of x.a+qN x.n)) (s.of x.b),steps:=s.steps+1}
 else if x.op=20 then .inr {s with heap:=Eo s.heap (qN (qN (s.of x.a+1)+s.of x.b)) (s.of (x.args.getD 0 0)),steps:=s.steps+1}
 else if x.op=22 then(if s.of x.a=0 then .inl (zK u {s with steps:=s.steps+1} x.state n) else .inr {s with steps:=s.steps+1})
 else if x.op=23 then(if 0<=fm/\(s.polls:Int)=fm then .inl (zK u {s with steps:=s.steps+1} x.state n) else .inr {s with steps:=s.steps+1,polls:=s.polls+1})
 else .inr {s with val:=s.val.set n (ti x s.of s.heap),steps:=s.steps+1}
def p7(u:U) (fm:Int) (fuel:Nat):List Nat->Rs->Ex ⊕ Rs
 |[],s=> .inr s
 | n ::l,s=>if fuel<=s.steps then .inl .AE else match u.ee[n]? with
   |none=> .inl .stuck
   | some x=>match uQ u fm n x s with
     | .inl e=> .inl e
     | .inr s=>p7 u fm fuel l s
def gN(u:U) (v:Nat):Bool:=match u.ee[v]? with
 |some x=>iV x.op
 |none=>false
def ME(u:U) (locals:List Int) (qJ:Option Nat) (B:Bk) (val:Nat->Int) (v:Nat):Int:=match u.ee[v]? with
 | some x=>if x.op=1 then locals.getD x.n.toNat 0 else match qJ with
   | some p=>match B.fk.findIdx? (·== p)with
     |some j=>val (x.args.getD j 0)
     |none=>0
   |none=>0
 |none=>0
def DJ(val:List Int)(l:List (Nat×Int)):List Int:=l.foldl (λa p=>a.set p.1 p.2) val
def lR(u:U) (locals:List Int) (qJ:Option Nat) (B:Bk) (s:Rs):Rs:=
 let hs:=B.ee.takeWhile (gN u)
 {s with val:=DJ s.val (hs.map λv=>(v,ME u locals qJ B s.of v)),steps:=s.steps+hs.length}
def GM(B:Bk)(s:Rs):Option Nat:=if B.fin=1 then B.next[0]? else if B.fin=2 then(if s.of B.cond=0 then B.next[1]? else B.next[0]?) else none
def runM(u:U) (locals:List Int) (fm:Int) (fuel:Nat):Nat->Option Nat->Nat->Rs->Ex
 |0,_,_,_=> .stuck
 | JQ+1,qJ,b,s=>match u.blocks[b]? with
   |none=> .stuck
   | some B=>match p7 u fm fuel (B.ee.dropWhile (gN u)) (lR u locals qJ B s)with
     | .inl e=>e
     | .inr s=>if fuel<=s.steps then .AE else if B.fin=3 then zK u {s with steps:=s.steps+1} B.state (-1) else match GM B s with
       |none=> .stuck
       |some t=>runM u locals fm fuel JQ (some b) t {s with steps:=s.steps+1}
def Fj(u:U)(heap:List Int):Rs:=⟨List.replicate u.ee.length 0,heap,0,0⟩
theorem MM{l:List Int}  {x:Int} (hi:i<l.length):(l.set i x).getD j 0=if j=i then x else l.getD j 0:=by
 grind
theorem La(l:List (Nat×Int)):∀val,(DJ val l).length=val.length:=by
 induction l with
 |nil=>exact λ_=>rfl
 | cons p l a=>
   grind[DJ,wBF]
theorem Lz{f:Nat->Int} :∀(l:List Nat) val,(∀v∈l,v<val.length)->(DJ val (l.map λv=>(v,f v))).getD j 0=if j∈l then f j else val.getD j 0
 |[],_,_=>by rfl
 | v::l,val,h=>by
   show(DJ (val.set v (f v)) (l.map λv=>(v,f v))).getD j 0=_;rw[Lz l _ (by simp_all),MM (by simp_all)]
   grind
theorem Bw{u:U} {t:Nat} {B:Bk} (g:Good u) (d:u.blocks[t]? =some B):∀v∈B.ee.dropWhile (gN u),gN u v=false:=λv hv=>by
 obtain⟨i,hi⟩:=mz.1 hv;have hs:=wBa (p:=gN u) (l:=B.ee);generalize k:B.ee.takeWhile (gN u)=a at*;have nw:B.ee.dropWhile (gN u)≠[]:=λh=>by rw[h]at hv;cases hv
 have h0:=List.head_dropWhile_not (gN u) nw;have c:(B.ee.dropWhile (gN u))[0]? =some ((B.ee.dropWhile (gN u)).head nw):=by rw[List.head_eq_getElem,hZ]
 generalize B.ee.dropWhile (gN u)=b at*;have at_:∀{j w:Nat},b[j]? =some w->At u w t (a.length+j):=λ{j w} f=>⟨B,d,by rw[<-hs,Ze (by omega),wBP];exact f⟩
 cases hh:gJ u v with
 |false=>exact hh
 | true=>
   have:=g.PC (at_ hi) hh (at_ c) (by omega);have e:gN u (b.head nw)=gJ u (b.head nw):=rfl;rw[e,this]at h0;cases h0
