/- Parts. -/
import Derived.Test.YtpnddokajmjpbaaDoorM05
import Derived.Defers
import Derived.Recover
import Derived.Lib.Bytealg
import Derived.Laws.Externs
import Derived.ChangeSame
import Derived.RowKit3
namespace Go.Proofs.YtpnddokajmjpbaaDoor.Hx
structure Still (W W':World):Prop where
 os:W'.os=W.os
 tape:W'.tape=W.tape
 output:W'.output=W.output
 size:W.heap.size<=W'.heap.size
 fc:∀b,b<W.heap.size->W'.heap[b]? =W.heap[b]?
theorem FR.still{Δ a:Env}{w w':World}(h:FR Δ a w w')(c:∀b,¬RW Δ b):Still w w':=⟨h.os,h.tape,h.output,h.size,λb hb=>h.fc b hb (c b)⟩
theorem zbx (b:Nat):¬RW (λ_=> .none) b:=λ⟨_,_,a,_⟩=>nomatch a
theorem Still.after {Δ:Env} {h:Hp} {W W':World} (hs:Still W W') (a:WR Δ h W) {v:V} {x:Value} (hv:fI (λ_=> .none) v x):xE Δ h W v h Δ x W' where
 val:=hv.mono λ_ _ (h:(none:Option D)=some _)=>by cases h
 world:=⟨a.fresh,λl d c=>Ac (a.mS l d c) hs.size,λl d c=>by rw[hs.fc _ (a.mS l d c)];exact a.obj l d c,a.apart,a.Fo,a.xu,a.Rg.step (λb hb _=>hs.fc b hb) λ_ _ h _=> .inl h⟩
 frame:=⟨Env.le_refl _,hs.size,hs.os,hs.tape,hs.output,λb hb _=>hs.fc b hb,λ_ _ h=> .inl h⟩
 grow:= .refl _ _
theorem N1 {Δ a:Env} {v:V} {x:Value} (h:fI Δ v x) (c:v.flat=true):fI a v x:=by
 cases h with
 |bool b=>exact .bool b
 |int k n=>exact .int k n
 |str s=>exact .str s
 |nilPtr=>exact .nilPtr
 |ec=>exact .ec
 |j9=>exact .j9
 |nilFunc=>exact .nilFunc
 |nilIface=>exact .nilIface
 |_=>simp[V.flat]at c
theorem Lu {Δ a:Env}:∀{vs:List V} {xs:List Value},gh Δ vs xs->NP vs=true->gh a vs xs
 |[],_,.nil,_=> .nil
 | v::vs,_,.cons _ _ _ _ h hs,hf=>by
   simp only[NP,W7,tN]at hf;exact .cons _ _ _ _ (N1 h hf.1) (Lu hs hf.2)
structure vt (C:fu):Prop where
 Jz:∀args,(C.start args).ds=[]
 start:∀args i,jl (C.start args) i=(args[i]?).getD .undef
 mixed:P0.follows .mixedOrders=true
 named:∀(f:Nat) (fn:Func),P0.funcs[f]? =some fn->(fn.name == "runtime.NumGoroutine")=false
 ext:∀(f:Nat) (fn:Func),P0.funcs[f]? =some fn->fn.body=none->∀(Δ:Env) (args:List V) (v:V) (gq:Array Value) (w:World),O3 (C.ext f) args=some v->gh Δ args gq.toList->
  ∃x,(callFunc f gq).run P0 w = .ok (.value x) w/\fI Δ v x
 known:∀(f:Nat) (args:List V) (v:V) (h:Hp),C.K f args h=some v->NP args=true->v.flat=true->∀(Δ:Env) (W:World) (gq:Array Value),WR Δ h W->gh (λ_=> .none) args gq.toList->
  Calls P0 f gq W λe W'=>∃x,e = .returned x/\fI (λ_=> .none) v x/\Still W W'
section
variable{n:Nat}{call:Call}
theorem HW {jA ws:List It} (b:∀x∈ws,x∈jA):∀(l:List It) (k:Nat),(∀x∈l,x∈jA)->∀a∈order jA ws l k,a∈jA
 |[],k,_,a,ha=>(NA.1 ha).1
 | w::l,k,hl,a,ha=>by
   simp only[order,xX,CL]at ha;rcases ha with h|rfl|h
   ·exact(NA.1 h).1
   ·exact hl _ (by simp)
   ·exact HW b l (k+1) (λx hx=>hl x (by simp[hx])) a h
theorem LR (hc:uj call) (m:P0.follows .mixedOrders=true) {id:Nat} {ops:Array Oper} {Δ:Env} {h:Hp} {w:World} {t:Tm} {a:Act} (D:WR Δ h w) (G:TR Δ n t a)
  {r:Tm×Hp} (E:pW (iy ops)=true) (H:(iy ops).all (BN (iy ops))=true) (I:(iy ops).all zP=true) (p:uN (iy ops) (gK (iy ops)) (order (iy ops) (gK (iy ops)) (gK (iy ops)) 0) 0 0=true)
  (hv:(vJ n ops.toList (gK (iy ops)) (order (iy ops) (gK (iy ops)) (gK (iy ops)) 0) 0).f call t h []=some r) {Q:Exit->Act->World->Prop} (J:∀z F w',Ag Δ h w n r.1 r.2 z F w'->Q .normal F w')
  (s:∀T:Tc,sk n ops.toList (iy ops) (gK (iy ops)) call t h (order (iy ops) (gK (iy ops)) (gK (iy ops)) 0) 0 0 h [] r T T->∀(fuel:Nat) (c:Array Bool) (u:Act) (w':World) (j:Nat) (z:Env) (t':Tm) (a:It),0<=j->c.toList.count false<=fuel+1->
   Inv n ops t h Δ w T c j z t' u w'->a∈iy ops->cls a.o=2->c.getD a.i false=false->(∀x∈iy ops,a.b.testBit x.i=true->c.getD x.i false=true)->(gK (iy ops))[j]?≠some a->
   wpOp P0 ops Q a.i (wpAny P0 .any ops Q fuel (c.setIfInBounds a.i true)) u w'):(Code.region id ops true).wp P0 Q a w:=by
 have k:∀x∈order (iy ops) (gK (iy ops)) (gK (iy ops)) 0,x∈iy ops:=HW (λx hx=>(nf hx).1) _ _ (λx hx=>(nf hx).1)
 let K:Tc:=⟨λ_=>false,λ_=> .undef,λ_=> .tree .leaf [],λ_=>0,λ_=>0,λ_=>default,λ_=>h,λ_=>h⟩
 obtain ⟨T,g⟩:=trace (n:=n) (all:=ops.toList) (jA:=iy ops) (ws:=gK (iy ops)) (call:=call) (t0:=t) (h0:=h) rz E _ 0 0 t h [] r K k p hv (λa O hx=>by simp at hx)
  (λd=>(FP (λa _ _=>by simp) _).symm) (iW _) (λj L=>by omega) (Gl _)
 have v:sk n ops.toList (iy ops) (gK (iy ops)) call t h _ 0 0 h [] r T T:=
  ⟨λi hi=>by simp at hi,λj L=>by omega,g.item,g.Bu,g.more,g.chain,g.SG,g.RA,g.last,g.oA,g.done,g.kle⟩
 refine wp_region_any m (Rh (T:=T) (Δ0:=Δ) (w0:=w) (h0:=h) (t0:=t) hc E H I 0 (s T v) k v (Ab _ _ hv) J ops.size _ a _ 0 Δ t (iW _) ?_ ⟨by simp,λx hx l=>?_,Gl _,λq x hq=>?_,G,λd=>?_,(D.heap (w':={w with drawn:=w.drawn+1}) rfl).MT g.more,
  ⟨Env.le_refl _,iW _,rfl,rfl,rfl,λ_ _ _=>rfl,λ_ _ h=> .inl h⟩,λ_ h _=>h,rfl,λx hx M N _ _=>?_⟩)
 ·refine Ez List.count_le_length ?_;simp
 ·simp only[wBj,wB9]at l;split at l <;> simp at l
 ·constructor
  ·intro y;simp only[wBj,wB9]at y;split at y <;> simp at y
  ·intro y;omega
 ·refine(FP (λx _ _=>?_) _).symm;simp only[wBj,wB9];split <;> rfl
 ·have A:x∈order (iy ops) (gK (iy ops)) (gK (iy ops)) 0:=by
   rcases g.done x hx with B|B
   ·simp at B
   ·obtain⟨b,hb,C⟩:=K2.1 B;rw[tS hx (k b hb) C.symm];exact hb
  have:=g.SG x A M N
  cases hd':Δ (T.pl x.i)with
  |none=>rfl
  |some e=>have:=D.fresh _ _ hd';omega
theorem Wy (hc:uj call) (d:P0.follows .mixedOrders=true) {id:Nat} {ops:Array Oper} {Δ:Env} {h:Hp} {w:World} {t:Tm} {a:Act} (s:WR Δ h w) (u:TR Δ n t a)
  {r:Tm×Hp} (hv:(JE n ops.toList).f call t h=some r) {Q:Exit->Act->World->Prop} (k:∀z v w',Ag Δ h w n r.1 r.2 z v w'->Q .normal v w'):(Code.region id ops true).wp P0 Q a w:=by
 unfold JE at hv;split at hv
 ·rename_i b;simp only[tN,MF]at b;obtain⟨⟨⟨⟨g,i⟩,j⟩,l⟩,c⟩:=b;exact LR hc d s u g i j c hv k λT _=>Sh l
 ·split at hv
  ·rename_i pr m b;simp only[tN,ME]at b;obtain⟨⟨⟨g,i⟩,j⟩,c⟩:=b;simp only[fj,gM]at hv;obtain⟨r',hv,o,A⟩:=hv;cases A;obtain⟨x,y,da,db⟩:=pr;obtain⟨B,C,D,E,F,G,H⟩:=Oc m;obtain⟨p,I,J,K⟩:=KI B;have e:∀x∈order (iy ops) (gK (iy ops)) (gK (iy ops)) 0,x∈iy ops:=HW (λx hx=>(nf hx).1) _ _ (λx hx=>(nf hx).1);exact LR hc d s u g i j c hv k λT q=>Uz hc g i j e q ⟨I,J,K,C,D,E,F,G,H,o⟩ (Ab _ _ hv) k
  ·cases hv
def X.to:X->Exit
 | .normal=> .normal
 | .exit id=> .exit id
 | .ret=> .ret
theorem Gi {r:Option (X×Tm×Hp)} {k:Tm->Hp->Option (X×Tm×Hp)} {y:X×Tm×Hp} (h:Cz r k=some y) :
  (∃t h',r=some (.normal,t,h')/\k t h' = some y)\/(r=some y/\y.1≠ .normal):=by
 unfold Cz at h;split at h
 ·exact .inl ⟨_,_,rfl,h⟩
 ·rename_i a;subst h;refine .inr ⟨rfl,λe=>?_⟩;obtain⟨x,t,h'⟩:=y;simp only at e;subst e;exact a t h' rfl
theorem QW {next:Act->World->Prop} {Q:Exit->Act->World->Prop} {x:X} (hx:x≠ .normal) {a:Act} {w:World} (h:Q x.to a w):Exit.then next Q x.to a w:=by
 cases x with
 |normal=>exact absurd rfl hx
 |exit id=>exact h
 |ret=>exact h
theorem uz (hc:uj call) (g:P0.follows .mixedOrders=true) {m:Nat}:∀(c:Code) {Δ:Env} {h:Hp} {w:World} {t:Tm} {a:Act},WR Δ h w->TR Δ n t a->∀{r:X×Tm×Hp},
  (ic n c).f call m t h=some r->∀{Q:Exit->Act->World->Prop},(∀q o w',Ag Δ h w n r.2.1 r.2.2 q o w'->Q r.1.to o w')->c.wp P0 Q a w
 | .skip,Δ,h,w,t,a,i,j,r,hv,Q,d=>by cases hv;exact wp_skip (d _ _ _ (.start j i))
 | .seq x y,Δ,h,w,t,a,i,j,r,hv,Q,d=>by
   simp only[ic]at hv;refine wp_seq ?_;rcases Gi hv with⟨I,u,z,A⟩|⟨z,A⟩
   ·exact uz hc g x i j z λq o w' l=>uz hc g y l.world l.tmps A λD E F B=>d _ _ _ (l.trans B)
   ·exact uz hc g x i j z λq o w' l=>QW A (d _ _ _ l)
 | .cond c x y,Δ,h,w,t,a,i,j,r,hv,Q,d=>by
   simp only[ic,fj]at hv;obtain⟨v,u,s⟩:=hv;have C:=j6 i j u;split at s
   ·rename_i b
    generalize hx:a.eval c=xv at C;cases C
    cases b with
    |true=>exact wp_cond_true hx (uz hc g x i j s d)
    |false=>exact wp_cond_false hx (uz hc g y i j s d)
   ·cases s
 | .block id c,Δ,h,w,t,a,i,j,r,hv,Q,d=>by
   simp only[ic]at hv;refine wp_block ?_
   cases C:(ic n c).f call m t h with
   |none=>rw[C]at hv;cases hv
   | some r'=>
     rw[C]at hv;refine uz hc g c i j C λq o w' l=>?_;obtain⟨x,t',h'⟩:=r'
     cases x with
     |normal=>cases hv;exact d _ _ _ l
     |ret=>cases hv;exact d _ _ _ l
     | exit p=>
       simp only[Hm]at hv;show if p=id then Q .normal o w' else Q (.exit p) o w'
       cases hb:Nat.beq p id with
       | true=>
         rw[hb]at hv;have:=tU hb;rw[if_pos this];cases hv
         exact d _ _ _ l
       | false=>
         rw[hb]at hv;have:p≠id:=λe=>by subst e;rw[MV]at hb;cases hb
         rw[if_neg this];cases hv
         exact d _ _ _ l
 | .loop c,Δ,h,w,t,a,i,j,r,hv,Q,d=>by
   simp only[ic]at hv;refine Df.wp ?_
   have G:∀(k:Nat) {Δ:Env} {h:Hp} {w:World} {t:Tm} {a:Act},WR Δ h w->TR Δ n t a->DI (λt h=>(ic n c).f call m t h) k t h=some r->
       (∀q o w',Ag Δ h w n r.2.1 r.2.2 q o w'->Q r.1.to o w')->Df c Q a w:=by
     intro k
     induction k with
     |zero=>intro Δ h w t a _ _ hv _;cases hv
     | succ k J=>
       intro Δ h w t a i j hv d;have H:Cz ((ic n c).f call m t h) (DI (λt h=>(ic n c).f call m t h) k)=some r:=hv;refine Df.round ?_;rcases Gi H with⟨I,u,z,A⟩|⟨z,A⟩
       ·exact uz hc g c i j z λq o w' l=>J l.world l.tmps A λD E F B=>d _ _ _ (l.trans B)
       ·exact uz hc g c i j z λq o w' l=>QW A (d _ _ _ l)
   exact G m i j hv d
 | .exit id,Δ,h,w,t,a,i,j,r,hv,Q,d=>by cases hv;exact wp_exit (d _ _ _ (.start j i))
 | .ret,Δ,h,w,t,a,i,j,r,hv,Q,d=>by cases hv;exact wp_ret (d _ _ _ (.start j i))
 | .region id ops false,Δ,h,w,t,a,i,j,r,hv,Q,d=>by
   simp only[ic,fj]at hv;obtain⟨r',u,s⟩:=hv;cases s;refine wp_region ?_;have:=LN (Q:=Q) hc ops.toList 0 rfl i j u d;rw[List.range_eq_range']
   simpa using this
 | .region id ops true,Δ,h,w,t,a,i,j,r,hv,Q,d=>by
   simp only[ic,fj]at hv;obtain⟨r',u,s⟩:=hv;cases s
   exact Wy hc g i j u d
 | .rangeFunc ..,Δ,h,w,t,a,i,j,r,hv,Q,d=>by cases hv
 | .scope _,Δ,h,w,t,a,i,j,r,hv,Q,d=>by cases hv
 | .label _,Δ,h,w,t,a,i,j,r,hv,Q,d=>by cases hv
 | .goto _,Δ,h,w,t,a,i,j,r,hv,Q,d=>by cases hv
 | .refuse _,Δ,h,w,t,a,i,j,r,hv,Q,d=>by cases hv
noncomputable def L7 (t:Tr V)(i:Nat):V:=Option.rec (motive:=λ_=>V) V.undef (λv=>v) (t.get i)
theorem Sl (t:Tr V)(d i:Nat)(v:V):L7 (t.set d v) i=if d=i then v else L7 t i:=Js (.tree t []) d i v
theorem LK:∀(args:List V) (i:Nat) (t:Tr V) (j:Nat),L7 (OX args i t) j=if i<=j/\j<i+args.length then args[j-i]?.getD .undef else L7 t j
 |[],i,t,j=>by rw[if_neg (by simp only[VR];omega)];rfl
 | v ::vs,i,t,j=>by
   simp only[OX];rw[LK vs (i+1) (t.set i v) j];by_cases a:i+1<=j/\j<i+1+vs.length
   ·rw[if_pos a,if_pos (by simp only[CM];omega)]
    have:j-i=(j-(i+1))+1:=by omega
    rw[this,O8]
   ·rw[if_neg a,Sl]
    by_cases b:i=j
    ·subst b
     rw[if_pos rfl,if_pos (by simp only[CM];omega)];simp
    ·rw[if_neg b,if_neg (by simp only[CM];omega)]
theorem Qo (args:List V) (i:Nat):jl (Qn args) i=(args[i]?).getD .undef:=by
 have h:=LK args 0 .leaf i;rw[show jl (Qn args) i=L7 (OX args 0 .leaf) i from rfl,h];by_cases h:i<args.length
 ·rw[if_pos (by omega),Nat.sub_zero]
 ·rw[if_neg (by omega),Jp (by omega)];unfold L7;rw[Tr.nz];rfl
theorem Hi {C:fu} (b:vt C) {Δ:Env} {args:List V} {gq:Array Value} (c:gh Δ args gq.toList) {k:Nat} (f:args.length<=k) :
  TR Δ k (C.start args) {tmps:=gq++Array.replicate (k-gq.size) undef,defers:=[]}:=by
 have d:=c.length;simp only[Rp]at d;refine⟨by simp;omega,λi=>?_,by rw[b.Jz];exact .nil⟩;rw[b.start];simp only[wBj];by_cases h:i<args.length
 ·rw[wBy (by omega)];obtain⟨x,hx,e⟩:=c.get i args[i] (gQ h);have a:gq[i]? =some x:=by simpa using hx
  rw[a,gQ h];exact e
 ·rw[Jp (by omega),Array.getElem?_append_right (by omega),wB9];split <;> exact .undef Δ
def TJ (tmps:Array Value):ResultVar->Sem Value
 | .tmp t=>pure (tmps.getD t undef)
 | .cell b ty=>do loadVar ty (<-asAddr (tmps.getD b undef))
theorem Qw {Δ:Env} {h:Hp} {w:World} {t:Tm} {a:Act} (j:WR Δ h w) (g:TR Δ n t a):∀{l:List ResultVar} {vs:List V},yL t h l=some vs->
  ∃xs,(l.mapM (TJ a.tmps)).run P0 w = .ok xs w/\gh Δ vs xs
 |[],vs,hv=>by simp[yL]at hv;subst hv;exact⟨[],by simp,.nil⟩
 | .tmp i::l,vs,hv=>by
   simp only[yL,fj]at hv;obtain⟨v,d,k,m,o⟩:=hv;cases o;obtain⟨xs,q,r⟩:=Qw j g m;simp only[Ta]at d;cases d;have s:(TJ a.tmps (.tmp i)).run P0 w = .ok (a.tmps.getD i undef) w:=rfl
   exact⟨a.tmps.getD i undef::xs,by simp only[List.mapM_cons,pB,DW,oD,s,q],.cons _ _ _ _ (g.rel i) r⟩
 | .cell b ty::l,vs,hv=>by
   simp only[yL,fj]at hv;obtain⟨v,d,k,m,o⟩:=hv;cases o;obtain⟨xs,q,r⟩:=Qw j g m;simp only[Ta]at d;obtain⟨x,c,y⟩:=KD (xv:=a.tmps.getD b undef) j (λv hv=>by cases hv;exact g.rel b) d;have e:∃ad,a.tmps.getD b undef = .pointer (some ad):=by
     cases hx:a.tmps.getD b undef with
     | pointer p=>cases p with
       |some ad=>exact⟨ad,rfl⟩
       |none=>rw[hx]at c;simp[Instr.loadAt,Instr.sureAddr]at c
     |_=>rw[hx]at c;simp[Instr.loadAt,Instr.sureAddr]at c
   obtain⟨ad,f⟩:=e;rw[f]at c;have u:(loadVar ty ad).run P0 w = .ok x w:=by simpa[Instr.loadAt,Instr.sureAddr]using c
   have s:(TJ a.tmps (.cell b ty)).run P0 w = .ok x w:=by simp only[TJ,f,asAddr,pB,DW,oD,u]
   exact⟨x::xs,by simp only[List.mapM_cons,pB,DW,oD,s,q],.cons _ _ _ _ y r⟩
theorem Kr {Δ:Env} {h:Hp} {w:World} {t:Tm} {a:Act} (d:WR Δ h w) (e:TR Δ n t a) {fn:Func} {vs:List V} (hv:yL t h fn.results.toList=some vs) :
  ∃x,(results fn a.tmps).run P0 w = .ok x w/\fI Δ (xS vs) x:=by
 obtain ⟨xs,f,g⟩:=Qw d e hv;have i:(results fn a.tmps).run P0 w = .ok (if h:xs.toArray.size=1 then xs.toArray[0] else .tuple xs.toArray) w:=by
  have h0:results fn a.tmps=(do let vs <-fn.results.mapM (TJ a.tmps);pure (if h:vs.size=1 then vs[0] else .tuple vs)):=by
   unfold results;congr 1
  rw[h0,Array.mapM_eq_mapM_toList];simp only[pB,map_eq_pure_bind,f,oD,DW]
 refine⟨_,i,?_⟩
 cases g with
 |nil=>exact .tuple _ #[] .nil
 | cons v x vs xs b hs=>
   cases hs with
   |nil=>exact b
   | cons j k vs xs c hs=>
     rw[dif_neg (by simp)];exact .tuple _ _ (.cons _ _ _ _ b (.cons _ _ _ _ c hs))
theorem Rm {Δ m:Env} {h:Hp} {w w':World} {n:Nat} {fn:Func} {r:X×Tm×Hp} {b:Act} {v:V} {h':Hp} (d:Ag Δ h w n r.2.1 r.2.2 m b w') (hv:TH fn r=some (v,h')) :
  (r.1 = .normal\/r.1 = .ret)/\b.defers=[]/\∃y,(results fn b.tmps).run P0 w' = .ok y w'/\∃c z,Ending.returned y = .returned z/\xE Δ h w v h' c z w':=by
 obtain⟨x,t',f⟩:=r
 have a:(match t'.ds with
   |[]=>oB (yL t' f fn.results.toList) λvs=>some (xS vs,f)
   |_::_=>none)=some (v,h')->b.defers=[]/\∃y,(results fn b.tmps).run P0 w' = .ok y w'/\
   ∃c z,Ending.returned y = .returned z/\xE Δ h w v h' c z w':=by
  intro e;split at e
  ·rename_i i;simp only[fj]at e;obtain⟨vs,j,e⟩:=e;cases e;obtain⟨y,o,k⟩:=Kr d.world d.tmps j;have g:=d.tmps.ds;simp only at g;rw[i]at g
   have l:b.defers=[]:=by cases hx:b.defers with
    |nil=>rfl
    |cons _ _=>rw[hx]at g;cases g
   exact⟨l,y,o,m,y,rfl,k,d.world,d.frame,d.grow⟩
  ·cases e
 cases x with
 |exit id=>cases hv
 |normal=>exact⟨.inl rfl,a hv⟩
 |ret=>exact⟨.inr rfl,a hv⟩
theorem Og {o:Oper} {c:Go.Call} (a:o.op = .call c) (hc:c.callee = .builtin .recover) (ρ:Operand->Value) (w:World):(execOp ρ o).run P0 w = .ok .recover w:=by
 unfold execOp;rw[a];simp only[pB,resolve,hc,DW,oD];rfl
theorem SJ {c a:Code} {d:Nat} (h:Q9 c=some (d,a)):∃id o cl,c = .seq (.region id #[o] false) a/\o.op = .call cl/\cl.callee = .builtin .recover/\o.guard=none/\o.dst=some d:=by
 unfold Q9 at h;split at h
 ·rename_i id ops e;split at h
  ·rename_i o j;split at h
   ·rename_i cl f;split at h
    ·rename_i k g i b;cases h;refine⟨id,o,cl,?_,f,g,i,b⟩;congr 2;apply Array.ext';exact j
    ·cases h
   ·cases h
  ·cases h
 ·cases h
theorem U2 {C:fu} (n:vt C) (hc:uj call) {m f:Nat} {args:List V} {v:V} {h h':Hp} {Δ:Env} {w:World} {gq:Array Value} (hv:(Hn C f).f call m args h=some (v,h'))
  (M:WR Δ h w) (N:gh Δ args gq.toList):(callFunc f gq).run P0 w = .ok (.enter f gq) w/\
   CallsD P0 f gq .returning w λe u' w'=>u' = .returning/\∃z x,e = .returned x/\xE Δ h w v h' z x w':=by
 unfold Hn at hv;split at hv
 ·rename_i fn u;split at hv
  ·rename_i c hb;refine⟨?_,?_⟩
   ·have O:=n.named f fn u;simp only[callFunc,pB,run_program,oD,u,O,hb,wCI,Li,if_false];rfl
   split at hv
   ·rename_i d b p;simp only[gM,fj]at hv;obtain⟨g,P,r,A,B⟩:=hv;have a:args.length<=fn.ntmps:=G9 g;obtain⟨id,o,cl,rfl,D,E,F,q⟩:=SJ p;refine callsD_of_wpS u hb λG cs s=>?_;have H:=Hi n N a;have I:wX fn.ntmps o=some ⟨λt v=>t.set d v⟩:=by unfold wX;rw[q];simp only[P]
    have Q:TR Δ fn.ntmps ((C.start args).set d .nilIface) (({tmps:=gq++Array.replicate (fn.ntmps-gq.size) undef,defers:=[]}:Act).put o.dst .nilIface):=Hq H I .nilIface;refine wpS_seq (wpS_region ?_);have JR:List.range (#[o]:Array Oper).size=[0]:=rfl;rw[JR];simp only[wpOpsS];have h0:(#[o]:Array Oper)[0]? =some o:=rfl;simp only[h0];have i:∀y,Region.wanted o y=true:=λy=>by unfold Region.wanted;rw[F]
    rw[if_pos (i _),Og D E];have j:recoverD (G::cs)=none:=by simp only[recoverD,s]
    simp only[j];show b.wpS P0 _ _ _ _;refine wpS_of_wp ?_;refine uz hc n.mixed b M Q A λz R w' J=>?_;obtain⟨hx,k,y,K,L⟩:=Rm J B;have l:({G with mode:= .returning}:Frame)=G:=by rw[<-s]
    rcases hx with hx|hx <;> rw[hx] <;> exact⟨k,.returning,by rw[l],y,K,rfl,L⟩
   ·simp only[gM,fj]at hv;obtain⟨g,r,A,B⟩:=hv;have a:args.length<=fn.ntmps:=G9 g;refine callsD_of_wp u hb ?_;refine uz hc n.mixed c M (Hi n N a) A λz R w' J=>?_;obtain⟨hx,k,y,K,L⟩:=Rm J B;rcases hx with hx|hx <;> rw[hx] <;> exact⟨k,y,K,L⟩
  ·cases hv
 ·cases hv
theorem Rs {C:fu} (j:vt C) (hc:uj call) {m:Nat} {fn:Func} {tmps:Array Value} {R:Ending->World->Prop}:∀(l:List (Nat×List V)) {c:List Deferred} {Δ:Env} {h h':Hp} {w:World},
  Lb C call m l h=some h'->WR Δ h w->Gv Δ l c->
  (∀a w',WR a h' w'->FR Δ a w w'->Gr h Δ h' a->∃v,(results fn tmps).run P0 w' = .ok v w'/\R (.returned v) w')->Leaves P0 fn tmps R c .returning w
 | [],_,Δ,h,h',w,hv,hW,.nil,hR=>by
   cases hv
   exact hR Δ w hW (.refl _ _) (.refl _ _)
 | (g,args)::l,_,Δ,h,h',w,hv,hW,.cons _ _ cap gq _ c ha hl,hR=>by
   simp only[Lb,fj]at hv;obtain⟨⟨v,u⟩,k,n⟩:=hv;obtain⟨o,p⟩:=U2 j hc k hW ha;refine leaves_cons (by intro e;cases e) (f:=g) (args:=gq++cap) o ?_;refine CallsD.mono p λe u' w' q=>?_;obtain⟨rfl,a,x,rfl,b⟩:=q;exact Rs j hc l n b.world (hl.mono b.frame.le) λd i r s t=>hR d i r (b.frame.trans s) (b.grow.trans t)
theorem Wc {C:fu} (g:vt C) (hc:uj call) {m:Nat}:uj λf args h=>(zX C f).f call m args h:=by
 intro f args v h h' Δ w gq hv n p;simp only at hv;unfold zX at hv;split at hv
 ·rename_i fn o;split at hv
  ·rename_i c hb;right;have a:(callFunc f gq).run P0 w = .ok (.enter f gq) w:=by
    have J:=g.named f fn o;simp only[callFunc,pB,run_program,oD,o,J,hb,wCI,Li,if_false];rfl
   refine⟨a,?_⟩;simp only[WO]at hv
   cases hk:C.K f args h with
   | some u=>
     rw[hk]at hv;simp only[gM,tN]at hv;obtain⟨⟨j,q⟩,hv⟩:=hv;cases hv;refine Calls.mono (g.known f args _ _ hk j q Δ w gq n (Lu p j)) λe w' s=>?_;obtain⟨x,rfl,hx,hs⟩:=s
     exact⟨Δ,x,rfl,hs.after n hx⟩
   | none=>
     rw[hk]at hv;simp only[gM,fj]at hv;obtain⟨t,r,z,d⟩:=hv;have k:args.length<=fn.ntmps:=G9 t;refine calls_of_wp_defers o hb ?_;refine uz hc g.mixed c n (Hi g p k) z λF G w' l=>?_;obtain⟨x,t',A⟩:=r
     have b:(∃i,Lb C call m t'.ds A=some i/\∃vs,yL t' i fn.results.toList=some vs/\some (xS vs,i)=some (v,h'))->
         Leaves P0 fn G.tmps (λe w'=>∃F x,e = .returned x/\xE Δ h w v h' F x w') G.defers .returning w':=by
       rintro⟨i,L,vs,B,s⟩;cases s;refine Rs g hc _ L l.world l.tmps.ds λD M H I N=>?_;obtain⟨y,O,E⟩:=Kr H (l.tmps.mono I.le) B;exact⟨y,O,D,y,rfl,E,H,l.frame.trans I,l.grow.trans N⟩
     cases x with
     |exit id=>cases d
     |normal=>simp only[fj]at d;exact b d
     |ret=>simp only[fj]at d;exact b d
  ·rename_i hb;left;simp only[fj]at hv;obtain⟨u,z,d⟩:=hv;cases d;obtain⟨x,i,P⟩:=g.ext f fn o hb Δ args _ gq w z p;exact⟨x,i,P,n,.refl _ _,.refl _ _⟩
 ·cases hv
theorem Gd {C:fu} (a:vt C) (m:Nat):∀d,uj (jB C m d)
 |0=>λf args v h h' Δ w gq hv=>(nomatch hv)
 |d+1=>Wc a (Gd a m d)
end
theorem LY (c:Nat) (hc:c<256):∀(l:List UInt8) (n:Nat),HV c l n=n+l.count (UInt8.ofNat c)
 |[],n=>by simp[HV]
 | b ::l,n=>by
   simp only[HV];rw[LY c hc l,List.count_cons];have hb:Nat.beq b.toNat c=(b == UInt8.ofNat c):=by
     rw[U6];simp only[CN];constructor
     ·intro h
      have h':b.toNat=c:=tU h;rw[<-h'];simp
     ·intro h
      rw[h];have:(UInt8.ofNat c).toNat=c:=by simp;omega
      rw[this];exact MV c
   rw[hb];cases b == UInt8.ofNat c
   ·simp
   ·simp;omega
theorem Ls (c:Nat) (hc:c<256):∀(l:List UInt8) (n:Nat),(match JZ c l n with|some i=>(i:Int)|none=>-1)=if Lib.indexByte l (UInt8.ofNat c) = -1 then -1 else Lib.indexByte l (UInt8.ofNat c)+n
 |[],n=>by simp[JZ,Lib.indexByte]
 | b ::l,n=>by
   simp only[JZ];have hb:Nat.beq b.toNat c=(b == UInt8.ofNat c):=by
     rw[U6];simp only[CN];constructor
     ·intro h
      have h':b.toNat=c:=tU h;rw[<-h'];simp
     ·intro h
      rw[h];have:(UInt8.ofNat c).toNat=c:=by simp;omega
      rw[this];exact MV c
   rw[hb];unfold Lib.indexByte
   cases hbc:b == UInt8.ofNat c with
   |true=>simp
   | false=>
     have d:=Ls c hc l (n+1);have e:=Lib.indexByte_ge l (UInt8.ofNat c);simp only[Li,if_false];rw[d];by_cases a:Lib.indexByte l (UInt8.ofNat c) = -1
     ·simp[a]
     ·have f:(Lib.indexByte l (UInt8.ofNat c) == -1)=false:=by simpa using a
      simp only[a,f,if_false,Li];rw[if_neg (by omega)];omega
theorem Su {f:Nat} {fn:Func} (d:P0.funcs[f]? =some fn) (a:(fn.name == "runtime.NumGoroutine")=false) (hb:fn.body.isNone=true) (g:Extern.findNext fn=none) (i:Extern.find fn=some Extern.BytealgCount.count)
  {Δ:Env} {args:List V} {v:V} {gq:Array Value} {w:World} (hv:O3 .countByte args=some v) (j:gh Δ args gq.toList):∃x,(callFunc f gq).run P0 w = .ok (.value x) w/\fI Δ v x:=by
 unfold O3 at hv;split at hv
 ·rename_i s c _;rw[gM]at hv;obtain⟨hc,hv⟩:=hv;have b:c<256:=by rw[LS]at hc;exact hc
  cases hv;obtain⟨l⟩:=gq
  cases j with
  | cons _ x _ xs hx hs=>
    cases hs with
    | cons _ y _ ys k hs=>
      cases hs;cases k;generalize hsl:s=sl at hx
      cases hx with
      | str sb=>
        have m:=Lib.run_countString (P:=P0) sb (Int.ofNat c) w;refine⟨.int .i64 (Lib.countByte sb.data.toList (Int.ofNat c).toNat.toUInt8),?_,?_⟩
        ·rw[run_callFunc_extern d a hb g i]
         show((Extern.BytealgCount.count #[.string sb,.int .u8 (Int.ofNat c)]).run P0 w).andThen _=_;rw[m];rfl
        have e:HV c sb.data.toList 0=Lib.countByte sb.data.toList (Int.ofNat c).toNat.toUInt8:=by
          rw[LY c b,vI];rfl
        rw[e];exact .int _ _
 ·exact absurd ‹Ext.countByte=Ext.indexByte› (by intro h;cases h)
 ·cases hv
theorem SD {f:Nat} {fn:Func} (d:P0.funcs[f]? =some fn) (a:(fn.name == "runtime.NumGoroutine")=false) (hb:fn.body.isNone=true) (g:Extern.findNext fn=none) (j:Extern.find fn=some Extern.BytealgIndexByte.indexByte)
  {Δ:Env} {args:List V} {v:V} {gq:Array Value} {w:World} (hv:O3 .indexByte args=some v) (k:gh Δ args gq.toList):∃x,(callFunc f gq).run P0 w = .ok (.value x) w/\fI Δ v x:=by
 unfold O3 at hv;split at hv
 ·exact absurd ‹Ext.indexByte=Ext.countByte› (by intro h;cases h)
 ·rename_i s c _;rw[gM]at hv;obtain⟨hc,hv⟩:=hv;have b:c<256:=by rw[LS]at hc;exact hc
  obtain⟨l⟩:=gq
  cases k with
  | cons _ x _ xs hx hs=>
    cases hs with
    | cons _ y _ ys m hs=>
      cases hs;cases m;generalize hsl:s=sl at hx
      cases hx with
      | str sb=>
        have n:=Lib.run_indexByteString (P:=P0) sb (Int.ofNat c) w;refine⟨.int .i64 (Lib.indexByte sb.data.toList (Int.ofNat c).toNat.toUInt8),?_,?_⟩
        ·rw[run_callFunc_extern d a hb g j]
         show((Extern.BytealgIndexByte.indexByte #[.string sb,.int .u8 (Int.ofNat c)]).run P0 w).andThen _=_;rw[n];rfl
        have e:=Ls c b sb.data.toList 0;have o:(if Lib.indexByte sb.data.toList (UInt8.ofNat c) = -1 then -1 else Lib.indexByte sb.data.toList (UInt8.ofNat c)+((0:Nat):Int))=Lib.indexByte sb.data.toList (Int.ofNat c).toNat.toUInt8:=by
          show _=Lib.indexByte sb.data.toList (UInt8.ofNat c);split
          ·rename_i h;exact h.symm
          ·simp
        rw[o]at e;rw[<-e];rw[hsl]at hv;split at hv
        ·rename_i i hi;cases hv;rw[hi];exact .int _ _
        ·rename_i hi;cases hv;rw[hi];exact .int _ _
 ·cases hv
def Kept (W W':World):Prop:=W'.os=W.os/\W'.output=W.output/\W.heap.size<=W'.heap.size/\∀b,b<W.heap.size->W'.heap[b]? =W.heap[b]?
theorem Kept.Cg {W W':World} (h:Kept W W') (a:MemPlace->Prop):W.keptBut W' a:=by
 refine⟨h.1,h.2.1,λi hi=>?_⟩;rw[h.2.2.2 i hi]
 cases W.heap[i]? with
 |none=>rfl
 |some o=>cases o <;> first|rfl|exact⟨rfl,rfl,rfl,λ_ _=>rfl⟩|exact .inr ⟨rfl,rfl⟩
theorem FR.kept{Δ a:Env}{w w':World}(h:FR Δ a w w')(c:∀b,¬RW Δ b):Kept w w':=⟨h.os,h.output,h.size,λb hb=>h.fc b hb (c b)⟩
def isTrue:Option (V×Hp)->Bool
 |some (.bool true,_)=>true
 |_=>false
theorem AQ.none{Δ:Env}{w:World}(h:AQ Δ w):AQ (λ_=>none) w:=λg c a=>⟨(h g c a).1,λ_ _ e=>nomatch e⟩
theorem WR.start (n:Nat) (a:P0.globals.size<=n) (w:World) (ht:AQ (λ_=>none) w):WR (λ_=>none) {next:=n,tr:= .leaf} w:=
 ⟨λ_ _ h=>(nomatch h),λ_ _ h=>(nomatch h),λ_ _ h=>(nomatch h),λ_ _ _ _ _ _ h=>(nomatch h),λg o _ h=>(by rw[Hp.get_eq]at h;simp only[Tr.nz]at h;split at h <;> cases h),a,ht⟩
theorem known {C:fu} (j:vt C) {m d n f:Nat} (q:P0.globals.size<=n) (hb:∃fn c,P0.funcs[f]? =some fn/\fn.body=some c) (hv:isTrue (jB C m d f [] {next:=n,tr:= .leaf})=true) (W:World) (ht:AQ (λ_=>none) W) :
  Calls P0 f #[] W λe W'=>e = .returned (.bool true)/\Kept W W':=by
 cases hr:jB C m d f [] {next:=n,tr:= .leaf} with
 |none=>rw[hr]at hv;cases hv
 | some r=>
   obtain ⟨v,h'⟩:=r;rw[hr]at hv;have a:v = .bool true:=by
     unfold isTrue at hv;split at hv
     ·rename_i g;cases g;rfl
     ·cases hv
   subst a;rcases Gd j m d f [] _ _ _ (λ_=>none) W #[] hr (WR.start n q W ht) .nil with⟨x,k,_⟩|⟨_,s⟩
   ·exfalso
    obtain ⟨fn,c,o,h⟩:=hb;have i:=j.named f fn o;have:(callFunc f #[]).run P0 W = .ok (.enter f #[]) W:=by
      simp only[callFunc,pB,run_program,oD,o,i,h,wCI,Li,if_false];rfl
    rw[this]at k;cases k
   ·refine Calls.mono s λe w' g=>?_
    obtain⟨u,x,rfl,p⟩:=g;have hx:=p.val;cases hx;exact⟨rfl,p.frame.kept λb hb=>(by obtain⟨l,d,t,_⟩:=hb;cases t)⟩
open Go.ChangeShapes Go.WideShapes in
theorem Sd {H:Type} {enc:TypeId×Value->H} {P:Program} {f:Func} {s:ChangeSpec} {apart fresh handsOn again:Bool} {W W':World} {args:Array Value} {v:Value} {ds gs:List (DataW H)}
  {before pa pv:List MemPlace} (hW:DataW.Whole enc P f.params.toList s.vars apart W args.toList ds gs before)
  (Z4:∀(b:Nat) (sp:Nat->Bool) (hd:Bool),DataW.TrodAll enc P W' b sp hd f.resultTypes.toList (v.resultList f.resultTypes.size) (s.fn H (ds++gs)).results [])
  (Ya:∀sp:Nat->Bool,(∀p∈before,sp p.block=true)->DataW.TrodAll enc P W' 0 sp true f.params.toList args.toList (s.fn H (ds++gs)).args pa)
  (XX:∀sp:Nat->Bool,(∀p∈before,sp p.block=true)->DataW.TrodVars enc P W' sp s.vars (s.fn H (ds++gs)).vars pv)
  (hps:before=pa++pv) (hk:Kept W W')
  (hok:∀(j:Nat) (t:TypeId) (r:Value),f.resultTypes[j]? =some t->(v.resultList f.resultTypes.size)[j]? =some r->Value.okWide P W' .any 0 t r) :
  s.post enc P f apart fresh handsOn again W args v W':=by
 have IH:∀p∈before,p.block<W.heap.size:=λp hp=>hW.lt p hp;have hold:∀p∈before,(λb=>decide (b<W.heap.size)) p.block=true:=λp hp=>by simpa using IH p hp
 refine⟨ds,gs,before,[],pa,pv,hW,Z4 _ _ _,Ya _ hold,XX _ hold,hk.Cg _,λ_=>?_⟩;obtain⟨_,_,_,_,_,hz,hn⟩:=hW;refine⟨hok,_,_,([]++pa)++pv,⟨[]++pa,pv,trodAll_append (Ya _ (λ_ _=>rfl)) (Z4 _ _ _),XX _ (λ_ _=>rfl),rfl,?_,?_⟩,?_⟩
 ·intro b off hp;have hp':MemPlace.cell b off∈before:=by rw[hps];simpa using hp
  have hz':=hz b off hp';have hb:=IH _ hp';have he:W'.frozen? ⟨b,off,none⟩=W.frozen? ⟨b,off,none⟩:=by
   unfold World.frozen?;have:=hk.2.2.2 b hb;simp only at this⊢;rw[this]
  rw[he];exact hz'
 ·intro ha;have:=hn ha;rw[hps]at this;simpa using this
 ·intro p hp _;rw[hps];simpa using hp
