/- Parts. -/
import Derived.Test.YtpnddokajmjpbaaDoorM05
import Derived.Defers
import Derived.Recover
import Derived.Lib.Bytealg
import Derived.Laws.Externs
import Derived.ChangeSame
import Derived.RowKit3
namespace Go.Proofs.YtpnddokajmjpbaaDoor.Hx
structure Still (W W':World):Prop where
 os:W'.os=W.os
 tape:W'.tape=W.tape
 output:W'.output=W.output
 size:W.heap.size<=W'.heap.size
 keep:∀b,b<W.heap.size->W'.heap[b]? =W.heap[b]?
theorem FR.still{Δ a:Env}{w w':World}(h:FR Δ a w w')(c:∀b,¬RW Δ b):Still w w':=⟨h.os,h.tape,h.output,h.size,λb d=>h.keep b d (c b)⟩
theorem noRW (b:Nat):¬RW (λ_=> .none) b:=λ⟨_,_,a,_⟩=>nomatch a
theorem Still.after {Δ:Env} {h:Hp} {W W':World} (hs:Still W W') (a:WR Δ h W) {v:V} {x:Value} (f:VRel (λ_=> .none) v x):After Δ h W v h Δ x W' where
 val:=f.mono λ_ _ (h:(none:Option D)=some _)=>by cases h
 world:=⟨a.fresh,λl d c=>wAO (a.blk l d c) hs.size,λl d c=>by rw[hs.keep _ (a.blk l d c)];exact a.obj l d c,a.apart,a.glob,a.gnext,a.tab.step (λb e _=>hs.keep b e) λ_ _ h _=> .inl h⟩
 frame:=⟨Env.le_refl _,hs.size,hs.os,hs.tape,hs.output,λb e _=>hs.keep b e,λ_ _ h=> .inl h⟩
 grow:= .refl _ _
theorem Ej {Δ a:Env} {v:V} {x:Value} (h:VRel Δ v x) (c:v.flat=true):VRel a v x:=by
 cases h with
 |bool b=>exact .bool b
 |int k n=>exact .int k n
 |str s=>exact .str s
 |nilPtr=>exact .nilPtr
 |nilSlice=>exact .nilSlice
 |nilMap=>exact .nilMap
 |nilFunc=>exact .nilFunc
 |nilIface=>exact .nilIface
 |_=>simp[V.flat]at c
theorem Ct {Δ a:Env}:∀{vs:List V} {xs:List Value},VsRel Δ vs xs->flats vs=true->VsRel a vs xs
 |[],_,.nil,_=> .nil
 | v::vs,_,.cons _ _ _ _ h hs,hf=>by
   simp only[flats,wCD,wAJ]at hf;exact .cons _ _ _ _ (Ej h hf.1) (Ct hs hf.2)
structure Facts (C:Cfg):Prop where
 startD:∀args,(C.start args).ds=[]
 start:∀args i,tget (C.start args) i=(args[i]?).getD .undef
 mixed:P0.follows .mixedOrders=true
 named:∀(f:Nat) (fn:Func),P0.funcs[f]? =some fn->(fn.name == "runtime.NumGoroutine")=false
 ext:∀(f:Nat) (fn:Func),P0.funcs[f]? =some fn->fn.body=none->∀(Δ:Env) (args:List V) (v:V) (args':Array Value) (w:World),extF (C.ext f) args=some v->VsRel Δ args args'.toList->
  ∃x,(callFunc f args').run P0 w = .ok (.value x) w/\VRel Δ v x
 known:∀(f:Nat) (args:List V) (v:V) (h:Hp),C.K f args h=some v->flats args=true->v.flat=true->∀(Δ:Env) (W:World) (args':Array Value),WR Δ h W->VsRel (λ_=> .none) args args'.toList->
  Calls P0 f args' W λe W'=>∃x,e = .returned x/\VRel (λ_=> .none) v x/\Still W W'
section
variable{n:Nat}{call:Call}
theorem zQ {its ws:List It} (b:∀x∈ws,x∈its):∀(l:List It) (k:Nat),(∀x∈l,x∈its)->∀a∈order its ws l k,a∈its
 |[],k,_,a,ha=>(wA7.1 ha).1
 | w::l,k,hl,a,ha=>by
   simp only[order,wAV,wAr]at ha;rcases ha with h|rfl|h
   ·exact(wA7.1 h).1
   ·exact hl _ (by simp)
   ·exact zQ b l (k+1) (λx c=>hl x (by simp[c])) a h
theorem Cy (hc:CallOk call) (p:P0.follows .mixedOrders=true) {id:Nat} {ops:Array Oper} {Δ:Env} {h:Hp} {w:World} {t:Tm} {a:Act} (E:WR Δ h w) (J:TR Δ n t a)
  {r:Tm×Hp} (F:pairsOk (Its ops)=true) (K:(Its ops).all (guardOk (Its ops))=true) (L:(Its ops).all edgesOk=true) (s:orderOk (Its ops) (wsOf (Its ops)) (order (Its ops) (wsOf (Its ops)) (wsOf (Its ops)) 0) 0 0=true)
  (G:(seqC n ops.toList (wsOf (Its ops)) (order (Its ops) (wsOf (Its ops)) (wsOf (Its ops)) 0) 0).f call t h []=some r) {Q:Exit->Act->World->Prop} (M:∀A H w',Goes Δ h w n r.1 r.2 A H w'->Q .normal H w')
  (u:∀T:Tc,TraceOk n ops.toList (Its ops) (wsOf (Its ops)) call t h (order (Its ops) (wsOf (Its ops)) (wsOf (Its ops)) 0) 0 0 h [] r T T->∀(fuel:Nat) (c:Array Bool) (v:Act) (w':World) (j:Nat) (A:Env) (t':Tm) (a:It),0<=j->c.toList.count false<=fuel+1->
   Inv n ops t h Δ w T c j A t' v w'->a∈Its ops->cls a.o=2->c.getD a.i false=false->(∀x∈Its ops,a.b.testBit x.i=true->c.getD x.i false=true)->(wsOf (Its ops))[j]?≠some a->
   wpOp P0 ops Q a.i (wpAny P0 .any ops Q fuel (c.setIfInBounds a.i true)) v w'):(Code.region id ops true).wp P0 Q a w:=by
 have k:∀x∈order (Its ops) (wsOf (Its ops)) (wsOf (Its ops)) 0,x∈Its ops:=zQ (λx l=>(jx l).1) _ _ (λx l=>(jx l).1)
 let N:Tc:=⟨λ_=>false,λ_=> .undef,λ_=> .tree .leaf [],λ_=>0,λ_=>0,λ_=>default,λ_=>h,λ_=>h⟩
 obtain ⟨T,g⟩:=trace (n:=n) (all:=ops.toList) (its:=Its ops) (ws:=wsOf (Its ops)) (call:=call) (t0:=t) (h0:=h) mJ F _ 0 0 t h [] r N k s G (λa S l=>by simp at l)
  (λd=>(yz (λa _ _=>by simp) _).symm) (wAF _) (λj O=>by omega) (wA5 _)
 have y:TraceOk n ops.toList (Its ops) (wsOf (Its ops)) call t h _ 0 0 h [] r T T:=
  ⟨λi hi=>by simp at hi,λj O=>by omega,g.item,g.recs,g.more,g.chain,g.plow,g.pdist,g.last,g.temps,g.done,g.kle⟩
 refine wp_region_any p (Fl (T:=T) (Δ0:=Δ) (w0:=w) (h0:=h) (t0:=t) hc F K L 0 (u T y) k y (tO _ _ G) M ops.size _ a _ 0 Δ t (wAF _) ?_ ⟨by simp,λx l m=>?_,wA5 _,λq x hq=>?_,J,λd=>?_,(E.heap (w':={w with drawn:=w.drawn+1}) rfl).onward g.more,
  ⟨Env.le_refl _,wAF _,rfl,rfl,rfl,λ_ _ _=>rfl,λ_ _ h=> .inl h⟩,λ_ h _=>h,rfl,λx l P R _ _=>?_⟩)
 ·refine wAq List.count_le_length ?_;simp
 ·simp only[wBf,wB8]at m;split at m <;> simp at m
 ·constructor
  ·intro z;simp only[wBf,wB8]at z;split at z <;> simp at z
  ·intro z;omega
 ·refine(yz (λx _ _=>?_) _).symm;simp only[wBf,wB8];split <;> rfl
 ·have B:x∈order (Its ops) (wsOf (Its ops)) (wsOf (Its ops)) 0:=by
   rcases g.done x l with C|C
   ·simp at C
   ·obtain⟨b,I,D⟩:=wBH.1 C;rw[pz l (k b I) D.symm];exact I
  have:=g.plow x B P R
  cases hd':Δ (T.pl x.i)with
  |none=>rfl
  |some e=>have:=E.fresh _ _ hd';omega
theorem IR (hc:CallOk call) (e:P0.follows .mixedOrders=true) {id:Nat} {ops:Array Oper} {Δ:Env} {h:Hp} {w:World} {t:Tm} {a:Act} (v:WR Δ h w) (z:TR Δ n t a)
  {r:Tm×Hp} (d:(drawC n ops.toList).f call t h=some r) {Q:Exit->Act->World->Prop} (l:∀B A w',Goes Δ h w n r.1 r.2 B A w'->Q .normal A w'):(Code.region id ops true).wp P0 Q a w:=by
 unfold drawC at d;split at d
 ·rename_i b;simp only[wAJ,drawOk]at b;obtain⟨⟨⟨⟨i,j⟩,k⟩,m⟩,c⟩:=b;exact Cy hc e v z i j k c d l λT _=>Gl m
 ·split at d
  ·rename_i pr o b;simp only[wAJ,drawOk2]at b;obtain⟨⟨⟨i,j⟩,k⟩,c⟩:=b;simp only[ei,fm]at d;obtain⟨r',d,q,C⟩:=d;cases C;obtain⟨x,y,da,db⟩:=pr;obtain⟨D,E,F,G,H,I,J⟩:=Eb o;obtain⟨p,K,L,M⟩:=Br D;have g:∀x∈order (Its ops) (wsOf (Its ops)) (wsOf (Its ops)) 0,x∈Its ops:=zQ (λx s=>(jx s).1) _ _ (λx s=>(jx s).1);exact Cy hc e v z i j k c d l λT u=>HO hc i j k g u ⟨K,L,M,E,F,G,H,I,J,q⟩ (tO _ _ d) l
  ·cases d
def X.to:X->Exit
 | .normal=> .normal
 | .exit id=> .exit id
 | .ret=> .ret
theorem zu {r:Option (X×Tm×Hp)} {k:Tm->Hp->Option (X×Tm×Hp)} {y:X×Tm×Hp} (h:seqK r k=some y) :
  (∃t h',r=some (.normal,t,h')/\k t h' = some y)\/(r=some y/\y.1≠ .normal):=by
 unfold seqK at h;split at h
 ·exact .inl ⟨_,_,rfl,h⟩
 ·rename_i a;subst h;refine .inr ⟨rfl,λe=>?_⟩;obtain⟨x,t,h'⟩:=y;simp only at e;subst e;exact a t h' rfl
theorem Ft {next:Act->World->Prop} {Q:Exit->Act->World->Prop} {x:X} (b:x≠ .normal) {a:Act} {w:World} (h:Q x.to a w):Exit.then next Q x.to a w:=by
 cases x with
 |normal=>exact absurd rfl b
 |exit id=>exact h
 |ret=>exact h
theorem pq (hc:CallOk call) (i:P0.follows .mixedOrders=true) {m:Nat}:∀(c:Code) {Δ:Env} {h:Hp} {w:World} {t:Tm} {a:Act},WR Δ h w->TR Δ n t a->∀{r:X×Tm×Hp},
  (codeC n c).f call m t h=some r->∀{Q:Exit->Act->World->Prop},(∀s p w',Goes Δ h w n r.2.1 r.2.2 s p w'->Q r.1.to p w')->c.wp P0 Q a w
 | .skip,Δ,h,w,t,a,j,l,r,d,Q,g=>by cases d;exact wp_skip (g _ _ _ (.start l j))
 | .seq x y,Δ,h,w,t,a,j,l,r,d,Q,g=>by
   simp only[codeC]at d;refine wp_seq ?_;rcases zu d with⟨J,z,A,B⟩|⟨A,B⟩
   ·exact pq hc i x j l A λs p w' o=>pq hc i y o.world o.tmps B λE F G C=>g _ _ _ (o.trans C)
   ·exact pq hc i x j l A λs p w' o=>Ft B (g _ _ _ o)
 | .cond c x y,Δ,h,w,t,a,j,l,r,d,Q,g=>by
   simp only[codeC,ei]at d;obtain⟨v,z,u⟩:=d;have D:=gW j l z;split at u
   ·rename_i b
    generalize hx:a.eval c=xv at D;cases D
    cases b with
    |true=>exact wp_cond_true hx (pq hc i x j l u g)
    |false=>exact wp_cond_false hx (pq hc i y j l u g)
   ·cases u
 | .block id c,Δ,h,w,t,a,j,l,r,d,Q,g=>by
   simp only[codeC]at d;refine wp_block ?_
   cases D:(codeC n c).f call m t h with
   |none=>rw[D]at d;cases d
   | some r'=>
     rw[D]at d;refine pq hc i c j l D λs p w' o=>?_;obtain⟨x,t',h'⟩:=r'
     cases x with
     |normal=>cases d;exact g _ _ _ o
     |ret=>cases d;exact g _ _ _ o
     | exit q=>
       simp only[blockK]at d;show if q=id then Q .normal p w' else Q (.exit q) p w'
       cases hb:Nat.beq q id with
       | true=>
         rw[hb]at d;have:=wAG hb;rw[if_pos this];cases d
         exact g _ _ _ o
       | false=>
         rw[hb]at d;have:q≠id:=λe=>by subst e;rw[wBG]at hb;cases hb
         rw[if_neg this];cases d
         exact g _ _ _ o
 | .loop c,Δ,h,w,t,a,j,l,r,d,Q,g=>by
   simp only[codeC]at d;refine LoopWp.wp ?_
   have H:∀(k:Nat) {Δ:Env} {h:Hp} {w:World} {t:Tm} {a:Act},WR Δ h w->TR Δ n t a->loopN (λt h=>(codeC n c).f call m t h) k t h=some r->
       (∀s p w',Goes Δ h w n r.2.1 r.2.2 s p w'->Q r.1.to p w')->LoopWp c Q a w:=by
     intro k
     induction k with
     |zero=>intro Δ h w t a _ _ d _;cases d
     | succ k K=>
       intro Δ h w t a j l d g;have I:seqK ((codeC n c).f call m t h) (loopN (λt h=>(codeC n c).f call m t h) k)=some r:=d;refine LoopWp.round ?_;rcases zu I with⟨J,z,A,B⟩|⟨A,B⟩
       ·exact pq hc i c j l A λs p w' o=>K o.world o.tmps B λE F G C=>g _ _ _ (o.trans C)
       ·exact pq hc i c j l A λs p w' o=>Ft B (g _ _ _ o)
   exact H m j l d g
 | .exit id,Δ,h,w,t,a,j,l,r,d,Q,g=>by cases d;exact wp_exit (g _ _ _ (.start l j))
 | .ret,Δ,h,w,t,a,j,l,r,d,Q,g=>by cases d;exact wp_ret (g _ _ _ (.start l j))
 | .region id ops false,Δ,h,w,t,a,j,l,r,d,Q,g=>by
   simp only[codeC,ei]at d;obtain⟨r',z,u⟩:=d;cases u;refine wp_region ?_;have:=Cp (Q:=Q) hc ops.toList 0 rfl j l z g;rw[List.range_eq_range']
   simpa using this
 | .region id ops true,Δ,h,w,t,a,j,l,r,d,Q,g=>by
   simp only[codeC,ei]at d;obtain⟨r',z,u⟩:=d;cases u
   exact IR hc i j l z g
 | .rangeFunc ..,Δ,h,w,t,a,j,l,r,d,Q,g=>by cases d
 | .scope _,Δ,h,w,t,a,j,l,r,d,Q,g=>by cases d
 | .label _,Δ,h,w,t,a,j,l,r,d,Q,g=>by cases d
 | .goto _,Δ,h,w,t,a,j,l,r,d,Q,g=>by cases d
 | .refuse _,Δ,h,w,t,a,j,l,r,d,Q,g=>by cases d
noncomputable def tgetT (t:Tr V)(i:Nat):V:=Option.rec (motive:=λ_=>V) V.undef (λv=>v) (t.get i)
theorem FV (t:Tr V)(d i:Nat)(v:V):tgetT (t.set d v) i=if d=i then v else tgetT t i:=BD (.tree t []) d i v
theorem Cl:∀(args:List V) (i:Nat) (t:Tr V) (j:Nat),tgetT (initT args i t) j=if i<=j/\j<i+args.length then args[j-i]?.getD .undef else tgetT t j
 |[],i,t,j=>by rw[if_neg (by simp only[wBe];omega)];rfl
 | v ::vs,i,t,j=>by
   simp only[initT];rw[Cl vs (i+1) (t.set i v) j];by_cases a:i+1<=j/\j<i+1+vs.length
   ·rw[if_pos a,if_pos (by simp only[wAX];omega)]
    have:j-i=(j-(i+1))+1:=by omega
    rw[this,wAj]
   ·rw[if_neg a,FV]
    by_cases b:i=j
    ·subst b
     rw[if_pos rfl,if_pos (by simp only[wAX];omega)];simp
    ·rw[if_neg b,if_neg (by simp only[wAX];omega)]
theorem E7 (args:List V) (i:Nat):tget (startT args) i=(args[i]?).getD .undef:=by
 have h:=Cl args 0 .leaf i;rw[show tget (startT args) i=tgetT (initT args 0 .leaf) i from rfl,h];by_cases h:i<args.length
 ·rw[if_pos (by omega),Nat.sub_zero]
 ·rw[if_neg (by omega),wAh (by omega)];unfold tgetT;rw[Tr.get_leaf];rfl
theorem Ab {C:Cfg} (b:Facts C) {Δ:Env} {args:List V} {args':Array Value} (c:VsRel Δ args args'.toList) {k:Nat} (g:args.length<=k) :
  TR Δ k (C.start args) {tmps:=args'++Array.replicate (k-args'.size) undef,defers:=[]}:=by
 have d:=c.length;simp only[wA2]at d;refine⟨by simp;omega,λi=>?_,by rw[b.startD];exact .nil⟩;rw[b.start];simp only[wBf];by_cases h:i<args.length
 ·rw[wBx (by omega)];obtain⟨x,e,f⟩:=c.get i args[i] (wAA h);have a:args'[i]? =some x:=by simpa using e
  rw[a,wAA h];exact f
 ·rw[wAh (by omega),Array.getElem?_append_right (by omega),wB8];split <;> exact .undef Δ
def resM (tmps:Array Value):ResultVar->Sem Value
 | .tmp t=>pure (tmps.getD t undef)
 | .cell b ty=>do loadVar ty (<-asAddr (tmps.getD b undef))
theorem ES {Δ:Env} {h:Hp} {w:World} {t:Tm} {a:Act} (k:WR Δ h w) (j:TR Δ n t a):∀{l:List ResultVar} {vs:List V},resVs t h l=some vs->
  ∃xs,(l.mapM (resM a.tmps)).run P0 w = .ok xs w/\VsRel Δ vs xs
 |[],vs,c=>by simp[resVs]at c;subst c;exact⟨[],by simp,.nil⟩
 | .tmp i::l,vs,c=>by
   simp only[resVs,ei]at c;obtain⟨v,e,m,o,q⟩:=c;cases q;obtain⟨xs,r,s⟩:=ES k j o;simp only[resC]at e;cases e;have u:(resM a.tmps (.tmp i)).run P0 w = .ok (a.tmps.getD i undef) w:=rfl
   exact⟨a.tmps.getD i undef::xs,by simp only[List.mapM_cons,wAP,wAp,wAH,u,r],.cons _ _ _ _ (j.rel i) s⟩
 | .cell b ty::l,vs,c=>by
   simp only[resVs,ei]at c;obtain⟨v,e,m,o,q⟩:=c;cases q;obtain⟨xs,r,s⟩:=ES k j o;simp only[resC]at e;obtain⟨x,d,z⟩:=Bt (xv:=a.tmps.getD b undef) k (λv c=>by cases c;exact j.rel b) e;have f:∃ad,a.tmps.getD b undef = .pointer (some ad):=by
     cases hx:a.tmps.getD b undef with
     | pointer p=>cases p with
       |some ad=>exact⟨ad,rfl⟩
       |none=>rw[hx]at d;simp[Instr.loadAt,Instr.sureAddr]at d
     |_=>rw[hx]at d;simp[Instr.loadAt,Instr.sureAddr]at d
   obtain⟨ad,g⟩:=f;rw[g]at d;have y:(loadVar ty ad).run P0 w = .ok x w:=by simpa[Instr.loadAt,Instr.sureAddr]using d
   have u:(resM a.tmps (.cell b ty)).run P0 w = .ok x w:=by simp only[resM,g,asAddr,wAP,wAp,wAH,y]
   exact⟨x::xs,by simp only[List.mapM_cons,wAP,wAp,wAH,u,r],.cons _ _ _ _ z s⟩
theorem Bz {Δ:Env} {h:Hp} {w:World} {t:Tm} {a:Act} (d:WR Δ h w) (e:TR Δ n t a) {fn:Func} {vs:List V} (f:resVs t h fn.results.toList=some vs) :
  ∃x,(results fn a.tmps).run P0 w = .ok x w/\VRel Δ (tupleOf vs) x:=by
 obtain ⟨xs,g,i⟩:=ES d e f;have j:(results fn a.tmps).run P0 w = .ok (if h:xs.toArray.size=1 then xs.toArray[0] else .tuple xs.toArray) w:=by
  have h0:results fn a.tmps=(do let vs <-fn.results.mapM (resM a.tmps);pure (if h:vs.size=1 then vs[0] else .tuple vs)):=by
   unfold results;congr 1
  rw[h0,Array.mapM_eq_mapM_toList];simp only[wAP,map_eq_pure_bind,g,wAH,wAp]
 refine⟨_,j,?_⟩
 cases i with
 |nil=>exact .tuple _ #[] .nil
 | cons v x vs xs b hs=>
   cases hs with
   |nil=>exact b
   | cons k l vs xs c hs=>
     rw[dif_neg (by simp)];exact .tuple _ _ (.cons _ _ _ _ b (.cons _ _ _ _ c hs))
theorem FL {Δ o:Env} {h:Hp} {w w':World} {n:Nat} {fn:Func} {r:X×Tm×Hp} {b:Act} {v:V} {h':Hp} (d:Goes Δ h w n r.2.1 r.2.2 o b w') (i:dendC fn r=some (v,h')) :
  (r.1 = .normal\/r.1 = .ret)/\b.defers=[]/\∃y,(results fn b.tmps).run P0 w' = .ok y w'/\∃c z,Ending.returned y = .returned z/\After Δ h w v h' c z w':=by
 obtain⟨x,t',f⟩:=r
 have a:(match t'.ds with
   |[]=>oB (resVs t' f fn.results.toList) λvs=>some (tupleOf vs,f)
   |_::_=>none)=some (v,h')->b.defers=[]/\∃y,(results fn b.tmps).run P0 w' = .ok y w'/\
   ∃c z,Ending.returned y = .returned z/\After Δ h w v h' c z w':=by
  intro e;split at e
  ·rename_i j;simp only[ei]at e;obtain⟨vs,k,e⟩:=e;cases e;obtain⟨y,p,l⟩:=Bz d.world d.tmps k;have g:=d.tmps.ds;simp only at g;rw[j]at g
   have m:b.defers=[]:=by cases hx:b.defers with
    |nil=>rfl
    |cons _ _=>rw[hx]at g;cases g
   exact⟨m,y,p,o,y,rfl,l,d.world,d.frame,d.grow⟩
  ·cases e
 cases x with
 |exit id=>cases i
 |normal=>exact⟨.inl rfl,a i⟩
 |ret=>exact⟨.inr rfl,a i⟩
theorem DP {o:Oper} {c:Go.Call} (a:o.op = .call c) (hc:c.callee = .builtin .recover) (ρ:Operand->Value) (w:World):(execOp ρ o).run P0 w = .ok .recover w:=by
 unfold execOp;rw[a];simp only[wAP,resolve,hc,wAp,wAH];rfl
theorem Gd {c a:Code} {d:Nat} (h:recOf c=some (d,a)):∃id o e,c = .seq (.region id #[o] false) a/\o.op = .call e/\e.callee = .builtin .recover/\o.guard=none/\o.dst=some d:=by
 unfold recOf at h;split at h
 ·rename_i id ops f;split at h
  ·rename_i o k;split at h
   ·rename_i e g;split at h
    ·rename_i l i j b;cases h;refine⟨id,o,e,?_,g,i,j,b⟩;congr 2;apply Array.ext';exact k
    ·cases h
   ·cases h
  ·cases h
 ·cases h
theorem Hb {C:Cfg} (q:Facts C) (hc:CallOk call) {m f:Nat} {args:List V} {v:V} {h h':Hp} {Δ:Env} {w:World} {args':Array Value} (b:(dfuncC C f).f call m args h=some (v,h'))
  (P:WR Δ h w) (Q:VsRel Δ args args'.toList):(callFunc f args').run P0 w = .ok (.enter f args') w/\
   CallsD P0 f args' .returning w λe u' w'=>u' = .returning/\∃B x,e = .returned x/\After Δ h w v h' B x w':=by
 unfold dfuncC at b;split at b
 ·rename_i fn A;split at b
  ·rename_i c D;refine⟨?_,?_⟩
   ·have R:=q.named f fn A;simp only[callFunc,wAP,run_program,wAH,A,R,D,wCG,wAo,if_false];rfl
   split at b
   ·rename_i d i s;simp only[fm,ei]at b;obtain⟨j,S,r,E,F⟩:=b;have a:args.length<=fn.ntmps:=wAZ j;obtain⟨id,o,W,rfl,G,H,I,u⟩:=Gd s;refine callsD_of_wpS A D λJ cs z=>?_;have K:=Ab q Q a;have L:dstC fn.ntmps o=some ⟨λt v=>t.set d v⟩:=by unfold dstC;rw[u];simp only[S]
    have T:TR Δ fn.ntmps ((C.start args).set d .nilIface) (({tmps:=args'++Array.replicate (fn.ntmps-args'.size) undef,defers:=[]}:Act).put o.dst .nilIface):=zT K L .nilIface;refine wpS_seq (wpS_region ?_);have hrange:List.range (#[o]:Array Oper).size=[0]:=rfl;rw[hrange];simp only[wpOpsS];have h0:(#[o]:Array Oper)[0]? =some o:=rfl;simp only[h0];have k:∀y,Region.wanted o y=true:=λy=>by unfold Region.wanted;rw[I]
    rw[if_pos (k _),DP G H];have l:recoverD (J::cs)=none:=by simp only[recoverD,z]
    simp only[l];show i.wpS P0 _ _ _ _;refine wpS_of_wp ?_;refine pq hc q.mixed i P T E λB U w' M=>?_;obtain⟨g,n,y,N,O⟩:=FL M F;have p:({J with mode:= .returning}:Frame)=J:=by rw[<-z]
    rcases g with g|g <;> rw[g] <;> exact⟨n,.returning,by rw[p],y,N,rfl,O⟩
   ·simp only[fm,ei]at b;obtain⟨j,r,E,F⟩:=b;have a:args.length<=fn.ntmps:=wAZ j;refine callsD_of_wp A D ?_;refine pq hc q.mixed c P (Ab q Q a) E λB U w' M=>?_;obtain⟨g,n,y,N,O⟩:=FL M F;rcases g with g|g <;> rw[g] <;> exact⟨n,y,N,O⟩
  ·cases b
 ·cases b
theorem FT {C:Cfg} (j:Facts C) (hc:CallOk call) {m:Nat} {fn:Func} {tmps:Array Value} {R:Ending->World->Prop}:∀(l:List (Nat×List V)) {c:List Deferred} {Δ:Env} {h h':Hp} {w:World},
  runD C call m l h=some h'->WR Δ h w->DsRel Δ l c->
  (∀a w',WR a h' w'->FR Δ a w w'->Gr h Δ h' a->∃v,(results fn tmps).run P0 w' = .ok v w'/\R (.returned v) w')->Leaves P0 fn tmps R c .returning w
 | [],_,Δ,h,h',w,hv,hW,.nil,hR=>by
   cases hv
   exact hR Δ w hW (.refl _ _) (.refl _ _)
 | (g,args)::l,_,Δ,h,h',w,hv,hW,.cons _ _ cap args' _ c ha hl,hR=>by
   simp only[runD,ei]at hv;obtain⟨⟨v,u⟩,k,n⟩:=hv;obtain⟨o,p⟩:=Hb j hc k hW ha;refine leaves_cons (by intro e;cases e) (f:=g) (args:=args'++cap) o ?_;refine CallsD.mono p λe u' w' q=>?_;obtain⟨rfl,a,x,rfl,b⟩:=q;exact FT j hc l n b.world (hl.mono b.frame.le) λd i r s t=>hR d i r (b.frame.trans s) (b.grow.trans t)
theorem IU {C:Cfg} (i:Facts C) (hc:CallOk call) {m:Nat}:CallOk λf args h=>(funcC C f).f call m args h:=by
 intro f args v h h' Δ w args' a o s;simp only at a;unfold funcC at a;split at a
 ·rename_i fn p;split at a
  ·rename_i c q;right;have b:(callFunc f args').run P0 w = .ok (.enter f args') w:=by
    have M:=i.named f fn p;simp only[callFunc,wAP,run_program,wAH,p,M,q,wCG,wAo,if_false];rfl
   refine⟨b,?_⟩;simp only[orB]at a
   cases hk:C.K f args h with
   | some u=>
     rw[hk]at a;simp only[fm,wAJ]at a;obtain⟨⟨k,t⟩,a⟩:=a;cases a;refine Calls.mono (i.known f args _ _ hk k t Δ w args' o (Ct s k)) λe w' z=>?_;obtain⟨x,rfl,N,hs⟩:=z
     exact⟨Δ,x,rfl,hs.after o N⟩
   | none=>
     rw[hk]at a;simp only[fm,ei]at a;obtain⟨A,r,B,g⟩:=a;have l:args.length<=fn.ntmps:=wAZ A;refine calls_of_wp_defers p q ?_;refine pq hc i.mixed c o (Ab i s l) B λH I w' n=>?_;obtain⟨x,t',D⟩:=r
     have d:(∃j,runD C call m t'.ds D=some j/\∃vs,resVs t' j fn.results.toList=some vs/\some (tupleOf vs,j)=some (v,h'))->
         Leaves P0 fn I.tmps (λe w'=>∃H x,e = .returned x/\After Δ h w v h' H x w') I.defers .returning w':=by
       rintro⟨j,O,vs,E,z⟩;cases z;refine FT i hc _ O n.world n.tmps.ds λF P J L Q=>?_;obtain⟨y,R,G⟩:=Bz J (n.tmps.mono L.le) E;exact⟨y,R,F,y,rfl,G,J,n.frame.trans L,n.grow.trans Q⟩
     cases x with
     |exit id=>cases g
     |normal=>simp only[ei]at g;exact d g
     |ret=>simp only[ei]at g;exact d g
  ·rename_i q;left;simp only[ei]at a;obtain⟨u,B,g⟩:=a;cases g;obtain⟨x,j,S⟩:=i.ext f fn p q Δ args _ args' w B s;exact⟨x,j,S,o,.refl _ _,.refl _ _⟩
 ·cases a
theorem zi {C:Cfg} (a:Facts C) (m:Nat):∀d,CallOk (callN C m d)
 |0=>λf args v h h' Δ w args' b=>(nomatch b)
 |d+1=>IU a (zi a m d)
end
theorem CD (c:Nat) (hc:c<256):∀(l:List UInt8) (n:Nat),countB c l n=n+l.count (UInt8.ofNat c)
 |[],n=>by simp[countB]
 | b ::l,n=>by
   simp only[countB];rw[CD c hc l,wCH];have a:Nat.beq b.toNat c=(b == UInt8.ofNat c):=by
     rw[wBn];simp only[wAt];constructor
     ·intro h
      have h':b.toNat=c:=wAG h;rw[<-h'];simp
     ·intro h
      rw[h];have:(UInt8.ofNat c).toNat=c:=by simp;omega
      rw[this];exact wBG c
   rw[a];cases b == UInt8.ofNat c
   ·simp
   ·simp;omega
theorem Cs (c:Nat) (hc:c<256):∀(l:List UInt8) (n:Nat),(match indexB c l n with|some i=>(i:Int)|none=>-1)=if Lib.indexByte l (UInt8.ofNat c) = -1 then -1 else Lib.indexByte l (UInt8.ofNat c)+n
 |[],n=>by simp[indexB,Lib.indexByte]
 | b ::l,n=>by
   simp only[indexB];have d:Nat.beq b.toNat c=(b == UInt8.ofNat c):=by
     rw[wBn];simp only[wAt];constructor
     ·intro h
      have h':b.toNat=c:=wAG h;rw[<-h'];simp
     ·intro h
      rw[h];have:(UInt8.ofNat c).toNat=c:=by simp;omega
      rw[this];exact wBG c
   rw[d];unfold Lib.indexByte
   cases hbc:b == UInt8.ofNat c with
   |true=>simp
   | false=>
     have e:=Cs c hc l (n+1);have f:=Lib.indexByte_ge l (UInt8.ofNat c);simp only[wAo,if_false];rw[e];by_cases a:Lib.indexByte l (UInt8.ofNat c) = -1
     ·simp[a]
     ·have g:(Lib.indexByte l (UInt8.ofNat c) == -1)=false:=by simpa using a
      simp only[a,g,if_false,wAo];rw[if_neg (by omega)];omega
theorem GR {f:Nat} {fn:Func} (i:P0.funcs[f]? =some fn) (a:(fn.name == "runtime.NumGoroutine")=false) (j:fn.body.isNone=true) (k:Extern.findNext fn=none) (m:Extern.find fn=some Extern.BytealgCount.count)
  {Δ:Env} {args:List V} {v:V} {args':Array Value} {w:World} (b:extF .countByte args=some v) (n:VsRel Δ args args'.toList):∃x,(callFunc f args').run P0 w = .ok (.value x) w/\VRel Δ v x:=by
 unfold extF at b;split at b
 ·rename_i s c _;rw[fm]at b;obtain⟨hc,b⟩:=b;have d:c<256:=by rw[wBV]at hc;exact hc
  cases b;obtain⟨l⟩:=args'
  cases n with
  | cons _ x _ xs g hs=>
    cases hs with
    | cons _ y _ ys o hs=>
      cases hs;cases o;generalize hsl:s=sl at g
      cases g with
      | str sb=>
        have p:=Lib.run_countString (P:=P0) sb (Int.ofNat c) w;refine⟨.int .i64 (Lib.countByte sb.data.toList (Int.ofNat c).toNat.toUInt8),?_,?_⟩
        ·rw[run_callFunc_extern i a j k m]
         show((Extern.BytealgCount.count #[.string sb,.int .u8 (Int.ofNat c)]).run P0 w).andThen _=_;rw[p];rfl
        have e:countB c sb.data.toList 0=Lib.countByte sb.data.toList (Int.ofNat c).toNat.toUInt8:=by
          rw[CD c d,wAY];rfl
        rw[e];exact .int _ _
 ·exact absurd ‹Ext.countByte=Ext.indexByte› (by intro h;cases h)
 ·cases b
theorem GH {f:Nat} {fn:Func} (j:P0.funcs[f]? =some fn) (b:(fn.name == "runtime.NumGoroutine")=false) (k:fn.body.isNone=true) (m:Extern.findNext fn=none) (n:Extern.find fn=some Extern.BytealgIndexByte.indexByte)
  {Δ:Env} {args:List V} {v:V} {args':Array Value} {w:World} (a:extF .indexByte args=some v) (o:VsRel Δ args args'.toList):∃x,(callFunc f args').run P0 w = .ok (.value x) w/\VRel Δ v x:=by
 unfold extF at a;split at a
 ·exact absurd ‹Ext.indexByte=Ext.countByte› (by intro h;cases h)
 ·rename_i s c _;rw[fm]at a;obtain⟨hc,a⟩:=a;have d:c<256:=by rw[wBV]at hc;exact hc
  obtain⟨l⟩:=args'
  cases o with
  | cons _ x _ xs g hs=>
    cases hs with
    | cons _ y _ ys p hs=>
      cases hs;cases p;generalize hsl:s=sl at g
      cases g with
      | str sb=>
        have q:=Lib.run_indexByteString (P:=P0) sb (Int.ofNat c) w;refine⟨.int .i64 (Lib.indexByte sb.data.toList (Int.ofNat c).toNat.toUInt8),?_,?_⟩
        ·rw[run_callFunc_extern j b k m n]
         show((Extern.BytealgIndexByte.indexByte #[.string sb,.int .u8 (Int.ofNat c)]).run P0 w).andThen _=_;rw[q];rfl
        have e:=Cs c d sb.data.toList 0;have r:(if Lib.indexByte sb.data.toList (UInt8.ofNat c) = -1 then -1 else Lib.indexByte sb.data.toList (UInt8.ofNat c)+((0:Nat):Int))=Lib.indexByte sb.data.toList (Int.ofNat c).toNat.toUInt8:=by
          show _=Lib.indexByte sb.data.toList (UInt8.ofNat c);split
          ·rename_i h;exact h.symm
          ·simp
        rw[r]at e;rw[<-e];rw[hsl]at a;split at a
        ·rename_i i hi;cases a;rw[hi];exact .int _ _
        ·rename_i hi;cases a;rw[hi];exact .int _ _
 ·cases a
def Kept (W W':World):Prop:=W'.os=W.os/\W'.output=W.output/\W.heap.size<=W'.heap.size/\∀b,b<W.heap.size->W'.heap[b]? =W.heap[b]?
theorem Kept.but {W W':World} (h:Kept W W') (a:MemPlace->Prop):W.keptBut W' a:=by
 refine⟨h.1,h.2.1,λi hi=>?_⟩;rw[h.2.2.2 i hi]
 cases W.heap[i]? with
 |none=>rfl
 |some o=>cases o <;> first|rfl|exact⟨rfl,rfl,rfl,λ_ _=>rfl⟩|exact .inr ⟨rfl,rfl⟩
theorem FR.kept{Δ a:Env}{w w':World}(h:FR Δ a w w')(c:∀b,¬RW Δ b):Kept w w':=⟨h.os,h.output,h.size,λb d=>h.keep b d (c b)⟩
def isTrue:Option (V×Hp)->Bool
 |some (.bool true,_)=>true
 |_=>false
theorem TabOk.none{Δ:Env}{w:World}(h:TabOk Δ w):TabOk (λ_=>none) w:=λg c a=>⟨(h g c a).1,λ_ _ e=>nomatch e⟩
theorem WR.start (n:Nat) (a:P0.globals.size<=n) (w:World) (b:TabOk (λ_=>none) w):WR (λ_=>none) {next:=n,tr:= .leaf} w:=
 ⟨λ_ _ h=>(nomatch h),λ_ _ h=>(nomatch h),λ_ _ h=>(nomatch h),λ_ _ _ _ _ _ h=>(nomatch h),λg o _ h=>(by rw[Hp.get_eq]at h;simp only[Tr.get_leaf]at h;split at h <;> cases h),a,b⟩
theorem known {C:Cfg} (o:Facts C) {m d n f:Nat} (t:P0.globals.size<=n) (g:∃fn c,P0.funcs[f]? =some fn/\fn.body=some c) (a:isTrue (callN C m d f [] {next:=n,tr:= .leaf})=true) (W:World) (u:TabOk (λ_=>none) W) :
  Calls P0 f #[] W λe W'=>e = .returned (.bool true)/\Kept W W':=by
 cases hr:callN C m d f [] {next:=n,tr:= .leaf} with
 |none=>rw[hr]at a;cases a
 | some r=>
   obtain ⟨v,h'⟩:=r;rw[hr]at a;have h:v = .bool true:=by
     unfold isTrue at a;split at a
     ·rename_i i;cases i;rfl
     ·cases a
   subst h;rcases zi o m d f [] _ _ _ (λ_=>none) W #[] hr (WR.start n t W u) .nil with⟨x,p,_⟩|⟨_,w⟩
   ·exfalso
    obtain ⟨fn,c,q,j⟩:=g;have k:=o.named f fn q;have:(callFunc f #[]).run P0 W = .ok (.enter f #[]) W:=by
      simp only[callFunc,wAP,run_program,wAH,q,k,j,wCG,wAo,if_false];rfl
    rw[this]at p;cases p
   ·refine Calls.mono w λe w' i=>?_
    obtain⟨A,x,rfl,s⟩:=i;have y:=s.val;cases y;exact⟨rfl,s.frame.kept λb g=>(by obtain⟨l,d,z,_⟩:=g;cases z)⟩
open Go.ChangeShapes Go.WideShapes in
theorem GX {H:Type} {enc:TypeId×Value->H} {P:Program} {f:Func} {s:ChangeSpec} {apart fresh handsOn again:Bool} {W W':World} {args:Array Value} {v:Value} {ds gs:List (DataW H)}
  {before pa pv:List MemPlace} (hW:DataW.Whole enc P f.params.toList s.vars apart W args.toList ds gs before)
  (hres:∀(b:Nat) (sp:Nat->Bool) (hd:Bool),DataW.TrodAll enc P W' b sp hd f.resultTypes.toList (v.resultList f.resultTypes.size) (s.fn H (ds++gs)).results [])
  (hargs:∀sp:Nat->Bool,(∀p∈before,sp p.block=true)->DataW.TrodAll enc P W' 0 sp true f.params.toList args.toList (s.fn H (ds++gs)).args pa)
  (hvars:∀sp:Nat->Bool,(∀p∈before,sp p.block=true)->DataW.TrodVars enc P W' sp s.vars (s.fn H (ds++gs)).vars pv)
  (hps:before=pa++pv) (hk:Kept W W')
  (hok:∀(j:Nat) (t:TypeId) (r:Value),f.resultTypes[j]? =some t->(v.resultList f.resultTypes.size)[j]? =some r->Value.okWide P W' .any 0 t r) :
  s.post enc P f apart fresh handsOn again W args v W':=by
 have hlt:∀p∈before,p.block<W.heap.size:=λp hp=>hW.lt p hp;have hold:∀p∈before,(λb=>decide (b<W.heap.size)) p.block=true:=λp hp=>by simpa using hlt p hp
 refine⟨ds,gs,before,[],pa,pv,hW,hres _ _ _,hargs _ hold,hvars _ hold,hk.but _,λ_=>?_⟩;obtain⟨_,_,_,_,_,hz,hn⟩:=hW;refine⟨hok,_,_,([]++pa)++pv,⟨[]++pa,pv,trodAll_append (hargs _ (λ_ _=>rfl)) (hres _ _ _),hvars _ (λ_ _=>rfl),rfl,?_,?_⟩,?_⟩
 ·intro b off hp;have hp':MemPlace.cell b off∈before:=by rw[hps];simpa using hp
  have hz':=hz b off hp';have hb:=hlt _ hp';have he:W'.frozen? ⟨b,off,none⟩=W.frozen? ⟨b,off,none⟩:=by
   unfold World.frozen?;have:=hk.2.2.2 b hb;simp only at this⊢;rw[this]
  rw[he];exact hz'
 ·intro ha;have:=hn ha;rw[hps]at this;simpa using this
 ·intro p hp _;rw[hps];simpa using hp
