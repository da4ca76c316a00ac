/- Parts. -/
import Derived.Test.YtnehpeeglbgfpaaDoorM05
import Derived.Defers
import Derived.Recover
import Derived.Lib.Bytealg
import Derived.Laws.Externs
import Derived.ChangeSame
import Derived.RowKit3
set_option maxHeartbeats 4000000
namespace Go.Proofs.YtnehpeeglbgfpaaDoor.Hx
structure Still (W W':World):Prop where
 os:W'.os=W.os
 tape:W'.tape=W.tape
 output:W'.output=W.output
 size:W.heap.size<=W'.heap.size
 eD:∀b,b<W.heap.size->W'.heap[b]? =W.heap[b]?
theorem FR.still{Δ a:Env}{w w':World}(h:FR Δ a w w')(c:∀b,¬RW Δ b):Still w w':=⟨h.os,h.tape,h.output,h.size,λb d=>h.eD b d (c b)⟩
theorem Zx(b:Nat):¬RW (λ_=> .none) b:=λ⟨_,_,a,_⟩=>nomatch a
theorem Still.after{Δ:Env} {h:Hp} {W W':World} (a:Still W W') (c:WR Δ h W) {v:V} {x:Value} (g:fq (λ_=> .none) v x):tc Δ h W v h Δ x W' where
 val:=g.mono λ_ _ (h:(none:Option D)=some _)=>by cases h
 world:=⟨c.fresh,λl d e=>zr (c.wh l d e) a.size,λl d e=>by rw[a.eD _ (c.wh l d e)];exact c.obj l d e,c.apart,c.Cg,c.ur,c.MU.step (λb f _=>a.eD b f) (by simp_all)⟩
 frame:=⟨Env.le_refl _,a.size,a.os,a.tape,a.output,λb f _=>a.eD b f,by simp_all⟩
 grow:= .refl _ _
theorem LI{Δ a:Env} {v:V} {x:Value} (h:fq Δ v x) (c:v.flat=true):fq a v x:=by
 cases h with
 |bool b=>exact .bool b
 |int k n=>exact .int k n
 |str s=>exact .str s
 |nilPtr=>exact .nilPtr
 |ed=>exact .ed
 |kQ=>exact .kQ
 |nilFunc=>exact .nilFunc
 |nilIface=>exact .nilIface
 |_=>grind[V.flat]
theorem JB{Δ a:Env}:∀{vs:List V} {xs:List Value},fV Δ vs xs->MF vs=true->fV a vs xs
 |[],_,.nil,_=> .nil
 | v::vs,_,.cons _ _ _ _ h hs,hf=>by
   simp only[MF,Th,qU]at hf;exact .cons _ _ _ _ (LI h hf.1) (JB hs hf.2)
structure ti (C:fg):Prop where
 HV:∀args,(C.start args).ds=[]
 start:∀args i,gI (C.start args) i=(args[i]?).getD .undef
 mixed:P0.follows .mixedOrders=true
 named:∀(f:Nat) (fn:Func),P0.funcs[f]? =some fn->(fn.name == "runtime.NumGoroutine")=false
 ext:∀(f:Nat) (fn:Func),P0.funcs[f]? =some fn->fn.body=none->∀(Δ:Env) (args:List V) (v:V) (fY:Array Value) (w:World),MP (C.ext f) args=some v->fV Δ args fY.toList->
  ∃x,(callFunc f fY).run P0 w = .ok (.value x) w/\fq Δ v x
 known:∀(f:Nat) (args:List V) (v:V) (h:Hp),C.K f args h=some v->MF args=true->v.flat=true->∀(Δ:Env) (W:World) (fY:Array Value),WR Δ h W->fV (λ_=> .none) args fY.toList->
  Calls P0 f fY W λe W'=>∃x,e = .returned x/\fq (λ_=> .none) v x/\Still W W'
section
variable{n:Nat}{call:Call}
theorem Fj{jv ws:List It} (b:∀x∈ws,x∈jv):∀(l:List It) (k:Nat),(∀x∈l,x∈jv)->∀a∈order jv ws l k,a∈jv
 |[],k,_,a,ha=>(TD.1 ha).1
 | w::l,k,hl,a,ha=>by
   simp only[order,AI,AJ]at ha;rcases ha with h|rfl|h
   ·exact(TD.1 h).1
   ·simp_all
   ·exact Fj b l (k+1) (by simp_all) a h
theorem JT(hc:pH call) (l:P0.follows .mixedOrders=true) {id:Nat} {ops:Array Oper} {Δ:Env} {h:Hp} {w:World} {t:Tm} {a:Act} (A:WR Δ h w) (F:TR Δ n t a)
  {r:Tm×Hp} (B:ou (im ops)=true) (G:(im ops).all (zR (im ops))=true) (H:(im ops).all xJ=true) (m:qX (im ops) (gj (im ops)) (order (im ops) (gj (im ops)) (gj (im ops)) 0) 0 0=true)
  (C:(tq n ops.toList (gj (im ops)) (order (im ops) (gj (im ops)) (gj (im ops)) 0) 0).f call t h []=some r) {Q:Exit->Act->World->Prop} (I:∀u D w',tT Δ h w n r.1 r.2 u D w'->Q .normal D w')
  (E:∀T:Tc,qq n ops.toList (im ops) (gj (im ops)) call t h (order (im ops) (gj (im ops)) (gj (im ops)) 0) 0 0 h [] r T T->∀(fuel:Nat) (c:Array Bool) (p:Act) (w':World) (j:Nat) (u:Env) (t':Tm) (a:It),0<=j->c.toList.count false<=fuel+1->
   Inv n ops t h Δ w T c j u t' p w'->a∈im ops->cls a.o=2->c.getD a.i false=false->(∀x∈im ops,a.b.testBit x.i=true->c.getD x.i false=true)->(gj (im ops))[j]?≠some a->
   wpOp P0 ops Q a.i (wpAny P0 .any ops Q fuel (c.setIfInBounds a.i true)) p w'):(Code.region id ops true).wp P0 Q a w:=by
 have k:∀x∈order (im ops) (gj (im ops)) (gj (im ops)) 0,x∈im ops:=by grind[Fj,nV]
 let J:Tc:=⟨λ_=>false,λ_=> .undef,λ_=> .tree .leaf [],λ_=>0,λ_=>0,λ_=>default,λ_=>h,λ_=>h⟩
 obtain ⟨T,g⟩:=trace (n:=n) (all:=ops.toList) (jv:=im ops) (ws:=gj (im ops)) (call:=call) (t0:=t) (h0:=h) qz B _ 0 0 t h [] r J k m C (λa O s=>by simp at s)
  (by grind[Dz]) (jn _) (by omega) (GM _)
 have v:qq n ops.toList (im ops) (gj (im ops)) call t h _ 0 0 h [] r T T:=
  ⟨by simp_all,by omega,g.item,g.zK,g.more,g.chain,g.OV,g.Om,g.last,g.mL,g.done,g.kle⟩
 refine wp_region_any l (OB (T:=T) (Δ0:=Δ) (w0:=w) (h0:=h) (t0:=t) hc B G H 0 (by grind) k v (xO _ _ C) I ops.size _ a _ 0 Δ t (jn _) ?_ ⟨by simp,λx s y=>?_,GM _,λq x hq=>?_,F,λd=>?_,(A.heap (w':={w with drawn:=w.drawn+1}) rfl).Kh g.more,
  ⟨Env.le_refl _,jn _,rfl,rfl,rfl,by simp_all,by simp_all⟩,by simp_all,rfl,λx s K L _ _=>?_⟩)
 ·simp_all
 ·simp only[XU,YM]at y
  grind
 ·constructor
  ·intro M;simp only[XU,YM]at M
   grind
  omega
 ·refine(Dz (λx _ _=>?_) _).symm;simp only[XU,YM]
  grind
 ·have z:x∈order (im ops) (gj (im ops)) (gj (im ops)) 0:=by
   rcases g.done x s with N|N
   ·simp_all
   ·grind[sr]
  have:=g.OV x z K L
  cases hd':Δ (T.pl x.i)with
  |none=>rfl
  |some e=>have:=A.fresh _ _ hd';omega
theorem Ty(hc:pH call) (d:P0.follows .mixedOrders=true) {id:Nat} {ops:Array Oper} {Δ:Env} {h:Hp} {w:World} {t:Tm} {a:Act} (u:WR Δ h w) (v:TR Δ n t a)
  {r:Tm×Hp} (b:(Ik n ops.toList).f call t h=some r) {Q:Exit->Act->World->Prop} (l:∀z m w',tT Δ h w n r.1 r.2 z m w'->Q .normal m w'):(Code.region id ops true).wp P0 Q a w:=by
 unfold Ik at b;split at b
 ·rename_i c;simp only[qU,J9]at c
  grind[JT,PS]
 ·split at b
  ·rename_i pr i c;simp only[qU,Kk]at c;obtain⟨⟨⟨o,q⟩,s⟩,e⟩:=c;simp only[eE,fX]at b;obtain⟨r',b,j,A⟩:=b;cases A;obtain⟨x,y,da,db⟩:=pr;obtain⟨B,C,D,E,F,G,H⟩:=L8 i;obtain⟨p,I,J,K⟩:=Hr B;have g:∀x∈order (im ops) (gj (im ops)) (gj (im ops)) 0,x∈im ops:=by grind[Fj,nV]
   exact JT hc d u v o q s e b l λT k=>Sd hc o q s g k ⟨I,J,K,C,D,E,F,G,H,j⟩ (xO _ _ b) l
  ·cases b
theorem Es{r:Option (X×Tm×Hp)} {k:Tm->Hp->Option (X×Tm×Hp)} {y:X×Tm×Hp} (h:Az r k=some y) :
  (∃t h',r=some (.normal,t,h')/\k t h' = some y)\/(r=some y/\y.1≠ .normal):=by
 unfold Az at h
 grind
theorem OH{next:Act->World->Prop} {Q:Exit->Act->World->Prop} {x:X} (b:x≠ .normal) {a:Act} {w:World} (h:Q x.to a w):Exit.then next Q x.to a w:=by
 cases x with
 |normal=>simp_all
 |exit id=>exact h
 |ret=>exact h
theorem si(hc:pH call) (e:P0.follows .mixedOrders=true) {m:Nat}:∀(c:Code) {Δ:Env} {h:Hp} {w:World} {t:Tm} {a:Act},WR Δ h w->TR Δ n t a->∀{r:X×Tm×Hp},
  (gS n c).f call m t h=some r->∀{Q:Exit->Act->World->Prop},(∀z o w',tT Δ h w n r.2.1 r.2.2 z o w'->Q r.1.to o w')->c.wp P0 Q a w
 | .skip,Δ,h,w,t,a,g,i,r,d,Q,j=>by cases d;exact wp_skip (j _ _ _ (.start i g))
 | .seq x y,Δ,h,w,t,a,g,i,r,d,Q,j=>by
   simp only[gS]at d;refine wp_seq ?_;rcases Es d with⟨G,s,e1,e2⟩|⟨e1,e2⟩
   ·exact si hc e x g i e1 λz o w' l=>si hc e y l.world l.tmps e2 λB C D u=>j _ _ _ (l.trans u)
   ·exact si hc e x g i e1 (by grind[OH])
 | .cond c x y,Δ,h,w,t,a,g,i,r,d,Q,j=>by
   simp only[gS,eE]at d;obtain⟨v,s,q⟩:=d;have A:=jW g i s;split at q
   ·rename_i b
    generalize hx:a.eval c=xv at A;cases A
    cases b with
    |true=>exact wp_cond_true hx (si hc e x g i q j)
    |false=>exact wp_cond_false hx (si hc e y g i q j)
   ·cases q
 | .block id c,Δ,h,w,t,a,g,i,r,d,Q,j=>by
   simp only[gS]at d;refine wp_block ?_
   cases A:(gS n c).f call m t h with
   |none=>rw[A]at d;cases d
   | some r'=>
     rw[A]at d;refine si hc e c g i A λz o w' l=>?_;obtain⟨x,t',h'⟩:=r'
     cases x with
     |normal=>cases d;exact j _ _ _ l
     |ret=>cases d;exact j _ _ _ l
     | exit p=>
       simp only[EX]at d;show if p=id then Q .normal o w' else Q (.exit p) o w'
       cases hb:Nat.beq p id with
       | true=>
         rw[hb]at d;have:=uW hb;rw[if_pos this];cases d
         exact j _ _ _ l
       | false=>
         rw[hb]at d;have:p≠id:=by grind[Qe]
         rw[if_neg this];cases d
         exact j _ _ _ l
 | .loop c,Δ,h,w,t,a,g,i,r,d,Q,j=>by
   simp only[gS]at d;refine yG.wp ?_;split at d
   ·rename_i F H
    exact Tl hc H g i d j
   have I:∀(k:Nat) {Δ:Env} {h:Hp} {w:World} {t:Tm} {a:Act},WR Δ h w->TR Δ n t a->Bg (λt h=>(gS n c).f call m t h) k t h=some r->
       (∀z o w',tT Δ h w n r.2.1 r.2.2 z o w'->Q r.1.to o w')->yG c Q a w:=by
     intro k
     induction k with
     |zero=>intro Δ h w t a _ _ d _;cases d
     | succ k J=>
       intro Δ h w t a g i d j;have E:Az ((gS n c).f call m t h) (Bg (λt h=>(gS n c).f call m t h) k)=some r:=d;refine yG.round ?_;rcases Es E with⟨G,s,e1,e2⟩|⟨e1,e2⟩
       ·exact si hc e c g i e1 λz o w' l=>J l.world l.tmps e2 λB C D u=>j _ _ _ (l.trans u)
       ·exact si hc e c g i e1 (by grind[OH])
   grind
 | .exit id,Δ,h,w,t,a,g,i,r,d,Q,j=>by cases d;exact wp_exit (j _ _ _ (.start i g))
 | .ret,Δ,h,w,t,a,g,i,r,d,Q,j=>by cases d;exact wp_ret (j _ _ _ (.start i g))
 | .region id ops false,Δ,h,w,t,a,g,i,r,d,Q,j=>by
   simp only[gS,eE]at d;obtain⟨r',s,q⟩:=d;cases q;refine wp_region ?_;have:=yV (Q:=Q) hc ops.toList 0 rfl g i s j
   grind[List.range_eq_range']
 | .region id ops true,Δ,h,w,t,a,g,i,r,d,Q,j=>by
   simp only[gS,eE]at d;obtain⟨r',s,q⟩:=d;cases q
   exact Ty hc e g i s j
 | .rangeFunc ..,Δ,h,w,t,a,g,i,r,d,Q,j=>by cases d
 | .scope _,Δ,h,w,t,a,g,i,r,d,Q,j=>by cases d
 | .label _,Δ,h,w,t,a,g,i,r,d,Q,j=>by cases d
 | .goto _,Δ,h,w,t,a,g,i,r,d,Q,j=>by cases d
 | .refuse _,Δ,h,w,t,a,g,i,r,d,Q,j=>by cases d
noncomputable def JH(t:Tr V)(i:Nat):V:=Option.rec (motive:=λ_=>V) V.undef (λv=>v) (t.get i)
theorem PG(t:Tr V)(d i:Nat)(v:V):JH (t.set d v) i=if d=i then v else JH t i:=hN (.tree t []) d i v
theorem Jn:∀(args:List V) (i:Nat) (t:Tr V) (j:Nat),JH (Mh args i t) j=if i<=j/\j<i+args.length then args[j-i]?.getD .undef else JH t j
 |[],i,t,j=>by rw[if_neg (by simp_all)];rfl
 | v ::vs,i,t,j=>by
   simp only[Mh];rw[Jn vs (i+1) (t.set i v) j];by_cases a:i+1<=j/\j<i+1+vs.length
   ·grind
   ·rw[if_neg a,PG]
    grind
theorem MM(args:List V) (i:Nat):gI (MN args) i=(args[i]?).getD .undef:=by
 have h:=Jn args 0 .leaf i;rw[show gI (MN args) i=JH (Mh args 0 .leaf) i from rfl,h]
 simp_all[if_pos,Nat.sub_zero,if_neg,List.getElem?_eq_none,JH,Tr.p6]
theorem FZ{C:fg} (a:ti C) {Δ:Env} {args:List V} {fY:Array Value} (b:fV Δ args fY.toList) {k:Nat} (d:args.length<=k) :
  TR Δ k (C.start args) {tmps:=fY++Array.replicate (k-fY.size) undef,defers:=[]}:=by
 have c:=b.length;simp only[Qf]at c;refine⟨by simp;omega,λi=>?_,by rw[a.HV];exact .nil⟩;rw[a.start];simp only[XU];by_cases h:i<args.length
 ·rw[Array.getElem?_append_left (by omega)];obtain⟨x,e,f⟩:=b.get i args[i] (by simp_all)
  grind
 ·rw[List.getElem?_eq_none (by omega),Array.getElem?_append_right (by omega),YM];split <;> exact .undef Δ
def QI(tmps:Array Value):ResultVar->Sem Value
 | .tmp t=>pure (tmps.getD t undef)
 | .cell b ty=>do loadVar ty (<-asAddr (tmps.getD b undef))
theorem Nr{Δ:Env} {h:Hp} {w:World} {t:Tm} {a:Act} (j:WR Δ h w) (g:TR Δ n t a):∀{l:List ResultVar} {vs:List V},wX t h l=some vs->
  ∃xs,(l.mapM (QI a.tmps)).run P0 w = .ok xs w/\fV Δ vs xs
 |[],vs,c=>by simp[wX]at c;subst c;exact⟨[],by simp,.nil⟩
 | .tmp i::l,vs,c=>by
   simp only[wX,eE]at c;obtain⟨v,d,k,m,o⟩:=c;cases o;obtain⟨xs,u,q⟩:=Nr j g m;simp only[PK]at d;cases d;have y:(QI a.tmps (.tmp i)).run P0 w = .ok (a.tmps.getD i undef) w:=rfl
   exact⟨a.tmps.getD i undef::xs,by simp_all,.cons _ _ _ _ (g.rel i) q⟩
 | .cell b ty::l,vs,c=>by
   simp only[wX,eE]at c;obtain⟨v,d,k,m,o⟩:=c;cases o;obtain⟨xs,u,q⟩:=Nr j g m;simp only[PK]at d;obtain⟨x,s,z⟩:=Ht (xv:=a.tmps.getD b undef) j (λv c=>by cases c;exact g.rel b) d;have e:∃ad,a.tmps.getD b undef = .pointer (some ad):=by
     cases hx:a.tmps.getD b undef with
     | pointer p=>cases p with
       |some ad=>simp_all
       |none=>simp_all[Instr.loadAt,Instr.sureAddr]
     |_=>simp_all[Instr.loadAt,Instr.sureAddr]
   obtain⟨ad,f⟩:=e;rw[f]at s;have r:(loadVar ty ad).run P0 w = .ok x w:=by simpa[Instr.loadAt,Instr.sureAddr]using s
   have y:(QI a.tmps (.cell b ty)).run P0 w = .ok x w:=by simp only[QI,f,asAddr,qu,EN,pJ,r]
   exact⟨x::xs,by simp_all,.cons _ _ _ _ z q⟩
theorem HX{Δ:Env} {h:Hp} {w:World} {t:Tm} {a:Act} (e:WR Δ h w) (f:TR Δ n t a) {fn:Func} {vs:List V} (g:wX t h fn.results.toList=some vs) :
  ∃x,(results fn a.tmps).run P0 w = .ok x w/\fq Δ (vT vs) x:=by
 obtain ⟨xs,i,j⟩:=Nr e f g;have k:(results fn a.tmps).run P0 w = .ok (if h:xs.toArray.size=1 then xs.toArray[0] else .tuple xs.toArray) w:=by
  have h0:results fn a.tmps=(do let vs <-fn.results.mapM (QI a.tmps);pure (if h:vs.size=1 then vs[0] else .tuple vs)):=by
   unfold results;congr 1
  rw[h0,Array.mapM_eq_mapM_toList];simp only[qu,map_eq_pure_bind,i,pJ,EN]
 refine⟨_,k,?_⟩
 cases j with
 |nil=>exact .tuple _ #[] .nil
 | cons v x vs xs b c=>
   cases c with
   |nil=>exact b
   | cons l m vs xs d c=>
     rw[dif_neg (by simp)];exact .tuple _ _ (.cons _ _ _ _ b (.cons _ _ _ _ d c))
theorem NW{Δ m:Env} {h:Hp} {w w':World} {n:Nat} {fn:Func} {r:X×Tm×Hp} {b:Act} {v:V} {h':Hp} (d:tT Δ h w n r.2.1 r.2.2 m b w') (g:Qm fn r=some (v,h')) :
  (r.1 = .normal\/r.1 = .ret)/\b.defers=[]/\∃y,(results fn b.tmps).run P0 w' = .ok y w'/\∃c z,Ending.returned y = .returned z/\tc Δ h w v h' c z w':=by
 obtain⟨x,t',f⟩:=r
 have a:(match t'.ds with
   |[]=>oB (wX t' f fn.results.toList) λvs=>some (vT vs,f)
   |_::_=>none)=some (v,h')->b.defers=[]/\∃y,(results fn b.tmps).run P0 w' = .ok y w'/\
   ∃c z,Ending.returned y = .returned z/\tc Δ h w v h' c z w':=by
  intro e;split at e
  ·rename_i i;simp only[eE]at e;obtain⟨vs,j,e⟩:=e;cases e;obtain⟨y,o,k⟩:=HX d.world d.tmps j;have hd:=d.tmps.ds;simp only at hd;rw[i]at hd
   have l:b.defers=[]:=by cases hx:b.defers with
    |nil=>rfl
    |cons _ _=>rw[hx]at hd;cases hd
   exact⟨l,y,o,m,y,rfl,k,d.world,d.frame,d.grow⟩
  ·cases e
 cases x with
 |exit id=>cases g
 |normal=>exact⟨.inl rfl,a g⟩
 |ret=>exact⟨.inr rfl,a g⟩
theorem Ld{o:Oper} {c:Go.Call} (a:o.op = .call c) (hc:c.callee = .builtin .recover) (ρ:Operand->Value) (w:World):(execOp ρ o).run P0 w = .ok .recover w:=by
 unfold execOp;rw[a];simp only[qu,resolve,hc,EN,pJ];rfl
theorem OW{c a:Code} {d:Nat} (h:N1 c=some (d,a)):∃id o e,c = .seq (.region id #[o] false) a/\o.op = .call e/\e.callee = .builtin .recover/\o.guard=none/\o.dst=some d:=by
 unfold N1 at h;split at h
 ·rename_i id ops f;split at h
  ·rename_i o k;split at h
   ·rename_i e g;split at h
    ·rename_i l i j b;cases h;refine⟨id,o,e,?_,g,i,j,b⟩;congr 2
     grind
    ·cases h
   ·cases h
  ·cases h
 ·cases h
theorem Ra{C:fg} (z:ti C) (hc:pH call) {m f:Nat} {args:List V} {v:V} {h h':Hp} {Δ:Env} {w:World} {fY:Array Value} (a:(Fk C f).f call m args h=some (v,h'))
  (N:WR Δ h w) (P:fV Δ args fY.toList):(callFunc f fY).run P0 w = .ok (.enter f fY) w/\
   CallsD P0 f fY .returning w λe Q w'=>Q = .returning/\∃A x,e = .returned x/\tc Δ h w v h' A x w':=by
 unfold Fk at a;split at a
 ·rename_i fn B;split at a
  ·rename_i c O;refine⟨?_,?_⟩
   ·have U:=z.named f fn B
    simp_all[callFunc,qu,run_program,pJ,X8,LK,if_false]
   split at a
   ·rename_i d g q;simp only[fX,eE]at a;obtain⟨j,hd,r,D,E⟩:=a;have i:args.length<=fn.ntmps:=FY j;obtain⟨id,o,W,rfl,F,G,R,s⟩:=OW q;refine callsD_of_wpS B O λH cs u=>?_;have I:=FZ z P i;have J:qV fn.ntmps o=some ⟨λt v=>t.set d v⟩:=by unfold qV;rw[s];simp only[hd]
    have S:TR Δ fn.ntmps ((C.start args).set d .nilIface) (({tmps:=fY++Array.replicate (fn.ntmps-fY.size) undef,defers:=[]}:Act).put o.dst .nilIface):=Fx I J .nilIface;refine wpS_seq (wpS_region ?_);have BA:List.range (#[o]:Array Oper).size=[0]:=rfl;rw[BA];simp only[wpOpsS];have h0:(#[o]:Array Oper)[0]? =some o:=rfl;simp only[h0];have k:∀y,Region.wanted o y=true:=by grind[Region.wanted]
    rw[if_pos (k _),Ld F G];have l:recoverD (H::cs)=none:=by simp only[recoverD,u]
    simp only[l];show g.wpS P0 _ _ _ _;refine wpS_of_wp ?_;refine si hc z.mixed g N S D λA T w' K=>?_;obtain⟨b,n,y,L,M⟩:=NW K E;have p:({H with mode:= .returning}:Frame)=H:=by rw[<-u]
    rcases b with b|b <;> rw[b] <;> exact⟨n,.returning,by rw[p],y,L,rfl,M⟩
   ·simp only[fX,eE]at a;obtain⟨j,r,D,E⟩:=a;have i:args.length<=fn.ntmps:=FY j;refine callsD_of_wp B O ?_;refine si hc z.mixed c N (by grind[FZ]) D λA T w' K=>?_;obtain⟨b,n,y,L,M⟩:=NW K E;rcases b with b|b <;> rw[b] <;> exact⟨n,y,L,M⟩
  ·cases a
 ·cases a
theorem Oc{C:fg} (j:ti C) (hc:pH call) {m:Nat} {fn:Func} {tmps:Array Value} {R:Ending->World->Prop}:∀(l:List (Nat×List V)) {c:List Deferred} {Δ:Env} {h h':Hp} {w:World},
  IS C call m l h=some h'->WR Δ h w->DO Δ l c->
  (∀a w',WR a h' w'->FR Δ a w w'->Gr h Δ h' a->∃v,(results fn tmps).run P0 w' = .ok v w'/\R (.returned v) w')->Leaves P0 fn tmps R c .returning w
 | [],_,Δ,h,h',w,hv,hW,.nil,hR=>by
   cases hv
   exact hR Δ w hW (.refl _ _) (.refl _ _)
 | (g,args)::l,_,Δ,h,h',w,hv,hW,.cons _ _ cap fY _ c ha hl,hR=>by
   simp only[IS,eE]at hv;obtain⟨⟨v,u⟩,k,n⟩:=hv;obtain⟨o,p⟩:=Ra j hc k hW ha;refine leaves_cons (by simp_all) (f:=g) (args:=fY++cap) o ?_;refine CallsD.mono p λe y w' q=>?_;obtain⟨rfl,a,x,rfl,b⟩:=q;exact Oc j hc l n b.world (hl.mono b.frame.le) λd i r s t=>hR d i r (b.frame.trans s) (b.grow.trans t)
theorem Tj{C:fg} (j:ti C) (hc:pH call) {m:Nat}:pH λf args h=>(Ah C f).f call m args h:=by
 intro f args v h h' Δ w fY a n F;simp only at a;unfold Ah at a;split at a
 ·rename_i fn o;split at a
  ·rename_i c p;right;have b:(callFunc f fY).run P0 w = .ok (.enter f fY) w:=by
    have M:=j.named f fn o;simp only[callFunc,qu,run_program,pJ,o,M,p,X8,LK,if_false];rfl
   refine⟨b,?_⟩;simp only[Sw]at a
   cases hk:C.K f args h with
   | some u=>
     rw[hk]at a;simp only[fX,qU]at a;obtain⟨⟨k,q⟩,a⟩:=a;cases a;refine Calls.mono (j.known f args _ _ hk k q Δ w fY n (JB F k)) λe w' s=>?_;obtain⟨x,rfl,N,O⟩:=s
     exact⟨Δ,x,rfl,O.after n N⟩
   | none=>
     rw[hk]at a;simp only[fX,eE]at a;obtain⟨t,r,z,g⟩:=a;have G:args.length<=fn.ntmps:=FY t;refine calls_of_wp_defers o p ?_;refine si hc j.mixed c n (by grind[FZ]) z λH I w' l=>?_;obtain⟨x,t',A⟩:=r
     have d:(∃i,IS C call m t'.ds A=some i/\∃vs,wX t' i fn.results.toList=some vs/\some (vT vs,i)=some (v,h'))->
         Leaves P0 fn I.tmps (λe w'=>∃H x,e = .returned x/\tc Δ h w v h' H x w') I.defers .returning w':=by
       rintro⟨i,hd,vs,B,s⟩;cases s;refine Oc j hc _ hd l.world l.tmps.ds λD P J L Q=>?_;obtain⟨y,R,E⟩:=HX J (l.tmps.mono L.le) B;exact⟨y,R,D,y,rfl,E,J,l.frame.trans L,l.grow.trans Q⟩
     cases x with
     |exit id=>cases g
     |normal=>simp only[eE]at g;exact d g
     |ret=>simp only[eE]at g;exact d g
  ·rename_i p;left;simp only[eE]at a;obtain⟨u,z,g⟩:=a;cases g;obtain⟨x,i,S⟩:=j.ext f fn o p Δ args _ fY w z F;exact⟨x,i,S,n,.refl _ _,.refl _ _⟩
 ·cases a
theorem El{C:fg} (a:ti C) (m:Nat):∀d,pH (jI C m d)
 |0=>λf args v h h' Δ w fY b=>(nomatch b)
 |d+1=>Tj a (El a m d)
end
theorem JW(c:Nat) (hc:c<256):∀(l:List UInt8) (n:Nat),HR c l n=n+l.count (UInt8.ofNat c)
 |[],n=>by rfl
 | b ::l,n=>by
   simp only[HR];rw[JW c hc l,List.count_cons];have a:Nat.beq b.toNat c=(b == UInt8.ofNat c):=by
     rw[Ut];simp only[Jg];constructor
     ·intro h
      have h':b.toNat=c:=uW h;rw[<-h'];simp
     ·simp_all
   rw[a];cases b == UInt8.ofNat c
   ·simp
   grind
theorem JQ(c:Nat) (hc:c<256):∀(l:List UInt8) (n:Nat),(match KF c l n with|some i=>(i:Int)|none=>-1)=if Lib.indexByte l (UInt8.ofNat c) = -1 then -1 else Lib.indexByte l (UInt8.ofNat c)+n
 |[],n=>by rfl
 | b ::l,n=>by
   simp only[KF];have a:Nat.beq b.toNat c=(b == UInt8.ofNat c):=by
     rw[Ut];simp only[Jg];constructor
     ·intro h
      have h':b.toNat=c:=uW h;rw[<-h'];simp
     ·simp_all
   rw[a];unfold Lib.indexByte
   cases hbc:b == UInt8.ofNat c with
   |true=>simp
   | false=>
     have e:=JQ c hc l (n+1);have d:=Lib.indexByte_ge l (UInt8.ofNat c)
     grind
theorem OY{f:Nat} {fn:Func} (i:P0.funcs[f]? =some fn) (a:(fn.name == "runtime.NumGoroutine")=false) (j:fn.body.isNone=true) (k:Extern.findNext fn=none) (m:Extern.find fn=some Extern.BytealgCount.count)
  {Δ:Env} {args:List V} {v:V} {fY:Array Value} {w:World} (b:MP .countByte args=some v) (n:fV Δ args fY.toList):∃x,(callFunc f fY).run P0 w = .ok (.value x) w/\fq Δ v x:=by
 unfold MP at b;split at b
 ·rename_i s c _;rw[fX]at b;obtain⟨hc,b⟩:=b;have d:c<256:=by rw[Lb]at hc;exact hc
  cases b;obtain⟨l⟩:=fY
  cases n with
  | cons _ x _ xs h g=>
    cases g with
    | cons _ y _ ys o g=>
      cases g;cases o;generalize hsl:s=sl at h
      cases h with
      | str sb=>
        have p:=Lib.run_countString (P:=P0) sb (Int.ofNat c) w;refine⟨.int .i64 (Lib.countByte sb.data.toList (Int.ofNat c).toNat.toUInt8),?_,?_⟩
        ·rw[run_callFunc_extern i a j k m]
         simp_all
        have e:HR c sb.data.toList 0=Lib.countByte sb.data.toList (Int.ofNat c).toNat.toUInt8:=by
          rw[JW c d,EM];rfl
        rw[e];exact .int _ _
 ·simp_all
 ·cases b
theorem PM{f:Nat} {fn:Func} (j:P0.funcs[f]? =some fn) (b:(fn.name == "runtime.NumGoroutine")=false) (k:fn.body.isNone=true) (m:Extern.findNext fn=none) (n:Extern.find fn=some Extern.BytealgIndexByte.indexByte)
  {Δ:Env} {args:List V} {v:V} {fY:Array Value} {w:World} (a:MP .indexByte args=some v) (o:fV Δ args fY.toList):∃x,(callFunc f fY).run P0 w = .ok (.value x) w/\fq Δ v x:=by
 unfold MP at a;split at a
 ·simp_all
 ·rename_i s c _;rw[fX]at a;obtain⟨hc,a⟩:=a;have d:c<256:=by rw[Lb]at hc;exact hc
  obtain⟨l⟩:=fY
  cases o with
  | cons _ x _ xs h g=>
    cases g with
    | cons _ y _ ys p g=>
      cases g;cases p;generalize hsl:s=sl at h
      cases h with
      | str sb=>
        have q:=Lib.run_indexByteString (P:=P0) sb (Int.ofNat c) w;refine⟨.int .i64 (Lib.indexByte sb.data.toList (Int.ofNat c).toNat.toUInt8),?_,?_⟩
        ·rw[run_callFunc_extern j b k m n]
         simp_all
        have e:=JQ c d sb.data.toList 0;have e2:(if Lib.indexByte sb.data.toList (UInt8.ofNat c) = -1 then -1 else Lib.indexByte sb.data.toList (UInt8.ofNat c)+((0:Nat):Int))=Lib.indexByte sb.data.toList (Int.ofNat c).toNat.toUInt8:=by
          show _=Lib.indexByte sb.data.toList (UInt8.ofNat c);split
          ·omega
          ·simp
        rw[e2]at e;rw[<-e];rw[hsl]at a;split at a
        ·rename_i i hi;cases a;rw[hi];exact .int _ _
        ·rename_i hi;cases a;rw[hi];exact .int _ _
 ·cases a
def Kept(W W':World):Prop:=W'.os=W.os/\W'.output=W.output/\W.heap.size<=W'.heap.size/\∀b,b<W.heap.size->W'.heap[b]? =W.heap[b]?
theorem Kept.but{W W':World} (h:Kept W W') (a:MemPlace->Prop):W.keptBut W' a:=by
 refine⟨h.1,h.2.1,λi hi=>?_⟩;rw[h.2.2.2 i hi]
 grind
theorem FR.kept{Δ a:Env}{w w':World}(h:FR Δ a w w')(c:∀b,¬RW Δ b):Kept w w':=⟨h.os,h.output,h.size,λb d=>h.eD b d (c b)⟩
def isTrue:Option (V×Hp)->Bool
 |some (.bool true,_)=>true
 |_=>false
theorem yY.none{Δ:Env}{w:World}(h:yY Δ w):yY (λ_=>none) w:=λg c a=>⟨(h g c a).1,by simp_all⟩
theorem WR.start(n:Nat) (a:P0.globals.size<=n) (w:World) (b:yY (λ_=>none) w):WR (λ_=>none) {next:=n,tr:= .leaf} w:=
 ⟨by simp_all,by simp_all,by simp_all,by simp_all,by grind[Hp.get_eq,Tr.p6],a,b⟩
theorem known{C:fg} (k:ti C) {m d n f:Nat} (w:P0.globals.size<=n) (g:∃fn c,P0.funcs[f]? =some fn/\fn.body=some c) (a:isTrue (jI C m d f [] {next:=n,tr:= .leaf})=true) (W:World) (y:yY (λ_=>none) W) :
  Calls P0 f #[] W λe W'=>e = .returned (.bool true)/\Kept W W':=by
 cases hr:jI C m d f [] {next:=n,tr:= .leaf} with
 |none=>rw[hr]at a;cases a
 | some r=>
   obtain ⟨v,h'⟩:=r;rw[hr]at a;have h:v = .bool true:=by
     unfold isTrue at a;split at a
     ·simp_all
     ·cases a
   subst h;rcases El k m d f [] _ _ _ (λ_=>none) W #[] hr (by grind[WR.start]) .nil with⟨x,z,_⟩|⟨_,q⟩
   ·exfalso
    obtain ⟨fn,c,o,i⟩:=g;have j:=k.named f fn o;have:(callFunc f #[]).run P0 W = .ok (.enter f #[]) W:=by
      simp only[callFunc,qu,run_program,pJ,o,j,i,X8,LK,if_false];rfl
    simp_all
   ·refine Calls.mono q λe w' s=>?_
    obtain⟨A,x,rfl,p⟩:=s;have t:=p.val;cases t;exact⟨rfl,p.frame.kept λb g=>(by obtain⟨l,d,u,_⟩:=g;cases u)⟩
open Go.ChangeShapes Go.WideShapes in
theorem Pl {H:Type} {enc:TypeId×Value->H} {P:Program} {f:Func} {s:ChangeSpec} {apart fresh handsOn again:Bool} {W W':World} {args:Array Value} {v:Value} {ds gs:List (DataW H)}
  {before pa pv:List MemPlace} (hW:DataW.Whole enc P f.params.toList s.vars apart W args.toList ds gs before)
  (Xl:∀(b:Nat) (sp:Nat->Bool) (hd:Bool),DataW.TrodAll enc P W' b sp hd f.resultTypes.toList (v.resultList f.resultTypes.size) (s.fn H (ds++gs)).results [])
  (UC:∀sp:Nat->Bool,(∀p∈before,sp p.block=true)->DataW.TrodAll enc P W' 0 sp true f.params.toList args.toList (s.fn H (ds++gs)).args pa)
  (UU:∀sp:Nat->Bool,(∀p∈before,sp p.block=true)->DataW.TrodVars enc P W' sp s.vars (s.fn H (ds++gs)).vars pv)
  (hps:before=pa++pv) (hk:Kept W W')
  (hok:∀(j:Nat) (t:TypeId) (r:Value),f.resultTypes[j]? =some t->(v.resultList f.resultTypes.size)[j]? =some r->Value.okWide P W' .any 0 t r) :
  s.post enc P f apart fresh handsOn again W args v W':=by
 have IX:∀p∈before,p.block<W.heap.size:=λp hp=>hW.lt p hp;have hold:∀p∈before,(λb=>decide (b<W.heap.size)) p.block=true:=by simp_all
 refine⟨ds,gs,before,[],pa,pv,hW,Xl _ _ _,UC _ hold,UU _ hold,hk.but _,λ_=>?_⟩;obtain⟨_,_,_,_,_,hz,hn⟩:=hW;refine⟨hok,_,_,([]++pa)++pv,⟨[]++pa,pv,trodAll_append (UC _ (λ_ _=>rfl)) (Xl _ _ _),UU _ (λ_ _=>rfl),rfl,?_,?_⟩,?_⟩
 ·intro b off hp;have hp':MemPlace.cell b off∈before:=by rw[hps];simpa using hp
  have hz':=hz b off hp';have hb:=IX _ hp';have he:W'.frozen? ⟨b,off,none⟩=W.frozen? ⟨b,off,none⟩:=by
   unfold World.frozen?;have:=hk.2.2.2 b hb;simp only at this⊢;rw[this]
  simp_all
 ·simp_all
 simp_all
