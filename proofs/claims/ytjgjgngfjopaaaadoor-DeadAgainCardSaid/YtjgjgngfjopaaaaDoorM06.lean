/- Parts. -/
import Derived.Test.YtjgjgngfjopaaaaDoorM05
import Derived.Defers
import Derived.Recover
import Derived.Lib.Bytealg
import Derived.Laws.Externs
import Derived.ChangeSame
import Derived.RowKit3
namespace Go.Proofs.YtjgjgngfjopaaaaDoor.Hx
structure Still (W W':World):Prop where
 os:W'.os=W.os
 tape:W'.tape=W.tape
 output:W'.output=W.output
 size:W.heap.size<=W'.heap.size
 fk:∀b,b<W.heap.size->W'.heap[b]? =W.heap[b]?
theorem FR.still{Δ a:Env}{w w':World}(h:FR Δ a w w')(c:∀b,¬RW Δ b):Still w w':=⟨h.os,h.tape,h.output,h.size,λb d=>h.fk b d (c b)⟩
theorem zdD(b:Nat):¬RW (λ_=> .none) b:=λ⟨_,_,a,_⟩=>nomatch a
theorem Still.after{Δ:Env} {h:Hp} {W W':World} (hs:Still W W') (a:WR Δ h W) {v:V} {x:Value} (hv:fM (λ_=> .none) v x):yQ Δ h W v h Δ x W' where
 val:=hv.mono λ_ _ (h:(none:Option D)=some _)=>by cases h
 world:=⟨a.fresh,λl d c=>BL (a.nW l d c) hs.size,λl d c=>by rw[hs.fk _ (a.nW l d c)];exact a.obj l d c,a.apart,a.HL,a.yJ,a.Ts.step (λb e _=>hs.fk b e) λ_ _ h _=> .inl h⟩
 frame:=⟨Env.le_refl _,hs.size,hs.os,hs.tape,hs.output,λb e _=>hs.fk b e,λ_ _ h=> .inl h⟩
 grow:= .refl _ _
theorem QA{Δ a:Env} {v:V} {x:Value} (h:fM Δ v x) (c:v.flat=true):fM a v x:=by
 cases h with
 |bool b=>exact .bool b
 |int k n=>exact .int k n
 |str s=>exact .str s
 |nilPtr=>exact .nilPtr
 |ee=>exact .ee
 |lZ=>exact .lZ
 |nilFunc=>exact .nilFunc
 |nilIface=>exact .nilIface
 |_=>simp[V.flat]at c
theorem Nq{Δ a:Env}:∀{vs:List V} {xs:List Value},gM Δ vs xs->PE vs=true->gM a vs xs
 |[],_,.nil,_=> .nil
 | v::vs,_,.cons _ _ _ _ h hs,hf=>by
   simp only[PE,wCH,uZ]at hf;exact .cons _ _ _ _ (QA h hf.1) (Nq hs hf.2)
structure xd (C:fu):Prop where
 Mf:∀args,(C.start args).ds=[]
 start:∀args i,jL (C.start args) i=(args[i]?).getD .undef
 mixed:P0.follows .mixedOrders=true
 named:∀(f:Nat) (fn:Func),P0.funcs[f]? =some fn->(fn.name == "runtime.NumGoroutine")=false
 ext:∀(f:Nat) (fn:Func),P0.funcs[f]? =some fn->fn.body=none->∀(Δ:Env) (args:List V) (v:V) (gN:Array Value) (w:World),RN (C.ext f) args=some v->gM Δ args gN.toList->
  ∃x,(callFunc f gN).run P0 w = .ok (.value x) w/\fM Δ v x
 known:∀(f:Nat) (args:List V) (v:V) (h:Hp),C.K f args h=some v->PE args=true->v.flat=true->∀(Δ:Env) (W:World) (gN:Array Value),WR Δ h W->gM (λ_=> .none) args gN.toList->
  Calls P0 f gN W λe W'=>∃x,e = .returned x/\fM (λ_=> .none) v x/\Still W W'
section
variable{n:Nat}{call:Call}
theorem JW{jY ws:List It} (b:∀x∈ws,x∈jY):∀(l:List It) (k:Nat),(∀x∈l,x∈jY)->∀a∈order jY ws l k,a∈jY
 |[],k,_,a,ha=>(MS.1 ha).1
 | w::l,k,hl,a,ha=>by
   simp only[order,BK,Jq]at ha;rcases ha with h|rfl|h
   ·exact(MS.1 h).1
   ·exact hl _ (by simp)
   ·exact JW b l (k+1) (λx c=>hl x (by simp[c])) a h
theorem NQ(hc:vU call) (p:P0.follows .mixedOrders=true) {id:Nat} {ops:Array Oper} {Δ:Env} {h:Hp} {w:World} {t:Tm} {a:Act} (E:WR Δ h w) (H:TR Δ n t a)
  {r:Tm×Hp} (hp:qC (iL ops)=true) (I:(iL ops).all (CR (iL ops))=true) (J:(iL ops).all Bd=true) (s:vI (iL ops) (gX (iL ops)) (order (iL ops) (gX (iL ops)) (gX (iL ops)) 0) 0 0=true)
  (hv:(xE n ops.toList (gX (iL ops)) (order (iL ops) (gX (iL ops)) (gX (iL ops)) 0) 0).f call t h []=some r) {Q:Exit->Act->World->Prop} (K:∀A F w',BA Δ h w n r.1 r.2 A F w'->Q .normal F w')
  (u:∀T:Tc,tL n ops.toList (iL ops) (gX (iL ops)) call t h (order (iL ops) (gX (iL ops)) (gX (iL ops)) 0) 0 0 h [] r T T->∀(fuel:Nat) (c:Array Bool) (v:Act) (w':World) (j:Nat) (A:Env) (t':Tm) (a:It),0<=j->c.toList.count false<=fuel+1->
   Inv n ops t h Δ w T c j A t' v w'->a∈iL ops->cls a.o=2->c.getD a.i false=false->(∀x∈iL ops,a.b.testBit x.i=true->c.getD x.i false=true)->(gX (iL ops))[j]?≠some a->
   wpOp P0 ops Q a.i (wpAny P0 .any ops Q fuel (c.setIfInBounds a.i true)) v w'):(Code.region id ops true).wp P0 Q a w:=by
 have k:∀x∈order (iL ops) (gX (iL ops)) (gX (iL ops)) 0,x∈iL ops:=JW (λx l=>(oC l).1) _ _ (λx l=>(oC l).1)
 let L:Tc:=⟨λ_=>false,λ_=> .undef,λ_=> .tree .leaf [],λ_=>0,λ_=>0,λ_=>default,λ_=>h,λ_=>h⟩
 obtain ⟨T,g⟩:=trace (n:=n) (all:=ops.toList) (jY:=iL ops) (ws:=gX (iL ops)) (call:=call) (t0:=t) (h0:=h) sN hp _ 0 0 t h [] r L k s hv (λa P l=>by simp at l)
  (λd=>(HR (λa _ _=>by simp) _).symm) (jj _) (λj M=>by omega) (Kl _)
 have y:tL n ops.toList (iL ops) (gX (iL ops)) call t h _ 0 0 h [] r T T:=
  ⟨λi hi=>by simp at hi,λj M=>by omega,g.item,g.CL,g.more,g.chain,g.UJ,g.TC,g.last,g.pe,g.done,g.kle⟩
 refine wp_region_any p (TT (T:=T) (Δ0:=Δ) (w0:=w) (h0:=h) (t0:=t) hc hp I J 0 (u T y) k y (A9 _ _ hv) K ops.size _ a _ 0 Δ t (jj _) ?_ ⟨by simp,λx l m=>?_,Kl _,λq x hq=>?_,H,λd=>?_,(E.heap (w':={w with drawn:=w.drawn+1}) rfl).Pe g.more,
  ⟨Env.le_refl _,jj _,rfl,rfl,rfl,λ_ _ _=>rfl,λ_ _ h=> .inl h⟩,λ_ h _=>h,rfl,λx l N O _ _=>?_⟩)
 ·refine Gt List.count_le_length ?_;simp
 ·simp only[wBj,wCC]at m;split at m <;> simp at m
 ·constructor
  ·intro z;simp only[wBj,wCC]at z;split at z <;> simp at z
  ·intro z;omega
 ·refine(HR (λx _ _=>?_) _).symm;simp only[wBj,wCC];split <;> rfl
 ·have B:x∈order (iL ops) (gX (iL ops)) (gX (iL ops)) 0:=by
   rcases g.done x l with C|C
   ·simp at C
   ·obtain⟨b,G,D⟩:=K4.1 C;rw[wz l (k b G) D.symm];exact G
  have:=g.UJ x B N O
  cases hd':Δ (T.pl x.i)with
  |none=>rfl
  |some e=>have:=E.fresh _ _ hd';omega
theorem YA(hc:vU call) (d:P0.follows .mixedOrders=true) {id:Nat} {ops:Array Oper} {Δ:Env} {h:Hp} {w:World} {t:Tm} {a:Act} (s:WR Δ h w) (u:TR Δ n t a)
  {r:Tm×Hp} (hv:(MA n ops.toList).f call t h=some r) {Q:Exit->Act->World->Prop} (j:∀z v w',BA Δ h w n r.1 r.2 z v w'->Q .normal v w'):(Code.region id ops true).wp P0 Q a w:=by
 unfold MA at hv;split at hv
 ·rename_i b;simp only[uZ,OR]at b;obtain⟨⟨⟨⟨hp,g⟩,i⟩,k⟩,c⟩:=b;exact NQ hc d s u hp g i c hv j λT _=>UD k
 ·split at hv
  ·rename_i pr l b;simp only[uZ,Om]at b;obtain⟨⟨⟨hp,g⟩,i⟩,c⟩:=b;simp only[ft,g0]at hv;obtain⟨r',hv,m,A⟩:=hv;cases A;obtain⟨x,y,da,db⟩:=pr;obtain⟨B,C,D,E,F,G,H⟩:=QK l;obtain⟨p,I,J,g3⟩:=Mu B;have e:∀x∈order (iL ops) (gX (iL ops)) (gX (iL ops)) 0,x∈iL ops:=JW (λx o=>(oC o).1) _ _ (λx o=>(oC o).1);exact NQ hc d s u hp g i c hv j λT q=>XB hc hp g i e q ⟨I,J,g3,C,D,E,F,G,H,m⟩ (A9 _ _ hv) j
  ·cases hv
def X.to:X->Exit
 | .normal=> .normal
 | .exit id=> .exit id
 | .ret=> .ret
theorem IN{r:Option (X×Tm×Hp)} {k:Tm->Hp->Option (X×Tm×Hp)} {y:X×Tm×Hp} (h:El r k=some y) :
  (∃t h',r=some (.normal,t,h')/\k t h' = some y)\/(r=some y/\y.1≠ .normal):=by
 unfold El at h;split at h
 ·exact .inl ⟨_,_,rfl,h⟩
 ·rename_i a;subst h;refine .inr ⟨rfl,λe=>?_⟩;obtain⟨x,t,h'⟩:=y;simp only at e;subst e;exact a t h' rfl
theorem TK{next:Act->World->Prop} {Q:Exit->Act->World->Prop} {x:X} (b:x≠ .normal) {a:Act} {w:World} (h:Q x.to a w):Exit.then next Q x.to a w:=by
 cases x with
 |normal=>exact absurd rfl b
 |exit id=>exact h
 |ret=>exact h
theorem vV(hc:vU call) (g:P0.follows .mixedOrders=true) {m:Nat}:∀(c:Code) {Δ:Env} {h:Hp} {w:World} {t:Tm} {a:Act},WR Δ h w->TR Δ n t a->∀{r:X×Tm×Hp},
  (iB n c).f call m t h=some r->∀{Q:Exit->Act->World->Prop},(∀q o w',BA Δ h w n r.2.1 r.2.2 q o w'->Q r.1.to o w')->c.wp P0 Q a w
 | .skip,Δ,h,w,t,a,i,j,r,hv,Q,d=>by cases hv;exact wp_skip (d _ _ _ (.start j i))
 | .seq x y,Δ,h,w,t,a,i,j,r,hv,Q,d=>by
   simp only[iB]at hv;refine wp_seq ?_;rcases IN hv with⟨I,u,z,A⟩|⟨z,A⟩
   ·exact vV hc g x i j z λq o w' l=>vV hc g y l.world l.tmps A λD E F B=>d _ _ _ (l.trans B)
   ·exact vV hc g x i j z λq o w' l=>TK A (d _ _ _ l)
 | .cond c x y,Δ,h,w,t,a,i,j,r,hv,Q,d=>by
   simp only[iB,ft]at hv;obtain⟨v,u,s⟩:=hv;have C:=kS i j u;split at s
   ·rename_i b
    generalize hx:a.eval c=xv at C;cases C
    cases b with
    |true=>exact wp_cond_true hx (vV hc g x i j s d)
    |false=>exact wp_cond_false hx (vV hc g y i j s d)
   ·cases s
 | .block id c,Δ,h,w,t,a,i,j,r,hv,Q,d=>by
   simp only[iB]at hv;refine wp_block ?_
   cases C:(iB n c).f call m t h with
   |none=>rw[C]at hv;cases hv
   | some r'=>
     rw[C]at hv;refine vV hc g c i j C λq o w' l=>?_;obtain⟨x,t',h'⟩:=r'
     cases x with
     |normal=>cases hv;exact d _ _ _ l
     |ret=>cases hv;exact d _ _ _ l
     | exit p=>
       simp only[JM]at hv;show if p=id then Q .normal o w' else Q (.exit p) o w'
       cases hb:Nat.beq p id with
       | true=>
         rw[hb]at hv;have:=vK hb;rw[if_pos this];cases hv
         exact d _ _ _ l
       | false=>
         rw[hb]at hv;have:p≠id:=λe=>by subst e;rw[QN]at hb;cases hb
         rw[if_neg this];cases hv
         exact d _ _ _ l
 | .loop c,Δ,h,w,t,a,i,j,r,hv,Q,d=>by
   simp only[iB]at hv;refine Ey.wp ?_
   have G:∀(k:Nat) {Δ:Env} {h:Hp} {w:World} {t:Tm} {a:Act},WR Δ h w->TR Δ n t a->EI (λt h=>(iB n c).f call m t h) k t h=some r->
       (∀q o w',BA Δ h w n r.2.1 r.2.2 q o w'->Q r.1.to o w')->Ey c Q a w:=by
     intro k
     induction k with
     |zero=>intro Δ h w t a _ _ hv _;cases hv
     | succ k J=>
       intro Δ h w t a i j hv d;have H:El ((iB n c).f call m t h) (EI (λt h=>(iB n c).f call m t h) k)=some r:=hv;refine Ey.round ?_;rcases IN H with⟨I,u,z,A⟩|⟨z,A⟩
       ·exact vV hc g c i j z λq o w' l=>J l.world l.tmps A λD E F B=>d _ _ _ (l.trans B)
       ·exact vV hc g c i j z λq o w' l=>TK A (d _ _ _ l)
   exact G m i j hv d
 | .exit id,Δ,h,w,t,a,i,j,r,hv,Q,d=>by cases hv;exact wp_exit (d _ _ _ (.start j i))
 | .ret,Δ,h,w,t,a,i,j,r,hv,Q,d=>by cases hv;exact wp_ret (d _ _ _ (.start j i))
 | .region id ops false,Δ,h,w,t,a,i,j,r,hv,Q,d=>by
   simp only[iB,ft]at hv;obtain⟨r',u,s⟩:=hv;cases s;refine wp_region ?_;have:=N2 (Q:=Q) hc ops.toList 0 rfl i j u d;rw[List.range_eq_range']
   simpa using this
 | .region id ops true,Δ,h,w,t,a,i,j,r,hv,Q,d=>by
   simp only[iB,ft]at hv;obtain⟨r',u,s⟩:=hv;cases s
   exact YA hc g i j u d
 | .rangeFunc ..,Δ,h,w,t,a,i,j,r,hv,Q,d=>by cases hv
 | .scope _,Δ,h,w,t,a,i,j,r,hv,Q,d=>by cases hv
 | .label _,Δ,h,w,t,a,i,j,r,hv,Q,d=>by cases hv
 | .goto _,Δ,h,w,t,a,i,j,r,hv,Q,d=>by cases hv
 | .refuse _,Δ,h,w,t,a,i,j,r,hv,Q,d=>by cases hv
noncomputable def Oe(t:Tr V)(i:Nat):V:=Option.rec (motive:=λ_=>V) V.undef (λv=>v) (t.get i)
theorem Vn(t:Tr V)(d i:Nat)(v:V):Oe (t.set d v) i=if d=i then v else Oe t i:=Ms (.tree t []) d i v
theorem NP:∀(args:List V) (i:Nat) (t:Tr V) (j:Nat),Oe (PN args i t) j=if i<=j/\j<i+args.length then args[j-i]?.getD .undef else Oe t j
 |[],i,t,j=>by rw[if_neg (by simp only[XZ];omega)];rfl
 | v ::vs,i,t,j=>by
   simp only[PN];rw[NP vs (i+1) (t.set i v) j];by_cases a:i+1<=j/\j<i+1+vs.length
   ·rw[if_pos a,if_pos (by simp only[Dz];omega)]
    have:j-i=(j-(i+1))+1:=by omega
    rw[this,QB]
   ·rw[if_neg a,Vn]
    by_cases b:i=j
    ·subst b
     rw[if_pos rfl,if_pos (by simp only[Dz];omega)];simp
    ·rw[if_neg b,if_neg (by simp only[Dz];omega)]
theorem RQ(args:List V) (i:Nat):jL (SJ args) i=(args[i]?).getD .undef:=by
 have h:=NP args 0 .leaf i;rw[show jL (SJ args) i=Oe (PN args 0 .leaf) i from rfl,h];by_cases h:i<args.length
 ·rw[if_pos (by omega),Nat.sub_zero]
 ·rw[if_neg (by omega),KT (by omega)];unfold Oe;rw[Tr.nV];rfl
theorem Jy{C:fu} (b:xd C) {Δ:Env} {args:List V} {gN:Array Value} (c:gM Δ args gN.toList) {k:Nat} (g:args.length<=k) :
  TR Δ k (C.start args) {tmps:=gN++Array.replicate (k-gN.size) undef,defers:=[]}:=by
 have d:=c.length;simp only[Ui]at d;refine⟨by simp;omega,λi=>?_,by rw[b.Mf];exact .nil⟩;rw[b.start];simp only[wBj];by_cases h:i<args.length
 ·rw[wB0 (by omega)];obtain⟨x,e,f⟩:=c.get i args[i] (gP h);have a:gN[i]? =some x:=by simpa using e
  rw[a,gP h];exact f
 ·rw[KT (by omega),Array.getElem?_append_right (by omega),wCC];split <;> exact .undef Δ
def WS(tmps:Array Value):ResultVar->Sem Value
 | .tmp t=>pure (tmps.getD t undef)
 | .cell b ty=>do loadVar ty (<-asAddr (tmps.getD b undef))
theorem RZ{Δ:Env} {h:Hp} {w:World} {t:Tm} {a:Act} (j:WR Δ h w) (g:TR Δ n t a):∀{l:List ResultVar} {vs:List V},Ae t h l=some vs->
  ∃xs,(l.mapM (WS a.tmps)).run P0 w = .ok xs w/\gM Δ vs xs
 |[],vs,hv=>by simp[Ae]at hv;subst hv;exact⟨[],by simp,.nil⟩
 | .tmp i::l,vs,hv=>by
   simp only[Ae,ft]at hv;obtain⟨v,d,k,m,o⟩:=hv;cases o;obtain⟨xs,q,r⟩:=RZ j g m;simp only[Vj]at d;cases d;have hp:(WS a.tmps (.tmp i)).run P0 w = .ok (a.tmps.getD i undef) w:=rfl
   exact⟨a.tmps.getD i undef::xs,by simp only[List.mapM_cons,qh,Gk,py,hp,q],.cons _ _ _ _ (g.rel i) r⟩
 | .cell b ty::l,vs,hv=>by
   simp only[Ae,ft]at hv;obtain⟨v,d,k,m,o⟩:=hv;cases o;obtain⟨xs,q,r⟩:=RZ j g m;simp only[Vj]at d;obtain⟨x,c,u⟩:=Mc (xv:=a.tmps.getD b undef) j (λv hv=>by cases hv;exact g.rel b) d;have e:∃ad,a.tmps.getD b undef = .pointer (some ad):=by
     cases hx:a.tmps.getD b undef with
     | pointer p=>cases p with
       |some ad=>exact⟨ad,rfl⟩
       |none=>rw[hx]at c;simp[Instr.loadAt,Instr.sureAddr]at c
     |_=>rw[hx]at c;simp[Instr.loadAt,Instr.sureAddr]at c
   obtain⟨ad,f⟩:=e;rw[f]at c;have s:(loadVar ty ad).run P0 w = .ok x w:=by simpa[Instr.loadAt,Instr.sureAddr]using c
   have hp:(WS a.tmps (.cell b ty)).run P0 w = .ok x w:=by simp only[WS,f,asAddr,qh,Gk,py,s]
   exact⟨x::xs,by simp only[List.mapM_cons,qh,Gk,py,hp,q],.cons _ _ _ _ u r⟩
theorem LQ{Δ:Env} {h:Hp} {w:World} {t:Tm} {a:Act} (d:WR Δ h w) (e:TR Δ n t a) {fn:Func} {vs:List V} (hv:Ae t h fn.results.toList=some vs) :
  ∃x,(results fn a.tmps).run P0 w = .ok x w/\fM Δ (zt vs) x:=by
 obtain ⟨xs,f,g⟩:=RZ d e hv;have i:(results fn a.tmps).run P0 w = .ok (if h:xs.toArray.size=1 then xs.toArray[0] else .tuple xs.toArray) w:=by
  have h0:results fn a.tmps=(do let vs <-fn.results.mapM (WS a.tmps);pure (if h:vs.size=1 then vs[0] else .tuple vs)):=by
   unfold results;congr 1
  rw[h0,Array.mapM_eq_mapM_toList];simp only[qh,map_eq_pure_bind,f,py,Gk]
 refine⟨_,i,?_⟩
 cases g with
 |nil=>exact .tuple _ #[] .nil
 | cons v x vs xs b hs=>
   cases hs with
   |nil=>exact b
   | cons j k vs xs c hs=>
     rw[dif_neg (by simp)];exact .tuple _ _ (.cons _ _ _ _ b (.cons _ _ _ _ c hs))
theorem SZ{Δ m:Env} {h:Hp} {w w':World} {n:Nat} {fn:Func} {r:X×Tm×Hp} {b:Act} {v:V} {h':Hp} (d:BA Δ h w n r.2.1 r.2.2 m b w') (hv:WH fn r=some (v,h')) :
  (r.1 = .normal\/r.1 = .ret)/\b.defers=[]/\∃y,(results fn b.tmps).run P0 w' = .ok y w'/\∃c z,Ending.returned y = .returned z/\yQ Δ h w v h' c z w':=by
 obtain⟨x,t',f⟩:=r
 have a:(match t'.ds with
   |[]=>oB (Ae t' f fn.results.toList) λvs=>some (zt vs,f)
   |_::_=>none)=some (v,h')->b.defers=[]/\∃y,(results fn b.tmps).run P0 w' = .ok y w'/\
   ∃c z,Ending.returned y = .returned z/\yQ Δ h w v h' c z w':=by
  intro e;split at e
  ·rename_i i;simp only[ft]at e;obtain⟨vs,j,e⟩:=e;cases e;obtain⟨y,o,k⟩:=LQ d.world d.tmps j;have g:=d.tmps.ds;simp only at g;rw[i]at g
   have l:b.defers=[]:=by cases hx:b.defers with
    |nil=>rfl
    |cons _ _=>rw[hx]at g;cases g
   exact⟨l,y,o,m,y,rfl,k,d.world,d.frame,d.grow⟩
  ·cases e
 cases x with
 |exit id=>cases hv
 |normal=>exact⟨.inl rfl,a hv⟩
 |ret=>exact⟨.inr rfl,a hv⟩
theorem Qn{o:Oper} {c:Go.Call} (a:o.op = .call c) (hc:c.callee = .builtin .recover) (ρ:Operand->Value) (w:World):(execOp ρ o).run P0 w = .ok .recover w:=by
 unfold execOp;rw[a];simp only[qh,resolve,hc,Gk,py];rfl
theorem Uw{c a:Code} {d:Nat} (h:T0 c=some (d,a)):∃id o e,c = .seq (.region id #[o] false) a/\o.op = .call e/\e.callee = .builtin .recover/\o.guard=none/\o.dst=some d:=by
 unfold T0 at h;split at h
 ·rename_i id ops f;split at h
  ·rename_i o k;split at h
   ·rename_i e g;split at h
    ·rename_i l i j b;cases h;refine⟨id,o,e,?_,g,i,j,b⟩;congr 2;apply Array.ext';exact k
    ·cases h
   ·cases h
  ·cases h
 ·cases h
theorem Xz{C:fu} (p:xd C) (hc:vU call) {m f:Nat} {args:List V} {v:V} {h h':Hp} {Δ:Env} {w:World} {gN:Array Value} (hv:(Jx C f).f call m args h=some (v,h'))
  (O:WR Δ h w) (P:gM Δ args gN.toList):(callFunc f gN).run P0 w = .ok (.enter f gN) w/\
   CallsD P0 f gN .returning w λe u' w'=>u' = .returning/\∃A x,e = .returned x/\yQ Δ h w v h' A x w':=by
 unfold Jx at hv;split at hv
 ·rename_i fn z;split at hv
  ·rename_i c B;refine⟨?_,?_⟩
   ·have Q:=p.named f fn z;simp only[callFunc,qh,run_program,py,z,Q,B,wCK,MR,if_false];rfl
   split at hv
   ·rename_i d g q;simp only[g0,ft]at hv;obtain⟨i,R,r,D,E⟩:=hv;have a:args.length<=fn.ntmps:=Iu i;obtain⟨id,o,U,rfl,F,G,H,s⟩:=Uw q;refine callsD_of_wpS z B λI cs u=>?_;have J:=Jy p P a;have K:yz fn.ntmps o=some ⟨λt v=>t.set d v⟩:=by unfold yz;rw[s];simp only[R]
    have S:TR Δ fn.ntmps ((C.start args).set d .nilIface) (({tmps:=gN++Array.replicate (fn.ntmps-gN.size) undef,defers:=[]}:Act).put o.dst .nilIface):=Jk J K .nilIface;refine wpS_seq (wpS_region ?_);have LO:List.range (#[o]:Array Oper).size=[0]:=rfl;rw[LO];simp only[wpOpsS];have h0:(#[o]:Array Oper)[0]? =some o:=rfl;simp only[h0];have j:∀y,Region.wanted o y=true:=λy=>by unfold Region.wanted;rw[H]
    rw[if_pos (j _),Qn F G];have k:recoverD (I::cs)=none:=by simp only[recoverD,u]
    simp only[k];show g.wpS P0 _ _ _ _;refine wpS_of_wp ?_;refine vV hc p.mixed g O S D λA T w' L=>?_;obtain⟨b,l,y,M,N⟩:=SZ L E;have n:({I with mode:= .returning}:Frame)=I:=by rw[<-u]
    rcases b with b|b <;> rw[b] <;> exact⟨l,.returning,by rw[n],y,M,rfl,N⟩
   ·simp only[g0,ft]at hv;obtain⟨i,r,D,E⟩:=hv;have a:args.length<=fn.ntmps:=Iu i;refine callsD_of_wp z B ?_;refine vV hc p.mixed c O (Jy p P a) D λA T w' L=>?_;obtain⟨b,l,y,M,N⟩:=SZ L E;rcases b with b|b <;> rw[b] <;> exact⟨l,y,M,N⟩
  ·cases hv
 ·cases hv
theorem Tq{C:fu} (j:xd C) (hc:vU call) {m:Nat} {fn:Func} {tmps:Array Value} {R:Ending->World->Prop}:∀(l:List (Nat×List V)) {c:List Deferred} {Δ:Env} {h h':Hp} {w:World},
  Nc C call m l h=some h'->WR Δ h w->II Δ l c->
  (∀a w',WR a h' w'->FR Δ a w w'->Gr h Δ h' a->∃v,(results fn tmps).run P0 w' = .ok v w'/\R (.returned v) w')->Leaves P0 fn tmps R c .returning w
 | [],_,Δ,h,h',w,hv,hW,.nil,hR=>by
   cases hv
   exact hR Δ w hW (.refl _ _) (.refl _ _)
 | (g,args)::l,_,Δ,h,h',w,hv,hW,.cons _ _ cap gN _ c ha hl,hR=>by
   simp only[Nc,ft]at hv;obtain⟨⟨v,u⟩,k,n⟩:=hv;obtain⟨o,p⟩:=Xz j hc k hW ha;refine leaves_cons (by intro e;cases e) (f:=g) (args:=gN++cap) o ?_;refine CallsD.mono p λe u' w' q=>?_;obtain⟨rfl,a,x,rfl,b⟩:=q;exact Tq j hc l n b.world (hl.mono b.frame.le) λd i r s t=>hR d i r (b.frame.trans s) (b.grow.trans t)
theorem Ya{C:fu} (g:xd C) (hc:vU call) {m:Nat}:vU λf args h=>(DU C f).f call m args h:=by
 intro f args v h h' Δ w gN hv n q;simp only at hv;unfold DU at hv;split at hv
 ·rename_i fn o;split at hv
  ·rename_i c p;right;have a:(callFunc f gN).run P0 w = .ok (.enter f gN) w:=by
    have L:=g.named f fn o;simp only[callFunc,qh,run_program,py,o,L,p,wCK,MR,if_false];rfl
   refine⟨a,?_⟩;simp only[YL]at hv
   cases hk:C.K f args h with
   | some u=>
     rw[hk]at hv;simp only[g0,uZ]at hv;obtain⟨⟨j,s⟩,hv⟩:=hv;cases hv;refine Calls.mono (g.known f args _ _ hk j s Δ w gN n (Nq q j)) λe w' t=>?_;obtain⟨x,rfl,M,hs⟩:=t
     exact⟨Δ,x,rfl,hs.after n M⟩
   | none=>
     rw[hk]at hv;simp only[g0,ft]at hv;obtain⟨z,r,A,d⟩:=hv;have k:args.length<=fn.ntmps:=Iu z;refine calls_of_wp_defers o p ?_;refine vV hc g.mixed c n (Jy g q k) A λG H w' l=>?_;obtain⟨x,t',B⟩:=r
     have b:(∃i,Nc C call m t'.ds B=some i/\∃vs,Ae t' i fn.results.toList=some vs/\some (zt vs,i)=some (v,h'))->
         Leaves P0 fn H.tmps (λe w'=>∃G x,e = .returned x/\yQ Δ h w v h' G x w') H.defers .returning w':=by
       rintro⟨i,N,vs,D,t⟩;cases t;refine Tq g hc _ N l.world l.tmps.ds λE O I J P=>?_;obtain⟨y,Q,F⟩:=LQ I (l.tmps.mono J.le) D;exact⟨y,Q,E,y,rfl,F,I,l.frame.trans J,l.grow.trans P⟩
     cases x with
     |exit id=>cases d
     |normal=>simp only[ft]at d;exact b d
     |ret=>simp only[ft]at d;exact b d
  ·rename_i p;left;simp only[ft]at hv;obtain⟨u,A,d⟩:=hv;cases d;obtain⟨x,i,R⟩:=g.ext f fn o p Δ args _ gN w A q;exact⟨x,i,R,n,.refl _ _,.refl _ _⟩
 ·cases hv
theorem IH{C:fu} (a:xd C) (m:Nat):∀d,vU (kh C m d)
 |0=>λf args v h h' Δ w gN hv=>(nomatch hv)
 |d+1=>Ya a (IH a m d)
end
theorem Nv(c:Nat) (hc:c<256):∀(l:List UInt8) (n:Nat),Jp c l n=n+l.count (UInt8.ofNat c)
 |[],n=>by simp[Jp]
 | b ::l,n=>by
   simp only[Jp];rw[Nv c hc l,wCL];have a:Nat.beq b.toNat c=(b == UInt8.ofNat c):=by
     rw[Vw];simp only[z8];constructor
     ·intro h
      have h':b.toNat=c:=vK h;rw[<-h'];simp
     ·intro h
      rw[h];have:(UInt8.ofNat c).toNat=c:=by simp;omega
      rw[this];exact QN c
   rw[a];cases b == UInt8.ofNat c
   ·simp
   ·simp;omega
theorem NN(c:Nat) (hc:c<256):∀(l:List UInt8) (n:Nat),(match Mm c l n with|some i=>(i:Int)|none=>-1)=if Lib.indexByte l (UInt8.ofNat c) = -1 then -1 else Lib.indexByte l (UInt8.ofNat c)+n
 |[],n=>by simp[Mm,Lib.indexByte]
 | b ::l,n=>by
   simp only[Mm];have d:Nat.beq b.toNat c=(b == UInt8.ofNat c):=by
     rw[Vw];simp only[z8];constructor
     ·intro h
      have h':b.toNat=c:=vK h;rw[<-h'];simp
     ·intro h
      rw[h];have:(UInt8.ofNat c).toNat=c:=by simp;omega
      rw[this];exact QN c
   rw[d];unfold Lib.indexByte
   cases hbc:b == UInt8.ofNat c with
   |true=>simp
   | false=>
     have e:=NN c hc l (n+1);have f:=Lib.indexByte_ge l (UInt8.ofNat c);simp only[MR,if_false];rw[e];by_cases a:Lib.indexByte l (UInt8.ofNat c) = -1
     ·simp[a]
     ·have g:(Lib.indexByte l (UInt8.ofNat c) == -1)=false:=by simpa using a
      simp only[a,g,if_false,MR];rw[if_neg (by omega)];omega
theorem Vi{f:Nat} {fn:Func} (g:P0.funcs[f]? =some fn) (a:(fn.name == "runtime.NumGoroutine")=false) (i:fn.body.isNone=true) (j:Extern.findNext fn=none) (k:Extern.find fn=some Extern.BytealgCount.count)
  {Δ:Env} {args:List V} {v:V} {gN:Array Value} {w:World} (hv:RN .countByte args=some v) (m:gM Δ args gN.toList):∃x,(callFunc f gN).run P0 w = .ok (.value x) w/\fM Δ v x:=by
 unfold RN at hv;split at hv
 ·rename_i s c _;rw[g0]at hv;obtain⟨hc,hv⟩:=hv;have b:c<256:=by rw[Ns]at hc;exact hc
  cases hv;obtain⟨l⟩:=gN
  cases m with
  | cons _ x _ xs d hs=>
    cases hs with
    | cons _ y _ ys n hs=>
      cases hs;cases n;generalize lT:s=sl at d
      cases d with
      | str sb=>
        have o:=Lib.run_countString (P:=P0) sb (Int.ofNat c) w;refine⟨.int .i64 (Lib.countByte sb.data.toList (Int.ofNat c).toNat.toUInt8),?_,?_⟩
        ·rw[run_callFunc_extern g a i j k]
         show((Extern.BytealgCount.count #[.string sb,.int .u8 (Int.ofNat c)]).run P0 w).andThen _=_;rw[o];rfl
        have e:Jp c sb.data.toList 0=Lib.countByte sb.data.toList (Int.ofNat c).toNat.toUInt8:=by
          rw[Nv c b,yC];rfl
        rw[e];exact .int _ _
 ·exact absurd ‹Ext.countByte=Ext.indexByte› (by intro h;cases h)
 ·cases hv
theorem UN{f:Nat} {fn:Func} (g:P0.funcs[f]? =some fn) (a:(fn.name == "runtime.NumGoroutine")=false) (j:fn.body.isNone=true) (k:Extern.findNext fn=none) (m:Extern.find fn=some Extern.BytealgIndexByte.indexByte)
  {Δ:Env} {args:List V} {v:V} {gN:Array Value} {w:World} (hv:RN .indexByte args=some v) (n:gM Δ args gN.toList):∃x,(callFunc f gN).run P0 w = .ok (.value x) w/\fM Δ v x:=by
 unfold RN at hv;split at hv
 ·exact absurd ‹Ext.indexByte=Ext.countByte› (by intro h;cases h)
 ·rename_i s c _;rw[g0]at hv;obtain⟨hc,hv⟩:=hv;have b:c<256:=by rw[Ns]at hc;exact hc
  obtain⟨l⟩:=gN
  cases n with
  | cons _ x _ xs d hs=>
    cases hs with
    | cons _ y _ ys o hs=>
      cases hs;cases o;generalize lT:s=sl at d
      cases d with
      | str sb=>
        have p:=Lib.run_indexByteString (P:=P0) sb (Int.ofNat c) w;refine⟨.int .i64 (Lib.indexByte sb.data.toList (Int.ofNat c).toNat.toUInt8),?_,?_⟩
        ·rw[run_callFunc_extern g a j k m]
         show((Extern.BytealgIndexByte.indexByte #[.string sb,.int .u8 (Int.ofNat c)]).run P0 w).andThen _=_;rw[p];rfl
        have e:=NN c b sb.data.toList 0;have q:(if Lib.indexByte sb.data.toList (UInt8.ofNat c) = -1 then -1 else Lib.indexByte sb.data.toList (UInt8.ofNat c)+((0:Nat):Int))=Lib.indexByte sb.data.toList (Int.ofNat c).toNat.toUInt8:=by
          show _=Lib.indexByte sb.data.toList (UInt8.ofNat c);split
          ·rename_i h;exact h.symm
          ·simp
        rw[q]at e;rw[<-e];rw[lT]at hv;split at hv
        ·rename_i i hi;cases hv;rw[hi];exact .int _ _
        ·rename_i hi;cases hv;rw[hi];exact .int _ _
 ·cases hv
def Kept(W W':World):Prop:=W'.os=W.os/\W'.output=W.output/\W.heap.size<=W'.heap.size/\∀b,b<W.heap.size->W'.heap[b]? =W.heap[b]?
theorem Kept.DN{W W':World} (h:Kept W W') (a:MemPlace->Prop):W.keptBut W' a:=by
 refine⟨h.1,h.2.1,λi hi=>?_⟩;rw[h.2.2.2 i hi]
 cases W.heap[i]? with
 |none=>rfl
 |some o=>cases o <;> first|rfl|exact⟨rfl,rfl,rfl,λ_ _=>rfl⟩|exact .inr ⟨rfl,rfl⟩
theorem FR.kept{Δ a:Env}{w w':World}(h:FR Δ a w w')(c:∀b,¬RW Δ b):Kept w w':=⟨h.os,h.output,h.size,λb d=>h.fk b d (c b)⟩
def isTrue:Option (V×Hp)->Bool
 |some (.bool true,_)=>true
 |_=>false
theorem Cd.none{Δ:Env}{w:World}(h:Cd Δ w):Cd (λ_=>none) w:=λg c a=>⟨(h g c a).1,λ_ _ e=>nomatch e⟩
theorem WR.start(n:Nat) (a:P0.globals.size<=n) (w:World) (b:Cd (λ_=>none) w):WR (λ_=>none) {next:=n,tr:= .leaf} w:=
 ⟨λ_ _ h=>(nomatch h),λ_ _ h=>(nomatch h),λ_ _ h=>(nomatch h),λ_ _ _ _ _ _ h=>(nomatch h),λg o _ h=>(by rw[Hp.get_eq]at h;simp only[Tr.nV]at h;split at h <;> cases h),a,b⟩
theorem known{C:fu} (k:xd C) {m d n f:Nat} (s:P0.globals.size<=n) (a:∃fn c,P0.funcs[f]? =some fn/\fn.body=some c) (hv:isTrue (kh C m d f [] {next:=n,tr:= .leaf})=true) (W:World) (t:Cd (λ_=>none) W) :
  Calls P0 f #[] W λe W'=>e = .returned (.bool true)/\Kept W W':=by
 cases hr:kh C m d f [] {next:=n,tr:= .leaf} with
 |none=>rw[hr]at hv;cases hv
 | some r=>
   obtain ⟨v,h'⟩:=r;rw[hr]at hv;have g:v = .bool true:=by
     unfold isTrue at hv;split at hv
     ·rename_i h;cases h;rfl
     ·cases hv
   subst g;rcases IH k m d f [] _ _ _ (λ_=>none) W #[] hr (WR.start n s W t) .nil with⟨x,o,_⟩|⟨_,u⟩
   ·exfalso
    obtain ⟨fn,c,p,i⟩:=a;have j:=k.named f fn p;have:(callFunc f #[]).run P0 W = .ok (.enter f #[]) W:=by
      simp only[callFunc,qh,run_program,py,p,j,i,wCK,MR,if_false];rfl
    rw[this]at o;cases o
   ·refine Calls.mono u λe w' h=>?_
    obtain⟨z,x,rfl,q⟩:=h;have w:=q.val;cases w;exact⟨rfl,q.frame.kept λb a=>(by obtain⟨l,d,y,_⟩:=a;cases y)⟩
open Go.ChangeShapes Go.WideShapes in
theorem Vb {H:Type} {enc:TypeId×Value->H} {P:Program} {f:Func} {s:ChangeSpec} {apart fresh handsOn again:Bool} {W W':World} {args:Array Value} {v:Value} {ds gs:List (DataW H)}
  {before pa pv:List MemPlace} (hW:DataW.Whole enc P f.params.toList s.vars apart W args.toList ds gs before)
  (zcm:∀(b:Nat) (sp:Nat->Bool) (hd:Bool),DataW.TrodAll enc P W' b sp hd f.resultTypes.toList (v.resultList f.resultTypes.size) (s.fn H (ds++gs)).results [])
  (zae:∀sp:Nat->Bool,(∀p∈before,sp p.block=true)->DataW.TrodAll enc P W' 0 sp true f.params.toList args.toList (s.fn H (ds++gs)).args pa)
  (Z6:∀sp:Nat->Bool,(∀p∈before,sp p.block=true)->DataW.TrodVars enc P W' sp s.vars (s.fn H (ds++gs)).vars pv)
  (hps:before=pa++pv) (hk:Kept W W')
  (hok:∀(j:Nat) (t:TypeId) (r:Value),f.resultTypes[j]? =some t->(v.resultList f.resultTypes.size)[j]? =some r->Value.okWide P W' .any 0 t r) :
  s.post enc P f apart fresh handsOn again W args v W':=by
 have Kh:∀p∈before,p.block<W.heap.size:=λp hp=>hW.lt p hp;have hold:∀p∈before,(λb=>decide (b<W.heap.size)) p.block=true:=λp hp=>by simpa using Kh p hp
 refine⟨ds,gs,before,[],pa,pv,hW,zcm _ _ _,zae _ hold,Z6 _ hold,hk.DN _,λ_=>?_⟩;obtain⟨_,_,_,_,_,hz,hn⟩:=hW;refine⟨hok,_,_,([]++pa)++pv,⟨[]++pa,pv,trodAll_append (zae _ (λ_ _=>rfl)) (zcm _ _ _),Z6 _ (λ_ _=>rfl),rfl,?_,?_⟩,?_⟩
 ·intro b off hp;have hp':MemPlace.cell b off∈before:=by rw[hps];simpa using hp
  have hz':=hz b off hp';have hb:=Kh _ hp';have he:W'.frozen? ⟨b,off,none⟩=W.frozen? ⟨b,off,none⟩:=by
   unfold World.frozen?;have:=hk.2.2.2 b hb;simp only at this⊢;rw[this]
  rw[he];exact hz'
 ·intro ha;have:=hn ha;rw[hps]at this;simpa using this
 ·intro p hp _;rw[hps];simpa using hp
