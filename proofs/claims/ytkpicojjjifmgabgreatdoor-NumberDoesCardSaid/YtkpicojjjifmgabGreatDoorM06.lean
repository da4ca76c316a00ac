/- Parts. -/
import Derived.Test.YtkpicojjjifmgabGreatDoorM05
import Derived.Defers
import Derived.Recover
import Derived.Lib.Bytealg
import Derived.Laws.Externs
import Derived.ChangeSame
import Derived.RowKit3
set_option maxHeartbeats 4000000
namespace Go.Proofs.YtkpicojjjifmgabGreatDoor.Hx
structure Still (W W':World):Prop where
 os:W'.os=W.os
 tape:W'.tape=W.tape
 output:W'.output=W.output
 size:W.heap.size<=W'.heap.size
 fj:∀b,b<W.heap.size->W'.heap[b]? =W.heap[b]?
theorem FR.still{Δ a:Env}{w w':World}(h:FR Δ a w w')(c:∀b,¬RW Δ b):Still w w':=⟨h.os,h.tape,h.output,h.size,λb hb=>h.fj b hb (c b)⟩
theorem zff(b:Nat):¬RW (λ_=> .none) b:=λ⟨_,_,a,_⟩=>nomatch a
theorem Still.after{Δ:Env} {h:Hp} {W W':World} (hs:Still W W') (a:WR Δ h W) {v:V} {x:Value} (hv:fR (λ_=> .none) v x):zX Δ h W v h Δ x W' where
 val:=hv.mono λ_ _ (h:(none:Option D)=some _)=>by cases h
 world:=⟨a.fresh,λl d c=>EK (a.pE l d c) hs.size,λl d c=>by rw[hs.fj _ (a.pE l d c)];exact a.obj l d c,a.apart,a.JJ,a.Ae,a.VM.step (λb hb _=>hs.fj b hb) (by simp_all)⟩
 frame:=⟨Env.le_refl _,hs.size,hs.os,hs.tape,hs.output,λb hb _=>hs.fj b hb,by simp_all⟩
 grow:= .refl _ _
theorem TB{Δ a:Env} {v:V} {x:Value} (h:fR Δ v x) (c:v.flat=true):fR a v x:=by
 cases h with
 |bool b=>exact .bool b
 |int k n=>exact .int k n
 |str s=>exact .str s
 |nilPtr=>exact .nilPtr
 |ei=>exact .ei
 |l0=>exact .l0
 |nilFunc=>exact .nilFunc
 |nilIface=>exact .nilIface
 |_=>grind[V.flat]
theorem PU{Δ a:Env}:∀{vs:List V} {xs:List Value},gQ Δ vs xs->Sa vs=true->gQ a vs xs
 |[],_,.nil,_=> .nil
 | v::vs,_,.cons _ _ _ _ h hs,hf=>by
   simp only[Sa,wBp,vH]at hf;exact .cons _ _ _ _ (TB h hf.1) (PU hs hf.2)
structure yx (C:fu):Prop where
 NR:∀args,(C.start args).ds=[]
 start:∀args i,kj (C.start args) i=(args[i]?).getD .undef
 mixed:P0.follows .mixedOrders=true
 named:∀(f:Nat) (fn:Func),P0.funcs[f]? =some fn->(fn.name == "runtime.NumGoroutine")=false
 ext:∀(f:Nat) (fn:Func),P0.funcs[f]? =some fn->fn.body=none->∀(Δ:Env) (args:List V) (v:V) (gW:Array Value) (w:World),UT (C.ext f) args=some v->gQ Δ args gW.toList->
  ∃x,(callFunc f gW).run P0 w = .ok (.value x) w/\fR Δ v x
 known:∀(f:Nat) (args:List V) (v:V) (h:Hp),C.K f args h=some v->Sa args=true->v.flat=true->∀(Δ:Env) (W:World) (gW:Array Value),WR Δ h W->gQ (λ_=> .none) args gW.toList->
  Calls P0 f gW W λe W'=>∃x,e = .returned x/\fR (λ_=> .none) v x/\Still W W'
section
variable{n:Nat}{call:Call}
theorem K1{kP ws:List It} (b:∀x∈ws,x∈kP):∀(l:List It) (k:Nat),(∀x∈l,x∈kP)->∀a∈order kP ws l k,a∈kP
 |[],k,_,a,ha=>(Rl.1 ha).1
 | w::l,k,hl,a,ha=>by
   simp only[order,He,IS]at ha;rcases ha with h|rfl|h
   ·exact(Rl.1 h).1
   ·simp_all
   ·exact K1 b l (k+1) (by simp_all) a h
theorem Pp(hc:xe call) (l:P0.follows .mixedOrders=true) {id:Nat} {ops:Array Oper} {Δ:Env} {h:Hp} {w:World} {t:Tm} {a:Act} (z:WR Δ h w) (C:TR Δ n t a)
  {r:Tm×Hp} (hp:rY (jc ops)=true) (D:(jc ops).all (EM (jc ops))=true) (E:(jc ops).all Cg=true) (m:xC (jc ops) (hZ (jc ops)) (order (jc ops) (hZ (jc ops)) (hZ (jc ops)) 0) 0 0=true)
  (hv:(yQ n ops.toList (hZ (jc ops)) (order (jc ops) (hZ (jc ops)) (hZ (jc ops)) 0) 0).f call t h []=some r) {Q:Exit->Act->World->Prop} (F:∀s A w',CD Δ h w n r.1 r.2 s A w'->Q .normal A w')
  (B:∀T:Tc,vj n ops.toList (jc ops) (hZ (jc ops)) call t h (order (jc ops) (hZ (jc ops)) (hZ (jc ops)) 0) 0 0 h [] r T T->∀(fuel:Nat) (c:Array Bool) (p:Act) (w':World) (j:Nat) (s:Env) (t':Tm) (a:It),0<=j->c.toList.count false<=fuel+1->
   Inv n ops t h Δ w T c j s t' p w'->a∈jc ops->cls a.o=2->c.getD a.i false=false->(∀x∈jc ops,a.b.testBit x.i=true->c.getD x.i false=true)->(hZ (jc ops))[j]?≠some a->
   wpOp P0 ops Q a.i (wpAny P0 .any ops Q fuel (c.setIfInBounds a.i true)) p w'):(Code.region id ops true).wp P0 Q a w:=by
 have k:∀x∈order (jc ops) (hZ (jc ops)) (hZ (jc ops)) 0,x∈jc ops:=by grind[K1,rG]
 let G:Tc:=⟨λ_=>false,λ_=> .undef,λ_=> .tree .leaf [],λ_=>0,λ_=>0,λ_=>default,λ_=>h,λ_=>h⟩
 obtain ⟨T,g⟩:=trace (n:=n) (all:=ops.toList) (kP:=jc ops) (ws:=hZ (jc ops)) (call:=call) (t0:=t) (h0:=h) vn hp _ 0 0 t h [] r G k m hv (λa L hx=>by simp at hx)
  (by grind[JI]) (jO _) (by omega) (Mj _)
 have u:vj n ops.toList (jc ops) (hZ (jc ops)) call t h _ 0 0 h [] r T T:=
  ⟨by simp_all,by omega,g.item,g.EG,g.more,g.chain,g.WY,g.VI,g.last,g.qd,g.done,g.kle⟩
 refine wp_region_any l (VW (T:=T) (Δ0:=Δ) (w0:=w) (h0:=h) (t0:=t) hc hp D E 0 (by grind) k u (Cm _ _ hv) F ops.size _ a _ 0 Δ t (jO _) ?_ ⟨by simp,λx hx v=>?_,Mj _,λq x hq=>?_,C,λd=>?_,(z.heap (w':={w with drawn:=w.drawn+1}) rfl).Q6 g.more,
  ⟨Env.le_refl _,jO _,rfl,rfl,rfl,by simp_all,by simp_all⟩,by simp_all,rfl,λx hx H I _ _=>?_⟩)
 ·simp_all
 ·simp only[wBV,wBt]at v
  grind
 ·constructor
  ·intro J;simp only[wBV,wBt]at J
   grind
  omega
 ·refine(JI (λx _ _=>?_) _).symm;simp only[wBV,wBt]
  grind
 ·have y:x∈order (jc ops) (hZ (jc ops)) (hZ (jc ops)) 0:=by
   rcases g.done x hx with K|K
   ·simp_all
   ·grind[xG]
  have:=g.WY x y H I
  cases hd':Δ (T.pl x.i)with
  |none=>rfl
  |some e=>have:=z.fresh _ _ hd';omega
theorem zaO(hc:xe call) (c:P0.follows .mixedOrders=true) {id:Nat} {ops:Array Oper} {Δ:Env} {h:Hp} {w:World} {t:Tm} {a:Act} (q:WR Δ h w) (s:TR Δ n t a)
  {r:Tm×Hp} (hv:(Nl n ops.toList).f call t h=some r) {Q:Exit->Act->World->Prop} (k:∀u l w',CD Δ h w n r.1 r.2 u l w'->Q .normal l w'):(Code.region id ops true).wp P0 Q a w:=by
 unfold Nl at hv;split at hv
 ·rename_i b;simp only[vH,Qt]at b
  grind[Pp,V9]
 ·split at hv
  ·rename_i pr g b;simp only[vH,Rb]at b;obtain⟨⟨⟨hp,m⟩,o⟩,d⟩:=b;simp only[fy,ie]at hv;obtain⟨r',hv,i,v⟩:=hv;cases v;obtain⟨x,y,da,db⟩:=pr;obtain⟨z,A,B,C,D,E,F⟩:=RC g;obtain⟨p,G,H,I⟩:=Oa z;have e:∀x∈order (jc ops) (hZ (jc ops)) (hZ (jc ops)) 0,x∈jc ops:=by grind[K1,rG]
   exact Pp hc c q s hp m o d hv k λT j=>XI hc hp m o e j ⟨G,H,I,A,B,C,D,E,F,i⟩ (Cm _ _ hv) k
  ·cases hv
def X.to:X->Exit
 | .normal=> .normal
 | .exit id=> .exit id
 | .ret=> .ret
theorem Kt{r:Option (X×Tm×Hp)} {k:Tm->Hp->Option (X×Tm×Hp)} {y:X×Tm×Hp} (h:Gb r k=some y) :
  (∃t h',r=some (.normal,t,h')/\k t h' = some y)\/(r=some y/\y.1≠ .normal):=by
 unfold Gb at h
 grind
theorem U5{next:Act->World->Prop} {Q:Exit->Act->World->Prop} {x:X} (hx:x≠ .normal) {a:Act} {w:World} (h:Q x.to a w):Exit.then next Q x.to a w:=by
 cases x with
 |normal=>simp_all
 |exit id=>exact h
 |ret=>exact h
theorem xM(hc:xe call) (d:P0.follows .mixedOrders=true) {m:Nat}:∀(c:Code) {Δ:Env} {h:Hp} {w:World} {t:Tm} {a:Act},WR Δ h w->TR Δ n t a->∀{r:X×Tm×Hp},
  (iM n c).f call m t h=some r->∀{Q:Exit->Act->World->Prop},(∀z l w',CD Δ h w n r.2.1 r.2.2 z l w'->Q r.1.to l w')->c.wp P0 Q a w
 | .skip,Δ,h,w,t,a,e,g,r,hv,Q,i=>by cases hv;exact wp_skip (i _ _ _ (.start g e))
 | .seq x y,Δ,h,w,t,a,e,g,r,hv,Q,i=>by
   simp only[iM]at hv;refine wp_seq ?_;rcases Kt hv with⟨G,q,s,B⟩|⟨s,B⟩
   ·exact xM hc d x e g s λz l w' j=>xM hc d y j.world j.tmps B λC D E u=>i _ _ _ (j.trans u)
   ·exact xM hc d x e g s (by grind[U5])
 | .cond c x y,Δ,h,w,t,a,e,g,r,hv,Q,i=>by
   simp only[iM,fy]at hv;obtain⟨v,q,p⟩:=hv;have A:=lU e g q;split at p
   ·rename_i b
    generalize hx:a.eval c=xv at A;cases A
    cases b with
    |true=>exact wp_cond_true hx (xM hc d x e g p i)
    |false=>exact wp_cond_false hx (xM hc d y e g p i)
   ·cases p
 | .block id c,Δ,h,w,t,a,e,g,r,hv,Q,i=>by
   simp only[iM]at hv;refine wp_block ?_
   cases A:(iM n c).f call m t h with
   |none=>rw[A]at hv;cases hv
   | some r'=>
     rw[A]at hv;refine xM hc d c e g A λz l w' j=>?_;obtain⟨x,t',h'⟩:=r'
     cases x with
     |normal=>cases hv;exact i _ _ _ j
     |ret=>cases hv;exact i _ _ _ j
     | exit o=>
       simp only[Lp]at hv;show if o=id then Q .normal l w' else Q (.exit o) l w'
       cases hb:Nat.beq o id with
       | true=>
         rw[hb]at hv;have:=Cr hb;rw[if_pos this];cases hv
         exact i _ _ _ j
       | false=>
         rw[hb]at hv;have:o≠id:=by grind[W8]
         rw[if_neg this];cases hv
         exact i _ _ _ j
 | .loop c,Δ,h,w,t,a,e,g,r,hv,Q,i=>by
   simp only[iM]at hv;refine Gk.wp ?_
   have H:∀(k:Nat) {Δ:Env} {h:Hp} {w:World} {t:Tm} {a:Act},WR Δ h w->TR Δ n t a->Gn (λt h=>(iM n c).f call m t h) k t h=some r->
       (∀z l w',CD Δ h w n r.2.1 r.2.2 z l w'->Q r.1.to l w')->Gk c Q a w:=by
     intro k
     induction k with
     |zero=>intro Δ h w t a _ _ hv _;cases hv
     | succ k I=>
       intro Δ h w t a e g hv i;have F:Gb ((iM n c).f call m t h) (Gn (λt h=>(iM n c).f call m t h) k)=some r:=hv;refine Gk.round ?_;rcases Kt F with⟨G,q,s,B⟩|⟨s,B⟩
       ·exact xM hc d c e g s λz l w' j=>I j.world j.tmps B λC D E u=>i _ _ _ (j.trans u)
       ·exact xM hc d c e g s (by grind[U5])
   grind
 | .exit id,Δ,h,w,t,a,e,g,r,hv,Q,i=>by cases hv;exact wp_exit (i _ _ _ (.start g e))
 | .ret,Δ,h,w,t,a,e,g,r,hv,Q,i=>by cases hv;exact wp_ret (i _ _ _ (.start g e))
 | .region id ops false,Δ,h,w,t,a,e,g,r,hv,Q,i=>by
   simp only[iM,fy]at hv;obtain⟨r',q,p⟩:=hv;cases p;refine wp_region ?_;have:=PV (Q:=Q) hc ops.toList 0 rfl e g q i
   grind[List.range_eq_range']
 | .region id ops true,Δ,h,w,t,a,e,g,r,hv,Q,i=>by
   simp only[iM,fy]at hv;obtain⟨r',q,p⟩:=hv;cases p
   exact zaO hc d e g q i
 | .rangeFunc ..,Δ,h,w,t,a,e,g,r,hv,Q,i=>by cases hv
 | .scope _,Δ,h,w,t,a,e,g,r,hv,Q,i=>by cases hv
 | .label _,Δ,h,w,t,a,e,g,r,hv,Q,i=>by cases hv
 | .goto _,Δ,h,w,t,a,e,g,r,hv,Q,i=>by cases hv
 | .refuse _,Δ,h,w,t,a,e,g,r,hv,Q,i=>by cases hv
noncomputable def O8(t:Tr V)(i:Nat):V:=Option.rec (motive:=λ_=>V) V.undef (λv=>v) (t.get i)
theorem Xl(t:Tr V)(d i:Nat)(v:V):O8 (t.set d v) i=if d=i then v else O8 t i:=MV (.tree t []) d i v
theorem O2:∀(args:List V) (i:Nat) (t:Tr V) (j:Nat),O8 (So args i t) j=if i<=j/\j<i+args.length then args[j-i]?.getD .undef else O8 t j
 |[],i,t,j=>by rw[if_neg (by simp_all)];rfl
 | v ::vs,i,t,j=>by
   simp only[So];rw[O2 vs (i+1) (t.set i v) j];by_cases a:i+1<=j/\j<i+1+vs.length
   ·grind
   ·rw[if_neg a,Xl]
    grind
theorem TV(args:List V) (i:Nat):kj (Up args) i=(args[i]?).getD .undef:=by
 have h:=O2 args 0 .leaf i;rw[show kj (Up args) i=O8 (So args 0 .leaf) i from rfl,h]
 simp_all[if_pos,Nat.sub_zero,if_neg,OE,O8,Tr.uf]
theorem K9{C:fu} (a:yx C) {Δ:Env} {args:List V} {gW:Array Value} (b:gQ Δ args gW.toList) {k:Nat} (d:args.length<=k) :
  TR Δ k (C.start args) {tmps:=gW++Array.replicate (k-gW.size) undef,defers:=[]}:=by
 have c:=b.length;simp only[ZN]at c;refine⟨by simp;omega,λi=>?_,by rw[a.NR];exact .nil⟩;rw[a.start];simp only[wBV];by_cases h:i<args.length
 ·rw[Array.getElem?_append_left (by omega)];obtain⟨x,hx,e⟩:=b.get i args[i] (by simp_all)
  grind
 ·rw[OE (by omega),Array.getElem?_append_right (by omega),wBt];split <;> exact .undef Δ
def XP(tmps:Array Value):ResultVar->Sem Value
 | .tmp t=>pure (tmps.getD t undef)
 | .cell b ty=>do loadVar ty (<-asAddr (tmps.getD b undef))
theorem Uq{Δ:Env} {h:Hp} {w:World} {t:Tm} {a:Act} (g:WR Δ h w) (f:TR Δ n t a):∀{l:List ResultVar} {vs:List V},A7 t h l=some vs->
  ∃xs,(l.mapM (XP a.tmps)).run P0 w = .ok xs w/\gQ Δ vs xs
 |[],vs,hv=>by simp[A7]at hv;subst hv;exact⟨[],by simp,.nil⟩
 | .tmp i::l,vs,hv=>by
   simp only[A7,fy]at hv;obtain⟨v,c,j,k,m⟩:=hv;cases m;obtain⟨xs,s,o⟩:=Uq g f k;simp only[WV]at c;cases c;have hp:(XP a.tmps (.tmp i)).run P0 w = .ok (a.tmps.getD i undef) w:=rfl
   exact⟨a.tmps.getD i undef::xs,by simp_all,.cons _ _ _ _ (f.rel i) o⟩
 | .cell b ty::l,vs,hv=>by
   simp only[A7,fy]at hv;obtain⟨v,c,j,k,m⟩:=hv;cases m;obtain⟨xs,s,o⟩:=Uq g f k;simp only[WV]at c;obtain⟨x,r,u⟩:=Of (xv:=a.tmps.getD b undef) g (λv hv=>by cases hv;exact f.rel b) c;have d:∃ad,a.tmps.getD b undef = .pointer (some ad):=by
     cases hx:a.tmps.getD b undef with
     | pointer p=>cases p with
       |some ad=>simp_all
       |none=>simp_all[Instr.loadAt,Instr.sureAddr]
     |_=>simp_all[Instr.loadAt,Instr.sureAddr]
   obtain⟨ad,e⟩:=d;rw[e]at r;have q:(loadVar ty ad).run P0 w = .ok x w:=by simpa[Instr.loadAt,Instr.sureAddr]using r
   have hp:(XP a.tmps (.cell b ty)).run P0 w = .ok x w:=by simp only[XP,e,asAddr,yo,Me,wX,q]
   exact⟨x::xs,by simp_all,.cons _ _ _ _ u o⟩
theorem No{Δ:Env} {h:Hp} {w:World} {t:Tm} {a:Act} (d:WR Δ h w) (e:TR Δ n t a) {fn:Func} {vs:List V} (hv:A7 t h fn.results.toList=some vs) :
  ∃x,(results fn a.tmps).run P0 w = .ok x w/\fR Δ (Aq vs) x:=by
 obtain ⟨xs,f,g⟩:=Uq d e hv;have i:(results fn a.tmps).run P0 w = .ok (if h:xs.toArray.size=1 then xs.toArray[0] else .tuple xs.toArray) w:=by
  have h0:results fn a.tmps=(do let vs <-fn.results.mapM (XP a.tmps);pure (if h:vs.size=1 then vs[0] else .tuple vs)):=by
   unfold results;congr 1
  rw[h0,Array.mapM_eq_mapM_toList];simp only[yo,map_eq_pure_bind,f,wX,Me]
 refine⟨_,i,?_⟩
 cases g with
 |nil=>exact .tuple _ #[] .nil
 | cons v x vs xs b hs=>
   cases hs with
   |nil=>exact b
   | cons j k vs xs c hs=>
     rw[dif_neg (by simp)];exact .tuple _ _ (.cons _ _ _ _ b (.cons _ _ _ _ c hs))
theorem Vj{Δ m:Env} {h:Hp} {w w':World} {n:Nat} {fn:Func} {r:X×Tm×Hp} {b:Act} {v:V} {h':Hp} (d:CD Δ h w n r.2.1 r.2.2 m b w') (hv:YX fn r=some (v,h')) :
  (r.1 = .normal\/r.1 = .ret)/\b.defers=[]/\∃y,(results fn b.tmps).run P0 w' = .ok y w'/\∃c z,Ending.returned y = .returned z/\zX Δ h w v h' c z w':=by
 obtain⟨x,t',f⟩:=r
 have a:(match t'.ds with
   |[]=>oB (A7 t' f fn.results.toList) λvs=>some (Aq vs,f)
   |_::_=>none)=some (v,h')->b.defers=[]/\∃y,(results fn b.tmps).run P0 w' = .ok y w'/\
   ∃c z,Ending.returned y = .returned z/\zX Δ h w v h' c z w':=by
  intro e;split at e
  ·rename_i i;simp only[fy]at e;obtain⟨vs,j,e⟩:=e;cases e;obtain⟨y,o,k⟩:=No d.world d.tmps j;have g:=d.tmps.ds;simp only at g;rw[i]at g
   have l:b.defers=[]:=by cases hx:b.defers with
    |nil=>rfl
    |cons _ _=>rw[hx]at g;cases g
   exact⟨l,y,o,m,y,rfl,k,d.world,d.frame,d.grow⟩
  ·cases e
 cases x with
 |exit id=>cases hv
 |normal=>exact⟨.inl rfl,a hv⟩
 |ret=>exact⟨.inr rfl,a hv⟩
theorem RR{o:Oper} {c:Go.Call} (a:o.op = .call c) (hc:c.callee = .builtin .recover) (ρ:Operand->Value) (w:World):(execOp ρ o).run P0 w = .ok .recover w:=by
 unfold execOp;rw[a];simp only[yo,resolve,hc,Me,wX];rfl
theorem Wt{c a:Code} {d:Nat} (h:Vh c=some (d,a)):∃id o cl,c = .seq (.region id #[o] false) a/\o.op = .call cl/\cl.callee = .builtin .recover/\o.guard=none/\o.dst=some d:=by
 unfold Vh at h;split at h
 ·rename_i id ops e;split at h
  ·rename_i o j;split at h
   ·rename_i cl f;split at h
    ·rename_i k g i b;cases h;refine⟨id,o,cl,?_,f,g,i,b⟩;congr 2
     grind
    ·cases h
   ·cases h
  ·cases h
 ·cases h
theorem YD{C:fu} (s:yx C) (hc:xe call) {m f:Nat} {args:List V} {v:V} {h h':Hp} {Δ:Env} {w:World} {gW:Array Value} (hv:(Lt C f).f call m args h=some (v,h'))
  (L:WR Δ h w) (M:gQ Δ args gW.toList):(callFunc f gW).run P0 w = .ok (.enter f gW) w/\
   CallsD P0 f gW .returning w λe u' w'=>u' = .returning/\∃u x,e = .returned x/\zX Δ h w v h' u x w':=by
 unfold Lt at hv;split at hv
 ·rename_i fn z;split at hv
  ·rename_i c hb;refine⟨?_,?_⟩
   ·have R:=s.named f fn z
    simp_all[callFunc,yo,run_program,wX,wBz,Rq,if_false]
   split at hv
   ·rename_i d a n;simp only[ie,fy]at hv;obtain⟨g,N,r,A,B⟩:=hv;have b:args.length<=fn.ntmps:=KS g;obtain⟨id,o,cl,rfl,D,E,O,p⟩:=Wt n;refine callsD_of_wpS z hb λF cs q=>?_;have G:=K9 s M b;have H:zT fn.ntmps o=some ⟨λt v=>t.set d v⟩:=by unfold zT;rw[p];simp only[N]
    have P:TR Δ fn.ntmps ((C.start args).set d .nilIface) (({tmps:=gW++Array.replicate (fn.ntmps-gW.size) undef,defers:=[]}:Act).put o.dst .nilIface):=K0 G H .nilIface;refine wpS_seq (wpS_region ?_);have Nn:List.range (#[o]:Array Oper).size=[0]:=rfl;rw[Nn];simp only[wpOpsS];have h0:(#[o]:Array Oper)[0]? =some o:=rfl;simp only[h0];have i:∀y,Region.wanted o y=true:=by grind[Region.wanted]
    rw[if_pos (i _),RR D E];have j:recoverD (F::cs)=none:=by simp only[recoverD,q]
    simp only[j];show a.wpS P0 _ _ _ _;refine wpS_of_wp ?_;refine xM hc s.mixed a L P A λu Q w' I=>?_;obtain⟨hx,k,y,J,K⟩:=Vj I B;have l:({F with mode:= .returning}:Frame)=F:=by rw[<-q]
    rcases hx with hx|hx <;> rw[hx] <;> exact⟨k,.returning,by rw[l],y,J,rfl,K⟩
   ·simp only[ie,fy]at hv;obtain⟨g,r,A,B⟩:=hv;have b:args.length<=fn.ntmps:=KS g;refine callsD_of_wp z hb ?_;refine xM hc s.mixed c L (by grind[K9]) A λu Q w' I=>?_;obtain⟨hx,k,y,J,K⟩:=Vj I B;rcases hx with hx|hx <;> rw[hx] <;> exact⟨k,y,J,K⟩
  ·cases hv
 ·cases hv
theorem VV{C:fu} (j:yx C) (hc:xe call) {m:Nat} {fn:Func} {tmps:Array Value} {R:Ending->World->Prop}:∀(l:List (Nat×List V)) {c:List Deferred} {Δ:Env} {h h':Hp} {w:World},
  OJ C call m l h=some h'->WR Δ h w->J8 Δ l c->
  (∀a w',WR a h' w'->FR Δ a w w'->Gr h Δ h' a->∃v,(results fn tmps).run P0 w' = .ok v w'/\R (.returned v) w')->Leaves P0 fn tmps R c .returning w
 | [],_,Δ,h,h',w,hv,hW,.nil,hR=>by
   cases hv
   exact hR Δ w hW (.refl _ _) (.refl _ _)
 | (g,args)::l,_,Δ,h,h',w,hv,hW,.cons _ _ cap gW _ c ha hl,hR=>by
   simp only[OJ,fy]at hv;obtain⟨⟨v,u⟩,k,n⟩:=hv;obtain⟨o,p⟩:=YD j hc k hW ha;refine leaves_cons (by simp_all) (f:=g) (args:=gW++cap) o ?_;refine CallsD.mono p λe u' w' q=>?_;obtain⟨rfl,a,x,rfl,b⟩:=q;exact VV j hc l n b.world (hl.mono b.frame.le) λd i r s t=>hR d i r (b.frame.trans s) (b.grow.trans t)
theorem ZX{C:fu} (i:yx C) (hc:xe call) {m:Nat}:xe λf args h=>(FD C f).f call m args h:=by
 intro f args v h h' Δ w gW hv l D;simp only at hv;unfold FD at hv;split at hv
 ·rename_i fn n;split at hv
  ·rename_i c hb;right;have a:(callFunc f gW).run P0 w = .ok (.enter f gW) w:=by
    have J:=i.named f fn n;simp only[callFunc,yo,run_program,wX,n,J,hb,wBz,Rq,if_false];rfl
   refine⟨a,?_⟩;simp only[ZK]at hv
   cases hk:C.K f args h with
   | some u=>
     rw[hk]at hv;simp only[ie,vH]at hv;obtain⟨⟨j,o⟩,hv⟩:=hv;cases hv;refine Calls.mono (i.known f args _ _ hk j o Δ w gW l (PU D j)) λe w' p=>?_;obtain⟨x,rfl,hx,hs⟩:=p
     exact⟨Δ,x,rfl,hs.after l hx⟩
   | none=>
     rw[hk]at hv;simp only[ie,fy]at hv;obtain⟨q,r,s,d⟩:=hv;have E:args.length<=fn.ntmps:=KS q;refine calls_of_wp_defers n hb ?_;refine xM hc i.mixed c l (by grind[K9]) s λF G w' k=>?_;obtain⟨x,t',t⟩:=r
     have b:(∃g,OJ C call m t'.ds t=some g/\∃vs,A7 t' g fn.results.toList=some vs/\some (Aq vs,g)=some (v,h'))->
         Leaves P0 fn G.tmps (λe w'=>∃F x,e = .returned x/\zX Δ h w v h' F x w') G.defers .returning w':=by
       rintro⟨g,L,vs,z,p⟩;cases p;refine VV i hc _ L k.world k.tmps.ds λA M H I N=>?_;obtain⟨y,O,B⟩:=No H (k.tmps.mono I.le) z;exact⟨y,O,A,y,rfl,B,H,k.frame.trans I,k.grow.trans N⟩
     cases x with
     |exit id=>cases d
     |normal=>simp only[fy]at d;exact b d
     |ret=>simp only[fy]at d;exact b d
  ·rename_i hb;left;simp only[fy]at hv;obtain⟨u,s,d⟩:=hv;cases d;obtain⟨x,g,P⟩:=i.ext f fn n hb Δ args _ gW w s D;exact⟨x,g,P,l,.refl _ _,.refl _ _⟩
 ·cases hv
theorem J9{C:fu} (a:yx C) (m:Nat):∀d,xe (kU C m d)
 |0=>λf args v h h' Δ w gW hv=>(nomatch hv)
 |d+1=>ZX a (J9 a m d)
end
theorem PD(c:Nat) (hc:c<256):∀(l:List UInt8) (n:Nat),Nc c l n=n+l.count (UInt8.ofNat c)
 |[],n=>by rfl
 | b ::l,n=>by
   simp only[Nc];rw[PD c hc l,List.count_cons];have hb:Nat.beq b.toNat c=(b == UInt8.ofNat c):=by
     rw[Xz];simp only[Cw];constructor
     ·intro h
      have h':b.toNat=c:=Cr h;rw[<-h'];simp
     ·simp_all
   rw[hb];cases b == UInt8.ofNat c
   ·simp
   grind
theorem PG(c:Nat) (hc:c<256):∀(l:List UInt8) (n:Nat),(match Qs c l n with|some i=>(i:Int)|none=>-1)=if Lib.indexByte l (UInt8.ofNat c) = -1 then -1 else Lib.indexByte l (UInt8.ofNat c)+n
 |[],n=>by rfl
 | b ::l,n=>by
   simp only[Qs];have hb:Nat.beq b.toNat c=(b == UInt8.ofNat c):=by
     rw[Xz];simp only[Cw];constructor
     ·intro h
      have h':b.toNat=c:=Cr h;rw[<-h'];simp
     ·simp_all
   rw[hb];unfold Lib.indexByte
   cases hbc:b == UInt8.ofNat c with
   |true=>simp
   | false=>
     have d:=PG c hc l (n+1);have a:=Lib.indexByte_ge l (UInt8.ofNat c)
     grind
theorem WS{f:Nat} {fn:Func} (d:P0.funcs[f]? =some fn) (a:(fn.name == "runtime.NumGoroutine")=false) (hb:fn.body.isNone=true) (g:Extern.findNext fn=none) (h:Extern.find fn=some Extern.BytealgCount.count)
  {Δ:Env} {args:List V} {v:V} {gW:Array Value} {w:World} (hv:UT .countByte args=some v) (i:gQ Δ args gW.toList):∃x,(callFunc f gW).run P0 w = .ok (.value x) w/\fR Δ v x:=by
 unfold UT at hv;split at hv
 ·rename_i s c _;rw[ie]at hv;obtain⟨hc,hv⟩:=hv;have b:c<256:=by rw[Qq]at hc;exact hc
  cases hv;obtain⟨l⟩:=gW
  cases i with
  | cons _ x _ xs hx hs=>
    cases hs with
    | cons _ y _ ys j hs=>
      cases hs;cases j;generalize oh:s=sl at hx
      cases hx with
      | str sb=>
        have k:=Lib.run_countString (P:=P0) sb (Int.ofNat c) w;refine⟨.int .i64 (Lib.countByte sb.data.toList (Int.ofNat c).toNat.toUInt8),?_,?_⟩
        ·rw[run_callFunc_extern d a hb g h]
         simp_all
        have e:Nc c sb.data.toList 0=Lib.countByte sb.data.toList (Int.ofNat c).toNat.toUInt8:=by
          rw[PD c b,zO];rfl
        rw[e];exact .int _ _
 ·simp_all
 ·cases hv
theorem V4{f:Nat} {fn:Func} (d:P0.funcs[f]? =some fn) (a:(fn.name == "runtime.NumGoroutine")=false) (hb:fn.body.isNone=true) (g:Extern.findNext fn=none) (h:Extern.find fn=some Extern.BytealgIndexByte.indexByte)
  {Δ:Env} {args:List V} {v:V} {gW:Array Value} {w:World} (hv:UT .indexByte args=some v) (j:gQ Δ args gW.toList):∃x,(callFunc f gW).run P0 w = .ok (.value x) w/\fR Δ v x:=by
 unfold UT at hv;split at hv
 ·simp_all
 ·rename_i s c _;rw[ie]at hv;obtain⟨hc,hv⟩:=hv;have b:c<256:=by rw[Qq]at hc;exact hc
  obtain⟨l⟩:=gW
  cases j with
  | cons _ x _ xs hx hs=>
    cases hs with
    | cons _ y _ ys k hs=>
      cases hs;cases k;generalize oh:s=sl at hx
      cases hx with
      | str sb=>
        have n:=Lib.run_indexByteString (P:=P0) sb (Int.ofNat c) w;refine⟨.int .i64 (Lib.indexByte sb.data.toList (Int.ofNat c).toNat.toUInt8),?_,?_⟩
        ·rw[run_callFunc_extern d a hb g h]
         simp_all
        have e:=PG c b sb.data.toList 0;have m:(if Lib.indexByte sb.data.toList (UInt8.ofNat c) = -1 then -1 else Lib.indexByte sb.data.toList (UInt8.ofNat c)+((0:Nat):Int))=Lib.indexByte sb.data.toList (Int.ofNat c).toNat.toUInt8:=by
          show _=Lib.indexByte sb.data.toList (UInt8.ofNat c);split
          ·omega
          ·simp
        rw[m]at e;rw[<-e];rw[oh]at hv;split at hv
        ·rename_i i hi;cases hv;rw[hi];exact .int _ _
        ·rename_i hi;cases hv;rw[hi];exact .int _ _
 ·cases hv
def Kept(W W':World):Prop:=W'.os=W.os/\W'.output=W.output/\W.heap.size<=W'.heap.size/\∀b,b<W.heap.size->W'.heap[b]? =W.heap[b]?
theorem Kept.FM{W W':World} (h:Kept W W') (a:MemPlace->Prop):W.keptBut W' a:=by
 refine⟨h.1,h.2.1,λi hi=>?_⟩;rw[h.2.2.2 i hi]
 grind
theorem FR.kept{Δ a:Env}{w w':World}(h:FR Δ a w w')(c:∀b,¬RW Δ b):Kept w w':=⟨h.os,h.output,h.size,λb hb=>h.fj b hb (c b)⟩
def isTrue:Option (V×Hp)->Bool
 |some (.bool true,_)=>true
 |_=>false
theorem Dz.none{Δ:Env}{w:World}(h:Dz Δ w):Dz (λ_=>none) w:=λg c a=>⟨(h g c a).1,by simp_all⟩
theorem WR.start(n:Nat) (a:P0.globals.size<=n) (w:World) (ht:Dz (λ_=>none) w):WR (λ_=>none) {next:=n,tr:= .leaf} w:=
 ⟨by simp_all,by simp_all,by simp_all,by simp_all,by grind[Hp.get_eq,Tr.uf],a,ht⟩
theorem known{C:fu} (i:yx C) {m d n f:Nat} (s:P0.globals.size<=n) (hb:∃fn c,P0.funcs[f]? =some fn/\fn.body=some c) (hv:isTrue (kU C m d f [] {next:=n,tr:= .leaf})=true) (W:World) (ht:Dz (λ_=>none) W) :
  Calls P0 f #[] W λe W'=>e = .returned (.bool true)/\Kept W W':=by
 cases hr:kU C m d f [] {next:=n,tr:= .leaf} with
 |none=>rw[hr]at hv;cases hv
 | some r=>
   obtain ⟨v,h'⟩:=r;rw[hr]at hv;have a:v = .bool true:=by
     unfold isTrue at hv;split at hv
     ·simp_all
     ·cases hv
   subst a;rcases J9 i m d f [] _ _ _ (λ_=>none) W #[] hr (by grind[WR.start]) .nil with⟨x,t,_⟩|⟨_,o⟩
   ·exfalso
    obtain ⟨fn,c,j,g⟩:=hb;have h:=i.named f fn j;have:(callFunc f #[]).run P0 W = .ok (.enter f #[]) W:=by
      simp only[callFunc,yo,run_program,wX,j,h,g,wBz,Rq,if_false];rfl
    simp_all
   ·refine Calls.mono o λe w' p=>?_
    obtain⟨u,x,rfl,k⟩:=p;have hx:=k.val;cases hx;exact⟨rfl,k.frame.kept λb hb=>(by obtain⟨l,d,q,_⟩:=hb;cases q)⟩
open Go.ChangeShapes Go.WideShapes in
theorem WJ {H:Type} {enc:TypeId×Value->H} {P:Program} {f:Func} {s:ChangeSpec} {apart fresh handsOn again:Bool} {W W':World} {args:Array Value} {v:Value} {ds gs:List (DataW H)}
  {before pa pv:List MemPlace} (hW:DataW.Whole enc P f.params.toList s.vars apart W args.toList ds gs before)
  (zdQ:∀(b:Nat) (sp:Nat->Bool) (hd:Bool),DataW.TrodAll enc P W' b sp hd f.resultTypes.toList (v.resultList f.resultTypes.size) (s.fn H (ds++gs)).results [])
  (zbH:∀sp:Nat->Bool,(∀p∈before,sp p.block=true)->DataW.TrodAll enc P W' 0 sp true f.params.toList args.toList (s.fn H (ds++gs)).args pa)
  (zbU:∀sp:Nat->Bool,(∀p∈before,sp p.block=true)->DataW.TrodVars enc P W' sp s.vars (s.fn H (ds++gs)).vars pv)
  (hps:before=pa++pv) (hk:Kept W W')
  (hok:∀(j:Nat) (t:TypeId) (r:Value),f.resultTypes[j]? =some t->(v.resultList f.resultTypes.size)[j]? =some r->Value.okWide P W' .any 0 t r) :
  s.post enc P f apart fresh handsOn again W args v W':=by
 have OY:∀p∈before,p.block<W.heap.size:=λp hp=>hW.lt p hp;have hold:∀p∈before,(λb=>decide (b<W.heap.size)) p.block=true:=by simp_all
 refine⟨ds,gs,before,[],pa,pv,hW,zdQ _ _ _,zbH _ hold,zbU _ hold,hk.FM _,λ_=>?_⟩;obtain⟨_,_,_,_,_,hz,hn⟩:=hW;refine⟨hok,_,_,([]++pa)++pv,⟨[]++pa,pv,trodAll_append (zbH _ (λ_ _=>rfl)) (zdQ _ _ _),zbU _ (λ_ _=>rfl),rfl,?_,?_⟩,?_⟩
 ·intro b off hp;have hp':MemPlace.cell b off∈before:=by rw[hps];simpa using hp
  have hz':=hz b off hp';have hb:=OY _ hp';have he:W'.frozen? ⟨b,off,none⟩=W.frozen? ⟨b,off,none⟩:=by
   unfold World.frozen?;have:=hk.2.2.2 b hb;simp only at this⊢;rw[this]
  simp_all
 ·simp_all
 simp_all
