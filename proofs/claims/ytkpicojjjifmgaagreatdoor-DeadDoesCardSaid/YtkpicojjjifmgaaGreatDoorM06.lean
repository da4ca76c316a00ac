/- Parts. -/
import Derived.Test.YtkpicojjjifmgaaGreatDoorM05
import Derived.Defers
import Derived.Recover
import Derived.Lib.Bytealg
import Derived.Laws.Externs
import Derived.ChangeSame
import Derived.RowKit3
namespace Go.Proofs.YtkpicojjjifmgaaGreatDoor.Hx
structure Still (W W':World):Prop where
 os:W'.os=W.os
 tape:W'.tape=W.tape
 output:W'.output=W.output
 size:W.heap.size<=W'.heap.size
 fm:∀b,b<W.heap.size->W'.heap[b]? =W.heap[b]?
theorem FR.still{Δ a:Env}{w w':World}(h:FR Δ a w w')(c:∀b,¬RW Δ b):Still w w':=⟨h.os,h.tape,h.output,h.size,λb d=>h.fm b d (c b)⟩
theorem zeg(b:Nat):¬RW (λ_=> .none) b:=λ⟨_,_,a,_⟩=>nomatch a
theorem Still.after{Δ:Env} {h:Hp} {W W':World} (hs:Still W W') (a:WR Δ h W) {v:V} {x:Value} (hv:fP (λ_=> .none) v x):zo Δ h W v h Δ x W' where
 val:=hv.mono λ_ _ (h:(none:Option D)=some _)=>by cases h
 world:=⟨a.fresh,λl d c=>Cb (a.oW l d c) hs.size,λl d c=>by rw[hs.fm _ (a.oW l d c)];exact a.obj l d c,a.apart,a.Iu,a.zb,a.TL.step (λb e _=>hs.fm b e) (by simp_all)⟩
 frame:=⟨Env.le_refl _,hs.size,hs.os,hs.tape,hs.output,λb e _=>hs.fm b e,by simp_all⟩
 grow:= .refl _ _
theorem Qb{Δ a:Env} {v:V} {x:Value} (h:fP Δ v x) (c:v.flat=true):fP a v x:=by
 cases h with
 |bool b=>exact .bool b
 |int k n=>exact .int k n
 |str s=>exact .str s
 |nilPtr=>exact .nilPtr
 |ef=>exact .ef
 |mB=>exact .mB
 |nilFunc=>exact .nilFunc
 |nilIface=>exact .nilIface
 |_=>grind[V.flat]
theorem OF{Δ a:Env}:∀{vs:List V} {xs:List Value},gP Δ vs xs->QY vs=true->gP a vs xs
 |[],_,.nil,_=> .nil
 | v::vs,_,.cons _ _ _ _ h hs,hf=>by
   simp only[QY,wB6,vR]at hf;exact .cons _ _ _ _ (Qb h hf.1) (OF hs hf.2)
structure xF (C:ft):Prop where
 Ms:∀args,(C.start args).ds=[]
 start:∀args i,j6 (C.start args) i=(args[i]?).getD .undef
 mixed:P0.follows .mixedOrders=true
 named:∀(f:Nat) (fn:Func),P0.funcs[f]? =some fn->(fn.name == "runtime.NumGoroutine")=false
 ext:∀(f:Nat) (fn:Func),P0.funcs[f]? =some fn->fn.body=none->∀(Δ:Env) (args:List V) (v:V) (gQ:Array Value) (w:World),TC (C.ext f) args=some v->gP Δ args gQ.toList->
  ∃x,(callFunc f gQ).run P0 w = .ok (.value x) w/\fP Δ v x
 known:∀(f:Nat) (args:List V) (v:V) (h:Hp),C.K f args h=some v->QY args=true->v.flat=true->∀(Δ:Env) (W:World) (gQ:Array Value),WR Δ h W->gP (λ_=> .none) args gQ.toList->
  Calls P0 f gQ W λe W'=>∃x,e = .returned x/\fP (λ_=> .none) v x/\Still W W'
section
variable{n:Nat}{call:Call}
theorem J6{kF ws:List It} (b:∀x∈ws,x∈kF):∀(l:List It) (k:Nat),(∀x∈l,x∈kF)->∀a∈order kF ws l k,a∈kF
 |[],k,_,a,ha=>(PU.1 ha).1
 | w::l,k,hl,a,ha=>by
   simp only[order,Hi,Ng]at ha;rcases ha with h|rfl|h
   ·exact(PU.1 h).1
   ·simp_all
   ·exact J6 b l (k+1) (by simp_all) a h
theorem OA(hc:vU call) (l:P0.follows .mixedOrders=true) {id:Nat} {ops:Array Oper} {Δ:Env} {h:Hp} {w:World} {t:Tm} {a:Act} (A:WR Δ h w) (D:TR Δ n t a)
  {r:Tm×Hp} (hp:rr (iW ops)=true) (E:(iW ops).all (Du (iW ops))=true) (F:(iW ops).all Bp=true) (m:xi (iW ops) (hH (iW ops)) (order (iW ops) (hH (iW ops)) (hH (iW ops)) 0) 0 0=true)
  (hv:(xZ n ops.toList (hH (iW ops)) (order (iW ops) (hH (iW ops)) (hH (iW ops)) 0) 0).f call t h []=some r) {Q:Exit->Act->World->Prop} (G:∀u B w',B1 Δ h w n r.1 r.2 u B w'->Q .normal B w')
  (C:∀T:Tc,uo n ops.toList (iW ops) (hH (iW ops)) call t h (order (iW ops) (hH (iW ops)) (hH (iW ops)) 0) 0 0 h [] r T T->∀(fuel:Nat) (c:Array Bool) (p:Act) (w':World) (j:Nat) (u:Env) (t':Tm) (a:It),0<=j->c.toList.count false<=fuel+1->
   Inv n ops t h Δ w T c j u t' p w'->a∈iW ops->cls a.o=2->c.getD a.i false=false->(∀x∈iW ops,a.b.testBit x.i=true->c.getD x.i false=true)->(hH (iW ops))[j]?≠some a->
   wpOp P0 ops Q a.i (wpAny P0 .any ops Q fuel (c.setIfInBounds a.i true)) p w'):(Code.region id ops true).wp P0 Q a w:=by
 have k:∀x∈order (iW ops) (hH (iW ops)) (hH (iW ops)) 0,x∈iW ops:=by grind[J6,p6]
 let H:Tc:=⟨λ_=>false,λ_=> .undef,λ_=> .tree .leaf [],λ_=>0,λ_=>0,λ_=>default,λ_=>h,λ_=>h⟩
 obtain ⟨T,g⟩:=trace (n:=n) (all:=ops.toList) (kF:=iW ops) (ws:=hH (iW ops)) (call:=call) (t0:=t) (h0:=h) tv hp _ 0 0 t h [] r H k m hv (λa M s=>by simp at s)
  (by grind[Iz]) (jK _) (by omega) (Na _)
 have v:uo n ops.toList (iW ops) (hH (iW ops)) call t h _ 0 0 h [] r T T:=
  ⟨by simp_all,by omega,g.item,g.DC,g.more,g.chain,g.UT,g.TF,g.last,g.pE,g.done,g.kle⟩
 refine wp_region_any l (UJ (T:=T) (Δ0:=Δ) (w0:=w) (h0:=h) (t0:=t) hc hp E F 0 (by grind) k v (BG _ _ hv) G ops.size _ a _ 0 Δ t (jK _) ?_ ⟨by simp,λx s y=>?_,Na _,λq x hq=>?_,D,λd=>?_,(A.heap (w':={w with drawn:=w.drawn+1}) rfl).OS g.more,
  ⟨Env.le_refl _,jK _,rfl,rfl,rfl,by simp_all,by simp_all⟩,by simp_all,rfl,λx s I J _ _=>?_⟩)
 ·simp_all
 ·simp only[wBV,wB0]at y
  grind
 ·constructor
  ·intro K;simp only[wBV,wB0]at K
   grind
  omega
 ·refine(Iz (λx _ _=>?_) _).symm;simp only[wBV,wB0]
  grind
 ·have z:x∈order (iW ops) (hH (iW ops)) (hH (iW ops)) 0:=by
   rcases g.done x s with L|L
   ·simp_all
   ·grind[wc]
  have:=g.UT x z I J
  cases hd':Δ (T.pl x.i)with
  |none=>rfl
  |some e=>have:=A.fresh _ _ hd';omega
theorem ZY(hc:vU call) (c:P0.follows .mixedOrders=true) {id:Nat} {ops:Array Oper} {Δ:Env} {h:Hp} {w:World} {t:Tm} {a:Act} (q:WR Δ h w) (s:TR Δ n t a)
  {r:Tm×Hp} (hv:(Mu n ops.toList).f call t h=some r) {Q:Exit->Act->World->Prop} (k:∀u l w',B1 Δ h w n r.1 r.2 u l w'->Q .normal l w'):(Code.region id ops true).wp P0 Q a w:=by
 unfold Mu at hv;split at hv
 ·rename_i b;simp only[vR,O7]at b
  grind[OA,UW]
 ·split at hv
  ·rename_i pr g b;simp only[vR,PJ]at b;obtain⟨⟨⟨hp,m⟩,o⟩,d⟩:=b;simp only[fx,hY]at hv;obtain⟨r',hv,i,v⟩:=hv;cases v;obtain⟨x,y,da,db⟩:=pr;obtain⟨z,A,B,C,D,E,F⟩:=QM g;obtain⟨p,G,H,I⟩:=L3 z;have e:∀x∈order (iW ops) (hH (iW ops)) (hH (iW ops)) 0,x∈iW ops:=by grind[J6,p6]
   exact OA hc c q s hp m o d hv k λT j=>XP hc hp m o e j ⟨G,H,I,A,B,C,D,E,F,i⟩ (BG _ _ hv) k
  ·cases hv
def X.to:X->Exit
 | .normal=> .normal
 | .exit id=> .exit id
 | .ret=> .ret
theorem IW{r:Option (X×Tm×Hp)} {k:Tm->Hp->Option (X×Tm×Hp)} {y:X×Tm×Hp} (h:EK r k=some y) :
  (∃t h',r=some (.normal,t,h')/\k t h' = some y)\/(r=some y/\y.1≠ .normal):=by
 unfold EK at h
 grind
theorem TE{next:Act->World->Prop} {Q:Exit->Act->World->Prop} {x:X} (b:x≠ .normal) {a:Act} {w:World} (h:Q x.to a w):Exit.then next Q x.to a w:=by
 cases x with
 |normal=>simp_all
 |exit id=>exact h
 |ret=>exact h
theorem xh(hc:vU call) (d:P0.follows .mixedOrders=true) {m:Nat}:∀(c:Code) {Δ:Env} {h:Hp} {w:World} {t:Tm} {a:Act},WR Δ h w->TR Δ n t a->∀{r:X×Tm×Hp},
  (iG n c).f call m t h=some r->∀{Q:Exit->Act->World->Prop},(∀z l w',B1 Δ h w n r.2.1 r.2.2 z l w'->Q r.1.to l w')->c.wp P0 Q a w
 | .skip,Δ,h,w,t,a,e,g,r,hv,Q,i=>by cases hv;exact wp_skip (i _ _ _ (.start g e))
 | .seq x y,Δ,h,w,t,a,e,g,r,hv,Q,i=>by
   simp only[iG]at hv;refine wp_seq ?_;rcases IW hv with⟨G,q,s,B⟩|⟨s,B⟩
   ·exact xh hc d x e g s λz l w' j=>xh hc d y j.world j.tmps B λC D E u=>i _ _ _ (j.trans u)
   ·exact xh hc d x e g s (by grind[TE])
 | .cond c x y,Δ,h,w,t,a,e,g,r,hv,Q,i=>by
   simp only[iG,fx]at hv;obtain⟨v,q,p⟩:=hv;have A:=lH e g q;split at p
   ·rename_i b
    generalize hx:a.eval c=xv at A;cases A
    cases b with
    |true=>exact wp_cond_true hx (xh hc d x e g p i)
    |false=>exact wp_cond_false hx (xh hc d y e g p i)
   ·cases p
 | .block id c,Δ,h,w,t,a,e,g,r,hv,Q,i=>by
   simp only[iG]at hv;refine wp_block ?_
   cases A:(iG n c).f call m t h with
   |none=>rw[A]at hv;cases hv
   | some r'=>
     rw[A]at hv;refine xh hc d c e g A λz l w' j=>?_;obtain⟨x,t',h'⟩:=r'
     cases x with
     |normal=>cases hv;exact i _ _ _ j
     |ret=>cases hv;exact i _ _ _ j
     | exit o=>
       simp only[J4]at hv;show if o=id then Q .normal l w' else Q (.exit o) l w'
       cases hb:Nat.beq o id with
       | true=>
         rw[hb]at hv;have:=AG hb;rw[if_pos this];cases hv
         exact i _ _ _ j
       | false=>
         rw[hb]at hv;have:o≠id:=by grind[Tn]
         rw[if_neg this];cases hv
         exact i _ _ _ j
 | .loop c,Δ,h,w,t,a,e,g,r,hv,Q,i=>by
   simp only[iG]at hv;refine FP.wp ?_
   have H:∀(k:Nat) {Δ:Env} {h:Hp} {w:World} {t:Tm} {a:Act},WR Δ h w->TR Δ n t a->FH (λt h=>(iG n c).f call m t h) k t h=some r->
       (∀z l w',B1 Δ h w n r.2.1 r.2.2 z l w'->Q r.1.to l w')->FP c Q a w:=by
     intro k
     induction k with
     |zero=>intro Δ h w t a _ _ hv _;cases hv
     | succ k I=>
       intro Δ h w t a e g hv i;have F:EK ((iG n c).f call m t h) (FH (λt h=>(iG n c).f call m t h) k)=some r:=hv;refine FP.round ?_;rcases IW F with⟨G,q,s,B⟩|⟨s,B⟩
       ·exact xh hc d c e g s λz l w' j=>I j.world j.tmps B λC D E u=>i _ _ _ (j.trans u)
       ·exact xh hc d c e g s (by grind[TE])
   grind
 | .exit id,Δ,h,w,t,a,e,g,r,hv,Q,i=>by cases hv;exact wp_exit (i _ _ _ (.start g e))
 | .ret,Δ,h,w,t,a,e,g,r,hv,Q,i=>by cases hv;exact wp_ret (i _ _ _ (.start g e))
 | .region id ops false,Δ,h,w,t,a,e,g,r,hv,Q,i=>by
   simp only[iG,fx]at hv;obtain⟨r',q,p⟩:=hv;cases p;refine wp_region ?_;have:=Oq (Q:=Q) hc ops.toList 0 rfl e g q i
   grind[List.range_eq_range']
 | .region id ops true,Δ,h,w,t,a,e,g,r,hv,Q,i=>by
   simp only[iG,fx]at hv;obtain⟨r',q,p⟩:=hv;cases p
   exact ZY hc d e g q i
 | .rangeFunc ..,Δ,h,w,t,a,e,g,r,hv,Q,i=>by cases hv
 | .scope _,Δ,h,w,t,a,e,g,r,hv,Q,i=>by cases hv
 | .label _,Δ,h,w,t,a,e,g,r,hv,Q,i=>by cases hv
 | .goto _,Δ,h,w,t,a,e,g,r,hv,Q,i=>by cases hv
 | .refuse _,Δ,h,w,t,a,e,g,r,hv,Q,i=>by cases hv
noncomputable def NY(t:Tr V)(i:Nat):V:=Option.rec (motive:=λ_=>V) V.undef (λv=>v) (t.get i)
theorem U4(t:Tr V)(d i:Nat)(v:V):NY (t.set d v) i=if d=i then v else NY t i:=MG (.tree t []) d i v
theorem NU:∀(args:List V) (i:Nat) (t:Tr V) (j:Nat),NY (RC args i t) j=if i<=j/\j<i+args.length then args[j-i]?.getD .undef else NY t j
 |[],i,t,j=>by rw[if_neg (by simp_all)];rfl
 | v ::vs,i,t,j=>by
   simp only[RC];rw[NU vs (i+1) (t.set i v) j];by_cases a:i+1<=j/\j<i+1+vs.length
   ·grind
   ·rw[if_neg a,U4]
    grind
theorem Sw(args:List V) (i:Nat):j6 (SG args) i=(args[i]?).getD .undef:=by
 have h:=NU args 0 .leaf i;rw[show j6 (SG args) i=NY (RC args 0 .leaf) i from rfl,h]
 simp_all[if_pos,Nat.sub_zero,if_neg,NT,NY,Tr.tF]
theorem Ks{C:ft} (a:xF C) {Δ:Env} {args:List V} {gQ:Array Value} (b:gP Δ args gQ.toList) {k:Nat} (d:args.length<=k) :
  TR Δ k (C.start args) {tmps:=gQ++Array.replicate (k-gQ.size) undef,defers:=[]}:=by
 have c:=b.length;simp only[Yw]at c;refine⟨by simp;omega,λi=>?_,by rw[a.Ms];exact .nil⟩;rw[a.start];simp only[wBV];by_cases h:i<args.length
 ·rw[Array.getElem?_append_left (by omega)];obtain⟨x,e,f⟩:=b.get i args[i] (by simp_all)
  grind
 ·rw[NT (by omega),Array.getElem?_append_right (by omega),wB0];split <;> exact .undef Δ
def Xb(tmps:Array Value):ResultVar->Sem Value
 | .tmp t=>pure (tmps.getD t undef)
 | .cell b ty=>do loadVar ty (<-asAddr (tmps.getD b undef))
theorem Tu{Δ:Env} {h:Hp} {w:World} {t:Tm} {a:Act} (g:WR Δ h w) (f:TR Δ n t a):∀{l:List ResultVar} {vs:List V},Ao t h l=some vs->
  ∃xs,(l.mapM (Xb a.tmps)).run P0 w = .ok xs w/\gP Δ vs xs
 |[],vs,hv=>by simp[Ao]at hv;subst hv;exact⟨[],by simp,.nil⟩
 | .tmp i::l,vs,hv=>by
   simp only[Ao,fx]at hv;obtain⟨v,c,j,k,m⟩:=hv;cases m;obtain⟨xs,s,o⟩:=Tu g f k;simp only[Vd]at c;cases c;have hp:(Xb a.tmps (.tmp i)).run P0 w = .ok (a.tmps.getD i undef) w:=rfl
   exact⟨a.tmps.getD i undef::xs,by simp_all,.cons _ _ _ _ (f.rel i) o⟩
 | .cell b ty::l,vs,hv=>by
   simp only[Ao,fx]at hv;obtain⟨v,c,j,k,m⟩:=hv;cases m;obtain⟨xs,s,o⟩:=Tu g f k;simp only[Vd]at c;obtain⟨x,r,u⟩:=MI (xv:=a.tmps.getD b undef) g (λv hv=>by cases hv;exact f.rel b) c;have d:∃ad,a.tmps.getD b undef = .pointer (some ad):=by
     cases hx:a.tmps.getD b undef with
     | pointer p=>cases p with
       |some ad=>simp_all
       |none=>simp_all[Instr.loadAt,Instr.sureAddr]
     |_=>simp_all[Instr.loadAt,Instr.sureAddr]
   obtain⟨ad,e⟩:=d;rw[e]at r;have q:(loadVar ty ad).run P0 w = .ok x w:=by simpa[Instr.loadAt,Instr.sureAddr]using r
   have hp:(Xb a.tmps (.cell b ty)).run P0 w = .ok x w:=by simp only[Xb,e,asAddr,xk,KL,vQ,q]
   exact⟨x::xs,by simp_all,.cons _ _ _ _ u o⟩
theorem LY{Δ:Env} {h:Hp} {w:World} {t:Tm} {a:Act} (d:WR Δ h w) (e:TR Δ n t a) {fn:Func} {vs:List V} (hv:Ao t h fn.results.toList=some vs) :
  ∃x,(results fn a.tmps).run P0 w = .ok x w/\fP Δ (zF vs) x:=by
 obtain ⟨xs,f,g⟩:=Tu d e hv;have i:(results fn a.tmps).run P0 w = .ok (if h:xs.toArray.size=1 then xs.toArray[0] else .tuple xs.toArray) w:=by
  have h0:results fn a.tmps=(do let vs <-fn.results.mapM (Xb a.tmps);pure (if h:vs.size=1 then vs[0] else .tuple vs)):=by
   unfold results;congr 1
  rw[h0,Array.mapM_eq_mapM_toList];simp only[xk,map_eq_pure_bind,f,vQ,KL]
 refine⟨_,i,?_⟩
 cases g with
 |nil=>exact .tuple _ #[] .nil
 | cons v x vs xs b hs=>
   cases hs with
   |nil=>exact b
   | cons j k vs xs c hs=>
     rw[dif_neg (by simp)];exact .tuple _ _ (.cons _ _ _ _ b (.cons _ _ _ _ c hs))
theorem TO{Δ m:Env} {h:Hp} {w w':World} {n:Nat} {fn:Func} {r:X×Tm×Hp} {b:Act} {v:V} {h':Hp} (d:B1 Δ h w n r.2.1 r.2.2 m b w') (hv:Wu fn r=some (v,h')) :
  (r.1 = .normal\/r.1 = .ret)/\b.defers=[]/\∃y,(results fn b.tmps).run P0 w' = .ok y w'/\∃c z,Ending.returned y = .returned z/\zo Δ h w v h' c z w':=by
 obtain⟨x,t',f⟩:=r
 have a:(match t'.ds with
   |[]=>oB (Ao t' f fn.results.toList) λvs=>some (zF vs,f)
   |_::_=>none)=some (v,h')->b.defers=[]/\∃y,(results fn b.tmps).run P0 w' = .ok y w'/\
   ∃c z,Ending.returned y = .returned z/\zo Δ h w v h' c z w':=by
  intro e;split at e
  ·rename_i i;simp only[fx]at e;obtain⟨vs,j,e⟩:=e;cases e;obtain⟨y,o,k⟩:=LY d.world d.tmps j;have g:=d.tmps.ds;simp only at g;rw[i]at g
   have l:b.defers=[]:=by cases hx:b.defers with
    |nil=>rfl
    |cons _ _=>rw[hx]at g;cases g
   exact⟨l,y,o,m,y,rfl,k,d.world,d.frame,d.grow⟩
  ·cases e
 cases x with
 |exit id=>cases hv
 |normal=>exact⟨.inl rfl,a hv⟩
 |ret=>exact⟨.inr rfl,a hv⟩
theorem RG{o:Oper} {c:Go.Call} (a:o.op = .call c) (hc:c.callee = .builtin .recover) (ρ:Operand->Value) (w:World):(execOp ρ o).run P0 w = .ok .recover w:=by
 unfold execOp;rw[a];simp only[xk,resolve,hc,KL,vQ];rfl
theorem VK{c a:Code} {d:Nat} (h:TZ c=some (d,a)):∃id o e,c = .seq (.region id #[o] false) a/\o.op = .call e/\e.callee = .builtin .recover/\o.guard=none/\o.dst=some d:=by
 unfold TZ at h;split at h
 ·rename_i id ops f;split at h
  ·rename_i o k;split at h
   ·rename_i e g;split at h
    ·rename_i l i j b;cases h;refine⟨id,o,e,?_,g,i,j,b⟩;congr 2
     grind
    ·cases h
   ·cases h
  ·cases h
 ·cases h
theorem XL{C:ft} (u:xF C) (hc:vU call) {m f:Nat} {args:List V} {v:V} {h h':Hp} {Δ:Env} {w:World} {gQ:Array Value} (hv:(Kq C f).f call m args h=some (v,h'))
  (M:WR Δ h w) (O:gP Δ args gQ.toList):(callFunc f gQ).run P0 w = .ok (.enter f gQ) w/\
   CallsD P0 f gQ .returning w λe u' w'=>u' = .returning/\∃z x,e = .returned x/\zo Δ h w v h' z x w':=by
 unfold Kq at hv;split at hv
 ·rename_i fn A;split at hv
  ·rename_i c N;refine⟨?_,?_⟩
   ·have T:=u.named f fn A
    simp_all[callFunc,xk,run_program,vQ,wB9,PT,if_false]
   split at hv
   ·rename_i d b p;simp only[hY,fx]at hv;obtain⟨i,P,r,B,D⟩:=hv;have g:args.length<=fn.ntmps:=JE i;obtain⟨id,o,U,rfl,E,F,Q,q⟩:=VK p;refine callsD_of_wpS A N λG cs s=>?_;have H:=Ks u O g;have I:yY fn.ntmps o=some ⟨λt v=>t.set d v⟩:=by unfold yY;rw[q];simp only[P]
    have R:TR Δ fn.ntmps ((C.start args).set d .nilIface) (({tmps:=gQ++Array.replicate (fn.ntmps-gQ.size) undef,defers:=[]}:Act).put o.dst .nilIface):=Ki H I .nilIface;refine wpS_seq (wpS_region ?_);have MN:List.range (#[o]:Array Oper).size=[0]:=rfl;rw[MN];simp only[wpOpsS];have h0:(#[o]:Array Oper)[0]? =some o:=rfl;simp only[h0];have j:∀y,Region.wanted o y=true:=by grind[Region.wanted]
    rw[if_pos (j _),RG E F];have k:recoverD (G::cs)=none:=by simp only[recoverD,s]
    simp only[k];show b.wpS P0 _ _ _ _;refine wpS_of_wp ?_;refine xh hc u.mixed b M R B λz S w' J=>?_;obtain⟨a,l,y,K,L⟩:=TO J D;have n:({G with mode:= .returning}:Frame)=G:=by rw[<-s]
    rcases a with a|a <;> rw[a] <;> exact⟨l,.returning,by rw[n],y,K,rfl,L⟩
   ·simp only[hY,fx]at hv;obtain⟨i,r,B,D⟩:=hv;have g:args.length<=fn.ntmps:=JE i;refine callsD_of_wp A N ?_;refine xh hc u.mixed c M (by grind[Ks]) B λz S w' J=>?_;obtain⟨a,l,y,K,L⟩:=TO J D;rcases a with a|a <;> rw[a] <;> exact⟨l,y,K,L⟩
  ·cases hv
 ·cases hv
theorem TG{C:ft} (j:xF C) (hc:vU call) {m:Nat} {fn:Func} {tmps:Array Value} {R:Ending->World->Prop}:∀(l:List (Nat×List V)) {c:List Deferred} {Δ:Env} {h h':Hp} {w:World},
  Nl C call m l h=some h'->WR Δ h w->IM Δ l c->
  (∀a w',WR a h' w'->FR Δ a w w'->Gr h Δ h' a->∃v,(results fn tmps).run P0 w' = .ok v w'/\R (.returned v) w')->Leaves P0 fn tmps R c .returning w
 | [],_,Δ,h,h',w,hv,hW,.nil,hR=>by
   cases hv
   exact hR Δ w hW (.refl _ _) (.refl _ _)
 | (g,args)::l,_,Δ,h,h',w,hv,hW,.cons _ _ cap gQ _ c ha hl,hR=>by
   simp only[Nl,fx]at hv;obtain⟨⟨v,u⟩,k,n⟩:=hv;obtain⟨o,p⟩:=XL j hc k hW ha;refine leaves_cons (by simp_all) (f:=g) (args:=gQ++cap) o ?_;refine CallsD.mono p λe u' w' q=>?_;obtain⟨rfl,a,x,rfl,b⟩:=q;exact TG j hc l n b.world (hl.mono b.frame.le) λd i r s t=>hR d i r (b.frame.trans s) (b.grow.trans t)
theorem YI{C:ft} (i:xF C) (hc:vU call) {m:Nat}:vU λf args h=>(Ew C f).f call m args h:=by
 intro f args v h h' Δ w gQ hv l E;simp only at hv;unfold Ew at hv;split at hv
 ·rename_i fn n;split at hv
  ·rename_i c o;right;have a:(callFunc f gQ).run P0 w = .ok (.enter f gQ) w:=by
    have L:=i.named f fn n;simp only[callFunc,xk,run_program,vQ,n,L,o,wB9,PT,if_false];rfl
   refine⟨a,?_⟩;simp only[Yo]at hv
   cases hk:C.K f args h with
   | some u=>
     rw[hk]at hv;simp only[hY,vR]at hv;obtain⟨⟨j,p⟩,hv⟩:=hv;cases hv;refine Calls.mono (i.known f args _ _ hk j p Δ w gQ l (OF E j)) λe w' q=>?_;obtain⟨x,rfl,M,hs⟩:=q
     exact⟨Δ,x,rfl,hs.after l M⟩
   | none=>
     rw[hk]at hv;simp only[hY,fx]at hv;obtain⟨s,r,t,d⟩:=hv;have F:args.length<=fn.ntmps:=JE s;refine calls_of_wp_defers n o ?_;refine xh hc i.mixed c l (by grind[Ks]) t λG H w' k=>?_;obtain⟨x,t',z⟩:=r
     have b:(∃g,Nl C call m t'.ds z=some g/\∃vs,Ao t' g fn.results.toList=some vs/\some (zF vs,g)=some (v,h'))->
         Leaves P0 fn H.tmps (λe w'=>∃G x,e = .returned x/\zo Δ h w v h' G x w') H.defers .returning w':=by
       rintro⟨g,N,vs,A,q⟩;cases q;refine TG i hc _ N k.world k.tmps.ds λB O I J P=>?_;obtain⟨y,Q,D⟩:=LY I (k.tmps.mono J.le) A;exact⟨y,Q,B,y,rfl,D,I,k.frame.trans J,k.grow.trans P⟩
     cases x with
     |exit id=>cases d
     |normal=>simp only[fx]at d;exact b d
     |ret=>simp only[fx]at d;exact b d
  ·rename_i o;left;simp only[fx]at hv;obtain⟨u,t,d⟩:=hv;cases d;obtain⟨x,g,R⟩:=i.ext f fn n o Δ args _ gQ w t E;exact⟨x,g,R,l,.refl _ _,.refl _ _⟩
 ·cases hv
theorem IX{C:ft} (a:xF C) (m:Nat):∀d,vU (kG C m d)
 |0=>λf args v h h' Δ w gQ hv=>(nomatch hv)
 |d+1=>YI a (IX a m d)
end
theorem N8(c:Nat) (hc:c<256):∀(l:List UInt8) (n:Nat),L5 c l n=n+l.count (UInt8.ofNat c)
 |[],n=>by rfl
 | b ::l,n=>by
   simp only[L5];rw[N8 c hc l,List.count_cons];have a:Nat.beq b.toNat c=(b == UInt8.ofNat c):=by
     rw[V4];simp only[C9];constructor
     ·intro h
      have h':b.toNat=c:=AG h;rw[<-h'];simp
     ·simp_all
   rw[a];cases b == UInt8.ofNat c
   ·simp
   grind
theorem N3(c:Nat) (hc:c<256):∀(l:List UInt8) (n:Nat),(match Pr c l n with|some i=>(i:Int)|none=>-1)=if Lib.indexByte l (UInt8.ofNat c) = -1 then -1 else Lib.indexByte l (UInt8.ofNat c)+n
 |[],n=>by rfl
 | b ::l,n=>by
   simp only[Pr];have a:Nat.beq b.toNat c=(b == UInt8.ofNat c):=by
     rw[V4];simp only[C9];constructor
     ·intro h
      have h':b.toNat=c:=AG h;rw[<-h'];simp
     ·simp_all
   rw[a];unfold Lib.indexByte
   cases hbc:b == UInt8.ofNat c with
   |true=>simp
   | false=>
     have e:=N3 c hc l (n+1);have d:=Lib.indexByte_ge l (UInt8.ofNat c)
     grind
theorem U1{f:Nat} {fn:Func} (g:P0.funcs[f]? =some fn) (a:(fn.name == "runtime.NumGoroutine")=false) (h:fn.body.isNone=true) (i:Extern.findNext fn=none) (j:Extern.find fn=some Extern.BytealgCount.count)
  {Δ:Env} {args:List V} {v:V} {gQ:Array Value} {w:World} (hv:TC .countByte args=some v) (k:gP Δ args gQ.toList):∃x,(callFunc f gQ).run P0 w = .ok (.value x) w/\fP Δ v x:=by
 unfold TC at hv;split at hv
 ·rename_i s c _;rw[hY]at hv;obtain⟨hc,hv⟩:=hv;have b:c<256:=by rw[PM]at hc;exact hc
  cases hv;obtain⟨l⟩:=gQ
  cases k with
  | cons _ x _ xs d hs=>
    cases hs with
    | cons _ y _ ys m hs=>
      cases hs;cases m;generalize mM:s=sl at d
      cases d with
      | str sb=>
        have n:=Lib.run_countString (P:=P0) sb (Int.ofNat c) w;refine⟨.int .i64 (Lib.countByte sb.data.toList (Int.ofNat c).toNat.toUInt8),?_,?_⟩
        ·rw[run_callFunc_extern g a h i j]
         simp_all
        have e:L5 c sb.data.toList 0=Lib.countByte sb.data.toList (Int.ofNat c).toNat.toUInt8:=by
          rw[N8 c b,zA];rfl
        rw[e];exact .int _ _
 ·simp_all
 ·cases hv
theorem Ve{f:Nat} {fn:Func} (g:P0.funcs[f]? =some fn) (a:(fn.name == "runtime.NumGoroutine")=false) (h:fn.body.isNone=true) (j:Extern.findNext fn=none) (k:Extern.find fn=some Extern.BytealgIndexByte.indexByte)
  {Δ:Env} {args:List V} {v:V} {gQ:Array Value} {w:World} (hv:TC .indexByte args=some v) (m:gP Δ args gQ.toList):∃x,(callFunc f gQ).run P0 w = .ok (.value x) w/\fP Δ v x:=by
 unfold TC at hv;split at hv
 ·simp_all
 ·rename_i s c _;rw[hY]at hv;obtain⟨hc,hv⟩:=hv;have b:c<256:=by rw[PM]at hc;exact hc
  obtain⟨l⟩:=gQ
  cases m with
  | cons _ x _ xs d hs=>
    cases hs with
    | cons _ y _ ys n hs=>
      cases hs;cases n;generalize mM:s=sl at d
      cases d with
      | str sb=>
        have p:=Lib.run_indexByteString (P:=P0) sb (Int.ofNat c) w;refine⟨.int .i64 (Lib.indexByte sb.data.toList (Int.ofNat c).toNat.toUInt8),?_,?_⟩
        ·rw[run_callFunc_extern g a h j k]
         simp_all
        have e:=N3 c b sb.data.toList 0;have o:(if Lib.indexByte sb.data.toList (UInt8.ofNat c) = -1 then -1 else Lib.indexByte sb.data.toList (UInt8.ofNat c)+((0:Nat):Int))=Lib.indexByte sb.data.toList (Int.ofNat c).toNat.toUInt8:=by
          show _=Lib.indexByte sb.data.toList (UInt8.ofNat c);split
          ·omega
          ·simp
        rw[o]at e;rw[<-e];rw[mM]at hv;split at hv
        ·rename_i i hi;cases hv;rw[hi];exact .int _ _
        ·rename_i hi;cases hv;rw[hi];exact .int _ _
 ·cases hv
def Kept(W W':World):Prop:=W'.os=W.os/\W'.output=W.output/\W.heap.size<=W'.heap.size/\∀b,b<W.heap.size->W'.heap[b]? =W.heap[b]?
theorem Kept.Dp{W W':World} (h:Kept W W') (a:MemPlace->Prop):W.keptBut W' a:=by
 refine⟨h.1,h.2.1,λi hi=>?_⟩;rw[h.2.2.2 i hi]
 grind
theorem FR.kept{Δ a:Env}{w w':World}(h:FR Δ a w w')(c:∀b,¬RW Δ b):Kept w w':=⟨h.os,h.output,h.size,λb d=>h.fm b d (c b)⟩
def isTrue:Option (V×Hp)->Bool
 |some (.bool true,_)=>true
 |_=>false
theorem CH.none{Δ:Env}{w:World}(h:CH Δ w):CH (λ_=>none) w:=λg c a=>⟨(h g c a).1,by simp_all⟩
theorem WR.start(n:Nat) (a:P0.globals.size<=n) (w:World) (b:CH (λ_=>none) w):WR (λ_=>none) {next:=n,tr:= .leaf} w:=
 ⟨by simp_all,by simp_all,by simp_all,by simp_all,by grind[Hp.get_eq,Tr.tF],a,b⟩
theorem known{C:ft} (j:xF C) {m d n f:Nat} (u:P0.globals.size<=n) (a:∃fn c,P0.funcs[f]? =some fn/\fn.body=some c) (hv:isTrue (kG C m d f [] {next:=n,tr:= .leaf})=true) (W:World) (w:CH (λ_=>none) W) :
  Calls P0 f #[] W λe W'=>e = .returned (.bool true)/\Kept W W':=by
 cases hr:kG C m d f [] {next:=n,tr:= .leaf} with
 |none=>rw[hr]at hv;cases hv
 | some r=>
   obtain ⟨v,h'⟩:=r;rw[hr]at hv;have g:v = .bool true:=by
     unfold isTrue at hv;split at hv
     ·simp_all
     ·cases hv
   subst g;rcases IX j m d f [] _ _ _ (λ_=>none) W #[] hr (by grind[WR.start]) .nil with⟨x,y,_⟩|⟨_,p⟩
   ·exfalso
    obtain ⟨fn,c,k,h⟩:=a;have i:=j.named f fn k;have:(callFunc f #[]).run P0 W = .ok (.enter f #[]) W:=by
      simp only[callFunc,xk,run_program,vQ,k,i,h,wB9,PT,if_false];rfl
    simp_all
   ·refine Calls.mono p λe w' q=>?_
    obtain⟨z,x,rfl,o⟩:=q;have s:=o.val;cases s;exact⟨rfl,o.frame.kept λb a=>(by obtain⟨l,d,t,_⟩:=a;cases t)⟩
open Go.ChangeShapes Go.WideShapes in
theorem Vs {H:Type} {enc:TypeId×Value->H} {P:Program} {f:Func} {s:ChangeSpec} {apart fresh handsOn again:Bool} {W W':World} {args:Array Value} {v:Value} {ds gs:List (DataW H)}
  {before pa pv:List MemPlace} (hW:DataW.Whole enc P f.params.toList s.vars apart W args.toList ds gs before)
  (zcx:∀(b:Nat) (sp:Nat->Bool) (hd:Bool),DataW.TrodAll enc P W' b sp hd f.resultTypes.toList (v.resultList f.resultTypes.size) (s.fn H (ds++gs)).results [])
  (zai:∀sp:Nat->Bool,(∀p∈before,sp p.block=true)->DataW.TrodAll enc P W' 0 sp true f.params.toList args.toList (s.fn H (ds++gs)).args pa)
  (zas:∀sp:Nat->Bool,(∀p∈before,sp p.block=true)->DataW.TrodVars enc P W' sp s.vars (s.fn H (ds++gs)).vars pv)
  (hps:before=pa++pv) (hk:Kept W W')
  (hok:∀(j:Nat) (t:TypeId) (r:Value),f.resultTypes[j]? =some t->(v.resultList f.resultTypes.size)[j]? =some r->Value.okWide P W' .any 0 t r) :
  s.post enc P f apart fresh handsOn again W args v W':=by
 have Nr:∀p∈before,p.block<W.heap.size:=λp hp=>hW.lt p hp;have hold:∀p∈before,(λb=>decide (b<W.heap.size)) p.block=true:=by simp_all
 refine⟨ds,gs,before,[],pa,pv,hW,zcx _ _ _,zai _ hold,zas _ hold,hk.Dp _,λ_=>?_⟩;obtain⟨_,_,_,_,_,hz,hn⟩:=hW;refine⟨hok,_,_,([]++pa)++pv,⟨[]++pa,pv,trodAll_append (zai _ (λ_ _=>rfl)) (zcx _ _ _),zas _ (λ_ _=>rfl),rfl,?_,?_⟩,?_⟩
 ·intro b off hp;have hp':MemPlace.cell b off∈before:=by rw[hps];simpa using hp
  have hz':=hz b off hp';have hb:=Nr _ hp';have he:W'.frozen? ⟨b,off,none⟩=W.frozen? ⟨b,off,none⟩:=by
   unfold World.frozen?;have:=hk.2.2.2 b hb;simp only at this⊢;rw[this]
  simp_all
 ·simp_all
 simp_all
