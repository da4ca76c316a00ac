/- Parts. -/
import Derived.Test.YtbdcpiokodljaaaGreatDoorM05
import Derived.Defers
import Derived.Recover
import Derived.Lib.Bytealg
import Derived.Laws.Externs
import Derived.ChangeSame
import Derived.RowKit3
set_option maxHeartbeats 4000000
namespace Go.Proofs.YtbdcpiokodljaaaGreatDoor.Hx
structure Still (W W':World):Prop where
 os:W'.os=W.os
 tape:W'.tape=W.tape
 output:W'.output=W.output
 size:W.heap.size<=W'.heap.size
 fi:∀b,b<W.heap.size->W'.heap[b]? =W.heap[b]?
theorem FR.still{Δ a:Env}{w w':World}(h:FR Δ a w w')(c:∀b,¬RW Δ b):Still w w':=⟨h.os,h.tape,h.output,h.size,λb d=>h.fi b d (c b)⟩
theorem zf5(b:Nat):¬RW (λ_=> .none) b:=λ⟨_,_,a,_⟩=>nomatch a
theorem Still.after{Δ:Env} {h:Hp} {W W':World} (hs:Still W W') (a:WR Δ h W) {v:V} {x:Value} (hv:fO (λ_=> .none) v x):Am Δ h W v h Δ x W' where
 val:=hv.mono λ_ _ (h:(none:Option D)=some _)=>by cases h
 world:=⟨a.fresh,λl d c=>ET (a.nV l d c) hs.size,λl d c=>by rw[hs.fi _ (a.nV l d c)];exact a.obj l d c,a.apart,a.Jq,a.An,a.Wj.step (λb e _=>hs.fi b e) (by simp_all)⟩
 frame:=⟨Env.le_refl _,hs.size,hs.os,hs.tape,hs.output,λb e _=>hs.fi b e,by simp_all⟩
 grow:= .refl _ _
theorem Te{Δ a:Env} {v:V} {x:Value} (h:fO Δ v x) (c:v.flat=true):fO a v x:=by
 cases h with
 |bool b=>exact .bool b
 |int k n=>exact .int k n
 |str s=>exact .str s
 |nilPtr=>exact .nilPtr
 |ee=>exact .ee
 |mJ=>exact .mJ
 |nilFunc=>exact .nilFunc
 |nilIface=>exact .nilIface
 |_=>grind[V.flat]
theorem PG{Δ a:Env}:∀{vs:List V} {xs:List Value},gN Δ vs xs->TG vs=true->gN a vs xs
 |[],_,.nil,_=> .nil
 | v::vs,_,.cons _ _ _ _ h hs,hf=>by
   simp only[TG,wBy,yl]at hf;exact .cons _ _ _ _ (Te h hf.1) (PG hs hf.2)
structure yC (C:fk):Prop where
 NU:∀args,(C.start args).ds=[]
 start:∀args i,ki (C.start args) i=(args[i]?).getD .undef
 mixed:P0.follows .mixedOrders=true
 named:∀(f:Nat) (fn:Func),P0.funcs[f]? =some fn->(fn.name == "runtime.NumGoroutine")=false
 ext:∀(f:Nat) (fn:Func),P0.funcs[f]? =some fn->fn.body=none->∀(Δ:Env) (args:List V) (v:V) (gS:Array Value) (w:World),Uh (C.ext f) args=some v->gN Δ args gS.toList->
  ∃x,(callFunc f gS).run P0 w = .ok (.value x) w/\fO Δ v x
 known:∀(f:Nat) (args:List V) (v:V) (h:Hp),C.K f args h=some v->TG args=true->v.flat=true->∀(Δ:Env) (W:World) (gS:Array Value),WR Δ h W->gN (λ_=> .none) args gS.toList->
  Calls P0 f gS W λe W'=>∃x,e = .returned x/\fO (λ_=> .none) v x/\Still W W'
section
variable{n:Nat}{call:Call}
theorem Lz{kM ws:List It} (b:∀x∈ws,x∈kM):∀(l:List It) (k:Nat),(∀x∈l,x∈kM)->∀a∈order kM ws l k,a∈kM
 |[],k,_,a,ha=>(LC.1 ha).1
 | w::l,k,hl,a,ha=>by
   simp only[order,JT,Pd]at ha;rcases ha with h|rfl|h
   ·exact(LC.1 h).1
   ·simp_all
   ·exact Lz b l (k+1) (by simp_all) a h
theorem Qu(hc:xk call) (l:P0.follows .mixedOrders=true) {id:Nat} {ops:Array Oper} {Δ:Env} {h:Hp} {w:World} {t:Tm} {a:Act} (A:WR Δ h w) (C:TR Δ n t a)
  {r:Tm×Hp} (hp:rY (jc ops)=true) (D:(jc ops).all (EP (jc ops))=true) (E:(jc ops).all Cv=true) (m:xK (jc ops) (gY (jc ops)) (order (jc ops) (gY (jc ops)) (gY (jc ops)) 0) 0 0=true)
  (hv:(yX n ops.toList (gY (jc ops)) (order (jc ops) (gY (jc ops)) (gY (jc ops)) 0) 0).f call t h []=some r) {Q:Exit->Act->World->Prop} (F:∀u a' w',Db Δ h w n r.1 r.2 u a' w'->Q .normal a' w')
  (B:∀T:Tc,uZ n ops.toList (jc ops) (gY (jc ops)) call t h (order (jc ops) (gY (jc ops)) (gY (jc ops)) 0) 0 0 h [] r T T->∀(fuel:Nat) (c:Array Bool) (p:Act) (w':World) (j:Nat) (u:Env) (t':Tm) (a:It),0<=j->c.toList.count false<=fuel+1->
   Inv n ops t h Δ w T c j u t' p w'->a∈jc ops->cls a.o=2->c.getD a.i false=false->(∀x∈jc ops,a.b.testBit x.i=true->c.getD x.i false=true)->(gY (jc ops))[j]?≠some a->
   wpOp P0 ops Q a.i (wpAny P0 .any ops Q fuel (c.setIfInBounds a.i true)) p w'):(Code.region id ops true).wp P0 Q a w:=by
 have k:∀x∈order (jc ops) (gY (jc ops)) (gY (jc ops)) 0,x∈jc ops:=by grind[Lz,rF]
 let G:Tc:=⟨λ_=>false,λ_=> .undef,λ_=> .tree .leaf [],λ_=>0,λ_=>0,λ_=>default,λ_=>h,λ_=>h⟩
 obtain ⟨T,g⟩:=trace (n:=n) (all:=ops.toList) (kM:=jc ops) (ws:=gY (jc ops)) (call:=call) (t0:=t) (h0:=h) vt hp _ 0 0 t h [] r G k m hv (λa L s=>by simp at s)
  (by grind[JR]) (ju _) (by omega) (Ol _)
 have v:uZ n ops.toList (jc ops) (gY (jc ops)) call t h _ 0 0 h [] r T T:=
  ⟨by simp_all,by omega,g.item,g.EY,g.more,g.chain,g.Xd,g.Wn,g.last,g.ql,g.done,g.kle⟩
 refine wp_region_any l (VU (T:=T) (Δ0:=Δ) (w0:=w) (h0:=h) (t0:=t) hc hp D E 0 (by grind) k v (Cm _ _ hv) F ops.size _ a _ 0 Δ t (ju _) ?_ ⟨by simp,λx s y=>?_,Ol _,λq x hq=>?_,C,λd=>?_,(A.heap (w':={w with drawn:=w.drawn+1}) rfl).Qz g.more,
  ⟨Env.le_refl _,ju _,rfl,rfl,rfl,by simp_all,by simp_all⟩,by simp_all,rfl,λx s H I _ _=>?_⟩)
 ·simp_all
 ·simp only[wBT,wBt]at y
  grind
 ·constructor
  ·intro J;simp only[wBT,wBt]at J
   grind
  omega
 ·refine(JR (λx _ _=>?_) _).symm;simp only[wBT,wBt]
  grind
 ·have z:x∈order (jc ops) (gY (jc ops)) (gY (jc ops)) 0:=by
   rcases g.done x s with K|K
   ·simp_all
   ·grind[yh]
  have:=g.Xd x z H I
  cases hd':Δ (T.pl x.i)with
  |none=>rfl
  |some e=>have:=A.fresh _ _ hd';omega
theorem zbS(hc:xk call) (c:P0.follows .mixedOrders=true) {id:Nat} {ops:Array Oper} {Δ:Env} {h:Hp} {w:World} {t:Tm} {a:Act} (o:WR Δ h w) (q:TR Δ n t a)
  {r:Tm×Hp} (hv:(OJ n ops.toList).f call t h=some r) {Q:Exit->Act->World->Prop} (k:∀s a' w',Db Δ h w n r.1 r.2 s a' w'->Q .normal a' w'):(Code.region id ops true).wp P0 Q a w:=by
 unfold OJ at hv;split at hv
 ·rename_i b;simp only[yl,QH]at b
  grind[Qu,X2]
 ·split at hv
  ·rename_i pr g b;simp only[yl,QM]at b;obtain⟨⟨⟨hp,l⟩,m⟩,d⟩:=b;simp only[ft,hK]at hv;obtain⟨r',hv,i,u⟩:=hv;cases u;obtain⟨x,y,da,db⟩:=pr;obtain⟨v,z,A,B,C,D,E⟩:=T8 g;obtain⟨p,F,G,H⟩:=N8 v;have e:∀x∈order (jc ops) (gY (jc ops)) (gY (jc ops)) 0,x∈jc ops:=by grind[Lz,rF]
   exact Qu hc c o q hp l m d hv k λT j=>zai hc hp l m e j ⟨F,G,H,z,A,B,C,D,E,i⟩ (Cm _ _ hv) k
  ·cases hv
def X.to:X->Exit
 | .normal=> .normal
 | .exit id=> .exit id
 | .ret=> .ret
theorem Kx{r:Option (X×Tm×Hp)} {k:Tm->Hp->Option (X×Tm×Hp)} {y:X×Tm×Hp} (h:GC r k=some y) :
  (∃t h',r=some (.normal,t,h')/\k t h' = some y)\/(r=some y/\y.1≠ .normal):=by
 unfold GC at h
 grind
theorem VW{next:Act->World->Prop} {Q:Exit->Act->World->Prop} {x:X} (b:x≠ .normal) {a:Act} {w:World} (h:Q x.to a w):Exit.then next Q x.to a w:=by
 cases x with
 |normal=>simp_all
 |exit id=>exact h
 |ret=>exact h
theorem wY(hc:xk call) (d:P0.follows .mixedOrders=true) {m:Nat}:∀(c:Code) {Δ:Env} {h:Hp} {w:World} {t:Tm} {a:Act},WR Δ h w->TR Δ n t a->∀{r:X×Tm×Hp},
  (iK n c).f call m t h=some r->∀{Q:Exit->Act->World->Prop},(∀u a' w',Db Δ h w n r.2.1 r.2.2 u a' w'->Q r.1.to a' w')->c.wp P0 Q a w
 | .skip,Δ,h,w,t,a,e,g,r,hv,Q,i=>by cases hv;exact wp_skip (i _ _ _ (.start g e))
 | .seq x y,Δ,h,w,t,a,e,g,r,hv,Q,i=>by
   simp only[iK]at hv;refine wp_seq ?_;rcases Kx hv with⟨F,p,q,A⟩|⟨q,A⟩
   ·exact wY hc d x e g q λu a' w' j=>wY hc d y j.world j.tmps A λB C D s=>i _ _ _ (j.trans s)
   ·exact wY hc d x e g q (by grind[VW])
 | .cond c x y,Δ,h,w,t,a,e,g,r,hv,Q,i=>by
   simp only[iK,ft]at hv;obtain⟨v,p,o⟩:=hv;have z:=lX e g p;split at o
   ·rename_i b
    generalize hx:a.eval c=xv at z;cases z
    cases b with
    |true=>exact wp_cond_true hx (wY hc d x e g o i)
    |false=>exact wp_cond_false hx (wY hc d y e g o i)
   ·cases o
 | .block id c,Δ,h,w,t,a,e,g,r,hv,Q,i=>by
   simp only[iK]at hv;refine wp_block ?_
   cases z:(iK n c).f call m t h with
   |none=>rw[z]at hv;cases hv
   | some r'=>
     rw[z]at hv;refine wY hc d c e g z λu a' w' j=>?_;obtain⟨x,t',h'⟩:=r'
     cases x with
     |normal=>cases hv;exact i _ _ _ j
     |ret=>cases hv;exact i _ _ _ j
     | exit l=>
       simp only[LG]at hv;show if l=id then Q .normal a' w' else Q (.exit l) a' w'
       cases hb:Nat.beq l id with
       | true=>
         rw[hb]at hv;have:=CI hb;rw[if_pos this];cases hv
         exact i _ _ _ j
       | false=>
         rw[hb]at hv;have:l≠id:=by grind[Xn]
         rw[if_neg this];cases hv
         exact i _ _ _ j
 | .loop c,Δ,h,w,t,a,e,g,r,hv,Q,i=>by
   simp only[iK]at hv;refine GS.wp ?_
   have G:∀(k:Nat) {Δ:Env} {h:Hp} {w:World} {t:Tm} {a:Act},WR Δ h w->TR Δ n t a->GM (λt h=>(iK n c).f call m t h) k t h=some r->
       (∀u a' w',Db Δ h w n r.2.1 r.2.2 u a' w'->Q r.1.to a' w')->GS c Q a w:=by
     intro k
     induction k with
     |zero=>intro Δ h w t a _ _ hv _;cases hv
     | succ k H=>
       intro Δ h w t a e g hv i;have E:GC ((iK n c).f call m t h) (GM (λt h=>(iK n c).f call m t h) k)=some r:=hv;refine GS.round ?_;rcases Kx E with⟨F,p,q,A⟩|⟨q,A⟩
       ·exact wY hc d c e g q λu a' w' j=>H j.world j.tmps A λB C D s=>i _ _ _ (j.trans s)
       ·exact wY hc d c e g q (by grind[VW])
   grind
 | .exit id,Δ,h,w,t,a,e,g,r,hv,Q,i=>by cases hv;exact wp_exit (i _ _ _ (.start g e))
 | .ret,Δ,h,w,t,a,e,g,r,hv,Q,i=>by cases hv;exact wp_ret (i _ _ _ (.start g e))
 | .region id ops false,Δ,h,w,t,a,e,g,r,hv,Q,i=>by
   simp only[iK,ft]at hv;obtain⟨r',p,o⟩:=hv;cases o;refine wp_region ?_;have:=Qs (Q:=Q) hc ops.toList 0 rfl e g p i
   grind[List.range_eq_range']
 | .region id ops true,Δ,h,w,t,a,e,g,r,hv,Q,i=>by
   simp only[iK,ft]at hv;obtain⟨r',p,o⟩:=hv;cases o
   exact zbS hc d e g p i
 | .rangeFunc ..,Δ,h,w,t,a,e,g,r,hv,Q,i=>by cases hv
 | .scope _,Δ,h,w,t,a,e,g,r,hv,Q,i=>by cases hv
 | .label _,Δ,h,w,t,a,e,g,r,hv,Q,i=>by cases hv
 | .goto _,Δ,h,w,t,a,e,g,r,hv,Q,i=>by cases hv
 | .refuse _,Δ,h,w,t,a,e,g,r,hv,Q,i=>by cases hv
noncomputable def PS(t:Tr V)(i:Nat):V:=Option.rec (motive:=λ_=>V) V.undef (λv=>v) (t.get i)
theorem WX(t:Tr V)(d i:Nat)(v:V):PS (t.set d v) i=if d=i then v else PS t i:=OQ (.tree t []) d i v
theorem PK:∀(args:List V) (i:Nat) (t:Tr V) (j:Nat),PS (SV args i t) j=if i<=j/\j<i+args.length then args[j-i]?.getD .undef else PS t j
 |[],i,t,j=>by rw[if_neg (by simp_all)];rfl
 | v ::vs,i,t,j=>by
   simp only[SV];rw[PK vs (i+1) (t.set i v) j];by_cases a:i+1<=j/\j<i+1+vs.length
   ·grind
   ·rw[if_neg a,WX]
    grind
theorem Vx(args:List V) (i:Nat):ki (Vg args) i=(args[i]?).getD .undef:=by
 have h:=PK args 0 .leaf i;rw[show ki (Vg args) i=PS (SV args 0 .leaf) i from rfl,h]
 simp_all[if_pos,Nat.sub_zero,if_neg,X8,PS,Tr.um]
theorem LR{C:fk} (a:yC C) {Δ:Env} {args:List V} {gS:Array Value} (b:gN Δ args gS.toList) {k:Nat} (hk:args.length<=k) :
  TR Δ k (C.start args) {tmps:=gS++Array.replicate (k-gS.size) undef,defers:=[]}:=by
 have c:=b.length;simp only[wBE]at c;refine⟨by simp;omega,λi=>?_,by rw[a.NU];exact .nil⟩;rw[a.start];simp only[wBT];by_cases h:i<args.length
 ·rw[Array.getElem?_append_left (by omega)];obtain⟨x,d,e⟩:=b.get i args[i] (by simp_all)
  grind
 ·rw[X8 (by omega),Array.getElem?_append_right (by omega),wBt];split <;> exact .undef Δ
def YW(tmps:Array Value):ResultVar->Sem Value
 | .tmp t=>pure (tmps.getD t undef)
 | .cell b ty=>do loadVar ty (<-asAddr (tmps.getD b undef))
theorem US{Δ:Env} {h:Hp} {w:World} {t:Tm} {a:Act} (g:WR Δ h w) (f:TR Δ n t a):∀{l:List ResultVar} {vs:List V},BB t h l=some vs->
  ∃xs,(l.mapM (YW a.tmps)).run P0 w = .ok xs w/\gN Δ vs xs
 |[],vs,hv=>by simp[BB]at hv;subst hv;exact⟨[],by simp,.nil⟩
 | .tmp i::l,vs,hv=>by
   simp only[BB,ft]at hv;obtain⟨v,c,j,k,m⟩:=hv;cases m;obtain⟨xs,s,o⟩:=US g f k;simp only[Xv]at c;cases c;have hp:(YW a.tmps (.tmp i)).run P0 w = .ok (a.tmps.getD i undef) w:=rfl
   exact⟨a.tmps.getD i undef::xs,by simp_all,.cons _ _ _ _ (f.rel i) o⟩
 | .cell b ty::l,vs,hv=>by
   simp only[BB,ft]at hv;obtain⟨v,c,j,k,m⟩:=hv;cases m;obtain⟨xs,s,o⟩:=US g f k;simp only[Xv]at c;obtain⟨x,r,u⟩:=Ox (xv:=a.tmps.getD b undef) g (λv hv=>by cases hv;exact f.rel b) c;have d:∃ad,a.tmps.getD b undef = .pointer (some ad):=by
     cases hx:a.tmps.getD b undef with
     | pointer p=>cases p with
       |some ad=>simp_all
       |none=>simp_all[Instr.loadAt,Instr.sureAddr]
     |_=>simp_all[Instr.loadAt,Instr.sureAddr]
   obtain⟨ad,e⟩:=d;rw[e]at r;have q:(loadVar ty ad).run P0 w = .ok x w:=by simpa[Instr.loadAt,Instr.sureAddr]using r
   have hp:(YW a.tmps (.cell b ty)).run P0 w = .ok x w:=by simp only[YW,e,asAddr,yo,L9,wT,q]
   exact⟨x::xs,by simp_all,.cons _ _ _ _ u o⟩
theorem Nq{Δ:Env} {h:Hp} {w:World} {t:Tm} {a:Act} (d:WR Δ h w) (e:TR Δ n t a) {fn:Func} {vs:List V} (hv:BB t h fn.results.toList=some vs) :
  ∃x,(results fn a.tmps).run P0 w = .ok x w/\fO Δ (AG vs) x:=by
 obtain ⟨xs,f,g⟩:=US d e hv;have i:(results fn a.tmps).run P0 w = .ok (if h:xs.toArray.size=1 then xs.toArray[0] else .tuple xs.toArray) w:=by
  have h0:results fn a.tmps=(do let vs <-fn.results.mapM (YW a.tmps);pure (if h:vs.size=1 then vs[0] else .tuple vs)):=by
   unfold results;congr 1
  rw[h0,Array.mapM_eq_mapM_toList];simp only[yo,map_eq_pure_bind,f,wT,L9]
 refine⟨_,i,?_⟩
 cases g with
 |nil=>exact .tuple _ #[] .nil
 | cons v x vs xs b hs=>
   cases hs with
   |nil=>exact b
   | cons j k vs xs c hs=>
     rw[dif_neg (by simp)];exact .tuple _ _ (.cons _ _ _ _ b (.cons _ _ _ _ c hs))
theorem WM{Δ l:Env} {h:Hp} {w w':World} {n:Nat} {fn:Func} {r:X×Tm×Hp} {a':Act} {v:V} {h':Hp} (c:Db Δ h w n r.2.1 r.2.2 l a' w') (hv:zae fn r=some (v,h')) :
  (r.1 = .normal\/r.1 = .ret)/\a'.defers=[]/\∃y,(results fn a'.tmps).run P0 w' = .ok y w'/\∃b z,Ending.returned y = .returned z/\Am Δ h w v h' b z w':=by
 obtain⟨x,t',e⟩:=r
 have a:(match t'.ds with
   |[]=>oB (BB t' e fn.results.toList) λvs=>some (AG vs,e)
   |_::_=>none)=some (v,h')->a'.defers=[]/\∃y,(results fn a'.tmps).run P0 w' = .ok y w'/\
   ∃b z,Ending.returned y = .returned z/\Am Δ h w v h' b z w':=by
  intro d;split at d
  ·rename_i g;simp only[ft]at d;obtain⟨vs,i,d⟩:=d;cases d;obtain⟨y,m,j⟩:=Nq c.world c.tmps i;have f:=c.tmps.ds;simp only at f;rw[g]at f
   have k:a'.defers=[]:=by cases hx:a'.defers with
    |nil=>rfl
    |cons _ _=>rw[hx]at f;cases f
   exact⟨k,y,m,l,y,rfl,j,c.world,c.frame,c.grow⟩
  ·cases d
 cases x with
 |exit id=>cases hv
 |normal=>exact⟨.inl rfl,a hv⟩
 |ret=>exact⟨.inr rfl,a hv⟩
theorem TH{o:Oper} {c:Go.Call} (a:o.op = .call c) (hc:c.callee = .builtin .recover) (ρ:Operand->Value) (w:World):(execOp ρ o).run P0 w = .ok .recover w:=by
 unfold execOp;rw[a];simp only[yo,resolve,hc,L9,wT];rfl
theorem XT{c a:Code} {d:Nat} (h:Wv c=some (d,a)):∃id o e,c = .seq (.region id #[o] false) a/\o.op = .call e/\e.callee = .builtin .recover/\o.guard=none/\o.dst=some d:=by
 unfold Wv at h;split at h
 ·rename_i id ops f;split at h
  ·rename_i o k;split at h
   ·rename_i e g;split at h
    ·rename_i d' i j b;cases h;refine⟨id,o,e,?_,g,i,j,b⟩;congr 2
     grind
    ·cases h
   ·cases h
  ·cases h
 ·cases h
theorem Zn{C:fk} (u:yC C) (hc:xk call) {m f:Nat} {args:List V} {v:V} {h h':Hp} {Δ:Env} {w:World} {gS:Array Value} (hv:(L5 C f).f call m args h=some (v,h'))
  (M:WR Δ h w) (O:gN Δ args gS.toList):(callFunc f gS).run P0 w = .ok (.enter f gS) w/\
   CallsD P0 f gS .returning w λe u' w'=>u' = .returning/\∃z x,e = .returned x/\Am Δ h w v h' z x w':=by
 unfold L5 at hv;split at hv
 ·rename_i fn A;split at hv
  ·rename_i c N;refine⟨?_,?_⟩
   ·have S:=u.named f fn A
    simp_all[callFunc,yo,run_program,wT,wB2,RY,if_false]
   split at hv
   ·rename_i d b p;simp only[hK,ft]at hv;obtain⟨i,P,r,B,D⟩:=hv;have g:args.length<=fn.ntmps:=K7 i;obtain⟨id,o,T,rfl,E,F,Q,q⟩:=XT p;refine callsD_of_wpS A N λG cs s=>?_;have H:=LR u O g;have I:zL fn.ntmps o=some ⟨λt v=>t.set d v⟩:=by unfold zL;rw[q];simp only[P]
    have R:TR Δ fn.ntmps ((C.start args).set d .nilIface) (({tmps:=gS++Array.replicate (fn.ntmps-gS.size) undef,defers:=[]}:Act).put o.dst .nilIface):=LO H I .nilIface;refine wpS_seq (wpS_region ?_);have NK:List.range (#[o]:Array Oper).size=[0]:=rfl;rw[NK];simp only[wpOpsS];have h0:(#[o]:Array Oper)[0]? =some o:=rfl;simp only[h0];have j:∀y,Region.wanted o y=true:=by grind[Region.wanted]
    rw[if_pos (j _),TH E F];have k:recoverD (G::cs)=none:=by simp only[recoverD,s]
    simp only[k];show b.wpS P0 _ _ _ _;refine wpS_of_wp ?_;refine wY hc u.mixed b M R B λz a' w' J=>?_;obtain⟨a,l,y,K,L⟩:=WM J D;have n:({G with mode:= .returning}:Frame)=G:=by rw[<-s]
    rcases a with a|a <;> rw[a] <;> exact⟨l,.returning,by rw[n],y,K,rfl,L⟩
   ·simp only[hK,ft]at hv;obtain⟨i,r,B,D⟩:=hv;have g:args.length<=fn.ntmps:=K7 i;refine callsD_of_wp A N ?_;refine wY hc u.mixed c M (by grind[LR]) B λz a' w' J=>?_;obtain⟨a,l,y,K,L⟩:=WM J D;rcases a with a|a <;> rw[a] <;> exact⟨l,y,K,L⟩
  ·cases hv
 ·cases hv
theorem VV{C:fk} (j:yC C) (hc:xk call) {m:Nat} {fn:Func} {tmps:Array Value} {R:Ending->World->Prop}:∀(l:List (Nat×List V)) {c:List Deferred} {Δ:Env} {h h':Hp} {w:World},
  Pe C call m l h=some h'->WR Δ h w->Kr Δ l c->
  (∀a w',WR a h' w'->FR Δ a w w'->Gr h Δ h' a->∃v,(results fn tmps).run P0 w' = .ok v w'/\R (.returned v) w')->Leaves P0 fn tmps R c .returning w
 | [],_,Δ,h,h',w,hv,hW,.nil,hR=>by
   cases hv
   exact hR Δ w hW (.refl _ _) (.refl _ _)
 | (g,args)::l,_,Δ,h,h',w,hv,hW,.cons _ _ cap gS _ c ha hl,hR=>by
   simp only[Pe,ft]at hv;obtain⟨⟨v,u⟩,k,n⟩:=hv;obtain⟨o,p⟩:=Zn j hc k hW ha;refine leaves_cons (by simp_all) (f:=g) (args:=gS++cap) o ?_;refine CallsD.mono p λe u' w' q=>?_;obtain⟨rfl,a,x,rfl,b⟩:=q;exact VV j hc l n b.world (hl.mono b.frame.le) λd i r s t=>hR d i r (b.frame.trans s) (b.grow.trans t)
theorem zbg{C:fk} (i:yC C) (hc:xk call) {m:Nat}:xk λf args h=>(FY C f).f call m args h:=by
 intro f args v h h' Δ w gS hv l E;simp only at hv;unfold FY at hv;split at hv
 ·rename_i fn n;split at hv
  ·rename_i c o;right;have a:(callFunc f gS).run P0 w = .ok (.enter f gS) w:=by
    have J:=i.named f fn n;simp only[callFunc,yo,run_program,wT,n,J,o,wB2,RY,if_false];rfl
   refine⟨a,?_⟩;simp only[orB]at hv
   cases hk:C.K f args h with
   | some u=>
     rw[hk]at hv;simp only[hK,yl]at hv;obtain⟨⟨j,p⟩,hv⟩:=hv;cases hv;refine Calls.mono (i.known f args _ _ hk j p Δ w gS l (PG E j)) λe w' q=>?_;obtain⟨x,rfl,L,hs⟩:=q
     exact⟨Δ,x,rfl,hs.after l L⟩
   | none=>
     rw[hk]at hv;simp only[hK,ft]at hv;obtain⟨s,r,t,d⟩:=hv;have F:args.length<=fn.ntmps:=K7 s;refine calls_of_wp_defers n o ?_;refine wY hc i.mixed c l (by grind[LR]) t λG a' w' k=>?_;obtain⟨x,t',z⟩:=r
     have b:(∃g,Pe C call m t'.ds z=some g/\∃vs,BB t' g fn.results.toList=some vs/\some (AG vs,g)=some (v,h'))->
         Leaves P0 fn a'.tmps (λe w'=>∃G x,e = .returned x/\Am Δ h w v h' G x w') a'.defers .returning w':=by
       rintro⟨g,M,vs,A,q⟩;cases q;refine VV i hc _ M k.world k.tmps.ds λB N H I O=>?_;obtain⟨y,P,D⟩:=Nq H (k.tmps.mono I.le) A;exact⟨y,P,B,y,rfl,D,H,k.frame.trans I,k.grow.trans O⟩
     cases x with
     |exit id=>cases d
     |normal=>simp only[ft]at d;exact b d
     |ret=>simp only[ft]at d;exact b d
  ·rename_i o;left;simp only[ft]at hv;obtain⟨u,t,d⟩:=hv;cases d;obtain⟨x,g,Q⟩:=i.ext f fn n o Δ args _ gS w t E;exact⟨x,g,Q,l,.refl _ _,.refl _ _⟩
 ·cases hv
theorem KJ{C:fk} (a:yC C) (m:Nat):∀d,xk (kU C m d)
 |0=>λf args v h h' Δ w gS hv=>(nomatch hv)
 |d+1=>zbg a (KJ a m d)
end
theorem Qp(c:Nat) (hc:c<256):∀(l:List UInt8) (n:Nat),Om c l n=n+l.count (UInt8.ofNat c)
 |[],n=>by rfl
 | b ::l,n=>by
   simp only[Om];rw[Qp c hc l,List.count_cons];have a:Nat.beq b.toNat c=(b == UInt8.ofNat c):=by
     rw[Ue];simp only[IE];constructor
     ·intro h
      have h':b.toNat=c:=CI h;rw[<-h'];simp
     ·simp_all
   rw[a];cases b == UInt8.ofNat c
   ·simp
   grind
theorem Qr(c:Nat) (hc:c<256):∀(l:List UInt8) (n:Nat),(match RJ c l n with|some i=>(i:Int)|none=>-1)=if Lib.indexByte l (UInt8.ofNat c) = -1 then -1 else Lib.indexByte l (UInt8.ofNat c)+n
 |[],n=>by rfl
 | b ::l,n=>by
   simp only[RJ];have a:Nat.beq b.toNat c=(b == UInt8.ofNat c):=by
     rw[Ue];simp only[IE];constructor
     ·intro h
      have h':b.toNat=c:=CI h;rw[<-h'];simp
     ·simp_all
   rw[a];unfold Lib.indexByte
   cases hbc:b == UInt8.ofNat c with
   |true=>simp
   | false=>
     have e:=Qr c hc l (n+1);have d:=Lib.indexByte_ge l (UInt8.ofNat c)
     grind
theorem XO{f:Nat} {fn:Func} (g:P0.funcs[f]? =some fn) (a:(fn.name == "runtime.NumGoroutine")=false) (h:fn.body.isNone=true) (i:Extern.findNext fn=none) (j:Extern.find fn=some Extern.BytealgCount.count)
  {Δ:Env} {args:List V} {v:V} {gS:Array Value} {w:World} (hv:Uh .countByte args=some v) (k:gN Δ args gS.toList):∃x,(callFunc f gS).run P0 w = .ok (.value x) w/\fO Δ v x:=by
 unfold Uh at hv;split at hv
 ·rename_i s c _;rw[hK]at hv;obtain⟨hc,hv⟩:=hv;have b:c<256:=by rw[Q8]at hc;exact hc
  cases hv;obtain⟨l⟩:=gS
  cases k with
  | cons _ x _ xs d hs=>
    cases hs with
    | cons _ y _ ys m hs=>
      cases hs;cases m;generalize oV:s=sl at d
      cases d with
      | str sb=>
        have n:=Lib.run_countString (P:=P0) sb (Int.ofNat c) w;refine⟨.int .i64 (Lib.countByte sb.data.toList (Int.ofNat c).toNat.toUInt8),?_,?_⟩
        ·rw[run_callFunc_extern g a h i j]
         simp_all
        have e:Om c sb.data.toList 0=Lib.countByte sb.data.toList (Int.ofNat c).toNat.toUInt8:=by
          rw[Qp c b,zO];rfl
        rw[e];exact .int _ _
 ·simp_all
 ·cases hv
theorem XH{f:Nat} {fn:Func} (g:P0.funcs[f]? =some fn) (a:(fn.name == "runtime.NumGoroutine")=false) (h:fn.body.isNone=true) (j:Extern.findNext fn=none) (k:Extern.find fn=some Extern.BytealgIndexByte.indexByte)
  {Δ:Env} {args:List V} {v:V} {gS:Array Value} {w:World} (hv:Uh .indexByte args=some v) (m:gN Δ args gS.toList):∃x,(callFunc f gS).run P0 w = .ok (.value x) w/\fO Δ v x:=by
 unfold Uh at hv;split at hv
 ·simp_all
 ·rename_i s c _;rw[hK]at hv;obtain⟨hc,hv⟩:=hv;have b:c<256:=by rw[Q8]at hc;exact hc
  obtain⟨l⟩:=gS
  cases m with
  | cons _ x _ xs d hs=>
    cases hs with
    | cons _ y _ ys n hs=>
      cases hs;cases n;generalize oV:s=sl at d
      cases d with
      | str sb=>
        have p:=Lib.run_indexByteString (P:=P0) sb (Int.ofNat c) w;refine⟨.int .i64 (Lib.indexByte sb.data.toList (Int.ofNat c).toNat.toUInt8),?_,?_⟩
        ·rw[run_callFunc_extern g a h j k]
         simp_all
        have e:=Qr c b sb.data.toList 0;have o:(if Lib.indexByte sb.data.toList (UInt8.ofNat c) = -1 then -1 else Lib.indexByte sb.data.toList (UInt8.ofNat c)+((0:Nat):Int))=Lib.indexByte sb.data.toList (Int.ofNat c).toNat.toUInt8:=by
          show _=Lib.indexByte sb.data.toList (UInt8.ofNat c);split
          ·omega
          ·simp
        rw[o]at e;rw[<-e];rw[oV]at hv;split at hv
        ·rename_i i hi;cases hv;rw[hi];exact .int _ _
        ·rename_i hi;cases hv;rw[hi];exact .int _ _
 ·cases hv
def Kept(W W':World):Prop:=W'.os=W.os/\W'.output=W.output/\W.heap.size<=W'.heap.size/\∀b,b<W.heap.size->W'.heap[b]? =W.heap[b]?
theorem Kept.FP{W W':World} (h:Kept W W') (a:MemPlace->Prop):W.keptBut W' a:=by
 refine⟨h.1,h.2.1,λi hi=>?_⟩;rw[h.2.2.2 i hi]
 grind
theorem FR.kept{Δ a:Env}{w w':World}(h:FR Δ a w w')(c:∀b,¬RW Δ b):Kept w w':=⟨h.os,h.output,h.size,λb d=>h.fi b d (c b)⟩
def isTrue:Option (V×Hp)->Bool
 |some (.bool true,_)=>true
 |_=>false
theorem DG.none{Δ:Env}{w:World}(h:DG Δ w):DG (λ_=>none) w:=λg c a=>⟨(h g c a).1,by simp_all⟩
theorem WR.start(n:Nat) (a:P0.globals.size<=n) (w:World) (b:DG (λ_=>none) w):WR (λ_=>none) {next:=n,tr:= .leaf} w:=
 ⟨by simp_all,by simp_all,by simp_all,by simp_all,by grind[Hp.get_eq,Tr.um],a,b⟩
theorem known{C:fk} (j:yC C) {m d n f:Nat} (u:P0.globals.size<=n) (a:∃fn c,P0.funcs[f]? =some fn/\fn.body=some c) (hv:isTrue (kU C m d f [] {next:=n,tr:= .leaf})=true) (W:World) (w:DG (λ_=>none) W) :
  Calls P0 f #[] W λe W'=>e = .returned (.bool true)/\Kept W W':=by
 cases hr:kU C m d f [] {next:=n,tr:= .leaf} with
 |none=>rw[hr]at hv;cases hv
 | some r=>
   obtain ⟨v,h'⟩:=r;rw[hr]at hv;have g:v = .bool true:=by
     unfold isTrue at hv;split at hv
     ·simp_all
     ·cases hv
   subst g;rcases KJ j m d f [] _ _ _ (λ_=>none) W #[] hr (by grind[WR.start]) .nil with⟨x,y,_⟩|⟨_,p⟩
   ·exfalso
    obtain ⟨fn,c,k,h⟩:=a;have i:=j.named f fn k;have:(callFunc f #[]).run P0 W = .ok (.enter f #[]) W:=by
      simp only[callFunc,yo,run_program,wT,k,i,h,wB2,RY,if_false];rfl
    simp_all
   ·refine Calls.mono p λe w' q=>?_
    obtain⟨z,x,rfl,o⟩:=q;have s:=o.val;cases s;exact⟨rfl,o.frame.kept λb a=>(by obtain⟨l,d,t,_⟩:=a;cases t)⟩
open Go.ChangeShapes Go.WideShapes in
theorem X4 {H:Type} {enc:TypeId×Value->H} {P:Program} {f:Func} {s:ChangeSpec} {apart fresh handsOn again:Bool} {W W':World} {args:Array Value} {v:Value} {ds gs:List (DataW H)}
  {before pa pv:List MemPlace} (hW:DataW.Whole enc P f.params.toList s.vars apart W args.toList ds gs before)
  (zfo:∀(b:Nat) (sp:Nat->Bool) (hd:Bool),DataW.TrodAll enc P W' b sp hd f.resultTypes.toList (v.resultList f.resultTypes.size) (s.fn H (ds++gs)).results [])
  (zcx:∀sp:Nat->Bool,(∀p∈before,sp p.block=true)->DataW.TrodAll enc P W' 0 sp true f.params.toList args.toList (s.fn H (ds++gs)).args pa)
  (zcg:∀sp:Nat->Bool,(∀p∈before,sp p.block=true)->DataW.TrodVars enc P W' sp s.vars (s.fn H (ds++gs)).vars pv)
  (hps:before=pa++pv) (hk:Kept W W')
  (hok:∀(j:Nat) (t:TypeId) (r:Value),f.resultTypes[j]? =some t->(v.resultList f.resultTypes.size)[j]? =some r->Value.okWide P W' .any 0 t r) :
  s.post enc P f apart fresh handsOn again W args v W':=by
 have Pu:∀p∈before,p.block<W.heap.size:=λp hp=>hW.lt p hp;have hold:∀p∈before,(λb=>decide (b<W.heap.size)) p.block=true:=by simp_all
 refine⟨ds,gs,before,[],pa,pv,hW,zfo _ _ _,zcx _ hold,zcg _ hold,hk.FP _,λ_=>?_⟩;obtain⟨_,_,_,_,_,hz,hn⟩:=hW;refine⟨hok,_,_,([]++pa)++pv,⟨[]++pa,pv,trodAll_append (zcx _ (λ_ _=>rfl)) (zfo _ _ _),zcg _ (λ_ _=>rfl),rfl,?_,?_⟩,?_⟩
 ·intro b off hp;have hp':MemPlace.cell b off∈before:=by rw[hps];simpa using hp
  have hz':=hz b off hp';have hb:=Pu _ hp';have he:W'.frozen? ⟨b,off,none⟩=W.frozen? ⟨b,off,none⟩:=by
   unfold World.frozen?;have:=hk.2.2.2 b hb;simp only at this⊢;rw[this]
  simp_all
 ·simp_all
 simp_all
