/- Parts. -/
import Derived.Test.YtpfjdlicdljhaaaDoorM05
import Derived.Defers
import Derived.Recover
import Derived.Lib.Bytealg
import Derived.Laws.Externs
import Derived.ChangeSame
import Derived.RowKit3
set_option maxHeartbeats 4000000
namespace Go.Proofs.YtpfjdlicdljhaaaDoor.Hx
structure Still (W W':World):Prop where
 os:W'.os=W.os
 tape:W'.tape=W.tape
 output:W'.output=W.output
 size:W.heap.size<=W'.heap.size
 dO:∀b,b<W.heap.size->W'.heap[b]? =W.heap[b]?
theorem FR.still{Δ a:Env}{w w':World}(h:FR Δ a w w')(c:∀b,¬RW Δ b):Still w w':=⟨h.os,h.tape,h.output,h.size,λb d=>h.dO b d (c b)⟩
theorem Za(b:Nat):¬RW (λ_=> .none) b:=λ⟨_,_,a,_⟩=>nomatch a
theorem Still.after{Δ:Env} {h:Hp} {W W':World} (hs:Still W W') (a:WR Δ h W) {v:V} {x:Value} (f:dj (λ_=> .none) v x):tJ Δ h W v h Δ x W' where
 val:=f.mono λ_ _ (h:(none:Option D)=some _)=>by cases h
 world:=⟨a.fresh,λl d c=>EP (a.jB l d c) hs.size,λl d c=>by rw[hs.dO _ (a.jB l d c)];exact a.obj l d c,a.apart,a.Cj,a.tP,a.NK.step (λb e _=>hs.dO b e) (by simp_all)⟩
 frame:=⟨Env.le_refl _,hs.size,hs.os,hs.tape,hs.output,λb e _=>hs.dO b e,by simp_all⟩
 grow:= .refl _ _
theorem Lb{Δ a:Env} {v:V} {x:Value} (h:dj Δ v x) (c:v.flat=true):dj a v x:=by
 cases h with
 |bool b=>exact .bool b
 |int k n=>exact .int k n
 |str s=>exact .str s
 |nilPtr=>exact .nilPtr
 |cQ=>exact .cQ
 |iL=>exact .iL
 |nilFunc=>exact .nilFunc
 |nilIface=>exact .nilIface
 |_=>grind[V.flat]
theorem IQ{Δ a:Env}:∀{vs:List V} {xs:List Value},dS Δ vs xs->Kr vs=true->dS a vs xs
 |[],_,.nil,_=> .nil
 | v::vs,_,.cons _ _ _ _ h hs,hf=>by
   simp only[Kr,Ul,rm]at hf;exact .cons _ _ _ _ (Lb h hf.1) (IQ hs hf.2)
structure ry (C:dc):Prop where
 Gb:∀args,(C.start args).ds=[]
 start:∀args i,gg (C.start args) i=(args[i]?).getD .undef
 mixed:P0.follows .mixedOrders=true
 named:∀(f:Nat) (fn:Func),P0.funcs[f]? =some fn->(fn.name == "runtime.NumGoroutine")=false
 ext:∀(f:Nat) (fn:Func),P0.funcs[f]? =some fn->fn.body=none->∀(Δ:Env) (args:List V) (v:V) (ee:Array Value) (w:World),MT (C.ext f) args=some v->dS Δ args ee.toList->
  ∃x,(callFunc f ee).run P0 w = .ok (.value x) w/\dj Δ v x
 known:∀(f:Nat) (args:List V) (v:V) (h:Hp),C.K f args h=some v->Kr args=true->v.flat=true->∀(Δ:Env) (W:World) (ee:Array Value),WR Δ h W->dS (λ_=> .none) args ee.toList->
  Calls P0 f ee W λe W'=>∃x,e = .returned x/\dj (λ_=> .none) v x/\Still W W'
section
variable{n:Nat}{call:Call}
theorem Es{gM ws:List It} (b:∀x∈ws,x∈gM):∀(l:List It) (k:Nat),(∀x∈l,x∈gM)->∀a∈order gM ws l k,a∈gM
 |[],k,_,a,ha=>(DG.1 ha).1
 | w::l,k,hl,a,ha=>by
   simp only[order,EC,HS]at ha;rcases ha with h|rfl|h
   ·exact(DG.1 h).1
   ·simp_all
   ·exact Es b l (k+1) (by simp_all) a h
theorem II(hc:qZ call) (l:P0.follows .mixedOrders=true) {id:Nat} {ops:Array Oper} {Δ:Env} {h:Hp} {w:World} {t:Tm} {a:Act} (A:WR Δ h w) (E:TR Δ n t a)
  {r:Tm×Hp} (B:mr (fj ops)=true) (F:(fj ops).all (zd (fj ops))=true) (G:(fj ops).all wK=true) (m:qF (fj ops) (ej (fj ops)) (order (fj ops) (ej (fj ops)) (ej (fj ops)) 0) 0 0=true)
  (C:(sg n ops.toList (ej (fj ops)) (order (fj ops) (ej (fj ops)) (ej (fj ops)) 0) 0).f call t h []=some r) {Q:Exit->Act->World->Prop} (H:∀u a' w',xi Δ h w n r.1 r.2 u a' w'->Q .normal a' w')
  (D:∀T:Tc,oR n ops.toList (fj ops) (ej (fj ops)) call t h (order (fj ops) (ej (fj ops)) (ej (fj ops)) 0) 0 0 h [] r T T->∀(fuel:Nat) (c:Array Bool) (p:Act) (w':World) (j:Nat) (u:Env) (t':Tm) (a:It),0<=j->c.toList.count false<=fuel+1->
   Inv n ops t h Δ w T c j u t' p w'->a∈fj ops->cls a.o=2->c.getD a.i false=false->(∀x∈fj ops,a.b.testBit x.i=true->c.getD x.i false=true)->(ej (fj ops))[j]?≠some a->
   wpOp P0 ops Q a.i (wpAny P0 .any ops Q fuel (c.setIfInBounds a.i true)) p w'):(Code.region id ops true).wp P0 Q a w:=by
 have k:∀x∈order (fj ops) (ej (fj ops)) (ej (fj ops)) 0,x∈fj ops:=by grind[Es,lT]
 let I:Tc:=⟨λ_=>false,λ_=> .undef,λ_=> .tree .leaf [],λ_=>0,λ_=>0,λ_=>default,λ_=>h,λ_=>h⟩
 obtain ⟨T,g⟩:=trace (n:=n) (all:=ops.toList) (gM:=fj ops) (ws:=ej (fj ops)) (call:=call) (t0:=t) (h0:=h) pd B _ 0 0 t h [] r I k m C (λa N s=>by simp at s)
  (by grind[Cg]) (iC _) (by omega) (J9 _)
 have v:oR n ops.toList (fj ops) (ej (fj ops)) call t h _ 0 0 h [] r T T:=
  ⟨by simp_all,by omega,g.item,g.yK,g.more,g.chain,g.OS,g.NB,g.last,g.kQ,g.done,g.ZH⟩
 refine wp_region_any l (Og (T:=T) (Δ0:=Δ) (w0:=w) (h0:=h) (t0:=t) hc B F G 0 (by grind) k v (wA _ _ C) H ops.size _ a _ 0 Δ t (iC _) ?_ ⟨by simp,λx s y=>?_,J9 _,λq x hq=>?_,E,λd=>?_,(A.heap (w':={w with drawn:=w.drawn+1}) rfl).Jk g.more,
  ⟨Env.le_refl _,iC _,rfl,rfl,rfl,by simp_all,by simp_all⟩,by simp_all,rfl,λx s J K _ _=>?_⟩)
 ·simp_all
 ·simp only[X7,Ym]at y
  grind
 ·constructor
  ·intro L;simp only[X7,Ym]at L
   grind
  omega
 ·refine(Cg (λx _ _=>?_) _).symm;simp only[X7,Ym]
  grind
 ·have z:x∈order (fj ops) (ej (fj ops)) (ej (fj ops)) 0:=by
   rcases g.done x s with M|M
   ·simp_all
   ·grind[qS]
  have:=g.OS x z J K
  cases hd':Δ (T.pl x.i)with
  |none=>rfl
  |some e=>have:=A.fresh _ _ hd';omega
theorem Ts(hc:qZ call) (d:P0.follows .mixedOrders=true) {id:Nat} {ops:Array Oper} {Δ:Env} {h:Hp} {w:World} {t:Tm} {a:Act} (s:WR Δ h w) (u:TR Δ n t a)
  {r:Tm×Hp} (b:(Gl n ops.toList).f call t h=some r) {Q:Exit->Act->World->Prop} (l:∀v a' w',xi Δ h w n r.1 r.2 v a' w'->Q .normal a' w'):(Code.region id ops true).wp P0 Q a w:=by
 unfold Gl at b;split at b
 ·rename_i c;simp only[rm,I0]at c
  grind[II,PH]
 ·split at b
  ·rename_i pr i c;simp only[rm,I2]at c;obtain⟨⟨⟨m,o⟩,q⟩,e⟩:=c;simp only[c7,ek]at b;obtain⟨r',b,j,z⟩:=b;cases z;obtain⟨x,y,da,db⟩:=pr;obtain⟨A,B,C,D,E,F,G⟩:=KX i;obtain⟨p,H,I,J⟩:=Gi A;have g:∀x∈order (fj ops) (ej (fj ops)) (ej (fj ops)) 0,x∈fj ops:=by grind[Es,lT]
   exact II hc d s u m o q e b l λT k=>RJ hc m o q g k ⟨H,I,J,B,C,D,E,F,G,j⟩ (wA _ _ b) l
  ·cases b
def X.to:X->Exit
 | .normal=> .normal
 | .exit id=> .exit id
 | .ret=> .ret
theorem Dj{r:Option (X×Tm×Hp)} {k:Tm->Hp->Option (X×Tm×Hp)} {y:X×Tm×Hp} (h:zP r k=some y) :
  (∃t h',r=some (.normal,t,h')/\k t h' = some y)\/(r=some y/\y.1≠ .normal):=by
 unfold zP at h
 grind
theorem NA{next:Act->World->Prop} {Q:Exit->Act->World->Prop} {x:X} (b:x≠ .normal) {a:Act} {w:World} (h:Q x.to a w):Exit.then next Q x.to a w:=by
 cases x with
 |normal=>simp_all
 |exit id=>exact h
 |ret=>exact h
theorem qN(hc:qZ call) (e:P0.follows .mixedOrders=true) {m:Nat}:∀(c:Code) {Δ:Env} {h:Hp} {w:World} {t:Tm} {a:Act},WR Δ h w->TR Δ n t a->∀{r:X×Tm×Hp},
  (eY n c).f call m t h=some r->∀{Q:Exit->Act->World->Prop},(∀z a' w',xi Δ h w n r.2.1 r.2.2 z a' w'->Q r.1.to a' w')->c.wp P0 Q a w
 | .skip,Δ,h,w,t,a,g,i,r,d,Q,j=>by cases d;exact wp_skip (j _ _ _ (.start i g))
 | .seq x y,Δ,h,w,t,a,g,i,r,d,Q,j=>by
   simp only[eY]at d;refine wp_seq ?_;rcases Dj d with⟨G,q,s,B⟩|⟨s,B⟩
   ·exact qN hc e x g i s λz a' w' l=>qN hc e y l.world l.tmps B λC D E u=>j _ _ _ (l.trans u)
   ·exact qN hc e x g i s (by grind[NA])
 | .cond c x y,Δ,h,w,t,a,g,i,r,d,Q,j=>by
   simp only[eY,c7]at d;obtain⟨v,q,p⟩:=d;have A:=hZ g i q;split at p
   ·rename_i b
    generalize hx:a.eval c=xv at A;cases A
    cases b with
    |true=>exact wp_cond_true hx (qN hc e x g i p j)
    |false=>exact wp_cond_false hx (qN hc e y g i p j)
   ·cases p
 | .block id c,Δ,h,w,t,a,g,i,r,d,Q,j=>by
   simp only[eY]at d;refine wp_block ?_
   cases A:(eY n c).f call m t h with
   |none=>rw[A]at d;cases d
   | some r'=>
     rw[A]at d;refine qN hc e c g i A λz a' w' l=>?_;obtain⟨x,t',h'⟩:=r'
     cases x with
     |normal=>cases d;exact j _ _ _ l
     |ret=>cases d;exact j _ _ _ l
     | exit o=>
       simp only[DN]at d;show if o=id then Q .normal a' w' else Q (.exit o) a' w'
       cases hb:Nat.beq o id with
       | true=>
         rw[hb]at d;have:=wC hb;rw[if_pos this];cases d
         exact j _ _ _ l
       | false=>
         rw[hb]at d;have:o≠id:=by grind[OW]
         rw[if_neg this];cases d
         exact j _ _ _ l
 | .loop c,Δ,h,w,t,a,g,i,r,d,Q,j=>by
   simp only[eY]at d;refine zU.wp ?_
   have H:∀(k:Nat) {Δ:Env} {h:Hp} {w:World} {t:Tm} {a:Act},WR Δ h w->TR Δ n t a->AH (λt h=>(eY n c).f call m t h) k t h=some r->
       (∀z a' w',xi Δ h w n r.2.1 r.2.2 z a' w'->Q r.1.to a' w')->zU c Q a w:=by
     intro k
     induction k with
     |zero=>intro Δ h w t a _ _ d _;cases d
     | succ k I=>
       intro Δ h w t a g i d j;have F:zP ((eY n c).f call m t h) (AH (λt h=>(eY n c).f call m t h) k)=some r:=d;refine zU.round ?_;rcases Dj F with⟨G,q,s,B⟩|⟨s,B⟩
       ·exact qN hc e c g i s λz a' w' l=>I l.world l.tmps B λC D E u=>j _ _ _ (l.trans u)
       ·exact qN hc e c g i s (by grind[NA])
   grind
 | .exit id,Δ,h,w,t,a,g,i,r,d,Q,j=>by cases d;exact wp_exit (j _ _ _ (.start i g))
 | .ret,Δ,h,w,t,a,g,i,r,d,Q,j=>by cases d;exact wp_ret (j _ _ _ (.start i g))
 | .region id ops false,Δ,h,w,t,a,g,i,r,d,Q,j=>by
   simp only[eY,c7]at d;obtain⟨r',q,p⟩:=d;cases p;refine wp_region ?_;have:=IC (Q:=Q) hc ops.toList 0 rfl g i q j
   grind[List.range_eq_range']
 | .region id ops true,Δ,h,w,t,a,g,i,r,d,Q,j=>by
   simp only[eY,c7]at d;obtain⟨r',q,p⟩:=d;cases p
   exact Ts hc e g i q j
 | .rangeFunc ..,Δ,h,w,t,a,g,i,r,d,Q,j=>by cases d
 | .scope _,Δ,h,w,t,a,g,i,r,d,Q,j=>by cases d
 | .label _,Δ,h,w,t,a,g,i,r,d,Q,j=>by cases d
 | .goto _,Δ,h,w,t,a,g,i,r,d,Q,j=>by cases d
 | .refuse _,Δ,h,w,t,a,g,i,r,d,Q,j=>by cases d
noncomputable def IK(t:Tr V)(i:Nat):V:=Option.rec (motive:=λ_=>V) V.undef (λv=>v) (t.get i)
theorem Pu(t:Tr V)(d i:Nat)(v:V):IK (t.set d v) i=if d=i then v else IK t i:=Gk (.tree t []) d i v
theorem IB:∀(args:List V) (i:Nat) (t:Tr V) (j:Nat),IK (Lm args i t) j=if i<=j/\j<i+args.length then args[j-i]?.getD .undef else IK t j
 |[],i,t,j=>by rw[if_neg (by simp_all)];rfl
 | v ::vs,i,t,j=>by
   simp only[Lm];rw[IB vs (i+1) (t.set i v) j];by_cases a:i+1<=j/\j<i+1+vs.length
   ·grind
   ·rw[if_neg a,Pu]
    grind
theorem MK(args:List V) (i:Nat):gg (Mm args) i=(args[i]?).getD .undef:=by
 have h:=IB args 0 .leaf i;rw[show gg (Mm args) i=IK (Lm args 0 .leaf) i from rfl,h]
 simp_all[if_pos,Nat.sub_zero,if_neg,Sp,IK,Tr.oA]
theorem D1{C:dc} (a:ry C) {Δ:Env} {args:List V} {ee:Array Value} (b:dS Δ args ee.toList) {k:Nat} (hk:args.length<=k) :
  TR Δ k (C.start args) {tmps:=ee++Array.replicate (k-ee.size) undef,defers:=[]}:=by
 have c:=b.length;simp only[Sd]at c;refine⟨by simp;omega,λi=>?_,by rw[a.Gb];exact .nil⟩;rw[a.start];simp only[X7];by_cases h:i<args.length
 ·rw[Array.getElem?_append_left (by omega)];obtain⟨x,d,e⟩:=b.get i args[i] (by simp_all)
  grind
 ·rw[Sp (by omega),Array.getElem?_append_right (by omega),Ym];split <;> exact .undef Δ
def Qd(tmps:Array Value):ResultVar->Sem Value
 | .tmp t=>pure (tmps.getD t undef)
 | .cell b ty=>do loadVar ty (<-asAddr (tmps.getD b undef))
theorem MC{Δ:Env} {h:Hp} {w:World} {t:Tm} {a:Act} (j:WR Δ h w) (g:TR Δ n t a):∀{l:List ResultVar} {vs:List V},uF t h l=some vs->
  ∃xs,(l.mapM (Qd a.tmps)).run P0 w = .ok xs w/\dS Δ vs xs
 |[],vs,c=>by simp[uF]at c;subst c;exact⟨[],by simp,.nil⟩
 | .tmp i::l,vs,c=>by
   simp only[uF,c7]at c;obtain⟨v,d,k,m,o⟩:=c;cases o;obtain⟨xs,u,q⟩:=MC j g m;simp only[O4]at d;cases d;have y:(Qd a.tmps (.tmp i)).run P0 w = .ok (a.tmps.getD i undef) w:=rfl
   exact⟨a.tmps.getD i undef::xs,by simp_all,.cons _ _ _ _ (g.rel i) q⟩
 | .cell b ty::l,vs,c=>by
   simp only[uF,c7]at c;obtain⟨v,d,k,m,o⟩:=c;cases o;obtain⟨xs,u,q⟩:=MC j g m;simp only[O4]at d;obtain⟨x,s,z⟩:=Hl (xv:=a.tmps.getD b undef) j (λv c=>by cases c;exact g.rel b) d;have e:∃ad,a.tmps.getD b undef = .pointer (some ad):=by
     cases hx:a.tmps.getD b undef with
     | pointer p=>cases p with
       |some ad=>simp_all
       |none=>simp_all[Instr.loadAt,Instr.sureAddr]
     |_=>simp_all[Instr.loadAt,Instr.sureAddr]
   obtain⟨ad,f⟩:=e;rw[f]at s;have r:(loadVar ty ad).run P0 w = .ok x w:=by simpa[Instr.loadAt,Instr.sureAddr]using s
   have y:(Qd a.tmps (.cell b ty)).run P0 w = .ok x w:=by simp only[Qd,f,asAddr,rk,EJ,qf,r]
   exact⟨x::xs,by simp_all,.cons _ _ _ _ z q⟩
theorem GO{Δ:Env} {h:Hp} {w:World} {t:Tm} {a:Act} (d:WR Δ h w) (e:TR Δ n t a) {fn:Func} {vs:List V} (f:uF t h fn.results.toList=some vs) :
  ∃x,(results fn a.tmps).run P0 w = .ok x w/\dj Δ (tZ vs) x:=by
 obtain ⟨xs,g,i⟩:=MC d e f;have j:(results fn a.tmps).run P0 w = .ok (if h:xs.toArray.size=1 then xs.toArray[0] else .tuple xs.toArray) w:=by
  have h0:results fn a.tmps=(do let vs <-fn.results.mapM (Qd a.tmps);pure (if h:vs.size=1 then vs[0] else .tuple vs)):=by
   unfold results;congr 1
  rw[h0,Array.mapM_eq_mapM_toList];simp only[rk,map_eq_pure_bind,g,qf,EJ]
 refine⟨_,j,?_⟩
 cases i with
 |nil=>exact .tuple _ #[] .nil
 | cons v x vs xs b hs=>
   cases hs with
   |nil=>exact b
   | cons k l vs xs c hs=>
     rw[dif_neg (by simp)];exact .tuple _ _ (.cons _ _ _ _ b (.cons _ _ _ _ c hs))
theorem NH{Δ m:Env} {h:Hp} {w w':World} {n:Nat} {fn:Func} {r:X×Tm×Hp} {a':Act} {v:V} {h':Hp} (c:xi Δ h w n r.2.1 r.2.2 m a' w') (g:Q1 fn r=some (v,h')) :
  (r.1 = .normal\/r.1 = .ret)/\a'.defers=[]/\∃y,(results fn a'.tmps).run P0 w' = .ok y w'/\∃b z,Ending.returned y = .returned z/\tJ Δ h w v h' b z w':=by
 obtain⟨x,t',e⟩:=r
 have a:(match t'.ds with
   |[]=>oB (uF t' e fn.results.toList) λvs=>some (tZ vs,e)
   |_::_=>none)=some (v,h')->a'.defers=[]/\∃y,(results fn a'.tmps).run P0 w' = .ok y w'/\
   ∃b z,Ending.returned y = .returned z/\tJ Δ h w v h' b z w':=by
  intro d;split at d
  ·rename_i i;simp only[c7]at d;obtain⟨vs,j,d⟩:=d;cases d;obtain⟨y,o,k⟩:=GO c.world c.tmps j;have f:=c.tmps.ds;simp only at f;rw[i]at f
   have l:a'.defers=[]:=by cases hx:a'.defers with
    |nil=>rfl
    |cons _ _=>rw[hx]at f;cases f
   exact⟨l,y,o,m,y,rfl,k,c.world,c.frame,c.grow⟩
  ·cases d
 cases x with
 |exit id=>cases g
 |normal=>exact⟨.inl rfl,a g⟩
 |ret=>exact⟨.inr rfl,a g⟩
theorem Kl{o:Oper} {c:Go.Call} (a:o.op = .call c) (hc:c.callee = .builtin .recover) (ρ:Operand->Value) (w:World):(execOp ρ o).run P0 w = .ok .recover w:=by
 unfold execOp;rw[a];simp only[rk,resolve,hc,EJ,qf];rfl
theorem O8{c a:Code} {d:Nat} (h:N9 c=some (d,a)):∃id o e,c = .seq (.region id #[o] false) a/\o.op = .call e/\e.callee = .builtin .recover/\o.guard=none/\o.dst=some d:=by
 unfold N9 at h;split at h
 ·rename_i id ops f;split at h
  ·rename_i o k;split at h
   ·rename_i e g;split at h
    ·rename_i d' i j b;cases h;refine⟨id,o,e,?_,g,i,j,b⟩;congr 2
     grind
    ·cases h
   ·cases h
  ·cases h
 ·cases h
theorem Re{C:dc} (z:ry C) (hc:qZ call) {m f:Nat} {args:List V} {v:V} {h h':Hp} {Δ:Env} {w:World} {ee:Array Value} (a:(Ec C f).f call m args h=some (v,h'))
  (N:WR Δ h w) (P:dS Δ args ee.toList):(callFunc f ee).run P0 w = .ok (.enter f ee) w/\
   CallsD P0 f ee .returning w λe u' w'=>u' = .returning/\∃A x,e = .returned x/\tJ Δ h w v h' A x w':=by
 unfold Ec at a;split at a
 ·rename_i fn B;split at a
  ·rename_i c O;refine⟨?_,?_⟩
   ·have T:=z.named f fn B
    simp_all[callFunc,rk,run_program,qf,Yb,Kg,if_false]
   split at a
   ·rename_i d g q;simp only[ek,c7]at a;obtain⟨j,Q,r,D,E⟩:=a;have i:args.length<=fn.ntmps:=EN j;obtain⟨id,o,U,rfl,F,G,R,s⟩:=O8 q;refine callsD_of_wpS B O λH cs u=>?_;have I:=D1 z P i;have J:tz fn.ntmps o=some ⟨λt v=>t.set d v⟩:=by unfold tz;rw[s];simp only[Q]
    have S:TR Δ fn.ntmps ((C.start args).set d .nilIface) (({tmps:=ee++Array.replicate (fn.ntmps-ee.size) undef,defers:=[]}:Act).put o.dst .nilIface):=DZ I J .nilIface;refine wpS_seq (wpS_region ?_);have Hi:List.range (#[o]:Array Oper).size=[0]:=rfl;rw[Hi];simp only[wpOpsS];have h0:(#[o]:Array Oper)[0]? =some o:=rfl;simp only[h0];have k:∀y,Region.wanted o y=true:=by grind[Region.wanted]
    rw[if_pos (k _),Kl F G];have l:recoverD (H::cs)=none:=by simp only[recoverD,u]
    simp only[l];show g.wpS P0 _ _ _ _;refine wpS_of_wp ?_;refine qN hc z.mixed g N S D λA a' w' K=>?_;obtain⟨b,n,y,L,M⟩:=NH K E;have p:({H with mode:= .returning}:Frame)=H:=by rw[<-u]
    rcases b with b|b <;> rw[b] <;> exact⟨n,.returning,by rw[p],y,L,rfl,M⟩
   ·simp only[ek,c7]at a;obtain⟨j,r,D,E⟩:=a;have i:args.length<=fn.ntmps:=EN j;refine callsD_of_wp B O ?_;refine qN hc z.mixed c N (by grind[D1]) D λA a' w' K=>?_;obtain⟨b,n,y,L,M⟩:=NH K E;rcases b with b|b <;> rw[b] <;> exact⟨n,y,L,M⟩
  ·cases a
 ·cases a
theorem Nv{C:dc} (j:ry C) (hc:qZ call) {m:Nat} {fn:Func} {tmps:Array Value} {R:Ending->World->Prop}:∀(l:List (Nat×List V)) {c:List Deferred} {Δ:Env} {h h':Hp} {w:World},
  Ib C call m l h=some h'->WR Δ h w->Cw Δ l c->
  (∀a w',WR a h' w'->FR Δ a w w'->Gr h Δ h' a->∃v,(results fn tmps).run P0 w' = .ok v w'/\R (.returned v) w')->Leaves P0 fn tmps R c .returning w
 | [],_,Δ,h,h',w,hv,hW,.nil,hR=>by
   cases hv
   exact hR Δ w hW (.refl _ _) (.refl _ _)
 | (g,args)::l,_,Δ,h,h',w,hv,hW,.cons _ _ cap ee _ c ha hl,hR=>by
   simp only[Ib,c7]at hv;obtain⟨⟨v,u⟩,k,n⟩:=hv;obtain⟨o,p⟩:=Re j hc k hW ha;refine leaves_cons (by simp_all) (f:=g) (args:=ee++cap) o ?_;refine CallsD.mono p λe u' w' q=>?_;obtain⟨rfl,a,x,rfl,b⟩:=q;exact Nv j hc l n b.world (hl.mono b.frame.le) λd i r s t=>hR d i r (b.frame.trans s) (b.grow.trans t)
theorem TH{C:dc} (j:ry C) (hc:qZ call) {m:Nat}:qZ λf args h=>(zu C f).f call m args h:=by
 intro f args v h h' Δ w ee a n F;simp only at a;unfold zu at a;split at a
 ·rename_i fn o;split at a
  ·rename_i c p;right;have b:(callFunc f ee).run P0 w = .ok (.enter f ee) w:=by
    have L:=j.named f fn o;simp only[callFunc,rk,run_program,qf,o,L,p,Yb,Kg,if_false];rfl
   refine⟨b,?_⟩;simp only[Sb]at a
   cases hk:C.K f args h with
   | some u=>
     rw[hk]at a;simp only[ek,rm]at a;obtain⟨⟨k,q⟩,a⟩:=a;cases a;refine Calls.mono (j.known f args _ _ hk k q Δ w ee n (IQ F k)) λe w' s=>?_;obtain⟨x,rfl,M,hs⟩:=s
     exact⟨Δ,x,rfl,hs.after n M⟩
   | none=>
     rw[hk]at a;simp only[ek,c7]at a;obtain⟨t,r,z,g⟩:=a;have G:args.length<=fn.ntmps:=EN t;refine calls_of_wp_defers o p ?_;refine qN hc j.mixed c n (by grind[D1]) z λH a' w' l=>?_;obtain⟨x,t',A⟩:=r
     have d:(∃i,Ib C call m t'.ds A=some i/\∃vs,uF t' i fn.results.toList=some vs/\some (tZ vs,i)=some (v,h'))->
         Leaves P0 fn a'.tmps (λe w'=>∃H x,e = .returned x/\tJ Δ h w v h' H x w') a'.defers .returning w':=by
       rintro⟨i,N,vs,B,s⟩;cases s;refine Nv j hc _ N l.world l.tmps.ds λD O I J P=>?_;obtain⟨y,Q,E⟩:=GO I (l.tmps.mono J.le) B;exact⟨y,Q,D,y,rfl,E,I,l.frame.trans J,l.grow.trans P⟩
     cases x with
     |exit id=>cases g
     |normal=>simp only[c7]at g;exact d g
     |ret=>simp only[c7]at g;exact d g
  ·rename_i p;left;simp only[c7]at a;obtain⟨u,z,g⟩:=a;cases g;obtain⟨x,i,R⟩:=j.ext f fn o p Δ args _ ee w z F;exact⟨x,i,R,n,.refl _ _,.refl _ _⟩
 ·cases a
theorem Dk{C:dc} (a:ry C) (m:Nat):∀d,qZ (gQ C m d)
 |0=>λf args v h h' Δ w ee b=>(nomatch b)
 |d+1=>TH a (Dk a m d)
end
theorem IU(c:Nat) (hc:c<256):∀(l:List UInt8) (n:Nat),FZ c l n=n+l.count (UInt8.ofNat c)
 |[],n=>by rfl
 | b ::l,n=>by
   simp only[FZ];rw[IU c hc l,List.count_cons];have a:Nat.beq b.toNat c=(b == UInt8.ofNat c):=by
     rw[MN];simp only[CG];constructor
     ·intro h
      have h':b.toNat=c:=wC h;rw[<-h'];simp
     ·simp_all
   rw[a];cases b == UInt8.ofNat c
   ·simp
   grind
theorem Il(c:Nat) (hc:c<256):∀(l:List UInt8) (n:Nat),(match J4 c l n with|some i=>(i:Int)|none=>-1)=if Lib.indexByte l (UInt8.ofNat c) = -1 then -1 else Lib.indexByte l (UInt8.ofNat c)+n
 |[],n=>by rfl
 | b ::l,n=>by
   simp only[J4];have a:Nat.beq b.toNat c=(b == UInt8.ofNat c):=by
     rw[MN];simp only[CG];constructor
     ·intro h
      have h':b.toNat=c:=wC h;rw[<-h'];simp
     ·simp_all
   rw[a];unfold Lib.indexByte
   cases hbc:b == UInt8.ofNat c with
   |true=>simp
   | false=>
     have e:=Il c hc l (n+1);have d:=Lib.indexByte_ge l (UInt8.ofNat c)
     grind
theorem Oq{f:Nat} {fn:Func} (h:P0.funcs[f]? =some fn) (a:(fn.name == "runtime.NumGoroutine")=false) (i:fn.body.isNone=true) (j:Extern.findNext fn=none) (k:Extern.find fn=some Extern.BytealgCount.count)
  {Δ:Env} {args:List V} {v:V} {ee:Array Value} {w:World} (b:MT .countByte args=some v) (m:dS Δ args ee.toList):∃x,(callFunc f ee).run P0 w = .ok (.value x) w/\dj Δ v x:=by
 unfold MT at b;split at b
 ·rename_i s c _;rw[ek]at b;obtain⟨hc,b⟩:=b;have d:c<256:=by rw[I3]at hc;exact hc
  cases b;obtain⟨l⟩:=ee
  cases m with
  | cons _ x _ xs g hs=>
    cases hs with
    | cons _ y _ ys n hs=>
      cases hs;cases n;generalize hsl:s=sl at g
      cases g with
      | str sb=>
        have o:=Lib.run_countString (P:=P0) sb (Int.ofNat c) w;refine⟨.int .i64 (Lib.countByte sb.data.toList (Int.ofNat c).toNat.toUInt8),?_,?_⟩
        ·rw[run_callFunc_extern h a i j k]
         simp_all
        have e:FZ c sb.data.toList 0=Lib.countByte sb.data.toList (Int.ofNat c).toNat.toUInt8:=by
          rw[IU c d,yD];rfl
        rw[e];exact .int _ _
 ·simp_all
 ·cases b
theorem O3{f:Nat} {fn:Func} (h:P0.funcs[f]? =some fn) (b:(fn.name == "runtime.NumGoroutine")=false) (j:fn.body.isNone=true) (k:Extern.findNext fn=none) (m:Extern.find fn=some Extern.BytealgIndexByte.indexByte)
  {Δ:Env} {args:List V} {v:V} {ee:Array Value} {w:World} (a:MT .indexByte args=some v) (n:dS Δ args ee.toList):∃x,(callFunc f ee).run P0 w = .ok (.value x) w/\dj Δ v x:=by
 unfold MT at a;split at a
 ·simp_all
 ·rename_i s c _;rw[ek]at a;obtain⟨hc,a⟩:=a;have d:c<256:=by rw[I3]at hc;exact hc
  obtain⟨l⟩:=ee
  cases n with
  | cons _ x _ xs g hs=>
    cases hs with
    | cons _ y _ ys o hs=>
      cases hs;cases o;generalize hsl:s=sl at g
      cases g with
      | str sb=>
        have q:=Lib.run_indexByteString (P:=P0) sb (Int.ofNat c) w;refine⟨.int .i64 (Lib.indexByte sb.data.toList (Int.ofNat c).toNat.toUInt8),?_,?_⟩
        ·rw[run_callFunc_extern h b j k m]
         simp_all
        have e:=Il c d sb.data.toList 0;have p:(if Lib.indexByte sb.data.toList (UInt8.ofNat c) = -1 then -1 else Lib.indexByte sb.data.toList (UInt8.ofNat c)+((0:Nat):Int))=Lib.indexByte sb.data.toList (Int.ofNat c).toNat.toUInt8:=by
          show _=Lib.indexByte sb.data.toList (UInt8.ofNat c);split
          ·omega
          ·simp
        rw[p]at e;rw[<-e];rw[hsl]at a;split at a
        ·rename_i i hi;cases a;rw[hi];exact .int _ _
        ·rename_i hi;cases a;rw[hi];exact .int _ _
 ·cases a
def Kept(W W':World):Prop:=W'.os=W.os/\W'.output=W.output/\W.heap.size<=W'.heap.size/\∀b,b<W.heap.size->W'.heap[b]? =W.heap[b]?
theorem Kept.zm{W W':World} (h:Kept W W') (a:MemPlace->Prop):W.keptBut W' a:=by
 refine⟨h.1,h.2.1,λi hi=>?_⟩;rw[h.2.2.2 i hi]
 grind
theorem FR.kept{Δ a:Env}{w w':World}(h:FR Δ a w w')(c:∀b,¬RW Δ b):Kept w w':=⟨h.os,h.output,h.size,λb d=>h.dO b d (c b)⟩
def isTrue:Option (V×Hp)->Bool
 |some (.bool true,_)=>true
 |_=>false
theorem xD.none{Δ:Env}{w:World}(h:xD Δ w):xD (λ_=>none) w:=λg c a=>⟨(h g c a).1,by simp_all⟩
theorem WR.start(n:Nat) (a:P0.globals.size<=n) (w:World) (b:xD (λ_=>none) w):WR (λ_=>none) {next:=n,tr:= .leaf} w:=
 ⟨by simp_all,by simp_all,by simp_all,by simp_all,by grind[Hp.get_eq,Tr.oA],a,b⟩
theorem known{C:dc} (k:ry C) {m d n f:Nat} (w:P0.globals.size<=n) (g:∃fn c,P0.funcs[f]? =some fn/\fn.body=some c) (a:isTrue (gQ C m d f [] {next:=n,tr:= .leaf})=true) (W:World) (y:xD (λ_=>none) W) :
  Calls P0 f #[] W λe W'=>e = .returned (.bool true)/\Kept W W':=by
 cases hr:gQ C m d f [] {next:=n,tr:= .leaf} with
 |none=>rw[hr]at a;cases a
 | some r=>
   obtain ⟨v,h'⟩:=r;rw[hr]at a;have h:v = .bool true:=by
     unfold isTrue at a;split at a
     ·simp_all
     ·cases a
   subst h;rcases Dk k m d f [] _ _ _ (λ_=>none) W #[] hr (by grind[WR.start]) .nil with⟨x,z,_⟩|⟨_,q⟩
   ·exfalso
    obtain ⟨fn,c,o,i⟩:=g;have j:=k.named f fn o;have:(callFunc f #[]).run P0 W = .ok (.enter f #[]) W:=by
      simp only[callFunc,rk,run_program,qf,o,j,i,Yb,Kg,if_false];rfl
    simp_all
   ·refine Calls.mono q λe w' s=>?_
    obtain⟨A,x,rfl,p⟩:=s;have t:=p.val;cases t;exact⟨rfl,p.frame.kept λb g=>(by obtain⟨l,d,u,_⟩:=g;cases u)⟩
open Go.ChangeShapes Go.WideShapes in
theorem PD {H:Type} {enc:TypeId×Value->H} {P:Program} {f:Func} {s:ChangeSpec} {apart fresh handsOn again:Bool} {W W':World} {args:Array Value} {v:Value} {ds gs:List (DataW H)}
  {before pa pv:List MemPlace} (hW:DataW.Whole enc P f.params.toList s.vars apart W args.toList ds gs before)
  (WH:∀(b:Nat) (sp:Nat->Bool) (hd:Bool),DataW.TrodAll enc P W' b sp hd f.resultTypes.toList (v.resultList f.resultTypes.size) (s.fn H (ds++gs)).results [])
  (Uk:∀sp:Nat->Bool,(∀p∈before,sp p.block=true)->DataW.TrodAll enc P W' 0 sp true f.params.toList args.toList (s.fn H (ds++gs)).args pa)
  (UC:∀sp:Nat->Bool,(∀p∈before,sp p.block=true)->DataW.TrodVars enc P W' sp s.vars (s.fn H (ds++gs)).vars pv)
  (ZM:before=pa++pv) (hk:Kept W W')
  (Z1:∀(j:Nat) (t:TypeId) (r:Value),f.resultTypes[j]? =some t->(v.resultList f.resultTypes.size)[j]? =some r->Value.okWide P W' .any 0 t r) :
  s.post enc P f apart fresh handsOn again W args v W':=by
 have PL:∀p∈before,p.block<W.heap.size:=λp hp=>hW.lt p hp;have hold:∀p∈before,(λb=>decide (b<W.heap.size)) p.block=true:=by simp_all
 refine⟨ds,gs,before,[],pa,pv,hW,WH _ _ _,Uk _ hold,UC _ hold,hk.zm _,λ_=>?_⟩;obtain⟨_,_,_,_,_,hz,hn⟩:=hW;refine⟨Z1,_,_,([]++pa)++pv,⟨[]++pa,pv,trodAll_append (Uk _ (λ_ _=>rfl)) (WH _ _ _),UC _ (λ_ _=>rfl),rfl,?_,?_⟩,?_⟩
 ·intro b off hp;have Zl:MemPlace.cell b off∈before:=by rw[ZM];simpa using hp
  have hz':=hz b off Zl;have hb:=PL _ Zl;have he:W'.frozen? ⟨b,off,none⟩=W.frozen? ⟨b,off,none⟩:=by
   unfold World.frozen?;have:=hk.2.2.2 b hb;simp only at this⊢;rw[this]
  simp_all
 ·simp_all
 simp_all
