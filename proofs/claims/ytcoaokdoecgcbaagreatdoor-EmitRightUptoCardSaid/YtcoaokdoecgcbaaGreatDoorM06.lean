/- Parts. -/
import Derived.Test.YtcoaokdoecgcbaaGreatDoorM05
import Derived.Defers
import Derived.Recover
import Derived.Lib.Bytealg
import Derived.Laws.Externs
import Derived.ChangeSame
import Derived.RowKit3
set_option maxHeartbeats 4000000
namespace Go.Proofs.YtcoaokdoecgcbaaGreatDoor.Hx
structure Still (W W':World):Prop where
 os:W'.os=W.os
 tape:W'.tape=W.tape
 output:W'.output=W.output
 size:W.heap.size<=W'.heap.size
 fh:∀b,b<W.heap.size->W'.heap[b]? =W.heap[b]?
theorem FR.still{Δ a:Env}{w w':World}(h:FR Δ a w w')(c:∀b,¬RW Δ b):Still w w':=⟨h.os,h.tape,h.output,h.size,λb d=>h.fh b d (c b)⟩
theorem zgM(b:Nat):¬RW (λ_=> .none) b:=λ⟨_,_,hl,_⟩=>nomatch hl
theorem Still.after{Δ:Env} {h:Hp} {W W':World} (hs:Still W W') (a:WR Δ h W) {v:V} {x:Value} (hv:fF (λ_=> .none) v x):vV Δ h W v h Δ x W' where
 val:=hv.mono λ_ _ (h:(none:Option D)=some _)=>by cases h
 world:=⟨a.fresh,λl d hl=>Dy (a.AA l d hl) hs.size,λl d hl=>by rw[hs.fh _ (a.AA l d hl)];exact a.obj l d hl,a.apart,a.HA,a.xC,a.Va.step (λb c _=>hs.fh b c) (by simp_all)⟩
 frame:=⟨Env.le_refl _,hs.size,hs.os,hs.tape,hs.output,λb c _=>hs.fh b c,by simp_all⟩
 grow:= .refl _ _
theorem Sr{Δ a:Env} {v:V} {x:Value} (h:fF Δ v x) (c:v.flat=true):fF a v x:=by
 cases h with
 |bool b=>exact .bool b
 |int k n=>exact .int k n
 |str s=>exact .str s
 |nilPtr=>exact .nilPtr
 |ed=>exact .ed
 |ke=>exact .ke
 |nilFunc=>exact .nilFunc
 |nilIface=>exact .nilIface
 |_=>grind[V.flat]
theorem Qh{Δ a:Env}:∀{vs:List V} {xs:List Value},gB Δ vs xs->Su vs=true->gB a vs xs
 |[],_,.nil,_=> .nil
 | v::vs,_,.cons _ _ _ _ h hs,hf=>by
   simp only[Su,wBh,sJ]at hf;exact .cons _ _ _ _ (Sr h hf.1) (Qh hs hf.2)
structure vP (C:fj):Prop where
 N2:∀args,(C.start args).ds=[]
 start:∀args i,hN (C.start args) i=(args[i]?).getD .undef
 mixed:P0.follows .mixedOrders=true
 named:∀(f:Nat) (fn:Func),P0.funcs[f]? =some fn->(fn.name == "runtime.NumGoroutine")=false
 ext:∀(f:Nat) (fn:Func),P0.funcs[f]? =some fn->fn.body=none->∀(Δ:Env) (args:List V) (v:V) (gK:Array Value) (w:World),Ui (C.ext f) args=some v->gB Δ args gK.toList->
  ∃x,(callFunc f gK).run P0 w = .ok (.value x) w/\fF Δ v x
 known:∀(f:Nat) (args:List V) (v:V) (h:Hp),C.K f args h=some v->Su args=true->v.flat=true->∀(Δ:Env) (W:World) (gK:Array Value),WR Δ h W->gB (λ_=> .none) args gK.toList->
  Calls P0 f gK W λe W'=>∃x,e = .returned x/\fF (λ_=> .none) v x/\Still W W'
section
variable{n:Nat}{call:Call}
theorem LJ{jQ ws:List It} (b:∀x∈ws,x∈jQ):∀(l:List It) (k:Nat),(∀x∈l,x∈jQ)->∀a∈order jQ ws l k,a∈jQ
 |[],k,_,a,ha=>(Zm.1 ha).1
 | w::l,k,hl,a,ha=>by
   simp only[order,xU,wM]at ha;rcases ha with h|rfl|h
   ·exact(Zm.1 h).1
   ·simp_all
   ·exact LJ b l (k+1) (by simp_all) a h
theorem Qc(hc:rH call) (l:P0.follows .mixedOrders=true) {id:Nat} {ops:Array Oper} {Δ:Env} {h:Hp} {w:World} {t:Tm} {a:Act} (A:WR Δ h w) (E:TR Δ n t a)
  {r:Tm×Hp} (B:qS (iO ops)=true) (F:(iO ops).all (DE (iO ops))=true) (G:(iO ops).all AX=true) (m:uk (iO ops) (gY (iO ops)) (order (iO ops) (gY (iO ops)) (gY (iO ops)) 0) 0 0=true)
  (hv:(wq n ops.toList (gY (iO ops)) (order (iO ops) (gY (iO ops)) (gY (iO ops)) 0) 0).f call t h []=some r) {Q:Exit->Act->World->Prop} (H:∀u C w',xJ Δ h w n r.1 r.2 u C w'->Q .normal C w')
  (D:∀T:Tc,sF n ops.toList (iO ops) (gY (iO ops)) call t h (order (iO ops) (gY (iO ops)) (gY (iO ops)) 0) 0 0 h [] r T T->∀(fuel:Nat) (c:Array Bool) (p:Act) (w':World) (j:Nat) (u:Env) (t':Tm) (a:It),0<=j->c.toList.count false<=fuel+1->
   Inv n ops t h Δ w T c j u t' p w'->a∈iO ops->cls a.o=2->c.getD a.i false=false->(∀x∈iO ops,a.b.testBit x.i=true->c.getD x.i false=true)->(gY (iO ops))[j]?≠some a->
   wpOp P0 ops Q a.i (wpAny P0 .any ops Q fuel (c.setIfInBounds a.i true)) p w'):(Code.region id ops true).wp P0 Q a w:=by
 have k:∀x∈order (iO ops) (gY (iO ops)) (gY (iO ops)) 0,x∈iO ops:=by grind[LJ,rK]
 let I:Tc:=⟨λ_=>false,λ_=> .undef,λ_=> .tree .leaf [],λ_=>0,λ_=>0,λ_=>default,λ_=>h,λ_=>h⟩
 obtain ⟨T,g⟩:=trace (n:=n) (all:=ops.toList) (jQ:=iO ops) (ws:=gY (iO ops)) (call:=call) (t0:=t) (h0:=h) sK B _ 0 0 t h [] r I k m hv (λa N s=>by simp at s)
  (by grind[ID]) (jv _) (by omega) (Ll _)
 have v:sF n ops.toList (iO ops) (gY (iO ops)) call t h _ 0 0 h [] r T T:=
  ⟨by simp_all,by omega,g.item,g.DO,g.more,g.chain,g.WC,g.V5,g.last,g.pD,g.done,g.kle⟩
 refine wp_region_any l (VK (T:=T) (Δ0:=Δ) (w0:=w) (h0:=h) (t0:=t) hc B F G 0 (by grind) k v (A9 _ _ hv) H ops.size _ a _ 0 Δ t (jv _) ?_ ⟨by simp,λx s y=>?_,Ll _,λq x hq=>?_,E,λd=>?_,(A.heap (w':={w with drawn:=w.drawn+1}) rfl).Rq g.more,
  ⟨Env.le_refl _,jv _,rfl,rfl,rfl,by simp_all,by simp_all⟩,by simp_all,rfl,λx s J K _ _=>?_⟩)
 ·simp_all
 ·simp only[wBN,wBo]at y
  grind
 ·constructor
  ·intro L;simp only[wBN,wBo]at L
   grind
  omega
 ·refine(ID (λx _ _=>?_) _).symm;simp only[wBN,wBo]
  grind
 ·have z:x∈order (iO ops) (gY (iO ops)) (gY (iO ops)) 0:=by
   rcases g.done x s with M|M
   ·simp_all
   ·grind[uf]
  have:=g.WC x z J K
  cases hd':Δ (T.pl x.i)with
  |none=>rfl
  |some e=>have:=A.fresh _ _ hd';omega
theorem zbl(hc:rH call) (c:P0.follows .mixedOrders=true) {id:Nat} {ops:Array Oper} {Δ:Env} {h:Hp} {w:World} {t:Tm} {a:Act} (s:WR Δ h w) (u:TR Δ n t a)
  {r:Tm×Hp} (hv:(M0 n ops.toList).f call t h=some r) {Q:Exit->Act->World->Prop} (k:∀v l w',xJ Δ h w n r.1 r.2 v l w'->Q .normal l w'):(Code.region id ops true).wp P0 Q a w:=by
 unfold M0 at hv;split at hv
 ·rename_i b;simp only[sJ,Rv]at b
  grind[Qc,WY]
 ·split at hv
  ·rename_i pr g b;simp only[sJ,Ri]at b;obtain⟨⟨⟨m,o⟩,q⟩,d⟩:=b;simp only[fk,gG]at hv;obtain⟨r',hv,i,z⟩:=hv;cases z;obtain⟨x,y,da,db⟩:=pr;obtain⟨A,B,C,D,E,F,G⟩:=So g;obtain⟨p,H,I,J⟩:=NJ A;have e:∀x∈order (iO ops) (gY (iO ops)) (gY (iO ops)) 0,x∈iO ops:=by grind[LJ,rK]
   exact Qc hc c s u m o q d hv k λT j=>YT hc m o q e j ⟨H,I,J,B,C,D,E,F,G,i⟩ (A9 _ _ hv) k
  ·cases hv
theorem J6{r:Option (X×Tm×Hp)} {k:Tm->Hp->Option (X×Tm×Hp)} {y:X×Tm×Hp} (h:EG r k=some y) :
  (∃t h',r=some (.normal,t,h')/\k t h' = some y)\/(r=some y/\y.1≠ .normal):=by
 unfold EG at h
 grind
theorem VM{next:Act->World->Prop} {Q:Exit->Act->World->Prop} {x:X} (b:x≠ .normal) {a:Act} {w:World} (h:Q x.to a w):Exit.then next Q x.to a w:=by
 cases x with
 |normal=>simp_all
 |exit id=>exact h
 |ret=>exact h
theorem tT(hc:rH call) (d:P0.follows .mixedOrders=true) {m:Nat}:∀(c:Code) {Δ:Env} {h:Hp} {w:World} {t:Tm} {a:Act},WR Δ h w->TR Δ n t a->∀{r:X×Tm×Hp},
  (ig n c).f call m t h=some r->∀{Q:Exit->Act->World->Prop},(∀u l w',xJ Δ h w n r.2.1 r.2.2 u l w'->Q r.1.to l w')->c.wp P0 Q a w
 | .skip,Δ,h,w,t,a,e,g,r,hv,Q,i=>by cases hv;exact wp_skip (i _ _ _ (.start g e))
 | .seq x y,Δ,h,w,t,a,e,g,r,hv,Q,i=>by
   simp only[ig]at hv;refine wp_seq ?_;rcases J6 hv with⟨E,q,e1,e2⟩|⟨e1,e2⟩
   ·exact tT hc d x e g e1 λu l w' j=>tT hc d y j.world j.tmps e2 λA B C s=>i _ _ _ (j.trans s)
   ·exact tT hc d x e g e1 (by grind[VM])
 | .cond c x y,Δ,h,w,t,a,e,g,r,hv,Q,i=>by
   simp only[ig,fk]at hv;obtain⟨v,q,p⟩:=hv;have z:=kJ e g q;split at p
   ·rename_i b
    generalize hx:a.eval c=xv at z;cases z
    cases b with
    |true=>exact wp_cond_true hx (tT hc d x e g p i)
    |false=>exact wp_cond_false hx (tT hc d y e g p i)
   ·cases p
 | .block id c,Δ,h,w,t,a,e,g,r,hv,Q,i=>by
   simp only[ig]at hv;refine wp_block ?_
   cases z:(ig n c).f call m t h with
   |none=>rw[z]at hv;cases hv
   | some r'=>
     rw[z]at hv;refine tT hc d c e g z λu l w' j=>?_;obtain⟨x,t',h'⟩:=r'
     cases x with
     |normal=>cases hv;exact i _ _ _ j
     |ret=>cases hv;exact i _ _ _ j
     | exit o=>
       simp only[Lv]at hv;show if o=id then Q .normal l w' else Q (.exit o) l w'
       cases hb:Nat.beq o id with
       | true=>
         rw[hb]at hv;have:=yi hb;rw[if_pos this];cases hv
         exact i _ _ _ j
       | false=>
         rw[hb]at hv;have:o≠id:=by grind[XV]
         rw[if_neg this];cases hv
         exact i _ _ _ j
 | .loop c,Δ,h,w,t,a,e,g,r,hv,Q,i=>by
   simp only[ig]at hv;refine Bv.wp ?_;split at hv
   ·rename_i F G
    exact zbi hc G e g hv i
   have H:∀(k:Nat) {Δ:Env} {h:Hp} {w:World} {t:Tm} {a:Act},WR Δ h w->TR Δ n t a->Gu (λt h=>(ig n c).f call m t h) k t h=some r->
       (∀u l w',xJ Δ h w n r.2.1 r.2.2 u l w'->Q r.1.to l w')->Bv c Q a w:=by
     intro k
     induction k with
     |zero=>intro Δ h w t a _ _ hv _;cases hv
     | succ k I=>
       intro Δ h w t a e g hv i;have D:EG ((ig n c).f call m t h) (Gu (λt h=>(ig n c).f call m t h) k)=some r:=hv;refine Bv.round ?_;rcases J6 D with⟨E,q,e1,e2⟩|⟨e1,e2⟩
       ·exact tT hc d c e g e1 λu l w' j=>I j.world j.tmps e2 λA B C s=>i _ _ _ (j.trans s)
       ·exact tT hc d c e g e1 (by grind[VM])
   grind
 | .exit id,Δ,h,w,t,a,e,g,r,hv,Q,i=>by cases hv;exact wp_exit (i _ _ _ (.start g e))
 | .ret,Δ,h,w,t,a,e,g,r,hv,Q,i=>by cases hv;exact wp_ret (i _ _ _ (.start g e))
 | .region id ops false,Δ,h,w,t,a,e,g,r,hv,Q,i=>by
   simp only[ig,fk]at hv;obtain⟨r',q,p⟩:=hv;cases p;refine wp_region ?_;have:=B9 (Q:=Q) hc ops.toList 0 rfl e g q i
   grind[List.range_eq_range']
 | .region id ops true,Δ,h,w,t,a,e,g,r,hv,Q,i=>by
   simp only[ig,fk]at hv;obtain⟨r',q,p⟩:=hv;cases p
   exact zbl hc d e g q i
 | .rangeFunc ..,Δ,h,w,t,a,e,g,r,hv,Q,i=>by cases hv
 | .scope _,Δ,h,w,t,a,e,g,r,hv,Q,i=>by cases hv
 | .label _,Δ,h,w,t,a,e,g,r,hv,Q,i=>by cases hv
 | .goto _,Δ,h,w,t,a,e,g,r,hv,Q,i=>by cases hv
 | .refuse _,Δ,h,w,t,a,e,g,r,hv,Q,i=>by cases hv
noncomputable def PT(t:Tr V)(i:Nat):V:=Option.rec (motive:=λ_=>V) V.undef (λv=>v) (t.get i)
theorem WQ(t:Tr V)(d i:Nat)(v:V):PT (t.set d v) i=if d=i then v else PT t i:=im (.tree t []) d i v
theorem PW:∀(args:List V) (i:Nat) (t:Tr V) (j:Nat),PT (TQ args i t) j=if i<=j/\j<i+args.length then args[j-i]?.getD .undef else PT t j
 |[],i,t,j=>by rw[if_neg (by simp_all)];rfl
 | v ::vs,i,t,j=>by
   simp only[TQ];rw[PW vs (i+1) (t.set i v) j];by_cases a:i+1<=j/\j<i+1+vs.length
   ·grind
   ·rw[if_neg a,WQ]
    grind
theorem Us(args:List V) (i:Nat):hN (Vc args) i=(args[i]?).getD .undef:=by
 have h:=PW args 0 .leaf i;rw[show hN (Vc args) i=PT (TQ args 0 .leaf) i from rfl,h]
 simp_all[if_pos,Nat.sub_zero,if_neg,wBK,PT,Tr.rT]
theorem KN{C:fj} (a:vP C) {Δ:Env} {args:List V} {gK:Array Value} (b:gB Δ args gK.toList) {k:Nat} (c:args.length<=k) :
  TR Δ k (C.start args) {tmps:=gK++Array.replicate (k-gK.size) undef,defers:=[]}:=by
 have hl:=b.length;simp only[XU]at hl;refine⟨by simp;omega,λi=>?_,by rw[a.N2];exact .nil⟩;rw[a.start];simp only[wBN];by_cases h:i<args.length
 ·rw[Array.getElem?_append_left (by omega)];obtain⟨x,d,e⟩:=b.get i args[i] (by simp_all)
  grind
 ·rw[wBK (by omega),Array.getElem?_append_right (by omega),wBo];split <;> exact .undef Δ
def YK(tmps:Array Value):ResultVar->Sem Value
 | .tmp t=>pure (tmps.getD t undef)
 | .cell b ty=>do loadVar ty (<-asAddr (tmps.getD b undef))
theorem US{Δ:Env} {h:Hp} {w:World} {t:Tm} {a:Act} (g:WR Δ h w) (f:TR Δ n t a):∀{l:List ResultVar} {vs:List V},z0 t h l=some vs->
  ∃xs,(l.mapM (YK a.tmps)).run P0 w = .ok xs w/\gB Δ vs xs
 |[],vs,hv=>by simp[z0]at hv;subst hv;exact⟨[],by simp,.nil⟩
 | .tmp i::l,vs,hv=>by
   simp only[z0,fk]at hv;obtain⟨v,c,j,k,m⟩:=hv;cases m;obtain⟨xs,s,o⟩:=US g f k;simp only[W6]at c;cases c;have u:(YK a.tmps (.tmp i)).run P0 w = .ok (a.tmps.getD i undef) w:=rfl
   exact⟨a.tmps.getD i undef::xs,by simp_all,.cons _ _ _ _ (f.rel i) o⟩
 | .cell b ty::l,vs,hv=>by
   simp only[z0,fk]at hv;obtain⟨v,c,j,k,m⟩:=hv;cases m;obtain⟨xs,s,o⟩:=US g f k;simp only[W6]at c;obtain⟨x,r,y⟩:=NI (xv:=a.tmps.getD b undef) g (λv hv=>by cases hv;exact f.rel b) c;have d:∃ad,a.tmps.getD b undef = .pointer (some ad):=by
     cases hx:a.tmps.getD b undef with
     | pointer p=>cases p with
       |some ad=>simp_all
       |none=>simp_all[Instr.loadAt,Instr.sureAddr]
     |_=>simp_all[Instr.loadAt,Instr.sureAddr]
   obtain⟨ad,e⟩:=d;rw[e]at r;have q:(loadVar ty ad).run P0 w = .ok x w:=by simpa[Instr.loadAt,Instr.sureAddr]using r
   have u:(YK a.tmps (.cell b ty)).run P0 w = .ok x w:=by simp only[YK,e,asAddr,sG,Lg,sP,q]
   exact⟨x::xs,by simp_all,.cons _ _ _ _ y o⟩
theorem Og{Δ:Env} {h:Hp} {w:World} {t:Tm} {a:Act} (d:WR Δ h w) (e:TR Δ n t a) {fn:Func} {vs:List V} (hv:z0 t h fn.results.toList=some vs) :
  ∃x,(results fn a.tmps).run P0 w = .ok x w/\fF Δ (zy vs) x:=by
 obtain ⟨xs,f,g⟩:=US d e hv;have i:(results fn a.tmps).run P0 w = .ok (if h:xs.toArray.size=1 then xs.toArray[0] else .tuple xs.toArray) w:=by
  have h0:results fn a.tmps=(do let vs <-fn.results.mapM (YK a.tmps);pure (if h:vs.size=1 then vs[0] else .tuple vs)):=by
   unfold results;congr 1
  rw[h0,Array.mapM_eq_mapM_toList];simp only[sG,map_eq_pure_bind,f,sP,Lg]
 refine⟨_,i,?_⟩
 cases g with
 |nil=>exact .tuple _ #[] .nil
 | cons v x vs xs b hs=>
   cases hs with
   |nil=>exact b
   | cons j k vs xs c hs=>
     rw[dif_neg (by simp)];exact .tuple _ _ (.cons _ _ _ _ b (.cons _ _ _ _ c hs))
theorem VY{Δ l:Env} {h:Hp} {w w':World} {n:Nat} {fn:Func} {r:X×Tm×Hp} {b:Act} {v:V} {h':Hp} (d:xJ Δ h w n r.2.1 r.2.2 l b w') (hv:YY fn r=some (v,h')) :
  (r.1 = .normal\/r.1 = .ret)/\b.defers=[]/\∃y,(results fn b.tmps).run P0 w' = .ok y w'/\∃c z,Ending.returned y = .returned z/\vV Δ h w v h' c z w':=by
 obtain⟨x,t',f⟩:=r
 have a:(match t'.ds with
   |[]=>oB (z0 t' f fn.results.toList) λvs=>some (zy vs,f)
   |_::_=>none)=some (v,h')->b.defers=[]/\∃y,(results fn b.tmps).run P0 w' = .ok y w'/\
   ∃c z,Ending.returned y = .returned z/\vV Δ h w v h' c z w':=by
  intro e;split at e
  ·rename_i g;simp only[fk]at e;obtain⟨vs,i,e⟩:=e;cases e;obtain⟨y,m,j⟩:=Og d.world d.tmps i;have hd:=d.tmps.ds;simp only at hd;rw[g]at hd
   have k:b.defers=[]:=by cases hx:b.defers with
    |nil=>rfl
    |cons _ _=>rw[hx]at hd;cases hd
   exact⟨k,y,m,l,y,rfl,j,d.world,d.frame,d.grow⟩
  ·cases e
 cases x with
 |exit id=>cases hv
 |normal=>exact⟨.inl rfl,a hv⟩
 |ret=>exact⟨.inr rfl,a hv⟩
theorem Ti{o:Oper} {c:Go.Call} (a:o.op = .call c) (hc:c.callee = .builtin .recover) (ρ:Operand->Value) (w:World):(execOp ρ o).run P0 w = .ok .recover w:=by
 unfold execOp;rw[a];simp only[sG,resolve,hc,Lg,sP];rfl
theorem WG{c a:Code} {d:Nat} (h:VC c=some (d,a)):∃id o cl,c = .seq (.region id #[o] false) a/\o.op = .call cl/\cl.callee = .builtin .recover/\o.guard=none/\o.dst=some d:=by
 unfold VC at h;split at h
 ·rename_i id ops e;split at h
  ·rename_i o j;split at h
   ·rename_i cl f;split at h
    ·rename_i k g i b;cases h;refine⟨id,o,cl,?_,f,g,i,b⟩;congr 2
     grind
    ·cases h
   ·cases h
  ·cases h
 ·cases h
theorem ZT{C:fj} (u:vP C) (hc:rH call) {m f:Nat} {args:List V} {v:V} {h h':Hp} {Δ:Env} {w:World} {gK:Array Value} (hv:(LI C f).f call m args h=some (v,h'))
  (M:WR Δ h w) (O:gB Δ args gK.toList):(callFunc f gK).run P0 w = .ok (.enter f gK) w/\
   CallsD P0 f gK .returning w λe P w'=>P = .returning/\∃z x,e = .returned x/\vV Δ h w v h' z x w':=by
 unfold LI at hv;split at hv
 ·rename_i fn A;split at hv
  ·rename_i c N;refine⟨?_,?_⟩
   ·have T:=u.named f fn A
    simp_all[callFunc,sG,run_program,sP,wBu,PM,if_false]
   split at hv
   ·rename_i d b p;simp only[gG,fk]at hv;obtain⟨i,hd,r,B,D⟩:=hv;have g:args.length<=fn.ntmps:=Iv i;obtain⟨id,o,cl,rfl,E,F,Q,q⟩:=WG p;refine callsD_of_wpS A N λG cs s=>?_;have H:=KN u O g;have I:tP fn.ntmps o=some ⟨λt v=>t.set d v⟩:=by unfold tP;rw[q];simp only[hd]
    have R:TR Δ fn.ntmps ((C.start args).set d .nilIface) (({tmps:=gK++Array.replicate (fn.ntmps-gK.size) undef,defers:=[]}:Act).put o.dst .nilIface):=KX H I .nilIface;refine wpS_seq (wpS_region ?_);have Fl:List.range (#[o]:Array Oper).size=[0]:=rfl;rw[Fl];simp only[wpOpsS];have h0:(#[o]:Array Oper)[0]? =some o:=rfl;simp only[h0];have j:∀y,Region.wanted o y=true:=by grind[Region.wanted]
    rw[if_pos (j _),Ti E F];have k:recoverD (G::cs)=none:=by simp only[recoverD,s]
    simp only[k];show b.wpS P0 _ _ _ _;refine wpS_of_wp ?_;refine tT hc u.mixed b M R B λz S w' J=>?_;obtain⟨a,l,y,K,L⟩:=VY J D;have n:({G with mode:= .returning}:Frame)=G:=by rw[<-s]
    rcases a with a|a <;> rw[a] <;> exact⟨l,.returning,by rw[n],y,K,rfl,L⟩
   ·simp only[gG,fk]at hv;obtain⟨i,r,B,D⟩:=hv;have g:args.length<=fn.ntmps:=Iv i;refine callsD_of_wp A N ?_;refine tT hc u.mixed c M (by grind[KN]) B λz S w' J=>?_;obtain⟨a,l,y,K,L⟩:=VY J D;rcases a with a|a <;> rw[a] <;> exact⟨l,y,K,L⟩
  ·cases hv
 ·cases hv
theorem Vu{C:fj} (j:vP C) (hc:rH call) {m:Nat} {fn:Func} {tmps:Array Value} {R:Ending->World->Prop}:∀(l:List (Nat×List V)) {c:List Deferred} {Δ:Env} {h h':Hp} {w:World},
  OO C call m l h=some h'->WR Δ h w->JZ Δ l c->
  (∀a w',WR a h' w'->FR Δ a w w'->Gr h Δ h' a->∃v,(results fn tmps).run P0 w' = .ok v w'/\R (.returned v) w')->Leaves P0 fn tmps R c .returning w
 | [],_,Δ,h,h',w,hv,hW,.nil,hR=>by
   cases hv
   exact hR Δ w hW (.refl _ _) (.refl _ _)
 | (g,args)::l,_,Δ,h,h',w,hv,hW,.cons _ _ cap gK _ c ha hl,hR=>by
   simp only[OO,fk]at hv;obtain⟨⟨v,u⟩,k,n⟩:=hv;obtain⟨o,p⟩:=ZT j hc k hW ha;refine leaves_cons (by simp_all) (f:=g) (args:=gK++cap) o ?_;refine CallsD.mono p λe y w' q=>?_;obtain⟨rfl,a,x,rfl,b⟩:=q;exact Vu j hc l n b.world (hl.mono b.frame.le) λd i r s t=>hR d i r (b.frame.trans s) (b.grow.trans t)
theorem zbD{C:fj} (i:vP C) (hc:rH call) {m:Nat}:rH λf args h=>(Ez C f).f call m args h:=by
 intro f args v h h' Δ w gK hv l E;simp only at hv;unfold Ez at hv;split at hv
 ·rename_i fn n;split at hv
  ·rename_i c o;right;have a:(callFunc f gK).run P0 w = .ok (.enter f gK) w:=by
    have L:=i.named f fn n;simp only[callFunc,sG,run_program,sP,n,L,o,wBu,PM,if_false];rfl
   refine⟨a,?_⟩;simp only[orB]at hv
   cases hk:C.K f args h with
   | some u=>
     rw[hk]at hv;simp only[gG,sJ]at hv;obtain⟨⟨j,p⟩,hv⟩:=hv;cases hv;refine Calls.mono (i.known f args _ _ hk j p Δ w gK l (Qh E j)) λe w' q=>?_;obtain⟨x,rfl,M,hs⟩:=q
     exact⟨Δ,x,rfl,hs.after l M⟩
   | none=>
     rw[hk]at hv;simp only[gG,fk]at hv;obtain⟨s,r,t,d⟩:=hv;have F:args.length<=fn.ntmps:=Iv s;refine calls_of_wp_defers n o ?_;refine tT hc i.mixed c l (by grind[KN]) t λG H w' k=>?_;obtain⟨x,t',z⟩:=r
     have b:(∃g,OO C call m t'.ds z=some g/\∃vs,z0 t' g fn.results.toList=some vs/\some (zy vs,g)=some (v,h'))->
         Leaves P0 fn H.tmps (λe w'=>∃G x,e = .returned x/\vV Δ h w v h' G x w') H.defers .returning w':=by
       rintro⟨g,hd,vs,A,q⟩;cases q;refine Vu i hc _ hd k.world k.tmps.ds λB N I J O=>?_;obtain⟨y,P,D⟩:=Og I (k.tmps.mono J.le) A;exact⟨y,P,B,y,rfl,D,I,k.frame.trans J,k.grow.trans O⟩
     cases x with
     |exit id=>cases d
     |normal=>simp only[fk]at d;exact b d
     |ret=>simp only[fk]at d;exact b d
  ·rename_i o;left;simp only[fk]at hv;obtain⟨u,t,d⟩:=hv;cases d;obtain⟨x,g,Q⟩:=i.ext f fn n o Δ args _ gK w t E;exact⟨x,g,Q,l,.refl _ _,.refl _ _⟩
 ·cases hv
theorem Kb{C:fj} (a:vP C) (m:Nat):∀d,rH (j9 C m d)
 |0=>λf args v h h' Δ w gK hv=>(nomatch hv)
 |d+1=>zbD a (Kb a m d)
end
theorem Ql(c:Nat) (hc:c<256):∀(l:List UInt8) (n:Nat),Nv c l n=n+l.count (UInt8.ofNat c)
 |[],n=>by rfl
 | b ::l,n=>by
   simp only[Nv];rw[Ql c hc l,List.count_cons];have a:Nat.beq b.toNat c=(b == UInt8.ofNat c):=by
     rw[Uv];simp only[KC];constructor
     ·intro h
      have h':b.toNat=c:=yi h;rw[<-h'];simp
     ·simp_all
   rw[a];cases b == UInt8.ofNat c
   ·simp
   grind
theorem Pj(c:Nat) (hc:c<256):∀(l:List UInt8) (n:Nat),(match Rk c l n with|some i=>(i:Int)|none=>-1)=if Lib.indexByte l (UInt8.ofNat c) = -1 then -1 else Lib.indexByte l (UInt8.ofNat c)+n
 |[],n=>by rfl
 | b ::l,n=>by
   simp only[Rk];have a:Nat.beq b.toNat c=(b == UInt8.ofNat c):=by
     rw[Uv];simp only[KC];constructor
     ·intro h
      have h':b.toNat=c:=yi h;rw[<-h'];simp
     ·simp_all
   rw[a];unfold Lib.indexByte
   cases hbc:b == UInt8.ofNat c with
   |true=>simp
   | false=>
     have e:=Pj c hc l (n+1);have d:=Lib.indexByte_ge l (UInt8.ofNat c)
     grind
theorem Xb{f:Nat} {fn:Func} (g:P0.funcs[f]? =some fn) (a:(fn.name == "runtime.NumGoroutine")=false) (h:fn.body.isNone=true) (i:Extern.findNext fn=none) (j:Extern.find fn=some Extern.BytealgCount.count)
  {Δ:Env} {args:List V} {v:V} {gK:Array Value} {w:World} (hv:Ui .countByte args=some v) (k:gB Δ args gK.toList):∃x,(callFunc f gK).run P0 w = .ok (.value x) w/\fF Δ v x:=by
 unfold Ui at hv;split at hv
 ·rename_i s c _;rw[gG]at hv;obtain⟨hc,hv⟩:=hv;have b:c<256:=by rw[RP]at hc;exact hc
  cases hv;obtain⟨l⟩:=gK
  cases k with
  | cons _ x _ xs d hs=>
    cases hs with
    | cons _ y _ ys m hs=>
      cases hs;cases m;generalize hsl:s=sl at d
      cases d with
      | str sb=>
        have n:=Lib.run_countString (P:=P0) sb (Int.ofNat c) w;refine⟨.int .i64 (Lib.countByte sb.data.toList (Int.ofNat c).toNat.toUInt8),?_,?_⟩
        ·rw[run_callFunc_extern g a h i j]
         simp_all
        have e:Nv c sb.data.toList 0=Lib.countByte sb.data.toList (Int.ofNat c).toNat.toUInt8:=by
          rw[Ql c b,HP];rfl
        rw[e];exact .int _ _
 ·simp_all
 ·cases hv
theorem W7{f:Nat} {fn:Func} (g:P0.funcs[f]? =some fn) (a:(fn.name == "runtime.NumGoroutine")=false) (h:fn.body.isNone=true) (j:Extern.findNext fn=none) (k:Extern.find fn=some Extern.BytealgIndexByte.indexByte)
  {Δ:Env} {args:List V} {v:V} {gK:Array Value} {w:World} (hv:Ui .indexByte args=some v) (m:gB Δ args gK.toList):∃x,(callFunc f gK).run P0 w = .ok (.value x) w/\fF Δ v x:=by
 unfold Ui at hv;split at hv
 ·simp_all
 ·rename_i s c _;rw[gG]at hv;obtain⟨hc,hv⟩:=hv;have b:c<256:=by rw[RP]at hc;exact hc
  obtain⟨l⟩:=gK
  cases m with
  | cons _ x _ xs d hs=>
    cases hs with
    | cons _ y _ ys n hs=>
      cases hs;cases n;generalize hsl:s=sl at d
      cases d with
      | str sb=>
        have o:=Lib.run_indexByteString (P:=P0) sb (Int.ofNat c) w;refine⟨.int .i64 (Lib.indexByte sb.data.toList (Int.ofNat c).toNat.toUInt8),?_,?_⟩
        ·rw[run_callFunc_extern g a h j k]
         simp_all
        have e:=Pj c b sb.data.toList 0;have e2:(if Lib.indexByte sb.data.toList (UInt8.ofNat c) = -1 then -1 else Lib.indexByte sb.data.toList (UInt8.ofNat c)+((0:Nat):Int))=Lib.indexByte sb.data.toList (Int.ofNat c).toNat.toUInt8:=by
          show _=Lib.indexByte sb.data.toList (UInt8.ofNat c);split
          ·omega
          ·simp
        rw[e2]at e;rw[<-e];rw[hsl]at hv;split at hv
        ·rename_i i hi;cases hv;rw[hi];exact .int _ _
        ·rename_i hi;cases hv;rw[hi];exact .int _ _
 ·cases hv
def Kept(W W':World):Prop:=W'.os=W.os/\W'.output=W.output/\W.heap.size<=W'.heap.size/\∀b,b<W.heap.size->W'.heap[b]? =W.heap[b]?
theorem Kept.but{W W':World} (h:Kept W W') (a:MemPlace->Prop):W.keptBut W' a:=by
 refine⟨h.1,h.2.1,λi hi=>?_⟩;rw[h.2.2.2 i hi]
 grind
theorem FR.kept{Δ a:Env}{w w':World}(h:FR Δ a w w')(c:∀b,¬RW Δ b):Kept w w':=⟨h.os,h.output,h.size,λb d=>h.fh b d (c b)⟩
def isTrue:Option (V×Hp)->Bool
 |some (.bool true,_)=>true
 |_=>false
theorem Cp.none{Δ:Env}{w:World}(h:Cp Δ w):Cp (λ_=>none) w:=λg c a=>⟨(h g c a).1,by simp_all⟩
theorem WR.start(n:Nat) (a:P0.globals.size<=n) (w:World) (b:Cp (λ_=>none) w):WR (λ_=>none) {next:=n,tr:= .leaf} w:=
 ⟨by simp_all,by simp_all,by simp_all,by simp_all,by grind[Hp.get_eq,Tr.rT],a,b⟩
theorem known{C:fj} (j:vP C) {m d n f:Nat} (t:P0.globals.size<=n) (a:∃fn c,P0.funcs[f]? =some fn/\fn.body=some c) (hv:isTrue (j9 C m d f [] {next:=n,tr:= .leaf})=true) (W:World) (u:Cp (λ_=>none) W) :
  Calls P0 f #[] W λe W'=>e = .returned (.bool true)/\Kept W W':=by
 cases hr:j9 C m d f [] {next:=n,tr:= .leaf} with
 |none=>rw[hr]at hv;cases hv
 | some r=>
   obtain ⟨v,h'⟩:=r;rw[hr]at hv;have g:v = .bool true:=by
     unfold isTrue at hv;split at hv
     ·simp_all
     ·cases hv
   subst g;rcases Kb j m d f [] _ _ _ (λ_=>none) W #[] hr (by grind[WR.start]) .nil with⟨x,w,_⟩|⟨_,p⟩
   ·exfalso
    obtain ⟨fn,c,k,h⟩:=a;have i:=j.named f fn k;have:(callFunc f #[]).run P0 W = .ok (.enter f #[]) W:=by
      simp only[callFunc,sG,run_program,sP,k,i,h,wBu,PM,if_false];rfl
    simp_all
   ·refine Calls.mono p λe w' q=>?_
    obtain⟨y,x,rfl,o⟩:=q;have s:=o.val;cases s;exact⟨rfl,o.frame.kept λb a=>(by obtain⟨l,d,hl,_⟩:=a;cases hl)⟩
open Go.ChangeShapes Go.WideShapes in
theorem Xj {H:Type} {enc:TypeId×Value->H} {P:Program} {f:Func} {s:ChangeSpec} {apart fresh handsOn again:Bool} {W W':World} {args:Array Value} {v:Value} {ds gs:List (DataW H)}
  {before pa pv:List MemPlace} (hW:DataW.Whole enc P f.params.toList s.vars apart W args.toList ds gs before)
  (zfe:∀(b:Nat) (sp:Nat->Bool) (hd:Bool),DataW.TrodAll enc P W' b sp hd f.resultTypes.toList (v.resultList f.resultTypes.size) (s.fn H (ds++gs)).results [])
  (zcU:∀sp:Nat->Bool,(∀p∈before,sp p.block=true)->DataW.TrodAll enc P W' 0 sp true f.params.toList args.toList (s.fn H (ds++gs)).args pa)
  (zcf:∀sp:Nat->Bool,(∀p∈before,sp p.block=true)->DataW.TrodVars enc P W' sp s.vars (s.fn H (ds++gs)).vars pv)
  (hps:before=pa++pv) (hk:Kept W W')
  (hok:∀(j:Nat) (t:TypeId) (r:Value),f.resultTypes[j]? =some t->(v.resultList f.resultTypes.size)[j]? =some r->Value.okWide P W' .any 0 t r) :
  s.post enc P f apart fresh handsOn again W args v W':=by
 have EO:∀p∈before,p.block<W.heap.size:=λp hp=>hW.lt p hp;have hold:∀p∈before,(λb=>decide (b<W.heap.size)) p.block=true:=by simp_all
 refine⟨ds,gs,before,[],pa,pv,hW,zfe _ _ _,zcU _ hold,zcf _ hold,hk.but _,λ_=>?_⟩;obtain⟨_,_,_,_,_,hz,hn⟩:=hW;refine⟨hok,_,_,([]++pa)++pv,⟨[]++pa,pv,trodAll_append (zcU _ (λ_ _=>rfl)) (zfe _ _ _),zcf _ (λ_ _=>rfl),rfl,?_,?_⟩,?_⟩
 ·intro b off hp;have hp':MemPlace.cell b off∈before:=by rw[hps];simpa using hp
  have hz':=hz b off hp';have hb:=EO _ hp';have he:W'.frozen? ⟨b,off,none⟩=W.frozen? ⟨b,off,none⟩:=by
   unfold World.frozen?;have:=hk.2.2.2 b hb;simp only at this⊢;rw[this]
  simp_all
 ·simp_all
 simp_all
