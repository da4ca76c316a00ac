/- Parts. -/
import Derived.Test.YtflkbfabonggkaaGreatDoorM05
import Derived.Defers
import Derived.Recover
import Derived.Lib.Bytealg
import Derived.Laws.Externs
import Derived.ChangeSame
import Derived.RowKit3
set_option maxHeartbeats 4000000
namespace Go.Proofs.YtflkbfabonggkaaGreatDoor.Hx
structure Still (W W':World):Prop where
 os:W'.os=W.os
 tape:W'.tape=W.tape
 output:W'.output=W.output
 size:W.heap.size<=W'.heap.size
 fh:∀b,b<W.heap.size->W'.heap[b]? =W.heap[b]?
theorem FR.still{Δ a:Env}{w w':World}(h:FR Δ a w w')(c:∀b,¬RW Δ b):Still w w':=⟨h.os,h.tape,h.output,h.size,λb d=>h.fh b d (c b)⟩
theorem zff(b:Nat):¬RW (λ_=> .none) b:=λ⟨_,_,a,_⟩=>nomatch a
theorem Still.after{Δ:Env} {h:Hp} {W W':World} (hs:Still W W') (a:WR Δ h W) {v:V} {x:Value} (hv:fO (λ_=> .none) v x):zL Δ h W v h Δ x W' where
 val:=hv.mono λ_ _ (h:(none:Option D)=some _)=>by cases h
 world:=⟨a.fresh,λl d c=>EL (a.nf l d c) hs.size,λl d c=>by rw[hs.fh _ (a.nf l d c)];exact a.obj l d c,a.apart,a.IE,a.zx,a.UP.step (λb e _=>hs.fh b e) (by simp_all)⟩
 frame:=⟨Env.le_refl _,hs.size,hs.os,hs.tape,hs.output,λb e _=>hs.fh b e,by simp_all⟩
 grow:= .refl _ _
theorem RD{Δ a:Env} {v:V} {x:Value} (h:fO Δ v x) (c:v.flat=true):fO a v x:=by
 cases h with
 |bool b=>exact .bool b
 |int k n=>exact .int k n
 |str s=>exact .str s
 |nilPtr=>exact .nilPtr
 |ee=>exact .ee
 |mc=>exact .mc
 |nilFunc=>exact .nilFunc
 |nilIface=>exact .nilIface
 |_=>grind[V.flat]
theorem OZ{Δ a:Env}:∀{vs:List V} {xs:List Value},gK Δ vs xs->SW vs=true->gK a vs xs
 |[],_,.nil,_=> .nil
 | v::vs,_,.cons _ _ _ _ h hs,hf=>by
   simp only[SW,wBy,xg]at hf;exact .cons _ _ _ _ (RD h hf.1) (OZ hs hf.2)
structure xN (C:fm):Prop where
 M9:∀args,(C.start args).ds=[]
 start:∀args i,jR (C.start args) i=(args[i]?).getD .undef
 mixed:P0.follows .mixedOrders=true
 named:∀(f:Nat) (fn:Func),P0.funcs[f]? =some fn->(fn.name == "runtime.NumGoroutine")=false
 ext:∀(f:Nat) (fn:Func),P0.funcs[f]? =some fn->fn.body=none->∀(Δ:Env) (args:List V) (v:V) (gN:Array Value) (w:World),Uc (C.ext f) args=some v->gK Δ args gN.toList->
  ∃x,(callFunc f gN).run P0 w = .ok (.value x) w/\fO Δ v x
 known:∀(f:Nat) (args:List V) (v:V) (h:Hp),C.K f args h=some v->SW args=true->v.flat=true->∀(Δ:Env) (W:World) (gN:Array Value),WR Δ h W->gK (λ_=> .none) args gN.toList->
  Calls P0 f gN W λe W'=>∃x,e = .returned x/\fO (λ_=> .none) v x/\Still W W'
section
variable{n:Nat}{call:Call}
theorem Lg{j9 ws:List It} (b:∀x∈ws,x∈j9):∀(l:List It) (k:Nat),(∀x∈l,x∈j9)->∀a∈order j9 ws l k,a∈j9
 |[],k,_,a,ha=>(Ks.1 ha).1
 | w::l,k,hl,a,ha=>by
   simp only[order,I8,OC]at ha;rcases ha with h|rfl|h
   ·exact(Ks.1 h).1
   ·simp_all
   ·exact Lg b l (k+1) (by simp_all) a h
theorem OP(hc:xj call) (l:P0.follows .mixedOrders=true) {id:Nat} {ops:Array Oper} {Δ:Env} {h:Hp} {w:World} {t:Tm} {a:Act} (A:WR Δ h w) (C:TR Δ n t a)
  {r:Tm×Hp} (hp:qV (iM ops)=true) (D:(iM ops).all (EB (iM ops))=true) (E:(iM ops).all B1=true) (m:xk (iM ops) (gQ (iM ops)) (order (iM ops) (gQ (iM ops)) (gQ (iM ops)) 0) 0 0=true)
  (hv:(yk n ops.toList (gQ (iM ops)) (order (iM ops) (gQ (iM ops)) (gQ (iM ops)) 0) 0).f call t h []=some r) {Q:Exit->Act->World->Prop} (F:∀u a' w',Ce Δ h w n r.1 r.2 u a' w'->Q .normal a' w')
  (B:∀T:Tc,ug n ops.toList (iM ops) (gQ (iM ops)) call t h (order (iM ops) (gQ (iM ops)) (gQ (iM ops)) 0) 0 0 h [] r T T->∀(fuel:Nat) (c:Array Bool) (p:Act) (w':World) (j:Nat) (u:Env) (t':Tm) (a:It),0<=j->c.toList.count false<=fuel+1->
   Inv n ops t h Δ w T c j u t' p w'->a∈iM ops->cls a.o=2->c.getD a.i false=false->(∀x∈iM ops,a.b.testBit x.i=true->c.getD x.i false=true)->(gQ (iM ops))[j]?≠some a->
   wpOp P0 ops Q a.i (wpAny P0 .any ops Q fuel (c.setIfInBounds a.i true)) p w'):(Code.region id ops true).wp P0 Q a w:=by
 have k:∀x∈order (iM ops) (gQ (iM ops)) (gQ (iM ops)) 0,x∈iM ops:=by grind[Lg,qv]
 let G:Tc:=⟨λ_=>false,λ_=> .undef,λ_=> .tree .leaf [],λ_=>0,λ_=>0,λ_=>default,λ_=>h,λ_=>h⟩
 obtain ⟨T,g⟩:=trace (n:=n) (all:=ops.toList) (j9:=iM ops) (ws:=gQ (iM ops)) (call:=call) (t0:=t) (h0:=h) ur hp _ 0 0 t h [] r G k m hv (λa L s=>by simp at s)
  (by grind[IU]) (iZ _) (by omega) (NJ _)
 have v:ug n ops.toList (iM ops) (gQ (iM ops)) call t h _ 0 0 h [] r T T:=
  ⟨by simp_all,by omega,g.item,g.D0,g.more,g.chain,g.Wb,g.VP,g.last,g.pC,g.done,g.kle⟩
 refine wp_region_any l (VT (T:=T) (Δ0:=Δ) (w0:=w) (h0:=h) (t0:=t) hc hp D E 0 (by grind) k v (BZ _ _ hv) F ops.size _ a _ 0 Δ t (iZ _) ?_ ⟨by simp,λx s y=>?_,NJ _,λq x hq=>?_,C,λd=>?_,(A.heap (w':={w with drawn:=w.drawn+1}) rfl).PE g.more,
  ⟨Env.le_refl _,iZ _,rfl,rfl,rfl,by simp_all,by simp_all⟩,by simp_all,rfl,λx s H I _ _=>?_⟩)
 ·simp_all
 ·simp only[wBT,wBu]at y
  grind
 ·constructor
  ·intro J;simp only[wBT,wBu]at J
   grind
  omega
 ·refine(IU (λx _ _=>?_) _).symm;simp only[wBT,wBu]
  grind
 ·have z:x∈order (iM ops) (gQ (iM ops)) (gQ (iM ops)) 0:=by
   rcases g.done x s with K|K
   ·simp_all
   ·grind[xe]
  have:=g.Wb x z H I
  cases hd':Δ (T.pl x.i)with
  |none=>rfl
  |some e=>have:=A.fresh _ _ hd';omega
theorem zaz(hc:xj call) (c:P0.follows .mixedOrders=true) {id:Nat} {ops:Array Oper} {Δ:Env} {h:Hp} {w:World} {t:Tm} {a:Act} (o:WR Δ h w) (q:TR Δ n t a)
  {r:Tm×Hp} (hv:(MN n ops.toList).f call t h=some r) {Q:Exit->Act->World->Prop} (k:∀s a' w',Ce Δ h w n r.1 r.2 s a' w'->Q .normal a' w'):(Code.region id ops true).wp P0 Q a w:=by
 unfold MN at hv;split at hv
 ·rename_i b;simp only[xg,PL]at b
  grind[OP,W4]
 ·split at hv
  ·rename_i pr g b;simp only[xg,PO]at b;obtain⟨⟨⟨hp,l⟩,m⟩,d⟩:=b;simp only[fq,gS]at hv;obtain⟨r',hv,i,u⟩:=hv;cases u;obtain⟨x,y,da,db⟩:=pr;obtain⟨v,z,A,B,C,D,E⟩:=Sy g;obtain⟨p,F,G,H⟩:=No v;have e:∀x∈order (iM ops) (gQ (iM ops)) (gQ (iM ops)) 0,x∈iM ops:=by grind[Lg,qv]
   exact OP hc c o q hp l m d hv k λT j=>X3 hc hp l m e j ⟨F,G,H,z,A,B,C,D,E,i⟩ (BZ _ _ hv) k
  ·cases hv
def X.to:X->Exit
 | .normal=> .normal
 | .exit id=> .exit id
 | .ret=> .ret
theorem JY{r:Option (X×Tm×Hp)} {k:Tm->Hp->Option (X×Tm×Hp)} {y:X×Tm×Hp} (h:Fl r k=some y) :
  (∃t h',r=some (.normal,t,h')/\k t h' = some y)\/(r=some y/\y.1≠ .normal):=by
 unfold Fl at h
 grind
theorem VS{next:Act->World->Prop} {Q:Exit->Act->World->Prop} {x:X} (b:x≠ .normal) {a:Act} {w:World} (h:Q x.to a w):Exit.then next Q x.to a w:=by
 cases x with
 |normal=>simp_all
 |exit id=>exact h
 |ret=>exact h
theorem wO(hc:xj call) (d:P0.follows .mixedOrders=true) {m:Nat}:∀(c:Code) {Δ:Env} {h:Hp} {w:World} {t:Tm} {a:Act},WR Δ h w->TR Δ n t a->∀{r:X×Tm×Hp},
  (iE n c).f call m t h=some r->∀{Q:Exit->Act->World->Prop},(∀u a' w',Ce Δ h w n r.2.1 r.2.2 u a' w'->Q r.1.to a' w')->c.wp P0 Q a w
 | .skip,Δ,h,w,t,a,e,g,r,hv,Q,i=>by cases hv;exact wp_skip (i _ _ _ (.start g e))
 | .seq x y,Δ,h,w,t,a,e,g,r,hv,Q,i=>by
   simp only[iE]at hv;refine wp_seq ?_;rcases JY hv with⟨F,p,q,A⟩|⟨q,A⟩
   ·exact wO hc d x e g q λu a' w' j=>wO hc d y j.world j.tmps A λB C D s=>i _ _ _ (j.trans s)
   ·exact wO hc d x e g q (by grind[VS])
 | .cond c x y,Δ,h,w,t,a,e,g,r,hv,Q,i=>by
   simp only[iE,fq]at hv;obtain⟨v,p,o⟩:=hv;have z:=kY e g p;split at o
   ·rename_i b
    generalize hx:a.eval c=xv at z;cases z
    cases b with
    |true=>exact wp_cond_true hx (wO hc d x e g o i)
    |false=>exact wp_cond_false hx (wO hc d y e g o i)
   ·cases o
 | .block id c,Δ,h,w,t,a,e,g,r,hv,Q,i=>by
   simp only[iE]at hv;refine wp_block ?_
   cases z:(iE n c).f call m t h with
   |none=>rw[z]at hv;cases hv
   | some r'=>
     rw[z]at hv;refine wO hc d c e g z λu a' w' j=>?_;obtain⟨x,t',h'⟩:=r'
     cases x with
     |normal=>cases hv;exact i _ _ _ j
     |ret=>cases hv;exact i _ _ _ j
     | exit l=>
       simp only[KO]at hv;show if l=id then Q .normal a' w' else Q (.exit l) a' w'
       cases hb:Nat.beq l id with
       | true=>
         rw[hb]at hv;have:=BT hb;rw[if_pos this];cases hv
         exact i _ _ _ j
       | false=>
         rw[hb]at hv;have:l≠id:=by grind[WG]
         rw[if_neg this];cases hv
         exact i _ _ _ j
 | .loop c,Δ,h,w,t,a,e,g,r,hv,Q,i=>by
   simp only[iE]at hv;refine Gp.wp ?_
   have G:∀(k:Nat) {Δ:Env} {h:Hp} {w:World} {t:Tm} {a:Act},WR Δ h w->TR Δ n t a->F0 (λt h=>(iE n c).f call m t h) k t h=some r->
       (∀u a' w',Ce Δ h w n r.2.1 r.2.2 u a' w'->Q r.1.to a' w')->Gp c Q a w:=by
     intro k
     induction k with
     |zero=>intro Δ h w t a _ _ hv _;cases hv
     | succ k H=>
       intro Δ h w t a e g hv i;have E:Fl ((iE n c).f call m t h) (F0 (λt h=>(iE n c).f call m t h) k)=some r:=hv;refine Gp.round ?_;rcases JY E with⟨F,p,q,A⟩|⟨q,A⟩
       ·exact wO hc d c e g q λu a' w' j=>H j.world j.tmps A λB C D s=>i _ _ _ (j.trans s)
       ·exact wO hc d c e g q (by grind[VS])
   grind
 | .exit id,Δ,h,w,t,a,e,g,r,hv,Q,i=>by cases hv;exact wp_exit (i _ _ _ (.start g e))
 | .ret,Δ,h,w,t,a,e,g,r,hv,Q,i=>by cases hv;exact wp_ret (i _ _ _ (.start g e))
 | .region id ops false,Δ,h,w,t,a,e,g,r,hv,Q,i=>by
   simp only[iE,fq]at hv;obtain⟨r',p,o⟩:=hv;cases o;refine wp_region ?_;have:=O7 (Q:=Q) hc ops.toList 0 rfl e g p i
   grind[List.range_eq_range']
 | .region id ops true,Δ,h,w,t,a,e,g,r,hv,Q,i=>by
   simp only[iE,fq]at hv;obtain⟨r',p,o⟩:=hv;cases o
   exact zaz hc d e g p i
 | .rangeFunc ..,Δ,h,w,t,a,e,g,r,hv,Q,i=>by cases hv
 | .scope _,Δ,h,w,t,a,e,g,r,hv,Q,i=>by cases hv
 | .label _,Δ,h,w,t,a,e,g,r,hv,Q,i=>by cases hv
 | .goto _,Δ,h,w,t,a,e,g,r,hv,Q,i=>by cases hv
 | .refuse _,Δ,h,w,t,a,e,g,r,hv,Q,i=>by cases hv
noncomputable def Pb(t:Tr V)(i:Nat):V:=Option.rec (motive:=λ_=>V) V.undef (λv=>v) (t.get i)
theorem Xn(t:Tr V)(d i:Nat)(v:V):Pb (t.set d v) i=if d=i then v else Pb t i:=MM (.tree t []) d i v
theorem OR:∀(args:List V) (i:Nat) (t:Tr V) (j:Nat),Pb (Sb args i t) j=if i<=j/\j<i+args.length then args[j-i]?.getD .undef else Pb t j
 |[],i,t,j=>by rw[if_neg (by simp_all)];rfl
 | v ::vs,i,t,j=>by
   simp only[Sb];rw[OR vs (i+1) (t.set i v) j];by_cases a:i+1<=j/\j<i+1+vs.length
   ·grind
   ·rw[if_neg a,Xn]
    grind
theorem Uv(args:List V) (i:Nat):jR (TX args) i=(args[i]?).getD .undef:=by
 have h:=OR args 0 .leaf i;rw[show jR (TX args) i=Pb (Sb args 0 .leaf) i from rfl,h]
 simp_all[if_pos,Nat.sub_zero,if_neg,VM,Pb,Tr.tY]
theorem KD{C:fm} (a:xN C) {Δ:Env} {args:List V} {gN:Array Value} (b:gK Δ args gN.toList) {k:Nat} (hk:args.length<=k) :
  TR Δ k (C.start args) {tmps:=gN++Array.replicate (k-gN.size) undef,defers:=[]}:=by
 have c:=b.length;simp only[ZN]at c;refine⟨by simp;omega,λi=>?_,by rw[a.M9];exact .nil⟩;rw[a.start];simp only[wBT];by_cases h:i<args.length
 ·rw[Array.getElem?_append_left (by omega)];obtain⟨x,d,e⟩:=b.get i args[i] (by simp_all)
  grind
 ·rw[VM (by omega),Array.getElem?_append_right (by omega),wBu];split <;> exact .undef Δ
def Yy(tmps:Array Value):ResultVar->Sem Value
 | .tmp t=>pure (tmps.getD t undef)
 | .cell b ty=>do loadVar ty (<-asAddr (tmps.getD b undef))
theorem TB{Δ:Env} {h:Hp} {w:World} {t:Tm} {a:Act} (g:WR Δ h w) (f:TR Δ n t a):∀{l:List ResultVar} {vs:List V},Ap t h l=some vs->
  ∃xs,(l.mapM (Yy a.tmps)).run P0 w = .ok xs w/\gK Δ vs xs
 |[],vs,hv=>by simp[Ap]at hv;subst hv;exact⟨[],by simp,.nil⟩
 | .tmp i::l,vs,hv=>by
   simp only[Ap,fq]at hv;obtain⟨v,c,j,k,m⟩:=hv;cases m;obtain⟨xs,s,o⟩:=TB g f k;simp only[Wf]at c;cases c;have hp:(Yy a.tmps (.tmp i)).run P0 w = .ok (a.tmps.getD i undef) w:=rfl
   exact⟨a.tmps.getD i undef::xs,by simp_all,.cons _ _ _ _ (f.rel i) o⟩
 | .cell b ty::l,vs,hv=>by
   simp only[Ap,fq]at hv;obtain⟨v,c,j,k,m⟩:=hv;cases m;obtain⟨xs,s,o⟩:=TB g f k;simp only[Wf]at c;obtain⟨x,r,u⟩:=MB (xv:=a.tmps.getD b undef) g (λv hv=>by cases hv;exact f.rel b) c;have d:∃ad,a.tmps.getD b undef = .pointer (some ad):=by
     cases hx:a.tmps.getD b undef with
     | pointer p=>cases p with
       |some ad=>simp_all
       |none=>simp_all[Instr.loadAt,Instr.sureAddr]
     |_=>simp_all[Instr.loadAt,Instr.sureAddr]
   obtain⟨ad,e⟩:=d;rw[e]at r;have q:(loadVar ty ad).run P0 w = .ok x w:=by simpa[Instr.loadAt,Instr.sureAddr]using r
   have hp:(Yy a.tmps (.cell b ty)).run P0 w = .ok x w:=by simp only[Yy,e,asAddr,xD,LC,vT,q]
   exact⟨x::xs,by simp_all,.cons _ _ _ _ u o⟩
theorem Mz{Δ:Env} {h:Hp} {w:World} {t:Tm} {a:Act} (d:WR Δ h w) (e:TR Δ n t a) {fn:Func} {vs:List V} (hv:Ap t h fn.results.toList=some vs) :
  ∃x,(results fn a.tmps).run P0 w = .ok x w/\fO Δ (zP vs) x:=by
 obtain ⟨xs,f,g⟩:=TB d e hv;have i:(results fn a.tmps).run P0 w = .ok (if h:xs.toArray.size=1 then xs.toArray[0] else .tuple xs.toArray) w:=by
  have h0:results fn a.tmps=(do let vs <-fn.results.mapM (Yy a.tmps);pure (if h:vs.size=1 then vs[0] else .tuple vs)):=by
   unfold results;congr 1
  rw[h0,Array.mapM_eq_mapM_toList];simp only[xD,map_eq_pure_bind,f,vT,LC]
 refine⟨_,i,?_⟩
 cases g with
 |nil=>exact .tuple _ #[] .nil
 | cons v x vs xs b hs=>
   cases hs with
   |nil=>exact b
   | cons j k vs xs c hs=>
     rw[dif_neg (by simp)];exact .tuple _ _ (.cons _ _ _ _ b (.cons _ _ _ _ c hs))
theorem Vw{Δ l:Env} {h:Hp} {w w':World} {n:Nat} {fn:Func} {r:X×Tm×Hp} {a':Act} {v:V} {h':Hp} (c:Ce Δ h w n r.2.1 r.2.2 l a' w') (hv:Yd fn r=some (v,h')) :
  (r.1 = .normal\/r.1 = .ret)/\a'.defers=[]/\∃y,(results fn a'.tmps).run P0 w' = .ok y w'/\∃b z,Ending.returned y = .returned z/\zL Δ h w v h' b z w':=by
 obtain⟨x,t',e⟩:=r
 have a:(match t'.ds with
   |[]=>oB (Ap t' e fn.results.toList) λvs=>some (zP vs,e)
   |_::_=>none)=some (v,h')->a'.defers=[]/\∃y,(results fn a'.tmps).run P0 w' = .ok y w'/\
   ∃b z,Ending.returned y = .returned z/\zL Δ h w v h' b z w':=by
  intro d;split at d
  ·rename_i g;simp only[fq]at d;obtain⟨vs,i,d⟩:=d;cases d;obtain⟨y,m,j⟩:=Mz c.world c.tmps i;have f:=c.tmps.ds;simp only at f;rw[g]at f
   have k:a'.defers=[]:=by cases hx:a'.defers with
    |nil=>rfl
    |cons _ _=>rw[hx]at f;cases f
   exact⟨k,y,m,l,y,rfl,j,c.world,c.frame,c.grow⟩
  ·cases d
 cases x with
 |exit id=>cases hv
 |normal=>exact⟨.inl rfl,a hv⟩
 |ret=>exact⟨.inr rfl,a hv⟩
theorem Sv{o:Oper} {c:Go.Call} (a:o.op = .call c) (hc:c.callee = .builtin .recover) (ρ:Operand->Value) (w:World):(execOp ρ o).run P0 w = .ok .recover w:=by
 unfold execOp;rw[a];simp only[xD,resolve,hc,LC,vT];rfl
theorem WK{c a:Code} {d:Nat} (h:UO c=some (d,a)):∃id o e,c = .seq (.region id #[o] false) a/\o.op = .call e/\e.callee = .builtin .recover/\o.guard=none/\o.dst=some d:=by
 unfold UO at h;split at h
 ·rename_i id ops f;split at h
  ·rename_i o k;split at h
   ·rename_i e g;split at h
    ·rename_i d' i j b;cases h;refine⟨id,o,e,?_,g,i,j,b⟩;congr 2
     grind
    ·cases h
   ·cases h
  ·cases h
 ·cases h
theorem Zl{C:fm} (u:xN C) (hc:xj call) {m f:Nat} {args:List V} {v:V} {h h':Hp} {Δ:Env} {w:World} {gN:Array Value} (hv:(KG C f).f call m args h=some (v,h'))
  (M:WR Δ h w) (O:gK Δ args gN.toList):(callFunc f gN).run P0 w = .ok (.enter f gN) w/\
   CallsD P0 f gN .returning w λe u' w'=>u' = .returning/\∃z x,e = .returned x/\zL Δ h w v h' z x w':=by
 unfold KG at hv;split at hv
 ·rename_i fn A;split at hv
  ·rename_i c N;refine⟨?_,?_⟩
   ·have S:=u.named f fn A
    simp_all[callFunc,xD,run_program,vT,wB2,QY,if_false]
   split at hv
   ·rename_i d b p;simp only[gS,fq]at hv;obtain⟨i,P,r,B,D⟩:=hv;have g:args.length<=fn.ntmps:=Kj i;obtain⟨id,o,T,rfl,E,F,Q,q⟩:=WK p;refine callsD_of_wpS A N λG cs s=>?_;have H:=KD u O g;have I:zd fn.ntmps o=some ⟨λt v=>t.set d v⟩:=by unfold zd;rw[q];simp only[P]
    have R:TR Δ fn.ntmps ((C.start args).set d .nilIface) (({tmps:=gN++Array.replicate (fn.ntmps-gN.size) undef,defers:=[]}:Act).put o.dst .nilIface):=K4 H I .nilIface;refine wpS_seq (wpS_region ?_);have Nq:List.range (#[o]:Array Oper).size=[0]:=rfl;rw[Nq];simp only[wpOpsS];have h0:(#[o]:Array Oper)[0]? =some o:=rfl;simp only[h0];have j:∀y,Region.wanted o y=true:=by grind[Region.wanted]
    rw[if_pos (j _),Sv E F];have k:recoverD (G::cs)=none:=by simp only[recoverD,s]
    simp only[k];show b.wpS P0 _ _ _ _;refine wpS_of_wp ?_;refine wO hc u.mixed b M R B λz a' w' J=>?_;obtain⟨a,l,y,K,L⟩:=Vw J D;have n:({G with mode:= .returning}:Frame)=G:=by rw[<-s]
    rcases a with a|a <;> rw[a] <;> exact⟨l,.returning,by rw[n],y,K,rfl,L⟩
   ·simp only[gS,fq]at hv;obtain⟨i,r,B,D⟩:=hv;have g:args.length<=fn.ntmps:=Kj i;refine callsD_of_wp A N ?_;refine wO hc u.mixed c M (by grind[KD]) B λz a' w' J=>?_;obtain⟨a,l,y,K,L⟩:=Vw J D;rcases a with a|a <;> rw[a] <;> exact⟨l,y,K,L⟩
  ·cases hv
 ·cases hv
theorem UZ{C:fm} (j:xN C) (hc:xj call) {m:Nat} {fn:Func} {tmps:Array Value} {R:Ending->World->Prop}:∀(l:List (Nat×List V)) {c:List Deferred} {Δ:Env} {h h':Hp} {w:World},
  Of C call m l h=some h'->WR Δ h w->J8 Δ l c->
  (∀a w',WR a h' w'->FR Δ a w w'->Gr h Δ h' a->∃v,(results fn tmps).run P0 w' = .ok v w'/\R (.returned v) w')->Leaves P0 fn tmps R c .returning w
 | [],_,Δ,h,h',w,hv,hW,.nil,hR=>by
   cases hv
   exact hR Δ w hW (.refl _ _) (.refl _ _)
 | (g,args)::l,_,Δ,h,h',w,hv,hW,.cons _ _ cap gN _ c ha hl,hR=>by
   simp only[Of,fq]at hv;obtain⟨⟨v,u⟩,k,n⟩:=hv;obtain⟨o,p⟩:=Zl j hc k hW ha;refine leaves_cons (by simp_all) (f:=g) (args:=gN++cap) o ?_;refine CallsD.mono p λe u' w' q=>?_;obtain⟨rfl,a,x,rfl,b⟩:=q;exact UZ j hc l n b.world (hl.mono b.frame.le) λd i r s t=>hR d i r (b.frame.trans s) (b.grow.trans t)
theorem zao{C:fm} (i:xN C) (hc:xj call) {m:Nat}:xj λf args h=>(Fg C f).f call m args h:=by
 intro f args v h h' Δ w gN hv l E;simp only at hv;unfold Fg at hv;split at hv
 ·rename_i fn n;split at hv
  ·rename_i c o;right;have a:(callFunc f gN).run P0 w = .ok (.enter f gN) w:=by
    have J:=i.named f fn n;simp only[callFunc,xD,run_program,vT,n,J,o,wB2,QY,if_false];rfl
   refine⟨a,?_⟩;simp only[ZW]at hv
   cases hk:C.K f args h with
   | some u=>
     rw[hk]at hv;simp only[gS,xg]at hv;obtain⟨⟨j,p⟩,hv⟩:=hv;cases hv;refine Calls.mono (i.known f args _ _ hk j p Δ w gN l (OZ E j)) λe w' q=>?_;obtain⟨x,rfl,L,hs⟩:=q
     exact⟨Δ,x,rfl,hs.after l L⟩
   | none=>
     rw[hk]at hv;simp only[gS,fq]at hv;obtain⟨s,r,t,d⟩:=hv;have F:args.length<=fn.ntmps:=Kj s;refine calls_of_wp_defers n o ?_;refine wO hc i.mixed c l (by grind[KD]) t λG a' w' k=>?_;obtain⟨x,t',z⟩:=r
     have b:(∃g,Of C call m t'.ds z=some g/\∃vs,Ap t' g fn.results.toList=some vs/\some (zP vs,g)=some (v,h'))->
         Leaves P0 fn a'.tmps (λe w'=>∃G x,e = .returned x/\zL Δ h w v h' G x w') a'.defers .returning w':=by
       rintro⟨g,M,vs,A,q⟩;cases q;refine UZ i hc _ M k.world k.tmps.ds λB N H I O=>?_;obtain⟨y,P,D⟩:=Mz H (k.tmps.mono I.le) A;exact⟨y,P,B,y,rfl,D,H,k.frame.trans I,k.grow.trans O⟩
     cases x with
     |exit id=>cases d
     |normal=>simp only[fq]at d;exact b d
     |ret=>simp only[fq]at d;exact b d
  ·rename_i o;left;simp only[fq]at hv;obtain⟨u,t,d⟩:=hv;cases d;obtain⟨x,g,Q⟩:=i.ext f fn n o Δ args _ gN w t E;exact⟨x,g,Q,l,.refl _ _,.refl _ _⟩
 ·cases hv
theorem JN{C:fm} (a:xN C) (m:Nat):∀d,xj (kE C m d)
 |0=>λf args v h h' Δ w gN hv=>(nomatch hv)
 |d+1=>zao a (JN a m d)
end
theorem O0(c:Nat) (hc:c<256):∀(l:List UInt8) (n:Nat),Nt c l n=n+l.count (UInt8.ofNat c)
 |[],n=>by rfl
 | b ::l,n=>by
   simp only[Nt];rw[O0 c hc l,List.count_cons];have a:Nat.beq b.toNat c=(b == UInt8.ofNat c):=by
     rw[Tf];simp only[HR];constructor
     ·intro h
      have h':b.toNat=c:=BT h;rw[<-h'];simp
     ·simp_all
   rw[a];cases b == UInt8.ofNat c
   ·simp
   grind
theorem OJ(c:Nat) (hc:c<256):∀(l:List UInt8) (n:Nat),(match Pz c l n with|some i=>(i:Int)|none=>-1)=if Lib.indexByte l (UInt8.ofNat c) = -1 then -1 else Lib.indexByte l (UInt8.ofNat c)+n
 |[],n=>by rfl
 | b ::l,n=>by
   simp only[Pz];have a:Nat.beq b.toNat c=(b == UInt8.ofNat c):=by
     rw[Tf];simp only[HR];constructor
     ·intro h
      have h':b.toNat=c:=BT h;rw[<-h'];simp
     ·simp_all
   rw[a];unfold Lib.indexByte
   cases hbc:b == UInt8.ofNat c with
   |true=>simp
   | false=>
     have e:=OJ c hc l (n+1);have d:=Lib.indexByte_ge l (UInt8.ofNat c)
     grind
theorem Wg{f:Nat} {fn:Func} (g:P0.funcs[f]? =some fn) (a:(fn.name == "runtime.NumGoroutine")=false) (h:fn.body.isNone=true) (i:Extern.findNext fn=none) (j:Extern.find fn=some Extern.BytealgCount.count)
  {Δ:Env} {args:List V} {v:V} {gN:Array Value} {w:World} (hv:Uc .countByte args=some v) (k:gK Δ args gN.toList):∃x,(callFunc f gN).run P0 w = .ok (.value x) w/\fO Δ v x:=by
 unfold Uc at hv;split at hv
 ·rename_i s c _;rw[gS]at hv;obtain⟨hc,hv⟩:=hv;have b:c<256:=by rw[Qu]at hc;exact hc
  cases hv;obtain⟨l⟩:=gN
  cases k with
  | cons _ x _ xs d hs=>
    cases hs with
    | cons _ y _ ys m hs=>
      cases hs;cases m;generalize ng:s=sl at d
      cases d with
      | str sb=>
        have n:=Lib.run_countString (P:=P0) sb (Int.ofNat c) w;refine⟨.int .i64 (Lib.countByte sb.data.toList (Int.ofNat c).toNat.toUInt8),?_,?_⟩
        ·rw[run_callFunc_extern g a h i j]
         simp_all
        have e:Nt c sb.data.toList 0=Lib.countByte sb.data.toList (Int.ofNat c).toNat.toUInt8:=by
          rw[O0 c b,zj];rfl
        rw[e];exact .int _ _
 ·simp_all
 ·cases hv
theorem WJ{f:Nat} {fn:Func} (g:P0.funcs[f]? =some fn) (a:(fn.name == "runtime.NumGoroutine")=false) (h:fn.body.isNone=true) (j:Extern.findNext fn=none) (k:Extern.find fn=some Extern.BytealgIndexByte.indexByte)
  {Δ:Env} {args:List V} {v:V} {gN:Array Value} {w:World} (hv:Uc .indexByte args=some v) (m:gK Δ args gN.toList):∃x,(callFunc f gN).run P0 w = .ok (.value x) w/\fO Δ v x:=by
 unfold Uc at hv;split at hv
 ·simp_all
 ·rename_i s c _;rw[gS]at hv;obtain⟨hc,hv⟩:=hv;have b:c<256:=by rw[Qu]at hc;exact hc
  obtain⟨l⟩:=gN
  cases m with
  | cons _ x _ xs d hs=>
    cases hs with
    | cons _ y _ ys n hs=>
      cases hs;cases n;generalize ng:s=sl at d
      cases d with
      | str sb=>
        have p:=Lib.run_indexByteString (P:=P0) sb (Int.ofNat c) w;refine⟨.int .i64 (Lib.indexByte sb.data.toList (Int.ofNat c).toNat.toUInt8),?_,?_⟩
        ·rw[run_callFunc_extern g a h j k]
         simp_all
        have e:=OJ c b sb.data.toList 0;have o:(if Lib.indexByte sb.data.toList (UInt8.ofNat c) = -1 then -1 else Lib.indexByte sb.data.toList (UInt8.ofNat c)+((0:Nat):Int))=Lib.indexByte sb.data.toList (Int.ofNat c).toNat.toUInt8:=by
          show _=Lib.indexByte sb.data.toList (UInt8.ofNat c);split
          ·omega
          ·simp
        rw[o]at e;rw[<-e];rw[ng]at hv;split at hv
        ·rename_i i hi;cases hv;rw[hi];exact .int _ _
        ·rename_i hi;cases hv;rw[hi];exact .int _ _
 ·cases hv
def Kept(W W':World):Prop:=W'.os=W.os/\W'.output=W.output/\W.heap.size<=W'.heap.size/\∀b,b<W.heap.size->W'.heap[b]? =W.heap[b]?
theorem Kept.Fe{W W':World} (h:Kept W W') (a:MemPlace->Prop):W.keptBut W' a:=by
 refine⟨h.1,h.2.1,λi hi=>?_⟩;rw[h.2.2.2 i hi]
 grind
theorem FR.kept{Δ a:Env}{w w':World}(h:FR Δ a w w')(c:∀b,¬RW Δ b):Kept w w':=⟨h.os,h.output,h.size,λb d=>h.fh b d (c b)⟩
def isTrue:Option (V×Hp)->Bool
 |some (.bool true,_)=>true
 |_=>false
theorem Dl.none{Δ:Env}{w:World}(h:Dl Δ w):Dl (λ_=>none) w:=λg c a=>⟨(h g c a).1,by simp_all⟩
theorem WR.start(n:Nat) (a:P0.globals.size<=n) (w:World) (b:Dl (λ_=>none) w):WR (λ_=>none) {next:=n,tr:= .leaf} w:=
 ⟨by simp_all,by simp_all,by simp_all,by simp_all,by grind[Hp.get_eq,Tr.tY],a,b⟩
theorem known{C:fm} (j:xN C) {m d n f:Nat} (u:P0.globals.size<=n) (a:∃fn c,P0.funcs[f]? =some fn/\fn.body=some c) (hv:isTrue (kE C m d f [] {next:=n,tr:= .leaf})=true) (W:World) (w:Dl (λ_=>none) W) :
  Calls P0 f #[] W λe W'=>e = .returned (.bool true)/\Kept W W':=by
 cases hr:kE C m d f [] {next:=n,tr:= .leaf} with
 |none=>rw[hr]at hv;cases hv
 | some r=>
   obtain ⟨v,h'⟩:=r;rw[hr]at hv;have g:v = .bool true:=by
     unfold isTrue at hv;split at hv
     ·simp_all
     ·cases hv
   subst g;rcases JN j m d f [] _ _ _ (λ_=>none) W #[] hr (by grind[WR.start]) .nil with⟨x,y,_⟩|⟨_,p⟩
   ·exfalso
    obtain ⟨fn,c,k,h⟩:=a;have i:=j.named f fn k;have:(callFunc f #[]).run P0 W = .ok (.enter f #[]) W:=by
      simp only[callFunc,xD,run_program,vT,k,i,h,wB2,QY,if_false];rfl
    simp_all
   ·refine Calls.mono p λe w' q=>?_
    obtain⟨z,x,rfl,o⟩:=q;have s:=o.val;cases s;exact⟨rfl,o.frame.kept λb a=>(by obtain⟨l,d,t,_⟩:=a;cases t)⟩
open Go.ChangeShapes Go.WideShapes in
theorem Xo {H:Type} {enc:TypeId×Value->H} {P:Program} {f:Func} {s:ChangeSpec} {apart fresh handsOn again:Bool} {W W':World} {args:Array Value} {v:Value} {ds gs:List (DataW H)}
  {before pa pv:List MemPlace} (hW:DataW.Whole enc P f.params.toList s.vars apart W args.toList ds gs before)
  (zdY:∀(b:Nat) (sp:Nat->Bool) (hd:Bool),DataW.TrodAll enc P W' b sp hd f.resultTypes.toList (v.resultList f.resultTypes.size) (s.fn H (ds++gs)).results [])
  (zbO:∀sp:Nat->Bool,(∀p∈before,sp p.block=true)->DataW.TrodAll enc P W' 0 sp true f.params.toList args.toList (s.fn H (ds++gs)).args pa)
  (zbv:∀sp:Nat->Bool,(∀p∈before,sp p.block=true)->DataW.TrodVars enc P W' sp s.vars (s.fn H (ds++gs)).vars pv)
  (hps:before=pa++pv) (hk:Kept W W')
  (hok:∀(j:Nat) (t:TypeId) (r:Value),f.resultTypes[j]? =some t->(v.resultList f.resultTypes.size)[j]? =some r->Value.okWide P W' .any 0 t r) :
  s.post enc P f apart fresh handsOn again W args v W':=by
 have Ob:∀p∈before,p.block<W.heap.size:=λp hp=>hW.lt p hp;have hold:∀p∈before,(λb=>decide (b<W.heap.size)) p.block=true:=by simp_all
 refine⟨ds,gs,before,[],pa,pv,hW,zdY _ _ _,zbO _ hold,zbv _ hold,hk.Fe _,λ_=>?_⟩;obtain⟨_,_,_,_,_,hz,hn⟩:=hW;refine⟨hok,_,_,([]++pa)++pv,⟨[]++pa,pv,trodAll_append (zbO _ (λ_ _=>rfl)) (zdY _ _ _),zbv _ (λ_ _=>rfl),rfl,?_,?_⟩,?_⟩
 ·intro b off hp;have hp':MemPlace.cell b off∈before:=by rw[hps];simpa using hp
  have hz':=hz b off hp';have hb:=Ob _ hp';have he:W'.frozen? ⟨b,off,none⟩=W.frozen? ⟨b,off,none⟩:=by
   unfold World.frozen?;have:=hk.2.2.2 b hb;simp only at this⊢;rw[this]
  simp_all
 ·simp_all
 simp_all
