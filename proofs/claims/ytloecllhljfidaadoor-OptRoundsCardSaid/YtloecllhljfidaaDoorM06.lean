/- Parts. -/
import Derived.Test.YtloecllhljfidaaDoorM05
import Derived.Defers
import Derived.Recover
import Derived.Lib.Bytealg
import Derived.Laws.Externs
import Derived.ChangeSame
import Derived.RowKit3
set_option maxHeartbeats 4000000
namespace Go.Proofs.YtloecllhljfidaaDoor.Hx
structure Still (W W':World):Prop where
 os:W'.os=W.os
 tape:W'.tape=W.tape
 output:W'.output=W.output
 size:W.heap.size<=W'.heap.size
 fe:∀b,b<W.heap.size->W'.heap[b]? =W.heap[b]?
theorem FR.still{Δ a:Env}{w w':World}(h:FR Δ a w w')(c:∀b,¬RW Δ b):Still w w':=⟨h.os,h.tape,h.output,h.size,λb hb=>h.fe b hb (c b)⟩
theorem zde(b:Nat):¬RW (λ_=> .none) b:=λ⟨_,_,a,_⟩=>nomatch a
theorem Still.after{Δ:Env} {h:Hp} {W W':World} (hs:Still W W') (a:WR Δ h W) {v:V} {x:Value} (hv:fG (λ_=> .none) v x):xD Δ h W v h Δ x W' where
 val:=hv.mono λ_ _ (h:(none:Option D)=some _)=>by cases h
 world:=⟨a.fresh,λl d c=>BF (a.vf l d c) hs.size,λl d c=>by rw[hs.fe _ (a.vf l d c)];exact a.obj l d c,a.apart,a.GI,a.xd,a.Tz.step (λb hb _=>hs.fe b hb) (by simp_all)⟩
 frame:=⟨Env.le_refl _,hs.size,hs.os,hs.tape,hs.output,λb hb _=>hs.fe b hb,by simp_all⟩
 grow:= .refl _ _
theorem Qm{Δ a:Env} {v:V} {x:Value} (h:fG Δ v x) (c:v.flat=true):fG a v x:=by
 cases h with
 |bool b=>exact .bool b
 |int k n=>exact .int k n
 |str s=>exact .str s
 |nilPtr=>exact .nilPtr
 |ee=>exact .ee
 |ku=>exact .ku
 |nilFunc=>exact .nilFunc
 |nilIface=>exact .nilIface
 |_=>grind[V.flat]
theorem Na{Δ a:Env}:∀{vs:List V} {xs:List Value},gj Δ vs xs->PI vs=true->gj a vs xs
 |[],_,.nil,_=> .nil
 | v::vs,_,.cons _ _ _ _ h hs,hf=>by
   simp only[PI,Y9,uF]at hf;exact .cons _ _ _ _ (Qm h hf.1) (Na hs hf.2)
structure uY (C:fm):Prop where
 L5:∀args,(C.start args).ds=[]
 start:∀args i,jw (C.start args) i=(args[i]?).getD .undef
 mixed:P0.follows .mixedOrders=true
 named:∀(f:Nat) (fn:Func),P0.funcs[f]? =some fn->(fn.name == "runtime.NumGoroutine")=false
 ext:∀(f:Nat) (fn:Func),P0.funcs[f]? =some fn->fn.body=none->∀(Δ:Env) (args:List V) (v:V) (gB:Array Value) (w:World),SE (C.ext f) args=some v->gj Δ args gB.toList->
  ∃x,(callFunc f gB).run P0 w = .ok (.value x) w/\fG Δ v x
 known:∀(f:Nat) (args:List V) (v:V) (h:Hp),C.K f args h=some v->PI args=true->v.flat=true->∀(Δ:Env) (W:World) (gB:Array Value),WR Δ h W->gj (λ_=> .none) args gB.toList->
  Calls P0 f gB W λe W'=>∃x,e = .returned x/\fG (λ_=> .none) v x/\Still W W'
section
variable{n:Nat}{call:Call}
theorem IE{jM ws:List It} (b:∀x∈ws,x∈jM):∀(l:List It) (k:Nat),(∀x∈l,x∈jM)->∀a∈order jM ws l k,a∈jM
 |[],k,_,a,ha=>(HS.1 ha).1
 | w::l,k,hl,a,ha=>by
   simp only[order,Bm,FZ]at ha;rcases ha with h|rfl|h
   ·exact(HS.1 h).1
   ·simp_all
   ·exact IE b l (k+1) (by simp_all) a h
theorem MQ(hc:uq call) (l:P0.follows .mixedOrders=true) {id:Nat} {ops:Array Oper} {Δ:Env} {h:Hp} {w:World} {t:Tm} {a:Act} (z:WR Δ h w) (C:TR Δ n t a)
  {r:Tm×Hp} (A:qc (iA ops)=true) (D:(iA ops).all (BL (iA ops))=true) (E:(iA ops).all zr=true) (m:ua (iA ops) (gK (iA ops)) (order (iA ops) (gK (iA ops)) (gK (iA ops)) 0) 0 0=true)
  (hv:(vF n ops.toList (gK (iA ops)) (order (iA ops) (gK (iA ops)) (gK (iA ops)) 0) 0).f call t h []=some r) {Q:Exit->Act->World->Prop} (F:∀s a' w',zR Δ h w n r.1 r.2 s a' w'->Q .normal a' w')
  (B:∀T:Tc,rD n ops.toList (iA ops) (gK (iA ops)) call t h (order (iA ops) (gK (iA ops)) (gK (iA ops)) 0) 0 0 h [] r T T->∀(fuel:Nat) (c:Array Bool) (p:Act) (w':World) (j:Nat) (s:Env) (t':Tm) (a:It),0<=j->c.toList.count false<=fuel+1->
   Inv n ops t h Δ w T c j s t' p w'->a∈iA ops->cls a.o=2->c.getD a.i false=false->(∀x∈iA ops,a.b.testBit x.i=true->c.getD x.i false=true)->(gK (iA ops))[j]?≠some a->
   wpOp P0 ops Q a.i (wpAny P0 .any ops Q fuel (c.setIfInBounds a.i true)) p w'):(Code.region id ops true).wp P0 Q a w:=by
 have k:∀x∈order (iA ops) (gK (iA ops)) (gK (iA ops)) 0,x∈iA ops:=by grind[IE,pK]
 let G:Tc:=⟨λ_=>false,λ_=> .undef,λ_=> .tree .leaf [],λ_=>0,λ_=>0,λ_=>default,λ_=>h,λ_=>h⟩
 obtain ⟨T,g⟩:=trace (n:=n) (all:=ops.toList) (jM:=iA ops) (ws:=gK (iA ops)) (call:=call) (t0:=t) (h0:=h) rO A _ 0 0 t h [] r G k m hv (λa L hx=>by simp at hx)
  (by grind[FD]) (jb _) (by omega) (Jw _)
 have u:rD n ops.toList (iA ops) (gK (iA ops)) call t h _ 0 0 h [] r T T:=
  ⟨by simp_all,by omega,g.item,g.Bx,g.more,g.chain,g.Vc,g.Tj,g.last,g.oi,g.done,g.kle⟩
 refine wp_region_any l (TQ (T:=T) (Δ0:=Δ) (w0:=w) (h0:=h) (t0:=t) hc A D E 0 (by grind) k u (zD _ _ hv) F ops.size _ a _ 0 Δ t (jb _) ?_ ⟨by simp,λx hx v=>?_,Jw _,λq x hq=>?_,C,λd=>?_,(z.heap (w':={w with drawn:=w.drawn+1}) rfl).OU g.more,
  ⟨Env.le_refl _,jb _,rfl,rfl,rfl,by simp_all,by simp_all⟩,by simp_all,rfl,λx hx H I _ _=>?_⟩)
 ·simp_all
 ·simp only[wBS,wBz]at v
  grind
 ·constructor
  ·intro J;simp only[wBS,wBz]at J
   grind
  omega
 ·refine(FD (λx _ _=>?_) _).symm;simp only[wBS,wBz]
  grind
 ·have y:x∈order (iA ops) (gK (iA ops)) (gK (iA ops)) 0:=by
   rcases g.done x hx with K|K
   ·simp_all
   ·grind[ui]
  have:=g.Vc x y H I
  cases hd':Δ (T.pl x.i)with
  |none=>rfl
  |some e=>have:=z.fresh _ _ hd';omega
theorem YE(hc:uq call) (c:P0.follows .mixedOrders=true) {id:Nat} {ops:Array Oper} {Δ:Env} {h:Hp} {w:World} {t:Tm} {a:Act} (q:WR Δ h w) (s:TR Δ n t a)
  {r:Tm×Hp} (hv:(Ky n ops.toList).f call t h=some r) {Q:Exit->Act->World->Prop} (k:∀u a' w',zR Δ h w n r.1 r.2 u a' w'->Q .normal a' w'):(Code.region id ops true).wp P0 Q a w:=by
 unfold Ky at hv;split at hv
 ·rename_i b;simp only[uF,OI]at b
  grind[MQ,VB]
 ·split at hv
  ·rename_i pr g b;simp only[uF,OD]at b;obtain⟨⟨⟨l,m⟩,o⟩,d⟩:=b;simp only[fj,gP]at hv;obtain⟨r',hv,i,v⟩:=hv;cases v;obtain⟨x,y,da,db⟩:=pr;obtain⟨z,A,B,C,D,E,F⟩:=PD g;obtain⟨p,G,H,I⟩:=KV z;have e:∀x∈order (iA ops) (gK (iA ops)) (gK (iA ops)) 0,x∈iA ops:=by grind[IE,pK]
   exact MQ hc c q s l m o d hv k λT j=>WO hc l m o e j ⟨G,H,I,A,B,C,D,E,F,i⟩ (zD _ _ hv) k
  ·cases hv
def X.to:X->Exit
 | .normal=> .normal
 | .exit id=> .exit id
 | .ret=> .ret
theorem GY{r:Option (X×Tm×Hp)} {k:Tm->Hp->Option (X×Tm×Hp)} {y:X×Tm×Hp} (h:Cz r k=some y) :
  (∃t h',r=some (.normal,t,h')/\k t h' = some y)\/(r=some y/\y.1≠ .normal):=by
 unfold Cz at h
 grind
theorem Um{next:Act->World->Prop} {Q:Exit->Act->World->Prop} {x:X} (hx:x≠ .normal) {a:Act} {w:World} (h:Q x.to a w):Exit.then next Q x.to a w:=by
 cases x with
 |normal=>simp_all
 |exit id=>exact h
 |ret=>exact h
theorem tN(hc:uq call) (d:P0.follows .mixedOrders=true) {m:Nat}:∀(c:Code) {Δ:Env} {h:Hp} {w:World} {t:Tm} {a:Act},WR Δ h w->TR Δ n t a->∀{r:X×Tm×Hp},
  (hY n c).f call m t h=some r->∀{Q:Exit->Act->World->Prop},(∀u a' w',zR Δ h w n r.2.1 r.2.2 u a' w'->Q r.1.to a' w')->c.wp P0 Q a w
 | .skip,Δ,h,w,t,a,e,g,r,hv,Q,i=>by cases hv;exact wp_skip (i _ _ _ (.start g e))
 | .seq x y,Δ,h,w,t,a,e,g,r,hv,Q,i=>by
   simp only[hY]at hv;refine wp_seq ?_;rcases GY hv with⟨F,p,q,A⟩|⟨q,A⟩
   ·exact tN hc d x e g q λu a' w' j=>tN hc d y j.world j.tmps A λB C D s=>i _ _ _ (j.trans s)
   ·exact tN hc d x e g q (by grind[Um])
 | .cond c x y,Δ,h,w,t,a,e,g,r,hv,Q,i=>by
   simp only[hY,fj]at hv;obtain⟨v,p,o⟩:=hv;have z:=kE e g p;split at o
   ·rename_i b
    generalize hx:a.eval c=xv at z;cases z
    cases b with
    |true=>exact wp_cond_true hx (tN hc d x e g o i)
    |false=>exact wp_cond_false hx (tN hc d y e g o i)
   ·cases o
 | .block id c,Δ,h,w,t,a,e,g,r,hv,Q,i=>by
   simp only[hY]at hv;refine wp_block ?_
   cases z:(hY n c).f call m t h with
   |none=>rw[z]at hv;cases hv
   | some r'=>
     rw[z]at hv;refine tN hc d c e g z λu a' w' j=>?_;obtain⟨x,t',h'⟩:=r'
     cases x with
     |normal=>cases hv;exact i _ _ _ j
     |ret=>cases hv;exact i _ _ _ j
     | exit l=>
       simp only[Iz]at hv;show if l=id then Q .normal a' w' else Q (.exit l) a' w'
       cases hb:Nat.beq l id with
       | true=>
         rw[hb]at hv;have:=zB hb;rw[if_pos this];cases hv
         exact i _ _ _ j
       | false=>
         rw[hb]at hv;have:l≠id:=by grind[Yd]
         rw[if_neg this];cases hv
         exact i _ _ _ j
 | .loop c,Δ,h,w,t,a,e,g,r,hv,Q,i=>by
   simp only[hY]at hv;refine CU.wp ?_
   have G:∀(k:Nat) {Δ:Env} {h:Hp} {w:World} {t:Tm} {a:Act},WR Δ h w->TR Δ n t a->DO (λt h=>(hY n c).f call m t h) k t h=some r->
       (∀u a' w',zR Δ h w n r.2.1 r.2.2 u a' w'->Q r.1.to a' w')->CU c Q a w:=by
     intro k
     induction k with
     |zero=>intro Δ h w t a _ _ hv _;cases hv
     | succ k H=>
       intro Δ h w t a e g hv i;have E:Cz ((hY n c).f call m t h) (DO (λt h=>(hY n c).f call m t h) k)=some r:=hv;refine CU.round ?_;rcases GY E with⟨F,p,q,A⟩|⟨q,A⟩
       ·exact tN hc d c e g q λu a' w' j=>H j.world j.tmps A λB C D s=>i _ _ _ (j.trans s)
       ·exact tN hc d c e g q (by grind[Um])
   grind
 | .exit id,Δ,h,w,t,a,e,g,r,hv,Q,i=>by cases hv;exact wp_exit (i _ _ _ (.start g e))
 | .ret,Δ,h,w,t,a,e,g,r,hv,Q,i=>by cases hv;exact wp_ret (i _ _ _ (.start g e))
 | .region id ops false,Δ,h,w,t,a,e,g,r,hv,Q,i=>by
   simp only[hY,fj]at hv;obtain⟨r',p,o⟩:=hv;cases o;refine wp_region ?_;have:=M9 (Q:=Q) hc ops.toList 0 rfl e g p i
   grind[List.range_eq_range']
 | .region id ops true,Δ,h,w,t,a,e,g,r,hv,Q,i=>by
   simp only[hY,fj]at hv;obtain⟨r',p,o⟩:=hv;cases o
   exact YE hc d e g p i
 | .rangeFunc ..,Δ,h,w,t,a,e,g,r,hv,Q,i=>by cases hv
 | .scope _,Δ,h,w,t,a,e,g,r,hv,Q,i=>by cases hv
 | .label _,Δ,h,w,t,a,e,g,r,hv,Q,i=>by cases hv
 | .goto _,Δ,h,w,t,a,e,g,r,hv,Q,i=>by cases hv
 | .refuse _,Δ,h,w,t,a,e,g,r,hv,Q,i=>by cases hv
noncomputable def M3(t:Tr V)(i:Nat):V:=Option.rec (motive:=λ_=>V) V.undef (λv=>v) (t.get i)
theorem UP(t:Tr V)(d i:Nat)(v:V):M3 (t.set d v) i=if d=i then v else M3 t i:=LI (.tree t []) d i v
theorem MO:∀(args:List V) (i:Nat) (t:Tr V) (j:Nat),M3 (Qo args i t) j=if i<=j/\j<i+args.length then args[j-i]?.getD .undef else M3 t j
 |[],i,t,j=>by rw[if_neg (by simp_all)];rfl
 | v ::vs,i,t,j=>by
   simp only[Qo];rw[MO vs (i+1) (t.set i v) j];by_cases a:i+1<=j/\j<i+1+vs.length
   ·grind
   ·rw[if_neg a,UP]
    grind
theorem RJ(args:List V) (i:Nat):jw (SG args) i=(args[i]?).getD .undef:=by
 have h:=MO args 0 .leaf i;rw[show jw (SG args) i=M3 (Qo args 0 .leaf) i from rfl,h]
 simp_all[if_pos,Nat.sub_zero,if_neg,JA,M3,Tr.qP]
theorem Ip{C:fm} (a:uY C) {Δ:Env} {args:List V} {gB:Array Value} (b:gj Δ args gB.toList) {k:Nat} (hk:args.length<=k) :
  TR Δ k (C.start args) {tmps:=gB++Array.replicate (k-gB.size) undef,defers:=[]}:=by
 have c:=b.length;simp only[Yg]at c;refine⟨by simp;omega,λi=>?_,by rw[a.L5];exact .nil⟩;rw[a.start];simp only[wBS];by_cases h:i<args.length
 ·rw[Array.getElem?_append_left (by omega)];obtain⟨x,hx,d⟩:=b.get i args[i] (by simp_all)
  grind
 ·rw[JA (by omega),Array.getElem?_append_right (by omega),wBz];split <;> exact .undef Δ
def We(tmps:Array Value):ResultVar->Sem Value
 | .tmp t=>pure (tmps.getD t undef)
 | .cell b ty=>do loadVar ty (<-asAddr (tmps.getD b undef))
theorem Sv{Δ:Env} {h:Hp} {w:World} {t:Tm} {a:Act} (g:WR Δ h w) (f:TR Δ n t a):∀{l:List ResultVar} {vs:List V},yl t h l=some vs->
  ∃xs,(l.mapM (We a.tmps)).run P0 w = .ok xs w/\gj Δ vs xs
 |[],vs,hv=>by simp[yl]at hv;subst hv;exact⟨[],by simp,.nil⟩
 | .tmp i::l,vs,hv=>by
   simp only[yl,fj]at hv;obtain⟨v,c,j,k,m⟩:=hv;cases m;obtain⟨xs,s,o⟩:=Sv g f k;simp only[Uy]at c;cases c;have u:(We a.tmps (.tmp i)).run P0 w = .ok (a.tmps.getD i undef) w:=rfl
   exact⟨a.tmps.getD i undef::xs,by simp_all,.cons _ _ _ _ (f.rel i) o⟩
 | .cell b ty::l,vs,hv=>by
   simp only[yl,fj]at hv;obtain⟨v,c,j,k,m⟩:=hv;cases m;obtain⟨xs,s,o⟩:=Sv g f k;simp only[Uy]at c;obtain⟨x,r,y⟩:=KA (xv:=a.tmps.getD b undef) g (λv hv=>by cases hv;exact f.rel b) c;have d:∃ad,a.tmps.getD b undef = .pointer (some ad):=by
     cases hx:a.tmps.getD b undef with
     | pointer p=>cases p with
       |some ad=>simp_all
       |none=>simp_all[Instr.loadAt,Instr.sureAddr]
     |_=>simp_all[Instr.loadAt,Instr.sureAddr]
   obtain⟨ad,e⟩:=d;rw[e]at r;have q:(loadVar ty ad).run P0 w = .ok x w:=by simpa[Instr.loadAt,Instr.sureAddr]using r
   have u:(We a.tmps (.cell b ty)).run P0 w = .ok x w:=by simp only[We,e,asAddr,uG,Jh,tn,q]
   exact⟨x::xs,by simp_all,.cons _ _ _ _ y o⟩
theorem LZ{Δ:Env} {h:Hp} {w:World} {t:Tm} {a:Act} (d:WR Δ h w) (e:TR Δ n t a) {fn:Func} {vs:List V} (hv:yl t h fn.results.toList=some vs) :
  ∃x,(results fn a.tmps).run P0 w = .ok x w/\fG Δ (yc vs) x:=by
 obtain ⟨xs,f,g⟩:=Sv d e hv;have i:(results fn a.tmps).run P0 w = .ok (if h:xs.toArray.size=1 then xs.toArray[0] else .tuple xs.toArray) w:=by
  have h0:results fn a.tmps=(do let vs <-fn.results.mapM (We a.tmps);pure (if h:vs.size=1 then vs[0] else .tuple vs)):=by
   unfold results;congr 1
  rw[h0,Array.mapM_eq_mapM_toList];simp only[uG,map_eq_pure_bind,f,tn,Jh]
 refine⟨_,i,?_⟩
 cases g with
 |nil=>exact .tuple _ #[] .nil
 | cons v x vs xs b hs=>
   cases hs with
   |nil=>exact b
   | cons j k vs xs c hs=>
     rw[dif_neg (by simp)];exact .tuple _ _ (.cons _ _ _ _ b (.cons _ _ _ _ c hs))
theorem T5{Δ l:Env} {h:Hp} {w w':World} {n:Nat} {fn:Func} {r:X×Tm×Hp} {a':Act} {v:V} {h':Hp} (c:zR Δ h w n r.2.1 r.2.2 l a' w') (hv:Xr fn r=some (v,h')) :
  (r.1 = .normal\/r.1 = .ret)/\a'.defers=[]/\∃y,(results fn a'.tmps).run P0 w' = .ok y w'/\∃b z,Ending.returned y = .returned z/\xD Δ h w v h' b z w':=by
 obtain⟨x,t',e⟩:=r
 have a:(match t'.ds with
   |[]=>oB (yl t' e fn.results.toList) λvs=>some (yc vs,e)
   |_::_=>none)=some (v,h')->a'.defers=[]/\∃y,(results fn a'.tmps).run P0 w' = .ok y w'/\
   ∃b z,Ending.returned y = .returned z/\xD Δ h w v h' b z w':=by
  intro d;split at d
  ·rename_i g;simp only[fj]at d;obtain⟨vs,i,d⟩:=d;cases d;obtain⟨y,m,j⟩:=LZ c.world c.tmps i;have f:=c.tmps.ds;simp only at f;rw[g]at f
   have k:a'.defers=[]:=by cases hx:a'.defers with
    |nil=>rfl
    |cons _ _=>rw[hx]at f;cases f
   exact⟨k,y,m,l,y,rfl,j,c.world,c.frame,c.grow⟩
  ·cases d
 cases x with
 |exit id=>cases hv
 |normal=>exact⟨.inl rfl,a hv⟩
 |ret=>exact⟨.inr rfl,a hv⟩
theorem Qc{o:Oper} {c:Go.Call} (a:o.op = .call c) (hc:c.callee = .builtin .recover) (ρ:Operand->Value) (w:World):(execOp ρ o).run P0 w = .ok .recover w:=by
 unfold execOp;rw[a];simp only[uG,resolve,hc,Jh,tn];rfl
theorem Vd{c a:Code} {d:Nat} (h:TM c=some (d,a)):∃id o cl,c = .seq (.region id #[o] false) a/\o.op = .call cl/\cl.callee = .builtin .recover/\o.guard=none/\o.dst=some d:=by
 unfold TM at h;split at h
 ·rename_i id ops e;split at h
  ·rename_i o j;split at h
   ·rename_i cl f;split at h
    ·rename_i d' g i b;cases h;refine⟨id,o,cl,?_,f,g,i,b⟩;congr 2
     grind
    ·cases h
   ·cases h
  ·cases h
 ·cases h
theorem Wb{C:fm} (s:uY C) (hc:uq call) {m f:Nat} {args:List V} {v:V} {h h':Hp} {Δ:Env} {w:World} {gB:Array Value} (hv:(IV C f).f call m args h=some (v,h'))
  (L:WR Δ h w) (M:gj Δ args gB.toList):(callFunc f gB).run P0 w = .ok (.enter f gB) w/\
   CallsD P0 f gB .returning w λe u' w'=>u' = .returning/\∃u x,e = .returned x/\xD Δ h w v h' u x w':=by
 unfold IV at hv;split at hv
 ·rename_i fn z;split at hv
  ·rename_i c hb;refine⟨?_,?_⟩
   ·have Q:=s.named f fn z
    simp_all[callFunc,uG,run_program,tn,wB6,O8,if_false]
   split at hv
   ·rename_i d a n;simp only[gP,fj]at hv;obtain⟨g,N,r,A,B⟩:=hv;have b:args.length<=fn.ntmps:=Jz g;obtain⟨id,o,cl,rfl,D,E,O,p⟩:=Vd n;refine callsD_of_wpS z hb λF cs q=>?_;have G:=Ip s M b;have H:wT fn.ntmps o=some ⟨λt v=>t.set d v⟩:=by unfold wT;rw[p];simp only[N]
    have P:TR Δ fn.ntmps ((C.start args).set d .nilIface) (({tmps:=gB++Array.replicate (fn.ntmps-gB.size) undef,defers:=[]}:Act).put o.dst .nilIface):=HZ G H .nilIface;refine wpS_seq (wpS_region ?_);have L7:List.range (#[o]:Array Oper).size=[0]:=rfl;rw[L7];simp only[wpOpsS];have h0:(#[o]:Array Oper)[0]? =some o:=rfl;simp only[h0];have i:∀y,Region.wanted o y=true:=by grind[Region.wanted]
    rw[if_pos (i _),Qc D E];have j:recoverD (F::cs)=none:=by simp only[recoverD,q]
    simp only[j];show a.wpS P0 _ _ _ _;refine wpS_of_wp ?_;refine tN hc s.mixed a L P A λu a' w' I=>?_;obtain⟨hx,k,y,J,K⟩:=T5 I B;have l:({F with mode:= .returning}:Frame)=F:=by rw[<-q]
    rcases hx with hx|hx <;> rw[hx] <;> exact⟨k,.returning,by rw[l],y,J,rfl,K⟩
   ·simp only[gP,fj]at hv;obtain⟨g,r,A,B⟩:=hv;have b:args.length<=fn.ntmps:=Jz g;refine callsD_of_wp z hb ?_;refine tN hc s.mixed c L (by grind[Ip]) A λu a' w' I=>?_;obtain⟨hx,k,y,J,K⟩:=T5 I B;rcases hx with hx|hx <;> rw[hx] <;> exact⟨k,y,J,K⟩
  ·cases hv
 ·cases hv
theorem TV{C:fm} (j:uY C) (hc:uq call) {m:Nat} {fn:Func} {tmps:Array Value} {R:Ending->World->Prop}:∀(l:List (Nat×List V)) {c:List Deferred} {Δ:Env} {h h':Hp} {w:World},
  Mp C call m l h=some h'->WR Δ h w->Hs Δ l c->
  (∀a w',WR a h' w'->FR Δ a w w'->Gr h Δ h' a->∃v,(results fn tmps).run P0 w' = .ok v w'/\R (.returned v) w')->Leaves P0 fn tmps R c .returning w
 | [],_,Δ,h,h',w,hv,hW,.nil,hR=>by
   cases hv
   exact hR Δ w hW (.refl _ _) (.refl _ _)
 | (g,args)::l,_,Δ,h,h',w,hv,hW,.cons _ _ cap gB _ c ha hl,hR=>by
   simp only[Mp,fj]at hv;obtain⟨⟨v,u⟩,k,n⟩:=hv;obtain⟨o,p⟩:=Wb j hc k hW ha;refine leaves_cons (by simp_all) (f:=g) (args:=gB++cap) o ?_;refine CallsD.mono p λe u' w' q=>?_;obtain⟨rfl,a,x,rfl,b⟩:=q;exact TV j hc l n b.world (hl.mono b.frame.le) λd i r s t=>hR d i r (b.frame.trans s) (b.grow.trans t)
theorem YU{C:fm} (i:uY C) (hc:uq call) {m:Nat}:uq λf args h=>(BW C f).f call m args h:=by
 intro f args v h h' Δ w gB hv l D;simp only at hv;unfold BW at hv;split at hv
 ·rename_i fn n;split at hv
  ·rename_i c hb;right;have a:(callFunc f gB).run P0 w = .ok (.enter f gB) w:=by
    have I:=i.named f fn n;simp only[callFunc,uG,run_program,tn,n,I,hb,wB6,O8,if_false];rfl
   refine⟨a,?_⟩;simp only[Yf]at hv
   cases hk:C.K f args h with
   | some u=>
     rw[hk]at hv;simp only[gP,uF]at hv;obtain⟨⟨j,o⟩,hv⟩:=hv;cases hv;refine Calls.mono (i.known f args _ _ hk j o Δ w gB l (Na D j)) λe w' p=>?_;obtain⟨x,rfl,hx,hs⟩:=p
     exact⟨Δ,x,rfl,hs.after l hx⟩
   | none=>
     rw[hk]at hv;simp only[gP,fj]at hv;obtain⟨q,r,s,d⟩:=hv;have E:args.length<=fn.ntmps:=Jz q;refine calls_of_wp_defers n hb ?_;refine tN hc i.mixed c l (by grind[Ip]) s λF a' w' k=>?_;obtain⟨x,t',t⟩:=r
     have b:(∃g,Mp C call m t'.ds t=some g/\∃vs,yl t' g fn.results.toList=some vs/\some (yc vs,g)=some (v,h'))->
         Leaves P0 fn a'.tmps (λe w'=>∃F x,e = .returned x/\xD Δ h w v h' F x w') a'.defers .returning w':=by
       rintro⟨g,J,vs,z,p⟩;cases p;refine TV i hc _ J k.world k.tmps.ds λA L G H M=>?_;obtain⟨y,N,B⟩:=LZ G (k.tmps.mono H.le) z;exact⟨y,N,A,y,rfl,B,G,k.frame.trans H,k.grow.trans M⟩
     cases x with
     |exit id=>cases d
     |normal=>simp only[fj]at d;exact b d
     |ret=>simp only[fj]at d;exact b d
  ·rename_i hb;left;simp only[fj]at hv;obtain⟨u,s,d⟩:=hv;cases d;obtain⟨x,g,O⟩:=i.ext f fn n hb Δ args _ gB w s D;exact⟨x,g,O,l,.refl _ _,.refl _ _⟩
 ·cases hv
theorem HR{C:fm} (a:uY C) (m:Nat):∀d,uq (jS C m d)
 |0=>λf args v h h' Δ w gB hv=>(nomatch hv)
 |d+1=>YU a (HR a m d)
end
theorem No(c:Nat) (hc:c<256):∀(l:List UInt8) (n:Nat),Kv c l n=n+l.count (UInt8.ofNat c)
 |[],n=>by rfl
 | b ::l,n=>by
   simp only[Kv];rw[No c hc l,List.count_cons];have hb:Nat.beq b.toNat c=(b == UInt8.ofNat c):=by
     rw[Th];simp only[EE];constructor
     ·intro h
      have h':b.toNat=c:=zB h;rw[<-h'];simp
     ·simp_all
   rw[hb];cases b == UInt8.ofNat c
   ·simp
   grind
theorem MM(c:Nat) (hc:c<256):∀(l:List UInt8) (n:Nat),(match OK c l n with|some i=>(i:Int)|none=>-1)=if Lib.indexByte l (UInt8.ofNat c) = -1 then -1 else Lib.indexByte l (UInt8.ofNat c)+n
 |[],n=>by rfl
 | b ::l,n=>by
   simp only[OK];have hb:Nat.beq b.toNat c=(b == UInt8.ofNat c):=by
     rw[Th];simp only[EE];constructor
     ·intro h
      have h':b.toNat=c:=zB h;rw[<-h'];simp
     ·simp_all
   rw[hb];unfold Lib.indexByte
   cases hbc:b == UInt8.ofNat c with
   |true=>simp
   | false=>
     have d:=MM c hc l (n+1);have a:=Lib.indexByte_ge l (UInt8.ofNat c)
     grind
theorem Vr{f:Nat} {fn:Func} (d:P0.funcs[f]? =some fn) (a:(fn.name == "runtime.NumGoroutine")=false) (hb:fn.body.isNone=true) (g:Extern.findNext fn=none) (h:Extern.find fn=some Extern.BytealgCount.count)
  {Δ:Env} {args:List V} {v:V} {gB:Array Value} {w:World} (hv:SE .countByte args=some v) (i:gj Δ args gB.toList):∃x,(callFunc f gB).run P0 w = .ok (.value x) w/\fG Δ v x:=by
 unfold SE at hv;split at hv
 ·rename_i s c _;rw[gP]at hv;obtain⟨hc,hv⟩:=hv;have b:c<256:=by rw[O6]at hc;exact hc
  cases hv;obtain⟨l⟩:=gB
  cases i with
  | cons _ x _ xs hx hs=>
    cases hs with
    | cons _ y _ ys j hs=>
      cases hs;cases j;generalize hsl:s=sl at hx
      cases hx with
      | str sb=>
        have k:=Lib.run_countString (P:=P0) sb (Int.ofNat c) w;refine⟨.int .i64 (Lib.countByte sb.data.toList (Int.ofNat c).toNat.toUInt8),?_,?_⟩
        ·rw[run_callFunc_extern d a hb g h]
         simp_all
        have e:Kv c sb.data.toList 0=Lib.countByte sb.data.toList (Int.ofNat c).toNat.toUInt8:=by
          rw[No c b,wO];rfl
        rw[e];exact .int _ _
 ·simp_all
 ·cases hv
theorem UE{f:Nat} {fn:Func} (d:P0.funcs[f]? =some fn) (a:(fn.name == "runtime.NumGoroutine")=false) (hb:fn.body.isNone=true) (g:Extern.findNext fn=none) (h:Extern.find fn=some Extern.BytealgIndexByte.indexByte)
  {Δ:Env} {args:List V} {v:V} {gB:Array Value} {w:World} (hv:SE .indexByte args=some v) (j:gj Δ args gB.toList):∃x,(callFunc f gB).run P0 w = .ok (.value x) w/\fG Δ v x:=by
 unfold SE at hv;split at hv
 ·simp_all
 ·rename_i s c _;rw[gP]at hv;obtain⟨hc,hv⟩:=hv;have b:c<256:=by rw[O6]at hc;exact hc
  obtain⟨l⟩:=gB
  cases j with
  | cons _ x _ xs hx hs=>
    cases hs with
    | cons _ y _ ys k hs=>
      cases hs;cases k;generalize hsl:s=sl at hx
      cases hx with
      | str sb=>
        have n:=Lib.run_indexByteString (P:=P0) sb (Int.ofNat c) w;refine⟨.int .i64 (Lib.indexByte sb.data.toList (Int.ofNat c).toNat.toUInt8),?_,?_⟩
        ·rw[run_callFunc_extern d a hb g h]
         simp_all
        have e:=MM c b sb.data.toList 0;have m:(if Lib.indexByte sb.data.toList (UInt8.ofNat c) = -1 then -1 else Lib.indexByte sb.data.toList (UInt8.ofNat c)+((0:Nat):Int))=Lib.indexByte sb.data.toList (Int.ofNat c).toNat.toUInt8:=by
          show _=Lib.indexByte sb.data.toList (UInt8.ofNat c);split
          ·omega
          ·simp
        rw[m]at e;rw[<-e];rw[hsl]at hv;split at hv
        ·rename_i i hi;cases hv;rw[hi];exact .int _ _
        ·rename_i hi;cases hv;rw[hi];exact .int _ _
 ·cases hv
def Kept(W W':World):Prop:=W'.os=W.os/\W'.output=W.output/\W.heap.size<=W'.heap.size/\∀b,b<W.heap.size->W'.heap[b]? =W.heap[b]?
theorem Kept.but{W W':World} (h:Kept W W') (a:MemPlace->Prop):W.keptBut W' a:=by
 refine⟨h.1,h.2.1,λi hi=>?_⟩;rw[h.2.2.2 i hi]
 grind
theorem FR.kept{Δ a:Env}{w w':World}(h:FR Δ a w w')(c:∀b,¬RW Δ b):Kept w w':=⟨h.os,h.output,h.size,λb hb=>h.fe b hb (c b)⟩
def isTrue:Option (V×Hp)->Bool
 |some (.bool true,_)=>true
 |_=>false
theorem An.none{Δ:Env}{w:World}(h:An Δ w):An (λ_=>none) w:=λg c a=>⟨(h g c a).1,by simp_all⟩
theorem WR.start(n:Nat) (a:P0.globals.size<=n) (w:World) (ht:An (λ_=>none) w):WR (λ_=>none) {next:=n,tr:= .leaf} w:=
 ⟨by simp_all,by simp_all,by simp_all,by simp_all,by grind[Hp.get_eq,Tr.qP],a,ht⟩
theorem known{C:fm} (i:uY C) {m d n f:Nat} (s:P0.globals.size<=n) (hb:∃fn c,P0.funcs[f]? =some fn/\fn.body=some c) (hv:isTrue (jS C m d f [] {next:=n,tr:= .leaf})=true) (W:World) (ht:An (λ_=>none) W) :
  Calls P0 f #[] W λe W'=>e = .returned (.bool true)/\Kept W W':=by
 cases hr:jS C m d f [] {next:=n,tr:= .leaf} with
 |none=>rw[hr]at hv;cases hv
 | some r=>
   obtain ⟨v,h'⟩:=r;rw[hr]at hv;have a:v = .bool true:=by
     unfold isTrue at hv;split at hv
     ·simp_all
     ·cases hv
   subst a;rcases HR i m d f [] _ _ _ (λ_=>none) W #[] hr (by grind[WR.start]) .nil with⟨x,t,_⟩|⟨_,o⟩
   ·exfalso
    obtain ⟨fn,c,j,g⟩:=hb;have h:=i.named f fn j;have:(callFunc f #[]).run P0 W = .ok (.enter f #[]) W:=by
      simp only[callFunc,uG,run_program,tn,j,h,g,wB6,O8,if_false];rfl
    simp_all
   ·refine Calls.mono o λe w' p=>?_
    obtain⟨u,x,rfl,k⟩:=p;have hx:=k.val;cases hx;exact⟨rfl,k.frame.kept λb hb=>(by obtain⟨l,d,q,_⟩:=hb;cases q)⟩
open Go.ChangeShapes Go.WideShapes in
theorem U0 {H:Type} {enc:TypeId×Value->H} {P:Program} {f:Func} {s:ChangeSpec} {apart fresh handsOn again:Bool} {W W':World} {args:Array Value} {v:Value} {ds gs:List (DataW H)}
  {before pa pv:List MemPlace} (hW:DataW.Whole enc P f.params.toList s.vars apart W args.toList ds gs before)
  (zck:∀(b:Nat) (sp:Nat->Bool) (hd:Bool),DataW.TrodAll enc P W' b sp hd f.resultTypes.toList (v.resultList f.resultTypes.size) (s.fn H (ds++gs)).results [])
  (zau:∀sp:Nat->Bool,(∀p∈before,sp p.block=true)->DataW.TrodAll enc P W' 0 sp true f.params.toList args.toList (s.fn H (ds++gs)).args pa)
  (zat:∀sp:Nat->Bool,(∀p∈before,sp p.block=true)->DataW.TrodVars enc P W' sp s.vars (s.fn H (ds++gs)).vars pv)
  (hps:before=pa++pv) (hk:Kept W W')
  (hok:∀(j:Nat) (t:TypeId) (r:Value),f.resultTypes[j]? =some t->(v.resultList f.resultTypes.size)[j]? =some r->Value.okWide P W' .any 0 t r) :
  s.post enc P f apart fresh handsOn again W args v W':=by
 have Mw:∀p∈before,p.block<W.heap.size:=λp hp=>hW.lt p hp;have hold:∀p∈before,(λb=>decide (b<W.heap.size)) p.block=true:=by simp_all
 refine⟨ds,gs,before,[],pa,pv,hW,zck _ _ _,zau _ hold,zat _ hold,hk.but _,λ_=>?_⟩;obtain⟨_,_,_,_,_,hz,hn⟩:=hW;refine⟨hok,_,_,([]++pa)++pv,⟨[]++pa,pv,trodAll_append (zau _ (λ_ _=>rfl)) (zck _ _ _),zat _ (λ_ _=>rfl),rfl,?_,?_⟩,?_⟩
 ·intro b off hp;have hp':MemPlace.cell b off∈before:=by rw[hps];simpa using hp
  have hz':=hz b off hp';have hb:=Mw _ hp';have he:W'.frozen? ⟨b,off,none⟩=W.frozen? ⟨b,off,none⟩:=by
   unfold World.frozen?;have:=hk.2.2.2 b hb;simp only at this⊢;rw[this]
  simp_all
 ·simp_all
 simp_all
