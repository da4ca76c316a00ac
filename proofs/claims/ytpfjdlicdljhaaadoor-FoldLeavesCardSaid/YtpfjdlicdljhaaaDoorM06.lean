/- Parts. -/
import Derived.Test.YtpfjdlicdljhaaaDoorM05
import Derived.Defers
import Derived.Recover
import Derived.Lib.Bytealg
import Derived.Laws.Externs
import Derived.ChangeSame
import Derived.RowKit3
set_option maxHeartbeats 4000000
namespace Go.Proofs.YtpfjdlicdljhaaaDoor.Hx
structure Still (W W':World):Prop where
 os:W'.os=W.os
 tape:W'.tape=W.tape
 output:W'.output=W.output
 size:W.heap.size<=W'.heap.size
 eR:∀b,b<W.heap.size->W'.heap[b]? =W.heap[b]?
theorem FR.still{Δ a:Env}{w w':World}(h:FR Δ a w w')(c:∀b,¬RW Δ b):Still w w':=⟨h.os,h.tape,h.output,h.size,λb d=>h.eR b d (c b)⟩
theorem zcD(b:Nat):¬RW (λ_=> .none) b:=λ⟨_,_,a,_⟩=>nomatch a
theorem Still.after{Δ:Env} {h:Hp} {W W':World} (hs:Still W W') (a:WR Δ h W) {v:V} {x:Value} (f:fF (λ_=> .none) v x):xD Δ h W v h Δ x W' where
 val:=f.mono λ_ _ (h:(none:Option D)=some _)=>by cases h
 world:=⟨a.fresh,λl d c=>Cc (a.mh l d c) hs.size,λl d c=>by rw[hs.eR _ (a.mh l d c)];exact a.obj l d c,a.apart,a.GA,a.xF,a.SW.step (λb e _=>hs.eR b e) (by simp_all)⟩
 frame:=⟨Env.le_refl _,hs.size,hs.os,hs.tape,hs.output,λb e _=>hs.eR b e,by simp_all⟩
 grow:= .refl _ _
theorem OE{Δ a:Env} {v:V} {x:Value} (h:fF Δ v x) (c:v.flat=true):fF a v x:=by
 cases h with
 |bool b=>exact .bool b
 |int k n=>exact .int k n
 |str s=>exact .str s
 |nilPtr=>exact .nilPtr
 |ee=>exact .ee
 |kY=>exact .kY
 |nilFunc=>exact .nilFunc
 |nilIface=>exact .nilIface
 |_=>grind[V.flat]
theorem Mr{Δ a:Env}:∀{vs:List V} {xs:List Value},gh Δ vs xs->Oy vs=true->gh a vs xs
 |[],_,.nil,_=> .nil
 | v::vs,_,.cons _ _ _ _ h hs,hf=>by
   simp only[Oy,YY,ve]at hf;exact .cons _ _ _ _ (OE h hf.1) (Mr hs hf.2)
structure vQ (C:fk):Prop where
 Kf:∀args,(C.start args).ds=[]
 start:∀args i,jl (C.start args) i=(args[i]?).getD .undef
 mixed:P0.follows .mixedOrders=true
 named:∀(f:Nat) (fn:Func),P0.funcs[f]? =some fn->(fn.name == "runtime.NumGoroutine")=false
 ext:∀(f:Nat) (fn:Func),P0.funcs[f]? =some fn->fn.body=none->∀(Δ:Env) (args:List V) (v:V) (gz:Array Value) (w:World),Q8 (C.ext f) args=some v->gh Δ args gz.toList->
  ∃x,(callFunc f gz).run P0 w = .ok (.value x) w/\fF Δ v x
 known:∀(f:Nat) (args:List V) (v:V) (h:Hp),C.K f args h=some v->Oy args=true->v.flat=true->∀(Δ:Env) (W:World) (gz:Array Value),WR Δ h W->gh (λ_=> .none) args gz.toList->
  Calls P0 f gz W λe W'=>∃x,e = .returned x/\fF (λ_=> .none) v x/\Still W W'
section
variable{n:Nat}{call:Call}
theorem Ix{jB ws:List It} (b:∀x∈ws,x∈jB):∀(l:List It) (k:Nat),(∀x∈l,x∈jB)->∀a∈order jB ws l k,a∈jB
 |[],k,_,a,ha=>(Ic.1 ha).1
 | w::l,k,hl,a,ha=>by
   simp only[order,FM,Mc]at ha;rcases ha with h|rfl|h
   ·exact(Ic.1 h).1
   ·simp_all
   ·exact Ix b l (k+1) (by simp_all) a h
theorem MO(hc:uF call) (l:P0.follows .mixedOrders=true) {id:Nat} {ops:Array Oper} {Δ:Env} {h:Hp} {w:World} {t:Tm} {a:Act} (A:WR Δ h w) (E:TR Δ n t a)
  {r:Tm×Hp} (B:pW (iq ops)=true) (F:(iq ops).all (BO (iq ops))=true) (G:(iq ops).all z8=true) (m:uc (iq ops) (gK (iq ops)) (order (iq ops) (gK (iq ops)) (gK (iq ops)) 0) 0 0=true)
  (C:(vY n ops.toList (gK (iq ops)) (order (iq ops) (gK (iq ops)) (gK (iq ops)) 0) 0).f call t h []=some r) {Q:Exit->Act->World->Prop} (H:∀u a' w',Ae Δ h w n r.1 r.2 u a' w'->Q .normal a' w')
  (D:∀T:Tc,sm n ops.toList (iq ops) (gK (iq ops)) call t h (order (iq ops) (gK (iq ops)) (gK (iq ops)) 0) 0 0 h [] r T T->∀(fuel:Nat) (c:Array Bool) (p:Act) (w':World) (j:Nat) (u:Env) (t':Tm) (a:It),0<=j->c.toList.count false<=fuel+1->
   Inv n ops t h Δ w T c j u t' p w'->a∈iq ops->cls a.o=2->c.getD a.i false=false->(∀x∈iq ops,a.b.testBit x.i=true->c.getD x.i false=true)->(gK (iq ops))[j]?≠some a->
   wpOp P0 ops Q a.i (wpAny P0 .any ops Q fuel (c.setIfInBounds a.i true)) p w'):(Code.region id ops true).wp P0 Q a w:=by
 have k:∀x∈order (iq ops) (gK (iq ops)) (gK (iq ops)) 0,x∈iq ops:=by grind[Ix,oZ]
 let I:Tc:=⟨λ_=>false,λ_=> .undef,λ_=> .tree .leaf [],λ_=>0,λ_=>0,λ_=>default,λ_=>h,λ_=>h⟩
 obtain ⟨T,g⟩:=trace (n:=n) (all:=ops.toList) (jB:=iq ops) (ws:=gK (iq ops)) (call:=call) (t0:=t) (h0:=h) sx B _ 0 0 t h [] r I k m C (λa N s=>by simp at s)
  (by grind[Gy]) (iZ _) (by omega) (LK _)
 have v:sm n ops.toList (iq ops) (gK (iq ops)) call t h _ 0 0 h [] r T T:=
  ⟨by simp_all,by omega,g.item,g.Cl,g.more,g.chain,g.Uv,g.SL,g.last,g.nV,g.done,g.kle⟩
 refine wp_region_any l (Te (T:=T) (Δ0:=Δ) (w0:=w) (h0:=h) (t0:=t) hc B F G 0 (by grind) k v (zZ _ _ C) H ops.size _ a _ 0 Δ t (iZ _) ?_ ⟨by simp,λx s y=>?_,LK _,λq x hq=>?_,E,λd=>?_,(A.heap (w':={w with drawn:=w.drawn+1}) rfl).Nj g.more,
  ⟨Env.le_refl _,iZ _,rfl,rfl,rfl,by simp_all,by simp_all⟩,by simp_all,rfl,λx s J K _ _=>?_⟩)
 ·simp_all
 ·simp only[wBS,wBs]at y
  grind
 ·constructor
  ·intro L;simp only[wBS,wBs]at L
   grind
  omega
 ·refine(Gy (λx _ _=>?_) _).symm;simp only[wBS,wBs]
  grind
 ·have z:x∈order (iq ops) (gK (iq ops)) (gK (iq ops)) 0:=by
   rcases g.done x s with M|M
   ·simp_all
   ·grind[uE]
  have:=g.Uv x z J K
  cases hd':Δ (T.pl x.i)with
  |none=>rfl
  |some e=>have:=A.fresh _ _ hd';omega
theorem XU(hc:uF call) (d:P0.follows .mixedOrders=true) {id:Nat} {ops:Array Oper} {Δ:Env} {h:Hp} {w:World} {t:Tm} {a:Act} (s:WR Δ h w) (u:TR Δ n t a)
  {r:Tm×Hp} (b:(Kg n ops.toList).f call t h=some r) {Q:Exit->Act->World->Prop} (l:∀v a' w',Ae Δ h w n r.1 r.2 v a' w'->Q .normal a' w'):(Code.region id ops true).wp P0 Q a w:=by
 unfold Kg at b;split at b
 ·rename_i c;simp only[ve,Nt]at c
  grind[MO,Ux]
 ·split at b
  ·rename_i pr i c;simp only[ve,N2]at c;obtain⟨⟨⟨m,o⟩,q⟩,e⟩:=c;simp only[fh,gL]at b;obtain⟨r',b,j,z⟩:=b;cases z;obtain⟨x,y,da,db⟩:=pr;obtain⟨A,B,C,D,E,F,G⟩:=OD i;obtain⟨p,H,I,J⟩:=Lb A;have g:∀x∈order (iq ops) (gK (iq ops)) (gK (iq ops)) 0,x∈iq ops:=by grind[Ix,oZ]
   exact MO hc d s u m o q e b l λT k=>WT hc m o q g k ⟨H,I,J,B,C,D,E,F,G,j⟩ (zZ _ _ b) l
  ·cases b
def X.to:X->Exit
 | .normal=> .normal
 | .exit id=> .exit id
 | .ret=> .ret
theorem Hs{r:Option (X×Tm×Hp)} {k:Tm->Hp->Option (X×Tm×Hp)} {y:X×Tm×Hp} (h:CN r k=some y) :
  (∃t h',r=some (.normal,t,h')/\k t h' = some y)\/(r=some y/\y.1≠ .normal):=by
 unfold CN at h
 grind
theorem Sc{next:Act->World->Prop} {Q:Exit->Act->World->Prop} {x:X} (b:x≠ .normal) {a:Act} {w:World} (h:Q x.to a w):Exit.then next Q x.to a w:=by
 cases x with
 |normal=>simp_all
 |exit id=>exact h
 |ret=>exact h
theorem uj(hc:uF call) (e:P0.follows .mixedOrders=true) {m:Nat}:∀(c:Code) {Δ:Env} {h:Hp} {w:World} {t:Tm} {a:Act},WR Δ h w->TR Δ n t a->∀{r:X×Tm×Hp},
  (hZ n c).f call m t h=some r->∀{Q:Exit->Act->World->Prop},(∀z a' w',Ae Δ h w n r.2.1 r.2.2 z a' w'->Q r.1.to a' w')->c.wp P0 Q a w
 | .skip,Δ,h,w,t,a,g,i,r,d,Q,j=>by cases d;exact wp_skip (j _ _ _ (.start i g))
 | .seq x y,Δ,h,w,t,a,g,i,r,d,Q,j=>by
   simp only[hZ]at d;refine wp_seq ?_;rcases Hs d with⟨G,q,s,B⟩|⟨s,B⟩
   ·exact uj hc e x g i s λz a' w' l=>uj hc e y l.world l.tmps B λC D E u=>j _ _ _ (l.trans u)
   ·exact uj hc e x g i s (by grind[Sc])
 | .cond c x y,Δ,h,w,t,a,g,i,r,d,Q,j=>by
   simp only[hZ,fh]at d;obtain⟨v,q,p⟩:=d;have A:=ke g i q;split at p
   ·rename_i b
    generalize hx:a.eval c=xv at A;cases A
    cases b with
    |true=>exact wp_cond_true hx (uj hc e x g i p j)
    |false=>exact wp_cond_false hx (uj hc e y g i p j)
   ·cases p
 | .block id c,Δ,h,w,t,a,g,i,r,d,Q,j=>by
   simp only[hZ]at d;refine wp_block ?_
   cases A:(hZ n c).f call m t h with
   |none=>rw[A]at d;cases d
   | some r'=>
     rw[A]at d;refine uj hc e c g i A λz a' w' l=>?_;obtain⟨x,t',h'⟩:=r'
     cases x with
     |normal=>cases d;exact j _ _ _ l
     |ret=>cases d;exact j _ _ _ l
     | exit o=>
       simp only[IC]at d;show if o=id then Q .normal a' w' else Q (.exit o) a' w'
       cases hb:Nat.beq o id with
       | true=>
         rw[hb]at d;have:=zR hb;rw[if_pos this];cases d
         exact j _ _ _ l
       | false=>
         rw[hb]at d;have:o≠id:=by grind[Tv]
         rw[if_neg this];cases d
         exact j _ _ _ l
 | .loop c,Δ,h,w,t,a,g,i,r,d,Q,j=>by
   simp only[hZ]at d;refine Df.wp ?_
   have H:∀(k:Nat) {Δ:Env} {h:Hp} {w:World} {t:Tm} {a:Act},WR Δ h w->TR Δ n t a->Dp (λt h=>(hZ n c).f call m t h) k t h=some r->
       (∀z a' w',Ae Δ h w n r.2.1 r.2.2 z a' w'->Q r.1.to a' w')->Df c Q a w:=by
     intro k
     induction k with
     |zero=>intro Δ h w t a _ _ d _;cases d
     | succ k I=>
       intro Δ h w t a g i d j;have F:CN ((hZ n c).f call m t h) (Dp (λt h=>(hZ n c).f call m t h) k)=some r:=d;refine Df.round ?_;rcases Hs F with⟨G,q,s,B⟩|⟨s,B⟩
       ·exact uj hc e c g i s λz a' w' l=>I l.world l.tmps B λC D E u=>j _ _ _ (l.trans u)
       ·exact uj hc e c g i s (by grind[Sc])
   grind
 | .exit id,Δ,h,w,t,a,g,i,r,d,Q,j=>by cases d;exact wp_exit (j _ _ _ (.start i g))
 | .ret,Δ,h,w,t,a,g,i,r,d,Q,j=>by cases d;exact wp_ret (j _ _ _ (.start i g))
 | .region id ops false,Δ,h,w,t,a,g,i,r,d,Q,j=>by
   simp only[hZ,fh]at d;obtain⟨r',q,p⟩:=d;cases p;refine wp_region ?_;have:=MY (Q:=Q) hc ops.toList 0 rfl g i q j
   grind[List.range_eq_range']
 | .region id ops true,Δ,h,w,t,a,g,i,r,d,Q,j=>by
   simp only[hZ,fh]at d;obtain⟨r',q,p⟩:=d;cases p
   exact XU hc e g i q j
 | .rangeFunc ..,Δ,h,w,t,a,g,i,r,d,Q,j=>by cases d
 | .scope _,Δ,h,w,t,a,g,i,r,d,Q,j=>by cases d
 | .label _,Δ,h,w,t,a,g,i,r,d,Q,j=>by cases d
 | .goto _,Δ,h,w,t,a,g,i,r,d,Q,j=>by cases d
 | .refuse _,Δ,h,w,t,a,g,i,r,d,Q,j=>by cases d
noncomputable def Mx(t:Tr V)(i:Nat):V:=Option.rec (motive:=λ_=>V) V.undef (λv=>v) (t.get i)
theorem UD(t:Tr V)(d i:Nat)(v:V):Mx (t.set d v) i=if d=i then v else Mx t i:=Kt (.tree t []) d i v
theorem Mw:∀(args:List V) (i:Nat) (t:Tr V) (j:Nat),Mx (Pj args i t) j=if i<=j/\j<i+args.length then args[j-i]?.getD .undef else Mx t j
 |[],i,t,j=>by rw[if_neg (by simp_all)];rfl
 | v ::vs,i,t,j=>by
   simp only[Pj];rw[Mw vs (i+1) (t.set i v) j];by_cases a:i+1<=j/\j<i+1+vs.length
   ·grind
   ·rw[if_neg a,UD]
    grind
theorem Ry(args:List V) (i:Nat):jl (Ra args) i=(args[i]?).getD .undef:=by
 have h:=Mw args 0 .leaf i;rw[show jl (Ra args) i=Mx (Pj args 0 .leaf) i from rfl,h]
 simp_all[if_pos,Nat.sub_zero,if_neg,Xa,Mx,Tr.rV]
theorem IQ{C:fk} (a:vQ C) {Δ:Env} {args:List V} {gz:Array Value} (b:gh Δ args gz.toList) {k:Nat} (hk:args.length<=k) :
  TR Δ k (C.start args) {tmps:=gz++Array.replicate (k-gz.size) undef,defers:=[]}:=by
 have c:=b.length;simp only[Xf]at c;refine⟨by simp;omega,λi=>?_,by rw[a.Kf];exact .nil⟩;rw[a.start];simp only[wBS];by_cases h:i<args.length
 ·rw[Array.getElem?_append_left (by omega)];obtain⟨x,d,e⟩:=b.get i args[i] (by simp_all)
  grind
 ·rw[Xa (by omega),Array.getElem?_append_right (by omega),wBs];split <;> exact .undef Δ
def WD(tmps:Array Value):ResultVar->Sem Value
 | .tmp t=>pure (tmps.getD t undef)
 | .cell b ty=>do loadVar ty (<-asAddr (tmps.getD b undef))
theorem RA{Δ:Env} {h:Hp} {w:World} {t:Tm} {a:Act} (j:WR Δ h w) (g:TR Δ n t a):∀{l:List ResultVar} {vs:List V},yT t h l=some vs->
  ∃xs,(l.mapM (WD a.tmps)).run P0 w = .ok xs w/\gh Δ vs xs
 |[],vs,c=>by simp[yT]at c;subst c;exact⟨[],by simp,.nil⟩
 | .tmp i::l,vs,c=>by
   simp only[yT,fh]at c;obtain⟨v,d,k,m,o⟩:=c;cases o;obtain⟨xs,u,q⟩:=RA j g m;simp only[Ut]at d;cases d;have y:(WD a.tmps (.tmp i)).run P0 w = .ok (a.tmps.getD i undef) w:=rfl
   exact⟨a.tmps.getD i undef::xs,by simp_all,.cons _ _ _ _ (g.rel i) q⟩
 | .cell b ty::l,vs,c=>by
   simp only[yT,fh]at c;obtain⟨v,d,k,m,o⟩:=c;cases o;obtain⟨xs,u,q⟩:=RA j g m;simp only[Ut]at d;obtain⟨x,s,z⟩:=Lt (xv:=a.tmps.getD b undef) j (λv c=>by cases c;exact g.rel b) d;have e:∃ad,a.tmps.getD b undef = .pointer (some ad):=by
     cases hx:a.tmps.getD b undef with
     | pointer p=>cases p with
       |some ad=>simp_all
       |none=>simp_all[Instr.loadAt,Instr.sureAddr]
     |_=>simp_all[Instr.loadAt,Instr.sureAddr]
   obtain⟨ad,f⟩:=e;rw[f]at s;have r:(loadVar ty ad).run P0 w = .ok x w:=by simpa[Instr.loadAt,Instr.sureAddr]using s
   have y:(WD a.tmps (.cell b ty)).run P0 w = .ok x w:=by simp only[WD,f,asAddr,uZ,Jg,tN,r]
   exact⟨x::xs,by simp_all,.cons _ _ _ _ z q⟩
theorem J3{Δ:Env} {h:Hp} {w:World} {t:Tm} {a:Act} (d:WR Δ h w) (e:TR Δ n t a) {fn:Func} {vs:List V} (f:yT t h fn.results.toList=some vs) :
  ∃x,(results fn a.tmps).run P0 w = .ok x w/\fF Δ (yg vs) x:=by
 obtain ⟨xs,g,i⟩:=RA d e f;have j:(results fn a.tmps).run P0 w = .ok (if h:xs.toArray.size=1 then xs.toArray[0] else .tuple xs.toArray) w:=by
  have h0:results fn a.tmps=(do let vs <-fn.results.mapM (WD a.tmps);pure (if h:vs.size=1 then vs[0] else .tuple vs)):=by
   unfold results;congr 1
  rw[h0,Array.mapM_eq_mapM_toList];simp only[uZ,map_eq_pure_bind,g,tN,Jg]
 refine⟨_,j,?_⟩
 cases i with
 |nil=>exact .tuple _ #[] .nil
 | cons v x vs xs b hs=>
   cases hs with
   |nil=>exact b
   | cons k l vs xs c hs=>
     rw[dif_neg (by simp)];exact .tuple _ _ (.cons _ _ _ _ b (.cons _ _ _ _ c hs))
theorem SH{Δ m:Env} {h:Hp} {w w':World} {n:Nat} {fn:Func} {r:X×Tm×Hp} {a':Act} {v:V} {h':Hp} (c:Ae Δ h w n r.2.1 r.2.2 m a' w') (g:U3 fn r=some (v,h')) :
  (r.1 = .normal\/r.1 = .ret)/\a'.defers=[]/\∃y,(results fn a'.tmps).run P0 w' = .ok y w'/\∃b z,Ending.returned y = .returned z/\xD Δ h w v h' b z w':=by
 obtain⟨x,t',e⟩:=r
 have a:(match t'.ds with
   |[]=>oB (yT t' e fn.results.toList) λvs=>some (yg vs,e)
   |_::_=>none)=some (v,h')->a'.defers=[]/\∃y,(results fn a'.tmps).run P0 w' = .ok y w'/\
   ∃b z,Ending.returned y = .returned z/\xD Δ h w v h' b z w':=by
  intro d;split at d
  ·rename_i i;simp only[fh]at d;obtain⟨vs,j,d⟩:=d;cases d;obtain⟨y,o,k⟩:=J3 c.world c.tmps j;have f:=c.tmps.ds;simp only at f;rw[i]at f
   have l:a'.defers=[]:=by cases hx:a'.defers with
    |nil=>rfl
    |cons _ _=>rw[hx]at f;cases f
   exact⟨l,y,o,m,y,rfl,k,c.world,c.frame,c.grow⟩
  ·cases d
 cases x with
 |exit id=>cases g
 |normal=>exact⟨.inl rfl,a g⟩
 |ret=>exact⟨.inr rfl,a g⟩
theorem Om{o:Oper} {c:Go.Call} (a:o.op = .call c) (hc:c.callee = .builtin .recover) (ρ:Operand->Value) (w:World):(execOp ρ o).run P0 w = .ok .recover w:=by
 unfold execOp;rw[a];simp only[uZ,resolve,hc,Jg,tN];rfl
theorem Tz{c a:Code} {d:Nat} (h:SQ c=some (d,a)):∃id o e,c = .seq (.region id #[o] false) a/\o.op = .call e/\e.callee = .builtin .recover/\o.guard=none/\o.dst=some d:=by
 unfold SQ at h;split at h
 ·rename_i id ops f;split at h
  ·rename_i o k;split at h
   ·rename_i e g;split at h
    ·rename_i d' i j b;cases h;refine⟨id,o,e,?_,g,i,j,b⟩;congr 2
     grind
    ·cases h
   ·cases h
  ·cases h
 ·cases h
theorem V6{C:fk} (z:vQ C) (hc:uF call) {m f:Nat} {args:List V} {v:V} {h h':Hp} {Δ:Env} {w:World} {gz:Array Value} (a:(IE C f).f call m args h=some (v,h'))
  (N:WR Δ h w) (P:gh Δ args gz.toList):(callFunc f gz).run P0 w = .ok (.enter f gz) w/\
   CallsD P0 f gz .returning w λe u' w'=>u' = .returning/\∃A x,e = .returned x/\xD Δ h w v h' A x w':=by
 unfold IE at a;split at a
 ·rename_i fn B;split at a
  ·rename_i c O;refine⟨?_,?_⟩
   ·have T:=z.named f fn B
    simp_all[callFunc,uZ,run_program,tN,wB0,Oh,if_false]
   split at a
   ·rename_i d g q;simp only[gL,fh]at a;obtain⟨j,Q,r,D,E⟩:=a;have i:args.length<=fn.ntmps:=Jd j;obtain⟨id,o,U,rfl,F,G,R,s⟩:=Tz q;refine callsD_of_wpS B O λH cs u=>?_;have I:=IQ z P i;have J:w9 fn.ntmps o=some ⟨λt v=>t.set d v⟩:=by unfold w9;rw[s];simp only[Q]
    have S:TR Δ fn.ntmps ((C.start args).set d .nilIface) (({tmps:=gz++Array.replicate (fn.ntmps-gz.size) undef,defers:=[]}:Act).put o.dst .nilIface):=HY I J .nilIface;refine wpS_seq (wpS_region ?_);have Lv:List.range (#[o]:Array Oper).size=[0]:=rfl;rw[Lv];simp only[wpOpsS];have h0:(#[o]:Array Oper)[0]? =some o:=rfl;simp only[h0];have k:∀y,Region.wanted o y=true:=by grind[Region.wanted]
    rw[if_pos (k _),Om F G];have l:recoverD (H::cs)=none:=by simp only[recoverD,u]
    simp only[l];show g.wpS P0 _ _ _ _;refine wpS_of_wp ?_;refine uj hc z.mixed g N S D λA a' w' K=>?_;obtain⟨b,n,y,L,M⟩:=SH K E;have p:({H with mode:= .returning}:Frame)=H:=by rw[<-u]
    rcases b with b|b <;> rw[b] <;> exact⟨n,.returning,by rw[p],y,L,rfl,M⟩
   ·simp only[gL,fh]at a;obtain⟨j,r,D,E⟩:=a;have i:args.length<=fn.ntmps:=Jd j;refine callsD_of_wp B O ?_;refine uj hc z.mixed c N (by grind[IQ]) D λA a' w' K=>?_;obtain⟨b,n,y,L,M⟩:=SH K E;rcases b with b|b <;> rw[b] <;> exact⟨n,y,L,M⟩
  ·cases a
 ·cases a
theorem SP{C:fk} (j:vQ C) (hc:uF call) {m:Nat} {fn:Func} {tmps:Array Value} {R:Ending->World->Prop}:∀(l:List (Nat×List V)) {c:List Deferred} {Δ:Env} {h h':Hp} {w:World},
  L9 C call m l h=some h'->WR Δ h w->G9 Δ l c->
  (∀a w',WR a h' w'->FR Δ a w w'->Gr h Δ h' a->∃v,(results fn tmps).run P0 w' = .ok v w'/\R (.returned v) w')->Leaves P0 fn tmps R c .returning w
 | [],_,Δ,h,h',w,hv,hW,.nil,hR=>by
   cases hv
   exact hR Δ w hW (.refl _ _) (.refl _ _)
 | (g,args)::l,_,Δ,h,h',w,hv,hW,.cons _ _ cap gz _ c ha hl,hR=>by
   simp only[L9,fh]at hv;obtain⟨⟨v,u⟩,k,n⟩:=hv;obtain⟨o,p⟩:=V6 j hc k hW ha;refine leaves_cons (by simp_all) (f:=g) (args:=gz++cap) o ?_;refine CallsD.mono p λe u' w' q=>?_;obtain⟨rfl,a,x,rfl,b⟩:=q;exact SP j hc l n b.world (hl.mono b.frame.le) λd i r s t=>hR d i r (b.frame.trans s) (b.grow.trans t)
theorem XA{C:fk} (j:vQ C) (hc:uF call) {m:Nat}:uF λf args h=>(Cv C f).f call m args h:=by
 intro f args v h h' Δ w gz a n F;simp only at a;unfold Cv at a;split at a
 ·rename_i fn o;split at a
  ·rename_i c p;right;have b:(callFunc f gz).run P0 w = .ok (.enter f gz) w:=by
    have L:=j.named f fn o;simp only[callFunc,uZ,run_program,tN,o,L,p,wB0,Oh,if_false];rfl
   refine⟨b,?_⟩;simp only[Xi]at a
   cases hk:C.K f args h with
   | some u=>
     rw[hk]at a;simp only[gL,ve]at a;obtain⟨⟨k,q⟩,a⟩:=a;cases a;refine Calls.mono (j.known f args _ _ hk k q Δ w gz n (Mr F k)) λe w' s=>?_;obtain⟨x,rfl,M,hs⟩:=s
     exact⟨Δ,x,rfl,hs.after n M⟩
   | none=>
     rw[hk]at a;simp only[gL,fh]at a;obtain⟨t,r,z,g⟩:=a;have G:args.length<=fn.ntmps:=Jd t;refine calls_of_wp_defers o p ?_;refine uj hc j.mixed c n (by grind[IQ]) z λH a' w' l=>?_;obtain⟨x,t',A⟩:=r
     have d:(∃i,L9 C call m t'.ds A=some i/\∃vs,yT t' i fn.results.toList=some vs/\some (yg vs,i)=some (v,h'))->
         Leaves P0 fn a'.tmps (λe w'=>∃H x,e = .returned x/\xD Δ h w v h' H x w') a'.defers .returning w':=by
       rintro⟨i,N,vs,B,s⟩;cases s;refine SP j hc _ N l.world l.tmps.ds λD O I J P=>?_;obtain⟨y,Q,E⟩:=J3 I (l.tmps.mono J.le) B;exact⟨y,Q,D,y,rfl,E,I,l.frame.trans J,l.grow.trans P⟩
     cases x with
     |exit id=>cases g
     |normal=>simp only[fh]at g;exact d g
     |ret=>simp only[fh]at g;exact d g
  ·rename_i p;left;simp only[fh]at a;obtain⟨u,z,g⟩:=a;cases g;obtain⟨x,i,R⟩:=j.ext f fn o p Δ args _ gz w z F;exact⟨x,i,R,n,.refl _ _,.refl _ _⟩
 ·cases a
theorem Hn{C:fk} (a:vQ C) (m:Nat):∀d,uF (jE C m d)
 |0=>λf args v h h' Δ w gz b=>(nomatch b)
 |d+1=>XA a (Hn a m d)
end
theorem Mk(c:Nat) (hc:c<256):∀(l:List UInt8) (n:Nat),Ky c l n=n+l.count (UInt8.ofNat c)
 |[],n=>by rfl
 | b ::l,n=>by
   simp only[Ky];rw[Mk c hc l,List.count_cons];have a:Nat.beq b.toNat c=(b == UInt8.ofNat c):=by
     rw[Rc];simp only[IB];constructor
     ·intro h
      have h':b.toNat=c:=zR h;rw[<-h'];simp
     ·simp_all
   rw[a];cases b == UInt8.ofNat c
   ·simp
   grind
theorem Ms(c:Nat) (hc:c<256):∀(l:List UInt8) (n:Nat),(match N3 c l n with|some i=>(i:Int)|none=>-1)=if Lib.indexByte l (UInt8.ofNat c) = -1 then -1 else Lib.indexByte l (UInt8.ofNat c)+n
 |[],n=>by rfl
 | b ::l,n=>by
   simp only[N3];have a:Nat.beq b.toNat c=(b == UInt8.ofNat c):=by
     rw[Rc];simp only[IB];constructor
     ·intro h
      have h':b.toNat=c:=zR h;rw[<-h'];simp
     ·simp_all
   rw[a];unfold Lib.indexByte
   cases hbc:b == UInt8.ofNat c with
   |true=>simp
   | false=>
     have e:=Ms c hc l (n+1);have d:=Lib.indexByte_ge l (UInt8.ofNat c)
     grind
theorem T6{f:Nat} {fn:Func} (h:P0.funcs[f]? =some fn) (a:(fn.name == "runtime.NumGoroutine")=false) (i:fn.body.isNone=true) (j:Extern.findNext fn=none) (k:Extern.find fn=some Extern.BytealgCount.count)
  {Δ:Env} {args:List V} {v:V} {gz:Array Value} {w:World} (b:Q8 .countByte args=some v) (m:gh Δ args gz.toList):∃x,(callFunc f gz).run P0 w = .ok (.value x) w/\fF Δ v x:=by
 unfold Q8 at b;split at b
 ·rename_i s c _;rw[gL]at b;obtain⟨hc,b⟩:=b;have d:c<256:=by rw[Nn]at hc;exact hc
  cases b;obtain⟨l⟩:=gz
  cases m with
  | cons _ x _ xs g hs=>
    cases hs with
    | cons _ y _ ys n hs=>
      cases hs;cases n;generalize hsl:s=sl at g
      cases g with
      | str sb=>
        have o:=Lib.run_countString (P:=P0) sb (Int.ofNat c) w;refine⟨.int .i64 (Lib.countByte sb.data.toList (Int.ofNat c).toNat.toUInt8),?_,?_⟩
        ·rw[run_callFunc_extern h a i j k]
         simp_all
        have e:Ky c sb.data.toList 0=Lib.countByte sb.data.toList (Int.ofNat c).toNat.toUInt8:=by
          rw[Mk c d,wX];rfl
        rw[e];exact .int _ _
 ·simp_all
 ·cases b
theorem UH{f:Nat} {fn:Func} (h:P0.funcs[f]? =some fn) (b:(fn.name == "runtime.NumGoroutine")=false) (j:fn.body.isNone=true) (k:Extern.findNext fn=none) (m:Extern.find fn=some Extern.BytealgIndexByte.indexByte)
  {Δ:Env} {args:List V} {v:V} {gz:Array Value} {w:World} (a:Q8 .indexByte args=some v) (n:gh Δ args gz.toList):∃x,(callFunc f gz).run P0 w = .ok (.value x) w/\fF Δ v x:=by
 unfold Q8 at a;split at a
 ·simp_all
 ·rename_i s c _;rw[gL]at a;obtain⟨hc,a⟩:=a;have d:c<256:=by rw[Nn]at hc;exact hc
  obtain⟨l⟩:=gz
  cases n with
  | cons _ x _ xs g hs=>
    cases hs with
    | cons _ y _ ys o hs=>
      cases hs;cases o;generalize hsl:s=sl at g
      cases g with
      | str sb=>
        have q:=Lib.run_indexByteString (P:=P0) sb (Int.ofNat c) w;refine⟨.int .i64 (Lib.indexByte sb.data.toList (Int.ofNat c).toNat.toUInt8),?_,?_⟩
        ·rw[run_callFunc_extern h b j k m]
         simp_all
        have e:=Ms c d sb.data.toList 0;have p:(if Lib.indexByte sb.data.toList (UInt8.ofNat c) = -1 then -1 else Lib.indexByte sb.data.toList (UInt8.ofNat c)+((0:Nat):Int))=Lib.indexByte sb.data.toList (Int.ofNat c).toNat.toUInt8:=by
          show _=Lib.indexByte sb.data.toList (UInt8.ofNat c);split
          ·omega
          ·simp
        rw[p]at e;rw[<-e];rw[hsl]at a;split at a
        ·rename_i i hi;cases a;rw[hi];exact .int _ _
        ·rename_i hi;cases a;rw[hi];exact .int _ _
 ·cases a
def Kept(W W':World):Prop:=W'.os=W.os/\W'.output=W.output/\W.heap.size<=W'.heap.size/\∀b,b<W.heap.size->W'.heap[b]? =W.heap[b]?
theorem Kept.Cz{W W':World} (h:Kept W W') (a:MemPlace->Prop):W.keptBut W' a:=by
 refine⟨h.1,h.2.1,λi hi=>?_⟩;rw[h.2.2.2 i hi]
 grind
theorem FR.kept{Δ a:Env}{w w':World}(h:FR Δ a w w')(c:∀b,¬RW Δ b):Kept w w':=⟨h.os,h.output,h.size,λb d=>h.eR b d (c b)⟩
def isTrue:Option (V×Hp)->Bool
 |some (.bool true,_)=>true
 |_=>false
theorem Bt.none{Δ:Env}{w:World}(h:Bt Δ w):Bt (λ_=>none) w:=λg c a=>⟨(h g c a).1,by simp_all⟩
theorem WR.start(n:Nat) (a:P0.globals.size<=n) (w:World) (b:Bt (λ_=>none) w):WR (λ_=>none) {next:=n,tr:= .leaf} w:=
 ⟨by simp_all,by simp_all,by simp_all,by simp_all,by grind[Hp.get_eq,Tr.rV],a,b⟩
theorem known{C:fk} (k:vQ C) {m d n f:Nat} (w:P0.globals.size<=n) (g:∃fn c,P0.funcs[f]? =some fn/\fn.body=some c) (a:isTrue (jE C m d f [] {next:=n,tr:= .leaf})=true) (W:World) (y:Bt (λ_=>none) W) :
  Calls P0 f #[] W λe W'=>e = .returned (.bool true)/\Kept W W':=by
 cases hr:jE C m d f [] {next:=n,tr:= .leaf} with
 |none=>rw[hr]at a;cases a
 | some r=>
   obtain ⟨v,h'⟩:=r;rw[hr]at a;have h:v = .bool true:=by
     unfold isTrue at a;split at a
     ·simp_all
     ·cases a
   subst h;rcases Hn k m d f [] _ _ _ (λ_=>none) W #[] hr (by grind[WR.start]) .nil with⟨x,z,_⟩|⟨_,q⟩
   ·exfalso
    obtain ⟨fn,c,o,i⟩:=g;have j:=k.named f fn o;have:(callFunc f #[]).run P0 W = .ok (.enter f #[]) W:=by
      simp only[callFunc,uZ,run_program,tN,o,j,i,wB0,Oh,if_false];rfl
    simp_all
   ·refine Calls.mono q λe w' s=>?_
    obtain⟨A,x,rfl,p⟩:=s;have t:=p.val;cases t;exact⟨rfl,p.frame.kept λb g=>(by obtain⟨l,d,u,_⟩:=g;cases u)⟩
open Go.ChangeShapes Go.WideShapes in
theorem T3 {H:Type} {enc:TypeId×Value->H} {P:Program} {f:Func} {s:ChangeSpec} {apart fresh handsOn again:Bool} {W W':World} {args:Array Value} {v:Value} {ds gs:List (DataW H)}
  {before pa pv:List MemPlace} (hW:DataW.Whole enc P f.params.toList s.vars apart W args.toList ds gs before)
  (zby:∀(b:Nat) (sp:Nat->Bool) (hd:Bool),DataW.TrodAll enc P W' b sp hd f.resultTypes.toList (v.resultList f.resultTypes.size) (s.fn H (ds++gs)).results [])
  (Zt:∀sp:Nat->Bool,(∀p∈before,sp p.block=true)->DataW.TrodAll enc P W' 0 sp true f.params.toList args.toList (s.fn H (ds++gs)).args pa)
  (Zp:∀sp:Nat->Bool,(∀p∈before,sp p.block=true)->DataW.TrodVars enc P W' sp s.vars (s.fn H (ds++gs)).vars pv)
  (hps:before=pa++pv) (hk:Kept W W')
  (hok:∀(j:Nat) (t:TypeId) (r:Value),f.resultTypes[j]? =some t->(v.resultList f.resultTypes.size)[j]? =some r->Value.okWide P W' .any 0 t r) :
  s.post enc P f apart fresh handsOn again W args v W':=by
 have Me:∀p∈before,p.block<W.heap.size:=λp hp=>hW.lt p hp;have hold:∀p∈before,(λb=>decide (b<W.heap.size)) p.block=true:=by simp_all
 refine⟨ds,gs,before,[],pa,pv,hW,zby _ _ _,Zt _ hold,Zp _ hold,hk.Cz _,λ_=>?_⟩;obtain⟨_,_,_,_,_,hz,hn⟩:=hW;refine⟨hok,_,_,([]++pa)++pv,⟨[]++pa,pv,trodAll_append (Zt _ (λ_ _=>rfl)) (zby _ _ _),Zp _ (λ_ _=>rfl),rfl,?_,?_⟩,?_⟩
 ·intro b off hp;have hp':MemPlace.cell b off∈before:=by rw[hps];simpa using hp
  have hz':=hz b off hp';have hb:=Me _ hp';have he:W'.frozen? ⟨b,off,none⟩=W.frozen? ⟨b,off,none⟩:=by
   unfold World.frozen?;have:=hk.2.2.2 b hb;simp only at this⊢;rw[this]
  simp_all
 ·simp_all
 simp_all
