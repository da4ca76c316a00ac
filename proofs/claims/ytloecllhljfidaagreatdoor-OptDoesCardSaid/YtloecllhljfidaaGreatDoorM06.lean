/- Parts. -/
import Derived.Test.YtloecllhljfidaaGreatDoorM05
import Derived.Defers
import Derived.Recover
import Derived.Lib.Bytealg
import Derived.Laws.Externs
import Derived.ChangeSame
import Derived.RowKit3
set_option maxHeartbeats 4000000
namespace Go.Proofs.YtloecllhljfidaaGreatDoor.Hx
variable{C:kW}
structure Still (W W':World):Prop where
 os:W'.os=W.os
 tape:W'.tape=W.tape
 output:W'.output=W.output
 size:W.heap.size<=W'.heap.size
 fk:∀b,b<W.heap.size->W'.heap[b]? =W.heap[b]?
theorem FR.still{Δ a:Env}{w w':World}(h:FR Δ a w w')(c:∀b,¬RW Δ b):Still w w':=⟨h.os,h.tape,h.output,h.size,λb hb=>h.fk b hb (c b)⟩
theorem zgo(b:Nat):¬RW (λ_=> .none) b:=λ⟨_,_,a,_⟩=>nomatch a
theorem Still.after{Δ:Env} {h:Hp} {W W':World} (hs:Still W W') (a:WR Δ h W) {v:V} {x:Value} (hv:fZ (λ_=> .none) v x):Km Δ h W v h Δ x W' where
 val:=hv.mono λ_ _ h=>by cases h
 world:=⟨a.fresh,λl d c=>Ep (a.nJ l d c) hs.size,λl d c=>by rw[hs.fk _ (a.nJ l d c)];exact a.obj l d c,a.apart,a.JN,a.zV,a.V9.step (λb hb _=>hs.fk b hb) (by simp_all)⟩
 frame:=⟨Env.le_refl _,hs.size,hs.os,hs.tape,hs.output,λb hb _=>hs.fk b hb,by simp_all⟩
 grow:= .refl _ _
theorem SU{Δ a:Env} {v:V} {x:Value} (h:fZ Δ v x) (c:v.flat=true):fZ a v x:=by
 cases h with
 |bool b=>exact .bool b
 |int k n=>exact .int k n
 |str s=>exact .str s
 |nilPtr=>exact .nilPtr
 |ei=>exact .ei
 |oH=>exact .oH
 |nilFunc=>exact .nilFunc
 |nilIface=>exact .nilIface
 |_=>grind[V.flat]
theorem Qq{Δ a:Env}:∀{vs:List V} {xs:List Value},gW Δ vs xs->SE vs=true->gW a vs xs
 |[],_,.nil,_=> .nil
 | v::vs,_,.cons _ _ _ _ h hs,hf=>by
   simp only[SE,wBn,vU]at hf;exact .cons _ _ _ _ (SU h hf.1) (Qq hs hf.2)
structure zP (C:kW):Prop where
 Og:∀args,(C.start args).ds=[]
 start:∀args i,j5 (C.start args) i=(args[i]?).getD .undef
 mixed:P0.follows .mixedOrders=true
 named:∀(f:Nat) fn,P0.funcs[f]? =some fn->(fn.name == "runtime.NumGoroutine")=false
 ext:∀f fn,P0.funcs[f]? =some fn->fn.body=none->∀Δ args v ie w,U9 (C.ext f) args=some v->gW Δ args ie.toList->
  ∃x,(callFunc f ie).run P0 w = .ok (.value x) w/\fZ Δ v x
 known:∀f args v h,C.K f args h=some v->SE args=true->v.flat=true->∀Δ W ie,WR Δ h W->gW (λ_=> .none) args ie.toList->
  Calls P0 f ie W λe W'=>∃x,e = .returned x/\fZ (λ_=> .none) v x/\Still W W'
section
variable{n:Nat}{call:Call}
theorem Mj{kj ws:List It} (b:∀x∈ws,x∈kj):∀l k,(∀x∈l,x∈kj)->∀a∈order kj ws l k,a∈kj
 |[],k,_,a,ha=>(Lz.1 ha).1
 | w::l,k,hl,a,ha=>by
   simp[order,EG]at ha;rcases ha with h|rfl|h
   ·exact(Lz.1 h).1
   ·simp_all
   ·exact Mj b l (k+1) (by simp_all) a h
theorem PN(hc:zF call) (k:P0.follows .mixedOrders=true) {id:Nat} {ops:Array Oper} {Δ:Env} {h:Hp} {w:World} {t:Tm} {a:Act} (y:WR Δ h w) (A:TR Δ n t a)
  {r:Tm×Hp} (hp:sX (iW ops)=true) (B:(iW ops).all (ER (iW ops))=true) (C:(iW ops).all Cb=true) (l:yd (iW ops) (gZ (iW ops)) (order (iW ops) (gZ (iW ops)) (gZ (iW ops)) 0) 0 0=true)
  (hv:(yN n ops.toList (gZ (iW ops)) (order (iW ops) (gZ (iW ops)) (gZ (iW ops)) 0) 0).f call t h []=some r) {Q:Exit->Act->World->Prop} (D:∀p a' w',EW Δ h w n r.1 r.2 p a' w'->Q .normal a' w')
  (z:∀T,vI n ops.toList (iW ops) (gZ (iW ops)) call t h (order (iW ops) (gZ (iW ops)) (gZ (iW ops)) 0) 0 0 h [] r T T->∀fuel c m w' j p t' a,0<=j->c.toList.count false<=fuel+1->
   Inv n ops t h Δ w T c j p t' m w'->a∈iW ops->cls a.o=2->c.getD a.i false=false->(∀x∈iW ops,a.b.testBit x.i=true->c.getD x.i false=true)->(gZ (iW ops))[j]?≠some a->
   wpOp P0 ops Q a.i (wpAny P0 .any ops Q fuel (c.setIfInBounds a.i true)) m w'):(Code.region id ops true).wp P0 Q a w:=by
 have g:∀x∈order (iW ops) (gZ (iW ops)) (gZ (iW ops)) 0,x∈iW ops:=by grind[Mj,uF]
 let E:Tc:=⟨λ_=>false,λ_=> .undef,λ_=> .tree .leaf [],λ_=>0,λ_=>0,λ_=>default,λ_=>h,λ_=>h⟩
 let ⟨T,hTr⟩:=trace (t0:=t) vX hp _ 0 0 t h [] r E g l hv (λa J hx=>by simp at hx)
  (by grind[JX]) (iZ _) (by omega) (Mr _)
 have s:vI n ops.toList (iW ops) (gZ (iW ops)) call t h _ 0 0 h [] r T T:=
  ⟨by simp_all,by omega,hTr.item,hTr.EB,hTr.more,hTr.chain,hTr.XG,hTr.Wu,hTr.last,hTr.qm,hTr.done,hTr.kle⟩
 refine wp_region_any k (Wh hc hp B C 0 (by grind) g s (B1 _ _ hv) D ops.size _ a _ 0 Δ t (iZ _) ?_ ⟨by simp,λx hx u=>?_,Mr _,λq x hq=>?_,A,λd=>?_,(y.heap (w':={w with drawn:=w.drawn+1}) rfl).Q3 hTr.more,
  ⟨Env.le_refl _,iZ _,rfl,rfl,rfl,by simp_all,by simp_all⟩,by simp_all,rfl,λx hx F G _ _=>?_⟩)
 ·simp_all
 ·simp[wBQ,wBu]at u
  grind
 ·constructor
  ·intro H;simp[wBQ,wBu]at H
   grind
  omega
 ·refine(JX (λx _ _=>?_) _).symm;simp[wBQ,wBu]
  grind
 ·have v:x∈order (iW ops) (gZ (iW ops)) (gZ (iW ops)) 0:=by
   rcases hTr.done x hx with I|I
   ·simp_all
   ·grind[yc]
  have:=hTr.XG x v F G
  cases hd':Δ (T.pl x.i)with
  |none=>rfl
  |some e=>have:=y.fresh _ _ hd';omega
theorem zaU(hc:zF call) (c:P0.follows .mixedOrders=true) {id:Nat} {ops:Array Oper} {Δ:Env} {h:Hp} {w:World} {t:Tm} {a:Act} (k:WR Δ h w) (l:TR Δ n t a)
  {r:Tm×Hp} (hv:(Oz n ops.toList).f call t h=some r) {Q:Exit->Act->World->Prop} (j:∀m a' w',EW Δ h w n r.1 r.2 m a' w'->Q .normal a' w'):(Code.region id ops true).wp P0 Q a w:=by
 unfold Oz at hv;split at hv
 ·rename_i b;simp[ Rk]at b
  grind[PN,Yv]
 ·split at hv
  ·rename_i pr e b;simp only[vU,QN]at b
   let⟨⟨⟨hp,hg⟩,he⟩,hord⟩:=b
   simp only[fR,jf]at hv;obtain⟨r',hv,g,o⟩:=hv;cases o
   let⟨x,y,da,db⟩:=pr
   let⟨q,s,u,v,z,A,B⟩:=Tu e
   let⟨p,C,D,E⟩:=Ob q
   have d:∀x∈order (iW ops) (gZ (iW ops)) (gZ (iW ops)) 0,x∈iW ops:=by grind[Mj,uF]
   exact PN hc c k l hp hg he hord hv j λT i=>YQ hc hp hg he d i ⟨C,D,E,s,u,v,z,A,B,g⟩ (B1 _ _ hv) j
  ·cases hv
def X.to:X->Exit
 | .normal=> .normal
 | .exit id=> .exit id
 | .ret=> .ret
theorem KL{r:Option (X×Tm×Hp)} {k:Tm->Hp->Option (X×Tm×Hp)} {y:X×Tm×Hp} (h:IB r k=some y) :
  (∃t h',r=some (.normal,t,h')/\k t h' = some y)\/(r=some y/\y.1≠ .normal):=by
 unfold IB at h
 grind
theorem WE{next:Act->World->Prop} {Q:Exit->Act->World->Prop} {x:X} (hx:x≠ .normal) {a:Act} {w:World} (h:Q x.to a w):Exit.then next Q x.to a w:=by
 cases x with
 |normal=>simp_all
 |exit id=>exact h
 |ret=>exact h
theorem Ah(hc:zF call) (d:P0.follows .mixedOrders=true) {m:Nat}:∀c {Δ:Env} {h:Hp} {w:World} {t:Tm} {a:Act},WR Δ h w->TR Δ n t a->∀{r:X×Tm×Hp},
  (iV n c).f call m t h=some r->∀{Q:Exit->Act->World->Prop},(∀u a' w',EW Δ h w n r.2.1 r.2.2 u a' w'->Q r.1.to a' w')->c.wp P0 Q a w
 | .skip,Δ,h,w,t,a,e,g,r,hv,Q,i=>by cases hv;exact wp_skip (i _ _ _ (.start g e))
 | .seq x y,Δ,h,w,t,a,e,g,r,hv,Q,i=>by
   refine wp_seq ?_;rcases KL hv with⟨F,p,q,A⟩|⟨q,A⟩
   ·exact Ah hc d x e g q λu a' w' j=>Ah hc d y j.world j.tmps A λB C D s=>i _ _ _ (j.trans s)
   ·exact Ah hc d x e g q (by grind[WE])
 | .cond c x y,Δ,h,w,t,a,e,g,r,hv,Q,i=>by
   simp[iV,fR]at hv
   let⟨v,p,o⟩:=hv
   have z:=yO e g p;split at o
   ·rename_i b
    generalize hx:a.eval c=xv at z;cases z
    cases b with
    |true=>exact wp_cond_true hx (Ah hc d x e g o i)
    |false=>exact wp_cond_false hx (Ah hc d y e g o i)
   ·cases o
 | .block id c,Δ,h,w,t,a,e,g,r,hv,Q,i=>by
   simp[iV]at hv;refine wp_block ?_
   cases z:(iV n c).f call m t h with
   |none=>rw[z]at hv;cases hv
   | some r'=>
     rw[z]at hv;refine Ah hc d c e g z λu a' w' j=>?_
     let⟨x,t',h'⟩:=r'
     cases x with
     |normal=>cases hv;exact i _ _ _ j
     |ret=>cases hv;exact i _ _ _ j
     | exit l=>
       simp[Mi]at hv;show if l=id then Q .normal a' w' else Q (.exit l) a' w'
       cases hb:Nat.beq l id with
       | true=>
         rw[hb]at hv;have:=Iw hb;rw[if_pos this];cases hv
         exact i _ _ _ j
       | false=>
         rw[hb]at hv;have:l≠id:=by grind[YH]
         rw[if_neg this];cases hv
         exact i _ _ _ j
 | .loop c,Δ,h,w,t,a,e,g,r,hv,Q,i=>by
   simp[iV]at hv;refine G1.wp ?_
   have G:∀k {Δ:Env} {h:Hp} {w:World} {t:Tm} {a:Act},WR Δ h w->TR Δ n t a->K6 (λt h=>(iV n c).f call m t h) k t h=some r->
       (∀u a' w',EW Δ h w n r.2.1 r.2.2 u a' w'->Q r.1.to a' w')->G1 c Q a w:=by
     intro k
     induction k with
     |zero=>intro Δ h w t a _ _ hv _;cases hv
     | succ k H=>
       intro Δ h w t a e g hv i;have E:=hv;refine G1.round ?_;rcases KL E with⟨F,p,q,A⟩|⟨q,A⟩
       ·exact Ah hc d c e g q λu a' w' j=>H j.world j.tmps A λB C D s=>i _ _ _ (j.trans s)
       ·exact Ah hc d c e g q (by grind[WE])
   grind
 | .exit id,Δ,h,w,t,a,e,g,r,hv,Q,i=>by cases hv;exact wp_exit (i _ _ _ (.start g e))
 | .ret,Δ,h,w,t,a,e,g,r,hv,Q,i=>by cases hv;exact wp_ret (i _ _ _ (.start g e))
 | .region id ops false,Δ,h,w,t,a,e,g,r,hv,Q,i=>by
   simp only[iV,fR]at hv
   let⟨r',p,o⟩:=hv
   cases o;refine wp_region ?_;have:=PQ hc ops.toList 0 rfl e g p i
   grind[List.range_eq_range']
 | .region id ops true,Δ,h,w,t,a,e,g,r,hv,Q,i=>by
   simp only[iV,fR]at hv
   let⟨r',p,o⟩:=hv
   cases o
   exact zaU hc d e g p i
 | .rangeFunc ..,Δ,h,w,t,a,e,g,r,hv,Q,i=>by cases hv
 | .scope _,Δ,h,w,t,a,e,g,r,hv,Q,i=>by cases hv
 | .label _,Δ,h,w,t,a,e,g,r,hv,Q,i=>by cases hv
 | .goto _,Δ,h,w,t,a,e,g,r,hv,Q,i=>by cases hv
 | .refuse _,Δ,h,w,t,a,e,g,r,hv,Q,i=>by cases hv
noncomputable def QI(t:Tr V)(i:Nat):V:=Option.rec V.undef (λv=>v) (t.get i)
theorem XA(t:Tr V)(d i:Nat)(v:V):QI (t.set d v) i=if d=i then v else QI t i:=NZ (.tree t []) d i v
theorem Qk:∀args i t j,QI (Sv args i t) j=if i<=j/\j<i+args.length then args[j-i]?.getD .undef else QI t j
 |[],i,t,j=>by rw[if_neg (by simp_all)];rfl
 | v ::vs,i,t,j=>by
   simp[Sv];rw[Qk vs (i+1) (t.set i v) j];by_cases a:i+1<=j/\j<i+1+vs.length
   ·grind
   ·rw[ XA]
    grind
theorem VL(args:List V) (i:Nat):j5 (Vh args) i=(args[i]?).getD .undef:=by
 have h:=Qk args 0 .leaf i;rw[show j5 (Vh args) i=QI (Sv args 0 .leaf) i from rfl,h]
 simp_all[Nat.sub_zero,QI,Tr.yX]
theorem XE (a:zP C) {Δ:Env} {args:List V} {ie:Array Value} (b:gW Δ args ie.toList) {k:Nat} (hk:args.length<=k) :
  TR Δ k (C.start args) {tmps:=ie++Array.replicate (k-ie.size) undef,defers:=[]}:=by
 have c:=b.length;simp[wBh]at c;refine⟨by simp;omega,λi=>?_,by rw[a.Og];exact .nil⟩;rw[a.start];simp[wBQ];by_cases h:i<args.length
 ·rw[Array.getElem?_append_left (by omega)]
  let⟨x,hx,hr⟩:=b.get i args[i] (by simp_all)
  grind
 ·rw[Q9 (by omega),Array.getElem?_append_right (by omega),wBu];split <;> exact .undef Δ
def ZM(tmps:Array Value):ResultVar->Sem Value
 | .tmp t=>pure (tmps.getD t undef)
 | .cell b ty=>do loadVar ty (<-asAddr (tmps.getD b undef))
theorem VR{Δ:Env} {h:Hp} {w:World} {t:Tm} {a:Act} (f:WR Δ h w) (d:TR Δ n t a):∀{l:List ResultVar} {vs:List V},DA t h l=some vs->
  ∃xs,(l.mapM (ZM a.tmps)).run P0 w = .ok xs w/\gW Δ vs xs
 |[],vs,hv=>by simp[DA]at hv;subst hv;exact⟨[],by simp,.nil⟩
 | .tmp i::l,vs,hv=>by
   simp[DA,fR]at hv
   let⟨v,g,vs',j,k⟩:=hv
   cases k
   let⟨xs,r,m⟩:=VR f d j
   cases g;have hp:(ZM a.tmps (.tmp i)).run P0 w = .ok (a.tmps.getD i undef) w:=rfl
   exact⟨a.tmps.getD i undef::xs,by simp_all,.cons _ _ _ _ (d.rel i) m⟩
 | .cell b ty::l,vs,hv=>by
   simp[DA,fR]at hv
   let⟨v,g,vs',j,k⟩:=hv
   cases k
   let⟨xs,r,m⟩:=VR f d j
   let⟨x,q,s⟩:=Sq (xv:=a.tmps.getD b undef) f (λv hv=>by cases hv;exact d.rel b) g
   have c:∃e,a.tmps.getD b undef = .pointer (some e):=by
     cases hx:a.tmps.getD b undef with
     | pointer p=>cases p with
       |some e=>simp_all
       |none=>simp_all[Instr.loadAt,Instr.sureAddr]
     |_=>simp_all[Instr.loadAt,Instr.sureAddr]
   let⟨e,had⟩:=c
   rw[had]at q;have o:(loadVar ty e).run P0 w = .ok x w:=by simpa[Instr.loadAt,Instr.sureAddr]using q
   have hp:(ZM a.tmps (.cell b ty)).run P0 w = .ok x w:=by simp[ZM,had,asAddr,Lv,YJ,Pd,o]
   exact⟨x::xs,by simp_all,.cons _ _ _ _ s m⟩
theorem Vk{Δ:Env} {h:Hp} {w:World} {t:Tm} {a:Act} (d:WR Δ h w) (e:TR Δ n t a) {fn:Func} {vs:List V} (hv:DA t h fn.results.toList=some vs) :
  ∃x,(results fn a.tmps).run P0 w = .ok x w/\fZ Δ (Fq vs) x:=by
 let⟨xs,f,g⟩:=VR d e hv
 have i:(results fn a.tmps).run P0 w = .ok (if h:xs.toArray.size=1 then xs.toArray[0] else .tuple xs.toArray) w:=by
  have h0:results fn a.tmps=(do let vs <-fn.results.mapM (ZM a.tmps);pure (if h:vs.size=1 then vs[0] else .tuple vs)):=by
   congr 1
  rw[h0,Array.mapM_eq_mapM_toList];simp only[Lv,map_eq_pure_bind,f,Pd,YJ]
 refine⟨_,i,?_⟩
 cases g with
 |nil=>exact .tuple _ #[] .nil
 | cons v x vs xs b hs=>
   cases hs with
   |nil=>exact b
   | cons j k vs xs c hs=>
     rw[dif_neg (by simp)];exact .tuple _ _ (.cons _ _ _ _ b (.cons _ _ _ _ c hs))
theorem zbw (j:zP C) (hc:zF call) {m:Nat}:zF λf args h=>(FW C f).f call m args h:=by
 intro f args v h h' Δ w ie hv k A;simp only at hv;unfold FW at hv;split at hv
 ·rename_i fn n;split at hv
  ·rename_i c hb;right;have a:(callFunc f ie).run P0 w = .ok (.enter f ie) w:=by
    have D:=j.named f fn n;simp only[callFunc,Lv,run_program,Pd,n,D,hb,Option.isNone_some,wBM,if_false];rfl
   refine⟨a,?_⟩;simp[orB]at hv
   cases hk:C.K f args h with
   | some u=>
     rw[hk]at hv;simp only[jf,vU]at hv
     let⟨⟨hf1,hf2⟩,hv⟩:=hv
     cases hv;refine Calls.mono (j.known f args _ _ hk hf1 hf2 Δ w ie k (Qq A hf1)) λe w' o=>?_;obtain⟨x,rfl,hx,hs⟩:=o
     exact⟨Δ,x,rfl,hs.after k hx⟩
   | none=>
     rw[hk]at hv;simp only[jf,fR]at hv
     let⟨hle,r,p,d⟩:=hv
     have B:=MY hle;refine calls_of_wp_defers n hb ?_;refine Ah hc j.mixed c k (by grind[XE]) p λq a' w' g=>?_
     let⟨x,t',h''⟩:=r
     have b:(∃i,zbJ t'.ds h'' = some i/\∃vs,DA t' i fn.results.toList=some vs/\some (Fq vs,i)=some (v,h'))->
         Leaves P0 fn a'.tmps (λe w'=>∃q x,e = .returned x/\Km Δ h w v h' q x w') a'.defers .returning w':=by
       rintro⟨i,s,vs,t,o⟩;cases o;have hs:=g.tmps.ds;simp only at hs;generalize t'.ds=ds at hs s
       cases ds with
       | nil=>
         cases s;obtain⟨y,E,z⟩:=Vk g.world g.tmps t;generalize a'.defers=l at hs;cases hs
         exact⟨y,E,q,y,rfl,z,g.world,g.frame,g.grow⟩
       |cons _ _=>cases s
     cases x with
     |exit id=>cases d
     |normal=>simp only[fR]at d;exact b d
     |ret=>simp only[fR]at d;exact b d
  ·rename_i hb;left;simp only[fR]at hv
   let⟨u,p,d⟩:=hv
   cases d
   let⟨x,i,F⟩:=j.ext f fn n hb Δ args _ ie w p A
   exact⟨x,i,F,k,.refl _ _,.refl _ _⟩
 ·cases hv
theorem Kt (a:zP C) (m:Nat):∀d,zF (lg C m d)
 |0=>λf args v h h' Δ w ie hv=>(nomatch hv)
 |d+1=>zbw a (Kt a m d)
end
theorem Qz(c:Nat) (hc:c<256):∀(l:List UInt8) (n:Nat),OF c l n=n+l.count (UInt8.ofNat c)
 |[],n=>by rfl
 | b ::l,n=>by
   simp only[OF];rw[Qz c hc l,List.count_cons];have hb:Nat.beq b.toNat c=(b == UInt8.ofNat c):=by
     rw[Wr];simp only[Bg];constructor
     ·intro h
      have h':b.toNat=c:=Iw h;rw[<-h'];simp
     ·simp_all
   rw[hb];cases b == UInt8.ofNat c
   ·simp
   grind
theorem PW(c:Nat) (hc:c<256):∀(l:List UInt8) (n:Nat),(match RD c l n with|some i=>(i:Int)|none=>-1)=if Lib.indexByte l (UInt8.ofNat c) = -1 then -1 else Lib.indexByte l (UInt8.ofNat c)+n
 |[],n=>by rfl
 | b ::l,n=>by
   simp only[RD];have hb:Nat.beq b.toNat c=(b == UInt8.ofNat c):=by
     rw[Wr];simp only[Bg];constructor
     ·intro h
      have h':b.toNat=c:=Iw h;rw[<-h'];simp
     ·simp_all
   rw[hb];unfold Lib.indexByte
   cases hbc:b == UInt8.ofNat c with
   |true=>simp
   | false=>
     have d:=PW c hc l (n+1);have a:=Lib.indexByte_ge l (UInt8.ofNat c)
     grind
theorem X7{f:Nat} {fn:Func} (d:P0.funcs[f]? =some fn) (a:(fn.name == "runtime.NumGoroutine")=false) (hb:fn.body.isNone=true) (g:Extern.findNext fn=none) (h:Extern.find fn=some Extern.BytealgCount.count)
  {Δ:Env} {args:List V} {v:V} {ie:Array Value} {w:World} (hv:U9 .countByte args=some v) (i:gW Δ args ie.toList):∃x,(callFunc f ie).run P0 w = .ok (.value x) w/\fZ Δ v x:=by
 unfold U9 at hv;split at hv
 ·rename_i s c _;rw[jf]at hv;obtain⟨hc,hv⟩:=hv;have b:c<256:=by rw[UC]at hc;exact hc
  cases hv;obtain⟨l⟩:=ie
  cases i with
  | cons _ x _ xs hx hs=>
    cases hs with
    | cons _ y _ ys j hs=>
      cases hs;cases j;generalize oS:s=sl at hx
      cases hx with
      | str sb=>
        have k:=Lib.run_countString (P:=P0) sb (Int.ofNat c) w;refine⟨.int .i64 (Lib.countByte sb.data.toList (Int.ofNat c).toNat.toUInt8),?_,?_⟩
        ·rw[run_callFunc_extern d a hb g h]
         simp_all
        have e:OF c sb.data.toList 0=Lib.countByte sb.data.toList (Int.ofNat c).toNat.toUInt8:=by
          rw[Qz c b,C7];rfl
        rw[e];exact .int _ _
 ·simp_all
 ·cases hv
theorem Ys{f:Nat} {fn:Func} (d:P0.funcs[f]? =some fn) (a:(fn.name == "runtime.NumGoroutine")=false) (hb:fn.body.isNone=true) (g:Extern.findNext fn=none) (h:Extern.find fn=some Extern.BytealgIndexByte.indexByte)
  {Δ:Env} {args:List V} {v:V} {ie:Array Value} {w:World} (hv:U9 .indexByte args=some v) (j:gW Δ args ie.toList):∃x,(callFunc f ie).run P0 w = .ok (.value x) w/\fZ Δ v x:=by
 unfold U9 at hv;split at hv
 ·simp_all
 ·rename_i s c _;rw[jf]at hv;obtain⟨hc,hv⟩:=hv;have b:c<256:=by rw[UC]at hc;exact hc
  obtain⟨l⟩:=ie
  cases j with
  | cons _ x _ xs hx hs=>
    cases hs with
    | cons _ y _ ys k hs=>
      cases hs;cases k;generalize oS:s=sl at hx
      cases hx with
      | str sb=>
        have n:=Lib.run_indexByteString (P:=P0) sb (Int.ofNat c) w;refine⟨.int .i64 (Lib.indexByte sb.data.toList (Int.ofNat c).toNat.toUInt8),?_,?_⟩
        ·rw[run_callFunc_extern d a hb g h]
         simp_all
        have e:=PW c b sb.data.toList 0;have m:(if Lib.indexByte sb.data.toList (UInt8.ofNat c) = -1 then -1 else Lib.indexByte sb.data.toList (UInt8.ofNat c)+((0:Nat):Int))=Lib.indexByte sb.data.toList (Int.ofNat c).toNat.toUInt8:=by
          show _=Lib.indexByte sb.data.toList (UInt8.ofNat c);split
          ·omega
          ·simp
        rw[m]at e;rw[<-e];rw[oS]at hv;split at hv
        ·rename_i i hi;cases hv;rw[hi];exact .int _ _
        ·rename_i hi;cases hv;rw[hi];exact .int _ _
 ·cases hv
def Kept(W W':World):Prop:=W'.os=W.os/\W'.output=W.output/\W.heap.size<=W'.heap.size/\∀b,b<W.heap.size->W'.heap[b]? =W.heap[b]?
theorem Kept.FJ{W W':World} (h:Kept W W') (a:MemPlace->Prop):W.keptBut W' a:=by
 refine⟨h.1,h.2.1,λi hi=>?_⟩;rw[h.2.2.2 i hi]
 grind
theorem FR.kept{Δ a:Env}{w w':World}(h:FR Δ a w w')(c:∀b,¬RW Δ b):Kept w w':=⟨h.os,h.output,h.size,λb hb=>h.fk b hb (c b)⟩
def isTrue:Option (V×Hp)->Bool
 |some (.bool true,_)=>true
 |_=>false
theorem Dz.none{Δ:Env}{w:World}(h:Dz Δ w):Dz (λ_=>none) w:=λg c a=>⟨(h g c a).1,by simp_all⟩
theorem WR.start(n:Nat) (a:P0.globals.size<=n) (w:World) (ht:Dz (λ_=>none) w):WR (λ_=>none) {next:=n,tr:= .leaf} w:=
 ⟨by simp_all,by simp_all,by simp_all,by simp_all,by grind[Hp.get_eq,Tr.yX],a,ht⟩
theorem known (i:zP C) {m d n f:Nat} (s:P0.globals.size<=n) (hb:∃fn c,P0.funcs[f]? =some fn/\fn.body=some c) (hv:isTrue (lg C m d f [] {next:=n,tr:= .leaf})=true) (W:World) (ht:Dz (λ_=>none) W) :
  Calls P0 f #[] W λe W'=>e = .returned (.bool true)/\Kept W W':=by
 cases hr:lg C m d f [] {next:=n,tr:= .leaf} with
 |none=>rw[hr]at hv;cases hv
 | some r=>
   obtain ⟨v,h'⟩:=r;rw[hr]at hv;have a:v = .bool true:=by
     unfold isTrue at hv;split at hv
     ·simp_all
     ·cases hv
   subst a;rcases Kt i m d f [] _ _ _ (λ_=>none) W #[] hr (by grind[WR.start]) .nil with⟨x,t,_⟩|⟨_,o⟩
   ·exfalso
    obtain ⟨fn,c,j,g⟩:=hb;have h:=i.named f fn j;have:(callFunc f #[]).run P0 W = .ok (.enter f #[]) W:=by
      simp only[callFunc,Lv,run_program,Pd,j,h,g,Option.isNone_some,wBM,if_false];rfl
    simp_all
   ·refine Calls.mono o λe w' p=>?_
    obtain⟨u,x,rfl,k⟩:=p;have hx:=k.val;cases hx;exact⟨rfl,k.frame.kept λb hb=>(by obtain⟨l,d,q,_⟩:=hb;cases q)⟩
open Go.ChangeShapes Go.WideShapes in
theorem XS {H:Type} {enc:TypeId×Value->H} {P:Program} {f:Func} {s:ChangeSpec} {apart fresh handsOn again:Bool} {W W':World} {args:Array Value} {v:Value} {ds gs:List (DataW H)}
  {before pa pv:List MemPlace} (hW:DataW.Whole enc P f.params.toList s.vars apart W args.toList ds gs before)
  (ze1:∀(b:Nat) (sp:Nat->Bool) (hd:Bool),DataW.TrodAll enc P W' b sp hd f.resultTypes.toList (v.resultList f.resultTypes.size) (s.fn H (ds++gs)).results [])
  (zcq:∀sp:Nat->Bool,(∀p∈before,sp p.block=true)->DataW.TrodAll enc P W' 0 sp true f.params.toList args.toList (s.fn H (ds++gs)).args pa)
  (zda:∀sp:Nat->Bool,(∀p∈before,sp p.block=true)->DataW.TrodVars enc P W' sp s.vars (s.fn H (ds++gs)).vars pv)
  (hps:before=pa++pv) (hk:Kept W W')
  (hok:∀(j:Nat) (t:TypeId) (r:Value),f.resultTypes[j]? =some t->(v.resultList f.resultTypes.size)[j]? =some r->Value.okWide P W' .any 0 t r) :
  s.post enc P f apart fresh handsOn again W args v W':=by
 have Nr:∀p∈before,p.block<W.heap.size:=λp hp=>hW.lt p hp;have hold:∀p∈before,(λb=>decide (b<W.heap.size)) p.block=true:=by simp_all
 refine⟨ds,gs,before,[],pa,pv,hW,ze1 _ _ _,zcq _ hold,zda _ hold,hk.FJ _,λ_=>?_⟩;obtain⟨_,_,_,_,_,hz,hn⟩:=hW;refine⟨hok,_,_,([]++pa)++pv,⟨[]++pa,pv,trodAll_append (zcq _ (λ_ _=>rfl)) (ze1 _ _ _),zda _ (λ_ _=>rfl),rfl,?_,?_⟩,?_⟩
 ·intro b off hp;have hp':MemPlace.cell b off∈before:=by rw[hps];simpa using hp
  have hz':=hz b off hp';have hb:=Nr _ hp';have he:W'.frozen? ⟨b,off,none⟩=W.frozen? ⟨b,off,none⟩:=by
   unfold World.frozen?;have:=hk.2.2.2 b hb;simp only at this⊢;rw[this]
  simp_all
 ·simp_all
 simp_all
