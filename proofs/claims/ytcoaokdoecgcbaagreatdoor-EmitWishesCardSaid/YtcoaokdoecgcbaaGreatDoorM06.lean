/- Parts. -/
import Derived.Test.YtcoaokdoecgcbaaGreatDoorM05
import Derived.Defers
import Derived.Recover
import Derived.Lib.Bytealg
import Derived.Laws.Externs
import Derived.ChangeSame
import Derived.RowKit3
set_option maxHeartbeats 4000000
namespace Go.Proofs.YtcoaokdoecgcbaaGreatDoor.Hx
variable{C:mw}
structure Still (W W':World):Prop where
 os:W'.os=W.os
 tape:W'.tape=W.tape
 output:W'.output=W.output
 size:W.heap.size<=W'.heap.size
 fm:∀b,b<W.heap.size->W'.heap[b]? =W.heap[b]?
theorem FR.still{Δ a:Env}{w w':World}(h:FR Δ a w w')(c:∀b,¬RW Δ b):Still w w':=⟨h.os,h.tape,h.output,h.size,λb d=>h.fm b d (c b)⟩
theorem zgX(b:Nat):¬RW (λ_=> .none) b:=λ⟨_,_,hl,_⟩=>nomatch hl
theorem Still.after{Δ:Env} {h:Hp} {W W':World} (hs:Still W W') (a:WR Δ h W) {v:V} {x:Value} (hv:fU (λ_=> .none) v x):FU Δ h W v h Δ x W' where
 val:=hv.mono λ_ _ h=>by cases h
 world:=⟨a.fresh,λl d hl=>EP (a.Bt l d hl) hs.size,λl d hl=>by rw[hs.fm _ (a.Bt l d hl)];exact a.obj l d hl,a.apart,a.Ja,a.yB,a.WZ.step (λb c _=>hs.fm b c) (by simp_all)⟩
 frame:=⟨Env.le_refl _,hs.size,hs.os,hs.tape,hs.output,λb c _=>hs.fm b c,by simp_all⟩
 grow:= .refl _ _
theorem TY{Δ a:Env} {v:V} {x:Value} (h:fU Δ v x) (c:v.flat=true):fU a v x:=by
 cases h with
 |bool b=>exact .bool b
 |int k n=>exact .int k n
 |str s=>exact .str s
 |nilPtr=>exact .nilPtr
 |ed=>exact .ed
 |nJ=>exact .nJ
 |nilFunc=>exact .nilFunc
 |nilIface=>exact .nilIface
 |_=>grind[V.flat]
theorem Q6{Δ a:Env}:∀{vs:List V} {xs:List Value},gP Δ vs xs->Ve vs=true->gP a vs xs
 |[],_,.nil,_=> .nil
 | v::vs,_,.cons _ _ _ _ h hs,hf=>by
   simp only[Ve,wBq,xB]at hf;exact .cons _ _ _ _ (TY h hf.1) (Q6 hs hf.2)
structure zE (C:mw):Prop where
 PB:∀args,(C.start args).ds=[]
 start:∀args i,ij (C.start args) i=(args[i]?).getD .undef
 mixed:P0.follows .mixedOrders=true
 named:∀(f:Nat) fn,P0.funcs[f]? =some fn->(fn.name == "runtime.NumGoroutine")=false
 ext:∀f fn,P0.funcs[f]? =some fn->fn.body=none->∀Δ args v gW w,WG (C.ext f) args=some v->gP Δ args gW.toList->
  ∃x,(callFunc f gW).run P0 w = .ok (.value x) w/\fU Δ v x
 known:∀f args v h,C.K f args h=some v->Ve args=true->v.flat=true->∀Δ W gW,WR Δ h W->gP (λ_=> .none) args gW.toList->
  Calls P0 f gW W λe W'=>∃x,e = .returned x/\fU (λ_=> .none) v x/\Still W W'
section
variable{n:Nat}{call:Call}
theorem MD{kM ws:List It} (b:∀x∈ws,x∈kM):∀l k,(∀x∈l,x∈kM)->∀a∈order kM ws l k,a∈kM
 |[],k,_,a,ha=>(wBA.1 ha).1
 | w::l,k,hl,a,ha=>by
   simp[order,vU]at ha;rcases ha with h|rfl|h
   ·exact(wBA.1 h).1
   ·simp_all
   ·exact MD b l (k+1) (by simp_all) a h
theorem QZ(hc:wm call) (k:P0.follows .mixedOrders=true) {id:Nat} {ops:Array Oper} {Δ:Env} {h:Hp} {w:World} {t:Tm} {a:Act} (z:WR Δ h w) (C:TR Δ n t a)
  {r:Tm×Hp} (hp:tf (jd ops)=true) (D:(jd ops).all (EZ (jd ops))=true) (E:(jd ops).all BS=true) (l:wG (jd ops) (hD (jd ops)) (order (jd ops) (hD (jd ops)) (hD (jd ops)) 0) 0 0=true)
  (hv:(xG n ops.toList (hD (jd ops)) (order (jd ops) (hD (jd ops)) (hD (jd ops)) 0) 0).f call t h []=some r) {Q:Exit->Act->World->Prop} (F:∀s A w',An Δ h w n r.1 r.2 s A w'->Q .normal A w')
  (B:∀T,uL n ops.toList (jd ops) (hD (jd ops)) call t h (order (jd ops) (hD (jd ops)) (hD (jd ops)) 0) 0 0 h [] r T T->∀fuel c m w' j s t' a,0<=j->c.toList.count false<=fuel+1->
   Inv n ops t h Δ w T c j s t' m w'->a∈jd ops->cls a.o=2->c.getD a.i false=false->(∀x∈jd ops,a.b.testBit x.i=true->c.getD x.i false=true)->(hD (jd ops))[j]?≠some a->
   wpOp P0 ops Q a.i (wpAny P0 .any ops Q fuel (c.setIfInBounds a.i true)) m w'):(Code.region id ops true).wp P0 Q a w:=by
 have g:∀x∈order (jd ops) (hD (jd ops)) (hD (jd ops)) 0,x∈jd ops:=by grind[MD,ud]
 let G:Tc:=⟨λ_=>false,λ_=> .undef,λ_=> .tree .leaf [],λ_=>0,λ_=>0,λ_=>default,λ_=>h,λ_=>h⟩
 let ⟨T,hTr⟩:=trace (t0:=t) uS hp _ 0 0 t h [] r G g l hv (λa L p=>by simp at p)
  (by grind[Kf]) (jj _) (by omega) (L9 _)
 have u:uL n ops.toList (jd ops) (hD (jd ops)) call t h _ 0 0 h [] r T T:=
  ⟨by simp_all,by omega,hTr.item,hTr.Fo,hTr.more,hTr.chain,hTr.YF,hTr.Xw,hTr.last,hTr.qK,hTr.done,hTr.kle⟩
 refine wp_region_any k (Yl hc hp D E 0 (by grind) g u (B3 _ _ hv) F ops.size _ a _ 0 Δ t (jj _) ?_ ⟨by simp,λx p v=>?_,L9 _,λq x hq=>?_,C,λd=>?_,(z.heap (w':={w with drawn:=w.drawn+1}) rfl).SK hTr.more,
  ⟨Env.le_refl _,jj _,rfl,rfl,rfl,by simp_all,by simp_all⟩,by simp_all,rfl,λx p H I _ _=>?_⟩)
 ·simp_all
 ·simp[wBW,wBu]at v
  grind
 ·constructor
  ·intro J;simp[wBW,wBu]at J
   grind
  omega
 ·refine(Kf (λx _ _=>?_) _).symm;simp[wBW,wBu]
  grind
 ·have y:x∈order (jd ops) (hD (jd ops)) (hD (jd ops)) 0:=by
   rcases hTr.done x p with K|K
   ·simp_all
   ·grind[wN]
  have:=hTr.YF x y H I
  cases hd':Δ (T.pl x.i)with
  |none=>rfl
  |some e=>have:=z.fresh _ _ hd';omega
theorem zcT(hc:wm call) (c:P0.follows .mixedOrders=true) {id:Nat} {ops:Array Oper} {Δ:Env} {h:Hp} {w:World} {t:Tm} {a:Act} (l:WR Δ h w) (m:TR Δ n t a)
  {r:Tm×Hp} (hv:(Qg n ops.toList).f call t h=some r) {Q:Exit->Act->World->Prop} (j:∀o k w',An Δ h w n r.1 r.2 o k w'->Q .normal k w'):(Code.region id ops true).wp P0 Q a w:=by
 unfold Qg at hv;split at hv
 ·rename_i b;simp[ RR]at b
  grind[QZ,Y9]
 ·split at hv
  ·rename_i pr e b;simp only[xB,SL]at b
   let⟨⟨⟨hp,hg⟩,he⟩,hord⟩:=b
   simp only[fy,il]at hv;obtain⟨r',hv,g,q⟩:=hv;cases q
   let⟨x,y,da,db⟩:=pr
   let⟨s,u,v,z,A,B,C⟩:=U3 e
   let⟨p,D,E,F⟩:=PC s
   have d:∀x∈order (jd ops) (hD (jd ops)) (hD (jd ops)) 0,x∈jd ops:=by grind[MD,ud]
   exact QZ hc c l m hp hg he hord hv j λT i=>zbN hc hp hg he d i ⟨D,E,F,u,v,z,A,B,C,g⟩ (B3 _ _ hv) j
  ·cases hv
theorem KU{r:Option (X×Tm×Hp)} {k:Tm->Hp->Option (X×Tm×Hp)} {y:X×Tm×Hp} (h:Kc r k=some y) :
  (∃t h',r=some (.normal,t,h')/\k t h' = some y)\/(r=some y/\y.1≠ .normal):=by
 unfold Kc at h
 grind
theorem XG{next:Act->World->Prop} {Q:Exit->Act->World->Prop} {x:X} (b:x≠ .normal) {a:Act} {w:World} (h:Q x.to a w):Exit.then next Q x.to a w:=by
 cases x with
 |normal=>simp_all
 |exit id=>exact h
 |ret=>exact h
theorem Ab(hc:wm call) (d:P0.follows .mixedOrders=true) {m:Nat}:∀c {Δ:Env} {h:Hp} {w:World} {t:Tm} {a:Act},WR Δ h w->TR Δ n t a->∀{r:X×Tm×Hp},
  (jc n c).f call m t h=some r->∀{Q:Exit->Act->World->Prop},(∀u l w',An Δ h w n r.2.1 r.2.2 u l w'->Q r.1.to l w')->c.wp P0 Q a w
 | .skip,Δ,h,w,t,a,e,g,r,hv,Q,i=>by cases hv;exact wp_skip (i _ _ _ (.start g e))
 | .seq x y,Δ,h,w,t,a,e,g,r,hv,Q,i=>by
   refine wp_seq ?_;rcases KU hv with⟨E,q,e1,e2⟩|⟨e1,e2⟩
   ·exact Ab hc d x e g e1 λu l w' j=>Ab hc d y j.world j.tmps e2 λA B C s=>i _ _ _ (j.trans s)
   ·exact Ab hc d x e g e1 (by grind[XG])
 | .cond c x y,Δ,h,w,t,a,e,g,r,hv,Q,i=>by
   simp[jc,fy]at hv
   let⟨v,q,p⟩:=hv
   have z:=tV e g q;split at p
   ·rename_i b
    generalize hx:a.eval c=xv at z;cases z
    cases b with
    |true=>exact wp_cond_true hx (Ab hc d x e g p i)
    |false=>exact wp_cond_false hx (Ab hc d y e g p i)
   ·cases p
 | .block id c,Δ,h,w,t,a,e,g,r,hv,Q,i=>by
   simp[jc]at hv;refine wp_block ?_
   cases z:(jc n c).f call m t h with
   |none=>rw[z]at hv;cases hv
   | some r'=>
     rw[z]at hv;refine Ab hc d c e g z λu l w' j=>?_
     let⟨x,t',h'⟩:=r'
     cases x with
     |normal=>cases hv;exact i _ _ _ j
     |ret=>cases hv;exact i _ _ _ j
     | exit o=>
       simp[MC]at hv;show if o=id then Q .normal l w' else Q (.exit o) l w'
       cases hb:Nat.beq o id with
       | true=>
         rw[hb]at hv;have:=Cj hb;rw[if_pos this];cases hv
         exact i _ _ _ j
       | false=>
         rw[hb]at hv;have:o≠id:=by grind[wBk]
         rw[if_neg this];cases hv
         exact i _ _ _ j
 | .loop c,Δ,h,w,t,a,e,g,r,hv,Q,i=>by
   simp[jc]at hv;refine Ct.wp ?_;split at hv
   ·rename_i F G
    exact zdi hc G e g hv i
   have H:∀k {Δ:Env} {h:Hp} {w:World} {t:Tm} {a:Act},WR Δ h w->TR Δ n t a->Np (λt h=>(jc n c).f call m t h) k t h=some r->
       (∀u l w',An Δ h w n r.2.1 r.2.2 u l w'->Q r.1.to l w')->Ct c Q a w:=by
     intro k
     induction k with
     |zero=>intro Δ h w t a _ _ hv _;cases hv
     | succ k I=>
       intro Δ h w t a e g hv i;have D:=hv;refine Ct.round ?_;rcases KU D with⟨E,q,e1,e2⟩|⟨e1,e2⟩
       ·exact Ab hc d c e g e1 λu l w' j=>I j.world j.tmps e2 λA B C s=>i _ _ _ (j.trans s)
       ·exact Ab hc d c e g e1 (by grind[XG])
   grind
 | .exit id,Δ,h,w,t,a,e,g,r,hv,Q,i=>by cases hv;exact wp_exit (i _ _ _ (.start g e))
 | .ret,Δ,h,w,t,a,e,g,r,hv,Q,i=>by cases hv;exact wp_ret (i _ _ _ (.start g e))
 | .region id ops false,Δ,h,w,t,a,e,g,r,hv,Q,i=>by
   simp only[jc,fy]at hv
   let⟨r',q,p⟩:=hv
   cases p;refine wp_region ?_;have:=DU hc ops.toList 0 rfl e g q i
   grind[List.range_eq_range']
 | .region id ops true,Δ,h,w,t,a,e,g,r,hv,Q,i=>by
   simp only[jc,fy]at hv
   let⟨r',q,p⟩:=hv
   cases p
   exact zcT hc d e g q i
 | .rangeFunc ..,Δ,h,w,t,a,e,g,r,hv,Q,i=>by cases hv
 | .scope _,Δ,h,w,t,a,e,g,r,hv,Q,i=>by cases hv
 | .label _,Δ,h,w,t,a,e,g,r,hv,Q,i=>by cases hv
 | .goto _,Δ,h,w,t,a,e,g,r,hv,Q,i=>by cases hv
 | .refuse _,Δ,h,w,t,a,e,g,r,hv,Q,i=>by cases hv
noncomputable def QO(t:Tr V)(i:Nat):V:=Option.rec V.undef (λv=>v) (t.get i)
theorem Y1(t:Tr V)(d i:Nat)(v:V):QO (t.set d v) i=if d=i then v else QO t i:=iA (.tree t []) d i v
theorem Rx:∀args i t j,QO (UU args i t) j=if i<=j/\j<i+args.length then args[j-i]?.getD .undef else QO t j
 |[],i,t,j=>by rw[if_neg (by simp_all)];rfl
 | v ::vs,i,t,j=>by
   simp[UU];rw[Rx vs (i+1) (t.set i v) j];by_cases a:i+1<=j/\j<i+1+vs.length
   ·grind
   ·rw[ Y1]
    grind
theorem Wt(args:List V) (i:Nat):ij (W7 args) i=(args[i]?).getD .undef:=by
 have h:=Rx args 0 .leaf i;rw[show ij (W7 args) i=QO (UU args 0 .leaf) i from rfl,h]
 simp_all[Nat.sub_zero,QO,Tr.yQ]
theorem YS (a:zE C) {Δ:Env} {args:List V} {gW:Array Value} (b:gP Δ args gW.toList) {k:Nat} (c:args.length<=k) :
  TR Δ k (C.start args) {tmps:=gW++Array.replicate (k-gW.size) undef,defers:=[]}:=by
 have hl:=b.length;simp[wBG]at hl;refine⟨by simp;omega,λi=>?_,by rw[a.PB];exact .nil⟩;rw[a.start];simp[wBW];by_cases h:i<args.length
 ·rw[Array.getElem?_append_left (by omega)]
  let⟨x,hx,hr⟩:=b.get i args[i] (by simp_all)
  grind
 ·rw[ZR (by omega),Array.getElem?_append_right (by omega),wBu];split <;> exact .undef Δ
def zaS(tmps:Array Value):ResultVar->Sem Value
 | .tmp t=>pure (tmps.getD t undef)
 | .cell b ty=>do loadVar ty (<-asAddr (tmps.getD b undef))
theorem WB{Δ:Env} {h:Hp} {w:World} {t:Tm} {a:Act} (f:WR Δ h w) (d:TR Δ n t a):∀{l:List ResultVar} {vs:List V},DI t h l=some vs->
  ∃xs,(l.mapM (zaS a.tmps)).run P0 w = .ok xs w/\gP Δ vs xs
 |[],vs,hv=>by simp[DI]at hv;subst hv;exact⟨[],by simp,.nil⟩
 | .tmp i::l,vs,hv=>by
   simp[DI,fy]at hv
   let⟨v,g,vs',j,k⟩:=hv
   cases k
   let⟨xs,r,m⟩:=WB f d j
   cases g;have hp:(zaS a.tmps (.tmp i)).run P0 w = .ok (a.tmps.getD i undef) w:=rfl
   exact⟨a.tmps.getD i undef::xs,by simp_all,.cons _ _ _ _ (d.rel i) m⟩
 | .cell b ty::l,vs,hv=>by
   simp[DI,fy]at hv
   let⟨v,g,vs',j,k⟩:=hv
   cases k
   let⟨xs,r,m⟩:=WB f d j
   let⟨x,q,s⟩:=OQ (xv:=a.tmps.getD b undef) f (λv hv=>by cases hv;exact d.rel b) g
   have c:∃e,a.tmps.getD b undef = .pointer (some e):=by
     cases hx:a.tmps.getD b undef with
     | pointer p=>cases p with
       |some e=>simp_all
       |none=>simp_all[Instr.loadAt,Instr.sureAddr]
     |_=>simp_all[Instr.loadAt,Instr.sureAddr]
   let⟨e,had⟩:=c
   rw[had]at q;have o:(loadVar ty e).run P0 w = .ok x w:=by simpa[Instr.loadAt,Instr.sureAddr]using q
   have hp:(zaS a.tmps (.cell b ty)).run P0 w = .ok x w:=by simp[zaS,had,asAddr,CD,Tu,Gy,o]
   exact⟨x::xs,by simp_all,.cons _ _ _ _ s m⟩
theorem V8{Δ:Env} {h:Hp} {w:World} {t:Tm} {a:Act} (d:WR Δ h w) (e:TR Δ n t a) {fn:Func} {vs:List V} (hv:DI t h fn.results.toList=some vs) :
  ∃x,(results fn a.tmps).run P0 w = .ok x w/\fU Δ (EJ vs) x:=by
 let⟨xs,f,g⟩:=WB d e hv
 have i:(results fn a.tmps).run P0 w = .ok (if h:xs.toArray.size=1 then xs.toArray[0] else .tuple xs.toArray) w:=by
  have h0:results fn a.tmps=(do let vs <-fn.results.mapM (zaS a.tmps);pure (if h:vs.size=1 then vs[0] else .tuple vs)):=by
   congr 1
  rw[h0,Array.mapM_eq_mapM_toList];simp only[CD,map_eq_pure_bind,f,Gy,Tu]
 refine⟨_,i,?_⟩
 cases g with
 |nil=>exact .tuple _ #[] .nil
 | cons v x vs xs b hs=>
   cases hs with
   |nil=>exact b
   | cons j k vs xs c hs=>
     rw[dif_neg (by simp)];exact .tuple _ _ (.cons _ _ _ _ b (.cons _ _ _ _ c hs))
theorem zci (j:zE C) (hc:wm call) {m:Nat}:wm λf args h=>(Hm C f).f call m args h:=by
 intro f args v h h' Δ w gW hv k A;simp only at hv;unfold Hm at hv;split at hv
 ·rename_i fn n;split at hv
  ·rename_i c o;right;have a:(callFunc f gW).run P0 w = .ok (.enter f gW) w:=by
    have D:=j.named f fn n;simp only[callFunc,CD,run_program,Gy,n,D,o,Option.isNone_some,wBN,if_false];rfl
   refine⟨a,?_⟩;simp[orB]at hv
   cases hk:C.K f args h with
   | some u=>
     rw[hk]at hv;simp only[il,xB]at hv
     let⟨⟨hf1,hf2⟩,hv⟩:=hv
     cases hv;refine Calls.mono (j.known f args _ _ hk hf1 hf2 Δ w gW k (Q6 A hf1)) λe w' p=>?_;obtain⟨x,rfl,E,hs⟩:=p
     exact⟨Δ,x,rfl,hs.after k E⟩
   | none=>
     rw[hk]at hv;simp only[il,fy]at hv
     let⟨hle,r,q,d⟩:=hv
     have B:=ND hle;refine calls_of_wp_defers n o ?_;refine Ab hc j.mixed c k (by grind[YS]) q λs t w' g=>?_
     let⟨x,t',h''⟩:=r
     have b:(∃i,zcN t'.ds h'' = some i/\∃vs,DI t' i fn.results.toList=some vs/\some (EJ vs,i)=some (v,h'))->
         Leaves P0 fn t.tmps (λe w'=>∃s x,e = .returned x/\FU Δ h w v h' s x w') t.defers .returning w':=by
       rintro⟨i,hd,vs,z,p⟩;cases p;have hs:=g.tmps.ds;generalize t'.ds=ds at hs hd
       cases ds with
       | nil=>
         cases hd
         let⟨y,hy,hyr⟩:=V8 g.world g.tmps z
         generalize t.defers=l at hs;cases hs
         exact⟨y,hy,s,y,rfl,hyr,g.world,g.frame,g.grow⟩
       |cons _ _=>cases hd
     cases x with
     |exit id=>cases d
     |normal=>simp only[fy]at d;exact b d
     |ret=>simp only[fy]at d;exact b d
  ·rename_i o;left;simp only[fy]at hv
   let⟨u,q,d⟩:=hv
   cases d
   let⟨x,i,F⟩:=j.ext f fn n o Δ args _ gW w q A
   exact⟨x,i,F,k,.refl _ _,.refl _ _⟩
 ·cases hv
theorem K3 (a:zE C) (m:Nat):∀d,wm (lP C m d)
 |0=>λf args v h h' Δ w gW hv=>(nomatch hv)
 |d+1=>zci a (K3 a m d)
theorem Rm(c:Nat) (hc:c<256):∀l n,OW c l n=n+l.count (UInt8.ofNat c)
 |[],n=>by rfl
 | b ::l,n=>by
   simp [OW];rw[Rm c hc l,List.count_cons];have a:Nat.beq b.toNat c=(b == UInt8.ofNat c):=by
     rw[VC];simp only[Gi];constructor
     ·intro h
      have h':=Cj h;rw[<-h'];simp
     ·simp_all
   rw[a];cases b == UInt8.ofNat c
   ·simp
   grind
theorem QL(c:Nat) (hc:c<256):∀l n,(match SH c l n with|some i=>(i:Int)|none=>-1)=if Lib.indexByte l (UInt8.ofNat c) = -1 then -1 else Lib.indexByte l (UInt8.ofNat c)+n
 |[],n=>by rfl
 | b ::l,n=>by
   simp [SH];have a:Nat.beq b.toNat c=(b == UInt8.ofNat c):=by
     rw[VC];simp only[Gi];constructor
     ·intro h
      have h':=Cj h;rw[<-h'];simp
     ·simp_all
   rw[a];unfold Lib.indexByte
   cases hbc:b == UInt8.ofNat c with
   |true=>simp
   | false=>
     have e:=QL c hc l (n+1);have d:=Lib.indexByte_ge l (UInt8.ofNat c)
     grind
theorem YY{f:Nat} {fn:Func} (d:P0.funcs[f]? =some fn) (a:(fn.name == "runtime.NumGoroutine")=false) (g:fn.body.isNone=true) (h:Extern.findNext fn=none) (i:Extern.find fn=some Extern.BytealgCount.count)
  {Δ:Env} {args:List V} {v:V} {gW:Array Value} {w:World} (hv:WG .countByte args=some v) (j:gP Δ args gW.toList):∃x,(callFunc f gW).run P0 w = .ok (.value x) w/\fU Δ v x:=by
 unfold WG at hv;split at hv
 ·rename_i s c _;rw[il]at hv
  let⟨hc,hv⟩:=hv
  have b:c<256:=by rw[WE]at hc;exact hc
  cases hv
  let⟨l⟩:=gW
  cases j with
  | cons _ x _ xs k hs=>
    cases hs with
    | cons _ y _ ys m hs=>
      cases hs;cases m
      cases k with
      | str sb=>
        have n:=Lib.run_countString (P:=P0) sb (Int.ofNat c) w;refine⟨.int .i64 (Lib.countByte sb.data.toList (Int.ofNat c).toNat.toUInt8),?_,?_⟩
        ·rw[run_callFunc_extern d a g h i]
         simp_all
        have e:OW c sb.data.toList 0=Lib.countByte sb.data.toList (Int.ofNat c).toNat.toUInt8:=by
          rw[Rm c b,Gg];rfl
        rw[e];exact .int _ _
 ·simp_all
 ·cases hv
theorem Y7{f:Nat} {fn:Func} (g:P0.funcs[f]? =some fn) (a:(fn.name == "runtime.NumGoroutine")=false) (h:fn.body.isNone=true) (j:Extern.findNext fn=none) (k:Extern.find fn=some Extern.BytealgIndexByte.indexByte)
  {Δ:Env} {args:List V} {v:V} {gW:Array Value} {w:World} (hv:WG .indexByte args=some v) (m:gP Δ args gW.toList):∃x,(callFunc f gW).run P0 w = .ok (.value x) w/\fU Δ v x:=by
 unfold WG at hv;split at hv
 ·simp_all
 ·rename_i s c _;rw[il]at hv
  let⟨hc,hv⟩:=hv
  have b:c<256:=by rw[WE]at hc;exact hc
  let⟨l⟩:=gW
  cases m with
  | cons _ x _ xs d hs=>
    cases hs with
    | cons _ y _ ys n hs=>
      cases hs;cases n;generalize qU:s=sl at d
      cases d with
      | str sb=>
        have o:=Lib.run_indexByteString (P:=P0) sb (Int.ofNat c) w;refine⟨.int .i64 (Lib.indexByte sb.data.toList (Int.ofNat c).toNat.toUInt8),?_,?_⟩
        ·rw[run_callFunc_extern g a h j k]
         simp_all
        have e:=QL c b sb.data.toList 0;have e2:(if Lib.indexByte sb.data.toList (UInt8.ofNat c) = -1 then -1 else Lib.indexByte sb.data.toList (UInt8.ofNat c)+((0:Nat):Int))=Lib.indexByte sb.data.toList (Int.ofNat c).toNat.toUInt8:=by
          show _=Lib.indexByte sb.data.toList (UInt8.ofNat c);split
          ·omega
          ·simp
        rw[e2]at e;rw[<-e];rw[qU]at hv;split at hv
        ·rename_i i hi;cases hv;rw[hi];exact .int _ _
        ·rename_i hi;cases hv;rw[hi];exact .int _ _
 ·cases hv
def Kept(W W':World):Prop:=W'.os=W.os/\W'.output=W.output/\W.heap.size<=W'.heap.size/\∀b,b<W.heap.size->W'.heap[b]? =W.heap[b]?
theorem Kept.but{W W':World} (h:Kept W W') (a:MemPlace->Prop):W.keptBut W' a:=by
 refine⟨h.1,h.2.1,λi hi=>?_⟩;rw[h.2.2.2 i hi]
 grind
theorem FR.kept{Δ a:Env}{w w':World}(h:FR Δ a w w')(c:∀b,¬RW Δ b):Kept w w':=⟨h.os,h.output,h.size,λb d=>h.fm b d (c b)⟩
def isTrue:Option (V×Hp)->Bool
 |some (.bool true,_)=>true
 |_=>false
theorem Di.none{Δ:Env}{w:World}(h:Di Δ w):Di (λ_=>none) w:=λg c a=>⟨(h g c a).1,by simp_all⟩
theorem WR.start(n:Nat) (a:P0.globals.size<=n) (w:World) (b:Di (λ_=>none) w):WR (λ_=>none) {next:=n,tr:= .leaf} w:=
 ⟨by simp_all,by simp_all,by simp_all,by simp_all,by grind[Hp.get_eq,Tr.yQ],a,b⟩
theorem known (i:zE C) {m d n f:Nat} (q:P0.globals.size<=n) (a:∃fn c,P0.funcs[f]? =some fn/\fn.body=some c) (hv:isTrue (lP C m d f [] {next:=n,tr:= .leaf})=true) (W:World) (s:Di (λ_=>none) W) :
  Calls P0 f #[] W λe W'=>e = .returned (.bool true)/\Kept W W':=by
 cases hr:lP C m d f [] {next:=n,tr:= .leaf} with
 |none=>rw[hr]at hv;cases hv
 | some r=>
   let⟨v,h'⟩:=r
   rw[hr]at hv;have g:v = .bool true:=by
     unfold isTrue at hv;split at hv
     ·simp_all
     ·cases hv
   subst g;rcases K3 i m d f [] _ _ _ (λ_=>none) W #[] hr (by grind[WR.start]) .nil with⟨x,t,_⟩|⟨_,k⟩
   ·exfalso
    let⟨fn,c,hf,hbd⟩:=a
    have h:=i.named f fn hf;have:(callFunc f #[]).run P0 W = .ok (.enter f #[]) W:=by
      simp only[callFunc,CD,run_program,Gy,hf,h,hbd,Option.isNone_some,wBN,if_false];rfl
    simp_all
   ·refine Calls.mono k λe w' o=>?_
    obtain⟨u,x,rfl,j⟩:=o;have p:=j.val;cases p;exact⟨rfl,j.frame.kept λb a=>(by let⟨l,d,hl,_⟩:=a;cases hl)⟩
end
open Go.ChangeShapes Go.WideShapes in
theorem YD {H:Type} {enc:TypeId×Value->H} {P:Program} {f:Func} {s:ChangeSpec} {apart fresh handsOn again:Bool} {W W':World} {args:Array Value} {v:Value} {ds gs:List (DataW H)}
  {before pa pv:List MemPlace} (hW:DataW.Whole enc P f.params.toList s.vars apart W args.toList ds gs before)
  (zfF:∀(b:Nat) (sp:Nat->Bool) (hd:Bool),DataW.TrodAll enc P W' b sp hd f.resultTypes.toList (v.resultList f.resultTypes.size) (s.fn H (ds++gs)).results [])
  (zd4:∀sp:Nat->Bool,(∀p∈before,sp p.block=true)->DataW.TrodAll enc P W' 0 sp true f.params.toList args.toList (s.fn H (ds++gs)).args pa)
  (zdZ:∀sp:Nat->Bool,(∀p∈before,sp p.block=true)->DataW.TrodVars enc P W' sp s.vars (s.fn H (ds++gs)).vars pv)
  (hps:before=pa++pv) (hk:Kept W W')
  (hok:∀(j:Nat) (t:TypeId) (r:Value),f.resultTypes[j]? =some t->(v.resultList f.resultTypes.size)[j]? =some r->Value.okWide P W' .any 0 t r) :
  s.post enc P f apart fresh handsOn again W args v W':=by
 have FX:∀p∈before,p.block<W.heap.size:=λp hp=>hW.lt p hp;have hold:∀p∈before,(λb=>decide (b<W.heap.size)) p.block=true:=by simp_all
 refine⟨ds,gs,before,[],pa,pv,hW,zfF _ _ _,zd4 _ hold,zdZ _ hold,hk.but _,λ_=>?_⟩;obtain⟨_,_,_,_,_,hz,hn⟩:=hW;refine⟨hok,_,_,([]++pa)++pv,⟨[]++pa,pv,trodAll_append (zd4 _ (λ_ _=>rfl)) (zfF _ _ _),zdZ _ (λ_ _=>rfl),rfl,?_,?_⟩,?_⟩
 ·intro b off hp;have hp':MemPlace.cell b off∈before:=by rw[hps];simpa using hp
  have hz':=hz b off hp';have hb:=FX _ hp';have he:W'.frozen? ⟨b,off,none⟩=W.frozen? ⟨b,off,none⟩:=by
   unfold World.frozen?;have:=hk.2.2.2 b hb;simp only at this⊢;rw[this]
  simp_all
 ·simp_all
 simp_all
