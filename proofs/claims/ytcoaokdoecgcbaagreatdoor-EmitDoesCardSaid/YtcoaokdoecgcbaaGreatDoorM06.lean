/- Parts. -/
import Derived.Test.YtcoaokdoecgcbaaGreatDoorM05
import Derived.Defers
import Derived.Recover
import Derived.Lib.Bytealg
import Derived.Laws.Externs
import Derived.ChangeSame
import Derived.RowKit3
set_option maxHeartbeats 4000000
namespace Go.Proofs.YtcoaokdoecgcbaaGreatDoor.Hx
variable{C:mh}
structure Still (W W':World):Prop where
 os:W'.os=W.os
 tape:W'.tape=W.tape
 output:W'.output=W.output
 size:W.heap.size<=W'.heap.size
 fy:∀b,b<W.heap.size->W'.heap[b]? =W.heap[b]?
theorem FR.still{Δ a:Env}{w w':World}(h:FR Δ a w w')(c:∀b,¬RW Δ b):Still w w':=⟨h.os,h.tape,h.output,h.size,λb d=>h.fy b d (c b)⟩
theorem zhM(b:Nat):¬RW (λ_=> .none) b:=λ⟨_,_,hl,_⟩=>nomatch hl
theorem Still.after{Δ:Env} {h:Hp} {W W':World} (hs:Still W W') (a:WR Δ h W) {v:V} {x:Value} (hv:fV (λ_=> .none) v x):GN Δ h W v h Δ x W' where
 val:=hv.mono λ_ _ h=>by cases h
 world:=⟨a.fresh,λl d hl=>NY (a.B8 l d hl) hs.size,λl d hl=>by rw[hs.fy _ (a.B8 l d hl)];exact a.obj l d hl,a.apart,a.JT,a.yQ,a.XK.step (λb c _=>hs.fy b c) (by simp_all)⟩
 frame:=⟨Env.le_refl _,hs.size,hs.os,hs.tape,hs.output,λb c _=>hs.fy b c,by simp_all⟩
 grow:= .refl _ _
theorem UI{Δ a:Env} {v:V} {x:Value} (h:fV Δ v x) (c:v.flat=true):fV a v x:=by
 cases h with
 |bool b=>exact .bool b
 |int k n=>exact .int k n
 |str s=>exact .str s
 |nilPtr=>exact .nilPtr
 |ed=>exact .ed
 |nA=>exact .nA
 |nilFunc=>exact .nilFunc
 |nilIface=>exact .nilIface
 |_=>grind[V.flat]
theorem RX{Δ a:Env}:∀{vs:List V} {xs:List Value},gR Δ vs xs->Vn vs=true->gR a vs xs
 |[],_,.nil,_=> .nil
 | v::vs,_,.cons _ _ _ _ h hs,hf=>by
   simp only[Vn,wBo,yF]at hf;exact .cons _ _ _ _ (UI h hf.1) (RX hs hf.2)
structure AA (C:mh):Prop where
 Qj:∀args,(C.start args).ds=[]
 start:∀args i,ij (C.start args) i=(args[i]?).getD .undef
 mixed:P0.follows .mixedOrders=true
 named:∀(f:Nat) fn,P0.funcs[f]? =some fn->(fn.name == "runtime.NumGoroutine")=false
 ext:∀f fn,P0.funcs[f]? =some fn->fn.body=none->∀Δ args v gW w,XU (C.ext f) args=some v->gR Δ args gW.toList->
  ∃x,(callFunc f gW).run P0 w = .ok (.value x) w/\fV Δ v x
 known:∀f args v h,C.K f args h=some v->Vn args=true->v.flat=true->∀Δ W gW,WR Δ h W->gR (λ_=> .none) args gW.toList->
  Calls P0 f gW W λe W'=>∃x,e = .returned x/\fV (λ_=> .none) v x/\Still W W'
section
variable{n:Nat}{call:Call}
theorem NK{kr ws:List It} (b:∀x∈ws,x∈kr):∀l k,(∀x∈l,x∈kr)->∀a∈order kr ws l k,a∈kr
 |[],k,_,a,ha=>(wA9.1 ha).1
 | w::l,k,hl,a,ha=>by
   simp[order,yX]at ha;rcases ha with h|rfl|h
   ·exact(wA9.1 h).1
   ·simp_all
   ·exact NK b l (k+1) (by simp_all) a h
theorem SB(hc:xo call) (k:P0.follows .mixedOrders=true) {id:Nat} {ops:Array Oper} {Δ:Env} {h:Hp} {w:World} {t:Tm} {a:Act} (z:WR Δ h w) (C:TR Δ n t a)
  {r:Tm×Hp} (hp:tw (je ops)=true) (D:(je ops).all (FM (je ops))=true) (E:(je ops).all Cw=true) (l:xy (je ops) (hH (je ops)) (order (je ops) (hH (je ops)) (hH (je ops)) 0) 0 0=true)
  (hv:(yA n ops.toList (hH (je ops)) (order (je ops) (hH (je ops)) (hH (je ops)) 0) 0).f call t h []=some r) {Q:Exit->Act->World->Prop} (F:∀s A w',AG Δ h w n r.1 r.2 s A w'->Q .normal A w')
  (B:∀T,vt n ops.toList (je ops) (hH (je ops)) call t h (order (je ops) (hH (je ops)) (hH (je ops)) 0) 0 0 h [] r T T->∀fuel c m w' j s t' a,0<=j->c.toList.count false<=fuel+1->
   Inv n ops t h Δ w T c j s t' m w'->a∈je ops->cls a.o=2->c.getD a.i false=false->(∀x∈je ops,a.b.testBit x.i=true->c.getD x.i false=true)->(hH (je ops))[j]?≠some a->
   wpOp P0 ops Q a.i (wpAny P0 .any ops Q fuel (c.setIfInBounds a.i true)) m w'):(Code.region id ops true).wp P0 Q a w:=by
 have g:∀x∈order (je ops) (hH (je ops)) (hH (je ops)) 0,x∈je ops:=by grind[NK,uz]
 let G:Tc:=⟨λ_=>false,λ_=> .undef,λ_=> .tree .leaf [],λ_=>0,λ_=>0,λ_=>default,λ_=>h,λ_=>h⟩
 let ⟨T,hTr⟩:=trace (t0:=t) vF hp _ 0 0 t h [] r G g l hv (λa L p=>by simp at p)
  (by grind[Ld]) (jJ _) (by omega) (PM _)
 have u:vt n ops.toList (je ops) (hH (je ops)) call t h _ 0 0 h [] r T T:=
  ⟨by simp_all,by omega,hTr.item,hTr.Gg,hTr.more,hTr.chain,hTr.zaJ,hTr.Yo,hTr.last,hTr.qz,hTr.done,hTr.kle⟩
 refine wp_region_any k (YQ hc hp D E 0 (by grind) g u (Cj _ _ hv) F ops.size _ a _ 0 Δ t (jJ _) ?_ ⟨by simp,λx p v=>?_,PM _,λq x hq=>?_,C,λd=>?_,(z.heap (w':={w with drawn:=w.drawn+1}) rfl).Tf hTr.more,
  ⟨Env.le_refl _,jJ _,rfl,rfl,rfl,by simp_all,by simp_all⟩,by simp_all,rfl,λx p H I _ _=>?_⟩)
 ·simp_all
 ·simp[wBV,wBr]at v
  grind
 ·constructor
  ·intro J;simp[wBV,wBr]at J
   grind
  omega
 ·refine(Ld (λx _ _=>?_) _).symm;simp[wBV,wBr]
  grind
 ·have y:x∈order (je ops) (hH (je ops)) (hH (je ops)) 0:=by
   rcases hTr.done x p with K|K
   ·simp_all
   ·grind[xA]
  have:=hTr.zaJ x y H I
  cases hd':Δ (T.pl x.i)with
  |none=>rfl
  |some e=>have:=z.fresh _ _ hd';omega
theorem zdU(hc:xo call) (c:P0.follows .mixedOrders=true) {id:Nat} {ops:Array Oper} {Δ:Env} {h:Hp} {w:World} {t:Tm} {a:Act} (l:WR Δ h w) (m:TR Δ n t a)
  {r:Tm×Hp} (hv:(Rj n ops.toList).f call t h=some r) {Q:Exit->Act->World->Prop} (j:∀o k w',AG Δ h w n r.1 r.2 o k w'->Q .normal k w'):(Code.region id ops true).wp P0 Q a w:=by
 unfold Rj at hv;split at hv
 ·rename_i b;simp[ T6]at b
  grind[SB,zaa]
 ·split at hv
  ·rename_i pr e b;simp only[yF,Uv]at b
   let⟨⟨⟨hp,hg⟩,he⟩,hord⟩:=b
   simp only[fD,ik]at hv;obtain⟨r',hv,g,q⟩:=hv;cases q
   let⟨x,y,da,db⟩:=pr
   let⟨s,u,v,z,A,B,C⟩:=UO e
   let⟨p,D,E,F⟩:=Qx s
   have d:∀x∈order (je ops) (hH (je ops)) (hH (je ops)) 0,x∈je ops:=by grind[NK,uz]
   exact SB hc c l m hp hg he hord hv j λT i=>zbW hc hp hg he d i ⟨D,E,F,u,v,z,A,B,C,g⟩ (Cj _ _ hv) j
  ·cases hv
theorem M0{r:Option (X×Tm×Hp)} {k:Tm->Hp->Option (X×Tm×Hp)} {y:X×Tm×Hp} (h:K4 r k=some y) :
  (∃t h',r=some (.normal,t,h')/\k t h' = some y)\/(r=some y/\y.1≠ .normal):=by
 unfold K4 at h
 grind
theorem ZK{next:Act->World->Prop} {Q:Exit->Act->World->Prop} {x:X} (b:x≠ .normal) {a:Act} {w:World} (h:Q x.to a w):Exit.then next Q x.to a w:=by
 cases x with
 |normal=>simp_all
 |exit id=>exact h
 |ret=>exact h
theorem AT(hc:xo call) (d:P0.follows .mixedOrders=true) {m:Nat}:∀c {Δ:Env} {h:Hp} {w:World} {t:Tm} {a:Act},WR Δ h w->TR Δ n t a->∀{r:X×Tm×Hp},
  (jc n c).f call m t h=some r->∀{Q:Exit->Act->World->Prop},(∀u l w',AG Δ h w n r.2.1 r.2.2 u l w'->Q r.1.to l w')->c.wp P0 Q a w
 | .skip,Δ,h,w,t,a,e,g,r,hv,Q,i=>by cases hv;exact wp_skip (i _ _ _ (.start g e))
 | .seq x y,Δ,h,w,t,a,e,g,r,hv,Q,i=>by
   refine wp_seq ?_;rcases M0 hv with⟨E,q,e1,e2⟩|⟨e1,e2⟩
   ·exact AT hc d x e g e1 λu l w' j=>AT hc d y j.world j.tmps e2 λA B C s=>i _ _ _ (j.trans s)
   ·exact AT hc d x e g e1 (by grind[ZK])
 | .cond c x y,Δ,h,w,t,a,e,g,r,hv,Q,i=>by
   simp[jc,fD]at hv
   let⟨v,q,p⟩:=hv
   have z:=uf e g q;split at p
   ·rename_i b
    generalize hx:a.eval c=xv at z;cases z
    cases b with
    |true=>exact wp_cond_true hx (AT hc d x e g p i)
    |false=>exact wp_cond_false hx (AT hc d y e g p i)
   ·cases p
 | .block id c,Δ,h,w,t,a,e,g,r,hv,Q,i=>by
   simp[jc]at hv;refine wp_block ?_
   cases z:(jc n c).f call m t h with
   |none=>rw[z]at hv;cases hv
   | some r'=>
     rw[z]at hv;refine AT hc d c e g z λu l w' j=>?_
     let⟨x,t',h'⟩:=r'
     cases x with
     |normal=>cases hv;exact i _ _ _ j
     |ret=>cases hv;exact i _ _ _ j
     | exit o=>
       simp[Nh]at hv;show if o=id then Q .normal l w' else Q (.exit o) l w'
       cases hb:Nat.beq o id with
       | true=>
         rw[hb]at hv;have:=DG hb;rw[if_pos this];cases hv
         exact i _ _ _ j
       | false=>
         rw[hb]at hv;have:o≠id:=by grind[wBh]
         rw[if_neg this];cases hv
         exact i _ _ _ j
 | .loop c,Δ,h,w,t,a,e,g,r,hv,Q,i=>by
   simp[jc]at hv;refine CV.wp ?_;split at hv
   ·rename_i F G
    exact zeA hc G e g hv i
   have H:∀k {Δ:Env} {h:Hp} {w:World} {t:Tm} {a:Act},WR Δ h w->TR Δ n t a->Oy (λt h=>(jc n c).f call m t h) k t h=some r->
       (∀u l w',AG Δ h w n r.2.1 r.2.2 u l w'->Q r.1.to l w')->CV c Q a w:=by
     intro k
     induction k with
     |zero=>intro Δ h w t a _ _ hv _;cases hv
     | succ k I=>
       intro Δ h w t a e g hv i;have D:=hv;refine CV.round ?_;rcases M0 D with⟨E,q,e1,e2⟩|⟨e1,e2⟩
       ·exact AT hc d c e g e1 λu l w' j=>I j.world j.tmps e2 λA B C s=>i _ _ _ (j.trans s)
       ·exact AT hc d c e g e1 (by grind[ZK])
   grind
 | .exit id,Δ,h,w,t,a,e,g,r,hv,Q,i=>by cases hv;exact wp_exit (i _ _ _ (.start g e))
 | .ret,Δ,h,w,t,a,e,g,r,hv,Q,i=>by cases hv;exact wp_ret (i _ _ _ (.start g e))
 | .region id ops false,Δ,h,w,t,a,e,g,r,hv,Q,i=>by
   simp only[jc,fD]at hv
   let⟨r',q,p⟩:=hv
   cases p;refine wp_region ?_;have:=EU hc ops.toList 0 rfl e g q i
   grind[List.range_eq_range']
 | .region id ops true,Δ,h,w,t,a,e,g,r,hv,Q,i=>by
   simp only[jc,fD]at hv
   let⟨r',q,p⟩:=hv
   cases p
   exact zdU hc d e g q i
 | .rangeFunc ..,Δ,h,w,t,a,e,g,r,hv,Q,i=>by cases hv
 | .scope _,Δ,h,w,t,a,e,g,r,hv,Q,i=>by cases hv
 | .label _,Δ,h,w,t,a,e,g,r,hv,Q,i=>by cases hv
 | .goto _,Δ,h,w,t,a,e,g,r,hv,Q,i=>by cases hv
 | .refuse _,Δ,h,w,t,a,e,g,r,hv,Q,i=>by cases hv
noncomputable def Sy(t:Tr V)(i:Nat):V:=Option.rec V.undef (λv=>v) (t.get i)
theorem ZZ(t:Tr V)(d i:Nat)(v:V):Sy (t.set d v) i=if d=i then v else Sy t i:=iz (.tree t []) d i v
theorem RM:∀args i t j,Sy (Vz args i t) j=if i<=j/\j<i+args.length then args[j-i]?.getD .undef else Sy t j
 |[],i,t,j=>by rw[if_neg (by simp_all)];rfl
 | v ::vs,i,t,j=>by
   simp[Vz];rw[RM vs (i+1) (t.set i v) j];by_cases a:i+1<=j/\j<i+1+vs.length
   ·grind
   ·rw[ ZZ]
    grind
theorem Xz(args:List V) (i:Nat):ij (Xd args) i=(args[i]?).getD .undef:=by
 have h:=RM args 0 .leaf i;rw[show ij (Xd args) i=Sy (Vz args 0 .leaf) i from rfl,h]
 simp_all[Nat.sub_zero,Sy,Tr.ze]
theorem Z8 (a:AA C) {Δ:Env} {args:List V} {gW:Array Value} (b:gR Δ args gW.toList) {k:Nat} (c:args.length<=k) :
  TR Δ k (C.start args) {tmps:=gW++Array.replicate (k-gW.size) undef,defers:=[]}:=by
 have hl:=b.length;simp[wBE]at hl;refine⟨by simp;omega,λi=>?_,by rw[a.Qj];exact .nil⟩;rw[a.start];simp[wBV];by_cases h:i<args.length
 ·rw[Array.getElem?_append_left (by omega)]
  let⟨x,hx,hr⟩:=b.get i args[i] (by simp_all)
  grind
 ·rw[Z2 (by omega),Array.getElem?_append_right (by omega),wBr];split <;> exact .undef Δ
def zbY(tmps:Array Value):ResultVar->Sem Value
 | .tmp t=>pure (tmps.getD t undef)
 | .cell b ty=>do loadVar ty (<-asAddr (tmps.getD b undef))
theorem Xm{Δ:Env} {h:Hp} {w:World} {t:Tm} {a:Act} (f:WR Δ h w) (d:TR Δ n t a):∀{l:List ResultVar} {vs:List V},EW t h l=some vs->
  ∃xs,(l.mapM (zbY a.tmps)).run P0 w = .ok xs w/\gR Δ vs xs
 |[],vs,hv=>by simp[EW]at hv;subst hv;exact⟨[],by simp,.nil⟩
 | .tmp i::l,vs,hv=>by
   simp[EW,fD]at hv
   let⟨v,g,vs',j,k⟩:=hv
   cases k
   let⟨xs,r,m⟩:=Xm f d j
   cases g;have hp:(zbY a.tmps (.tmp i)).run P0 w = .ok (a.tmps.getD i undef) w:=rfl
   exact⟨a.tmps.getD i undef::xs,by simp_all,.cons _ _ _ _ (d.rel i) m⟩
 | .cell b ty::l,vs,hv=>by
   simp[EW,fD]at hv
   let⟨v,g,vs',j,k⟩:=hv
   cases k
   let⟨xs,r,m⟩:=Xm f d j
   let⟨x,q,s⟩:=PZ (xv:=a.tmps.getD b undef) f (λv hv=>by cases hv;exact d.rel b) g
   have c:∃e,a.tmps.getD b undef = .pointer (some e):=by
     cases hx:a.tmps.getD b undef with
     | pointer p=>cases p with
       |some e=>simp_all
       |none=>simp_all[Instr.loadAt,Instr.sureAddr]
     |_=>simp_all[Instr.loadAt,Instr.sureAddr]
   let⟨e,had⟩:=c
   rw[had]at q;have o:(loadVar ty e).run P0 w = .ok x w:=by simpa[Instr.loadAt,Instr.sureAddr]using q
   have hp:(zbY a.tmps (.cell b ty)).run P0 w = .ok x w:=by simp[zbY,had,asAddr,DO,UE,Hi,o]
   exact⟨x::xs,by simp_all,.cons _ _ _ _ s m⟩
theorem Xh{Δ:Env} {h:Hp} {w:World} {t:Tm} {a:Act} (d:WR Δ h w) (e:TR Δ n t a) {fn:Func} {vs:List V} (hv:EW t h fn.results.toList=some vs) :
  ∃x,(results fn a.tmps).run P0 w = .ok x w/\fV Δ (Gc vs) x:=by
 let⟨xs,f,g⟩:=Xm d e hv
 have i:(results fn a.tmps).run P0 w = .ok (if h:xs.toArray.size=1 then xs.toArray[0] else .tuple xs.toArray) w:=by
  have h0:results fn a.tmps=(do let vs <-fn.results.mapM (zbY a.tmps);pure (if h:vs.size=1 then vs[0] else .tuple vs)):=by
   congr 1
  rw[h0,Array.mapM_eq_mapM_toList];simp only[DO,map_eq_pure_bind,f,Hi,UE]
 refine⟨_,i,?_⟩
 cases g with
 |nil=>exact .tuple _ #[] .nil
 | cons v x vs xs b hs=>
   cases hs with
   |nil=>exact b
   | cons j k vs xs c hs=>
     rw[dif_neg (by simp)];exact .tuple _ _ (.cons _ _ _ _ b (.cons _ _ _ _ c hs))
theorem zeK (j:AA C) (hc:xo call) {m:Nat}:xo λf args h=>(IJ C f).f call m args h:=by
 intro f args v h h' Δ w gW hv k A;simp only at hv;unfold IJ at hv;split at hv
 ·rename_i fn n;split at hv
  ·rename_i c o;right;have a:(callFunc f gW).run P0 w = .ok (.enter f gW) w:=by
    have D:=j.named f fn n;simp only[callFunc,DO,run_program,Hi,n,D,o,Option.isNone_some,wBK,if_false];rfl
   refine⟨a,?_⟩;simp[orB]at hv
   cases hk:C.K f args h with
   | some u=>
     rw[hk]at hv;simp only[ik,yF]at hv
     let⟨⟨hf1,hf2⟩,hv⟩:=hv
     cases hv;refine Calls.mono (j.known f args _ _ hk hf1 hf2 Δ w gW k (RX A hf1)) λe w' p=>?_;obtain⟨x,rfl,E,hs⟩:=p
     exact⟨Δ,x,rfl,hs.after k E⟩
   | none=>
     rw[hk]at hv;simp only[ik,fD]at hv
     let⟨hle,r,q,d⟩:=hv
     have B:=Oz hle;refine calls_of_wp_defers n o ?_;refine AT hc j.mixed c k (by grind[Z8]) q λs t w' g=>?_
     let⟨x,t',h''⟩:=r
     have b:(∃i,zdK t'.ds h'' = some i/\∃vs,EW t' i fn.results.toList=some vs/\some (Gc vs,i)=some (v,h'))->
         Leaves P0 fn t.tmps (λe w'=>∃s x,e = .returned x/\GN Δ h w v h' s x w') t.defers .returning w':=by
       rintro⟨i,hd,vs,z,p⟩;cases p;have hs:=g.tmps.ds;generalize t'.ds=ds at hs hd
       cases ds with
       | nil=>
         cases hd
         let⟨y,hy,hyr⟩:=Xh g.world g.tmps z
         generalize t.defers=l at hs;cases hs
         exact⟨y,hy,s,y,rfl,hyr,g.world,g.frame,g.grow⟩
       |cons _ _=>cases hd
     cases x with
     |exit id=>cases d
     |normal=>simp only[fD]at d;exact b d
     |ret=>simp only[fD]at d;exact b d
  ·rename_i o;left;simp only[fD]at hv
   let⟨u,q,d⟩:=hv
   cases d
   let⟨x,i,F⟩:=j.ext f fn n o Δ args _ gW w q A
   exact⟨x,i,F,k,.refl _ _,.refl _ _⟩
 ·cases hv
theorem MI (a:AA C) (m:Nat):∀d,xo (lN C m d)
 |0=>λf args v h h' Δ w gW hv=>(nomatch hv)
 |d+1=>zeK a (MI a m d)
theorem RU(c:Nat) (hc:c<256):∀l n,P9 c l n=n+l.count (UInt8.ofNat c)
 |[],n=>by rfl
 | b ::l,n=>by
   simp [P9];rw[RU c hc l,List.count_cons];have a:Nat.beq b.toNat c=(b == UInt8.ofNat c):=by
     rw[WK];simp only[Ey];constructor
     ·intro h
      have h':=DG h;rw[<-h'];simp
     ·simp_all
   rw[a];cases b == UInt8.ofNat c
   ·simp
   grind
theorem SQ(c:Nat) (hc:c<256):∀l n,(match Tj c l n with|some i=>(i:Int)|none=>-1)=if Lib.indexByte l (UInt8.ofNat c) = -1 then -1 else Lib.indexByte l (UInt8.ofNat c)+n
 |[],n=>by rfl
 | b ::l,n=>by
   simp [Tj];have a:Nat.beq b.toNat c=(b == UInt8.ofNat c):=by
     rw[WK];simp only[Ey];constructor
     ·intro h
      have h':=DG h;rw[<-h'];simp
     ·simp_all
   rw[a];unfold Lib.indexByte
   cases hbc:b == UInt8.ofNat c with
   |true=>simp
   | false=>
     have e:=SQ c hc l (n+1);have d:=Lib.indexByte_ge l (UInt8.ofNat c)
     grind
theorem zaC{f:Nat} {fn:Func} (d:P0.funcs[f]? =some fn) (a:(fn.name == "runtime.NumGoroutine")=false) (g:fn.body.isNone=true) (h:Extern.findNext fn=none) (i:Extern.find fn=some Extern.BytealgCount.count)
  {Δ:Env} {args:List V} {v:V} {gW:Array Value} {w:World} (hv:XU .countByte args=some v) (j:gR Δ args gW.toList):∃x,(callFunc f gW).run P0 w = .ok (.value x) w/\fV Δ v x:=by
 unfold XU at hv;split at hv
 ·rename_i s c _;rw[ik]at hv
  let⟨hc,hv⟩:=hv
  have b:c<256:=by rw[Yh]at hc;exact hc
  cases hv
  let⟨l⟩:=gW
  cases j with
  | cons _ x _ xs k hs=>
    cases hs with
    | cons _ y _ ys m hs=>
      cases hs;cases m
      cases k with
      | str sb=>
        have n:=Lib.run_countString (P:=P0) sb (Int.ofNat c) w;refine⟨.int .i64 (Lib.countByte sb.data.toList (Int.ofNat c).toNat.toUInt8),?_,?_⟩
        ·rw[run_callFunc_extern d a g h i]
         simp_all
        have e:P9 c sb.data.toList 0=Lib.countByte sb.data.toList (Int.ofNat c).toNat.toUInt8:=by
          rw[RU c b,Jn];rfl
        rw[e];exact .int _ _
 ·simp_all
 ·cases hv
theorem ZV{f:Nat} {fn:Func} (g:P0.funcs[f]? =some fn) (a:(fn.name == "runtime.NumGoroutine")=false) (h:fn.body.isNone=true) (j:Extern.findNext fn=none) (k:Extern.find fn=some Extern.BytealgIndexByte.indexByte)
  {Δ:Env} {args:List V} {v:V} {gW:Array Value} {w:World} (hv:XU .indexByte args=some v) (m:gR Δ args gW.toList):∃x,(callFunc f gW).run P0 w = .ok (.value x) w/\fV Δ v x:=by
 unfold XU at hv;split at hv
 ·simp_all
 ·rename_i s c _;rw[ik]at hv
  let⟨hc,hv⟩:=hv
  have b:c<256:=by rw[Yh]at hc;exact hc
  let⟨l⟩:=gW
  cases m with
  | cons _ x _ xs d hs=>
    cases hs with
    | cons _ y _ ys n hs=>
      cases hs;cases n;generalize pO:s=sl at d
      cases d with
      | str sb=>
        have o:=Lib.run_indexByteString (P:=P0) sb (Int.ofNat c) w;refine⟨.int .i64 (Lib.indexByte sb.data.toList (Int.ofNat c).toNat.toUInt8),?_,?_⟩
        ·rw[run_callFunc_extern g a h j k]
         simp_all
        have e:=SQ c b sb.data.toList 0;have e2:(if Lib.indexByte sb.data.toList (UInt8.ofNat c) = -1 then -1 else Lib.indexByte sb.data.toList (UInt8.ofNat c)+((0:Nat):Int))=Lib.indexByte sb.data.toList (Int.ofNat c).toNat.toUInt8:=by
          show _=Lib.indexByte sb.data.toList (UInt8.ofNat c);split
          ·omega
          ·simp
        rw[e2]at e;rw[<-e];rw[pO]at hv;split at hv
        ·rename_i i hi;cases hv;rw[hi];exact .int _ _
        ·rename_i hi;cases hv;rw[hi];exact .int _ _
 ·cases hv
def Kept(W W':World):Prop:=W'.os=W.os/\W'.output=W.output/\W.heap.size<=W'.heap.size/\∀b,b<W.heap.size->W'.heap[b]? =W.heap[b]?
theorem Kept.but{W W':World} (h:Kept W W') (a:MemPlace->Prop):W.keptBut W' a:=by
 refine⟨h.1,h.2.1,λi hi=>?_⟩;rw[h.2.2.2 i hi]
 grind
theorem FR.kept{Δ a:Env}{w w':World}(h:FR Δ a w w')(c:∀b,¬RW Δ b):Kept w w':=⟨h.os,h.output,h.size,λb d=>h.fy b d (c b)⟩
def isTrue:Option (V×Hp)->Bool
 |some (.bool true,_)=>true
 |_=>false
theorem EB.none{Δ:Env}{w:World}(h:EB Δ w):EB (λ_=>none) w:=λg c a=>⟨(h g c a).1,by simp_all⟩
theorem WR.start(n:Nat) (a:P0.globals.size<=n) (w:World) (b:EB (λ_=>none) w):WR (λ_=>none) {next:=n,tr:= .leaf} w:=
 ⟨by simp_all,by simp_all,by simp_all,by simp_all,by grind[Hp.get_eq,Tr.ze],a,b⟩
theorem known (i:AA C) {m d n f:Nat} (q:P0.globals.size<=n) (a:∃fn c,P0.funcs[f]? =some fn/\fn.body=some c) (hv:isTrue (lN C m d f [] {next:=n,tr:= .leaf})=true) (W:World) (s:EB (λ_=>none) W) :
  Calls P0 f #[] W λe W'=>e = .returned (.bool true)/\Kept W W':=by
 cases hr:lN C m d f [] {next:=n,tr:= .leaf} with
 |none=>rw[hr]at hv;cases hv
 | some r=>
   let⟨v,h'⟩:=r
   rw[hr]at hv;have g:v = .bool true:=by
     unfold isTrue at hv;split at hv
     ·simp_all
     ·cases hv
   subst g;rcases MI i m d f [] _ _ _ (λ_=>none) W #[] hr (by grind[WR.start]) .nil with⟨x,t,_⟩|⟨_,k⟩
   ·exfalso
    let⟨fn,c,hf,hbd⟩:=a
    have h:=i.named f fn hf;have:(callFunc f #[]).run P0 W = .ok (.enter f #[]) W:=by
      simp only[callFunc,DO,run_program,Hi,hf,h,hbd,Option.isNone_some,wBK,if_false];rfl
    simp_all
   ·refine Calls.mono k λe w' o=>?_
    obtain⟨u,x,rfl,j⟩:=o;have p:=j.val;cases p;exact⟨rfl,j.frame.kept λb a=>(by let⟨l,d,hl,_⟩:=a;cases hl)⟩
end
open Go.ChangeShapes Go.WideShapes in
theorem zaE {H:Type} {enc:TypeId×Value->H} {P:Program} {f:Func} {s:ChangeSpec} {apart fresh handsOn again:Bool} {W W':World} {args:Array Value} {v:Value} {ds gs:List (DataW H)}
  {before pa pv:List MemPlace} (hW:DataW.Whole enc P f.params.toList s.vars apart W args.toList ds gs before)
  (zhj:∀(b:Nat) (sp:Nat->Bool) (hd:Bool),DataW.TrodAll enc P W' b sp hd f.resultTypes.toList (v.resultList f.resultTypes.size) (s.fn H (ds++gs)).results [])
  (zfq:∀sp:Nat->Bool,(∀p∈before,sp p.block=true)->DataW.TrodAll enc P W' 0 sp true f.params.toList args.toList (s.fn H (ds++gs)).args pa)
  (zfc:∀sp:Nat->Bool,(∀p∈before,sp p.block=true)->DataW.TrodVars enc P W' sp s.vars (s.fn H (ds++gs)).vars pv)
  (hps:before=pa++pv) (hk:Kept W W')
  (hok:∀(j:Nat) (t:TypeId) (r:Value),f.resultTypes[j]? =some t->(v.resultList f.resultTypes.size)[j]? =some r->Value.okWide P W' .any 0 t r) :
  s.post enc P f apart fresh handsOn again W args v W':=by
 have G6:∀p∈before,p.block<W.heap.size:=λp hp=>hW.lt p hp;have hold:∀p∈before,(λb=>decide (b<W.heap.size)) p.block=true:=by simp_all
 refine⟨ds,gs,before,[],pa,pv,hW,zhj _ _ _,zfq _ hold,zfc _ hold,hk.but _,λ_=>?_⟩;obtain⟨_,_,_,_,_,hz,hn⟩:=hW;refine⟨hok,_,_,([]++pa)++pv,⟨[]++pa,pv,trodAll_append (zfq _ (λ_ _=>rfl)) (zhj _ _ _),zfc _ (λ_ _=>rfl),rfl,?_,?_⟩,?_⟩
 ·intro b off hp;have hp':MemPlace.cell b off∈before:=by rw[hps];simpa using hp
  have hz':=hz b off hp';have hb:=G6 _ hp';have he:W'.frozen? ⟨b,off,none⟩=W.frozen? ⟨b,off,none⟩:=by
   unfold World.frozen?;have:=hk.2.2.2 b hb;simp only at this⊢;rw[this]
  simp_all
 ·simp_all
 simp_all
