/- Parts. -/
import Derived.Test.YtcoaokdoecgcbaaGreatDoorM06
import Derived.KernelRfl
set_option maxHeartbeats 4000000
namespace Go.Proofs.YtcoaokdoecgcbaaGreatDoor.Hx
variable{all:List Oper}{ws:List It}{m:Nat}{a:It}{d:DF}
def Call.Le(c c':Call):Prop:=∀f a h r,c f a h=some r->c' f a h=some r
section
variable{n:Nat}{c c':Call}(hc:c.Le c')
include hc
theorem L5{o:Oper} {t:Tm} {h:Hp} {r:V×Hp} (hv:(EV o).f c t h=some r):(EV o).f c' t h=some r:=by
 unfold EV at hv⊢;split
 ·simp_all
 ·simp_all
 ·rename_i h0 d;split at hv
  ·simp_all
  ·simp_all
  ·simp[fD]at hv⊢
   let⟨x,b,a⟩:=hv
   refine⟨x,b,?_⟩
   cases x with
   |val v h'=>exact a
   |call f args=>exact hc _ _ _ _ a
theorem Xw {o:Oper} {a:SF} (i:∀t h r,a.f c t h=some r->a.f c' t h=some r) {t:Tm} {h:Hp} {r:Tm×Hp} (hv:(Ie n all o a).f c t h=some r):(Ie n all o a).f c' t h=some r:=by
 unfold Ie at hv⊢
 cases hd:xK n o with
 |none=>rw[hd]at hv;cases hv
 | some d=>
   rw[hd]at hv
   cases hw:kE n all o with
   | none=>
     grind[fD,L5]
   | some g=>
     rw[hw]at hv;simp only[fD]at hv⊢
     let⟨b,e,j⟩:=hv
     refine⟨b,e,?_⟩;cases b <;> grind[fD,L5]
theorem Fo:∀os {t:Tm} {h:Hp} {r:Tm×Hp},(lU n all os).f c t h=some r->(lU n all os).f c' t h=some r
 |[],_,_,_,hv=>hv
 |o::os,_,_,_,hv=>Xw hc (λ_ _ _ h=>Fo os h) hv
omit hc in
theorem WQ     {rest:LF} (hr:∀t h rs r,rest.f c t h rs=some r->rest.f c' t h rs=some r) {t:Tm} {h:Hp} {rs:List Rec} {r:Tm×Hp} (hv:(KH n all ws a d rest).f c t h rs=some r) :
  (KH n all ws a d rest).f c' t h rs=some r:=by
 unfold KH at hv⊢;simp only[fD]at hv⊢;obtain⟨b,h1,h2⟩:=hv;refine⟨b,h1,?_⟩;cases b <;> grind[fD]
omit hc in
theorem Vf     {rest:LF} (hr:∀t h rs r,rest.f c t h rs=some r->rest.f c' t h rs=some r) {t:Tm} {h:Hp} {rs:List Rec} {r:Tm×Hp} (hv:(IB n all ws a d rest).f c t h rs=some r) :
  (IB n all ws a d rest).f c' t h rs=some r:=by
 unfold IB at hv⊢;simp only[fD]at hv⊢;obtain⟨b,h1,h2⟩:=hv;refine⟨b,h1,?_⟩;cases b <;> grind[fD]
theorem Vk {k:Nat}   {e:LF} (i:∀t h rs r,e.f c t h rs=some r->e.f c' t h rs=some r) {t:Tm} {h:Hp} {rs:List Rec} {r:Tm×Hp} (hv:(Dc n all k a d e).f c t h rs=some r) :
  (Dc n all k a d e).f c' t h rs=some r:=by
 unfold Dc at hv⊢;simp only[ik,fD]at hv⊢
 let⟨h0,b,g,j⟩:=hv
 refine⟨h0,b,g,?_⟩;cases b <;> grind[fD,ik,L5]
theorem AW :∀l k {t:Tm} {h:Hp} {rs:List Rec} {r:Tm×Hp},(yA n all ws l k).f c t h rs=some r->(yA n all ws l k).f c' t h rs=some r
 |[],_,_,_,_,_,hv=>hv
 | a ::l,k,t,h,rs,r,hv=>by
   unfold yA at hv⊢
   cases hd:xK n a.o with
   |none=>simp_all
   | some d=>
     rw[hd]at hv;simp only at hv⊢;split
     ·rename_i b;rw[b]at hv;exact WQ (λ_ _ _ _ h=>AW l _ h) hv
     ·rename_i b;rw[b]at hv;exact Vf (λ_ _ _ _ h=>AW l _ h) hv
     ·rename_i h0 e
      split at hv
      ·simp_all
      ·simp_all
      ·exact Vk hc (λ_ _ _ _ h=>AW l _ h) hv
theorem X2 {t:Tm} {h:Hp} {r:Tm×Hp} (hv:(Rj n all).f c t h=some r):(Rj n all).f c' t h=some r:=by
 unfold Rj at hv⊢
 cases hb:T6 (items all 0 []) (hH (items all 0 []))&&xy (items all 0 []) (hH (items all 0 [])) (order (items all 0 []) (hH (items all 0 [])) (hH (items all 0 [])) 0) 0 0 with
 |true=>grind[AW]
 | false=>
   rw[hb]at hv
   cases hf:Ml (items all 0 []) (hH (items all 0 []))with
   |none=>rw[hf]at hv;cases hv
   | some p=>
     rw[hf]at hv
     cases hb2:Uv (items all 0 [])&&xy (items all 0 []) (hH (items all 0 [])) (order (items all 0 []) (hH (items all 0 [])) (hH (items all 0 [])) 0) 0 0 with
     |false=>rw[hb2]at hv;cases hv
     | true=>
       grind[fD,ik,AW]
theorem oE{d:Nat} (a:m<=d):∀k {t:Tm} {h:Hp} {r:X×Tm×Hp},(jc n k).f c m t h=some r->(jc n k).f c' d t h=some r
 | .skip,_,_,_,hv=>hv
 | .seq x y,t,h,r,hv=>by
   simp[jc]at hv⊢;rcases M0 hv with⟨l,g,e1,e2⟩|⟨e1,e2⟩
   ·rw[oE a x e1];exact oE a y e2
   ·rw[oE a x e1]
    let⟨x',t',h'⟩:=r
    cases x' with
    |normal=>simp_all
    |exit id=>rfl
    |ret=>rfl
 | .cond e x y,t,h,r,hv=>by
   simp[jc,fD]at hv⊢
   let⟨v,g,o⟩:=hv
   refine⟨v,g,?_⟩;split
   ·rename_i b
    cases b with
    |true=>exact oE a x o
    |false=>exact oE a y o
   simp_all
 | .block id x,t,h,r,hv=>by
   simp[jc]at hv⊢
   cases hr:(jc n x).f c m t h with
   |none=>rw[hr]at hv;cases hv
   |some r'=>rw[hr]at hv;rw[oE a x hr];exact hv
 | .loop x,t,h,r,hv=>by
   simp[jc]at hv⊢
   cases hf:zG n x with
   |some F=>simp[hf]at hv⊢;exact hv
   |none=>
   have p:∀k k' t h,k<=k'->Oy (λt h=>(jc n x).f c m t h) k t h=some r->Oy (λt h=>(jc n x).f c' d t h) k' t h=some r:=by
     intro k
     induction k with
     |zero=>intro k' t h _ hv;cases hv
     | succ k q=>
       intro k' t h s hv;obtain⟨k',rfl⟩:∃j,k' = j+1:=⟨k'-1,by omega⟩
       have i:=hv;show K4 ((jc n x).f c' d t h) (Oy (λt h=>(jc n x).f c' d t h) k')=some r;rcases M0 i with⟨l,g,e1,e2⟩|⟨e1,e2⟩
       ·rw[oE a x e1];exact q k' l g (by omega) e2
       ·rw[oE a x e1]
        let⟨x',t',h'⟩:=r
        cases x' with
        |normal=>simp_all
        |exit id=>rfl
        |ret=>rfl
   grind
 | .exit id,_,_,_,hv=>hv
 | .ret,_,_,_,hv=>hv
 | .region id ops false,t,h,r,hv=>by
   grind[jc,fD,Fo]
 | .region id ops true,t,h,r,hv=>by
   grind[jc,fD,X2]
 | .rangeFunc ..,_,_,_,hv=>by cases hv
 | .scope _,_,_,_,hv=>by cases hv
 | .label _,_,_,_,hv=>by cases hv
 | .goto _,_,_,_,hv=>by cases hv
 | .refuse _,_,_,_,hv=>by cases hv
theorem W2{C:mh} {a:Nat} (b:m<=a) {f:Nat} {args:List V} {h:Hp} {r:V×Hp} (hv:(IJ C f).f c m args h=some r):(IJ C f).f c' a args h=some r:=by
 unfold IJ at hv⊢
 cases hf:P0.funcs[f]? with
 |none=>simp_all
 | some fn=>
   rw[hf]at hv;simp only at hv⊢
   cases hb:fn.body with
   |none=>simp_all
   | some k=>
     rw[hb]at hv;simp only at hv⊢
     cases hk:C.K f args h with
     |some u=>rw[hk]at hv;exact hv
     | none=>
       rw[hk]at hv
       grind[orB,ik,fD,oE]
end
theorem ym{C:mh} {b:Nat} (g:m<=b):∀{d c:Nat},d<=c->(lN C m d).Le (lN C b c)
 |0,_,_=>λ_ _ _ _ h=>(nomatch h)
 |d+1,0,h=>by omega
 | d+1,c+1,h=>λf a hp r hv=>by
   have e:=hv;show(IJ C f).f (lN C b c) b a hp=some r;exact W2 (ym g (by omega)) g e
inductive KE where
 |names (f:Nat) (l:List (Nat×V))
 |yes (f:Nat)
noncomputable def Yy:List (Nat×V)->Nat->Option V
 |[],_=>none
 |x::l,n=>Bool.rec (Yy l n) (some x.2) (Nat.beq x.1 n)
noncomputable def KE.ask(e:KE) (f:Nat) (args:List V):Option V:=match e with
 | .names g l=>bB (Nat.beq f g) (match args with
   |[.int .i64 (.ofNat n)]=>Yy l n
   |_=>none)
 | .yes g=>bB (Nat.beq f g) (match args with
   |[]=>some (.bool true)
   |_=>none)
noncomputable def Rg:List KE->Nat->List V->Option V
 |[],_,_=>none
 |e::es,f,args=>orB (e.ask f args) (λv=>some v) (Rg es f args)
def isV(v:V):Option (V×Hp)->Bool
 |some (u,_)=>V.beq u v
 |_=>false
theorem PU{C:mh} (g:AA C) {m d n f:Nat} {args:List V} {v:V} (o:P0.globals.size<=n) (i:∃fn c,P0.funcs[f]? =some fn/\fn.body=some c) (hv:isV v (lN C m d f args {next:=n,tr:= .leaf})=true)
  (W:World) (p:EB (λ_=>none) W) (gW:Array Value) (j:gR (λ_=>none) args gW.toList) :
  Calls P0 f gW W λe W'=>∃x,e = .returned x/\(v.flat=true->fV (λ_=>none) v x)/\Still W W':=by
 cases hr:lN C m d f args {next:=n,tr:= .leaf} with
 |none=>rw[hr]at hv;cases hv
 | some r=>
   let⟨u,h'⟩:=r
   rw[hr]at hv;obtain rfl:u=v:=V.eq_of_beq _ _ hv;rcases MI g m d f args _ _ _ (λ_=>none) W gW hr (by grind[WR.start]) j with⟨x,q,_⟩|⟨_,k⟩
   ·exfalso
    let⟨fn,c,hf,hbd⟩:=i
    have a:=g.named f fn hf;have:(callFunc f gW).run P0 W = .ok (.enter f gW) W:=by
      simp only[callFunc,DO,run_program,Hi,hf,a,hbd,Option.isNone_some,wBK,if_false];rfl
    simp_all
   ·refine Calls.mono k λe w' l=>?_
    obtain⟨s,x,rfl,h⟩:=l;exact⟨x,rfl,λb=>UI h.val b,h.frame.still zhM⟩
noncomputable def Jx(C:mh) (m d n f:Nat):List (Nat×V)->Bool
 |[]=>true
 |x::l=>Bool.rec false (Jx C m d n f l) (isV x.2 (lN C m d f [.int .i64 (.ofNat x.1)] {next:=n,tr:= .leaf}))
theorem Oi{C:mh} {d n f:Nat}:∀l,Jx C m d n f l=true->∀k s,Yy l k=some s->isV s (lN C m d f [.int .i64 (.ofNat k)] {next:=n,tr:= .leaf})=true
 |[],_,k,s,hk=>by cases hk
 | x ::l,h,k,s',hk=>by
   simp only[Jx]at h;simp[Yy]at hk
   cases hb:isV x.2 (lN C m d f [.int .i64 (.ofNat x.1)] {next:=n,tr:= .leaf})with
   |false=>simp_all
   | true=>
     rw[hb]at h
     cases hx:Nat.beq x.1 k with
     | true=>
       simp_all
     | false=>
       rw[hx]at hk;exact Oi l h k s' hk
inductive KOk (C:mh):KE->Prop where
 |names {m d n f l} (a:P0.globals.size<=n) (b:∃fn c,P0.funcs[f]? =some fn/\fn.body=some c) (h:Jx C m d n f l=true):KOk C (.names f l)
 |yes {m d n f} (a:P0.globals.size<=n) (b:∃fn c,P0.funcs[f]? =some fn/\fn.body=some c) (h:isTrue (lN C m d f [] {next:=n,tr:= .leaf})=true):KOk C (.yes f)
theorem Xf{r:Option (V×Hp)} (h:isTrue r=true):isV (.bool true) r=true:=by
 unfold isTrue at h;split at h
 ·rfl
 ·cases h
theorem KOk.calls{C:mh} (i:AA C) {e:KE} (j:KOk C e) {f:Nat} {args:List V} {v:V} (hv:e.ask f args=some v) (o:v.flat=true) (W:World) (p:EB (λ_=>none) W) (gW:Array Value) (q:gR (λ_=>none) args gW.toList) :
  Calls P0 f gW W λe W'=>∃x,e = .returned x/\fV (λ_=>none) v x/\Still W W':=by
 cases j with
 | @names m d n g l b c h=>
   simp only[KE.ask,ik]at hv;obtain⟨a,hv⟩:=hv;obtain rfl:=DG a;split at hv
   ·rename_i k
    have r:=Oi l h k v hv
    grind[PU]
   ·cases hv
 | @yes m d n g b c h=>
   simp only[KE.ask,ik]at hv;obtain⟨a,hv⟩:=hv;obtain rfl:=DG a;split at hv
   ·cases hv
    exact Calls.mono (PU i b c (Xf h) W p gW q) (by simp_all)
   ·cases hv
noncomputable def mh.more(C:mh)(l:List KE):mh:=⟨C.start,C.ext,λf args h=>orB (Rg l f args) (λv=>some v) (C.K f args h)⟩
theorem Qe:∀l {f:Nat} {args:List V} {v:V},Rg l f args=some v->∃e∈l,e.ask f args=some v
 |[],_,_,_,h=>by cases h
 | e ::es,f,args,v,h=>by
   simp[Rg]at h
   cases hq:e.ask f args with
   |some u=>rw[hq]at h;grind[orB]
   | none=>
     rw[hq]at h
     let⟨e',hm,h'⟩:=Qe es h
     grind
theorem AA.more{C:mh} (a:AA C) {l:List KE} (hl:∀e∈l,KOk C e):AA (C.more l) where
 Qj:=a.Qj
 start:=a.start
 mixed:=a.mixed
 named:=a.named
 ext:=a.ext
 known:=λf args v h c d b Δ W gW g i=>by
  simp[mh.more]at c
  cases hq:Rg l f args with
  | some u=>
    rw[hq]at c;have:u=v:=by simpa[orB]using c
    subst this
    let⟨e,hm,he⟩:=Qe l hq
    exact(hl e hm).calls a he b W g.XK.none gW i
  | none=>
    rw[hq]at c;exact a.known f args v h (by grind[orB]) d b Δ W gW g i
def E1:Nat->Ext
 |122=> .countByte
 |129=> .indexByte
 |_=> .none
theorem zbP:(P0.funcs.toList.all λfn=>!(fn.name == "runtime.NumGoroutine"))=true:=by kernel_rfl
theorem mixed:P0.follows .mixedOrders=true:=by kernel_rfl
theorem Zy:Nat.ble P0.globals.size 3=true:=by kernel_rfl
theorem zfa:P0.funcs[122]? =some Tryz.f122:=by unfold P0;exact Tryz.func122
theorem ze4:P0.funcs[129]? =some Tryz.f129:=by unfold P0;exact Tryz.func129
theorem zhq(w:World):EB (λ_=>none) w:=λg c h=>by simp[zgX]at h
noncomputable def C1:mh:=⟨Xd,E1,λ_ _ _=>none⟩
theorem facts:AA C1 where
 Qj:=λ_=>rfl
 start:=Xz
 known:=λ_ _ _ _ h=>nomatch h
 mixed:=mixed
 named:=λf fn a=>by
  have h:=Sx.1 zbP fn (by rw[Array.mem_toList_iff];exact Array.mem_of_getElem? a);simpa using h
 ext:=λf fn a g Δ args v gW w hv b=>by
  by_cases c:f=122
  ·subst c;rw[zfa]at a;cases a;exact zaC zfa (by kernel_rfl) (by kernel_rfl) (by kernel_rfl) (by kernel_rfl) hv b
  ·by_cases d:f=129
   ·subst d;rw[ze4]at a;cases a;exact ZV ze4 (by kernel_rfl) (by kernel_rfl) (by kernel_rfl) (by kernel_rfl) hv b
   ·have e:C1.ext f = .none:=by
     show E1 f = .none;unfold E1;split
     ·exact absurd rfl c
     ·exact absurd rfl d
     ·rfl
    rw[e]at hv;simp[XU]at hv
