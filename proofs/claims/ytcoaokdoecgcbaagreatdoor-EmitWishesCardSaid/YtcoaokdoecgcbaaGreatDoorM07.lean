/- Parts. -/
import Derived.Test.YtcoaokdoecgcbaaGreatDoorM06
import Derived.KernelRfl
set_option maxHeartbeats 4000000
namespace Go.Proofs.YtcoaokdoecgcbaaGreatDoor.Hx
variable{all:List Oper}{ws:List It}{m:Nat}{a:It}{d:DF}
def Call.Le(c c':Call):Prop:=∀f a h r,c f a h=some r->c' f a h=some r
section
variable{n:Nat}{c c':Call}(hc:c.Le c')
include hc
theorem KR{o:Oper} {t:Tm} {h:Hp} {r:V×Hp} (hv:(Ek o).f c t h=some r):(Ek o).f c' t h=some r:=by
 unfold Ek at hv⊢;split
 ·simp_all
 ·simp_all
 ·rename_i h0 d;split at hv
  ·simp_all
  ·simp_all
  ·simp[fy]at hv⊢
   let⟨x,b,a⟩:=hv
   refine⟨x,b,?_⟩
   cases x with
   |val v h'=>exact a
   |call f args=>exact hc _ _ _ _ a
theorem Wk {o:Oper} {a:SF} (i:∀t h r,a.f c t h=some r->a.f c' t h=some r) {t:Tm} {h:Hp} {r:Tm×Hp} (hv:(GP n all o a).f c t h=some r):(GP n all o a).f c' t h=some r:=by
 unfold GP at hv⊢
 cases hd:xe n o with
 |none=>rw[hd]at hv;cases hv
 | some d=>
   rw[hd]at hv
   cases hw:kE n all o with
   | none=>
     grind[fy,KR]
   | some g=>
     rw[hw]at hv;simp only[fy]at hv⊢
     let⟨b,e,j⟩:=hv
     refine⟨b,e,?_⟩;cases b <;> grind[fy,KR]
theorem Fl:∀os {t:Tm} {h:Hp} {r:Tm×Hp},(lZ n all os).f c t h=some r->(lZ n all os).f c' t h=some r
 |[],_,_,_,hv=>hv
 |o::os,_,_,_,hv=>Wk hc (λ_ _ _ h=>Fl os h) hv
omit hc in
theorem Wq     {rest:LF} (hr:∀t h rs r,rest.f c t h rs=some r->rest.f c' t h rs=some r) {t:Tm} {h:Hp} {rs:List Rec} {r:Tm×Hp} (hv:(Jy n all ws a d rest).f c t h rs=some r) :
  (Jy n all ws a d rest).f c' t h rs=some r:=by
 unfold Jy at hv⊢;simp only[fy]at hv⊢;obtain⟨b,h1,h2⟩:=hv;refine⟨b,h1,?_⟩;cases b <;> grind[fy]
omit hc in
theorem Vh     {rest:LF} (hr:∀t h rs r,rest.f c t h rs=some r->rest.f c' t h rs=some r) {t:Tm} {h:Hp} {rs:List Rec} {r:Tm×Hp} (hv:(Ht n all ws a d rest).f c t h rs=some r) :
  (Ht n all ws a d rest).f c' t h rs=some r:=by
 unfold Ht at hv⊢;simp only[fy]at hv⊢;obtain⟨b,h1,h2⟩:=hv;refine⟨b,h1,?_⟩;cases b <;> grind[fy]
theorem UC {k:Nat}   {e:LF} (i:∀t h rs r,e.f c t h rs=some r->e.f c' t h rs=some r) {t:Tm} {h:Hp} {rs:List Rec} {r:Tm×Hp} (hv:(CL n all k a d e).f c t h rs=some r) :
  (CL n all k a d e).f c' t h rs=some r:=by
 unfold CL at hv⊢;simp only[il,fy]at hv⊢
 let⟨h0,b,g,j⟩:=hv
 refine⟨h0,b,g,?_⟩;cases b <;> grind[fy,il,KR]
theorem Ar :∀l k {t:Tm} {h:Hp} {rs:List Rec} {r:Tm×Hp},(xG n all ws l k).f c t h rs=some r->(xG n all ws l k).f c' t h rs=some r
 |[],_,_,_,_,_,hv=>hv
 | a ::l,k,t,h,rs,r,hv=>by
   unfold xG at hv⊢
   cases hd:xe n a.o with
   |none=>simp_all
   | some d=>
     rw[hd]at hv;simp only at hv⊢;split
     ·rename_i b;rw[b]at hv;exact Wq (λ_ _ _ _ h=>Ar l _ h) hv
     ·rename_i b;rw[b]at hv;exact Vh (λ_ _ _ _ h=>Ar l _ h) hv
     ·rename_i h0 e
      split at hv
      ·simp_all
      ·simp_all
      ·exact UC hc (λ_ _ _ _ h=>Ar l _ h) hv
theorem W6 {t:Tm} {h:Hp} {r:Tm×Hp} (hv:(Qg n all).f c t h=some r):(Qg n all).f c' t h=some r:=by
 unfold Qg at hv⊢
 cases hb:RR (items all 0 []) (hD (items all 0 []))&&wG (items all 0 []) (hD (items all 0 [])) (order (items all 0 []) (hD (items all 0 [])) (hD (items all 0 [])) 0) 0 0 with
 |true=>grind[Ar]
 | false=>
   rw[hb]at hv
   cases hf:LS (items all 0 []) (hD (items all 0 []))with
   |none=>rw[hf]at hv;cases hv
   | some p=>
     rw[hf]at hv
     cases hb2:SL (items all 0 [])&&wG (items all 0 []) (hD (items all 0 [])) (order (items all 0 []) (hD (items all 0 [])) (hD (items all 0 [])) 0) 0 0 with
     |false=>rw[hb2]at hv;cases hv
     | true=>
       grind[fy,il,Ar]
theorem oG{d:Nat} (a:m<=d):∀k {t:Tm} {h:Hp} {r:X×Tm×Hp},(jc n k).f c m t h=some r->(jc n k).f c' d t h=some r
 | .skip,_,_,_,hv=>hv
 | .seq x y,t,h,r,hv=>by
   simp[jc]at hv⊢;rcases KU hv with⟨l,g,e1,e2⟩|⟨e1,e2⟩
   ·rw[oG a x e1];exact oG a y e2
   ·rw[oG a x e1]
    let⟨x',t',h'⟩:=r
    cases x' with
    |normal=>simp_all
    |exit id=>rfl
    |ret=>rfl
 | .cond e x y,t,h,r,hv=>by
   simp[jc,fy]at hv⊢
   let⟨v,g,o⟩:=hv
   refine⟨v,g,?_⟩;split
   ·rename_i b
    cases b with
    |true=>exact oG a x o
    |false=>exact oG a y o
   simp_all
 | .block id x,t,h,r,hv=>by
   simp[jc]at hv⊢
   cases hr:(jc n x).f c m t h with
   |none=>rw[hr]at hv;cases hv
   |some r'=>rw[hr]at hv;rw[oG a x hr];exact hv
 | .loop x,t,h,r,hv=>by
   simp[jc]at hv⊢
   cases hf:zg n x with
   |some F=>simp[hf]at hv⊢;exact hv
   |none=>
   have p:∀k k' t h,k<=k'->Np (λt h=>(jc n x).f c m t h) k t h=some r->Np (λt h=>(jc n x).f c' d t h) k' t h=some r:=by
     intro k
     induction k with
     |zero=>intro k' t h _ hv;cases hv
     | succ k q=>
       intro k' t h s hv;obtain⟨k',rfl⟩:∃j,k' = j+1:=⟨k'-1,by omega⟩
       have i:=hv;show Kc ((jc n x).f c' d t h) (Np (λt h=>(jc n x).f c' d t h) k')=some r;rcases KU i with⟨l,g,e1,e2⟩|⟨e1,e2⟩
       ·rw[oG a x e1];exact q k' l g (by omega) e2
       ·rw[oG a x e1]
        let⟨x',t',h'⟩:=r
        cases x' with
        |normal=>simp_all
        |exit id=>rfl
        |ret=>rfl
   grind
 | .exit id,_,_,_,hv=>hv
 | .ret,_,_,_,hv=>hv
 | .region id ops false,t,h,r,hv=>by
   grind[jc,fy,Fl]
 | .region id ops true,t,h,r,hv=>by
   grind[jc,fy,W6]
 | .rangeFunc ..,_,_,_,hv=>by cases hv
 | .scope _,_,_,_,hv=>by cases hv
 | .label _,_,_,_,hv=>by cases hv
 | .goto _,_,_,_,hv=>by cases hv
 | .refuse _,_,_,_,hv=>by cases hv
theorem Wu{C:mw} {a:Nat} (b:m<=a) {f:Nat} {args:List V} {h:Hp} {r:V×Hp} (hv:(Hm C f).f c m args h=some r):(Hm C f).f c' a args h=some r:=by
 unfold Hm at hv⊢
 cases hf:P0.funcs[f]? with
 |none=>simp_all
 | some fn=>
   rw[hf]at hv;simp only at hv⊢
   cases hb:fn.body with
   |none=>simp_all
   | some k=>
     rw[hb]at hv;simp only at hv⊢
     cases hk:C.K f args h with
     |some u=>rw[hk]at hv;exact hv
     | none=>
       rw[hk]at hv
       grind[orB,il,fy,oG]
end
theorem xD{C:mw} {b:Nat} (g:m<=b):∀{d c:Nat},d<=c->(lP C m d).Le (lP C b c)
 |0,_,_=>λ_ _ _ _ h=>(nomatch h)
 |d+1,0,h=>by omega
 | d+1,c+1,h=>λf a hp r hv=>by
   have e:=hv;show(Hm C f).f (lP C b c) b a hp=some r;exact Wu (xD g (by omega)) g e
inductive KE where
 |names (f:Nat) (l:List (Nat×V))
 |yes (f:Nat)
noncomputable def Xg:List (Nat×V)->Nat->Option V
 |[],_=>none
 |x::l,n=>Bool.rec (Xg l n) (some x.2) (Nat.beq x.1 n)
noncomputable def KE.ask(e:KE) (f:Nat) (args:List V):Option V:=match e with
 | .names g l=>bB (Nat.beq f g) (match args with
   |[.int .i64 (.ofNat n)]=>Xg l n
   |_=>none)
 | .yes g=>bB (Nat.beq f g) (match args with
   |[]=>some (.bool true)
   |_=>none)
noncomputable def Pr:List KE->Nat->List V->Option V
 |[],_,_=>none
 |e::es,f,args=>orB (e.ask f args) (λv=>some v) (Pr es f args)
def isV(v:V):Option (V×Hp)->Bool
 |some (u,_)=>V.beq u v
 |_=>false
theorem O4{C:mw} (g:zE C) {m d n f:Nat} {args:List V} {v:V} (o:P0.globals.size<=n) (i:∃fn c,P0.funcs[f]? =some fn/\fn.body=some c) (hv:isV v (lP C m d f args {next:=n,tr:= .leaf})=true)
  (W:World) (p:Di (λ_=>none) W) (gW:Array Value) (j:gP (λ_=>none) args gW.toList) :
  Calls P0 f gW W λe W'=>∃x,e = .returned x/\(v.flat=true->fU (λ_=>none) v x)/\Still W W':=by
 cases hr:lP C m d f args {next:=n,tr:= .leaf} with
 |none=>rw[hr]at hv;cases hv
 | some r=>
   let⟨u,h'⟩:=r
   rw[hr]at hv;obtain rfl:u=v:=V.eq_of_beq _ _ hv;rcases K3 g m d f args _ _ _ (λ_=>none) W gW hr (by grind[WR.start]) j with⟨x,q,_⟩|⟨_,k⟩
   ·exfalso
    let⟨fn,c,hf,hbd⟩:=i
    have a:=g.named f fn hf;have:(callFunc f gW).run P0 W = .ok (.enter f gW) W:=by
      simp only[callFunc,CD,run_program,Gy,hf,a,hbd,Option.isNone_some,wBN,if_false];rfl
    simp_all
   ·refine Calls.mono k λe w' l=>?_
    obtain⟨s,x,rfl,h⟩:=l;exact⟨x,rfl,λb=>TY h.val b,h.frame.still zgX⟩
noncomputable def IB(C:mw) (m d n f:Nat):List (Nat×V)->Bool
 |[]=>true
 |x::l=>Bool.rec false (IB C m d n f l) (isV x.2 (lP C m d f [.int .i64 (.ofNat x.1)] {next:=n,tr:= .leaf}))
theorem Nu{C:mw} {d n f:Nat}:∀l,IB C m d n f l=true->∀k s,Xg l k=some s->isV s (lP C m d f [.int .i64 (.ofNat k)] {next:=n,tr:= .leaf})=true
 |[],_,k,s,hk=>by cases hk
 | x ::l,h,k,s',hk=>by
   simp only[IB]at h;simp[Xg]at hk
   cases hb:isV x.2 (lP C m d f [.int .i64 (.ofNat x.1)] {next:=n,tr:= .leaf})with
   |false=>simp_all
   | true=>
     rw[hb]at h
     cases hx:Nat.beq x.1 k with
     | true=>
       simp_all
     | false=>
       rw[hx]at hk;exact Nu l h k s' hk
inductive KOk (C:mw):KE->Prop where
 |names {m d n f l} (a:P0.globals.size<=n) (b:∃fn c,P0.funcs[f]? =some fn/\fn.body=some c) (h:IB C m d n f l=true):KOk C (.names f l)
 |yes {m d n f} (a:P0.globals.size<=n) (b:∃fn c,P0.funcs[f]? =some fn/\fn.body=some c) (h:isTrue (lP C m d f [] {next:=n,tr:= .leaf})=true):KOk C (.yes f)
theorem WL{r:Option (V×Hp)} (h:isTrue r=true):isV (.bool true) r=true:=by
 unfold isTrue at h;split at h
 ·rfl
 ·cases h
theorem KOk.calls{C:mw} (i:zE C) {e:KE} (j:KOk C e) {f:Nat} {args:List V} {v:V} (hv:e.ask f args=some v) (o:v.flat=true) (W:World) (p:Di (λ_=>none) W) (gW:Array Value) (q:gP (λ_=>none) args gW.toList) :
  Calls P0 f gW W λe W'=>∃x,e = .returned x/\fU (λ_=>none) v x/\Still W W':=by
 cases j with
 | @names m d n g l b c h=>
   simp only[KE.ask,il]at hv;obtain⟨a,hv⟩:=hv;obtain rfl:=Cj a;split at hv
   ·rename_i k
    have r:=Nu l h k v hv
    grind[O4]
   ·cases hv
 | @yes m d n g b c h=>
   simp only[KE.ask,il]at hv;obtain⟨a,hv⟩:=hv;obtain rfl:=Cj a;split at hv
   ·cases hv
    exact Calls.mono (O4 i b c (WL h) W p gW q) (by simp_all)
   ·cases hv
noncomputable def mw.more(C:mw)(l:List KE):mw:=⟨C.start,C.ext,λf args h=>orB (Pr l f args) (λv=>some v) (C.K f args h)⟩
theorem Pd:∀l {f:Nat} {args:List V} {v:V},Pr l f args=some v->∃e∈l,e.ask f args=some v
 |[],_,_,_,h=>by cases h
 | e ::es,f,args,v,h=>by
   simp[Pr]at h
   cases hq:e.ask f args with
   |some u=>rw[hq]at h;grind[orB]
   | none=>
     rw[hq]at h
     let⟨e',hm,h'⟩:=Pd es h
     grind
theorem zE.more{C:mw} (a:zE C) {l:List KE} (hl:∀e∈l,KOk C e):zE (C.more l) where
 PB:=a.PB
 start:=a.start
 mixed:=a.mixed
 named:=a.named
 ext:=a.ext
 known:=λf args v h c d b Δ W gW g i=>by
  simp[mw.more]at c
  cases hq:Pr l f args with
  | some u=>
    rw[hq]at c;have:u=v:=by simpa[orB]using c
    subst this
    let⟨e,hm,he⟩:=Pd l hq
    exact(hl e hm).calls a he b W g.WZ.none gW i
  | none=>
    rw[hq]at c;exact a.known f args v h (by grind[orB]) d b Δ W gW g i
def E1:Nat->Ext
 |122=> .countByte
 |129=> .indexByte
 |_=> .none
theorem zan:(P0.funcs.toList.all λfn=>!(fn.name == "runtime.NumGoroutine"))=true:=by kernel_rfl
theorem mixed:P0.follows .mixedOrders=true:=by kernel_rfl
theorem Yx:Nat.ble P0.globals.size 3=true:=by kernel_rfl
theorem zd7:P0.funcs[122]? =some Tryz.f122:=by unfold P0;exact Tryz.func122
theorem zd8:P0.funcs[129]? =some Tryz.f129:=by unfold P0;exact Tryz.func129
theorem zf6(w:World):Di (λ_=>none) w:=λg c h=>by simp[zge]at h
noncomputable def C1:mw:=⟨W7,E1,λ_ _ _=>none⟩
theorem facts:zE C1 where
 PB:=λ_=>rfl
 start:=Wt
 known:=λ_ _ _ _ h=>nomatch h
 mixed:=mixed
 named:=λf fn a=>by
  have h:=Rh.1 zan fn (by rw[Array.mem_toList_iff];exact Array.mem_of_getElem? a);simpa using h
 ext:=λf fn a g Δ args v gW w hv b=>by
  by_cases c:f=122
  ·subst c;rw[zd7]at a;cases a;exact YY zd7 (by kernel_rfl) (by kernel_rfl) (by kernel_rfl) (by kernel_rfl) hv b
  ·by_cases d:f=129
   ·subst d;rw[zd8]at a;cases a;exact Y7 zd8 (by kernel_rfl) (by kernel_rfl) (by kernel_rfl) (by kernel_rfl) hv b
   ·have e:C1.ext f = .none:=by
     show E1 f = .none;unfold E1;split
     ·exact absurd rfl c
     ·exact absurd rfl d
     ·rfl
    rw[e]at hv;simp[WG]at hv
