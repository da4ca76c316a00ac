/- Parts. -/
import Derived.Test.YtloecllhljfidaaGreatDoorM07
set_option maxHeartbeats 4000000
namespace Go.Proofs.YtloecllhljfidaaGreatDoor.Hx
variable{c:Code}{o:Oper}{α:Type}{id a d d' m:Nat}{v:V}
abbrev iE:=Nat->V
def Ev(C:kW)(f:Nat)(args:List V)(h:Hp)(v:V)(h':Hp):Prop:=∃m d,lg C m d f args h=some (v,h')
inductive Wp (C:kW) (n:Nat) (c:Code) (Q:X->iE->Hp->Prop) (ρ:iE) (h:Hp):Prop
 |mk (b:∃m d x a h',(iV n c).f (lg C m d) m (.fn ρ []) h=some (x,.fn a [],h')/\Q x a h')
def oP(x:Option α)(k:α->Prop):Prop:=Option.rec False k x
theorem zbm(a:α)(k:α->Prop):oP (some a) k=k a:=rfl
theorem kU{α:Type} {x:Option α} {k:α->Prop}:oP x k↔∃a,x=some a/\k a:=by
 cases x with
 |none=>grind[oP]
 |some a=>exact⟨λh=>⟨a,rfl,h⟩,λ⟨_,h,h'⟩=>by grind[oP]⟩
theorem eh{α:Type}{x:Option α}{k:α->Prop}{a:α}(h:x=some a)(h':k a):oP x k:=by subst h;exact h'
def cP(C:kW)(f:Nat)(args:List V)(h:Hp)(k:V->Hp->Prop):Prop:=∃v h',Ev C f args h v h'/\k v h'
def bP(v:V) (a b:Prop):Prop:=match v with
 | .bool x=>Bool.rec b a x
 |_=>False
theorem im(x:Bool)(a b:Prop):bP (.bool x) a b=if x=true then a else b:=by cases x <;> rfl
section
variable{C:kW}{n:Nat}{Q:X->iE->Hp->Prop}{ρ:iE}{h:Hp}
theorem Wp.mono {a:X->iE->Hp->Prop} (b:Wp C n c Q ρ h) (hq:∀x ρ h,Q x ρ h->a x ρ h):Wp C n c a ρ h:=by
 let⟨m,d,x,ρ',h',e,f⟩:=b
 exact⟨m,d,x,ρ',h',e,by simp_all⟩
theorem Wp.skip(hq:Q .normal ρ h):Wp C n .skip Q ρ h:=⟨0,0,.normal,ρ,h,rfl,hq⟩
theorem Wp.ret(hq:Q .ret ρ h):Wp C n .ret Q ρ h:=⟨0,0,.ret,ρ,h,rfl,hq⟩
theorem Wp.exit(hq:Q (.exit id) ρ h):Wp C n (.exit id) Q ρ h:=⟨0,0,.exit id,ρ,h,rfl,hq⟩
def andThen(k:iE->Hp->Prop) (Q:X->iE->Hp->Prop):X->iE->Hp->Prop
 | .normal,ρ,h=>k ρ h
 |x,ρ,h=>Q x ρ h
theorem AV (b:m<=a) (e:d<=d') {c:Code} {t:Tm} {h:Hp} {r:X×Tm×Hp} (hv:(iV n c).f (lg C m d) m t h=some r):(iV n c).f (lg C a d') a t h=some r:=
 oQ (yG b e) b c hv
theorem Wp.seq{a b:Code} (e:Wp C n a (andThen (Wp C n b Q) Q) ρ h):Wp C n (.seq a b) Q ρ h:=by
 let⟨m,d,x,ρ',h',g,c⟩:=e
 cases x with
 | normal=>
   let⟨m',d',x',ρ'',h'',i,f⟩:=c
   refine⟨max m m',max d d',x',ρ'',h'',?_,f⟩
   grind[iV,AV,wB0,IB,Nat.le_max_right]
 |exit id=>exact⟨m,d,.exit id,ρ',h',by grind[iV,IB],c⟩
 |ret=>exact⟨m,d,.ret,ρ',h',by grind[iV,IB],c⟩
theorem Wp.cond{e:Operand} {a b:Code} (c:oP ((Ab e).f (.fn ρ []) h) λv=>bP v (Wp C n a Q ρ h) (Wp C n b Q ρ h)):Wp C n (.cond e a b) Q ρ h:=by
 let⟨v,hv,c⟩:=kU.1 c
 unfold bP at c;split at c
 ·rename_i x
  cases x with
  | true=>
    let⟨m,d,x,ρ',h',i,g⟩:=c
    exact⟨m,d,x,ρ',h',by grind[iV,fR],g⟩
  | false=>
    let⟨m,d,x,ρ',h',i,g⟩:=c
    exact⟨m,d,x,ρ',h',by grind[iV,fR],g⟩
 simp_all
def xO(id:Nat) (Q:X->iE->Hp->Prop):X->iE->Hp->Prop
 | .exit i,ρ,h=>Bool.rec (Q (.exit i) ρ h) (Q .normal ρ h) (Nat.beq i id)
 |x,ρ,h=>Q x ρ h
theorem Wp.block  (b:Wp C n c (xO id Q) ρ h):Wp C n (.block id c) Q ρ h:=by
 let⟨m,d,x,ρ',h',e,a⟩:=b
 cases x with
 |normal=>exact⟨m,d,.normal,ρ',h',by grind[iV,Mi],a⟩
 |ret=>exact⟨m,d,.ret,ρ',h',by grind[iV,Mi],a⟩
 | exit i=>
   simp[xO]at a
   cases hb:Nat.beq i id with
   |true=>rw[hb]at a;exact⟨m,d,.normal,ρ',h',by simp_all[iV,Mi],a⟩
   |false=>rw[hb]at a;exact⟨m,d,.exit i,ρ',h',by simp_all[iV,Mi],a⟩
theorem Wp.loop (p:Wp C n c (andThen (Wp C n (.loop c) Q) Q) ρ h):Wp C n (.loop c) Q ρ h:=by
 let⟨m,d,x,ρ',h',b,e⟩:=p
 cases x with
 | normal=>
   let⟨m',d',x',ρ'',h'',q,s⟩:=e
   refine⟨max m m' + 1,max d d',x',ρ'',h'',?_,s⟩;have a:=AV (Gq (wB0 m m') (PH _)) (wB0 d d') b;show IB _ _=_;simp[a,IB]
   have g:∀k k' t h r,k<=k'->K6 (λt h=>(iV n c).f (lg C m' d') m' t h) k t h=some r->
       K6 (λt h=>(iV n c).f (lg C (max m m' + 1) (max d d')) (max m m' + 1) t h) k' t h=some r:=by
     intro k
     induction k with
     |zero=>intro k' t h r _ hv;cases hv
     | succ k u=>
       intro k' t h r hk hv;obtain⟨k',rfl⟩:∃j,k' = j+1:=⟨k'-1,by omega⟩
       have i:=hv;show IB ((iV n c).f (lg C (max m m' + 1) (max d d')) (max m m' + 1) t h) (K6 (λt h=>(iV n c).f (lg C (max m m' + 1) (max d d')) (max m m' + 1) t h) k')=some r
       have l:∀{r},(iV n c).f (lg C m' d') m' t h=some r->(iV n c).f (lg C (max m m' + 1) (max d d')) (max m m' + 1) t h=some r:=
         λv=>AV (by omega) (Nat.le_max_right d d') v
       rcases KL i with⟨w,b,a,o⟩|⟨a,o⟩
       ·rw[l a];exact u k' w b r (by omega) o
       ·rw[l a]
        let⟨x',t',h'⟩:=r
        cases x' with
        |normal=>simp_all
        |exit id=>rfl
        |ret=>rfl
   exact g m' (max m m') _ _ _ (Nat.le_max_right m m') q
 | exit id=>
   refine⟨m+1,d,.exit id,ρ',h',?_,e⟩;have a:=AV (PH m) (iZ d) b;simp[iV];show IB _ _=_
   grind[IB]
 | ret=>
   refine⟨m+1,d,.ret,ρ',h',?_,e⟩;have a:=AV (PH m) (iZ d) b;simp[iV];show IB _ _=_
   grind[IB]
theorem Wp.zcM (I:Nat->iE->Hp->Prop) (b:∀k ρ h,I k ρ h->Wp C n c (andThen (λa h'=>∃k',k' < k/\I k' a h') Q) ρ h) {k:Nat} (h0:I k ρ h):Wp C n (.loop c) Q ρ h:=by
 induction k using Nat.strongRecOn generalizing ρ h with
 | _ k d=>
   refine .loop ((b k ρ h h0).mono λx a h' hq=>?_)
   cases x with
   |normal=>let⟨k',hk,hi⟩:=hq;exact d k' hk hi
   |exit id=>exact hq
   |ret=>exact hq
def qa(n:Nat) (o:Oper) (K:iE->Hp->Prop):V->iE->Hp->Prop:=match o.dst with
 |none=>λ_ ρ h=>K ρ h
 | some d=>match Nat.blt d n with
   |true=>λv ρ h=>K (fx ρ d v) h
   |false=>λ_ _ _=>False
def valOf:R->Option (V×Hp)
 | .val v h=>some (v,h)
 | .call _ _=>none
def J8:R->Option (Nat×List V)
 | .call f args=>some (f,args)
 | .val _ _=>none
def zE(o:Oper):Bool:=match o.op with
 | .call c=>match c.callee with
   | .value _| .invoke _ _=>true
   | .builtin _=>false
 |_=>false
def Su(C:kW) (o:Oper) (K:V->iE->Hp->Prop):iE->Hp->Prop:=match zE o with
 |true=>λρ h=>oP (oB ((mr o).f (.fn ρ []) h) J8) λx=>cP C x.1 x.2 h λv h'=>K v ρ h'
 |false=>λρ h=>oP (oB ((mr o).f (.fn ρ []) h) valOf) λx=>K x.1 ρ x.2
def Sk(C:kW) (o:Oper) (K:V->iE->Hp->Prop):iE->Hp->Prop:=match cls o with
 |0=>λρ h=>oP ((iJ o).f (.fn ρ []) h) λv=>K v ρ h
 |1=>λρ h=>oP ((su o).f (.fn ρ [])) λr=>K (r.2 h.next) ρ (h.new r.1)
 |_=>Su C o K
noncomputable def gV(b:Bool)(x:Option V):Option V:=Bool.rec (some .undef) x b
noncomputable def gH(b:Bool)(h:Hp)(x:Option (V×Hp)):Option (V×Hp):=Bool.rec (some (.undef,h)) x b
noncomputable def gC(b:Bool)(x:Option (Nat×List V)):Option (Option (Nat×List V)):=Bool.rec (some none) (oB x λy=>some (some y)) b
def vB(C:kW) (x:Option (Nat×List V)) (h:Hp) (K:V->Hp->Prop):Prop:=match x with
 |none=>K .undef h
 |some y=>cP C y.1 y.2 h K
def gdR(C:kW) (o:Oper) (b:Bool) (K:V->iE->Hp->Prop) (ρ:iE) (h:Hp):Prop:=match cls o with
 |0=>oP (gV b ((iJ o).f (.fn ρ []) h)) λv=>K v ρ h
 |1=>oP (gH b h (oB ((su o).f (.fn ρ [])) λr=>some (r.2 h.next,h.new r.1))) λx=>K x.1 ρ x.2
 | _=>match zE o with
   |true=>oP (gC b (oB ((mr o).f (.fn ρ []) h) J8)) λx=>vB C x h λv h'=>K v ρ h'
   |false=>oP (gH b h (oB ((mr o).f (.fn ρ []) h) valOf)) λx=>K x.1 ρ x.2
def A9(C:kW) (n:Nat) (all:List Oper) (o:Oper) (K:iE->Hp->Prop):iE->Hp->Prop:=match kR n all o with
 |none=>Sk C o (qa n o K)
 |some g=>λρ h=>oP (g.f (.fn ρ [])) λb=>gdR C o b (qa n o K) ρ h
noncomputable def Am(C:kW) (n:Nat) (all:List Oper) (K:iE->Hp->Prop) (os:List Oper):iE->Hp->Prop:=List.rec K (λo _ a=>A9 C n all o a) os
theorem X2(C:kW)(n:Nat)(all:List Oper)(K:iE->Hp->Prop)(o:Oper)(os:List Oper):Am C n all K (o::os)=A9 C n all o (Am C n all K os):=rfl
theorem Ns {K:iE->Hp->Prop}  (hk:qa n o K v ρ h):∃d,AZ n o=some d/\∃a,d.f (.fn ρ []) v = .fn a []/\K a h:=by
 unfold qa at hk;unfold AZ
 cases ho:o.dst with
 |none=>simp_all
 | some d=>
   rw[ho]at hk;simp only at hk⊢
   cases hb:Nat.blt d n with
   |true=>rw[hb]at hk;exact⟨_,rfl,_,rfl,hk⟩
   |false=>simp_all
def zdO(C:kW)(o:Oper)(K:V->iE->Hp->Prop)(ρ:iE)(h:Hp):Prop:=∃m d v h',(JT o).f (lg C m d) (.fn ρ []) h=some (v,h')/\K v ρ h'
theorem Zx {K:V->iE->Hp->Prop} (hk:Su C o K ρ h):(∃v h',(mr o).f (.fn ρ []) h=some (.val v h')/\K v ρ h')\/∃f args,(mr o).f (.fn ρ []) h=some (.call f args)/\cP C f args h λv h'=>K v ρ h':=by
 unfold Su at hk;cases hb:zE o
 all_goals rw[hb]at hk
 rotate_left
 ·let⟨x,a,c⟩:=kU.1 hk
  rw[fR]at a
  let⟨r,d,b⟩:=a
  cases r with
  |val v h'=>cases b
  |call f args=>cases b;grind
 ·let⟨x,a,c⟩:=kU.1 hk
  rw[fR]at a
  let⟨r,d,b⟩:=a
  cases r with
  |val v h'=>cases b;grind
  |call f args=>cases b
theorem OM {K:V->iE->Hp->Prop} (hk:Sk C o K ρ h):zdO C o K ρ h:=by
 by_cases hc0:cls o=0
 ·have a:oP ((iJ o).f (.fn ρ []) h) (λv=>K v ρ h):=by unfold Sk at hk;rw[hc0]at hk;exact hk
  let⟨v,e,b⟩:=kU.1 a
  exact⟨0,0,v,h,by simp_all[JT,oB],b⟩
 ·by_cases hc1:cls o=1
  ·have a:oP ((su o).f (.fn ρ [])) (λr=>K (r.2 h.next) ρ (h.new r.1)):=by unfold Sk at hk;rw[hc1]at hk;exact hk
   let⟨r,e,b⟩:=kU.1 a
   exact⟨0,0,_,_,by simp_all[JT,oB],b⟩
  ·have a:Su C o K ρ h:=by
    unfold Sk at hk;generalize cls o=c at hk hc0 hc1;rcases c with _|_|c
    ·omega
    ·omega
    ·exact hk
   have g:∀call,(JT o).f call (.fn ρ []) h=oB ((mr o).f (.fn ρ []) h) λr=>match r with
     | .val v h=>some (v,h)
     | .call f args=>call f args h:=by
    intro call;unfold JT;split
    ·omega
    ·omega
    ·rfl
   rcases Zx a with⟨v,h',e,b⟩|⟨f,args,e,v,h',⟨m,d,j⟩,i⟩
   ·exact⟨0,0,v,h',by simp_all[oB],b⟩
   ·exact⟨m,d,v,h',by simp_all[oB],i⟩
theorem zdI {b:Bool} {K:V->iE->Hp->Prop} (hk:gdR C o b K ρ h):(b=true/\zdO C o K ρ h)\/(b=false/\K .undef ρ h):=by
 unfold gdR at hk;by_cases hc0:cls o=0
 ·rw[hc0]at hk
  let⟨v,a,e⟩:=kU.1 hk
  cases b with
  |true=>exact .inl ⟨rfl,OM (by unfold Sk;rw[hc0];exact eh a e)⟩
  |false=>cases a;simp_all
 ·by_cases hc1:cls o=1
  ·rw[hc1]at hk
   let⟨v,a,e⟩:=kU.1 hk
   cases b with
   | true=>
     let⟨r,i,g⟩:=fR.1 (a)
     cases g
     exact .inl ⟨rfl,by grind[OM,Sk,eh]⟩
   |false=>cases a;simp_all
  ·have j:∀K,Su C o K ρ h->Sk C o K ρ h:=by
    intro K hk;unfold Sk;generalize cls o=c at hc0 hc1;rcases c with _|_|c
    ·omega
    ·omega
    ·exact hk
   have d:(match zE o with
     |true=>oP (gC b (oB ((mr o).f (.fn ρ []) h) J8)) λx=>vB C x h λv h'=>K v ρ h'
     |false=>oP (gH b h (oB ((mr o).f (.fn ρ []) h) valOf)) λx=>K x.1 ρ x.2):=by
    generalize cls o=c at hk hc0 hc1;rcases c with _|_|c
    ·omega
    ·omega
    ·exact hk
   cases hi:zE o with
   | true=>
     rw[hi]at d
     let⟨x,a,e⟩:=kU.1 d
     cases b with
     | true=>
       let⟨y,i,g⟩:=fR.1 (a)
       cases g
       exact .inl ⟨rfl,OM (j _ (by unfold Su;rw[hi];exact eh i e))⟩
     |false=>cases a;exact .inr ⟨rfl,e⟩
   | false=>
     rw[hi]at d
     let⟨x,a,e⟩:=kU.1 d
     cases b with
     |true=>exact .inl ⟨rfl,OM (j _ (by unfold Su;rw[hi];exact eh a e))⟩
     |false=>cases a;simp_all
theorem QX (b:m<=a) (c:d<=d') {all os:List Oper} {t:Tm} {h:Hp} {r:Tm×Hp} (hv:(vH n all os).f (lg C m d) t h=some r):(vH n all os).f (lg C a d') t h=some r:=
 EO (yG b c) os hv
theorem Rz{all:List Oper} {K:iE->Hp->Prop}:∀os {ρ:iE} {h:Hp},Am C n all K os ρ h->∃m d a h',(vH n all os).f (lg C m d) (.fn ρ []) h=some (.fn a [],h')/\K a h'
 |[],ρ,h,hk=>⟨0,0,ρ,h,rfl,hk⟩
 | o ::os,ρ,h,hk=>by
   rw[X2]at hk;unfold A9 at hk
   have l:∀{ρ h},zdO C o (qa n o (Am C n all K os)) ρ h->∃d,AZ n o=some d/\∃m c v k,(JT o).f (lg C m c) (.fn ρ []) h=some (v,k)/\∃e,d.f (.fn ρ []) v = .fn e []/\
       ∃a h',(vH n all os).f (lg C m c) (.fn e []) k=some (.fn a [],h')/\K a h':=by
     intro ρ h hk
     let⟨m,c,v,k,s,w⟩:=hk
     let⟨d,q,e,r,t⟩:=Ns w
     let⟨m',d',a,h',u,i⟩:=Rz os t
     exact⟨d,q,max m m',max c d',v,k,Kr (by grind[yG,wB0]) s,e,r,a,h',by grind[QX,Nat.le_max_right],i⟩
   cases hw:kR n all o with
   | none=>
     rw[hw]at hk
     let⟨d,q,m,c,v,k,s,e,r,a,h',u,i⟩:=l (OM hk)
     refine⟨m,c,a,h',?_,i⟩
     simp_all[vH,Lp,oB]
   | some g=>
     rw[hw]at hk
     let⟨b,hb,hk⟩:=kU.1 hk
     rcases zdI hk with⟨p,j⟩|⟨p,j⟩ <;> subst p
     ·let⟨d,q,m,c,v,k,s,e,r,a,h',u,i⟩:=l j
      refine⟨m,c,a,h',?_,i⟩
      simp_all[vH,Lp,oB]
     ·let⟨d,q,e,r,t⟩:=Ns j
      let⟨m',d',a,h',u,i⟩:=Rz os t
      refine⟨m',d',a,h',?_,i⟩
      simp_all[vH,Lp,oB]
theorem Wp.region {ops:Array Oper} (a:Am C n ops.toList (λρ h=>Q .normal ρ h) ops.toList ρ h):Wp C n (.region id ops false) Q ρ h:=by
 let⟨m,d,ρ',h',c,b⟩:=Rz _ a
 exact⟨m,d,.normal,ρ',h',by simp_all[iV,oB],b⟩
end
section
variable{C:kW}{n:Nat}{Q:X->iE->Hp->Prop}{ρ:iE}{h:Hp}
def FI(h:Hp) (r:Rec):Prop:=match r.made with
 |none=>(iJ r.it.o).f r.t h=some r.v
 |some (l,ob)=>h.get l=some ob/\O.beq ob ob=true
def yA(k:Nat) (h:Hp):List (Bool×Rec)->Prop->Prop
 |[],K=>K
 |r::rs,K=>Bool.rec (Bool.rec True (FI h r.2) r.1/\yA k h rs K) (yA k h rs K) (Nat.blt r.2.last k)
def EB(rs:List (Bool×Rec)):List Rec:=(rs.filter (·.1)).map (·.2)
def itR(C:kW) (n:Nat) (all:List Oper) (ws:List It) (a:It) (c:Nat->iE->Hp->List (Bool×Rec)->Prop) (k:Nat):iE->Hp->List (Bool×Rec)->Prop:=match cls a.o with
  | 0=>match kR n all a.o with
    |none=>λρ h rs=>oP ((iJ a.o).f (.fn ρ []) h) λv=>qa n a.o (λd h=>c k d h ((true,{it:=a,t:= .fn ρ [],v,made:=none,last:=late ws a})::rs)) v ρ h
    |some g=>λρ h rs=>oP (g.f (.fn ρ [])) λb=>oP (gV b ((iJ a.o).f (.fn ρ []) h)) λv=>
       qa n a.o (λd h=>c k d h ((b,{it:=a,t:= .fn ρ [],v,made:=none,last:=late ws a})::rs)) v ρ h
  | 1=>match kR n all a.o with
    |none=>λρ h rs=>oP ((su a.o).f (.fn ρ [])) λr=>qa n a.o (λd h'=>c k d h' ((true,{it:=a,t:= .fn ρ [],v:=r.2 h.next,made:=some (h.next,r.1),last:=late ws a})::rs)) (r.2 h.next) ρ (h.new r.1)
    |some _=>λ_ _ _=>False
  | _ =>match kR n all a.o with
    |none=>λρ h rs=>yA k h rs (Su C a.o (λv ρ h'=>h.next<=h'.next/\qa n a.o (λρ h=>c (Nat.succ k) ρ h rs) v ρ h') ρ h)
    | some g=>match zE a.o with
      |true=>λρ h rs=>yA k h rs (oP (g.f (.fn ρ [])) λb=>oP (gC b (oB ((mr a.o).f (.fn ρ []) h) J8)) λx=>vB C x h λv h'=>h.next<=h'.next/\qa n a.o (λρ h=>c (Nat.succ k) ρ h rs) v ρ h')
      |false=>λ_ _ _=>False
noncomputable def Ke(C:kW) (n:Nat) (all:List Oper) (ws:List It) (K:iE->Hp->Prop) (l:List It):Nat->iE->Hp->List (Bool×Rec)->Prop:=List.rec (λk ρ h rs=>yA k h rs (K ρ h)) (λa _ b k=>itR C n all ws a b k) l
theorem Xp(C:kW)(n:Nat)(all:List Oper)(ws:List It)(K:iE->Hp->Prop)(a:It)(l:List It)(k:Nat):Ke C n all ws K (a::l) k=itR C n all ws a (Ke C n all ws K l) k:=rfl
theorem Ld{k:Nat}:∀{rs:List (Bool×Rec)} {K:Prop},yA k h rs K->CI k h (EB rs)=true/\K
 |[],K,hk=>⟨rfl,hk⟩
 | (b,r)::rs,K,hk=>by
   simp [yA]at hk;have a:∀{K:Prop},yA k h rs K->(b=true->(Nat.blt r.last k ||z7 h r)=true)->CI k h (EB ((b,r)::rs))=true/\K:=by
     intro K hk hb
     let⟨c,d⟩:=Ld hk
     refine⟨?_,d⟩
     cases b with
     |false=>exact c
     | true=>
       show CI k h (r::EB rs)=true;unfold CI;rw[wBn,hb rfl];exact c
   cases hb:Nat.blt r.last k with
   |true=>rw[hb]at hk;grind
   | false=>
     rw[hb]at hk
     let⟨h0,hk⟩:=hk
     refine a hk (λe=>?_);subst e;rw[hb,Bool.false_or]
     grind[FI,z7,V.Nu]
theorem zez{b:Bool} {x:Option V}  (h:gV b x=some v):(b=true/\x=some v)\/(b=false/\v = .undef):=by
 cases b with
 |true=>exact .inl ⟨rfl,h⟩
 |false=>cases h;simp_all
theorem Ih {d:DF} (b:AZ n o=some d) {K:iE->Hp->Prop} {v:V} (hk:qa n o K v ρ h):∃a,d.f (.fn ρ []) v = .fn a []/\K a h:=by
 grind[Ns]
theorem Xw (b:m<=a) (c:d<=d') {all:List Oper} {ws l:List It} {k:Nat} {t:Tm} {h:Hp} {rs:List Rec} {r:Tm×Hp} (hv:(yN n all ws l k).f (lg C m d) t h rs=some r) :
  (yN n all ws l k).f (lg C a d') t h rs=some r:=Aq (yG b c) l k hv
theorem EK{all:List Oper} {ws:List It} {K:iE->Hp->Prop}:∀l k {ρ:iE} {h:Hp} {rs:List (Bool×Rec)},Ke C n all ws K l k ρ h rs->
  ∃m d i h',(yN n all ws l k).f (lg C m d) (.fn ρ []) h (EB rs)=some (.fn i [],h')/\K i h'
 | [],k,ρ,h,rs,hk=>by
   let⟨s,u⟩:=Ld hk
   exact⟨0,0,ρ,h,by simp_all[yN,bB],u⟩
 | a ::l,k,ρ,h,rs,hk=>by
   have e:∀{K:iE->Hp->Prop} {v:V} {ρ:iE} {h:Hp},qa n a.o K v ρ h->∃d,AZ n a.o=some d:=by grind[Ns]
   have w:∀{d},AZ n a.o=some d->∀call t h rs,(yN n all ws (a::l) k).f call t h rs=(match cls a.o with
       |0=>Jl n all ws a d (yN n all ws l k)
       |1=>G7 n all ws a d (yN n all ws l k)
       |_=>CM n all k a d (yN n all ws l (Nat.succ k))).f call t h rs:=by
     intro d j call t h rs
     conv=>lhs;unfold yN
     rw[j];simp only;generalize cls a.o=c;rcases c with _|_|c <;> rfl
   have B:∀call t h,cls a.o≠0->cls a.o≠1->(JT a.o).f call t h=oB ((mr a.o).f t h) λr=>match r with
       | .val v h=>some (v,h)
       | .call f args=>call f args h:=by
     intro call t h h0 s;unfold JT;split
     ·omega
     ·omega
     ·rfl
   have D:∀t,kR n all a.o=none->qK n all a.o t=some true:=by grind[qK]
   have E:∀t g,kR n all a.o=some g->qK n all a.o t=g.f t:=by grind[qK]
   have step:∀{h:Hp} {ρ:iE} {rs:List (Bool×Rec)} {c:Nat},cls a.o=c+2->CI k h (EB rs)=true->qK n all a.o (.fn ρ [])=some true->
       Su C a.o (λv ρ h'=>h.next<=h'.next/\qa n a.o (λρ h=>Ke C n all ws K l (Nat.succ k) ρ h rs) v ρ h') ρ h->
       ∃m d i h',(yN n all ws (a::l) k).f (lg C m d) (.fn ρ []) h (EB rs)=some (.fn i [],h')/\K i h':=by
     intro h ρ rs c hc q L hk;have z:=λcall=>B call (.fn ρ []) h (by omega) (by omega);rcases Zx hk with⟨v,h',hv,F,hk⟩|⟨f,args,hv,v,h',⟨M,d0,H⟩,F,hk⟩
     ·simp[ oB]at z
      let⟨d,j⟩:=e hk
      let⟨ρ1,s,hk⟩:=Ih j hk
      let⟨m,dd,i,h'',u,p⟩:=EK l _ hk
      exact⟨m,dd,i,h'',by simp_all[CM,bB,oB,VK],p⟩
     ·simp[hv,oB]at z
      let⟨d,j⟩:=e hk
      let⟨ρ1,s,hk⟩:=Ih j hk
      let⟨m,dd,i,h'',u,p⟩:=EK l _ hk
      refine⟨max M m,max d0 dd,i,h'',?_,p⟩;have G:=yG (wB0 M m) (wB0 d0 dd) _ _ _ _ H;rw[w j,hc];simp[CM,q,bB,L,oB,z,G,s,VK F]
      grind[Xw,Nat.le_max_right]
   have A:∀{h:Hp} {ρ:iE} {rs:List (Bool×Rec)} {c:Nat},cls a.o=c+2->CI k h (EB rs)=true->qK n all a.o (.fn ρ [])=some false->
       qa n a.o (λρ h=>Ke C n all ws K l (Nat.succ k) ρ h rs) .undef ρ h->
       ∃m d i h',(yN n all ws (a::l) k).f (lg C m d) (.fn ρ []) h (EB rs)=some (.fn i [],h')/\K i h':=by
     intro h ρ rs c hc q L hk
     let⟨d,j⟩:=e hk
     let⟨ρ1,s,hk⟩:=Ih j hk
     let⟨m,dd,i,h'',u,p⟩:=EK l _ hk
     exact⟨m,dd,i,h'',by simp_all[CM,bB,oB],p⟩
   rw[Xp]at hk;unfold itR at hk;generalize hc:cls a.o=c at hk;rcases c with _|_|c
   ·simp only at hk
    cases hwc:kR n all a.o with
    | none=>
      rw[hwc]at hk
      let⟨v,hv,hk⟩:=kU.1 hk
      let⟨d,j⟩:=e hk
      let⟨ρ1,s,hk⟩:=Ih j hk
      let⟨m,dd,i,h',u,p⟩:=EK l k hk
      exact⟨m,dd,i,h',by rw[w j,hc];simp[Jl,D _ hwc,hv,oB,s];exact u,p⟩
    | some g=>
      rw[hwc]at hk
      let⟨b,hb,hk⟩:=kU.1 hk
      let⟨v,hv,hk⟩:=kU.1 hk
      let⟨d,j⟩:=e hk
      let⟨ρ1,s,hk⟩:=Ih j hk
      let⟨m,dd,i,h',u,p⟩:=EK l k hk
      rcases zez hv with⟨I,J⟩|⟨I,N⟩
      ·subst I
       exact⟨m,dd,i,h',by rw[w j,hc];simp[Jl,E _ _ hwc,hb,J,oB,s];exact u,p⟩
      ·subst I;subst N
       exact⟨m,dd,i,h',by rw[w j,hc];simp[Jl,E _ _ hwc,hb,oB,s];exact u,p⟩
   ·simp only at hk
    cases hwc:kR n all a.o with
    | none=>
      rw[hwc]at hk
      let⟨v,hv,hk⟩:=kU.1 hk
      let⟨d,j⟩:=e hk
      let⟨ρ1,s,hk⟩:=Ih j hk
      let⟨m,dd,i,h',u,p⟩:=EK l k hk
      exact⟨m,dd,i,h',by rw[w j,hc];simp[G7,D _ hwc,hv,oB,s];exact u,p⟩
    |some g=>simp_all
   ·simp only at hk
    cases hwc:kR n all a.o with
    | none=>
      rw[hwc]at hk
      let⟨q,hk⟩:=Ld hk
      simp_all
    | some g=>
      rw[hwc]at hk
      cases hi:zE a.o with
      |false=>simp_all
      | true=>
        rw[hi]at hk
        let⟨q,hk⟩:=Ld hk
        let⟨b,hb,hk⟩:=kU.1 hk
        let⟨x,hx,hk⟩:=kU.1 hk
        cases b with
        | true=>
          let⟨y,p,O⟩:=fR.1 (hx)
          cases O
          exact step hc q (by simp_all) (by unfold Su;rw[hi];exact eh p hk)
        | false=>
          cases hx;exact A hc q (by simp_all) hk.2
noncomputable def yY(all:List Oper):Bool:=Rk (items all 0 []) (gZ (items all 0 []))&&yd (items all 0 []) (gZ (items all 0 [])) (order (items all 0 []) (gZ (items all 0 [])) (gZ (items all 0 [])) 0) 0 0
noncomputable def W2(C:kW) (n:Nat) (all:List Oper) (K:iE->Hp->Prop) (ρ:iE) (h:Hp):Prop:=Ke C n all (gZ (items all 0 [])) K (order (items all 0 []) (gZ (items all 0 [])) (gZ (items all 0 [])) 0) 0 ρ h []
theorem Wp.draw {ops:Array Oper} (a:yY ops.toList=true) (b:W2 C n ops.toList (λρ h=>Q .normal ρ h) ρ h):Wp C n (.region id ops true) Q ρ h:=by
 let⟨m,d,ρ',h',c,f⟩:=EK _ _ b
 have e:EB []=[]:=rfl;rw[e]at c;refine⟨m,d,.normal,ρ',h',?_,f⟩
 simp_all[yY,iV,Oz,oB]
noncomputable def jB(C:kW) (n:Nat) (c:Code):(X->iE->Hp->Prop)->iE->Hp->Prop:=
 Code.rec
  (λQ=>Q .normal)
  (fun _ ops d Q=>match d with
   |false=>Am C n ops.toList (λρ h=>Q .normal ρ h) ops.toList
   | true=>match yY ops.toList with
     |true=>W2 C n ops.toList (λρ h=>Q .normal ρ h)
     |false=>λ_ _=>False)
  (λ_ b a _ Q=>a (andThen (Wp C n b Q) Q))
  (λc _ _ a e Q ρ h=>oP ((Ab c).f (.fn ρ []) h) λv=>bP v (a Q ρ h) (e Q ρ h))
  (λid _ g Q=>g (xO id Q))
  (λc _ Q=>Wp C n (.loop c) Q)
  (λ_ _ _ _ _ _ _ _ _=>False)
  (λid Q=>Q (.exit id))
  (λ_ _ _ _ _=>False)
  (λ_ _ _ _=>False)
  (λ_ _ _ _=>False)
  (λQ=>Q .ret)
  (λ_ _ _ _=>False) c
theorem Wp.code:∀c {Q:X->iE->Hp->Prop} {ρ:iE} {h:Hp},jB C n c Q ρ h->Wp C n c Q ρ h
 | .skip,_,_,_,hk=> .skip hk
 | .region _ ops false,_,_,_,hk=> .region hk
 | .region _ ops true,Q,ρ,h,hk=>by
   have d:(match yY ops.toList with
       |true=>W2 C n ops.toList (λρ h=>Q .normal ρ h)
       |false=>λ_ _=>False) ρ h:=hk
   cases hd:yY ops.toList with
   |true=>simp_all[draw]
   |false=>simp_all
 | .seq a _,_,_,_,hk=> .seq (Wp.code a hk)
 | .cond c a b,_,_,_,hk=>by
   let⟨v,hv,hk⟩:=kU.1 hk
   refine .cond (eh hv ?_);unfold bP at hk⊢;split at hk
   ·rename_i x
    cases x with
    |true=>exact Wp.code a hk
    |false=>exact Wp.code b hk
   ·exact hk.elim
 | .block id c,_,_,_,hk=> .block (Wp.code c hk)
 | .loop c,_,_,_,hk=>hk
 | .exit id,_,_,_,hk=> .exit hk
 | .ret,_,_,_,hk=> .ret hk
 | .rangeFunc ..,_,_,_,hk=>hk.elim
 | .scope _,_,_,_,hk=>hk.elim
 | .label _,_,_,_,hk=>hk.elim
 | .goto _,_,_,_,hk=>hk.elim
 | .refuse _,_,_,_,hk=>hk.elim
def zce(l:List ResultVar)(Q:V->Hp->Prop)(ρ:iE)(h:Hp):Prop:=oP (DA (.fn ρ []) h l) λvs=>Q (Fq vs) h
def Je(l:List ResultVar) (Q:V->Hp->Prop):X->iE->Hp->Prop
 | .exit _,_,_=>False
 |_,ρ,h=>zce l Q ρ h
def Lt(args:List V):iE:=λi=>(args[i]?).getD .undef
theorem cP.func(hs:C.start=zt) {f:Nat} {fn:Func} {c:Code} {args:List V} (i:P0.funcs[f]? =some fn) (hb:fn.body=some c) (hk:C.K f args h=none) (e:args.length<=fn.ntmps) {Q:V->Hp->Prop}
  (j:Wp C fn.ntmps c (Je fn.results.toList Q) (Lt args) h):cP C f args h Q:=by
 let⟨m,d,x,ρ',h',o,g⟩:=j
 have a:zce fn.results.toList Q ρ' h'->(∀id,x≠ .exit id)->cP C f args h Q:=by
  intro k hx
  let⟨vs,p,l⟩:=kU.1 k
  refine⟨_,_,⟨m,d+1,?_⟩,l⟩;show(FW C f).f (lg C m d) m args h=_;unfold FW;rw[i];simp[hb,hk,orB];have b:=VK e;have n:zt args = .fn (Lt args) []:=rfl;rw[ b]
  cases x with
  |normal=>simp_all[bB,oB,Tm.ds,zbJ]
  |ret=>simp_all[bB,oB,Tm.ds,zbJ]
  |exit id=>simp_all
 cases x with
 |normal=>exact a g (by simp_all)
 |ret=>exact a g (by simp_all)
 |exit id=>exact g.elim
theorem cP.ZN(hs:C.start=zt) {f:Nat} {fn:Func} {c:Code} {args:List V} {k:Nat} {rs:List ResultVar} (b:P0.funcs[f]? =some fn) (hb:fn.body=some c) (d:fn.ntmps=k) (e:fn.results.toList=rs)
  (hk:C.K f args h=none) (a:args.length<=k) {Q:V->Hp->Prop} (g:Wp C k c (Je rs Q) (Lt args) h):cP C f args h Q:=by
 grind[cP.func]
theorem cP.known{f:Nat} {fn:Func}  {args:List V}  (a:P0.funcs[f]? =some fn) (hb:fn.body=some c) (hk:C.K f args h=some v) (b:SE args=true) (d:v.flat=true) {Q:V->Hp->Prop} (hq:Q v h):cP C f args h Q:=by
 refine⟨v,h,⟨0,1,?_⟩,hq⟩;show(FW C f).f _ _ args h=_
 simp_all[FW,orB,bB]
theorem cP.mono{f:Nat} {args:List V} {Q a:V->Hp->Prop} (hc:cP C f args h Q) (hq:∀v h,Q v h->a v h):cP C f args h a:=by
 let⟨v,h',b,c⟩:=hc
 exact⟨v,h',b,hq _ _ c⟩
end
