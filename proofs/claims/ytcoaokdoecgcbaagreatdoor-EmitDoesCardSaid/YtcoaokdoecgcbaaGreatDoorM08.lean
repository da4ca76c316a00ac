/- Parts. -/
import Derived.Test.YtcoaokdoecgcbaaGreatDoorM07
set_option maxHeartbeats 4000000
namespace Go.Proofs.YtcoaokdoecgcbaaGreatDoor.Hx
variable{c:Code}{o:Oper}{α:Type}{id a b d m:Nat}{v:V}
abbrev iG:=Nat->V
def Ev(C:mh)(f:Nat)(args:List V)(h:Hp)(v:V)(h':Hp):Prop:=∃m d,lN C m d f args h=some (v,h')
inductive Wp (C:mh) (n:Nat) (c:Code) (Q:X->iG->Hp->Prop) (ρ:iG) (h:Hp):Prop
 |mk (b:∃m d x a h',(jc n c).f (lN C m d) m (.fn ρ []) h=some (x,.fn a [],h')/\Q x a h')
def oP(x:Option α)(k:α->Prop):Prop:=Option.rec False k x
theorem zdx(a:α)(k:α->Prop):oP (some a) k=k a:=rfl
theorem ma{α:Type} {x:Option α} {k:α->Prop}:oP x k↔∃a,x=some a/\k a:=by
 cases x with
 |none=>grind[oP]
 |some a=>exact⟨λh=>⟨a,rfl,h⟩,λ⟨_,h,h'⟩=>by grind[oP]⟩
theorem ec{α:Type}{x:Option α}{k:α->Prop}{a:α}(h:x=some a)(h':k a):oP x k:=by subst h;exact h'
def cP(C:mh)(f:Nat)(args:List V)(h:Hp)(k:V->Hp->Prop):Prop:=∃v h',Ev C f args h v h'/\k v h'
def bP(v:V) (a b:Prop):Prop:=match v with
 | .bool x=>Bool.rec b a x
 |_=>False
theorem mf(x:Bool)(a b:Prop):bP (.bool x) a b=if x=true then a else b:=by cases x <;> rfl
section
variable{C:mh}{n:Nat}{Q:X->iG->Hp->Prop}{ρ:iG}{h:Hp}
theorem Wp.mono {a:X->iG->Hp->Prop} (b:Wp C n c Q ρ h) (hq:∀x ρ h,Q x ρ h->a x ρ h):Wp C n c a ρ h:=by
 let⟨m,d,x,ρ',h',e,f⟩:=b
 exact⟨m,d,x,ρ',h',e,by simp_all⟩
theorem Wp.skip(hq:Q .normal ρ h):Wp C n .skip Q ρ h:=⟨0,0,.normal,ρ,h,rfl,hq⟩
theorem Wp.ret(hq:Q .ret ρ h):Wp C n .ret Q ρ h:=⟨0,0,.ret,ρ,h,rfl,hq⟩
theorem Wp.exit(hq:Q (.exit id) ρ h):Wp C n (.exit id) Q ρ h:=⟨0,0,.exit id,ρ,h,rfl,hq⟩
def andThen(k:iG->Hp->Prop) (Q:X->iG->Hp->Prop):X->iG->Hp->Prop
 | .normal,ρ,h=>k ρ h
 |x,ρ,h=>Q x ρ h
theorem Bv (e:m<=a) (hd:d<=b) {c:Code} {t:Tm} {h:Hp} {r:X×Tm×Hp} (hv:(jc n c).f (lN C m d) m t h=some r):(jc n c).f (lN C a b) a t h=some r:=
 oE (ym e hd) e c hv
theorem Wp.seq{a b:Code} (e:Wp C n a (andThen (Wp C n b Q) Q) ρ h):Wp C n (.seq a b) Q ρ h:=by
 let⟨m,d,x,ρ',h',g,c⟩:=e
 cases x with
 | normal=>
   let⟨m',d',x',ρ'',h'',i,f⟩:=c
   refine⟨max m m',max d d',x',ρ'',h'',?_,f⟩
   grind[jc,Bv,wBv,K4,Nat.le_max_right]
 |exit id=>exact⟨m,d,.exit id,ρ',h',by grind[jc,K4],c⟩
 |ret=>exact⟨m,d,.ret,ρ',h',by grind[jc,K4],c⟩
theorem Wp.cond{e:Operand} {a b:Code} (c:oP ((yL e).f (.fn ρ []) h) λv=>bP v (Wp C n a Q ρ h) (Wp C n b Q ρ h)):Wp C n (.cond e a b) Q ρ h:=by
 let⟨v,hv,c⟩:=ma.1 c
 unfold bP at c;split at c
 ·rename_i x
  cases x with
  | true=>
    let⟨m,d,x,ρ',h',i,g⟩:=c
    exact⟨m,d,x,ρ',h',by grind[jc,fD],g⟩
  | false=>
    let⟨m,d,x,ρ',h',i,g⟩:=c
    exact⟨m,d,x,ρ',h',by grind[jc,fD],g⟩
 simp_all
def Di(id:Nat) (Q:X->iG->Hp->Prop):X->iG->Hp->Prop
 | .exit i,ρ,h=>Bool.rec (Q (.exit i) ρ h) (Q .normal ρ h) (Nat.beq i id)
 |x,ρ,h=>Q x ρ h
theorem Wp.block  (b:Wp C n c (Di id Q) ρ h):Wp C n (.block id c) Q ρ h:=by
 let⟨m,d,x,ρ',h',e,a⟩:=b
 cases x with
 |normal=>exact⟨m,d,.normal,ρ',h',by grind[jc,Nh],a⟩
 |ret=>exact⟨m,d,.ret,ρ',h',by grind[jc,Nh],a⟩
 | exit i=>
   simp[Di]at a
   cases hb:Nat.beq i id with
   |true=>rw[hb]at a;exact⟨m,d,.normal,ρ',h',by simp_all[jc,Nh],a⟩
   |false=>rw[hb]at a;exact⟨m,d,.exit i,ρ',h',by simp_all[jc,Nh],a⟩
theorem Wp.loop (b:zG n c=none) (p:Wp C n c (andThen (Wp C n (.loop c) Q) Q) ρ h):Wp C n (.loop c) Q ρ h:=by
 obtain⟨m,d,x,l,h',a,e⟩:=p
 cases x with
 | normal=>
   let⟨m',d',x',ρ'',h'',o,q⟩:=e
   refine⟨max m m' + 1,max d d',x',ρ'',h'',?_,q⟩;have e1:=Bv (C:=C) (n:=n) (OA (wBv m m') (K5 _)) (wBv d d') a;simp only[jc,b]at o⊢;show K4 _ _=_;simp only[e1,K4]
   have g:∀k k' t h r,k<=k'->Oy (λt h=>(jc n c).f (lN C m' d') m' t h) k t h=some r->
       Oy (λt h=>(jc n c).f (lN C (max m m' + 1) (max d d')) (max m m' + 1) t h) k' t h=some r:=by
     intro k
     induction k with
     |zero=>intro k' t h r _ hv;cases hv
     | succ k s=>
       intro k' t h r w hv;obtain⟨k',rfl⟩:∃j,k' = j+1:=⟨k'-1,by omega⟩
       have i:=hv;show K4 ((jc n c).f (lN C (max m m' + 1) (max d d')) (max m m' + 1) t h) (Oy (λt h=>(jc n c).f (lN C (max m m' + 1) (max d d')) (max m m' + 1) t h) k')=some r
       have hl:∀{r},(jc n c).f (lN C m' d') m' t h=some r->(jc n c).f (lN C (max m m' + 1) (max d d')) (max m m' + 1) t h=some r:=
         λu=>Bv (by omega) (Nat.le_max_right d d') u
       rcases M0 i with⟨v,a,e1,e2⟩|⟨e1,e2⟩
       ·rw[hl e1];exact s k' v a r (by omega) e2
       ·rw[hl e1]
        let⟨x',t',h'⟩:=r
        cases x' with
        |normal=>simp_all
        |exit id=>rfl
        |ret=>rfl
   exact g m' (max m m') _ _ _ (Nat.le_max_right m m') o
 | exit id=>
   refine⟨m+1,d,.exit id,l,h',?_,e⟩;have e1:=Bv (C:=C) (n:=n) (K5 m) (jJ d) a;simp only[jc,b];show K4 _ _=_
   grind[K4]
 | ret=>
   refine⟨m+1,d,.ret,l,h',?_,e⟩;have e1:=Bv (C:=C) (n:=n) (K5 m) (jJ d) a;simp only[jc,b];show K4 _ _=_
   grind[K4]
theorem Wp.fill {F:nC} (b:zG n c=some F) {x:X} {a:iG} {h':Hp} (hv:SA F (.fn ρ []) h=some (x,.fn a [],h')) (hq:Q x a h'):Wp C n (.loop c) Q ρ h:=
 ⟨0,0,x,a,h',by simp only[jc,b];exact hv,hq⟩
theorem Wp.zgV (I:Nat->iG->Hp->Prop) (b:∀k ρ h,I k ρ h->Wp C n c (andThen (λa h'=>∃k',k' < k/\I k' a h') Q) ρ h) {k:Nat} (h0:I k ρ h) (d:zG n c=none:=by rfl):Wp C n (.loop c) Q ρ h:=by
 induction k using Nat.strongRecOn generalizing ρ h with
 | _ k e=>
   refine .loop d ((b k ρ h h0).mono λx a h' hq=>?_)
   cases x with
   |normal=>let⟨k',hk,hi⟩:=hq;exact e k' hk hi
   |exit id=>exact hq
   |ret=>exact hq
def qb(n:Nat) (o:Oper) (K:iG->Hp->Prop):V->iG->Hp->Prop:=match o.dst with
 |none=>λ_ ρ h=>K ρ h
 | some d=>match Nat.blt d n with
   |true=>λv ρ h=>K (nG ρ d v) h
   |false=>λ_ _ _=>False
def valOf:R->Option (V×Hp)
 | .val v h=>some (v,h)
 | .call _ _=>none
def Ba:R->Option (Nat×List V)
 | .call f args=>some (f,args)
 | .val _ _=>none
def zB(o:Oper):Bool:=match o.op with
 | .call c=>match c.callee with
   | .value _| .invoke _ _=>true
   | .builtin _=>false
 |_=>false
def WN(C:mh) (o:Oper) (K:V->iG->Hp->Prop):iG->Hp->Prop:=match zB o with
 |true=>λρ h=>oP (oB ((j5 o).f (.fn ρ []) h) Ba) λx=>cP C x.1 x.2 h λv h'=>K v ρ h'
 |false=>λρ h=>oP (oB ((j5 o).f (.fn ρ []) h) valOf) λx=>K x.1 ρ x.2
def UG(C:mh) (o:Oper) (K:V->iG->Hp->Prop):iG->Hp->Prop:=match cls o with
 |0=>λρ h=>oP ((iJ o).f (.fn ρ []) h) λv=>K v ρ h
 |1=>λρ h=>oP ((sY o).f (.fn ρ [])) λr=>K (r.2 h.next) ρ (h.new r.1)
 |_=>WN C o K
noncomputable def gV(b:Bool)(x:Option V):Option V:=Bool.rec (some .undef) x b
noncomputable def gH(b:Bool)(h:Hp)(x:Option (V×Hp)):Option (V×Hp):=Bool.rec (some (.undef,h)) x b
noncomputable def gC(b:Bool)(x:Option (Nat×List V)):Option (Option (Nat×List V)):=Bool.rec (some none) (oB x λy=>some (some y)) b
def zL(C:mh) (x:Option (Nat×List V)) (h:Hp) (K:V->Hp->Prop):Prop:=match x with
 |none=>K .undef h
 |some y=>cP C y.1 y.2 h K
def gdR(C:mh) (o:Oper) (b:Bool) (K:V->iG->Hp->Prop) (ρ:iG) (h:Hp):Prop:=match cls o with
 |0=>oP (gV b ((iJ o).f (.fn ρ []) h)) λv=>K v ρ h
 |1=>oP (gH b h (oB ((sY o).f (.fn ρ [])) λr=>some (r.2 h.next,h.new r.1))) λx=>K x.1 ρ x.2
 | _=>match zB o with
   |true=>oP (gC b (oB ((j5 o).f (.fn ρ []) h) Ba)) λx=>zL C x h λv h'=>K v ρ h'
   |false=>oP (gH b h (oB ((j5 o).f (.fn ρ []) h) valOf)) λx=>K x.1 ρ x.2
def A5(C:mh) (n:Nat) (all:List Oper) (o:Oper) (K:iG->Hp->Prop):iG->Hp->Prop:=match kE n all o with
 |none=>UG C o (qb n o K)
 |some g=>λρ h=>oP (g.f (.fn ρ [])) λb=>gdR C o b (qb n o K) ρ h
noncomputable def AR(C:mh) (n:Nat) (all:List Oper) (K:iG->Hp->Prop) (os:List Oper):iG->Hp->Prop:=List.rec K (λo _ a=>A5 C n all o a) os
theorem zaM(C:mh)(n:Nat)(all:List Oper)(K:iG->Hp->Prop)(o:Oper)(os:List Oper):AR C n all K (o::os)=A5 C n all o (AR C n all K os):=rfl
theorem Ph {K:iG->Hp->Prop}  (a:qb n o K v ρ h):∃d,xK n o=some d/\∃b,d.f (.fn ρ []) v = .fn b []/\K b h:=by
 unfold qb at a;unfold xK
 cases ho:o.dst with
 |none=>simp_all
 | some d=>
   rw[ho]at a;simp only at a⊢
   cases hb:Nat.blt d n with
   |true=>rw[hb]at a;exact⟨_,rfl,_,rfl,a⟩
   |false=>simp_all
def zge(C:mh)(o:Oper)(K:V->iG->Hp->Prop)(ρ:iG)(h:Hp):Prop:=∃m d v h',(EV o).f (lN C m d) (.fn ρ []) h=some (v,h')/\K v ρ h'
theorem zcL {K:V->iG->Hp->Prop} (c:WN C o K ρ h):(∃v h',(j5 o).f (.fn ρ []) h=some (.val v h')/\K v ρ h')\/∃f args,(j5 o).f (.fn ρ []) h=some (.call f args)/\cP C f args h λv h'=>K v ρ h':=by
 unfold WN at c;cases hb:zB o
 all_goals rw[hb]at c
 rotate_left
 ·let⟨x,a,d⟩:=ma.1 c
  rw[fD]at a
  let⟨r,e,b⟩:=a
  cases r with
  |val v h'=>cases b
  |call f args=>cases b;grind
 ·let⟨x,a,d⟩:=ma.1 c
  rw[fD]at a
  let⟨r,e,b⟩:=a
  cases r with
  |val v h'=>cases b;grind
  |call f args=>cases b
theorem Qm {K:V->iG->Hp->Prop} (b:UG C o K ρ h):zge C o K ρ h:=by
 by_cases hc0:cls o=0
 ·have a:oP ((iJ o).f (.fn ρ []) h) (λv=>K v ρ h):=by unfold UG at b;rw[hc0]at b;exact b
  let⟨v,g,e⟩:=ma.1 a
  exact⟨0,0,v,h,by simp_all[EV,oB],e⟩
 ·by_cases hc1:cls o=1
  ·have a:oP ((sY o).f (.fn ρ [])) (λr=>K (r.2 h.next) ρ (h.new r.1)):=by unfold UG at b;rw[hc1]at b;exact b
   let⟨r,g,e⟩:=ma.1 a
   exact⟨0,0,_,_,by simp_all[EV,oB],e⟩
  ·have a:WN C o K ρ h:=by
    unfold UG at b;generalize cls o=c at b hc0 hc1;rcases c with _|_|c
    ·omega
    ·omega
    ·exact b
   have i:∀call,(EV o).f call (.fn ρ []) h=oB ((j5 o).f (.fn ρ []) h) λr=>match r with
     | .val v h=>some (v,h)
     | .call f args=>call f args h:=by
    intro call;unfold EV;split
    ·omega
    ·omega
    ·rfl
   rcases zcL a with⟨v,h',g,e⟩|⟨f,args,g,v,h',⟨m,d,k⟩,j⟩
   ·exact⟨0,0,v,h',by simp_all[oB],e⟩
   ·exact⟨m,d,v,h',by simp_all[oB],j⟩
theorem zfG {b:Bool} {K:V->iG->Hp->Prop} (d:gdR C o b K ρ h):(b=true/\zge C o K ρ h)\/(b=false/\K .undef ρ h):=by
 unfold gdR at d;by_cases hc0:cls o=0
 ·rw[hc0]at d
  let⟨v,a,g⟩:=ma.1 d
  cases b with
  |true=>exact .inl ⟨rfl,Qm (by unfold UG;rw[hc0];exact ec a g)⟩
  |false=>cases a;simp_all
 ·by_cases hc1:cls o=1
  ·rw[hc1]at d
   let⟨v,a,g⟩:=ma.1 d
   cases b with
   | true=>
     let⟨r,j,i⟩:=fD.1 (a)
     cases i
     exact .inl ⟨rfl,by grind[Qm,UG,ec]⟩
   |false=>cases a;simp_all
  ·have k:∀K,WN C o K ρ h->UG C o K ρ h:=by
    intro K d;unfold UG;generalize cls o=c at hc0 hc1;rcases c with _|_|c
    ·omega
    ·omega
    ·exact d
   have e:(match zB o with
     |true=>oP (gC b (oB ((j5 o).f (.fn ρ []) h) Ba)) λx=>zL C x h λv h'=>K v ρ h'
     |false=>oP (gH b h (oB ((j5 o).f (.fn ρ []) h) valOf)) λx=>K x.1 ρ x.2):=by
    generalize cls o=c at d hc0 hc1;rcases c with _|_|c
    ·omega
    ·omega
    ·exact d
   cases hi:zB o with
   | true=>
     rw[hi]at e
     let⟨x,a,g⟩:=ma.1 e
     cases b with
     | true=>
       let⟨y,j,i⟩:=fD.1 (a)
       cases i
       exact .inl ⟨rfl,Qm (k _ (by unfold WN;rw[hi];exact ec j g))⟩
     |false=>cases a;exact .inr ⟨rfl,g⟩
   | false=>
     rw[hi]at e
     let⟨x,a,g⟩:=ma.1 e
     cases b with
     |true=>exact .inl ⟨rfl,Qm (k _ (by unfold WN;rw[hi];exact ec a g))⟩
     |false=>cases a;simp_all
theorem TE (c:m<=a) (hd:d<=b) {all os:List Oper} {t:Tm} {h:Hp} {r:Tm×Hp} (hv:(lU n all os).f (lN C m d) t h=some r):(lU n all os).f (lN C a b) t h=some r:=
 Fo (ym c hd) os hv
theorem Tn{all:List Oper} {K:iG->Hp->Prop}:∀os {ρ:iG} {h:Hp},AR C n all K os ρ h->∃m d a h',(lU n all os).f (lN C m d) (.fn ρ []) h=some (.fn a [],h')/\K a h'
 |[],ρ,h,c=>⟨0,0,ρ,h,rfl,c⟩
 | o ::os,ρ,h,c=>by
   rw[zaM]at c;unfold A5 at c
   have p:∀{ρ h},zge C o (qb n o (AR C n all K os)) ρ h->∃d,xK n o=some d/\∃m e v l,(EV o).f (lN C m e) (.fn ρ []) h=some (v,l)/\∃i,d.f (.fn ρ []) v = .fn i []/\
       ∃a h',(lU n all os).f (lN C m e) (.fn i []) l=some (.fn a [],h')/\K a h':=by
     intro ρ h c
     let⟨m,e,v,l,t,x⟩:=c
     let⟨d,r,i,s,u⟩:=Ph x
     let⟨m',d',a,h',w,j⟩:=Tn os u
     exact⟨d,r,max m m',max e d',v,l,L5 (by grind[ym,wBv]) t,i,s,a,h',by grind[TE,Nat.le_max_right],j⟩
   cases hw:kE n all o with
   | none=>
     rw[hw]at c
     let⟨d,r,m,e,v,l,t,i,s,a,h',w,j⟩:=p (Qm c)
     refine⟨m,e,a,h',?_,j⟩
     simp_all[lU,Ie,oB]
   | some g=>
     rw[hw]at c
     let⟨b,hb,c⟩:=ma.1 c
     rcases zfG c with⟨q,k⟩|⟨q,k⟩ <;> subst q
     ·let⟨d,r,m,e,v,l,t,i,s,a,h',w,j⟩:=p k
      refine⟨m,e,a,h',?_,j⟩
      simp_all[lU,Ie,oB]
     ·let⟨d,r,i,s,u⟩:=Ph k
      let⟨m',d',a,h',w,j⟩:=Tn os u
      refine⟨m',d',a,h',?_,j⟩
      simp_all[lU,Ie,oB]
theorem Wp.region {ops:Array Oper} (a:AR C n ops.toList (λρ h=>Q .normal ρ h) ops.toList ρ h):Wp C n (.region id ops false) Q ρ h:=by
 let⟨m,d,ρ',h',c,b⟩:=Tn _ a
 exact⟨m,d,.normal,ρ',h',by simp_all[jc,oB],b⟩
def GI(h:Hp) (r:Rec):Prop:=match r.made with
 |none=>(iJ r.it.o).f r.t h=some r.v
 |some (l,ob)=>h.get l=some ob/\O.beq ob ob=true
def yc(k:Nat) (h:Hp):List (Bool×Rec)->Prop->Prop
 |[],K=>K
 |r::rs,K=>Bool.rec (Bool.rec True (GI h r.2) r.1/\yc k h rs K) (yc k h rs K) (Nat.blt r.2.last k)
def Gg(rs:List (Bool×Rec)):List Rec:=(rs.filter (·.1)).map (·.2)
def itR(C:mh) (n:Nat) (all:List Oper) (ws:List It) (a:It) (c:Nat->iG->Hp->List (Bool×Rec)->Prop) (k:Nat):iG->Hp->List (Bool×Rec)->Prop:=match cls a.o with
  | 0=>match kE n all a.o with
    |none=>λρ h rs=>oP ((iJ a.o).f (.fn ρ []) h) λv=>qb n a.o (λd h=>c k d h ((true,{it:=a,t:= .fn ρ [],v,made:=none,last:=late ws a})::rs)) v ρ h
    |some g=>λρ h rs=>oP (g.f (.fn ρ [])) λb=>oP (gV b ((iJ a.o).f (.fn ρ []) h)) λv=>
       qb n a.o (λd h=>c k d h ((b,{it:=a,t:= .fn ρ [],v,made:=none,last:=late ws a})::rs)) v ρ h
  | 1=>match kE n all a.o with
    |none=>λρ h rs=>oP ((sY a.o).f (.fn ρ [])) λr=>qb n a.o (λd h'=>c k d h' ((true,{it:=a,t:= .fn ρ [],v:=r.2 h.next,made:=some (h.next,r.1),last:=late ws a})::rs)) (r.2 h.next) ρ (h.new r.1)
    |some _=>λ_ _ _=>False
  | _ =>match kE n all a.o with
    |none=>λρ h rs=>yc k h rs (WN C a.o (λv ρ h'=>h.next<=h'.next/\qb n a.o (λρ h=>c (Nat.succ k) ρ h rs) v ρ h') ρ h)
    | some g=>match zB a.o with
      |true=>λρ h rs=>yc k h rs (oP (g.f (.fn ρ [])) λb=>oP (gC b (oB ((j5 a.o).f (.fn ρ []) h) Ba)) λx=>zL C x h λv h'=>h.next<=h'.next/\qb n a.o (λρ h=>c (Nat.succ k) ρ h rs) v ρ h')
      |false=>λ_ _ _=>False
noncomputable def Ls(C:mh) (n:Nat) (all:List Oper) (ws:List It) (K:iG->Hp->Prop) (l:List It):Nat->iG->Hp->List (Bool×Rec)->Prop:=List.rec (λk ρ h rs=>yc k h rs (K ρ h)) (λa _ b k=>itR C n all ws a b k) l
theorem zay(C:mh)(n:Nat)(all:List Oper)(ws:List It)(K:iG->Hp->Prop)(a:It)(l:List It)(k:Nat):Ls C n all ws K (a::l) k=itR C n all ws a (Ls C n all ws K l) k:=rfl
theorem Md{k:Nat}:∀{rs:List (Bool×Rec)} {K:Prop},yc k h rs K->CR k h (Gg rs)=true/\K
 |[],K,a=>⟨rfl,a⟩
 | (b,r)::rs,K,a=>by
   simp [yc]at a;have c:∀{K:Prop},yc k h rs K->(b=true->(Nat.blt r.last k ||AN h r)=true)->CR k h (Gg ((b,r)::rs))=true/\K:=by
     intro K a d
     let⟨f,g⟩:=Md a
     refine⟨?_,g⟩
     cases b with
     |false=>exact f
     | true=>
       show CR k h (r::Gg rs)=true;unfold CR;rw[wBo,d rfl];exact f
   cases d:Nat.blt r.last k with
   |true=>rw[d]at a;grind
   | false=>
     rw[d]at a
     let⟨h0,a⟩:=a
     refine c a (λe=>?_);subst e;rw[d,Bool.false_or]
     grind[GI,AN,V.Et]
theorem zgI{b:Bool} {x:Option V}  (h:gV b x=some v):(b=true/\x=some v)\/(b=false/\v = .undef):=by
 cases b with
 |true=>exact .inl ⟨rfl,h⟩
 |false=>cases h;simp_all
theorem Jr {d:DF} (hd:xK n o=some d) {K:iG->Hp->Prop} {v:V} (b:qb n o K v ρ h):∃a,d.f (.fn ρ []) v = .fn a []/\K a h:=by
 grind[Ph]
theorem ZY (c:m<=a) (hd:d<=b) {all:List Oper} {ws l:List It} {k:Nat} {t:Tm} {h:Hp} {rs:List Rec} {r:Tm×Hp} (hv:(yA n all ws l k).f (lN C m d) t h rs=some r) :
  (yA n all ws l k).f (lN C a b) t h rs=some r:=AW (ym c hd) l k hv
theorem FG{all:List Oper} {ws:List It} {K:iG->Hp->Prop}:∀l k {ρ:iG} {h:Hp} {rs:List (Bool×Rec)},Ls C n all ws K l k ρ h rs->
  ∃m d j h',(yA n all ws l k).f (lN C m d) (.fn ρ []) h (Gg rs)=some (.fn j [],h')/\K j h'
 | [],k,ρ,h,rs,e=>by
   let⟨s,u⟩:=Md e
   exact⟨0,0,ρ,h,by simp_all[yA,bB],u⟩
 | a ::l,k,ρ,h,rs,e=>by
   have i:∀{K:iG->Hp->Prop} {v:V} {ρ:iG} {h:Hp},qb n a.o K v ρ h->∃d,xK n a.o=some d:=by grind[Ph]
   have w:∀{d},xK n a.o=some d->∀call t h rs,(yA n all ws (a::l) k).f call t h rs=(match cls a.o with
       |0=>KH n all ws a d (yA n all ws l k)
       |1=>IB n all ws a d (yA n all ws l k)
       |_=>Dc n all k a d (yA n all ws l (Nat.succ k))).f call t h rs:=by
     intro d hd call t h rs
     conv=>lhs;unfold yA
     rw[hd];simp only;generalize cls a.o=c;rcases c with _|_|c <;> rfl
   have B:∀call t h,cls a.o≠0->cls a.o≠1->(EV a.o).f call t h=oB ((j5 a.o).f t h) λr=>match r with
       | .val v h=>some (v,h)
       | .call f args=>call f args h:=by
     intro call t h h0 s;unfold EV;split
     ·omega
     ·omega
     ·rfl
   have D:∀t,kE n all a.o=none->rz n all a.o t=some true:=by grind[rz]
   have E:∀t g,kE n all a.o=some g->rz n all a.o t=g.f t:=by grind[rz]
   have step:∀{h:Hp} {ρ:iG} {rs:List (Bool×Rec)} {c:Nat},cls a.o=c+2->CR k h (Gg rs)=true->rz n all a.o (.fn ρ [])=some true->
       WN C a.o (λv ρ h'=>h.next<=h'.next/\qb n a.o (λρ h=>Ls C n all ws K l (Nat.succ k) ρ h rs) v ρ h') ρ h->
       ∃m d j h',(yA n all ws (a::l) k).f (lN C m d) (.fn ρ []) h (Gg rs)=some (.fn j [],h')/\K j h':=by
     intro h ρ rs c hc q J e;have z:=λcall=>B call (.fn ρ []) h (by omega) (by omega);rcases zcL e with⟨v,h',hv,F,e⟩|⟨f,args,hv,v,h',⟨m0,d0,H⟩,F,e⟩
     ·simp[ oB]at z
      let⟨d,hd⟩:=i e
      let⟨ρ1,s,e⟩:=Jr hd e
      let⟨m,dd,j,h'',u,p⟩:=FG l _ e
      exact⟨m,dd,j,h'',by simp_all[Dc,bB,oB,wAh],p⟩
     ·simp[hv,oB]at z
      let⟨d,hd⟩:=i e
      let⟨ρ1,s,e⟩:=Jr hd e
      let⟨m,dd,j,h'',u,p⟩:=FG l _ e
      refine⟨max m0 m,max d0 dd,j,h'',?_,p⟩;have G:=ym (wBv m0 m) (wBv d0 dd) _ _ _ _ H;rw[w hd,hc];simp[Dc,q,bB,J,oB,z,G,s,wAh F]
      grind[ZY,Nat.le_max_right]
   have A:∀{h:Hp} {ρ:iG} {rs:List (Bool×Rec)} {c:Nat},cls a.o=c+2->CR k h (Gg rs)=true->rz n all a.o (.fn ρ [])=some false->
       qb n a.o (λρ h=>Ls C n all ws K l (Nat.succ k) ρ h rs) .undef ρ h->
       ∃m d j h',(yA n all ws (a::l) k).f (lN C m d) (.fn ρ []) h (Gg rs)=some (.fn j [],h')/\K j h':=by
     intro h ρ rs c hc q J e
     let⟨d,hd⟩:=i e
     let⟨ρ1,s,e⟩:=Jr hd e
     let⟨m,dd,j,h'',u,p⟩:=FG l _ e
     exact⟨m,dd,j,h'',by simp_all[Dc,bB,oB],p⟩
   rw[zay]at e;unfold itR at e;generalize hc:cls a.o=c at e;rcases c with _|_|c
   ·simp only at e
    cases hwc:kE n all a.o with
    | none=>
      rw[hwc]at e
      let⟨v,hv,e⟩:=ma.1 e
      let⟨d,hd⟩:=i e
      let⟨ρ1,s,e⟩:=Jr hd e
      let⟨m,dd,j,h',u,p⟩:=FG l k e
      exact⟨m,dd,j,h',by rw[w hd,hc];simp[KH,D _ hwc,hv,oB,s];exact u,p⟩
    | some g=>
      rw[hwc]at e
      let⟨b,hb,e⟩:=ma.1 e
      let⟨v,hv,e⟩:=ma.1 e
      let⟨d,hd⟩:=i e
      let⟨ρ1,s,e⟩:=Jr hd e
      let⟨m,dd,j,h',u,p⟩:=FG l k e
      rcases zgI hv with⟨e1,I⟩|⟨e1,e2⟩
      ·subst e1
       exact⟨m,dd,j,h',by rw[w hd,hc];simp[KH,E _ _ hwc,hb,I,oB,s];exact u,p⟩
      ·subst e1;subst e2
       exact⟨m,dd,j,h',by rw[w hd,hc];simp[KH,E _ _ hwc,hb,oB,s];exact u,p⟩
   ·simp only at e
    cases hwc:kE n all a.o with
    | none=>
      rw[hwc]at e
      let⟨v,hv,e⟩:=ma.1 e
      let⟨d,hd⟩:=i e
      let⟨ρ1,s,e⟩:=Jr hd e
      let⟨m,dd,j,h',u,p⟩:=FG l k e
      exact⟨m,dd,j,h',by rw[w hd,hc];simp[IB,D _ hwc,hv,oB,s];exact u,p⟩
    |some g=>simp_all
   ·simp only at e
    cases hwc:kE n all a.o with
    | none=>
      rw[hwc]at e
      let⟨q,e⟩:=Md e
      simp_all
    | some g=>
      rw[hwc]at e
      cases hi:zB a.o with
      |false=>simp_all
      | true=>
        rw[hi]at e
        let⟨q,e⟩:=Md e
        let⟨b,hb,e⟩:=ma.1 e
        let⟨x,hx,e⟩:=ma.1 e
        cases b with
        | true=>
          let⟨y,p,L⟩:=fD.1 (hx)
          cases L
          exact step hc q (by simp_all) (by unfold WN;rw[hi];exact ec p e)
        | false=>
          cases hx;exact A hc q (by simp_all) e.2
noncomputable def zs(all:List Oper):Bool:=T6 (items all 0 []) (hH (items all 0 []))&&xy (items all 0 []) (hH (items all 0 [])) (order (items all 0 []) (hH (items all 0 [])) (hH (items all 0 [])) 0) 0 0
noncomputable def ZJ(C:mh) (n:Nat) (all:List Oper) (K:iG->Hp->Prop) (ρ:iG) (h:Hp):Prop:=Ls C n all (hH (items all 0 [])) K (order (items all 0 []) (hH (items all 0 [])) (hH (items all 0 [])) 0) 0 ρ h []
theorem Wp.draw {ops:Array Oper} (a:zs ops.toList=true) (b:ZJ C n ops.toList (λρ h=>Q .normal ρ h) ρ h):Wp C n (.region id ops true) Q ρ h:=by
 let⟨m,d,ρ',h',c,f⟩:=FG _ _ b
 have e:Gg []=[]:=rfl;rw[e]at c;refine⟨m,d,.normal,ρ',h',?_,f⟩
 simp_all[zs,jc,Rj,oB]
noncomputable def Wi(C:mh) (n:Nat) (c:Code):(X->iG->Hp->Prop)->iG->Hp->Prop:=
 Code.rec
  (λQ=>Q .normal)
  (fun _ ops d Q=>match d with
   |false=>AR C n ops.toList (λρ h=>Q .normal ρ h) ops.toList
   | true=>match zs ops.toList with
     |true=>ZJ C n ops.toList (λρ h=>Q .normal ρ h)
     |false=>λ_ _=>False)
  (λ_ b a _ Q=>a (andThen (Wp C n b Q) Q))
  (λc _ _ a e Q ρ h=>oP ((yL c).f (.fn ρ []) h) λv=>bP v (a Q ρ h) (e Q ρ h))
  (λid _ g Q=>g (Di id Q))
  (λc _ Q=>Wp C n (.loop c) Q)
  (λ_ _ _ _ _ _ _ _ _=>False)
  (λid Q=>Q (.exit id))
  (λ_ _ _ _ _=>False)
  (λ_ _ _ _=>False)
  (λ_ _ _ _=>False)
  (λQ=>Q .ret)
  (λ_ _ _ _=>False) c
theorem Wp.code:∀c {Q:X->iG->Hp->Prop} {ρ:iG} {h:Hp},Wi C n c Q ρ h->Wp C n c Q ρ h
 | .skip,_,_,_,hk=> .skip hk
 | .region _ ops false,_,_,_,hk=> .region hk
 | .region _ ops true,Q,ρ,h,hk=>by
   have d:(match zs ops.toList with
       |true=>ZJ C n ops.toList (λρ h=>Q .normal ρ h)
       |false=>λ_ _=>False) ρ h:=hk
   cases hd:zs ops.toList with
   |true=>simp_all[draw]
   |false=>simp_all
 | .seq a _,_,_,_,hk=> .seq (Wp.code a hk)
 | .cond c a b,_,_,_,hk=>by
   let⟨v,hv,hk⟩:=ma.1 hk
   refine .cond (ec hv ?_);unfold bP at hk⊢;split at hk
   ·rename_i x
    cases x with
    |true=>exact Wp.code a hk
    |false=>exact Wp.code b hk
   ·exact hk.elim
 | .block id c,_,_,_,hk=> .block (Wp.code c hk)
 | .loop c,_,_,_,hk=>hk
 | .exit id,_,_,_,hk=> .exit hk
 | .ret,_,_,_,hk=> .ret hk
 | .rangeFunc ..,_,_,_,hk=>hk.elim
 | .scope _,_,_,_,hk=>hk.elim
 | .label _,_,_,_,hk=>hk.elim
 | .goto _,_,_,_,hk=>hk.elim
 | .refuse _,_,_,_,hk=>hk.elim
def zdS(l:List ResultVar)(Q:V->Hp->Prop)(ρ:iG)(h:Hp):Prop:=oP (EW (.fn ρ []) h l) λvs=>Q (Gc vs) h
def Oj(l:List ResultVar) (Q:V->Hp->Prop):X->iG->Hp->Prop
 | .exit _,_,_=>False
 |_,ρ,h=>zdS l Q ρ h
def ON(args:List V):iG:=λi=>(args[i]?).getD .undef
theorem cP.func(hs:C.start=Df) {f:Nat} {fn:Func} {c:Code} {args:List V} (i:P0.funcs[f]? =some fn) (j:fn.body=some c) (k:C.K f args h=none) (e:args.length<=fn.ntmps) {Q:V->Hp->Prop}
  (l:Wp C fn.ntmps c (Oj fn.results.toList Q) (ON args) h):cP C f args h Q:=by
 let⟨m,d,x,ρ',h',q,g⟩:=l
 have a:zdS fn.results.toList Q ρ' h'->(∀id,x≠ .exit id)->cP C f args h Q:=by
  intro n r
  let⟨vs,s,o⟩:=ma.1 n
  refine⟨_,_,⟨m,d+1,?_⟩,o⟩;show(IJ C f).f (lN C m d) m args h=_;unfold IJ;rw[i];simp[j,k,orB];have b:=wAh e;have p:Df args = .fn (ON args) []:=rfl;rw[ b]
  cases x with
  |normal=>simp_all[bB,oB,Tm.ds,zdK]
  |ret=>simp_all[bB,oB,Tm.ds,zdK]
  |exit id=>simp_all
 cases x with
 |normal=>exact a g (by simp_all)
 |ret=>exact a g (by simp_all)
 |exit id=>exact g.elim
theorem cP.zfh(hs:C.start=Df) {f:Nat} {fn:Func} {c:Code} {args:List V} {k:Nat} {rs:List ResultVar} (b:P0.funcs[f]? =some fn) (d:fn.body=some c) (e:fn.ntmps=k) (g:fn.results.toList=rs)
  (i:C.K f args h=none) (a:args.length<=k) {Q:V->Hp->Prop} (j:Wp C k c (Oj rs Q) (ON args) h):cP C f args h Q:=by
 grind[cP.func]
theorem cP.known{f:Nat} {fn:Func}  {args:List V}  (a:P0.funcs[f]? =some fn) (b:fn.body=some c) (d:C.K f args h=some v) (e:Vn args=true) (g:v.flat=true) {Q:V->Hp->Prop} (hq:Q v h):cP C f args h Q:=by
 refine⟨v,h,⟨0,1,?_⟩,hq⟩;show(IJ C f).f _ _ args h=_
 simp_all[IJ,orB,bB]
theorem cP.mono{f:Nat} {args:List V} {Q a:V->Hp->Prop} (hc:cP C f args h Q) (hq:∀v h,Q v h->a v h):cP C f args h a:=by
 let⟨v,h',b,c⟩:=hc
 exact⟨v,h',b,hq _ _ c⟩
