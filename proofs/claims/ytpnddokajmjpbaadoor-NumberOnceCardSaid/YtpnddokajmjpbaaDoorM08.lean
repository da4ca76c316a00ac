/- Parts. -/
import Derived.Test.YtpnddokajmjpbaaDoorM07
namespace Go.Proofs.YtpnddokajmjpbaaDoor.Hx
abbrev fZ:=Nat->V
def Ev (C:fu)(f:Nat)(args:List V)(h:Hp)(v:V)(h':Hp):Prop:=∃m d,jB C m d f args h=some (v,h')
inductive Wp (C:fu) (n:Nat) (c:Code) (Q:X->fZ->Hp->Prop) (ρ:fZ) (h:Hp):Prop
 |mk (b:∃m d x a h',(ic n c).f (jB C m d) m (.fn ρ []) h=some (x,.fn a [],h')/\Q x a h')
def oP{α:Type}(x:Option α)(k:α->Prop):Prop:=Option.rec (motive:=λ_=>Prop) False k x
theorem WT{α:Type}(a:α)(k:α->Prop):oP (some a) k=k a:=rfl
theorem jC {α:Type} {x:Option α} {k:α->Prop}:oP x k↔∃a,x=some a/\k a:=by
 cases x with
 |none=>exact⟨λh=>h.elim,λ⟨_,h,_⟩=>nomatch h⟩
 |some a=>exact⟨λh=>⟨a,rfl,h⟩,λ⟨_,h,h'⟩=>by cases h;exact h'⟩
theorem ed{α:Type}{x:Option α}{k:α->Prop}{a:α}(h:x=some a)(h':k a):oP x k:=by subst h;exact h'
def cP (C:fu)(f:Nat)(args:List V)(h:Hp)(k:V->Hp->Prop):Prop:=∃v h',Ev C f args h v h'/\k v h'
def bP (v:V) (a b:Prop):Prop:=match v with
 | .bool x=>Bool.rec (motive:=λ_=>Prop) b a x
 |_=>False
theorem gW (x:Bool)(a b:Prop):bP (.bool x) a b=if x=true then a else b:=by cases x <;> rfl
section
variable{C:fu}{n:Nat}{Q:X->fZ->Hp->Prop}{ρ:fZ}{h:Hp}
theorem Wp.mono {c:Code} {a:X->fZ->Hp->Prop} (b:Wp C n c Q ρ h) (hq:∀x ρ h,Q x ρ h->a x ρ h):Wp C n c a ρ h:=by
 obtain⟨m,d,x,e,h',f,g⟩:=b;exact⟨m,d,x,e,h',f,hq _ _ _ g⟩
theorem Wp.skip (hq:Q .normal ρ h):Wp C n .skip Q ρ h:=⟨0,0,.normal,ρ,h,rfl,hq⟩
theorem Wp.ret (hq:Q .ret ρ h):Wp C n .ret Q ρ h:=⟨0,0,.ret,ρ,h,rfl,hq⟩
theorem Wp.exit{id:Nat}(hq:Q (.exit id) ρ h):Wp C n (.exit id) Q ρ h:=⟨0,0,.exit id,ρ,h,rfl,hq⟩
def andThen (k:fZ->Hp->Prop) (Q:X->fZ->Hp->Prop):X->fZ->Hp->Prop
 | .normal,ρ,h=>k ρ h
 |x,ρ,h=>Q x ρ h
theorem vO {m d a b:Nat} (e:m<=a) (g:d<=b) {c:Code} {t:Tm} {h:Hp} {r:X×Tm×Hp} (hv:(ic n c).f (jB C m d) m t h=some r):(ic n c).f (jB C a b) a t h=some r:=
 kW (vN e g) e c hv
theorem Wp.seq {a b:Code} (l:Wp C n a (andThen (Wp C n b Q) Q) ρ h):Wp C n (.seq a b) Q ρ h:=by
 obtain⟨m,d,x,k,h',c,e⟩:=l
 cases x with
 | normal=>
   obtain⟨f,g,o,i,j,p,q⟩:=e;refine⟨max m f,max d g,o,i,j,?_,q⟩;simp only[ic,vO (XL m f) (XL d g) c,Cz]
   exact vO (W0 m f) (W0 d g) p
 |exit id=>exact⟨m,d,.exit id,k,h',by simp only[ic,c,Cz],e⟩
 |ret=>exact⟨m,d,.ret,k,h',by simp only[ic,c,Cz],e⟩
theorem Wp.cond {e:Operand} {a b:Code} (c:oP ((rB e).f (.fn ρ []) h) λv=>bP v (Wp C n a Q ρ h) (Wp C n b Q ρ h)):Wp C n (.cond e a b) Q ρ h:=by
 obtain⟨v,hv,c⟩:=jC.1 c;unfold bP at c;split at c
 ·rename_i x
  cases x with
  | true=>
    obtain⟨m,d,x,g,h',i,j⟩:=c
    exact⟨m,d,x,g,h',by simp only[ic,fj];exact⟨_,hv,i⟩,j⟩
  | false=>
    obtain⟨m,d,x,g,h',i,j⟩:=c;exact⟨m,d,x,g,h',by simp only[ic,fj];exact⟨_,hv,i⟩,j⟩
 ·exact c.elim
def yv (id:Nat) (Q:X->fZ->Hp->Prop):X->fZ->Hp->Prop
 | .exit i,ρ,h=>Bool.rec (motive:=λ_=>Prop) (Q (.exit i) ρ h) (Q .normal ρ h) (Nat.beq i id)
 |x,ρ,h=>Q x ρ h
theorem Wp.block {id:Nat} {c:Code} (f:Wp C n c (yv id Q) ρ h):Wp C n (.block id c) Q ρ h:=by
 obtain⟨m,d,x,b,h',e,a⟩:=f
 cases x with
 |normal=>exact⟨m,d,.normal,b,h',by simp only[ic,e,Hm],a⟩
 |ret=>exact⟨m,d,.ret,b,h',by simp only[ic,e,Hm],a⟩
 | exit i=>
   simp only[yv]at a
   cases hb:Nat.beq i id with
   |true=>rw[hb]at a;exact⟨m,d,.normal,b,h',by simp only[ic,e,Hm,hb],a⟩
   |false=>rw[hb]at a;exact⟨m,d,.exit i,b,h',by simp only[ic,e,Hm,hb],a⟩
theorem Wp.loop {c:Code} (z:Wp C n c (andThen (Wp C n (.loop c) Q) Q) ρ h):Wp C n (.loop c) Q ρ h:=by
 obtain⟨m,d,x,p,h',g,q⟩:=z
 cases x with
 | normal=>
   obtain⟨a,b,o,i,l,s,A⟩:=q;refine⟨max m a+1,max d b,o,i,l,?_,A⟩;have e:=vO (C:=C) (n:=n) (Ez (XL m a) (Nv _)) (XL d b) g;simp only[ic]at s⊢;show Cz _ _=_;simp only[e,Cz];have F:(ic n (.loop c)).f (jB C a b) a (.fn p []) h' = some (o,.fn i [],l):=s
   have u:∀(k k':Nat) (t:Tm) (h:Hp) (r:X×Tm×Hp),k<=k'->DI (λt h=>(ic n c).f (jB C a b) a t h) k t h=some r->
       DI (λt h=>(ic n c).f (jB C (max m a+1) (max d b)) (max m a+1) t h) k' t h=some r:=by
     intro k
     induction k with
     |zero=>intro k' t h r _ hv;cases hv
     | succ k B=>
       intro k' t h r G hv;obtain⟨k',rfl⟩:∃j,k' = j+1:=⟨k'-1,by omega⟩
       have v:Cz ((ic n c).f (jB C a b) a t h) (DI (λt h=>(ic n c).f (jB C a b) a t h) k)=some r:=hv;show Cz ((ic n c).f (jB C (max m a+1) (max d b)) (max m a+1) t h) (DI (λt h=>(ic n c).f (jB C (max m a+1) (max d b)) (max m a+1) t h) k')=some r
       have y:∀{r},(ic n c).f (jB C a b) a t h=some r->(ic n c).f (jB C (max m a+1) (max d b)) (max m a+1) t h=some r:=
         λD=>vO (Ez (W0 m a) (Nv _)) (W0 d b) D
       rcases Gi v with⟨E,g,e,w⟩|⟨e,w⟩
       ·rw[y e];exact B k' E g r (by omega) w
       ·rw[y e]
        obtain⟨o,t',h'⟩:=r
        cases o with
        |normal=>exact absurd rfl w
        |exit id=>rfl
        |ret=>rfl
   exact u a (max m a) _ _ _ (W0 m a) s
 | exit id=>
   refine⟨m+1,d,.exit id,p,h',?_,q⟩;have e:=vO (C:=C) (n:=n) (Nv m) (iW d) g;simp only[ic];show Cz _ _=_
   simp only[e,Cz]
 | ret=>
   refine⟨m+1,d,.ret,p,h',?_,q⟩;have e:=vO (C:=C) (n:=n) (Nv m) (iW d) g;simp only[ic];show Cz _ _=_;simp only[e,Cz]
theorem Wp.zaG {c:Code} (I:Nat->fZ->Hp->Prop) (b:∀k ρ h,I k ρ h->Wp C n c (andThen (λa h'=>∃k',k' < k/\I k' a h') Q) ρ h) {k:Nat} (h0:I k ρ h):Wp C n (.loop c) Q ρ h:=by
 induction k using Nat.strongRecOn generalizing ρ h with
 | _ k d=>
   refine .loop ((b k ρ h h0).mono λx a h' hq=>?_)
   cases x with
   |normal=>obtain⟨k',e,hi⟩:=hq;exact d k' e hi
   |exit id=>exact hq
   |ret=>exact hq
def nW (n:Nat) (o:Oper) (K:fZ->Hp->Prop):V->fZ->Hp->Prop:=match o.dst with
 |none=>λ_ ρ h=>K ρ h
 | some d=>match Nat.blt d n with
   |true=>λv ρ h=>K (gv ρ d v) h
   |false=>λ_ _ _=>False
def valOf:R->Option (V×Hp)
 | .val v h=>some (v,h)
 | .call _ _=>none
def Fq:R->Option (Nat×List V)
 | .call f args=>some (f,args)
 | .val _ _=>none
def wZ (o:Oper):Bool:=match o.op with
 | .call c=>match c.callee with
   | .value _| .invoke _ _=>true
   | .builtin _=>false
 |_=>false
def O2 (C:fu) (o:Oper) (K:V->fZ->Hp->Prop):fZ->Hp->Prop:=match wZ o with
 |true=>λρ h=>oP (oB ((jz o).f (.fn ρ []) h) Fq) λx=>cP C x.1 x.2 h λv h'=>K v ρ h'
 |false=>λρ h=>oP (oB ((jz o).f (.fn ρ []) h) valOf) λx=>K x.1 ρ x.2
def Nz (C:fu) (o:Oper) (K:V->fZ->Hp->Prop):fZ->Hp->Prop:=match cls o with
 |0=>λρ h=>oP ((ir o).f (.fn ρ []) h) λv=>K v ρ h
 |1=>λρ h=>oP ((pd o).f (.fn ρ [])) λr=>K (r.2 h.next) ρ (h.new r.1)
 |_=>O2 C o K
noncomputable def gV (b:Bool)(x:Option V):Option V:=Bool.rec (motive:=λ_=>Option V) (some .undef) x b
noncomputable def gH (b:Bool)(h:Hp)(x:Option (V×Hp)):Option (V×Hp):=Bool.rec (motive:=λ_=>Option (V×Hp)) (some (.undef,h)) x b
noncomputable def gC (b:Bool)(x:Option (Nat×List V)):Option (Option (Nat×List V)):=Bool.rec (motive:=λ_=>Option (Option (Nat×List V))) (some none) (oB x λy=>some (some y)) b
def wR (C:fu) (x:Option (Nat×List V)) (h:Hp) (K:V->Hp->Prop):Prop:=match x with
 |none=>K .undef h
 |some y=>cP C y.1 y.2 h K
def VK (C:fu) (o:Oper) (b:Bool) (K:V->fZ->Hp->Prop) (ρ:fZ) (h:Hp):Prop:=match cls o with
 |0=>oP (gV b ((ir o).f (.fn ρ []) h)) λv=>K v ρ h
 |1=>oP (gH b h (oB ((pd o).f (.fn ρ [])) λr=>some (r.2 h.next,h.new r.1))) λx=>K x.1 ρ x.2
 | _=>match wZ o with
   |true=>oP (gC b (oB ((jz o).f (.fn ρ []) h) Fq)) λx=>wR C x h λv h'=>K v ρ h'
   |false=>oP (gH b h (oB ((jz o).f (.fn ρ []) h) valOf)) λx=>K x.1 ρ x.2
def yB (C:fu) (n:Nat) (all:List Oper) (o:Oper) (K:fZ->Hp->Prop):fZ->Hp->Prop:=match yx o with
 |some _=>λ_ _=>False
 | none=>match jX n all o with
   |none=>Nz C o (nW n o K)
   |some g=>λρ h=>oP (g.f (.fn ρ [])) λb=>VK C o b (nW n o K) ρ h
noncomputable def xY (C:fu) (n:Nat) (all:List Oper) (K:fZ->Hp->Prop) (os:List Oper):fZ->Hp->Prop:=
 List.rec (motive:=λ_=>fZ->Hp->Prop) K (λo _ a=>yB C n all o a) os
theorem Sg (C:fu)(n:Nat)(all:List Oper)(K:fZ->Hp->Prop)(o:Oper)(os:List Oper):xY C n all K (o::os)=yB C n all o (xY C n all K os):=rfl
theorem Jo {o:Oper} {K:fZ->Hp->Prop} {v:V} (a:nW n o K v ρ h):∃d,wX n o=some d/\∃b,d.f (.fn ρ []) v = .fn b []/\K b h:=by
 unfold nW at a;unfold wX
 cases ho:o.dst with
 |none=>rw[ho]at a;exact⟨_,rfl,ρ,rfl,a⟩
 | some d=>
   rw[ho]at a;simp only at a⊢
   cases hb:Nat.blt d n with
   |true=>rw[hb]at a;exact⟨_,rfl,_,rfl,a⟩
   |false=>rw[hb]at a;exact a.elim
def YW (C:fu)(o:Oper)(K:V->fZ->Hp->Prop)(ρ:fZ)(h:Hp):Prop:=∃m d v h',(FB o).f (jB C m d) (.fn ρ []) h=some (v,h')/\K v ρ h'
theorem Uc {o:Oper} {K:V->fZ->Hp->Prop} (c:O2 C o K ρ h):(∃v h',(jz o).f (.fn ρ []) h=some (.val v h')/\K v ρ h')\/∃f args,(jz o).f (.fn ρ []) h=some (.call f args)/\cP C f args h λv h'=>K v ρ h':=by
 unfold O2 at c;cases hb:wZ o
 all_goals rw[hb]at c
 rotate_left
 ·obtain⟨x,a,d⟩:=jC.1 c;rw[fj]at a;obtain⟨r,e,b⟩:=a
  cases r with
  |val v h'=>cases b
  |call f args=>cases b;exact .inr ⟨f,args,e,d⟩
 ·obtain⟨x,a,d⟩:=jC.1 c;rw[fj]at a;obtain⟨r,e,b⟩:=a
  cases r with
  |val v h'=>cases b;exact .inl ⟨v,h',e,d⟩
  |call f args=>cases b
theorem JK {o:Oper} {K:V->fZ->Hp->Prop} (b:Nz C o K ρ h):YW C o K ρ h:=by
 by_cases hc0:cls o=0
 ·have a:oP ((ir o).f (.fn ρ []) h) (λv=>K v ρ h):=by unfold Nz at b;rw[hc0]at b;exact b
  obtain⟨v,e,g⟩:=jC.1 a;exact⟨0,0,v,h,by unfold FB;rw[hc0];simp only[e,oB],g⟩
 ·by_cases hc1:cls o=1
  ·have a:oP ((pd o).f (.fn ρ [])) (λr=>K (r.2 h.next) ρ (h.new r.1)):=by unfold Nz at b;rw[hc1]at b;exact b
   obtain⟨r,e,g⟩:=jC.1 a;exact⟨0,0,_,_,by unfold FB;rw[hc1];simp only[e,oB],g⟩
  ·have a:O2 C o K ρ h:=by
    unfold Nz at b;generalize cls o=c at b hc0 hc1;rcases c with _|_|c
    ·exact absurd rfl hc0
    ·exact absurd rfl hc1
    ·exact b
   have i:∀call,(FB o).f call (.fn ρ []) h=oB ((jz o).f (.fn ρ []) h) λr=>match r with
     | .val v h=>some (v,h)
     | .call f args=>call f args h:=by
    intro call;unfold FB;split
    ·exact absurd (by assumption) hc0
    ·exact absurd (by assumption) hc1
    ·rfl
   rcases Uc a with⟨v,h',e,g⟩|⟨f,args,e,v,h',⟨m,d,j⟩,k⟩
   ·exact⟨0,0,v,h',by rw[i];simp only[e,oB],g⟩
   ·exact⟨m,d,v,h',by rw[i];simp only[e,oB];exact j,k⟩
theorem YM {o:Oper} {b:Bool} {K:V->fZ->Hp->Prop} (e:VK C o b K ρ h):(b=true/\YW C o K ρ h)\/(b=false/\K .undef ρ h):=by
 unfold VK at e;by_cases hc0:cls o=0
 ·rw[hc0]at e;obtain⟨v,a,d⟩:=jC.1 e
  cases b with
  |true=>exact .inl ⟨rfl,JK (by unfold Nz;rw[hc0];exact ed a d)⟩
  |false=>cases a;exact .inr ⟨rfl,d⟩
 ·by_cases hc1:cls o=1
  ·rw[hc1]at e;obtain⟨v,a,d⟩:=jC.1 e
   cases b with
   | true=>
     obtain⟨r,i,j⟩:=fj.1 (show oB _ _=_ from a);cases j
     exact .inl ⟨rfl,JK (by unfold Nz;rw[hc1];exact ed i d)⟩
   |false=>cases a;exact .inr ⟨rfl,d⟩
  ·have k:∀K,O2 C o K ρ h->Nz C o K ρ h:=by
    intro K e;unfold Nz;generalize cls o=c at hc0 hc1;rcases c with _|_|c
    ·exact absurd rfl hc0
    ·exact absurd rfl hc1
    ·exact e
   have g:(match wZ o with
     |true=>oP (gC b (oB ((jz o).f (.fn ρ []) h) Fq)) λx=>wR C x h λv h'=>K v ρ h'
     |false=>oP (gH b h (oB ((jz o).f (.fn ρ []) h) valOf)) λx=>K x.1 ρ x.2):=by
    generalize cls o=c at e hc0 hc1;rcases c with _|_|c
    ·exact absurd rfl hc0
    ·exact absurd rfl hc1
    ·exact e
   cases hi:wZ o with
   | true=>
     rw[hi]at g;obtain⟨x,a,d⟩:=jC.1 g
     cases b with
     | true=>
       obtain⟨y,i,j⟩:=fj.1 (show oB _ _=_ from a);cases j
       exact .inl ⟨rfl,JK (k _ (by unfold O2;rw[hi];exact ed i d))⟩
     |false=>cases a;exact .inr ⟨rfl,d⟩
   | false=>
     rw[hi]at g;obtain⟨x,a,d⟩:=jC.1 g
     cases b with
     |true=>exact .inl ⟨rfl,JK (k _ (by unfold O2;rw[hi];exact ed a d))⟩
     |false=>cases a;exact .inr ⟨rfl,d⟩
theorem MU {m d a b:Nat} (c:m<=a) (e:d<=b) {all os:List Oper} {t:Tm} {h:Hp} {r:Tm×Hp} (hv:(sj n all os).f (jB C m d) t h=some r):(sj n all os).f (jB C a b) t h=some r:=
 Bx (vN c e) os hv
theorem MD {all:List Oper} {K:fZ->Hp->Prop}:∀(os:List Oper) {ρ:fZ} {h:Hp},xY C n all K os ρ h->∃m d c h',(sj n all os).f (jB C m d) (.fn ρ []) h=some (.fn c [],h')/\K c h'
 |[],ρ,h,a=>⟨0,0,ρ,h,rfl,a⟩
 | o ::os,ρ,h,a=>by
   rw[Sg]at a;unfold yB at a
   cases hq:yx o with
   |some q=>rw[hq]at a;exact a.elim
   | none=>
     rw[hq]at a;simp only at a
     have t:∀{ρ h},YW C o (nW n o (xY C n all K os)) ρ h->∃d,wX n o=some d/\∃m e v s,(FB o).f (jB C m e) (.fn ρ []) h=some (v,s)/\∃i,d.f (.fn ρ []) v = .fn i []/\
        ∃c h',(sj n all os).f (jB C m e) (.fn i []) s=some (.fn c [],h')/\K c h':=by
       intro ρ h a;obtain⟨m,e,v,s,u,A⟩:=a;obtain⟨d,j,i,k,x⟩:=Jo A;obtain⟨y,z,c,h',l,p⟩:=MD os x;exact⟨d,j,max m y,max e z,v,s,GU (vN (XL _ _) (XL _ _)) u,i,k,c,h',MU (W0 _ _) (W0 _ _) l,p⟩
     cases hw:jX n all o with
     | none=>
       rw[hw]at a;obtain⟨d,j,m,e,v,s,u,i,k,c,h',l,p⟩:=t (JK a);refine⟨m,e,c,h',?_,p⟩;simp only[sj,Gz,j,hw,hq,u,oB,k]
       exact l
     | some g=>
       rw[hw]at a;obtain⟨b,hb,a⟩:=jC.1 a;rcases YM a with⟨w,r⟩|⟨w,r⟩ <;> subst w
       ·obtain⟨d,j,m,e,v,s,u,i,k,c,h',l,p⟩:=t r
        refine⟨m,e,c,h',?_,p⟩;simp only[sj,Gz,j,hw,hb,u,oB,k];exact l
       ·obtain⟨d,j,i,k,x⟩:=Jo r
        obtain⟨y,z,c,h',l,p⟩:=MD os x;refine⟨y,z,c,h',?_,p⟩;simp only[sj,Gz,j,hw,hb,oB,k];exact l
theorem Wp.region {id:Nat} {ops:Array Oper} (a:xY C n ops.toList (λρ h=>Q .normal ρ h) ops.toList ρ h):Wp C n (.region id ops false) Q ρ h:=by
 obtain⟨m,d,b,h',c,e⟩:=MD _ a;exact⟨m,d,.normal,b,h',by simp only[ic,c,oB],e⟩
end
section
variable{C:fu}{n:Nat}{Q:X->fZ->Hp->Prop}{ρ:fZ}{h:Hp}
def AZ (h:Hp) (r:Rec):Prop:=match r.made with
 |none=>(ir r.it.o).f r.t h=some r.v
 |some (l,ob)=>h.get l=some ob/\O.beq ob ob=true
def vh (k:Nat) (h:Hp):List (Bool×Rec)->Prop->Prop
 |[],K=>K
 |r::rs,K=>Bool.rec (motive:=λ_=>Prop) (Bool.rec (motive:=λ_=>Prop) True (AZ h r.2) r.1/\vh k h rs K) (vh k h rs K) (Nat.blt r.2.last k)
def Bu (rs:List (Bool×Rec)):List Rec:=(rs.filter (·.1)).map (·.2)
def YP (C:fu) (n:Nat) (all:List Oper) (ws:List It) (a:It) (c:Nat->fZ->Hp->List (Bool×Rec)->Prop) (k:Nat):fZ->Hp->List (Bool×Rec)->Prop:=match cls a.o with
  | 0=>match jX n all a.o with
    |none=>λρ h rs=>oP ((ir a.o).f (.fn ρ []) h) λv=>nW n a.o (λd h=>c k d h ((true,{it:=a,t:= .fn ρ [],v,made:=none,last:=late ws a})::rs)) v ρ h
    |some g=>λρ h rs=>oP (g.f (.fn ρ [])) λb=>oP (gV b ((ir a.o).f (.fn ρ []) h)) λv=>
       nW n a.o (λd h=>c k d h ((b,{it:=a,t:= .fn ρ [],v,made:=none,last:=late ws a})::rs)) v ρ h
  | 1=>match jX n all a.o with
    |none=>λρ h rs=>oP ((pd a.o).f (.fn ρ [])) λr=>nW n a.o (λd h'=>c k d h' ((true,{it:=a,t:= .fn ρ [],v:=r.2 h.next,made:=some (h.next,r.1),last:=late ws a})::rs)) (r.2 h.next) ρ (h.new r.1)
    |some _=>λ_ _ _=>False
  | _ =>match jX n all a.o with
    |none=>λρ h rs=>vh k h rs (O2 C a.o (λv ρ h'=>h.next<=h'.next/\nW n a.o (λρ h=>c (Nat.succ k) ρ h rs) v ρ h') ρ h)
    | some g=>match wZ a.o with
      |true=>λρ h rs=>vh k h rs (oP (g.f (.fn ρ [])) λb=>oP (gC b (oB ((jz a.o).f (.fn ρ []) h) Fq)) λx=>wR C x h λv h'=>h.next<=h'.next/\nW n a.o (λρ h=>c (Nat.succ k) ρ h rs) v ρ h')
      |false=>λ_ _ _=>False
noncomputable def FJ (C:fu) (n:Nat) (all:List Oper) (ws:List It) (K:fZ->Hp->Prop) (l:List It):Nat->fZ->Hp->List (Bool×Rec)->Prop:=
 List.rec (motive:=λ_=>Nat->fZ->Hp->List (Bool×Rec)->Prop) (λk ρ h rs=>vh k h rs (K ρ h)) (λa _ b k=>YP C n all ws a b k) l
theorem RL (C:fu)(n:Nat)(all:List Oper)(ws:List It)(K:fZ->Hp->Prop)(a:It)(l:List It)(k:Nat):FJ C n all ws K (a::l) k=YP C n all ws a (FJ C n all ws K l) k:=rfl
theorem Ge {k:Nat}:∀{rs:List (Bool×Rec)} {K:Prop},vh k h rs K->Ar k h (Bu rs)=true/\K
 |[],K,a=>⟨rfl,a⟩
 | (b,r)::rs,K,a=>by
   simp only[vh]at a;have c:∀{K:Prop},vh k h rs K->(b=true->(Nat.blt r.last k ||yc h r)=true)->Ar k h (Bu ((b,r)::rs))=true/\K:=by
     intro K a hb;obtain⟨d,f⟩:=Ge a;refine⟨?_,f⟩
     cases b with
     |false=>exact d
     | true=>
       show Ar k h (r::Bu rs)=true;unfold Ar;rw[W7,hb rfl,YY];exact d
   cases hb:Nat.blt r.last k with
   |true=>rw[hb]at a;exact c a (λ_=>by rw[hb];rfl)
   | false=>
     rw[hb]at a;obtain⟨h0,a⟩:=a;refine c a (λe=>?_);subst e;rw[hb,Bool.false_or];have h0:AZ h r:=h0;unfold AZ at h0;unfold yc
     cases hm:r.made with
     |none=>rw[hm]at h0;simp only at h0⊢;rw[h0];exact V.KZ _
     | some x=>
       obtain⟨l,ob⟩:=x;rw[hm]at h0;simp only at h0⊢;rw[h0.1];exact h0.2
theorem zaA {b:Bool} {x:Option V} {v:V} (h:gV b x=some v):(b=true/\x=some v)\/(b=false/\v = .undef):=by
 cases b with
 |true=>exact .inl ⟨rfl,h⟩
 |false=>cases h;exact .inr ⟨rfl,rfl⟩
theorem Ed {o:Oper} {d:DF} (c:wX n o=some d) {K:fZ->Hp->Prop} {v:V} (e:nW n o K v ρ h):∃a,d.f (.fn ρ []) v = .fn a []/\K a h:=by
 obtain⟨i,b,g⟩:=Jo e;rw[c]at b;cases b;exact g
theorem SH {m d a b:Nat} (c:m<=a) (e:d<=b) {all:List Oper} {ws l:List It} {k:Nat} {t:Tm} {h:Hp} {rs:List Rec} {r:Tm×Hp} (hv:(vJ n all ws l k).f (jB C m d) t h rs=some r) :
  (vJ n all ws l k).f (jB C a b) t h rs=some r:=yj (vN c e) l k hv
theorem Bt {all:List Oper} {ws:List It} {K:fZ->Hp->Prop}:∀(l:List It) (k:Nat) {ρ:fZ} {h:Hp} {rs:List (Bool×Rec)},FJ C n all ws K l k ρ h rs->
  ∃m d j h',(vJ n all ws l k).f (jB C m d) (.fn ρ []) h (Bu rs)=some (.fn j [],h')/\K j h'
 | [],k,ρ,h,rs,e=>by
   obtain⟨s,w⟩:=Ge e
   exact⟨0,0,ρ,h,by simp only[vJ,s,bB],w⟩
 | a ::l,k,ρ,h,rs,e=>by
   have i:∀{K:fZ->Hp->Prop} {v:V} {ρ:fZ} {h:Hp},nW n a.o K v ρ h->∃d,wX n a.o=some d:=λe=>let⟨d,s,_⟩:=Jo e;⟨d,s⟩
   have u:∀{d},wX n a.o=some d->∀call t h rs,(vJ n all ws (a::l) k).f call t h rs=(match cls a.o with
       |0=>EN n all ws a d (vJ n all ws l k)
       |1=>Dn n all ws a d (vJ n all ws l k)
       |_=>AD n all k a d (vJ n all ws l (Nat.succ k))).f call t h rs:=by
     intro d p call t h rs
     conv=>lhs;unfold vJ
     rw[p];simp only;generalize cls a.o=c;rcases c with _|_|c <;> rfl
   have I:∀call t h,cls a.o≠0->cls a.o≠1->(FB a.o).f call t h=oB ((jz a.o).f t h) λr=>match r with
       | .val v h=>some (v,h)
       | .call f args=>call f args h:=by
     intro call t h h0 s;unfold FB;split
     ·exact absurd (by assumption) h0
     ·exact absurd (by assumption) s
     ·rfl
   have F:∀t,jX n all a.o=none->oO n all a.o t=some true:=λt h=>by unfold oO;rw[h]
   have D:∀t g,jX n all a.o=some g->oO n all a.o t=g.f t:=λt g h=>by unfold oO;rw[h]
   have step:∀{h:Hp} {ρ:fZ} {rs:List (Bool×Rec)} {c:Nat},cls a.o=c+2->Ar k h (Bu rs)=true->oO n all a.o (.fn ρ [])=some true->
       O2 C a.o (λv ρ h'=>h.next<=h'.next/\nW n a.o (λρ h=>FJ C n all ws K l (Nat.succ k) ρ h rs) v ρ h') ρ h->
       ∃m d j h',(vJ n all ws (a::l) k).f (jB C m d) (.fn ρ []) h (Bu rs)=some (.fn j [],h')/\K j h':=by
     intro h ρ rs c hc q M e;have E:=λcall=>I call (.fn ρ []) h (by omega) (by omega);rcases Uc e with⟨v,h',hv,G,e⟩|⟨f,args,hv,v,h',⟨N,d0,O⟩,G,e⟩
     ·simp only[hv,oB]at E
      obtain⟨d,p⟩:=i e;obtain⟨J,s,e⟩:=Ed p e;obtain⟨m,z,j,B,w,A⟩:=Bt l _ e;exact⟨m,z,j,B,by rw[u p,hc];simp only[AD,q,bB,M,oB,E,s,I8 G];exact w,A⟩
     ·simp only[hv,oB]at E
      obtain⟨d,p⟩:=i e;obtain⟨J,s,e⟩:=Ed p e;obtain⟨m,z,j,B,w,A⟩:=Bt l _ e;refine⟨max N m,max d0 z,j,B,?_,A⟩;have L:=vN (C:=C) (XL N m) (XL d0 z) _ _ _ _ O;rw[u p,hc];simp only[AD,q,bB,M,oB,E,L,s,I8 G];exact SH (W0 N m) (W0 d0 z) w
   have H:∀{h:Hp} {ρ:fZ} {rs:List (Bool×Rec)} {c:Nat},cls a.o=c+2->Ar k h (Bu rs)=true->oO n all a.o (.fn ρ [])=some false->
       nW n a.o (λρ h=>FJ C n all ws K l (Nat.succ k) ρ h rs) .undef ρ h->
       ∃m d j h',(vJ n all ws (a::l) k).f (jB C m d) (.fn ρ []) h (Bu rs)=some (.fn j [],h')/\K j h':=by
     intro h ρ rs c hc q M e;obtain⟨d,p⟩:=i e;obtain⟨J,s,e⟩:=Ed p e;obtain⟨m,z,j,B,w,A⟩:=Bt l _ e;exact⟨m,z,j,B,by rw[u p,hc];simp only[AD,q,bB,M,oB,s];exact w,A⟩
   rw[RL]at e;unfold YP at e;generalize hc:cls a.o=c at e;rcases c with _|_|c
   ·simp only at e
    cases hwc:jX n all a.o with
    | none=>
      rw[hwc]at e;obtain⟨v,hv,e⟩:=jC.1 e;obtain⟨d,p⟩:=i e;obtain⟨J,s,e⟩:=Ed p e;obtain⟨m,z,j,h',w,A⟩:=Bt l k e
      exact⟨m,z,j,h',by rw[u p,hc];simp only[EN,F _ hwc,hv,oB,s];exact w,A⟩
    | some g=>
      rw[hwc]at e;obtain⟨b,hb,e⟩:=jC.1 e;obtain⟨v,hv,e⟩:=jC.1 e;obtain⟨d,p⟩:=i e;obtain⟨J,s,e⟩:=Ed p e;obtain⟨m,z,j,h',w,A⟩:=Bt l k e;rcases zaA hv with⟨P,Q⟩|⟨P,R⟩
      ·subst P
       exact⟨m,z,j,h',by rw[u p,hc];simp only[EN,D _ _ hwc,hb,Q,oB,s];exact w,A⟩
      ·subst P;subst R
       exact⟨m,z,j,h',by rw[u p,hc];simp only[EN,D _ _ hwc,hb,oB,s];exact w,A⟩
   ·simp only at e
    cases hwc:jX n all a.o with
    | none=>
      rw[hwc]at e;obtain⟨v,hv,e⟩:=jC.1 e;obtain⟨d,p⟩:=i e;obtain⟨J,s,e⟩:=Ed p e;obtain⟨m,z,j,h',w,A⟩:=Bt l k e
      exact⟨m,z,j,h',by rw[u p,hc];simp only[Dn,F _ hwc,hv,oB,s];exact w,A⟩
    |some g=>rw[hwc]at e;exact e.elim
   ·simp only at e
    cases hwc:jX n all a.o with
    | none=>
      rw[hwc]at e;obtain⟨q,e⟩:=Ge e
      exact step hc q (F _ hwc) e
    | some g=>
      rw[hwc]at e;simp only at e
      cases hi:wZ a.o with
      |false=>rw[hi]at e;exact e.elim
      | true=>
        rw[hi]at e;obtain⟨q,e⟩:=Ge e;obtain⟨b,hb,e⟩:=jC.1 e;obtain⟨x,hx,e⟩:=jC.1 e
        cases b with
        | true=>
          obtain⟨y,A,S⟩:=fj.1 (show oB _ _=_ from hx);cases S
          exact step hc q (by rw[D _ _ hwc,hb]) (by unfold O2;rw[hi];exact ed A e)
        | false=>
          cases hx;exact H hc q (by rw[D _ _ hwc,hb]) e.2
noncomputable def wN (all:List Oper):Bool:=
 MF (items all 0 []) (gK (items all 0 []))&&uN (items all 0 []) (gK (items all 0 [])) (order (items all 0 []) (gK (items all 0 [])) (gK (items all 0 [])) 0) 0 0
noncomputable def RC (C:fu) (n:Nat) (all:List Oper) (K:fZ->Hp->Prop) (ρ:fZ) (h:Hp):Prop:=
 FJ C n all (gK (items all 0 [])) K (order (items all 0 []) (gK (items all 0 [])) (gK (items all 0 [])) 0) 0 ρ h []
theorem Wp.draw {id:Nat} {ops:Array Oper} (a:wN ops.toList=true) (c:RC C n ops.toList (λρ h=>Q .normal ρ h) ρ h):Wp C n (.region id ops true) Q ρ h:=by
 obtain⟨m,d,f,h',b,g⟩:=Bt _ _ c;have e:Bu []=[]:=rfl;rw[e]at b;refine⟨m,d,.normal,f,h',?_,g⟩;unfold wN at a;simp only[ic,JE,a,b,oB]
noncomputable def vz (C:fu) (n:Nat) (c:Code):(X->fZ->Hp->Prop)->fZ->Hp->Prop:=
 Code.rec (motive:=λ_=>(X->fZ->Hp->Prop)->fZ->Hp->Prop)
  (λQ=>Q .normal)
  (fun _ ops d Q=>match d with
   |false=>xY C n ops.toList (λρ h=>Q .normal ρ h) ops.toList
   | true=>match wN ops.toList with
     |true=>RC C n ops.toList (λρ h=>Q .normal ρ h)
     |false=>λ_ _=>False)
  (λ_ b a _ Q=>a (andThen (Wp C n b Q) Q))
  (λc _ _ a e Q ρ h=>oP ((rB c).f (.fn ρ []) h) λv=>bP v (a Q ρ h) (e Q ρ h))
  (λid _ g Q=>g (yv id Q))
  (λc _ Q=>Wp C n (.loop c) Q)
  (λ_ _ _ _ _ _ _ _ _=>False)
  (λid Q=>Q (.exit id))
  (λ_ _ _ _ _=>False)
  (λ_ _ _ _=>False)
  (λ_ _ _ _=>False)
  (λQ=>Q .ret)
  (λ_ _ _ _=>False) c
theorem Wp.code:∀(c:Code) {Q:X->fZ->Hp->Prop} {ρ:fZ} {h:Hp},vz C n c Q ρ h->Wp C n c Q ρ h
 | .skip,_,_,_,d=> .skip d
 | .region _ ops false,_,_,_,d=> .region d
 | .region _ ops true,Q,ρ,h,d=>by
   have e:(match wN ops.toList with
       |true=>RC C n ops.toList (λρ h=>Q .normal ρ h)
       |false=>λ_ _=>False) ρ h:=d
   cases hd:wN ops.toList with
   |true=>rw[hd]at e;exact .draw hd e
   |false=>rw[hd]at e;exact e.elim
 | .seq a _,_,_,_,d=> .seq (Wp.code a d)
 | .cond c a b,_,_,_,d=>by
   obtain⟨v,hv,d⟩:=jC.1 d;refine .cond (ed hv ?_);unfold bP at d⊢;split at d
   ·rename_i x
    cases x with
    |true=>exact Wp.code a d
    |false=>exact Wp.code b d
   ·exact d.elim
 | .block id c,_,_,_,d=> .block (Wp.code c d)
 | .loop c,_,_,_,d=>d
 | .exit id,_,_,_,d=> .exit d
 | .ret,_,_,_,d=> .ret d
 | .rangeFunc ..,_,_,_,d=>d.elim
 | .scope _,_,_,_,d=>d.elim
 | .label _,_,_,_,d=>d.elim
 | .goto _,_,_,_,d=>d.elim
 | .refuse _,_,_,_,d=>d.elim
def Wa (l:List ResultVar)(Q:V->Hp->Prop)(ρ:fZ)(h:Hp):Prop:=oP (yL (.fn ρ []) h l) λvs=>Q (xS vs) h
def Ky (l:List ResultVar) (Q:V->Hp->Prop):X->fZ->Hp->Prop
 | .exit _,_,_=>False
 |_,ρ,h=>Wa l Q ρ h
def Md (args:List V):fZ:=λi=>(args[i]?).getD .undef
theorem cP.func (hs:C.start=fW) {f:Nat} {fn:Func} {c:Code} {args:List V} (l:P0.funcs[f]? =some fn) (hb:fn.body=some c) (n:C.K f args h=none) (g:args.length<=fn.ntmps) {Q:V->Hp->Prop}
  (o:Wp C fn.ntmps c (Ky fn.results.toList Q) (Md args) h):cP C f args h Q:=by
 obtain ⟨m,d,x,p,h',q,i⟩:=o;have a:Wa fn.results.toList Q p h'->(∀id,x≠ .exit id)->cP C f args h Q:=by
  intro r hx;obtain⟨vs,k,s⟩:=jC.1 r;refine⟨_,_,⟨m,d+1,?_⟩,s⟩;show(zX C f).f (jB C m d) m args h=_;unfold zX;rw[l];simp only[hb,n,WO,hs];have b:Nat.ble args.length fn.ntmps=true:=I8 g;have j:fW args = .fn (Md args) []:=rfl;rw[j,b,q]
  cases x with
  |normal=>simp only[bB,oB,Tm.ds,Lb,k]
  |ret=>simp only[bB,oB,Tm.ds,Lb,k]
  |exit id=>exact absurd rfl (hx id)
 cases x with
 |normal=>exact a i (λid e=>nomatch e)
 |ret=>exact a i (λid e=>nomatch e)
 |exit id=>exact i.elim
theorem cP.zaU (hs:C.start=fW) {f:Nat} {fn:Func} {c:Code} {args:List V} {k:Nat} {rs:List ResultVar} (b:P0.funcs[f]? =some fn) (hb:fn.body=some c) (d:fn.ntmps=k) (e:fn.results.toList=rs)
  (g:C.K f args h=none) (a:args.length<=k) {Q:V->Hp->Prop} (i:Wp C k c (Ky rs Q) (Md args) h):cP C f args h Q:=by
 subst d;subst e;exact cP.func hs b hb g a i
theorem cP.known {f:Nat} {fn:Func} {c:Code} {args:List V} {v:V} (a:P0.funcs[f]? =some fn) (hb:fn.body=some c) (b:C.K f args h=some v) (d:NP args=true) (e:v.flat=true) {Q:V->Hp->Prop} (hq:Q v h):cP C f args h Q:=by
 refine⟨v,h,⟨0,1,?_⟩,hq⟩;show(zX C f).f _ _ args h=_;unfold zX;rw[a];simp only[hb,b,WO,d,e,Bool.and_self,bB]
theorem cP.ext {f:Nat} {fn:Func} {args:List V} {v:V} (a:P0.funcs[f]? =some fn) (hb:fn.body=none) (hx:O3 (C.ext f) args=some v) {Q:V->Hp->Prop} (hq:Q v h):cP C f args h Q:=by
 refine⟨v,h,⟨0,1,?_⟩,hq⟩;show(zX C f).f _ _ args h=_;unfold zX;rw[a];simp only[hb,hx,oB]
theorem cP.mono {f:Nat} {args:List V} {Q a:V->Hp->Prop} (hc:cP C f args h Q) (hq:∀v h,Q v h->a v h):cP C f args h a:=by
 obtain⟨v,h',b,c⟩:=hc;exact⟨v,h',b,hq _ _ c⟩
end
