/- Parts. -/
import Derived.Test.YtnehpeeglbgfpaaDoorM07
set_option maxHeartbeats 4000000
namespace Go.Proofs.YtnehpeeglbgfpaaDoor.Hx
abbrev fK:=Nat->V
def Ev(C:fe)(f:Nat)(args:List V)(h:Hp)(v:V)(h':Hp):Prop:=∃m d,jq C m d f args h=some (v,h')
inductive Wp (C:fe) (n:Nat) (c:Code) (Q:X->fK->Hp->Prop) (ρ:fK) (h:Hp):Prop
 |mk (b:∃m d x a h',(gL n c).f (jq C m d) m (.fn ρ []) h=some (x,.fn a [],h')/\Q x a h')
def oP{α:Type}(x:Option α)(k:α->Prop):Prop:=Option.rec (motive:=λ_=>Prop) False k x
theorem Rs{α:Type}(a:α)(k:α->Prop):oP (some a) k=k a:=rfl
theorem jD{α:Type} {x:Option α} {k:α->Prop}:oP x k↔∃a,x=some a/\k a:=by
 cases x with
 |none=>grind[oP]
 |some a=>exact⟨λh=>⟨a,rfl,h⟩,λ⟨_,h,h'⟩=>by grind[oP]⟩
theorem ec{α:Type}{x:Option α}{k:α->Prop}{a:α}(h:x=some a)(h':k a):oP x k:=by subst h;exact h'
def cP(C:fe)(f:Nat)(args:List V)(h:Hp)(k:V->Hp->Prop):Prop:=∃v h',Ev C f args h v h'/\k v h'
def bP(v:V) (a b:Prop):Prop:=match v with
 | .bool x=>Bool.rec (motive:=λ_=>Prop) b a x
 |_=>False
theorem gy(x:Bool)(a b:Prop):bP (.bool x) a b=if x=true then a else b:=by cases x <;> rfl
section
variable{C:fe}{n:Nat}{Q:X->fK->Hp->Prop}{ρ:fK}{h:Hp}
theorem Wp.mono{c:Code} {a:X->fK->Hp->Prop} (b:Wp C n c Q ρ h) (hq:∀x ρ h,Q x ρ h->a x ρ h):Wp C n c a ρ h:=by
 obtain⟨m,d,x,e,h',f,g⟩:=b;exact⟨m,d,x,e,h',f,by simp_all⟩
theorem Wp.skip(hq:Q .normal ρ h):Wp C n .skip Q ρ h:=⟨0,0,.normal,ρ,h,rfl,hq⟩
theorem Wp.ret(hq:Q .ret ρ h):Wp C n .ret Q ρ h:=⟨0,0,.ret,ρ,h,rfl,hq⟩
theorem Wp.exit{id:Nat}(hq:Q (.exit id) ρ h):Wp C n (.exit id) Q ρ h:=⟨0,0,.exit id,ρ,h,rfl,hq⟩
def andThen(k:fK->Hp->Prop) (Q:X->fK->Hp->Prop):X->fK->Hp->Prop
 | .normal,ρ,h=>k ρ h
 |x,ρ,h=>Q x ρ h
theorem vG{m d a b:Nat} (e:m<=a) (hd:d<=b) {c:Code} {t:Tm} {h:Hp} {r:X×Tm×Hp} (g:(gL n c).f (jq C m d) m t h=some r):(gL n c).f (jq C a b) a t h=some r:=
 ku (sr e hd) e c g
theorem Wp.seq{a b:Code} (i:Wp C n a (andThen (Wp C n b Q) Q) ρ h):Wp C n (.seq a b) Q ρ h:=by
 obtain⟨m,d,x,g,h',p,c⟩:=i
 cases x with
 | normal=>
   obtain⟨j,k,l,e,f,q,o⟩:=c;refine⟨max m j,max d k,l,e,f,?_,o⟩
   grind[gL,vG,Ss,zw,UD]
 |exit id=>exact⟨m,d,.exit id,g,h',by grind[gL,zw],c⟩
 |ret=>exact⟨m,d,.ret,g,h',by grind[gL,zw],c⟩
theorem Wp.cond{e:Operand} {a b:Code} (c:oP ((oO e).f (.fn ρ []) h) λv=>bP v (Wp C n a Q ρ h) (Wp C n b Q ρ h)):Wp C n (.cond e a b) Q ρ h:=by
 obtain⟨v,k,c⟩:=jD.1 c;unfold bP at c;split at c
 ·rename_i x
  cases x with
  | true=>
    obtain⟨m,d,x,g,h',j,i⟩:=c
    exact⟨m,d,x,g,h',by grind[gL,ez],i⟩
  | false=>
    obtain⟨m,d,x,g,h',j,i⟩:=c;exact⟨m,d,x,g,h',by grind[gL,ez],i⟩
 simp_all
def vg(id:Nat) (Q:X->fK->Hp->Prop):X->fK->Hp->Prop
 | .exit i,ρ,h=>Bool.rec (motive:=λ_=>Prop) (Q (.exit i) ρ h) (Q .normal ρ h) (Nat.beq i id)
 |x,ρ,h=>Q x ρ h
theorem Wp.block{id:Nat} {c:Code} (e:Wp C n c (vg id Q) ρ h):Wp C n (.block id c) Q ρ h:=by
 obtain⟨m,d,x,b,h',f,a⟩:=e
 cases x with
 |normal=>exact⟨m,d,.normal,b,h',by grind[gL,Ey],a⟩
 |ret=>exact⟨m,d,.ret,b,h',by grind[gL,Ey],a⟩
 | exit i=>
   simp only[vg]at a
   cases hb:Nat.beq i id with
   |true=>rw[hb]at a;exact⟨m,d,.normal,b,h',by simp_all[gL,Ey],a⟩
   |false=>rw[hb]at a;exact⟨m,d,.exit i,b,h',by simp_all[gL,Ey],a⟩
theorem Wp.loop{c:Code} (g:tU n c=none) (z:Wp C n c (andThen (Wp C n (.loop c) Q) Q) ρ h):Wp C n (.loop c) Q ρ h:=by
 obtain⟨m,d,x,v,h',e,i⟩:=z
 cases x with
 | normal=>
   obtain⟨a,b,l,o,p,w,A⟩:=i;refine⟨max m a+1,max d b,l,o,p,?_,A⟩;have e1:=vG (C:=C) (n:=n) (DE (Ss m a) (JM _)) (Ss d b) e;simp only[gL,g]at w⊢;show zw _ _=_;simp only[e1,zw]
   have q:∀(k k':Nat) (t:Tm) (h:Hp) (r:X×Tm×Hp),k<=k'->zO (λt h=>(gL n c).f (jq C a b) a t h) k t h=some r->
       zO (λt h=>(gL n c).f (jq C (max m a+1) (max d b)) (max m a+1) t h) k' t h=some r:=by
     intro k
     induction k with
     |zero=>intro k' t h r _ s;cases s
     | succ k B=>
       intro k' t h r F s;obtain⟨k',rfl⟩:∃j,k' = j+1:=⟨k'-1,by omega⟩
       have u:zw ((gL n c).f (jq C a b) a t h) (zO (λt h=>(gL n c).f (jq C a b) a t h) k)=some r:=s;show zw ((gL n c).f (jq C (max m a+1) (max d b)) (max m a+1) t h) (zO (λt h=>(gL n c).f (jq C (max m a+1) (max d b)) (max m a+1) t h) k')=some r
       have y:∀{r},(gL n c).f (jq C a b) a t h=some r->(gL n c).f (jq C (max m a+1) (max d b)) (max m a+1) t h=some r:=
         λD=>vG (by omega) (UD d b) D
       rcases CL u with⟨E,e,e1,e2⟩|⟨e1,e2⟩
       ·rw[y e1];exact B k' E e r (by omega) e2
       ·rw[y e1]
        obtain⟨l,t',h'⟩:=r
        cases l with
        |normal=>simp_all
        |exit id=>rfl
        |ret=>rfl
   exact q a (max m a) _ _ _ (UD m a) w
 | exit id=>
   refine⟨m+1,d,.exit id,v,h',?_,i⟩;have e1:=vG (C:=C) (n:=n) (JM m) (je d) e;simp only[gL,g];show zw _ _=_
   grind[zw]
 | ret=>
   refine⟨m+1,d,.ret,v,h',?_,i⟩;have e1:=vG (C:=C) (n:=n) (JM m) (je d) e;simp only[gL,g];show zw _ _=_
   grind[zw]
theorem Wp.fill{c:Code} {F:kM} (b:tU n c=some F) {x:X} {a:fK} {h':Hp} (d:Gu F (.fn ρ []) h=some (x,.fn a [],h')) (hq:Q x a h'):Wp C n (.loop c) Q ρ h:=
 ⟨0,0,x,a,h',by simp only[gL,b];exact d,hq⟩
theorem Wp.VY{c:Code} (I:Nat->fK->Hp->Prop) (b:∀k ρ h,I k ρ h->Wp C n c (andThen (λa h'=>∃k',k' < k/\I k' a h') Q) ρ h) {k:Nat} (h0:I k ρ h) (d:tU n c=none:=by rfl):Wp C n (.loop c) Q ρ h:=by
 induction k using Nat.strongRecOn generalizing ρ h with
 | _ k e=>
   refine .loop d ((b k ρ h h0).mono λx a h' hq=>?_)
   cases x with
   |normal=>obtain⟨k',f,hi⟩:=hq;exact e k' f hi
   |exit id=>exact hq
   |ret=>exact hq
def lZ(n:Nat) (o:Oper) (K:fK->Hp->Prop):V->fK->Hp->Prop:=match o.dst with
 |none=>λ_ ρ h=>K ρ h
 | some d=>match Nat.blt d n with
   |true=>λv ρ h=>K (fS ρ d v) h
   |false=>λ_ _ _=>False
def valOf:R->Option (V×Hp)
 | .val v h=>some (v,h)
 | .call _ _=>none
def xj:R->Option (Nat×List V)
 | .call f args=>some (f,args)
 | .val _ _=>none
def tV(o:Oper):Bool:=match o.op with
 | .call c=>match c.callee with
   | .value _| .invoke _ _=>true
   | .builtin _=>false
 |_=>false
def Kr(C:fe) (o:Oper) (K:V->fK->Hp->Prop):fK->Hp->Prop:=match tV o with
 |true=>λρ h=>oP (oB ((iC o).f (.fn ρ []) h) xj) λx=>cP C x.1 x.2 h λv h'=>K v ρ h'
 |false=>λρ h=>oP (oB ((iC o).f (.fn ρ []) h) valOf) λx=>K x.1 ρ x.2
def JL(C:fe) (o:Oper) (K:V->fK->Hp->Prop):fK->Hp->Prop:=match cls o with
 |0=>λρ h=>oP ((gX o).f (.fn ρ []) h) λv=>K v ρ h
 |1=>λρ h=>oP ((nD o).f (.fn ρ [])) λr=>K (r.2 h.next) ρ (h.new r.1)
 |_=>Kr C o K
noncomputable def gV(b:Bool)(x:Option V):Option V:=Bool.rec (motive:=λ_=>Option V) (some .undef) x b
noncomputable def gH(b:Bool)(h:Hp)(x:Option (V×Hp)):Option (V×Hp):=Bool.rec (motive:=λ_=>Option (V×Hp)) (some (.undef,h)) x b
noncomputable def gC(b:Bool)(x:Option (Nat×List V)):Option (Option (Nat×List V)):=Bool.rec (motive:=λ_=>Option (Option (Nat×List V))) (some none) (oB x λy=>some (some y)) b
def yv(C:fe) (x:Option (Nat×List V)) (h:Hp) (K:V->Hp->Prop):Prop:=match x with
 |none=>K .undef h
 |some y=>cP C y.1 y.2 h K
def QR(C:fe) (o:Oper) (b:Bool) (K:V->fK->Hp->Prop) (ρ:fK) (h:Hp):Prop:=match cls o with
 |0=>oP (gV b ((gX o).f (.fn ρ []) h)) λv=>K v ρ h
 |1=>oP (gH b h (oB ((nD o).f (.fn ρ [])) λr=>some (r.2 h.next,h.new r.1))) λx=>K x.1 ρ x.2
 | _=>match tV o with
   |true=>oP (gC b (oB ((iC o).f (.fn ρ []) h) xj)) λx=>yv C x h λv h'=>K v ρ h'
   |false=>oP (gH b h (oB ((iC o).f (.fn ρ []) h) valOf)) λx=>K x.1 ρ x.2
def vO(C:fe) (n:Nat) (all:List Oper) (o:Oper) (K:fK->Hp->Prop):fK->Hp->Prop:=match tX o with
 |some _=>λ_ _=>False
 | none=>match ji n all o with
   |none=>JL C o (lZ n o K)
   |some g=>λρ h=>oP (g.f (.fn ρ [])) λb=>QR C o b (lZ n o K) ρ h
noncomputable def uP(C:fe) (n:Nat) (all:List Oper) (K:fK->Hp->Prop) (os:List Oper):fK->Hp->Prop:=List.rec (motive:=λ_=>fK->Hp->Prop) K (λo _ a=>vO C n all o a) os
theorem NB(C:fe)(n:Nat)(all:List Oper)(K:fK->Hp->Prop)(o:Oper)(os:List Oper):uP C n all K (o::os)=vO C n all o (uP C n all K os):=rfl
theorem FH{o:Oper} {K:fK->Hp->Prop} {v:V} (a:lZ n o K v ρ h):∃d,qt n o=some d/\∃b,d.f (.fn ρ []) v = .fn b []/\K b h:=by
 unfold lZ at a;unfold qt
 cases ho:o.dst with
 |none=>simp_all
 | some d=>
   rw[ho]at a;simp only at a⊢
   cases hb:Nat.blt d n with
   |true=>rw[hb]at a;exact⟨_,rfl,_,rfl,a⟩
   |false=>simp_all
def Up(C:fe)(o:Oper)(K:V->fK->Hp->Prop)(ρ:fK)(h:Hp):Prop:=∃m d v h',(xW o).f (jq C m d) (.fn ρ []) h=some (v,h')/\K v ρ h'
theorem QI{o:Oper} {K:V->fK->Hp->Prop} (c:Kr C o K ρ h):(∃v h',(iC o).f (.fn ρ []) h=some (.val v h')/\K v ρ h')\/∃f args,(iC o).f (.fn ρ []) h=some (.call f args)/\cP C f args h λv h'=>K v ρ h':=by
 unfold Kr at c;cases hb:tV o
 all_goals rw[hb]at c
 rotate_left
 ·obtain⟨x,a,d⟩:=jD.1 c;rw[ez]at a;obtain⟨r,e,b⟩:=a
  cases r with
  |val v h'=>cases b
  |call f args=>cases b;grind
 ·obtain⟨x,a,d⟩:=jD.1 c;rw[ez]at a;obtain⟨r,e,b⟩:=a
  cases r with
  |val v h'=>cases b;grind
  |call f args=>cases b
theorem G9{o:Oper} {K:V->fK->Hp->Prop} (b:JL C o K ρ h):Up C o K ρ h:=by
 by_cases hc0:cls o=0
 ·have a:oP ((gX o).f (.fn ρ []) h) (λv=>K v ρ h):=by unfold JL at b;rw[hc0]at b;exact b
  obtain⟨v,g,e⟩:=jD.1 a;exact⟨0,0,v,h,by simp_all[xW,oB],e⟩
 ·by_cases hc1:cls o=1
  ·have a:oP ((nD o).f (.fn ρ [])) (λr=>K (r.2 h.next) ρ (h.new r.1)):=by unfold JL at b;rw[hc1]at b;exact b
   obtain⟨r,g,e⟩:=jD.1 a;exact⟨0,0,_,_,by simp_all[xW,oB],e⟩
  ·have a:Kr C o K ρ h:=by
    unfold JL at b;generalize cls o=c at b hc0 hc1;rcases c with _|_|c
    ·omega
    ·omega
    ·exact b
   have i:∀call,(xW o).f call (.fn ρ []) h=oB ((iC o).f (.fn ρ []) h) λr=>match r with
     | .val v h=>some (v,h)
     | .call f args=>call f args h:=by
    intro call;unfold xW;split
    ·omega
    ·omega
    ·rfl
   rcases QI a with⟨v,h',g,e⟩|⟨f,args,g,v,h',⟨m,d,k⟩,j⟩
   ·exact⟨0,0,v,h',by simp_all[oB],e⟩
   ·exact⟨m,d,v,h',by simp_all[oB],j⟩
theorem T9{o:Oper} {b:Bool} {K:V->fK->Hp->Prop} (d:QR C o b K ρ h):(b=true/\Up C o K ρ h)\/(b=false/\K .undef ρ h):=by
 unfold QR at d;by_cases hc0:cls o=0
 ·rw[hc0]at d;obtain⟨v,a,g⟩:=jD.1 d
  cases b with
  |true=>exact .inl ⟨rfl,G9 (by unfold JL;rw[hc0];exact ec a g)⟩
  |false=>cases a;simp_all
 ·by_cases hc1:cls o=1
  ·rw[hc1]at d;obtain⟨v,a,g⟩:=jD.1 d
   cases b with
   | true=>
     obtain⟨r,j,i⟩:=ez.1 (show oB _ _=_ from a);cases i
     exact .inl ⟨rfl,by grind[G9,JL,ec]⟩
   |false=>cases a;simp_all
  ·have k:∀K,Kr C o K ρ h->JL C o K ρ h:=by
    intro K d;unfold JL;generalize cls o=c at hc0 hc1;rcases c with _|_|c
    ·omega
    ·omega
    ·exact d
   have e:(match tV o with
     |true=>oP (gC b (oB ((iC o).f (.fn ρ []) h) xj)) λx=>yv C x h λv h'=>K v ρ h'
     |false=>oP (gH b h (oB ((iC o).f (.fn ρ []) h) valOf)) λx=>K x.1 ρ x.2):=by
    generalize cls o=c at d hc0 hc1;rcases c with _|_|c
    ·omega
    ·omega
    ·exact d
   cases hi:tV o with
   | true=>
     rw[hi]at e;obtain⟨x,a,g⟩:=jD.1 e
     cases b with
     | true=>
       obtain⟨y,j,i⟩:=ez.1 (show oB _ _=_ from a);cases i
       exact .inl ⟨rfl,G9 (k _ (by unfold Kr;rw[hi];exact ec j g))⟩
     |false=>cases a;exact .inr ⟨rfl,g⟩
   | false=>
     rw[hi]at e;obtain⟨x,a,g⟩:=jD.1 e
     cases b with
     |true=>exact .inl ⟨rfl,G9 (k _ (by unfold Kr;rw[hi];exact ec a g))⟩
     |false=>cases a;simp_all
theorem Jw{m d a b:Nat} (c:m<=a) (hd:d<=b) {all os:List Oper} {t:Tm} {h:Hp} {r:Tm×Hp} (e:(jS n all os).f (jq C m d) t h=some r):(jS n all os).f (jq C a b) t h=some r:=
 yp (sr c hd) os e
theorem JF{all:List Oper} {K:fK->Hp->Prop}:∀(os:List Oper) {ρ:fK} {h:Hp},uP C n all K os ρ h->∃m d c h',(jS n all os).f (jq C m d) (.fn ρ []) h=some (.fn c [],h')/\K c h'
 |[],ρ,h,a=>⟨0,0,ρ,h,rfl,a⟩
 | o ::os,ρ,h,a=>by
   rw[NB]at a;unfold vO at a
   cases hq:tX o with
   |some q=>simp_all
   | none=>
     rw[hq]at a;simp only at a
     have p:∀{ρ h},Up C o (lZ n o (uP C n all K os)) ρ h->∃d,qt n o=some d/\∃m e v l,(xW o).f (jq C m e) (.fn ρ []) h=some (v,l)/\∃i,d.f (.fn ρ []) v = .fn i []/\
        ∃c h',(jS n all os).f (jq C m e) (.fn i []) l=some (.fn c [],h')/\K c h':=by
       intro ρ h a;obtain⟨m,e,v,l,u,A⟩:=a;obtain⟨d,s,i,t,w⟩:=FH A;obtain⟨x,y,c,h',z,j⟩:=JF os w;exact⟨d,s,max m x,max e y,v,l,Cj (by grind[sr,Ss]) u,i,t,c,h',by grind[Jw,UD],j⟩
     cases hw:ji n all o with
     | none=>
       rw[hw]at a;obtain⟨d,s,m,e,v,l,u,i,t,c,h',z,j⟩:=p (G9 a);refine⟨m,e,c,h',?_,j⟩
       simp_all[jS,zF,oB]
     | some g=>
       rw[hw]at a;obtain⟨b,B,a⟩:=jD.1 a;rcases T9 a with⟨r,k⟩|⟨r,k⟩ <;> subst r
       ·obtain⟨d,s,m,e,v,l,u,i,t,c,h',z,j⟩:=p k
        refine⟨m,e,c,h',?_,j⟩
        simp_all[jS,zF,oB]
       ·obtain⟨d,s,i,t,w⟩:=FH k
        obtain⟨x,y,c,h',z,j⟩:=JF os w;refine⟨x,y,c,h',?_,j⟩
        simp_all[jS,zF,oB]
theorem Wp.region{id:Nat} {ops:Array Oper} (a:uP C n ops.toList (λρ h=>Q .normal ρ h) ops.toList ρ h):Wp C n (.region id ops false) Q ρ h:=by
 obtain⟨m,d,b,h',e,c⟩:=JF _ a;exact⟨m,d,.normal,b,h',by simp_all[gL,oB],c⟩
end
section
variable{C:fe}{n:Nat}{Q:X->fK->Hp->Prop}{ρ:fK}{h:Hp}
def zb(h:Hp) (r:Rec):Prop:=match r.made with
 |none=>(gX r.it.o).f r.t h=some r.v
 |some (l,ob)=>h.get l=some ob/\O.beq ob ob=true
def rQ(k:Nat) (h:Hp):List (Bool×Rec)->Prop->Prop
 |[],K=>K
 |r::rs,K=>Bool.rec (motive:=λ_=>Prop) (Bool.rec (motive:=λ_=>Prop) True (zb h r.2) r.1/\rQ k h rs K) (rQ k h rs K) (Nat.blt r.2.last k)
def yr(rs:List (Bool×Rec)):List Rec:=(rs.filter (·.1)).map (·.2)
def Tx(C:fe) (n:Nat) (all:List Oper) (ws:List It) (a:It) (c:Nat->fK->Hp->List (Bool×Rec)->Prop) (k:Nat):fK->Hp->List (Bool×Rec)->Prop:=match cls a.o with
  | 0=>match ji n all a.o with
    |none=>λρ h rs=>oP ((gX a.o).f (.fn ρ []) h) λv=>lZ n a.o (λd h=>c k d h ((true,{it:=a,t:= .fn ρ [],v,made:=none,last:=late ws a})::rs)) v ρ h
    |some g=>λρ h rs=>oP (g.f (.fn ρ [])) λb=>oP (gV b ((gX a.o).f (.fn ρ []) h)) λv=>
       lZ n a.o (λd h=>c k d h ((b,{it:=a,t:= .fn ρ [],v,made:=none,last:=late ws a})::rs)) v ρ h
  | 1=>match ji n all a.o with
    |none=>λρ h rs=>oP ((nD a.o).f (.fn ρ [])) λr=>lZ n a.o (λd h'=>c k d h' ((true,{it:=a,t:= .fn ρ [],v:=r.2 h.next,made:=some (h.next,r.1),last:=late ws a})::rs)) (r.2 h.next) ρ (h.new r.1)
    |some _=>λ_ _ _=>False
  | _ =>match ji n all a.o with
    |none=>λρ h rs=>rQ k h rs (Kr C a.o (λv ρ h'=>h.next<=h'.next/\lZ n a.o (λρ h=>c (Nat.succ k) ρ h rs) v ρ h') ρ h)
    | some g=>match tV a.o with
      |true=>λρ h rs=>rQ k h rs (oP (g.f (.fn ρ [])) λb=>oP (gC b (oB ((iC a.o).f (.fn ρ []) h) xj)) λx=>yv C x h λv h'=>h.next<=h'.next/\lZ n a.o (λρ h=>c (Nat.succ k) ρ h rs) v ρ h')
      |false=>λ_ _ _=>False
noncomputable def BM(C:fe) (n:Nat) (all:List Oper) (ws:List It) (K:fK->Hp->Prop) (l:List It):Nat->fK->Hp->List (Bool×Rec)->Prop:=List.rec (motive:=λ_=>Nat->fK->Hp->List (Bool×Rec)->Prop) (λk ρ h rs=>rQ k h rs (K ρ h)) (λa _ b k=>Tx C n all ws a b k) l
theorem NJ(C:fe)(n:Nat)(all:List Oper)(ws:List It)(K:fK->Hp->Prop)(a:It)(l:List It)(k:Nat):BM C n all ws K (a::l) k=Tx C n all ws a (BM C n all ws K l) k:=rfl
theorem Cs{k:Nat}:∀{rs:List (Bool×Rec)} {K:Prop},rQ k h rs K->xm k h (yr rs)=true/\K
 |[],K,a=>⟨rfl,a⟩
 | (b,r)::rs,K,a=>by
   simp only[rQ]at a;have c:∀{K:Prop},rQ k h rs K->(b=true->(Nat.blt r.last k ||uN h r)=true)->xm k h (yr ((b,r)::rs))=true/\K:=by
     intro K a d;obtain⟨f,g⟩:=Cs a;refine⟨?_,g⟩
     cases b with
     |false=>exact f
     | true=>
       show xm k h (r::yr rs)=true;unfold xm;rw[Rr,d rfl,Bool.true_and];exact f
   cases d:Nat.blt r.last k with
   |true=>rw[d]at a;grind
   | false=>
     rw[d]at a;obtain⟨h0,a⟩:=a;refine c a (λe=>?_);subst e;rw[d,Bool.false_or]
     grind[zb,uN,V.Aq]
theorem Vs{b:Bool} {x:Option V} {v:V} (h:gV b x=some v):(b=true/\x=some v)\/(b=false/\v = .undef):=by
 cases b with
 |true=>exact .inl ⟨rfl,h⟩
 |false=>cases h;simp_all
theorem AJ{o:Oper} {d:DF} (hd:qt n o=some d) {K:fK->Hp->Prop} {v:V} (b:lZ n o K v ρ h):∃a,d.f (.fn ρ []) v = .fn a []/\K a h:=by
 grind[FH]
theorem Oe{m d a b:Nat} (c:m<=a) (hd:d<=b) {all:List Oper} {ws l:List It} {k:Nat} {t:Tm} {h:Hp} {rs:List Rec} {r:Tm×Hp} (e:(sy n all ws l k).f (jq C m d) t h rs=some r) :
  (sy n all ws l k).f (jq C a b) t h rs=some r:=uZ (sr c hd) l k e
theorem yV{all:List Oper} {ws:List It} {K:fK->Hp->Prop}:∀(l:List It) (k:Nat) {ρ:fK} {h:Hp} {rs:List (Bool×Rec)},BM C n all ws K l k ρ h rs->
  ∃m d j h',(sy n all ws l k).f (jq C m d) (.fn ρ []) h (yr rs)=some (.fn j [],h')/\K j h'
 | [],k,ρ,h,rs,e=>by
   obtain⟨u,w⟩:=Cs e
   exact⟨0,0,ρ,h,by simp_all[sy,bB],w⟩
 | a ::l,k,ρ,h,rs,e=>by
   have i:∀{K:fK->Hp->Prop} {v:V} {ρ:fK} {h:Hp},lZ n a.o K v ρ h->∃d,qt n a.o=some d:=by grind[FH]
   have z:∀{d},qt n a.o=some d->∀call t h rs,(sy n all ws (a::l) k).f call t h rs=(match cls a.o with
       |0=>Bz n all ws a d (sy n all ws l k)
       |1=>Aj n all ws a d (sy n all ws l k)
       |_=>wU n all k a d (sy n all ws l (Nat.succ k))).f call t h rs:=by
     intro d hd call t h rs
     conv=>lhs;unfold sy
     rw[hd];simp only;generalize cls a.o=c;rcases c with _|_|c <;> rfl
   have F:∀call t h,cls a.o≠0->cls a.o≠1->(xW a.o).f call t h=oB ((iC a.o).f t h) λr=>match r with
       | .val v h=>some (v,h)
       | .call f args=>call f args h:=by
     intro call t h h0 u;unfold xW;split
     ·omega
     ·omega
     ·rfl
   have G:∀t,ji n all a.o=none->mN n all a.o t=some true:=by grind[mN]
   have H:∀t g,ji n all a.o=some g->mN n all a.o t=g.f t:=by grind[mN]
   have step:∀{h:Hp} {ρ:fK} {rs:List (Bool×Rec)} {c:Nat},cls a.o=c+2->xm k h (yr rs)=true->mN n all a.o (.fn ρ [])=some true->
       Kr C a.o (λv ρ h'=>h.next<=h'.next/\lZ n a.o (λρ h=>BM C n all ws K l (Nat.succ k) ρ h rs) v ρ h') ρ h->
       ∃m d j h',(sy n all ws (a::l) k).f (jq C m d) (.fn ρ []) h (yr rs)=some (.fn j [],h')/\K j h':=by
     intro h ρ rs c hc q P e;have D:=λcall=>F call (.fn ρ []) h (by omega) (by omega);rcases QI e with⟨v,h',B,I,e⟩|⟨f,args,B,v,h',⟨m0,d0,M⟩,I,e⟩
     ·simp only[B,oB]at D
      obtain⟨d,hd⟩:=i e;obtain⟨J,u,e⟩:=AJ hd e;obtain⟨m,s,j,A,w,p⟩:=yV l _ e;exact⟨m,s,j,A,by simp_all[wU,bB,oB,OY],p⟩
     ·simp only[B,oB]at D
      obtain⟨d,hd⟩:=i e;obtain⟨J,u,e⟩:=AJ hd e;obtain⟨m,s,j,A,w,p⟩:=yV l _ e;refine⟨max m0 m,max d0 s,j,A,?_,p⟩;have L:=sr (C:=C) (Ss m0 m) (Ss d0 s) _ _ _ _ M;rw[z hd,hc];simp only[wU,q,bB,P,oB,D,L,u,OY I]
      grind[Oe,UD]
   have E:∀{h:Hp} {ρ:fK} {rs:List (Bool×Rec)} {c:Nat},cls a.o=c+2->xm k h (yr rs)=true->mN n all a.o (.fn ρ [])=some false->
       lZ n a.o (λρ h=>BM C n all ws K l (Nat.succ k) ρ h rs) .undef ρ h->
       ∃m d j h',(sy n all ws (a::l) k).f (jq C m d) (.fn ρ []) h (yr rs)=some (.fn j [],h')/\K j h':=by
     intro h ρ rs c hc q P e;obtain⟨d,hd⟩:=i e;obtain⟨J,u,e⟩:=AJ hd e;obtain⟨m,s,j,A,w,p⟩:=yV l _ e;exact⟨m,s,j,A,by simp_all[wU,bB,oB],p⟩
   rw[NJ]at e;unfold Tx at e;generalize hc:cls a.o=c at e;rcases c with _|_|c
   ·simp only at e
    cases hwc:ji n all a.o with
    | none=>
      rw[hwc]at e;obtain⟨v,B,e⟩:=jD.1 e;obtain⟨d,hd⟩:=i e;obtain⟨J,u,e⟩:=AJ hd e;obtain⟨m,s,j,h',w,p⟩:=yV l k e
      exact⟨m,s,j,h',by rw[z hd,hc];simp only[Bz,G _ hwc,B,oB,u];exact w,p⟩
    | some g=>
      rw[hwc]at e;obtain⟨b,N,e⟩:=jD.1 e;obtain⟨v,B,e⟩:=jD.1 e;obtain⟨d,hd⟩:=i e;obtain⟨J,u,e⟩:=AJ hd e;obtain⟨m,s,j,h',w,p⟩:=yV l k e;rcases Vs B with⟨e1,O⟩|⟨e1,e2⟩
      ·subst e1
       exact⟨m,s,j,h',by rw[z hd,hc];simp only[Bz,H _ _ hwc,N,O,oB,u];exact w,p⟩
      ·subst e1;subst e2
       exact⟨m,s,j,h',by rw[z hd,hc];simp only[Bz,H _ _ hwc,N,oB,u];exact w,p⟩
   ·simp only at e
    cases hwc:ji n all a.o with
    | none=>
      rw[hwc]at e;obtain⟨v,B,e⟩:=jD.1 e;obtain⟨d,hd⟩:=i e;obtain⟨J,u,e⟩:=AJ hd e;obtain⟨m,s,j,h',w,p⟩:=yV l k e
      exact⟨m,s,j,h',by rw[z hd,hc];simp only[Aj,G _ hwc,B,oB,u];exact w,p⟩
    |some g=>simp_all
   ·simp only at e
    cases hwc:ji n all a.o with
    | none=>
      rw[hwc]at e;obtain⟨q,e⟩:=Cs e
      simp_all
    | some g=>
      rw[hwc]at e;simp only at e
      cases hi:tV a.o with
      |false=>simp_all
      | true=>
        rw[hi]at e;obtain⟨q,e⟩:=Cs e;obtain⟨b,N,e⟩:=jD.1 e;obtain⟨x,Q,e⟩:=jD.1 e
        cases b with
        | true=>
          obtain⟨y,p,R⟩:=ez.1 (show oB _ _=_ from Q);cases R
          exact step hc q (by simp_all) (by unfold Kr;rw[hi];exact ec p e)
        | false=>
          cases Q;exact E hc q (by simp_all) e.2
noncomputable def sZ(all:List Oper):Bool:=IQ (items all 0 []) (gf (items all 0 []))&&rD (items all 0 []) (gf (items all 0 [])) (order (items all 0 []) (gf (items all 0 [])) (gf (items all 0 [])) 0) 0 0
noncomputable def MC(C:fe) (n:Nat) (all:List Oper) (K:fK->Hp->Prop) (ρ:fK) (h:Hp):Prop:=BM C n all (gf (items all 0 [])) K (order (items all 0 []) (gf (items all 0 [])) (gf (items all 0 [])) 0) 0 ρ h []
theorem Wp.draw{id:Nat} {ops:Array Oper} (a:sZ ops.toList=true) (b:MC C n ops.toList (λρ h=>Q .normal ρ h) ρ h):Wp C n (.region id ops true) Q ρ h:=by
 obtain⟨m,d,c,h',f,g⟩:=yV _ _ b;have e:yr []=[]:=rfl;rw[e]at f;refine⟨m,d,.normal,c,h',?_,g⟩
 simp_all[sZ,gL,FP,oB]
noncomputable def qb(C:fe) (n:Nat) (c:Code):(X->fK->Hp->Prop)->fK->Hp->Prop:=
 Code.rec (motive:=λ_=>(X->fK->Hp->Prop)->fK->Hp->Prop)
  (λQ=>Q .normal)
  (fun _ ops d Q=>match d with
   |false=>uP C n ops.toList (λρ h=>Q .normal ρ h) ops.toList
   | true=>match sZ ops.toList with
     |true=>MC C n ops.toList (λρ h=>Q .normal ρ h)
     |false=>λ_ _=>False)
  (λ_ b a _ Q=>a (andThen (Wp C n b Q) Q))
  (λc _ _ a e Q ρ h=>oP ((oO c).f (.fn ρ []) h) λv=>bP v (a Q ρ h) (e Q ρ h))
  (λid _ g Q=>g (vg id Q))
  (λc _ Q=>Wp C n (.loop c) Q)
  (λ_ _ _ _ _ _ _ _ _=>False)
  (λid Q=>Q (.exit id))
  (λ_ _ _ _ _=>False)
  (λ_ _ _ _=>False)
  (λ_ _ _ _=>False)
  (λQ=>Q .ret)
  (λ_ _ _ _=>False) c
theorem Wp.code:∀(c:Code) {Q:X->fK->Hp->Prop} {ρ:fK} {h:Hp},qb C n c Q ρ h->Wp C n c Q ρ h
 | .skip,_,_,_,d=> .skip d
 | .region _ ops false,_,_,_,d=> .region d
 | .region _ ops true,Q,ρ,h,d=>by
   have e:(match sZ ops.toList with
       |true=>MC C n ops.toList (λρ h=>Q .normal ρ h)
       |false=>λ_ _=>False) ρ h:=d
   cases hd:sZ ops.toList with
   |true=>simp_all[draw]
   |false=>simp_all
 | .seq a _,_,_,_,d=> .seq (Wp.code a d)
 | .cond c a b,_,_,_,d=>by
   obtain⟨v,f,d⟩:=jD.1 d;refine .cond (ec f ?_);unfold bP at d⊢;split at d
   ·rename_i x
    cases x with
    |true=>exact Wp.code a d
    |false=>exact Wp.code b d
   ·exact d.elim
 | .block id c,_,_,_,d=> .block (Wp.code c d)
 | .loop c,_,_,_,d=>d
 | .exit id,_,_,_,d=> .exit d
 | .ret,_,_,_,d=> .ret d
 | .rangeFunc ..,_,_,_,d=>d.elim
 | .scope _,_,_,_,d=>d.elim
 | .label _,_,_,_,d=>d.elim
 | .goto _,_,_,_,d=>d.elim
 | .refuse _,_,_,_,d=>d.elim
def St(l:List ResultVar)(Q:V->Hp->Prop)(ρ:fK)(h:Hp):Prop:=oP (ve (.fn ρ []) h l) λvs=>Q (uO vs) h
def ET(l:List ResultVar) (Q:V->Hp->Prop):X->fK->Hp->Prop
 | .exit _,_,_=>False
 |_,ρ,h=>St l Q ρ h
def GL(args:List V):fK:=λi=>(args[i]?).getD .undef
theorem cP.func(j:C.start=fQ) {f:Nat} {fn:Func} {c:Code} {args:List V} (k:P0.funcs[f]? =some fn) (l:fn.body=some c) (n:C.K f args h=none) (e:args.length<=fn.ntmps) {Q:V->Hp->Prop}
  (o:Wp C fn.ntmps c (ET fn.results.toList Q) (GL args) h):cP C f args h Q:=by
 obtain ⟨m,d,x,p,h',q,g⟩:=o;have a:St fn.results.toList Q p h'->(∀id,x≠ .exit id)->cP C f args h Q:=by
  intro r t;obtain⟨vs,u,s⟩:=jD.1 r;refine⟨_,_,⟨m,d+1,?_⟩,s⟩;show(zk C f).f (jq C m d) m args h=_;unfold zk;rw[k];simp only[l,n,QO,j];have b:Nat.ble args.length fn.ntmps=true:=OY e;have i:fQ args = .fn (GL args) []:=rfl;rw[i,b,q]
  cases x with
  |normal=>simp_all[bB,oB,Tm.ds,Hn]
  |ret=>simp_all[bB,oB,Tm.ds,Hn]
  |exit id=>simp_all
 cases x with
 |normal=>exact a g (by simp_all)
 |ret=>exact a g (by simp_all)
 |exit id=>exact g.elim
theorem cP.SX(b:C.start=fQ) {f:Nat} {fn:Func} {c:Code} {args:List V} {k:Nat} {rs:List ResultVar} (d:P0.funcs[f]? =some fn) (e:fn.body=some c) (g:fn.ntmps=k) (i:fn.results.toList=rs)
  (j:C.K f args h=none) (a:args.length<=k) {Q:V->Hp->Prop} (l:Wp C k c (ET rs Q) (GL args) h):cP C f args h Q:=by
 grind[cP.func]
theorem cP.known{f:Nat} {fn:Func} {c:Code} {args:List V} {v:V} (a:P0.funcs[f]? =some fn) (b:fn.body=some c) (d:C.K f args h=some v) (e:Ko args=true) (g:v.flat=true) {Q:V->Hp->Prop} (hq:Q v h):cP C f args h Q:=by
 refine⟨v,h,⟨0,1,?_⟩,hq⟩;show(zk C f).f _ _ args h=_
 simp_all[zk,QO,Bool.and_self,bB]
theorem cP.mono{f:Nat} {args:List V} {Q a:V->Hp->Prop} (hc:cP C f args h Q) (hq:∀v h,Q v h->a v h):cP C f args h a:=by
 obtain⟨v,h',b,c⟩:=hc;exact⟨v,h',b,hq _ _ c⟩
end
