/- Parts. -/
import Derived.Test.YtnehpeeglbgfpaaDoorM07
set_option maxHeartbeats 4000000
namespace Go.Proofs.YtnehpeeglbgfpaaDoor.Hx
abbrev fN:=Nat->V
def Ev(C:fg)(f:Nat)(args:List V)(h:Hp)(v:V)(h':Hp):Prop:=∃m d,jI C m d f args h=some (v,h')
inductive Wp (C:fg) (n:Nat) (c:Code) (Q:X->fN->Hp->Prop) (ρ:fN) (h:Hp):Prop
 |mk (b:∃m d x a h',(gS n c).f (jI C m d) m (.fn ρ []) h=some (x,.fn a [],h')/\Q x a h')
def oP{α:Type}(x:Option α)(k:α->Prop):Prop:=Option.rec (motive:=λ_=>Prop) False k x
theorem SO{α:Type}(a:α)(k:α->Prop):oP (some a) k=k a:=rfl
theorem jY{α:Type} {x:Option α} {k:α->Prop}:oP x k↔∃a,x=some a/\k a:=by
 cases x with
 |none=>grind[oP]
 |some a=>exact⟨λh=>⟨a,rfl,h⟩,λ⟨_,h,h'⟩=>by grind[oP]⟩
theorem ec{α:Type}{x:Option α}{k:α->Prop}{a:α}(h:x=some a)(h':k a):oP x k:=by subst h;exact h'
def cP(C:fg)(f:Nat)(args:List V)(h:Hp)(k:V->Hp->Prop):Prop:=∃v h',Ev C f args h v h'/\k v h'
def bP(v:V) (a b:Prop):Prop:=match v with
 | .bool x=>Bool.rec (motive:=λ_=>Prop) b a x
 |_=>False
theorem gL(x:Bool)(a b:Prop):bP (.bool x) a b=if x=true then a else b:=by cases x <;> rfl
section
variable{C:fg}{n:Nat}{Q:X->fN->Hp->Prop}{ρ:fN}{h:Hp}
theorem Wp.mono{c:Code} {a:X->fN->Hp->Prop} (b:Wp C n c Q ρ h) (hq:∀x ρ h,Q x ρ h->a x ρ h):Wp C n c a ρ h:=by
 obtain⟨m,d,x,e,h',f,g⟩:=b;exact⟨m,d,x,e,h',f,by simp_all⟩
theorem Wp.skip(hq:Q .normal ρ h):Wp C n .skip Q ρ h:=⟨0,0,.normal,ρ,h,rfl,hq⟩
theorem Wp.ret(hq:Q .ret ρ h):Wp C n .ret Q ρ h:=⟨0,0,.ret,ρ,h,rfl,hq⟩
theorem Wp.exit{id:Nat}(hq:Q (.exit id) ρ h):Wp C n (.exit id) Q ρ h:=⟨0,0,.exit id,ρ,h,rfl,hq⟩
def andThen(k:fN->Hp->Prop) (Q:X->fN->Hp->Prop):X->fN->Hp->Prop
 | .normal,ρ,h=>k ρ h
 |x,ρ,h=>Q x ρ h
theorem wK{m d a b:Nat} (e:m<=a) (hd:d<=b) {c:Code} {t:Tm} {h:Hp} {r:X×Tm×Hp} (g:(gS n c).f (jI C m d) m t h=some r):(gS n c).f (jI C a b) a t h=some r:=
 kZ (tF e hd) e c g
theorem Wp.seq{a b:Code} (i:Wp C n a (andThen (Wp C n b Q) Q) ρ h):Wp C n (.seq a b) Q ρ h:=by
 obtain⟨m,d,x,g,h',p,c⟩:=i
 cases x with
 | normal=>
   obtain⟨j,k,l,e,f,q,o⟩:=c;refine⟨max m j,max d k,l,e,f,?_,o⟩
   grind[gS,wK,WE,Az,WY]
 |exit id=>exact⟨m,d,.exit id,g,h',by grind[gS,Az],c⟩
 |ret=>exact⟨m,d,.ret,g,h',by grind[gS,Az],c⟩
theorem Wp.cond{e:Operand} {a b:Code} (c:oP ((pI e).f (.fn ρ []) h) λv=>bP v (Wp C n a Q ρ h) (Wp C n b Q ρ h)):Wp C n (.cond e a b) Q ρ h:=by
 obtain⟨v,k,c⟩:=jY.1 c;unfold bP at c;split at c
 ·rename_i x
  cases x with
  | true=>
    obtain⟨m,d,x,g,h',j,i⟩:=c
    exact⟨m,d,x,g,h',by grind[gS,eE],i⟩
  | false=>
    obtain⟨m,d,x,g,h',j,i⟩:=c;exact⟨m,d,x,g,h',by grind[gS,eE],i⟩
 simp_all
def pE(id:Nat) (Q:X->fN->Hp->Prop):X->fN->Hp->Prop
 | .exit i,ρ,h=>Bool.rec (motive:=λ_=>Prop) (Q (.exit i) ρ h) (Q .normal ρ h) (Nat.beq i id)
 |x,ρ,h=>Q x ρ h
theorem Wp.block{id:Nat} {c:Code} (e:Wp C n c (pE id Q) ρ h):Wp C n (.block id c) Q ρ h:=by
 obtain⟨m,d,x,b,h',f,a⟩:=e
 cases x with
 |normal=>exact⟨m,d,.normal,b,h',by grind[gS,EX],a⟩
 |ret=>exact⟨m,d,.ret,b,h',by grind[gS,EX],a⟩
 | exit i=>
   simp only[pE]at a
   cases hb:Nat.beq i id with
   |true=>rw[hb]at a;exact⟨m,d,.normal,b,h',by simp_all[gS,EX],a⟩
   |false=>rw[hb]at a;exact⟨m,d,.exit i,b,h',by simp_all[gS,EX],a⟩
theorem Wp.loop{c:Code} (g:uX n c=none) (z:Wp C n c (andThen (Wp C n (.loop c) Q) Q) ρ h):Wp C n (.loop c) Q ρ h:=by
 obtain⟨m,d,x,v,h',e,i⟩:=z
 cases x with
 | normal=>
   obtain⟨a,b,l,o,p,w,A⟩:=i;refine⟨max m a+1,max d b,l,o,p,?_,A⟩;have e1:=wK (C:=C) (n:=n) (GP (WE m a) (La _)) (WE d b) e;simp only[gS,g]at w⊢;show Az _ _=_;simp only[e1,Az]
   have q:∀(k k':Nat) (t:Tm) (h:Hp) (r:X×Tm×Hp),k<=k'->Bg (λt h=>(gS n c).f (jI C a b) a t h) k t h=some r->
       Bg (λt h=>(gS n c).f (jI C (max m a+1) (max d b)) (max m a+1) t h) k' t h=some r:=by
     intro k
     induction k with
     |zero=>intro k' t h r _ s;cases s
     | succ k B=>
       intro k' t h r F s;obtain⟨k',rfl⟩:∃j,k' = j+1:=⟨k'-1,by omega⟩
       have u:Az ((gS n c).f (jI C a b) a t h) (Bg (λt h=>(gS n c).f (jI C a b) a t h) k)=some r:=s;show Az ((gS n c).f (jI C (max m a+1) (max d b)) (max m a+1) t h) (Bg (λt h=>(gS n c).f (jI C (max m a+1) (max d b)) (max m a+1) t h) k')=some r
       have y:∀{r},(gS n c).f (jI C a b) a t h=some r->(gS n c).f (jI C (max m a+1) (max d b)) (max m a+1) t h=some r:=
         λD=>wK (by omega) (WY d b) D
       rcases Es u with⟨E,e,e1,e2⟩|⟨e1,e2⟩
       ·rw[y e1];exact B k' E e r (by omega) e2
       ·rw[y e1]
        obtain⟨l,t',h'⟩:=r
        cases l with
        |normal=>simp_all
        |exit id=>rfl
        |ret=>rfl
   exact q a (max m a) _ _ _ (WY m a) w
 | exit id=>
   refine⟨m+1,d,.exit id,v,h',?_,i⟩;have e1:=wK (C:=C) (n:=n) (La m) (jn d) e;simp only[gS,g];show Az _ _=_
   grind[Az]
 | ret=>
   refine⟨m+1,d,.ret,v,h',?_,i⟩;have e1:=wK (C:=C) (n:=n) (La m) (jn d) e;simp only[gS,g];show Az _ _=_
   grind[Az]
theorem Wp.fill{c:Code} {F:lF} (b:uX n c=some F) {x:X} {a:fN} {h':Hp} (d:Io F (.fn ρ []) h=some (x,.fn a [],h')) (hq:Q x a h'):Wp C n (.loop c) Q ρ h:=
 ⟨0,0,x,a,h',by simp only[gS,b];exact d,hq⟩
theorem Wp.QY{c:Code} (I:Nat->fN->Hp->Prop) (b:∀k ρ h,I k ρ h->Wp C n c (andThen (λa h'=>∃k',k' < k/\I k' a h') Q) ρ h) {k:Nat} (h0:I k ρ h) (d:uX n c=none:=by rfl):Wp C n (.loop c) Q ρ h:=by
 induction k using Nat.strongRecOn generalizing ρ h with
 | _ k e=>
   refine .loop d ((b k ρ h h0).mono λx a h' hq=>?_)
   cases x with
   |normal=>obtain⟨k',f,hi⟩:=hq;exact e k' f hi
   |exit id=>exact hq
   |ret=>exact hq
def mJ(n:Nat) (o:Oper) (K:fN->Hp->Prop):V->fN->Hp->Prop:=match o.dst with
 |none=>λ_ ρ h=>K ρ h
 | some d=>match Nat.blt d n with
   |true=>λv ρ h=>K (eC ρ d v) h
   |false=>λ_ _ _=>False
def valOf:R->Option (V×Hp)
 | .val v h=>some (v,h)
 | .call _ _=>none
def ye:R->Option (Nat×List V)
 | .call f args=>some (f,args)
 | .val _ _=>none
def uS(o:Oper):Bool:=match o.op with
 | .call c=>match c.callee with
   | .value _| .invoke _ _=>true
   | .builtin _=>false
 |_=>false
def Mc(C:fg) (o:Oper) (K:V->fN->Hp->Prop):fN->Hp->Prop:=match uS o with
 |true=>λρ h=>oP (oB ((iS o).f (.fn ρ []) h) ye) λx=>cP C x.1 x.2 h λv h'=>K v ρ h'
 |false=>λρ h=>oP (oB ((iS o).f (.fn ρ []) h) valOf) λx=>K x.1 ρ x.2
def K9(C:fg) (o:Oper) (K:V->fN->Hp->Prop):fN->Hp->Prop:=match cls o with
 |0=>λρ h=>oP ((il o).f (.fn ρ []) h) λv=>K v ρ h
 |1=>λρ h=>oP ((nA o).f (.fn ρ [])) λr=>K (r.2 h.next) ρ (h.new r.1)
 |_=>Mc C o K
noncomputable def gV(b:Bool)(x:Option V):Option V:=Bool.rec (motive:=λ_=>Option V) (some .undef) x b
noncomputable def gH(b:Bool)(h:Hp)(x:Option (V×Hp)):Option (V×Hp):=Bool.rec (motive:=λ_=>Option (V×Hp)) (some (.undef,h)) x b
noncomputable def gC(b:Bool)(x:Option (Nat×List V)):Option (Option (Nat×List V)):=Bool.rec (motive:=λ_=>Option (Option (Nat×List V))) (some none) (oB x λy=>some (some y)) b
def xa(C:fg) (x:Option (Nat×List V)) (h:Hp) (K:V->Hp->Prop):Prop:=match x with
 |none=>K .undef h
 |some y=>cP C y.1 y.2 h K
def SD(C:fg) (o:Oper) (b:Bool) (K:V->fN->Hp->Prop) (ρ:fN) (h:Hp):Prop:=match cls o with
 |0=>oP (gV b ((il o).f (.fn ρ []) h)) λv=>K v ρ h
 |1=>oP (gH b h (oB ((nA o).f (.fn ρ [])) λr=>some (r.2 h.next,h.new r.1))) λx=>K x.1 ρ x.2
 | _=>match uS o with
   |true=>oP (gC b (oB ((iS o).f (.fn ρ []) h) ye)) λx=>xa C x h λv h'=>K v ρ h'
   |false=>oP (gH b h (oB ((iS o).f (.fn ρ []) h) valOf)) λx=>K x.1 ρ x.2
def wL(C:fg) (n:Nat) (all:List Oper) (o:Oper) (K:fN->Hp->Prop):fN->Hp->Prop:=match uQ o with
 |some _=>λ_ _=>False
 | none=>match jB n all o with
   |none=>K9 C o (mJ n o K)
   |some g=>λρ h=>oP (g.f (.fn ρ [])) λb=>SD C o b (mJ n o K) ρ h
noncomputable def vU(C:fg) (n:Nat) (all:List Oper) (K:fN->Hp->Prop) (os:List Oper):fN->Hp->Prop:=List.rec (motive:=λ_=>fN->Hp->Prop) K (λo _ a=>wL C n all o a) os
theorem Pq(C:fg)(n:Nat)(all:List Oper)(K:fN->Hp->Prop)(o:Oper)(os:List Oper):vU C n all K (o::os)=wL C n all o (vU C n all K os):=rfl
theorem Hb{o:Oper} {K:fN->Hp->Prop} {v:V} (a:mJ n o K v ρ h):∃d,qV n o=some d/\∃b,d.f (.fn ρ []) v = .fn b []/\K b h:=by
 unfold mJ at a;unfold qV
 cases ho:o.dst with
 |none=>simp_all
 | some d=>
   rw[ho]at a;simp only at a⊢
   cases hb:Nat.blt d n with
   |true=>rw[hb]at a;exact⟨_,rfl,_,rfl,a⟩
   |false=>simp_all
def VZ(C:fg)(o:Oper)(K:V->fN->Hp->Prop)(ρ:fN)(h:Hp):Prop:=∃m d v h',(za o).f (jI C m d) (.fn ρ []) h=some (v,h')/\K v ρ h'
theorem Sb{o:Oper} {K:V->fN->Hp->Prop} (c:Mc C o K ρ h):(∃v h',(iS o).f (.fn ρ []) h=some (.val v h')/\K v ρ h')\/∃f args,(iS o).f (.fn ρ []) h=some (.call f args)/\cP C f args h λv h'=>K v ρ h':=by
 unfold Mc at c;cases hb:uS o
 all_goals rw[hb]at c
 rotate_left
 ·obtain⟨x,a,d⟩:=jY.1 c;rw[eE]at a;obtain⟨r,e,b⟩:=a
  cases r with
  |val v h'=>cases b
  |call f args=>cases b;grind
 ·obtain⟨x,a,d⟩:=jY.1 c;rw[eE]at a;obtain⟨r,e,b⟩:=a
  cases r with
  |val v h'=>cases b;grind
  |call f args=>cases b
theorem Iz{o:Oper} {K:V->fN->Hp->Prop} (b:K9 C o K ρ h):VZ C o K ρ h:=by
 by_cases hc0:cls o=0
 ·have a:oP ((il o).f (.fn ρ []) h) (λv=>K v ρ h):=by unfold K9 at b;rw[hc0]at b;exact b
  obtain⟨v,g,e⟩:=jY.1 a;exact⟨0,0,v,h,by simp_all[za,oB],e⟩
 ·by_cases hc1:cls o=1
  ·have a:oP ((nA o).f (.fn ρ [])) (λr=>K (r.2 h.next) ρ (h.new r.1)):=by unfold K9 at b;rw[hc1]at b;exact b
   obtain⟨r,g,e⟩:=jY.1 a;exact⟨0,0,_,_,by simp_all[za,oB],e⟩
  ·have a:Mc C o K ρ h:=by
    unfold K9 at b;generalize cls o=c at b hc0 hc1;rcases c with _|_|c
    ·omega
    ·omega
    ·exact b
   have i:∀call,(za o).f call (.fn ρ []) h=oB ((iS o).f (.fn ρ []) h) λr=>match r with
     | .val v h=>some (v,h)
     | .call f args=>call f args h:=by
    intro call;unfold za;split
    ·omega
    ·omega
    ·rfl
   rcases Sb a with⟨v,h',g,e⟩|⟨f,args,g,v,h',⟨m,d,k⟩,j⟩
   ·exact⟨0,0,v,h',by simp_all[oB],e⟩
   ·exact⟨m,d,v,h',by simp_all[oB],j⟩
theorem VF{o:Oper} {b:Bool} {K:V->fN->Hp->Prop} (d:SD C o b K ρ h):(b=true/\VZ C o K ρ h)\/(b=false/\K .undef ρ h):=by
 unfold SD at d;by_cases hc0:cls o=0
 ·rw[hc0]at d;obtain⟨v,a,g⟩:=jY.1 d
  cases b with
  |true=>exact .inl ⟨rfl,Iz (by unfold K9;rw[hc0];exact ec a g)⟩
  |false=>cases a;simp_all
 ·by_cases hc1:cls o=1
  ·rw[hc1]at d;obtain⟨v,a,g⟩:=jY.1 d
   cases b with
   | true=>
     obtain⟨r,j,i⟩:=eE.1 (show oB _ _=_ from a);cases i
     exact .inl ⟨rfl,by grind[Iz,K9,ec]⟩
   |false=>cases a;simp_all
  ·have k:∀K,Mc C o K ρ h->K9 C o K ρ h:=by
    intro K d;unfold K9;generalize cls o=c at hc0 hc1;rcases c with _|_|c
    ·omega
    ·omega
    ·exact d
   have e:(match uS o with
     |true=>oP (gC b (oB ((iS o).f (.fn ρ []) h) ye)) λx=>xa C x h λv h'=>K v ρ h'
     |false=>oP (gH b h (oB ((iS o).f (.fn ρ []) h) valOf)) λx=>K x.1 ρ x.2):=by
    generalize cls o=c at d hc0 hc1;rcases c with _|_|c
    ·omega
    ·omega
    ·exact d
   cases hi:uS o with
   | true=>
     rw[hi]at e;obtain⟨x,a,g⟩:=jY.1 e
     cases b with
     | true=>
       obtain⟨y,j,i⟩:=eE.1 (show oB _ _=_ from a);cases i
       exact .inl ⟨rfl,Iz (k _ (by unfold Mc;rw[hi];exact ec j g))⟩
     |false=>cases a;exact .inr ⟨rfl,g⟩
   | false=>
     rw[hi]at e;obtain⟨x,a,g⟩:=jY.1 e
     cases b with
     |true=>exact .inl ⟨rfl,Iz (k _ (by unfold Mc;rw[hi];exact ec a g))⟩
     |false=>cases a;simp_all
theorem KN{m d a b:Nat} (c:m<=a) (hd:d<=b) {all os:List Oper} {t:Tm} {h:Hp} {r:Tm×Hp} (e:(km n all os).f (jI C m d) t h=some r):(km n all os).f (jI C a b) t h=some r:=
 zZ (tF c hd) os e
theorem Kb{all:List Oper} {K:fN->Hp->Prop}:∀(os:List Oper) {ρ:fN} {h:Hp},vU C n all K os ρ h->∃m d c h',(km n all os).f (jI C m d) (.fn ρ []) h=some (.fn c [],h')/\K c h'
 |[],ρ,h,a=>⟨0,0,ρ,h,rfl,a⟩
 | o ::os,ρ,h,a=>by
   rw[Pq]at a;unfold wL at a
   cases hq:uQ o with
   |some q=>simp_all
   | none=>
     rw[hq]at a;simp only at a
     have p:∀{ρ h},VZ C o (mJ n o (vU C n all K os)) ρ h->∃d,qV n o=some d/\∃m e v l,(za o).f (jI C m e) (.fn ρ []) h=some (v,l)/\∃i,d.f (.fn ρ []) v = .fn i []/\
        ∃c h',(km n all os).f (jI C m e) (.fn i []) l=some (.fn c [],h')/\K c h':=by
       intro ρ h a;obtain⟨m,e,v,l,u,A⟩:=a;obtain⟨d,s,i,t,w⟩:=Hb A;obtain⟨x,y,c,h',z,j⟩:=Kb os w;exact⟨d,s,max m x,max e y,v,l,Ej (by grind[tF,WE]) u,i,t,c,h',by grind[KN,WY],j⟩
     cases hw:jB n all o with
     | none=>
       rw[hw]at a;obtain⟨d,s,m,e,v,l,u,i,t,c,h',z,j⟩:=p (Iz a);refine⟨m,e,c,h',?_,j⟩
       simp_all[km,By,oB]
     | some g=>
       rw[hw]at a;obtain⟨b,B,a⟩:=jY.1 a;rcases VF a with⟨r,k⟩|⟨r,k⟩ <;> subst r
       ·obtain⟨d,s,m,e,v,l,u,i,t,c,h',z,j⟩:=p k
        refine⟨m,e,c,h',?_,j⟩
        simp_all[km,By,oB]
       ·obtain⟨d,s,i,t,w⟩:=Hb k
        obtain⟨x,y,c,h',z,j⟩:=Kb os w;refine⟨x,y,c,h',?_,j⟩
        simp_all[km,By,oB]
theorem Wp.region{id:Nat} {ops:Array Oper} (a:vU C n ops.toList (λρ h=>Q .normal ρ h) ops.toList ρ h):Wp C n (.region id ops false) Q ρ h:=by
 obtain⟨m,d,b,h',e,c⟩:=Kb _ a;exact⟨m,d,.normal,b,h',by simp_all[gS,oB],c⟩
end
section
variable{C:fg}{n:Nat}{Q:X->fN->Hp->Prop}{ρ:fN}{h:Hp}
def Ap(h:Hp) (r:Rec):Prop:=match r.made with
 |none=>(il r.it.o).f r.t h=some r.v
 |some (l,ob)=>h.get l=some ob/\O.beq ob ob=true
def sX(k:Nat) (h:Hp):List (Bool×Rec)->Prop->Prop
 |[],K=>K
 |r::rs,K=>Bool.rec (motive:=λ_=>Prop) (Bool.rec (motive:=λ_=>Prop) True (Ap h r.2) r.1/\sX k h rs K) (sX k h rs K) (Nat.blt r.2.last k)
def zK(rs:List (Bool×Rec)):List Rec:=(rs.filter (·.1)).map (·.2)
def U9(C:fg) (n:Nat) (all:List Oper) (ws:List It) (a:It) (c:Nat->fN->Hp->List (Bool×Rec)->Prop) (k:Nat):fN->Hp->List (Bool×Rec)->Prop:=match cls a.o with
  | 0=>match jB n all a.o with
    |none=>λρ h rs=>oP ((il a.o).f (.fn ρ []) h) λv=>mJ n a.o (λd h=>c k d h ((true,{it:=a,t:= .fn ρ [],v,made:=none,last:=late ws a})::rs)) v ρ h
    |some g=>λρ h rs=>oP (g.f (.fn ρ [])) λb=>oP (gV b ((il a.o).f (.fn ρ []) h)) λv=>
       mJ n a.o (λd h=>c k d h ((b,{it:=a,t:= .fn ρ [],v,made:=none,last:=late ws a})::rs)) v ρ h
  | 1=>match jB n all a.o with
    |none=>λρ h rs=>oP ((nA a.o).f (.fn ρ [])) λr=>mJ n a.o (λd h'=>c k d h' ((true,{it:=a,t:= .fn ρ [],v:=r.2 h.next,made:=some (h.next,r.1),last:=late ws a})::rs)) (r.2 h.next) ρ (h.new r.1)
    |some _=>λ_ _ _=>False
  | _ =>match jB n all a.o with
    |none=>λρ h rs=>sX k h rs (Mc C a.o (λv ρ h'=>h.next<=h'.next/\mJ n a.o (λρ h=>c (Nat.succ k) ρ h rs) v ρ h') ρ h)
    | some g=>match uS a.o with
      |true=>λρ h rs=>sX k h rs (oP (g.f (.fn ρ [])) λb=>oP (gC b (oB ((iS a.o).f (.fn ρ []) h) ye)) λx=>xa C x h λv h'=>h.next<=h'.next/\mJ n a.o (λρ h=>c (Nat.succ k) ρ h rs) v ρ h')
      |false=>λ_ _ _=>False
noncomputable def Df(C:fg) (n:Nat) (all:List Oper) (ws:List It) (K:fN->Hp->Prop) (l:List It):Nat->fN->Hp->List (Bool×Rec)->Prop:=List.rec (motive:=λ_=>Nat->fN->Hp->List (Bool×Rec)->Prop) (λk ρ h rs=>sX k h rs (K ρ h)) (λa _ b k=>U9 C n all ws a b k) l
theorem PX(C:fg)(n:Nat)(all:List Oper)(ws:List It)(K:fN->Hp->Prop)(a:It)(l:List It)(k:Nat):Df C n all ws K (a::l) k=U9 C n all ws a (Df C n all ws K l) k:=rfl
theorem DH{k:Nat}:∀{rs:List (Bool×Rec)} {K:Prop},sX k h rs K->yb k h (zK rs)=true/\K
 |[],K,a=>⟨rfl,a⟩
 | (b,r)::rs,K,a=>by
   simp only[sX]at a;have c:∀{K:Prop},sX k h rs K->(b=true->(Nat.blt r.last k ||vS h r)=true)->yb k h (zK ((b,r)::rs))=true/\K:=by
     intro K a d;obtain⟨f,g⟩:=DH a;refine⟨?_,g⟩
     cases b with
     |false=>exact f
     | true=>
       show yb k h (r::zK rs)=true;unfold yb;rw[Th,d rfl,Bool.true_and];exact f
   cases d:Nat.blt r.last k with
   |true=>rw[d]at a;grind
   | false=>
     rw[d]at a;obtain⟨h0,a⟩:=a;refine c a (λe=>?_);subst e;rw[d,Bool.false_or]
     grind[Ap,vS,V.A4]
theorem Ys{b:Bool} {x:Option V} {v:V} (h:gV b x=some v):(b=true/\x=some v)\/(b=false/\v = .undef):=by
 cases b with
 |true=>exact .inl ⟨rfl,h⟩
 |false=>cases h;simp_all
theorem BN{o:Oper} {d:DF} (hd:qV n o=some d) {K:fN->Hp->Prop} {v:V} (b:mJ n o K v ρ h):∃a,d.f (.fn ρ []) v = .fn a []/\K a h:=by
 grind[Hb]
theorem Pv{m d a b:Nat} (c:m<=a) (hd:d<=b) {all:List Oper} {ws l:List It} {k:Nat} {t:Tm} {h:Hp} {rs:List Rec} {r:Tm×Hp} (e:(tq n all ws l k).f (jI C m d) t h rs=some r) :
  (tq n all ws l k).f (jI C a b) t h rs=some r:=wc (tF c hd) l k e
theorem zF{all:List Oper} {ws:List It} {K:fN->Hp->Prop}:∀(l:List It) (k:Nat) {ρ:fN} {h:Hp} {rs:List (Bool×Rec)},Df C n all ws K l k ρ h rs->
  ∃m d j h',(tq n all ws l k).f (jI C m d) (.fn ρ []) h (zK rs)=some (.fn j [],h')/\K j h'
 | [],k,ρ,h,rs,e=>by
   obtain⟨u,w⟩:=DH e
   exact⟨0,0,ρ,h,by simp_all[tq,bB],w⟩
 | a ::l,k,ρ,h,rs,e=>by
   have i:∀{K:fN->Hp->Prop} {v:V} {ρ:fN} {h:Hp},mJ n a.o K v ρ h->∃d,qV n a.o=some d:=by grind[Hb]
   have z:∀{d},qV n a.o=some d->∀call t h rs,(tq n all ws (a::l) k).f call t h rs=(match cls a.o with
       |0=>CH n all ws a d (tq n all ws l k)
       |1=>A7 n all ws a d (tq n all ws l k)
       |_=>yr n all k a d (tq n all ws l (Nat.succ k))).f call t h rs:=by
     intro d hd call t h rs
     conv=>lhs;unfold tq
     rw[hd];simp only;generalize cls a.o=c;rcases c with _|_|c <;> rfl
   have F:∀call t h,cls a.o≠0->cls a.o≠1->(za a.o).f call t h=oB ((iS a.o).f t h) λr=>match r with
       | .val v h=>some (v,h)
       | .call f args=>call f args h:=by
     intro call t h h0 u;unfold za;split
     ·omega
     ·omega
     ·rfl
   have G:∀t,jB n all a.o=none->mX n all a.o t=some true:=by grind[mX]
   have H:∀t g,jB n all a.o=some g->mX n all a.o t=g.f t:=by grind[mX]
   have step:∀{h:Hp} {ρ:fN} {rs:List (Bool×Rec)} {c:Nat},cls a.o=c+2->yb k h (zK rs)=true->mX n all a.o (.fn ρ [])=some true->
       Mc C a.o (λv ρ h'=>h.next<=h'.next/\mJ n a.o (λρ h=>Df C n all ws K l (Nat.succ k) ρ h rs) v ρ h') ρ h->
       ∃m d j h',(tq n all ws (a::l) k).f (jI C m d) (.fn ρ []) h (zK rs)=some (.fn j [],h')/\K j h':=by
     intro h ρ rs c hc q P e;have D:=λcall=>F call (.fn ρ []) h (by omega) (by omega);rcases Sb e with⟨v,h',B,I,e⟩|⟨f,args,B,v,h',⟨m0,d0,M⟩,I,e⟩
     ·simp only[B,oB]at D
      obtain⟨d,hd⟩:=i e;obtain⟨J,u,e⟩:=BN hd e;obtain⟨m,s,j,A,w,p⟩:=zF l _ e;exact⟨m,s,j,A,by simp_all[yr,bB,oB,RK],p⟩
     ·simp only[B,oB]at D
      obtain⟨d,hd⟩:=i e;obtain⟨J,u,e⟩:=BN hd e;obtain⟨m,s,j,A,w,p⟩:=zF l _ e;refine⟨max m0 m,max d0 s,j,A,?_,p⟩;have L:=tF (C:=C) (WE m0 m) (WE d0 s) _ _ _ _ M;rw[z hd,hc];simp only[yr,q,bB,P,oB,D,L,u,RK I]
      grind[Pv,WY]
   have E:∀{h:Hp} {ρ:fN} {rs:List (Bool×Rec)} {c:Nat},cls a.o=c+2->yb k h (zK rs)=true->mX n all a.o (.fn ρ [])=some false->
       mJ n a.o (λρ h=>Df C n all ws K l (Nat.succ k) ρ h rs) .undef ρ h->
       ∃m d j h',(tq n all ws (a::l) k).f (jI C m d) (.fn ρ []) h (zK rs)=some (.fn j [],h')/\K j h':=by
     intro h ρ rs c hc q P e;obtain⟨d,hd⟩:=i e;obtain⟨J,u,e⟩:=BN hd e;obtain⟨m,s,j,A,w,p⟩:=zF l _ e;exact⟨m,s,j,A,by simp_all[yr,bB,oB],p⟩
   rw[PX]at e;unfold U9 at e;generalize hc:cls a.o=c at e;rcases c with _|_|c
   ·simp only at e
    cases hwc:jB n all a.o with
    | none=>
      rw[hwc]at e;obtain⟨v,B,e⟩:=jY.1 e;obtain⟨d,hd⟩:=i e;obtain⟨J,u,e⟩:=BN hd e;obtain⟨m,s,j,h',w,p⟩:=zF l k e
      exact⟨m,s,j,h',by rw[z hd,hc];simp only[CH,G _ hwc,B,oB,u];exact w,p⟩
    | some g=>
      rw[hwc]at e;obtain⟨b,N,e⟩:=jY.1 e;obtain⟨v,B,e⟩:=jY.1 e;obtain⟨d,hd⟩:=i e;obtain⟨J,u,e⟩:=BN hd e;obtain⟨m,s,j,h',w,p⟩:=zF l k e;rcases Ys B with⟨e1,O⟩|⟨e1,e2⟩
      ·subst e1
       exact⟨m,s,j,h',by rw[z hd,hc];simp only[CH,H _ _ hwc,N,O,oB,u];exact w,p⟩
      ·subst e1;subst e2
       exact⟨m,s,j,h',by rw[z hd,hc];simp only[CH,H _ _ hwc,N,oB,u];exact w,p⟩
   ·simp only at e
    cases hwc:jB n all a.o with
    | none=>
      rw[hwc]at e;obtain⟨v,B,e⟩:=jY.1 e;obtain⟨d,hd⟩:=i e;obtain⟨J,u,e⟩:=BN hd e;obtain⟨m,s,j,h',w,p⟩:=zF l k e
      exact⟨m,s,j,h',by rw[z hd,hc];simp only[A7,G _ hwc,B,oB,u];exact w,p⟩
    |some g=>simp_all
   ·simp only at e
    cases hwc:jB n all a.o with
    | none=>
      rw[hwc]at e;obtain⟨q,e⟩:=DH e
      simp_all
    | some g=>
      rw[hwc]at e;simp only at e
      cases hi:uS a.o with
      |false=>simp_all
      | true=>
        rw[hi]at e;obtain⟨q,e⟩:=DH e;obtain⟨b,N,e⟩:=jY.1 e;obtain⟨x,Q,e⟩:=jY.1 e
        cases b with
        | true=>
          obtain⟨y,p,R⟩:=eE.1 (show oB _ _=_ from Q);cases R
          exact step hc q (by simp_all) (by unfold Mc;rw[hi];exact ec p e)
        | false=>
          cases Q;exact E hc q (by simp_all) e.2
noncomputable def ua(all:List Oper):Bool:=J9 (items all 0 []) (gj (items all 0 []))&&qX (items all 0 []) (gj (items all 0 [])) (order (items all 0 []) (gj (items all 0 [])) (gj (items all 0 [])) 0) 0 0
noncomputable def N6(C:fg) (n:Nat) (all:List Oper) (K:fN->Hp->Prop) (ρ:fN) (h:Hp):Prop:=Df C n all (gj (items all 0 [])) K (order (items all 0 []) (gj (items all 0 [])) (gj (items all 0 [])) 0) 0 ρ h []
theorem Wp.draw{id:Nat} {ops:Array Oper} (a:ua ops.toList=true) (b:N6 C n ops.toList (λρ h=>Q .normal ρ h) ρ h):Wp C n (.region id ops true) Q ρ h:=by
 obtain⟨m,d,c,h',f,g⟩:=zF _ _ b;have e:zK []=[]:=rfl;rw[e]at f;refine⟨m,d,.normal,c,h',?_,g⟩
 simp_all[ua,gS,Ik,oB]
noncomputable def iE(C:fg) (n:Nat) (c:Code):(X->fN->Hp->Prop)->fN->Hp->Prop:=
 Code.rec (motive:=λ_=>(X->fN->Hp->Prop)->fN->Hp->Prop)
  (λQ=>Q .normal)
  (fun _ ops d Q=>match d with
   |false=>vU C n ops.toList (λρ h=>Q .normal ρ h) ops.toList
   | true=>match ua ops.toList with
     |true=>N6 C n ops.toList (λρ h=>Q .normal ρ h)
     |false=>λ_ _=>False)
  (λ_ b a _ Q=>a (andThen (Wp C n b Q) Q))
  (λc _ _ a e Q ρ h=>oP ((pI c).f (.fn ρ []) h) λv=>bP v (a Q ρ h) (e Q ρ h))
  (λid _ g Q=>g (pE id Q))
  (λc _ Q=>Wp C n (.loop c) Q)
  (λ_ _ _ _ _ _ _ _ _=>False)
  (λid Q=>Q (.exit id))
  (λ_ _ _ _ _=>False)
  (λ_ _ _ _=>False)
  (λ_ _ _ _=>False)
  (λQ=>Q .ret)
  (λ_ _ _ _=>False) c
theorem Wp.code:∀(c:Code) {Q:X->fN->Hp->Prop} {ρ:fN} {h:Hp},iE C n c Q ρ h->Wp C n c Q ρ h
 | .skip,_,_,_,d=> .skip d
 | .region _ ops false,_,_,_,d=> .region d
 | .region _ ops true,Q,ρ,h,d=>by
   have e:(match ua ops.toList with
       |true=>N6 C n ops.toList (λρ h=>Q .normal ρ h)
       |false=>λ_ _=>False) ρ h:=d
   cases hd:ua ops.toList with
   |true=>simp_all[draw]
   |false=>simp_all
 | .seq a _,_,_,_,d=> .seq (Wp.code a d)
 | .cond c a b,_,_,_,d=>by
   obtain⟨v,f,d⟩:=jY.1 d;refine .cond (ec f ?_);unfold bP at d⊢;split at d
   ·rename_i x
    cases x with
    |true=>exact Wp.code a d
    |false=>exact Wp.code b d
   ·exact d.elim
 | .block id c,_,_,_,d=> .block (Wp.code c d)
 | .loop c,_,_,_,d=>d
 | .exit id,_,_,_,d=> .exit d
 | .ret,_,_,_,d=> .ret d
 | .rangeFunc ..,_,_,_,d=>d.elim
 | .scope _,_,_,_,d=>d.elim
 | .label _,_,_,_,d=>d.elim
 | .goto _,_,_,_,d=>d.elim
 | .refuse _,_,_,_,d=>d.elim
def SY(l:List ResultVar)(Q:V->Hp->Prop)(ρ:fN)(h:Hp):Prop:=oP (wX (.fn ρ []) h l) λvs=>Q (vT vs) h
def yM(l:List ResultVar) (Q:V->Hp->Prop):X->fN->Hp->Prop
 | .exit _,_,_=>False
 |_,ρ,h=>SY l Q ρ h
def GA(args:List V):fN:=λi=>(args[i]?).getD .undef
theorem cP.func(j:C.start=fT) {f:Nat} {fn:Func} {c:Code} {args:List V} (k:P0.funcs[f]? =some fn) (l:fn.body=some c) (n:C.K f args h=none) (e:args.length<=fn.ntmps) {Q:V->Hp->Prop}
  (o:Wp C fn.ntmps c (yM fn.results.toList Q) (GA args) h):cP C f args h Q:=by
 obtain ⟨m,d,x,p,h',q,g⟩:=o;have a:SY fn.results.toList Q p h'->(∀id,x≠ .exit id)->cP C f args h Q:=by
  intro r t;obtain⟨vs,u,s⟩:=jY.1 r;refine⟨_,_,⟨m,d+1,?_⟩,s⟩;show(Ah C f).f (jI C m d) m args h=_;unfold Ah;rw[k];simp only[l,n,Sw,j];have b:Nat.ble args.length fn.ntmps=true:=RK e;have i:fT args = .fn (GA args) []:=rfl;rw[i,b,q]
  cases x with
  |normal=>simp_all[bB,oB,Tm.ds,IS]
  |ret=>simp_all[bB,oB,Tm.ds,IS]
  |exit id=>simp_all
 cases x with
 |normal=>exact a g (by simp_all)
 |ret=>exact a g (by simp_all)
 |exit id=>exact g.elim
theorem cP.RN(b:C.start=fT) {f:Nat} {fn:Func} {c:Code} {args:List V} {k:Nat} {rs:List ResultVar} (d:P0.funcs[f]? =some fn) (e:fn.body=some c) (g:fn.ntmps=k) (i:fn.results.toList=rs)
  (j:C.K f args h=none) (a:args.length<=k) {Q:V->Hp->Prop} (l:Wp C k c (yM rs Q) (GA args) h):cP C f args h Q:=by
 grind[cP.func]
theorem cP.known{f:Nat} {fn:Func} {c:Code} {args:List V} {v:V} (a:P0.funcs[f]? =some fn) (b:fn.body=some c) (d:C.K f args h=some v) (e:MF args=true) (g:v.flat=true) {Q:V->Hp->Prop} (hq:Q v h):cP C f args h Q:=by
 refine⟨v,h,⟨0,1,?_⟩,hq⟩;show(Ah C f).f _ _ args h=_
 simp_all[Ah,Sw,Bool.and_self,bB]
theorem cP.mono{f:Nat} {args:List V} {Q a:V->Hp->Prop} (hc:cP C f args h Q) (hq:∀v h,Q v h->a v h):cP C f args h a:=by
 obtain⟨v,h',b,c⟩:=hc;exact⟨v,h',b,hq _ _ c⟩
end
