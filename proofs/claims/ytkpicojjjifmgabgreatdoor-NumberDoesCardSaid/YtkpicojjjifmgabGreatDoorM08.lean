/- Parts. -/
import Derived.Test.YtkpicojjjifmgabGreatDoorM07
set_option maxHeartbeats 4000000
namespace Go.Proofs.YtkpicojjjifmgabGreatDoor.Hx
abbrev gO:=Nat->V
def Ev(C:fu)(f:Nat)(args:List V)(h:Hp)(v:V)(h':Hp):Prop:=∃m d,kU C m d f args h=some (v,h')
inductive Wp (C:fu) (n:Nat) (c:Code) (Q:X->gO->Hp->Prop) (ρ:gO) (h:Hp):Prop
 |mk (b:∃m d x a h',(iM n c).f (kU C m d) m (.fn ρ []) h=some (x,.fn a [],h')/\Q x a h')
def oP{α:Type}(x:Option α)(k:α->Prop):Prop:=Option.rec (motive:=λ_=>Prop) False k x
theorem VQ{α:Type}(a:α)(k:α->Prop):oP (some a) k=k a:=rfl
theorem lL{α:Type} {x:Option α} {k:α->Prop}:oP x k↔∃a,x=some a/\k a:=by
 cases x with
 |none=>grind[oP]
 |some a=>exact⟨λh=>⟨a,rfl,h⟩,λ⟨_,h,h'⟩=>by grind[oP]⟩
theorem eh{α:Type}{x:Option α}{k:α->Prop}{a:α}(h:x=some a)(h':k a):oP x k:=by subst h;exact h'
def cP(C:fu)(f:Nat)(args:List V)(h:Hp)(k:V->Hp->Prop):Prop:=∃v h',Ev C f args h v h'/\k v h'
def bP(v:V) (a b:Prop):Prop:=match v with
 | .bool x=>Bool.rec (motive:=λ_=>Prop) b a x
 |_=>False
theorem iD(x:Bool)(a b:Prop):bP (.bool x) a b=if x=true then a else b:=by cases x <;> rfl
section
variable{C:fu}{n:Nat}{Q:X->gO->Hp->Prop}{ρ:gO}{h:Hp}
theorem Wp.mono{c:Code} {a:X->gO->Hp->Prop} (b:Wp C n c Q ρ h) (hq:∀x ρ h,Q x ρ h->a x ρ h):Wp C n c a ρ h:=by
 obtain⟨m,d,x,e,h',f,g⟩:=b;exact⟨m,d,x,e,h',f,by simp_all⟩
theorem Wp.skip(hq:Q .normal ρ h):Wp C n .skip Q ρ h:=⟨0,0,.normal,ρ,h,rfl,hq⟩
theorem Wp.ret(hq:Q .ret ρ h):Wp C n .ret Q ρ h:=⟨0,0,.ret,ρ,h,rfl,hq⟩
theorem Wp.exit{id:Nat}(hq:Q (.exit id) ρ h):Wp C n (.exit id) Q ρ h:=⟨0,0,.exit id,ρ,h,rfl,hq⟩
def andThen(k:gO->Hp->Prop) (Q:X->gO->Hp->Prop):X->gO->Hp->Prop
 | .normal,ρ,h=>k ρ h
 |x,ρ,h=>Q x ρ h
theorem AR{m d a b:Nat} (e:m<=a) (g:d<=b) {c:Code} {t:Tm} {h:Hp} {r:X×Tm×Hp} (hv:(iM n c).f (kU C m d) m t h=some r):(iM n c).f (kU C a b) a t h=some r:=
 nB (yO e g) e c hv
theorem Wp.seq{a b:Code} (i:Wp C n a (andThen (Wp C n b Q) Q) ρ h):Wp C n (.seq a b) Q ρ h:=by
 obtain⟨m,d,x,g,h',p,c⟩:=i
 cases x with
 | normal=>
   obtain⟨j,k,l,e,f,q,o⟩:=c;refine⟨max m j,max d k,l,e,f,?_,o⟩
   grind[iM,AR,wB1,Gb,Nat.le_max_right]
 |exit id=>exact⟨m,d,.exit id,g,h',by grind[iM,Gb],c⟩
 |ret=>exact⟨m,d,.ret,g,h',by grind[iM,Gb],c⟩
theorem Wp.cond{e:Operand} {a b:Code} (c:oP ((ud e).f (.fn ρ []) h) λv=>bP v (Wp C n a Q ρ h) (Wp C n b Q ρ h)):Wp C n (.cond e a b) Q ρ h:=by
 obtain⟨v,hv,c⟩:=lL.1 c;unfold bP at c;split at c
 ·rename_i x
  cases x with
  | true=>
    obtain⟨m,d,x,g,h',j,i⟩:=c
    exact⟨m,d,x,g,h',by grind[iM,fy],i⟩
  | false=>
    obtain⟨m,d,x,g,h',j,i⟩:=c;exact⟨m,d,x,g,h',by grind[iM,fy],i⟩
 simp_all
def xU(id:Nat) (Q:X->gO->Hp->Prop):X->gO->Hp->Prop
 | .exit i,ρ,h=>Bool.rec (motive:=λ_=>Prop) (Q (.exit i) ρ h) (Q .normal ρ h) (Nat.beq i id)
 |x,ρ,h=>Q x ρ h
theorem Wp.block{id:Nat} {c:Code} (e:Wp C n c (xU id Q) ρ h):Wp C n (.block id c) Q ρ h:=by
 obtain⟨m,d,x,b,h',f,a⟩:=e
 cases x with
 |normal=>exact⟨m,d,.normal,b,h',by grind[iM,Lp],a⟩
 |ret=>exact⟨m,d,.ret,b,h',by grind[iM,Lp],a⟩
 | exit i=>
   simp only[xU]at a
   cases hb:Nat.beq i id with
   |true=>rw[hb]at a;exact⟨m,d,.normal,b,h',by simp_all[iM,Lp],a⟩
   |false=>rw[hb]at a;exact⟨m,d,.exit i,b,h',by simp_all[iM,Lp],a⟩
theorem Wp.loop{c:Code} (z:Wp C n c (andThen (Wp C n (.loop c) Q) Q) ρ h):Wp C n (.loop c) Q ρ h:=by
 obtain⟨m,d,x,p,h',g,q⟩:=z
 cases x with
 | normal=>
   obtain⟨a,b,o,i,l,s,A⟩:=q;refine⟨max m a+1,max d b,o,i,l,?_,A⟩;have e:=AR (C:=C) (n:=n) (KG (wB1 m a) (OK _)) (wB1 d b) g;simp only[iM]at s⊢;show Gb _ _=_;simp only[e,Gb];have F:(iM n (.loop c)).f (kU C a b) a (.fn p []) h' = some (o,.fn i [],l):=s
   have u:∀(k k':Nat) (t:Tm) (h:Hp) (r:X×Tm×Hp),k<=k'->Gn (λt h=>(iM n c).f (kU C a b) a t h) k t h=some r->
       Gn (λt h=>(iM n c).f (kU C (max m a+1) (max d b)) (max m a+1) t h) k' t h=some r:=by
     intro k
     induction k with
     |zero=>intro k' t h r _ hv;cases hv
     | succ k B=>
       intro k' t h r G hv;obtain⟨k',rfl⟩:∃j,k' = j+1:=⟨k'-1,by omega⟩
       have v:Gb ((iM n c).f (kU C a b) a t h) (Gn (λt h=>(iM n c).f (kU C a b) a t h) k)=some r:=hv;show Gb ((iM n c).f (kU C (max m a+1) (max d b)) (max m a+1) t h) (Gn (λt h=>(iM n c).f (kU C (max m a+1) (max d b)) (max m a+1) t h) k')=some r
       have w:∀{r},(iM n c).f (kU C a b) a t h=some r->(iM n c).f (kU C (max m a+1) (max d b)) (max m a+1) t h=some r:=
         λD=>AR (by omega) (Nat.le_max_right d b) D
       rcases Kt v with⟨E,g,e,y⟩|⟨e,y⟩
       ·rw[w e];exact B k' E g r (by omega) y
       ·rw[w e]
        obtain⟨o,t',h'⟩:=r
        cases o with
        |normal=>simp_all
        |exit id=>rfl
        |ret=>rfl
   exact u a (max m a) _ _ _ (Nat.le_max_right m a) s
 | exit id=>
   refine⟨m+1,d,.exit id,p,h',?_,q⟩;have e:=AR (C:=C) (n:=n) (OK m) (jO d) g;simp only[iM];show Gb _ _=_
   grind[Gb]
 | ret=>
   refine⟨m+1,d,.ret,p,h',?_,q⟩;have e:=AR (C:=C) (n:=n) (OK m) (jO d) g;simp only[iM];show Gb _ _=_
   grind[Gb]
theorem Wp.zbP{c:Code} (I:Nat->gO->Hp->Prop) (b:∀k ρ h,I k ρ h->Wp C n c (andThen (λa h'=>∃k',k' < k/\I k' a h') Q) ρ h) {k:Nat} (h0:I k ρ h):Wp C n (.loop c) Q ρ h:=by
 induction k using Nat.strongRecOn generalizing ρ h with
 | _ k d=>
   refine .loop ((b k ρ h h0).mono λx a h' hq=>?_)
   cases x with
   |normal=>obtain⟨k',e,hi⟩:=hq;exact d k' e hi
   |exit id=>exact hq
   |ret=>exact hq
def p7(n:Nat) (o:Oper) (K:gO->Hp->Prop):V->gO->Hp->Prop:=match o.dst with
 |none=>λ_ ρ h=>K ρ h
 | some d=>match Nat.blt d n with
   |true=>λv ρ h=>K (fx ρ d v) h
   |false=>λ_ _ _=>False
def valOf:R->Option (V×Hp)
 | .val v h=>some (v,h)
 | .call _ _=>none
def JC:R->Option (Nat×List V)
 | .call f args=>some (f,args)
 | .val _ _=>none
def zP(o:Oper):Bool:=match o.op with
 | .call c=>match c.callee with
   | .value _| .invoke _ _=>true
   | .builtin _=>false
 |_=>false
def RU(C:fu) (o:Oper) (K:V->gO->Hp->Prop):gO->Hp->Prop:=match zP o with
 |true=>λρ h=>oP (oB ((kO o).f (.fn ρ []) h) JC) λx=>cP C x.1 x.2 h λv h'=>K v ρ h'
 |false=>λρ h=>oP (oB ((kO o).f (.fn ρ []) h) valOf) λx=>K x.1 ρ x.2
def Ro(C:fu) (o:Oper) (K:V->gO->Hp->Prop):gO->Hp->Prop:=match cls o with
 |0=>λρ h=>oP ((jb o).f (.fn ρ []) h) λv=>K v ρ h
 |1=>λρ h=>oP ((rj o).f (.fn ρ [])) λr=>K (r.2 h.next) ρ (h.new r.1)
 |_=>RU C o K
noncomputable def gV(b:Bool)(x:Option V):Option V:=Bool.rec (motive:=λ_=>Option V) (some .undef) x b
noncomputable def gH(b:Bool)(h:Hp)(x:Option (V×Hp)):Option (V×Hp):=Bool.rec (motive:=λ_=>Option (V×Hp)) (some (.undef,h)) x b
noncomputable def gC(b:Bool)(x:Option (Nat×List V)):Option (Option (Nat×List V)):=Bool.rec (motive:=λ_=>Option (Option (Nat×List V))) (some none) (oB x λy=>some (some y)) b
def qP(C:fu) (x:Option (Nat×List V)) (h:Hp) (K:V->Hp->Prop):Prop:=match x with
 |none=>K .undef h
 |some y=>cP C y.1 y.2 h K
def ZU(C:fu) (o:Oper) (b:Bool) (K:V->gO->Hp->Prop) (ρ:gO) (h:Hp):Prop:=match cls o with
 |0=>oP (gV b ((jb o).f (.fn ρ []) h)) λv=>K v ρ h
 |1=>oP (gH b h (oB ((rj o).f (.fn ρ [])) λr=>some (r.2 h.next,h.new r.1))) λx=>K x.1 ρ x.2
 | _=>match zP o with
   |true=>oP (gC b (oB ((kO o).f (.fn ρ []) h) JC)) λx=>qP C x h λv h'=>K v ρ h'
   |false=>oP (gH b h (oB ((kO o).f (.fn ρ []) h) valOf)) λx=>K x.1 ρ x.2
def Bo(C:fu) (n:Nat) (all:List Oper) (o:Oper) (K:gO->Hp->Prop):gO->Hp->Prop:=match Bu o with
 |some _=>λ_ _=>False
 | none=>match lP n all o with
   |none=>Ro C o (p7 n o K)
   |some g=>λρ h=>oP (g.f (.fn ρ [])) λb=>ZU C o b (p7 n o K) ρ h
noncomputable def AE(C:fu) (n:Nat) (all:List Oper) (K:gO->Hp->Prop) (os:List Oper):gO->Hp->Prop:=List.rec (motive:=λ_=>gO->Hp->Prop) K (λo _ a=>Bo C n all o a) os
theorem Xa(C:fu)(n:Nat)(all:List Oper)(K:gO->Hp->Prop)(o:Oper)(os:List Oper):AE C n all K (o::os)=Bo C n all o (AE C n all K os):=rfl
theorem ME{o:Oper} {K:gO->Hp->Prop} {v:V} (a:p7 n o K v ρ h):∃d,zT n o=some d/\∃b,d.f (.fn ρ []) v = .fn b []/\K b h:=by
 unfold p7 at a;unfold zT
 cases ho:o.dst with
 |none=>simp_all
 | some d=>
   rw[ho]at a;simp only at a⊢
   cases hb:Nat.blt d n with
   |true=>rw[hb]at a;exact⟨_,rfl,_,rfl,a⟩
   |false=>simp_all
def zdj(C:fu)(o:Oper)(K:V->gO->Hp->Prop)(ρ:gO)(h:Hp):Prop:=∃m d v h',(Ji o).f (kU C m d) (.fn ρ []) h=some (v,h')/\K v ρ h'
theorem XS{o:Oper} {K:V->gO->Hp->Prop} (c:RU C o K ρ h):(∃v h',(kO o).f (.fn ρ []) h=some (.val v h')/\K v ρ h')\/∃f args,(kO o).f (.fn ρ []) h=some (.call f args)/\cP C f args h λv h'=>K v ρ h':=by
 unfold RU at c;cases hb:zP o
 all_goals rw[hb]at c
 rotate_left
 ·obtain⟨x,a,d⟩:=lL.1 c;rw[fy]at a;obtain⟨r,e,b⟩:=a
  cases r with
  |val v h'=>cases b
  |call f args=>cases b;grind
 ·obtain⟨x,a,d⟩:=lL.1 c;rw[fy]at a;obtain⟨r,e,b⟩:=a
  cases r with
  |val v h'=>cases b;grind
  |call f args=>cases b
theorem Od{o:Oper} {K:V->gO->Hp->Prop} (b:Ro C o K ρ h):zdj C o K ρ h:=by
 by_cases hc0:cls o=0
 ·have a:oP ((jb o).f (.fn ρ []) h) (λv=>K v ρ h):=by unfold Ro at b;rw[hc0]at b;exact b
  obtain⟨v,g,e⟩:=lL.1 a;exact⟨0,0,v,h,by simp_all[Ji,oB],e⟩
 ·by_cases hc1:cls o=1
  ·have a:oP ((rj o).f (.fn ρ [])) (λr=>K (r.2 h.next) ρ (h.new r.1)):=by unfold Ro at b;rw[hc1]at b;exact b
   obtain⟨r,g,e⟩:=lL.1 a;exact⟨0,0,_,_,by simp_all[Ji,oB],e⟩
  ·have a:RU C o K ρ h:=by
    unfold Ro at b;generalize cls o=c at b hc0 hc1;rcases c with _|_|c
    ·omega
    ·omega
    ·exact b
   have i:∀call,(Ji o).f call (.fn ρ []) h=oB ((kO o).f (.fn ρ []) h) λr=>match r with
     | .val v h=>some (v,h)
     | .call f args=>call f args h:=by
    intro call;unfold Ji;split
    ·omega
    ·omega
    ·rfl
   rcases XS a with⟨v,h',g,e⟩|⟨f,args,g,v,h',⟨m,d,k⟩,j⟩
   ·exact⟨0,0,v,h',by simp_all[oB],e⟩
   ·exact⟨m,d,v,h',by simp_all[oB],j⟩
theorem zcl{o:Oper} {b:Bool} {K:V->gO->Hp->Prop} (d:ZU C o b K ρ h):(b=true/\zdj C o K ρ h)\/(b=false/\K .undef ρ h):=by
 unfold ZU at d;by_cases hc0:cls o=0
 ·rw[hc0]at d;obtain⟨v,a,g⟩:=lL.1 d
  cases b with
  |true=>exact .inl ⟨rfl,Od (by unfold Ro;rw[hc0];exact eh a g)⟩
  |false=>cases a;simp_all
 ·by_cases hc1:cls o=1
  ·rw[hc1]at d;obtain⟨v,a,g⟩:=lL.1 d
   cases b with
   | true=>
     obtain⟨r,j,i⟩:=fy.1 (show oB _ _=_ from a);cases i
     exact .inl ⟨rfl,by grind[Od,Ro,eh]⟩
   |false=>cases a;simp_all
  ·have k:∀K,RU C o K ρ h->Ro C o K ρ h:=by
    intro K d;unfold Ro;generalize cls o=c at hc0 hc1;rcases c with _|_|c
    ·omega
    ·omega
    ·exact d
   have e:(match zP o with
     |true=>oP (gC b (oB ((kO o).f (.fn ρ []) h) JC)) λx=>qP C x h λv h'=>K v ρ h'
     |false=>oP (gH b h (oB ((kO o).f (.fn ρ []) h) valOf)) λx=>K x.1 ρ x.2):=by
    generalize cls o=c at d hc0 hc1;rcases c with _|_|c
    ·omega
    ·omega
    ·exact d
   cases hi:zP o with
   | true=>
     rw[hi]at e;obtain⟨x,a,g⟩:=lL.1 e
     cases b with
     | true=>
       obtain⟨y,j,i⟩:=fy.1 (show oB _ _=_ from a);cases i
       exact .inl ⟨rfl,Od (k _ (by unfold RU;rw[hi];exact eh j g))⟩
     |false=>cases a;exact .inr ⟨rfl,g⟩
   | false=>
     rw[hi]at e;obtain⟨x,a,g⟩:=lL.1 e
     cases b with
     |true=>exact .inl ⟨rfl,Od (k _ (by unfold RU;rw[hi];exact eh a g))⟩
     |false=>cases a;simp_all
theorem Q0{m d a b:Nat} (c:m<=a) (e:d<=b) {all os:List Oper} {t:Tm} {h:Hp} {r:Tm×Hp} (hv:(uZ n all os).f (kU C m d) t h=some r):(uZ n all os).f (kU C a b) t h=some r:=
 EC (yO c e) os hv
theorem Rj{all:List Oper} {K:gO->Hp->Prop}:∀(os:List Oper) {ρ:gO} {h:Hp},AE C n all K os ρ h->∃m d c h',(uZ n all os).f (kU C m d) (.fn ρ []) h=some (.fn c [],h')/\K c h'
 |[],ρ,h,a=>⟨0,0,ρ,h,rfl,a⟩
 | o ::os,ρ,h,a=>by
   rw[Xa]at a;unfold Bo at a
   cases hq:Bu o with
   |some q=>simp_all
   | none=>
     rw[hq]at a;simp only at a
     have p:∀{ρ h},zdj C o (p7 n o (AE C n all K os)) ρ h->∃d,zT n o=some d/\∃m e v l,(Ji o).f (kU C m e) (.fn ρ []) h=some (v,l)/\∃i,d.f (.fn ρ []) v = .fn i []/\
        ∃c h',(uZ n all os).f (kU C m e) (.fn i []) l=some (.fn c [],h')/\K c h':=by
       intro ρ h a;obtain⟨m,e,v,l,u,A⟩:=a;obtain⟨d,s,i,t,w⟩:=ME A;obtain⟨x,y,c,h',z,j⟩:=Rj os w;exact⟨d,s,max m x,max e y,v,l,Ks (by grind[yO,wB1]) u,i,t,c,h',by grind[Q0,Nat.le_max_right],j⟩
     cases hw:lP n all o with
     | none=>
       rw[hw]at a;obtain⟨d,s,m,e,v,l,u,i,t,c,h',z,j⟩:=p (Od a);refine⟨m,e,c,h',?_,j⟩
       simp_all[uZ,J3,oB]
     | some g=>
       rw[hw]at a;obtain⟨b,hb,a⟩:=lL.1 a;rcases zcl a with⟨r,k⟩|⟨r,k⟩ <;> subst r
       ·obtain⟨d,s,m,e,v,l,u,i,t,c,h',z,j⟩:=p k
        refine⟨m,e,c,h',?_,j⟩
        simp_all[uZ,J3,oB]
       ·obtain⟨d,s,i,t,w⟩:=ME k
        obtain⟨x,y,c,h',z,j⟩:=Rj os w;refine⟨x,y,c,h',?_,j⟩
        simp_all[uZ,J3,oB]
theorem Wp.region{id:Nat} {ops:Array Oper} (a:AE C n ops.toList (λρ h=>Q .normal ρ h) ops.toList ρ h):Wp C n (.region id ops false) Q ρ h:=by
 obtain⟨m,d,b,h',e,c⟩:=Rj _ a;exact⟨m,d,.normal,b,h',by simp_all[iM,oB],c⟩
end
section
variable{C:fu}{n:Nat}{Q:X->gO->Hp->Prop}{ρ:gO}{h:Hp}
def FG(h:Hp) (r:Rec):Prop:=match r.made with
 |none=>(jb r.it.o).f r.t h=some r.v
 |some (l,ob)=>h.get l=some ob/\O.beq ob ob=true
def yz(k:Nat) (h:Hp):List (Bool×Rec)->Prop->Prop
 |[],K=>K
 |r::rs,K=>Bool.rec (motive:=λ_=>Prop) (Bool.rec (motive:=λ_=>Prop) True (FG h r.2) r.1/\yz k h rs K) (yz k h rs K) (Nat.blt r.2.last k)
def EG(rs:List (Bool×Rec)):List Rec:=(rs.filter (·.1)).map (·.2)
def itR(C:fu) (n:Nat) (all:List Oper) (ws:List It) (a:It) (c:Nat->gO->Hp->List (Bool×Rec)->Prop) (k:Nat):gO->Hp->List (Bool×Rec)->Prop:=match cls a.o with
  | 0=>match lP n all a.o with
    |none=>λρ h rs=>oP ((jb a.o).f (.fn ρ []) h) λv=>p7 n a.o (λd h=>c k d h ((true,{it:=a,t:= .fn ρ [],v,made:=none,last:=late ws a})::rs)) v ρ h
    |some g=>λρ h rs=>oP (g.f (.fn ρ [])) λb=>oP (gV b ((jb a.o).f (.fn ρ []) h)) λv=>
       p7 n a.o (λd h=>c k d h ((b,{it:=a,t:= .fn ρ [],v,made:=none,last:=late ws a})::rs)) v ρ h
  | 1=>match lP n all a.o with
    |none=>λρ h rs=>oP ((rj a.o).f (.fn ρ [])) λr=>p7 n a.o (λd h'=>c k d h' ((true,{it:=a,t:= .fn ρ [],v:=r.2 h.next,made:=some (h.next,r.1),last:=late ws a})::rs)) (r.2 h.next) ρ (h.new r.1)
    |some _=>λ_ _ _=>False
  | _ =>match lP n all a.o with
    |none=>λρ h rs=>yz k h rs (RU C a.o (λv ρ h'=>h.next<=h'.next/\p7 n a.o (λρ h=>c (Nat.succ k) ρ h rs) v ρ h') ρ h)
    | some g=>match zP a.o with
      |true=>λρ h rs=>yz k h rs (oP (g.f (.fn ρ [])) λb=>oP (gC b (oB ((kO a.o).f (.fn ρ []) h) JC)) λx=>qP C x h λv h'=>h.next<=h'.next/\p7 n a.o (λρ h=>c (Nat.succ k) ρ h rs) v ρ h')
      |false=>λ_ _ _=>False
noncomputable def Jg(C:fu) (n:Nat) (all:List Oper) (ws:List It) (K:gO->Hp->Prop) (l:List It):Nat->gO->Hp->List (Bool×Rec)->Prop:=List.rec (motive:=λ_=>Nat->gO->Hp->List (Bool×Rec)->Prop) (λk ρ h rs=>yz k h rs (K ρ h)) (λa _ b k=>itR C n all ws a b k) l
theorem Wm(C:fu)(n:Nat)(all:List Oper)(ws:List It)(K:gO->Hp->Prop)(a:It)(l:List It)(k:Nat):Jg C n all ws K (a::l) k=itR C n all ws a (Jg C n all ws K l) k:=rfl
theorem J7{k:Nat}:∀{rs:List (Bool×Rec)} {K:Prop},yz k h rs K->Dd k h (EG rs)=true/\K
 |[],K,a=>⟨rfl,a⟩
 | (b,r)::rs,K,a=>by
   simp only[yz]at a;have c:∀{K:Prop},yz k h rs K->(b=true->(Nat.blt r.last k ||Av h r)=true)->Dd k h (EG ((b,r)::rs))=true/\K:=by
     intro K a hb;obtain⟨d,f⟩:=J7 a;refine⟨?_,f⟩
     cases b with
     |false=>exact d
     | true=>
       show Dd k h (r::EG rs)=true;unfold Dd;rw[wBp,hb rfl,wBr];exact d
   cases hb:Nat.blt r.last k with
   |true=>rw[hb]at a;grind
   | false=>
     rw[hb]at a;obtain⟨h0,a⟩:=a;refine c a (λe=>?_);subst e;rw[hb,Bool.false_or]
     grind[FG,Av,V.N9]
theorem zeU{b:Bool} {x:Option V} {v:V} (h:gV b x=some v):(b=true/\x=some v)\/(b=false/\v = .undef):=by
 cases b with
 |true=>exact .inl ⟨rfl,h⟩
 |false=>cases h;simp_all
theorem Ia{o:Oper} {d:DF} (b:zT n o=some d) {K:gO->Hp->Prop} {v:V} (c:p7 n o K v ρ h):∃a,d.f (.fn ρ []) v = .fn a []/\K a h:=by
 grind[ME]
theorem Xk{m d a b:Nat} (c:m<=a) (e:d<=b) {all:List Oper} {ws l:List It} {k:Nat} {t:Tm} {h:Hp} {rs:List Rec} {r:Tm×Hp} (hv:(yQ n all ws l k).f (kU C m d) t h rs=some r) :
  (yQ n all ws l k).f (kU C a b) t h rs=some r:=AO (yO c e) l k hv
theorem E7{all:List Oper} {ws:List It} {K:gO->Hp->Prop}:∀(l:List It) (k:Nat) {ρ:gO} {h:Hp} {rs:List (Bool×Rec)},Jg C n all ws K l k ρ h rs->
  ∃m d j h',(yQ n all ws l k).f (kU C m d) (.fn ρ []) h (EG rs)=some (.fn j [],h')/\K j h'
 | [],k,ρ,h,rs,e=>by
   obtain⟨w,z⟩:=J7 e
   exact⟨0,0,ρ,h,by simp_all[yQ,bB],z⟩
 | a ::l,k,ρ,h,rs,e=>by
   have i:∀{K:gO->Hp->Prop} {v:V} {ρ:gO} {h:Hp},p7 n a.o K v ρ h->∃d,zT n a.o=some d:=by grind[ME]
   have A:∀{d},zT n a.o=some d->∀call t h rs,(yQ n all ws (a::l) k).f call t h rs=(match cls a.o with
       |0=>IG n all ws a d (yQ n all ws l k)
       |1=>GR n all ws a d (yQ n all ws l k)
       |_=>C0 n all k a d (yQ n all ws l (Nat.succ k))).f call t h rs:=by
     intro d p call t h rs
     conv=>lhs;unfold yQ
     rw[p];simp only;generalize cls a.o=c;rcases c with _|_|c <;> rfl
   have F:∀call t h,cls a.o≠0->cls a.o≠1->(Ji a.o).f call t h=oB ((kO a.o).f t h) λr=>match r with
       | .val v h=>some (v,h)
       | .call f args=>call f args h:=by
     intro call t h h0 w;unfold Ji;split
     ·omega
     ·omega
     ·rfl
   have G:∀t,lP n all a.o=none->qJ n all a.o t=some true:=by grind[qJ]
   have H:∀t g,lP n all a.o=some g->qJ n all a.o t=g.f t:=by grind[qJ]
   have step:∀{h:Hp} {ρ:gO} {rs:List (Bool×Rec)} {c:Nat},cls a.o=c+2->Dd k h (EG rs)=true->qJ n all a.o (.fn ρ [])=some true->
       RU C a.o (λv ρ h'=>h.next<=h'.next/\p7 n a.o (λρ h=>Jg C n all ws K l (Nat.succ k) ρ h rs) v ρ h') ρ h->
       ∃m d j h',(yQ n all ws (a::l) k).f (kU C m d) (.fn ρ []) h (EG rs)=some (.fn j [],h')/\K j h':=by
     intro h ρ rs c hc s P e;have D:=λcall=>F call (.fn ρ []) h (by omega) (by omega);rcases XS e with⟨v,h',hv,I,e⟩|⟨f,args,hv,v,h',⟨Q,d0,M⟩,I,e⟩
     ·simp only[hv,oB]at D
      obtain⟨d,p⟩:=i e;obtain⟨J,w,e⟩:=Ia p e;obtain⟨m,u,j,B,z,q⟩:=E7 l _ e;exact⟨m,u,j,B,by simp_all[C0,bB,oB,UQ],q⟩
     ·simp only[hv,oB]at D
      obtain⟨d,p⟩:=i e;obtain⟨J,w,e⟩:=Ia p e;obtain⟨m,u,j,B,z,q⟩:=E7 l _ e;refine⟨max Q m,max d0 u,j,B,?_,q⟩;have L:=yO (C:=C) (wB1 Q m) (wB1 d0 u) _ _ _ _ M;rw[A p,hc];simp only[C0,s,bB,P,oB,D,L,w,UQ I]
      grind[Xk,Nat.le_max_right]
   have E:∀{h:Hp} {ρ:gO} {rs:List (Bool×Rec)} {c:Nat},cls a.o=c+2->Dd k h (EG rs)=true->qJ n all a.o (.fn ρ [])=some false->
       p7 n a.o (λρ h=>Jg C n all ws K l (Nat.succ k) ρ h rs) .undef ρ h->
       ∃m d j h',(yQ n all ws (a::l) k).f (kU C m d) (.fn ρ []) h (EG rs)=some (.fn j [],h')/\K j h':=by
     intro h ρ rs c hc s P e;obtain⟨d,p⟩:=i e;obtain⟨J,w,e⟩:=Ia p e;obtain⟨m,u,j,B,z,q⟩:=E7 l _ e;exact⟨m,u,j,B,by simp_all[C0,bB,oB],q⟩
   rw[Wm]at e;unfold itR at e;generalize hc:cls a.o=c at e;rcases c with _|_|c
   ·simp only at e
    cases hwc:lP n all a.o with
    | none=>
      rw[hwc]at e;obtain⟨v,hv,e⟩:=lL.1 e;obtain⟨d,p⟩:=i e;obtain⟨J,w,e⟩:=Ia p e;obtain⟨m,u,j,h',z,q⟩:=E7 l k e
      exact⟨m,u,j,h',by rw[A p,hc];simp only[IG,G _ hwc,hv,oB,w];exact z,q⟩
    | some g=>
      rw[hwc]at e;obtain⟨b,hb,e⟩:=lL.1 e;obtain⟨v,hv,e⟩:=lL.1 e;obtain⟨d,p⟩:=i e;obtain⟨J,w,e⟩:=Ia p e;obtain⟨m,u,j,h',z,q⟩:=E7 l k e;rcases zeU hv with⟨N,O⟩|⟨N,R⟩
      ·subst N
       exact⟨m,u,j,h',by rw[A p,hc];simp only[IG,H _ _ hwc,hb,O,oB,w];exact z,q⟩
      ·subst N;subst R
       exact⟨m,u,j,h',by rw[A p,hc];simp only[IG,H _ _ hwc,hb,oB,w];exact z,q⟩
   ·simp only at e
    cases hwc:lP n all a.o with
    | none=>
      rw[hwc]at e;obtain⟨v,hv,e⟩:=lL.1 e;obtain⟨d,p⟩:=i e;obtain⟨J,w,e⟩:=Ia p e;obtain⟨m,u,j,h',z,q⟩:=E7 l k e
      exact⟨m,u,j,h',by rw[A p,hc];simp only[GR,G _ hwc,hv,oB,w];exact z,q⟩
    |some g=>simp_all
   ·simp only at e
    cases hwc:lP n all a.o with
    | none=>
      rw[hwc]at e;obtain⟨s,e⟩:=J7 e
      simp_all
    | some g=>
      rw[hwc]at e;simp only at e
      cases hi:zP a.o with
      |false=>simp_all
      | true=>
        rw[hi]at e;obtain⟨s,e⟩:=J7 e;obtain⟨b,hb,e⟩:=lL.1 e;obtain⟨x,hx,e⟩:=lL.1 e
        cases b with
        | true=>
          obtain⟨y,q,S⟩:=fy.1 (show oB _ _=_ from hx);cases S
          exact step hc s (by simp_all) (by unfold RU;rw[hi];exact eh q e)
        | false=>
          cases hx;exact E hc s (by simp_all) e.2
noncomputable def zH(all:List Oper):Bool:=Qt (items all 0 []) (hZ (items all 0 []))&&xC (items all 0 []) (hZ (items all 0 [])) (order (items all 0 []) (hZ (items all 0 [])) (hZ (items all 0 [])) 0) 0 0
noncomputable def Vn(C:fu) (n:Nat) (all:List Oper) (K:gO->Hp->Prop) (ρ:gO) (h:Hp):Prop:=Jg C n all (hZ (items all 0 [])) K (order (items all 0 []) (hZ (items all 0 [])) (hZ (items all 0 [])) 0) 0 ρ h []
theorem Wp.draw{id:Nat} {ops:Array Oper} (a:zH ops.toList=true) (b:Vn C n ops.toList (λρ h=>Q .normal ρ h) ρ h):Wp C n (.region id ops true) Q ρ h:=by
 obtain⟨m,d,c,h',f,g⟩:=E7 _ _ b;have e:EG []=[]:=rfl;rw[e]at f;refine⟨m,d,.normal,c,h',?_,g⟩
 simp_all[zH,iM,Nl,oB]
noncomputable def j4(C:fu) (n:Nat) (c:Code):(X->gO->Hp->Prop)->gO->Hp->Prop:=
 Code.rec (motive:=λ_=>(X->gO->Hp->Prop)->gO->Hp->Prop)
  (λQ=>Q .normal)
  (fun _ ops d Q=>match d with
   |false=>AE C n ops.toList (λρ h=>Q .normal ρ h) ops.toList
   | true=>match zH ops.toList with
     |true=>Vn C n ops.toList (λρ h=>Q .normal ρ h)
     |false=>λ_ _=>False)
  (λ_ b a _ Q=>a (andThen (Wp C n b Q) Q))
  (λc _ _ a e Q ρ h=>oP ((ud c).f (.fn ρ []) h) λv=>bP v (a Q ρ h) (e Q ρ h))
  (λid _ g Q=>g (xU id Q))
  (λc _ Q=>Wp C n (.loop c) Q)
  (λ_ _ _ _ _ _ _ _ _=>False)
  (λid Q=>Q (.exit id))
  (λ_ _ _ _ _=>False)
  (λ_ _ _ _=>False)
  (λ_ _ _ _=>False)
  (λQ=>Q .ret)
  (λ_ _ _ _=>False) c
theorem Wp.code:∀(c:Code) {Q:X->gO->Hp->Prop} {ρ:gO} {h:Hp},j4 C n c Q ρ h->Wp C n c Q ρ h
 | .skip,_,_,_,d=> .skip d
 | .region _ ops false,_,_,_,d=> .region d
 | .region _ ops true,Q,ρ,h,d=>by
   have e:(match zH ops.toList with
       |true=>Vn C n ops.toList (λρ h=>Q .normal ρ h)
       |false=>λ_ _=>False) ρ h:=d
   cases hd:zH ops.toList with
   |true=>simp_all[draw]
   |false=>simp_all
 | .seq a _,_,_,_,d=> .seq (Wp.code a d)
 | .cond c a b,_,_,_,d=>by
   obtain⟨v,hv,d⟩:=lL.1 d;refine .cond (eh hv ?_);unfold bP at d⊢;split at d
   ·rename_i x
    cases x with
    |true=>exact Wp.code a d
    |false=>exact Wp.code b d
   ·exact d.elim
 | .block id c,_,_,_,d=> .block (Wp.code c d)
 | .loop c,_,_,_,d=>d
 | .exit id,_,_,_,d=> .exit d
 | .ret,_,_,_,d=> .ret d
 | .rangeFunc ..,_,_,_,d=>d.elim
 | .scope _,_,_,_,d=>d.elim
 | .label _,_,_,_,d=>d.elim
 | .goto _,_,_,_,d=>d.elim
 | .refuse _,_,_,_,d=>d.elim
def zai(l:List ResultVar)(Q:V->Hp->Prop)(ρ:gO)(h:Hp):Prop:=oP (A7 (.fn ρ []) h l) λvs=>Q (Aq vs) h
def IZ(l:List ResultVar) (Q:V->Hp->Prop):X->gO->Hp->Prop
 | .exit _,_,_=>False
 |_,ρ,h=>zai l Q ρ h
def L0(args:List V):gO:=λi=>(args[i]?).getD .undef
theorem cP.func(hs:C.start=fQ) {f:Nat} {fn:Func} {c:Code} {args:List V} (j:P0.funcs[f]? =some fn) (hb:fn.body=some c) (k:C.K f args h=none) (e:args.length<=fn.ntmps) {Q:V->Hp->Prop}
  (l:Wp C fn.ntmps c (IZ fn.results.toList Q) (L0 args) h):cP C f args h Q:=by
 obtain ⟨m,d,x,n,h',o,g⟩:=l;have a:zai fn.results.toList Q n h'->(∀id,x≠ .exit id)->cP C f args h Q:=by
  intro p hx;obtain⟨vs,r,q⟩:=lL.1 p;refine⟨_,_,⟨m,d+1,?_⟩,q⟩;show(FD C f).f (kU C m d) m args h=_;unfold FD;rw[j];simp only[hb,k,ZK,hs];have b:Nat.ble args.length fn.ntmps=true:=UQ e;have i:fQ args = .fn (L0 args) []:=rfl;rw[i,b,o]
  cases x with
  |normal=>simp_all[bB,oB,Tm.ds,OJ]
  |ret=>simp_all[bB,oB,Tm.ds,OJ]
  |exit id=>simp_all
 cases x with
 |normal=>exact a g (by simp_all)
 |ret=>exact a g (by simp_all)
 |exit id=>exact g.elim
theorem cP.Y9(hs:C.start=fQ) {f:Nat} {fn:Func} {c:Code} {args:List V} {k:Nat} {rs:List ResultVar} (b:P0.funcs[f]? =some fn) (hb:fn.body=some c) (d:fn.ntmps=k) (e:fn.results.toList=rs)
  (g:C.K f args h=none) (a:args.length<=k) {Q:V->Hp->Prop} (i:Wp C k c (IZ rs Q) (L0 args) h):cP C f args h Q:=by
 grind[cP.func]
theorem cP.known{f:Nat} {fn:Func} {c:Code} {args:List V} {v:V} (a:P0.funcs[f]? =some fn) (hb:fn.body=some c) (b:C.K f args h=some v) (d:Sa args=true) (e:v.flat=true) {Q:V->Hp->Prop} (hq:Q v h):cP C f args h Q:=by
 refine⟨v,h,⟨0,1,?_⟩,hq⟩;show(FD C f).f _ _ args h=_
 simp_all[FD,ZK,Bool.and_self,bB]
theorem cP.mono{f:Nat} {args:List V} {Q a:V->Hp->Prop} (hc:cP C f args h Q) (hq:∀v h,Q v h->a v h):cP C f args h a:=by
 obtain⟨v,h',b,c⟩:=hc;exact⟨v,h',b,hq _ _ c⟩
end
