/- Parts. -/
import Derived.Test.YtkpicojjjifmgaaGreatDoorM07
namespace Go.Proofs.YtkpicojjjifmgaaGreatDoor.Hx
abbrev gK:=Nat->V
def Ev(C:ft)(f:Nat)(args:List V)(h:Hp)(v:V)(h':Hp):Prop:=∃m d,kG C m d f args h=some (v,h')
inductive Wp (C:ft) (n:Nat) (c:Code) (Q:X->gK->Hp->Prop) (ρ:gK) (h:Hp):Prop
 |mk (b:∃m d x a h',(iG n c).f (kG C m d) m (.fn ρ []) h=some (x,.fn a [],h')/\Q x a h')
def oP{α:Type}(x:Option α)(k:α->Prop):Prop:=Option.rec (motive:=λ_=>Prop) False k x
theorem Uo{α:Type}(a:α)(k:α->Prop):oP (some a) k=k a:=rfl
theorem lB{α:Type} {x:Option α} {k:α->Prop}:oP x k↔∃a,x=some a/\k a:=by
 cases x with
 |none=>grind[oP]
 |some a=>exact⟨λh=>⟨a,rfl,h⟩,λ⟨_,h,h'⟩=>by grind[oP]⟩
theorem ee{α:Type}{x:Option α}{k:α->Prop}{a:α}(h:x=some a)(h':k a):oP x k:=by subst h;exact h'
def cP(C:ft)(f:Nat)(args:List V)(h:Hp)(k:V->Hp->Prop):Prop:=∃v h',Ev C f args h v h'/\k v h'
def bP(v:V) (a b:Prop):Prop:=match v with
 | .bool x=>Bool.rec (motive:=λ_=>Prop) b a x
 |_=>False
theorem ir(x:Bool)(a b:Prop):bP (.bool x) a b=if x=true then a else b:=by cases x <;> rfl
section
variable{C:ft}{n:Nat}{Q:X->gK->Hp->Prop}{ρ:gK}{h:Hp}
theorem Wp.mono{c:Code} {a:X->gK->Hp->Prop} (b:Wp C n c Q ρ h) (hq:∀x ρ h,Q x ρ h->a x ρ h):Wp C n c a ρ h:=by
 obtain⟨m,d,x,e,h',f,g⟩:=b;exact⟨m,d,x,e,h',f,by simp_all⟩
theorem Wp.skip(hq:Q .normal ρ h):Wp C n .skip Q ρ h:=⟨0,0,.normal,ρ,h,rfl,hq⟩
theorem Wp.ret(hq:Q .ret ρ h):Wp C n .ret Q ρ h:=⟨0,0,.ret,ρ,h,rfl,hq⟩
theorem Wp.exit{id:Nat}(hq:Q (.exit id) ρ h):Wp C n (.exit id) Q ρ h:=⟨0,0,.exit id,ρ,h,rfl,hq⟩
def andThen(k:gK->Hp->Prop) (Q:X->gK->Hp->Prop):X->gK->Hp->Prop
 | .normal,ρ,h=>k ρ h
 |x,ρ,h=>Q x ρ h
theorem Az{m d a b:Nat} (e:m<=a) (g:d<=b) {c:Code} {t:Tm} {h:Hp} {r:X×Tm×Hp} (hv:(iG n c).f (kG C m d) m t h=some r):(iG n c).f (kG C a b) a t h=some r:=
 ni (xU e g) e c hv
theorem Wp.seq{a b:Code} (i:Wp C n a (andThen (Wp C n b Q) Q) ρ h):Wp C n (.seq a b) Q ρ h:=by
 obtain⟨m,d,x,g,h',p,c⟩:=i
 cases x with
 | normal=>
   obtain⟨j,k,l,e,f,q,o⟩:=c;refine⟨max m j,max d k,l,e,f,?_,o⟩
   grind[iG,Az,wCA,EK,Nat.le_max_right]
 |exit id=>exact⟨m,d,.exit id,g,h',by grind[iG,EK],c⟩
 |ret=>exact⟨m,d,.ret,g,h',by grind[iG,EK],c⟩
theorem Wp.cond{e:Operand} {a b:Code} (c:oP ((tx e).f (.fn ρ []) h) λv=>bP v (Wp C n a Q ρ h) (Wp C n b Q ρ h)):Wp C n (.cond e a b) Q ρ h:=by
 obtain⟨v,hv,c⟩:=lB.1 c;unfold bP at c;split at c
 ·rename_i x
  cases x with
  | true=>
    obtain⟨m,d,x,g,h',j,i⟩:=c
    exact⟨m,d,x,g,h',by grind[iG,fx],i⟩
  | false=>
    obtain⟨m,d,x,g,h',j,i⟩:=c;exact⟨m,d,x,g,h',by grind[iG,fx],i⟩
 simp_all
def wH(id:Nat) (Q:X->gK->Hp->Prop):X->gK->Hp->Prop
 | .exit i,ρ,h=>Bool.rec (motive:=λ_=>Prop) (Q (.exit i) ρ h) (Q .normal ρ h) (Nat.beq i id)
 |x,ρ,h=>Q x ρ h
theorem Wp.block{id:Nat} {c:Code} (e:Wp C n c (wH id Q) ρ h):Wp C n (.block id c) Q ρ h:=by
 obtain⟨m,d,x,b,h',f,a⟩:=e
 cases x with
 |normal=>exact⟨m,d,.normal,b,h',by grind[iG,J4],a⟩
 |ret=>exact⟨m,d,.ret,b,h',by grind[iG,J4],a⟩
 | exit i=>
   simp only[wH]at a
   cases hb:Nat.beq i id with
   |true=>rw[hb]at a;exact⟨m,d,.normal,b,h',by simp_all[iG,J4],a⟩
   |false=>rw[hb]at a;exact⟨m,d,.exit i,b,h',by simp_all[iG,J4],a⟩
theorem Wp.loop{c:Code} (z:Wp C n c (andThen (Wp C n (.loop c) Q) Q) ρ h):Wp C n (.loop c) Q ρ h:=by
 obtain⟨m,d,x,p,h',g,q⟩:=z
 cases x with
 | normal=>
   obtain⟨a,b,o,i,l,s,A⟩:=q;refine⟨max m a+1,max d b,o,i,l,?_,A⟩;have e:=Az (C:=C) (n:=n) (II (wCA m a) (OH _)) (wCA d b) g;simp only[iG]at s⊢;show EK _ _=_;simp only[e,EK];have F:(iG n (.loop c)).f (kG C a b) a (.fn p []) h' = some (o,.fn i [],l):=s
   have u:∀(k k':Nat) (t:Tm) (h:Hp) (r:X×Tm×Hp),k<=k'->FH (λt h=>(iG n c).f (kG C a b) a t h) k t h=some r->
       FH (λt h=>(iG n c).f (kG C (max m a+1) (max d b)) (max m a+1) t h) k' t h=some r:=by
     intro k
     induction k with
     |zero=>intro k' t h r _ hv;cases hv
     | succ k B=>
       intro k' t h r G hv;obtain⟨k',rfl⟩:∃j,k' = j+1:=⟨k'-1,by omega⟩
       have v:EK ((iG n c).f (kG C a b) a t h) (FH (λt h=>(iG n c).f (kG C a b) a t h) k)=some r:=hv;show EK ((iG n c).f (kG C (max m a+1) (max d b)) (max m a+1) t h) (FH (λt h=>(iG n c).f (kG C (max m a+1) (max d b)) (max m a+1) t h) k')=some r
       have w:∀{r},(iG n c).f (kG C a b) a t h=some r->(iG n c).f (kG C (max m a+1) (max d b)) (max m a+1) t h=some r:=
         λD=>Az (by omega) (Nat.le_max_right d b) D
       rcases IW v with⟨E,g,e,y⟩|⟨e,y⟩
       ·rw[w e];exact B k' E g r (by omega) y
       ·rw[w e]
        obtain⟨o,t',h'⟩:=r
        cases o with
        |normal=>simp_all
        |exit id=>rfl
        |ret=>rfl
   exact u a (max m a) _ _ _ (Nat.le_max_right m a) s
 | exit id=>
   refine⟨m+1,d,.exit id,p,h',?_,q⟩;have e:=Az (C:=C) (n:=n) (OH m) (jK d) g;simp only[iG];show EK _ _=_
   grind[EK]
 | ret=>
   refine⟨m+1,d,.ret,p,h',?_,q⟩;have e:=Az (C:=C) (n:=n) (OH m) (jK d) g;simp only[iG];show EK _ _=_
   grind[EK]
theorem Wp.zav{c:Code} (I:Nat->gK->Hp->Prop) (b:∀k ρ h,I k ρ h->Wp C n c (andThen (λa h'=>∃k',k' < k/\I k' a h') Q) ρ h) {k:Nat} (h0:I k ρ h):Wp C n (.loop c) Q ρ h:=by
 induction k using Nat.strongRecOn generalizing ρ h with
 | _ k d=>
   refine .loop ((b k ρ h h0).mono λx a h' hq=>?_)
   cases x with
   |normal=>obtain⟨k',e,hi⟩:=hq;exact d k' e hi
   |exit id=>exact hq
   |ret=>exact hq
def pB(n:Nat) (o:Oper) (K:gK->Hp->Prop):V->gK->Hp->Prop:=match o.dst with
 |none=>λ_ ρ h=>K ρ h
 | some d=>match Nat.blt d n with
   |true=>λv ρ h=>K (fu ρ d v) h
   |false=>λ_ _ _=>False
def valOf:R->Option (V×Hp)
 | .val v h=>some (v,h)
 | .call _ _=>none
def HS:R->Option (Nat×List V)
 | .call f args=>some (f,args)
 | .val _ _=>none
def yU(o:Oper):Bool:=match o.op with
 | .call c=>match c.callee with
   | .value _| .invoke _ _=>true
   | .builtin _=>false
 |_=>false
def Q1(C:ft) (o:Oper) (K:V->gK->Hp->Prop):gK->Hp->Prop:=match yU o with
 |true=>λρ h=>oP (oB ((ku o).f (.fn ρ []) h) HS) λx=>cP C x.1 x.2 h λv h'=>K v ρ h'
 |false=>λρ h=>oP (oB ((ku o).f (.fn ρ []) h) valOf) λx=>K x.1 ρ x.2
def PW(C:ft) (o:Oper) (K:V->gK->Hp->Prop):gK->Hp->Prop:=match cls o with
 |0=>λρ h=>oP ((iV o).f (.fn ρ []) h) λv=>K v ρ h
 |1=>λρ h=>oP ((qy o).f (.fn ρ [])) λr=>K (r.2 h.next) ρ (h.new r.1)
 |_=>Q1 C o K
noncomputable def gV(b:Bool)(x:Option V):Option V:=Bool.rec (motive:=λ_=>Option V) (some .undef) x b
noncomputable def gH(b:Bool)(h:Hp)(x:Option (V×Hp)):Option (V×Hp):=Bool.rec (motive:=λ_=>Option (V×Hp)) (some (.undef,h)) x b
noncomputable def gC(b:Bool)(x:Option (Nat×List V)):Option (Option (Nat×List V)):=Bool.rec (motive:=λ_=>Option (Option (Nat×List V))) (some none) (oB x λy=>some (some y)) b
def qo(C:ft) (x:Option (Nat×List V)) (h:Hp) (K:V->Hp->Prop):Prop:=match x with
 |none=>K .undef h
 |some y=>cP C y.1 y.2 h K
def Yx(C:ft) (o:Oper) (b:Bool) (K:V->gK->Hp->Prop) (ρ:gK) (h:Hp):Prop:=match cls o with
 |0=>oP (gV b ((iV o).f (.fn ρ []) h)) λv=>K v ρ h
 |1=>oP (gH b h (oB ((qy o).f (.fn ρ [])) λr=>some (r.2 h.next,h.new r.1))) λx=>K x.1 ρ x.2
 | _=>match yU o with
   |true=>oP (gC b (oB ((ku o).f (.fn ρ []) h) HS)) λx=>qo C x h λv h'=>K v ρ h'
   |false=>oP (gH b h (oB ((ku o).f (.fn ρ []) h) valOf)) λx=>K x.1 ρ x.2
def Ak(C:ft) (n:Nat) (all:List Oper) (o:Oper) (K:gK->Hp->Prop):gK->Hp->Prop:=match Aj o with
 |some _=>λ_ _=>False
 | none=>match lC n all o with
   |none=>PW C o (pB n o K)
   |some g=>λρ h=>oP (g.f (.fn ρ [])) λb=>Yx C o b (pB n o K) ρ h
noncomputable def zz(C:ft) (n:Nat) (all:List Oper) (K:gK->Hp->Prop) (os:List Oper):gK->Hp->Prop:=List.rec (motive:=λ_=>gK->Hp->Prop) K (λo _ a=>Ak C n all o a) os
theorem Vt(C:ft)(n:Nat)(all:List Oper)(K:gK->Hp->Prop)(o:Oper)(os:List Oper):zz C n all K (o::os)=Ak C n all o (zz C n all K os):=rfl
theorem Lk{o:Oper} {K:gK->Hp->Prop} {v:V} (a:pB n o K v ρ h):∃d,yY n o=some d/\∃b,d.f (.fn ρ []) v = .fn b []/\K b h:=by
 unfold pB at a;unfold yY
 cases ho:o.dst with
 |none=>simp_all
 | some d=>
   rw[ho]at a;simp only at a⊢
   cases hb:Nat.blt d n with
   |true=>rw[hb]at a;exact⟨_,rfl,_,rfl,a⟩
   |false=>simp_all
def za9(C:ft)(o:Oper)(K:V->gK->Hp->Prop)(ρ:gK)(h:Hp):Prop:=∃m d v h',(IC o).f (kG C m d) (.fn ρ []) h=some (v,h')/\K v ρ h'
theorem W4{o:Oper} {K:V->gK->Hp->Prop} (c:Q1 C o K ρ h):(∃v h',(ku o).f (.fn ρ []) h=some (.val v h')/\K v ρ h')\/∃f args,(ku o).f (.fn ρ []) h=some (.call f args)/\cP C f args h λv h'=>K v ρ h':=by
 unfold Q1 at c;cases hb:yU o
 all_goals rw[hb]at c
 rotate_left
 ·obtain⟨x,a,d⟩:=lB.1 c;rw[fx]at a;obtain⟨r,e,b⟩:=a
  cases r with
  |val v h'=>cases b
  |call f args=>cases b;grind
 ·obtain⟨x,a,d⟩:=lB.1 c;rw[fx]at a;obtain⟨r,e,b⟩:=a
  cases r with
  |val v h'=>cases b;grind
  |call f args=>cases b
theorem LW{o:Oper} {K:V->gK->Hp->Prop} (b:PW C o K ρ h):za9 C o K ρ h:=by
 by_cases hc0:cls o=0
 ·have a:oP ((iV o).f (.fn ρ []) h) (λv=>K v ρ h):=by unfold PW at b;rw[hc0]at b;exact b
  obtain⟨v,g,e⟩:=lB.1 a;exact⟨0,0,v,h,by simp_all[IC,oB],e⟩
 ·by_cases hc1:cls o=1
  ·have a:oP ((qy o).f (.fn ρ [])) (λr=>K (r.2 h.next) ρ (h.new r.1)):=by unfold PW at b;rw[hc1]at b;exact b
   obtain⟨r,g,e⟩:=lB.1 a;exact⟨0,0,_,_,by simp_all[IC,oB],e⟩
  ·have a:Q1 C o K ρ h:=by
    unfold PW at b;generalize cls o=c at b hc0 hc1;rcases c with _|_|c
    ·omega
    ·omega
    ·exact b
   have i:∀call,(IC o).f call (.fn ρ []) h=oB ((ku o).f (.fn ρ []) h) λr=>match r with
     | .val v h=>some (v,h)
     | .call f args=>call f args h:=by
    intro call;unfold IC;split
    ·omega
    ·omega
    ·rfl
   rcases W4 a with⟨v,h',g,e⟩|⟨f,args,g,v,h',⟨m,d,k⟩,j⟩
   ·exact⟨0,0,v,h',by simp_all[oB],e⟩
   ·exact⟨m,d,v,h',by simp_all[oB],j⟩
theorem zbL{o:Oper} {b:Bool} {K:V->gK->Hp->Prop} (d:Yx C o b K ρ h):(b=true/\za9 C o K ρ h)\/(b=false/\K .undef ρ h):=by
 unfold Yx at d;by_cases hc0:cls o=0
 ·rw[hc0]at d;obtain⟨v,a,g⟩:=lB.1 d
  cases b with
  |true=>exact .inl ⟨rfl,LW (by unfold PW;rw[hc0];exact ee a g)⟩
  |false=>cases a;simp_all
 ·by_cases hc1:cls o=1
  ·rw[hc1]at d;obtain⟨v,a,g⟩:=lB.1 d
   cases b with
   | true=>
     obtain⟨r,j,i⟩:=fx.1 (show oB _ _=_ from a);cases i
     exact .inl ⟨rfl,by grind[LW,PW,ee]⟩
   |false=>cases a;simp_all
  ·have k:∀K,Q1 C o K ρ h->PW C o K ρ h:=by
    intro K d;unfold PW;generalize cls o=c at hc0 hc1;rcases c with _|_|c
    ·omega
    ·omega
    ·exact d
   have e:(match yU o with
     |true=>oP (gC b (oB ((ku o).f (.fn ρ []) h) HS)) λx=>qo C x h λv h'=>K v ρ h'
     |false=>oP (gH b h (oB ((ku o).f (.fn ρ []) h) valOf)) λx=>K x.1 ρ x.2):=by
    generalize cls o=c at d hc0 hc1;rcases c with _|_|c
    ·omega
    ·omega
    ·exact d
   cases hi:yU o with
   | true=>
     rw[hi]at e;obtain⟨x,a,g⟩:=lB.1 e
     cases b with
     | true=>
       obtain⟨y,j,i⟩:=fx.1 (show oB _ _=_ from a);cases i
       exact .inl ⟨rfl,LW (k _ (by unfold Q1;rw[hi];exact ee j g))⟩
     |false=>cases a;exact .inr ⟨rfl,g⟩
   | false=>
     rw[hi]at e;obtain⟨x,a,g⟩:=lB.1 e
     cases b with
     |true=>exact .inl ⟨rfl,LW (k _ (by unfold Q1;rw[hi];exact ee a g))⟩
     |false=>cases a;simp_all
theorem OT{m d a b:Nat} (c:m<=a) (e:d<=b) {all os:List Oper} {t:Tm} {h:Hp} {r:Tm×Hp} (hv:(ux n all os).f (kG C m d) t h=some r):(ux n all os).f (kG C a b) t h=some r:=
 Dy (xU c e) os hv
theorem O9{all:List Oper} {K:gK->Hp->Prop}:∀(os:List Oper) {ρ:gK} {h:Hp},zz C n all K os ρ h->∃m d c h',(ux n all os).f (kG C m d) (.fn ρ []) h=some (.fn c [],h')/\K c h'
 |[],ρ,h,a=>⟨0,0,ρ,h,rfl,a⟩
 | o ::os,ρ,h,a=>by
   rw[Vt]at a;unfold Ak at a
   cases hq:Aj o with
   |some q=>simp_all
   | none=>
     rw[hq]at a;simp only at a
     have p:∀{ρ h},za9 C o (pB n o (zz C n all K os)) ρ h->∃d,yY n o=some d/\∃m e v l,(IC o).f (kG C m e) (.fn ρ []) h=some (v,l)/\∃i,d.f (.fn ρ []) v = .fn i []/\
        ∃c h',(ux n all os).f (kG C m e) (.fn i []) l=some (.fn c [],h')/\K c h':=by
       intro ρ h a;obtain⟨m,e,v,l,u,A⟩:=a;obtain⟨d,s,i,t,w⟩:=Lk A;obtain⟨x,y,c,h',z,j⟩:=O9 os w;exact⟨d,s,max m x,max e y,v,l,Jp (by grind[xU,wCA]) u,i,t,c,h',by grind[OT,Nat.le_max_right],j⟩
     cases hw:lC n all o with
     | none=>
       rw[hw]at a;obtain⟨d,s,m,e,v,l,u,i,t,c,h',z,j⟩:=p (LW a);refine⟨m,e,c,h',?_,j⟩
       simp_all[ux,IJ,oB]
     | some g=>
       rw[hw]at a;obtain⟨b,B,a⟩:=lB.1 a;rcases zbL a with⟨r,k⟩|⟨r,k⟩ <;> subst r
       ·obtain⟨d,s,m,e,v,l,u,i,t,c,h',z,j⟩:=p k
        refine⟨m,e,c,h',?_,j⟩
        simp_all[ux,IJ,oB]
       ·obtain⟨d,s,i,t,w⟩:=Lk k
        obtain⟨x,y,c,h',z,j⟩:=O9 os w;refine⟨x,y,c,h',?_,j⟩
        simp_all[ux,IJ,oB]
theorem Wp.region{id:Nat} {ops:Array Oper} (a:zz C n ops.toList (λρ h=>Q .normal ρ h) ops.toList ρ h):Wp C n (.region id ops false) Q ρ h:=by
 obtain⟨m,d,b,h',e,c⟩:=O9 _ a;exact⟨m,d,.normal,b,h',by simp_all[iG,oB],c⟩
end
section
variable{C:ft}{n:Nat}{Q:X->gK->Hp->Prop}{ρ:gK}{h:Hp}
def Er(h:Hp) (r:Rec):Prop:=match r.made with
 |none=>(iV r.it.o).f r.t h=some r.v
 |some (l,ob)=>h.get l=some ob/\O.beq ob ob=true
def xQ(k:Nat) (h:Hp):List (Bool×Rec)->Prop->Prop
 |[],K=>K
 |r::rs,K=>Bool.rec (motive:=λ_=>Prop) (Bool.rec (motive:=λ_=>Prop) True (Er h r.2) r.1/\xQ k h rs K) (xQ k h rs K) (Nat.blt r.2.last k)
def DC(rs:List (Bool×Rec)):List Rec:=(rs.filter (·.1)).map (·.2)
def itR(C:ft) (n:Nat) (all:List Oper) (ws:List It) (a:It) (c:Nat->gK->Hp->List (Bool×Rec)->Prop) (k:Nat):gK->Hp->List (Bool×Rec)->Prop:=match cls a.o with
  | 0=>match lC n all a.o with
    |none=>λρ h rs=>oP ((iV a.o).f (.fn ρ []) h) λv=>pB n a.o (λd h=>c k d h ((true,{it:=a,t:= .fn ρ [],v,made:=none,last:=late ws a})::rs)) v ρ h
    |some g=>λρ h rs=>oP (g.f (.fn ρ [])) λb=>oP (gV b ((iV a.o).f (.fn ρ []) h)) λv=>
       pB n a.o (λd h=>c k d h ((b,{it:=a,t:= .fn ρ [],v,made:=none,last:=late ws a})::rs)) v ρ h
  | 1=>match lC n all a.o with
    |none=>λρ h rs=>oP ((qy a.o).f (.fn ρ [])) λr=>pB n a.o (λd h'=>c k d h' ((true,{it:=a,t:= .fn ρ [],v:=r.2 h.next,made:=some (h.next,r.1),last:=late ws a})::rs)) (r.2 h.next) ρ (h.new r.1)
    |some _=>λ_ _ _=>False
  | _ =>match lC n all a.o with
    |none=>λρ h rs=>xQ k h rs (Q1 C a.o (λv ρ h'=>h.next<=h'.next/\pB n a.o (λρ h=>c (Nat.succ k) ρ h rs) v ρ h') ρ h)
    | some g=>match yU a.o with
      |true=>λρ h rs=>xQ k h rs (oP (g.f (.fn ρ [])) λb=>oP (gC b (oB ((ku a.o).f (.fn ρ []) h) HS)) λx=>qo C x h λv h'=>h.next<=h'.next/\pB n a.o (λρ h=>c (Nat.succ k) ρ h rs) v ρ h')
      |false=>λ_ _ _=>False
noncomputable def IF(C:ft) (n:Nat) (all:List Oper) (ws:List It) (K:gK->Hp->Prop) (l:List It):Nat->gK->Hp->List (Bool×Rec)->Prop:=List.rec (motive:=λ_=>Nat->gK->Hp->List (Bool×Rec)->Prop) (λk ρ h rs=>xQ k h rs (K ρ h)) (λa _ b k=>itR C n all ws a b k) l
theorem Vo(C:ft)(n:Nat)(all:List Oper)(ws:List It)(K:gK->Hp->Prop)(a:It)(l:List It)(k:Nat):IF C n all ws K (a::l) k=itR C n all ws a (IF C n all ws K l) k:=rfl
theorem Jr{k:Nat}:∀{rs:List (Bool×Rec)} {K:Prop},xQ k h rs K->B9 k h (DC rs)=true/\K
 |[],K,a=>⟨rfl,a⟩
 | (b,r)::rs,K,a=>by
   simp only[xQ]at a;have c:∀{K:Prop},xQ k h rs K->(b=true->(Nat.blt r.last k ||zG h r)=true)->B9 k h (DC ((b,r)::rs))=true/\K:=by
     intro K a d;obtain⟨f,g⟩:=Jr a;refine⟨?_,g⟩
     cases b with
     |false=>exact f
     | true=>
       show B9 k h (r::DC rs)=true;unfold B9;rw[wB6,d rfl,wB7];exact f
   cases d:Nat.blt r.last k with
   |true=>rw[d]at a;grind
   | false=>
     rw[d]at a;obtain⟨h0,a⟩:=a;refine c a (λe=>?_);subst e;rw[d,Bool.false_or]
     grind[Er,zG,V.M3]
theorem zcP{b:Bool} {x:Option V} {v:V} (h:gV b x=some v):(b=true/\x=some v)\/(b=false/\v = .undef):=by
 cases b with
 |true=>exact .inl ⟨rfl,h⟩
 |false=>cases h;simp_all
theorem Gy{o:Oper} {d:DF} (b:yY n o=some d) {K:gK->Hp->Prop} {v:V} (c:pB n o K v ρ h):∃a,d.f (.fn ρ []) v = .fn a []/\K a h:=by
 grind[Lk]
theorem US{m d a b:Nat} (c:m<=a) (e:d<=b) {all:List Oper} {ws l:List It} {k:Nat} {t:Tm} {h:Hp} {rs:List Rec} {r:Tm×Hp} (hv:(xZ n all ws l k).f (kG C m d) t h rs=some r) :
  (xZ n all ws l k).f (kG C a b) t h rs=some r:=zV (xU c e) l k hv
theorem Ef{all:List Oper} {ws:List It} {K:gK->Hp->Prop}:∀(l:List It) (k:Nat) {ρ:gK} {h:Hp} {rs:List (Bool×Rec)},IF C n all ws K l k ρ h rs->
  ∃m d j h',(xZ n all ws l k).f (kG C m d) (.fn ρ []) h (DC rs)=some (.fn j [],h')/\K j h'
 | [],k,ρ,h,rs,e=>by
   obtain⟨w,z⟩:=Jr e
   exact⟨0,0,ρ,h,by simp_all[xZ,bB],z⟩
 | a ::l,k,ρ,h,rs,e=>by
   have i:∀{K:gK->Hp->Prop} {v:V} {ρ:gK} {h:Hp},pB n a.o K v ρ h->∃d,yY n a.o=some d:=by grind[Lk]
   have A:∀{d},yY n a.o=some d->∀call t h rs,(xZ n all ws (a::l) k).f call t h rs=(match cls a.o with
       |0=>Hz n all ws a d (xZ n all ws l k)
       |1=>Fp n all ws a d (xZ n all ws l k)
       |_=>B0 n all k a d (xZ n all ws l (Nat.succ k))).f call t h rs:=by
     intro d p call t h rs
     conv=>lhs;unfold xZ
     rw[p];simp only;generalize cls a.o=c;rcases c with _|_|c <;> rfl
   have F:∀call t h,cls a.o≠0->cls a.o≠1->(IC a.o).f call t h=oB ((ku a.o).f t h) λr=>match r with
       | .val v h=>some (v,h)
       | .call f args=>call f args h:=by
     intro call t h h0 w;unfold IC;split
     ·omega
     ·omega
     ·rfl
   have G:∀t,lC n all a.o=none->qi n all a.o t=some true:=by grind[qi]
   have H:∀t g,lC n all a.o=some g->qi n all a.o t=g.f t:=by grind[qi]
   have step:∀{h:Hp} {ρ:gK} {rs:List (Bool×Rec)} {c:Nat},cls a.o=c+2->B9 k h (DC rs)=true->qi n all a.o (.fn ρ [])=some true->
       Q1 C a.o (λv ρ h'=>h.next<=h'.next/\pB n a.o (λρ h=>IF C n all ws K l (Nat.succ k) ρ h rs) v ρ h') ρ h->
       ∃m d j h',(xZ n all ws (a::l) k).f (kG C m d) (.fn ρ []) h (DC rs)=some (.fn j [],h')/\K j h':=by
     intro h ρ rs c hc s Q e;have D:=λcall=>F call (.fn ρ []) h (by omega) (by omega);rcases W4 e with⟨v,h',hv,I,e⟩|⟨f,args,hv,v,h',⟨R,d0,M⟩,I,e⟩
     ·simp only[hv,oB]at D
      obtain⟨d,p⟩:=i e;obtain⟨J,w,e⟩:=Gy p e;obtain⟨m,u,j,B,z,q⟩:=Ef l _ e;exact⟨m,u,j,B,by simp_all[B0,bB,oB,Qu],q⟩
     ·simp only[hv,oB]at D
      obtain⟨d,p⟩:=i e;obtain⟨J,w,e⟩:=Gy p e;obtain⟨m,u,j,B,z,q⟩:=Ef l _ e;refine⟨max R m,max d0 u,j,B,?_,q⟩;have L:=xU (C:=C) (wCA R m) (wCA d0 u) _ _ _ _ M;rw[A p,hc];simp only[B0,s,bB,Q,oB,D,L,w,Qu I]
      grind[US,Nat.le_max_right]
   have E:∀{h:Hp} {ρ:gK} {rs:List (Bool×Rec)} {c:Nat},cls a.o=c+2->B9 k h (DC rs)=true->qi n all a.o (.fn ρ [])=some false->
       pB n a.o (λρ h=>IF C n all ws K l (Nat.succ k) ρ h rs) .undef ρ h->
       ∃m d j h',(xZ n all ws (a::l) k).f (kG C m d) (.fn ρ []) h (DC rs)=some (.fn j [],h')/\K j h':=by
     intro h ρ rs c hc s Q e;obtain⟨d,p⟩:=i e;obtain⟨J,w,e⟩:=Gy p e;obtain⟨m,u,j,B,z,q⟩:=Ef l _ e;exact⟨m,u,j,B,by simp_all[B0,bB,oB],q⟩
   rw[Vo]at e;unfold itR at e;generalize hc:cls a.o=c at e;rcases c with _|_|c
   ·simp only at e
    cases hwc:lC n all a.o with
    | none=>
      rw[hwc]at e;obtain⟨v,hv,e⟩:=lB.1 e;obtain⟨d,p⟩:=i e;obtain⟨J,w,e⟩:=Gy p e;obtain⟨m,u,j,h',z,q⟩:=Ef l k e
      exact⟨m,u,j,h',by rw[A p,hc];simp only[Hz,G _ hwc,hv,oB,w];exact z,q⟩
    | some g=>
      rw[hwc]at e;obtain⟨b,N,e⟩:=lB.1 e;obtain⟨v,hv,e⟩:=lB.1 e;obtain⟨d,p⟩:=i e;obtain⟨J,w,e⟩:=Gy p e;obtain⟨m,u,j,h',z,q⟩:=Ef l k e;rcases zcP hv with⟨O,P⟩|⟨O,T⟩
      ·subst O
       exact⟨m,u,j,h',by rw[A p,hc];simp only[Hz,H _ _ hwc,N,P,oB,w];exact z,q⟩
      ·subst O;subst T
       exact⟨m,u,j,h',by rw[A p,hc];simp only[Hz,H _ _ hwc,N,oB,w];exact z,q⟩
   ·simp only at e
    cases hwc:lC n all a.o with
    | none=>
      rw[hwc]at e;obtain⟨v,hv,e⟩:=lB.1 e;obtain⟨d,p⟩:=i e;obtain⟨J,w,e⟩:=Gy p e;obtain⟨m,u,j,h',z,q⟩:=Ef l k e
      exact⟨m,u,j,h',by rw[A p,hc];simp only[Fp,G _ hwc,hv,oB,w];exact z,q⟩
    |some g=>simp_all
   ·simp only at e
    cases hwc:lC n all a.o with
    | none=>
      rw[hwc]at e;obtain⟨s,e⟩:=Jr e
      simp_all
    | some g=>
      rw[hwc]at e;simp only at e
      cases hi:yU a.o with
      |false=>simp_all
      | true=>
        rw[hi]at e;obtain⟨s,e⟩:=Jr e;obtain⟨b,N,e⟩:=lB.1 e;obtain⟨x,S,e⟩:=lB.1 e
        cases b with
        | true=>
          obtain⟨y,q,U⟩:=fx.1 (show oB _ _=_ from S);cases U
          exact step hc s (by simp_all) (by unfold Q1;rw[hi];exact ee q e)
        | false=>
          cases S;exact E hc s (by simp_all) e.2
noncomputable def yJ(all:List Oper):Bool:=O7 (items all 0 []) (hH (items all 0 []))&&xi (items all 0 []) (hH (items all 0 [])) (order (items all 0 []) (hH (items all 0 [])) (hH (items all 0 [])) 0) 0 0
noncomputable def Us(C:ft) (n:Nat) (all:List Oper) (K:gK->Hp->Prop) (ρ:gK) (h:Hp):Prop:=IF C n all (hH (items all 0 [])) K (order (items all 0 []) (hH (items all 0 [])) (hH (items all 0 [])) 0) 0 ρ h []
theorem Wp.draw{id:Nat} {ops:Array Oper} (a:yJ ops.toList=true) (b:Us C n ops.toList (λρ h=>Q .normal ρ h) ρ h):Wp C n (.region id ops true) Q ρ h:=by
 obtain⟨m,d,c,h',f,g⟩:=Ef _ _ b;have e:DC []=[]:=rfl;rw[e]at f;refine⟨m,d,.normal,c,h',?_,g⟩
 simp_all[yJ,iG,Mu,oB]
noncomputable def jU(C:ft) (n:Nat) (c:Code):(X->gK->Hp->Prop)->gK->Hp->Prop:=
 Code.rec (motive:=λ_=>(X->gK->Hp->Prop)->gK->Hp->Prop)
  (λQ=>Q .normal)
  (fun _ ops d Q=>match d with
   |false=>zz C n ops.toList (λρ h=>Q .normal ρ h) ops.toList
   | true=>match yJ ops.toList with
     |true=>Us C n ops.toList (λρ h=>Q .normal ρ h)
     |false=>λ_ _=>False)
  (λ_ b a _ Q=>a (andThen (Wp C n b Q) Q))
  (λc _ _ a e Q ρ h=>oP ((tx c).f (.fn ρ []) h) λv=>bP v (a Q ρ h) (e Q ρ h))
  (λid _ g Q=>g (wH id Q))
  (λc _ Q=>Wp C n (.loop c) Q)
  (λ_ _ _ _ _ _ _ _ _=>False)
  (λid Q=>Q (.exit id))
  (λ_ _ _ _ _=>False)
  (λ_ _ _ _=>False)
  (λ_ _ _ _=>False)
  (λQ=>Q .ret)
  (λ_ _ _ _=>False) c
theorem Wp.code:∀(c:Code) {Q:X->gK->Hp->Prop} {ρ:gK} {h:Hp},jU C n c Q ρ h->Wp C n c Q ρ h
 | .skip,_,_,_,d=> .skip d
 | .region _ ops false,_,_,_,d=> .region d
 | .region _ ops true,Q,ρ,h,d=>by
   have e:(match yJ ops.toList with
       |true=>Us C n ops.toList (λρ h=>Q .normal ρ h)
       |false=>λ_ _=>False) ρ h:=d
   cases hd:yJ ops.toList with
   |true=>simp_all[draw]
   |false=>simp_all
 | .seq a _,_,_,_,d=> .seq (Wp.code a d)
 | .cond c a b,_,_,_,d=>by
   obtain⟨v,hv,d⟩:=lB.1 d;refine .cond (ee hv ?_);unfold bP at d⊢;split at d
   ·rename_i x
    cases x with
    |true=>exact Wp.code a d
    |false=>exact Wp.code b d
   ·exact d.elim
 | .block id c,_,_,_,d=> .block (Wp.code c d)
 | .loop c,_,_,_,d=>d
 | .exit id,_,_,_,d=> .exit d
 | .ret,_,_,_,d=> .ret d
 | .rangeFunc ..,_,_,_,d=>d.elim
 | .scope _,_,_,_,d=>d.elim
 | .label _,_,_,_,d=>d.elim
 | .goto _,_,_,_,d=>d.elim
 | .refuse _,_,_,_,d=>d.elim
def Y1(l:List ResultVar)(Q:V->Hp->Prop)(ρ:gK)(h:Hp):Prop:=oP (Ao (.fn ρ []) h l) λvs=>Q (zF vs) h
def Hc(l:List ResultVar) (Q:V->Hp->Prop):X->gK->Hp->Prop
 | .exit _,_,_=>False
 |_,ρ,h=>Y1 l Q ρ h
def Kv(args:List V):gK:=λi=>(args[i]?).getD .undef
theorem cP.func(hs:C.start=fO) {f:Nat} {fn:Func} {c:Code} {args:List V} (j:P0.funcs[f]? =some fn) (k:fn.body=some c) (l:C.K f args h=none) (e:args.length<=fn.ntmps) {Q:V->Hp->Prop}
  (n:Wp C fn.ntmps c (Hc fn.results.toList Q) (Kv args) h):cP C f args h Q:=by
 obtain ⟨m,d,x,o,h',p,g⟩:=n;have a:Y1 fn.results.toList Q o h'->(∀id,x≠ .exit id)->cP C f args h Q:=by
  intro q s;obtain⟨vs,t,r⟩:=lB.1 q;refine⟨_,_,⟨m,d+1,?_⟩,r⟩;show(Ew C f).f (kG C m d) m args h=_;unfold Ew;rw[j];simp only[k,l,Yo,hs];have b:Nat.ble args.length fn.ntmps=true:=Qu e;have i:fO args = .fn (Kv args) []:=rfl;rw[i,b,p]
  cases x with
  |normal=>simp_all[bB,oB,Tm.ds,Nl]
  |ret=>simp_all[bB,oB,Tm.ds,Nl]
  |exit id=>simp_all
 cases x with
 |normal=>exact a g (by simp_all)
 |ret=>exact a g (by simp_all)
 |exit id=>exact g.elim
theorem cP.Wf(hs:C.start=fO) {f:Nat} {fn:Func} {c:Code} {args:List V} {k:Nat} {rs:List ResultVar} (b:P0.funcs[f]? =some fn) (d:fn.body=some c) (e:fn.ntmps=k) (g:fn.results.toList=rs)
  (i:C.K f args h=none) (a:args.length<=k) {Q:V->Hp->Prop} (j:Wp C k c (Hc rs Q) (Kv args) h):cP C f args h Q:=by
 grind[cP.func]
theorem cP.known{f:Nat} {fn:Func} {c:Code} {args:List V} {v:V} (a:P0.funcs[f]? =some fn) (b:fn.body=some c) (d:C.K f args h=some v) (e:QY args=true) (g:v.flat=true) {Q:V->Hp->Prop} (hq:Q v h):cP C f args h Q:=by
 refine⟨v,h,⟨0,1,?_⟩,hq⟩;show(Ew C f).f _ _ args h=_
 simp_all[Ew,Yo,Bool.and_self,bB]
theorem cP.mono{f:Nat} {args:List V} {Q a:V->Hp->Prop} (hc:cP C f args h Q) (hq:∀v h,Q v h->a v h):cP C f args h a:=by
 obtain⟨v,h',b,c⟩:=hc;exact⟨v,h',b,hq _ _ c⟩
end
