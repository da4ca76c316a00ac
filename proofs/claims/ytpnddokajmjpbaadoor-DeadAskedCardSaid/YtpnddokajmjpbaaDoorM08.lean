/- Parts. -/
import Derived.Test.YtpnddokajmjpbaaDoorM07
namespace Go.Proofs.YtpnddokajmjpbaaDoor.Hx
abbrev Rho:=Nat->V
def Ev (C:Cfg)(f:Nat)(args:List V)(h:Hp)(v:V)(h':Hp):Prop:=∃m d,callN C m d f args h=some (v,h')
inductive Wp (C:Cfg) (n:Nat) (c:Code) (Q:X->Rho->Hp->Prop) (ρ:Rho) (h:Hp):Prop
 |mk (b:∃m d x a h',(codeC n c).f (callN C m d) m (.fn ρ []) h=some (x,.fn a [],h')/\Q x a h')
def oP{α:Type}(x:Option α)(k:α->Prop):Prop:=Option.rec (motive:=λ_=>Prop) False k x
theorem Jl{α:Type}(a:α)(k:α->Prop):oP (some a) k=k a:=rfl
theorem gz {α:Type} {x:Option α} {k:α->Prop}:oP x k↔∃a,x=some a/\k a:=by
 cases x with
 |none=>exact⟨λh=>h.elim,λ⟨_,h,_⟩=>nomatch h⟩
 |some a=>exact⟨λh=>⟨a,rfl,h⟩,λ⟨_,h,h'⟩=>by cases h;exact h'⟩
theorem d9{α:Type}{x:Option α}{k:α->Prop}{a:α}(h:x=some a)(h':k a):oP x k:=by subst h;exact h'
def cP (C:Cfg)(f:Nat)(args:List V)(h:Hp)(k:V->Hp->Prop):Prop:=∃v h',Ev C f args h v h'/\k v h'
def bP (v:V) (a b:Prop):Prop:=match v with
 | .bool x=>Bool.rec (motive:=λ_=>Prop) b a x
 |_=>False
theorem fw (x:Bool)(a b:Prop):bP (.bool x) a b=if x=true then a else b:=by cases x <;> rfl
section
variable{C:Cfg}{n:Nat}{Q:X->Rho->Hp->Prop}{ρ:Rho}{h:Hp}
theorem Wp.mono {c:Code} {a:X->Rho->Hp->Prop} (b:Wp C n c Q ρ h) (hq:∀x ρ h,Q x ρ h->a x ρ h):Wp C n c a ρ h:=by
 obtain⟨m,d,x,e,h',f,g⟩:=b;exact⟨m,d,x,e,h',f,hq _ _ _ g⟩
theorem Wp.skip (hq:Q .normal ρ h):Wp C n .skip Q ρ h:=⟨0,0,.normal,ρ,h,rfl,hq⟩
theorem Wp.ret (hq:Q .ret ρ h):Wp C n .ret Q ρ h:=⟨0,0,.ret,ρ,h,rfl,hq⟩
theorem Wp.exit{id:Nat}(hq:Q (.exit id) ρ h):Wp C n (.exit id) Q ρ h:=⟨0,0,.exit id,ρ,h,rfl,hq⟩
def andThen (k:Rho->Hp->Prop) (Q:X->Rho->Hp->Prop):X->Rho->Hp->Prop
 | .normal,ρ,h=>k ρ h
 |x,ρ,h=>Q x ρ h
theorem qk {m d a b:Nat} (e:m<=a) (g:d<=b) {c:Code} {t:Tm} {h:Hp} {r:X×Tm×Hp} (i:(codeC n c).f (callN C m d) m t h=some r):(codeC n c).f (callN C a b) a t h=some r:=
 iq (qn e g) e c i
theorem Wp.seq {a b:Code} (l:Wp C n a (andThen (Wp C n b Q) Q) ρ h):Wp C n (.seq a b) Q ρ h:=by
 obtain⟨m,d,x,k,h',c,e⟩:=l
 cases x with
 | normal=>
   obtain⟨f,g,o,i,j,p,q⟩:=e;refine⟨max m f,max d g,o,i,j,?_,q⟩;simp only[codeC,qk (wBu m f) (wBu d g) c,seqK]
   exact qk (wBi m f) (wBi d g) p
 |exit id=>exact⟨m,d,.exit id,k,h',by simp only[codeC,c,seqK],e⟩
 |ret=>exact⟨m,d,.ret,k,h',by simp only[codeC,c,seqK],e⟩
theorem Wp.cond {e:Operand} {a b:Code} (c:oP ((evO e).f (.fn ρ []) h) λv=>bP v (Wp C n a Q ρ h) (Wp C n b Q ρ h)):Wp C n (.cond e a b) Q ρ h:=by
 obtain⟨v,k,c⟩:=gz.1 c;unfold bP at c;split at c
 ·rename_i x
  cases x with
  | true=>
    obtain⟨m,d,x,g,h',i,j⟩:=c
    exact⟨m,d,x,g,h',by simp only[codeC,ei];exact⟨_,k,i⟩,j⟩
  | false=>
    obtain⟨m,d,x,g,h',i,j⟩:=c;exact⟨m,d,x,g,h',by simp only[codeC,ei];exact⟨_,k,i⟩,j⟩
 ·exact c.elim
def blockQ (id:Nat) (Q:X->Rho->Hp->Prop):X->Rho->Hp->Prop
 | .exit i,ρ,h=>Bool.rec (motive:=λ_=>Prop) (Q (.exit i) ρ h) (Q .normal ρ h) (Nat.beq i id)
 |x,ρ,h=>Q x ρ h
theorem Wp.block {id:Nat} {c:Code} (f:Wp C n c (blockQ id Q) ρ h):Wp C n (.block id c) Q ρ h:=by
 obtain⟨m,d,x,b,h',e,a⟩:=f
 cases x with
 |normal=>exact⟨m,d,.normal,b,h',by simp only[codeC,e,blockK],a⟩
 |ret=>exact⟨m,d,.ret,b,h',by simp only[codeC,e,blockK],a⟩
 | exit i=>
   simp only[blockQ]at a
   cases hb:Nat.beq i id with
   |true=>rw[hb]at a;exact⟨m,d,.normal,b,h',by simp only[codeC,e,blockK,hb],a⟩
   |false=>rw[hb]at a;exact⟨m,d,.exit i,b,h',by simp only[codeC,e,blockK,hb],a⟩
theorem Wp.loop {c:Code} (A:Wp C n c (andThen (Wp C n (.loop c) Q) Q) ρ h):Wp C n (.loop c) Q ρ h:=by
 obtain⟨m,d,x,p,h',g,q⟩:=A
 cases x with
 | normal=>
   obtain⟨a,b,o,i,l,s,B⟩:=q;refine⟨max m a+1,max d b,o,i,l,?_,B⟩;have e:=qk (C:=C) (n:=n) (wAq (wBu m a) (wBZ _)) (wBu d b) g;simp only[codeC]at s⊢;show seqK _ _=_;simp only[e,seqK];have G:(codeC n (.loop c)).f (callN C a b) a (.fn p []) h' = some (o,.fn i [],l):=s
   have u:∀(k k':Nat) (t:Tm) (h:Hp) (r:X×Tm×Hp),k<=k'->loopN (λt h=>(codeC n c).f (callN C a b) a t h) k t h=some r->
       loopN (λt h=>(codeC n c).f (callN C (max m a+1) (max d b)) (max m a+1) t h) k' t h=some r:=by
     intro k
     induction k with
     |zero=>intro k' t h r _ v;cases v
     | succ k D=>
       intro k' t h r H v;obtain⟨k',rfl⟩:∃j,k' = j+1:=⟨k'-1,by omega⟩
       have w:seqK ((codeC n c).f (callN C a b) a t h) (loopN (λt h=>(codeC n c).f (callN C a b) a t h) k)=some r:=v;show seqK ((codeC n c).f (callN C (max m a+1) (max d b)) (max m a+1) t h) (loopN (λt h=>(codeC n c).f (callN C (max m a+1) (max d b)) (max m a+1) t h) k')=some r
       have z:∀{r},(codeC n c).f (callN C a b) a t h=some r->(codeC n c).f (callN C (max m a+1) (max d b)) (max m a+1) t h=some r:=
         λE=>qk (wAq (wBi m a) (wBZ _)) (wBi d b) E
       rcases zu w with⟨F,g,e,y⟩|⟨e,y⟩
       ·rw[z e];exact D k' F g r (by omega) y
       ·rw[z e]
        obtain⟨o,t',h'⟩:=r
        cases o with
        |normal=>exact absurd rfl y
        |exit id=>rfl
        |ret=>rfl
   exact u a (max m a) _ _ _ (wBi m a) s
 | exit id=>
   refine⟨m+1,d,.exit id,p,h',?_,q⟩;have e:=qk (C:=C) (n:=n) (wBZ m) (wAF d) g;simp only[codeC];show seqK _ _=_
   simp only[e,seqK]
 | ret=>
   refine⟨m+1,d,.ret,p,h',?_,q⟩;have e:=qk (C:=C) (n:=n) (wBZ m) (wAF d) g;simp only[codeC];show seqK _ _=_;simp only[e,seqK]
theorem Wp.loopI {c:Code} (I:Nat->Rho->Hp->Prop) (b:∀k ρ h,I k ρ h->Wp C n c (andThen (λa h'=>∃k',k' < k/\I k' a h') Q) ρ h) {k:Nat} (h0:I k ρ h):Wp C n (.loop c) Q ρ h:=by
 induction k using Nat.strongRecOn generalizing ρ h with
 | _ k d=>
   refine .loop ((b k ρ h h0).mono λx a h' hq=>?_)
   cases x with
   |normal=>obtain⟨k',e,hi⟩:=hq;exact d k' e hi
   |exit id=>exact hq
   |ret=>exact hq
def dstR (n:Nat) (o:Oper) (K:Rho->Hp->Prop):V->Rho->Hp->Prop:=match o.dst with
 |none=>λ_ ρ h=>K ρ h
 | some d=>match Nat.blt d n with
   |true=>λv ρ h=>K (rset ρ d v) h
   |false=>λ_ _ _=>False
def valOf:R->Option (V×Hp)
 | .val v h=>some (v,h)
 | .call _ _=>none
def callOf:R->Option (Nat×List V)
 | .call f args=>some (f,args)
 | .val _ _=>none
def isCall (o:Oper):Bool:=match o.op with
 | .call c=>match c.callee with
   | .value _| .invoke _ _=>true
   | .builtin _=>false
 |_=>false
def wrR (C:Cfg) (o:Oper) (K:V->Rho->Hp->Prop):Rho->Hp->Prop:=match isCall o with
 |true=>λρ h=>oP (oB ((writeC o).f (.fn ρ []) h) callOf) λx=>cP C x.1 x.2 h λv h'=>K v ρ h'
 |false=>λρ h=>oP (oB ((writeC o).f (.fn ρ []) h) valOf) λx=>K x.1 ρ x.2
def opR (C:Cfg) (o:Oper) (K:V->Rho->Hp->Prop):Rho->Hp->Prop:=match cls o with
 |0=>λρ h=>oP ((pureC o).f (.fn ρ []) h) λv=>K v ρ h
 |1=>λρ h=>oP ((allocC o).f (.fn ρ [])) λr=>K (r.2 h.next) ρ (h.new r.1)
 |_=>wrR C o K
noncomputable def gV (b:Bool)(x:Option V):Option V:=Bool.rec (motive:=λ_=>Option V) (some .undef) x b
noncomputable def gH (b:Bool)(h:Hp)(x:Option (V×Hp)):Option (V×Hp):=Bool.rec (motive:=λ_=>Option (V×Hp)) (some (.undef,h)) x b
noncomputable def gC (b:Bool)(x:Option (Nat×List V)):Option (Option (Nat×List V)):=Bool.rec (motive:=λ_=>Option (Option (Nat×List V))) (some none) (oB x λy=>some (some y)) b
def cgP (C:Cfg) (x:Option (Nat×List V)) (h:Hp) (K:V->Hp->Prop):Prop:=match x with
 |none=>K .undef h
 |some y=>cP C y.1 y.2 h K
def gdR (C:Cfg) (o:Oper) (b:Bool) (K:V->Rho->Hp->Prop) (ρ:Rho) (h:Hp):Prop:=match cls o with
 |0=>oP (gV b ((pureC o).f (.fn ρ []) h)) λv=>K v ρ h
 |1=>oP (gH b h (oB ((allocC o).f (.fn ρ [])) λr=>some (r.2 h.next,h.new r.1))) λx=>K x.1 ρ x.2
 | _=>match isCall o with
   |true=>oP (gC b (oB ((writeC o).f (.fn ρ []) h) callOf)) λx=>cgP C x h λv h'=>K v ρ h'
   |false=>oP (gH b h (oB ((writeC o).f (.fn ρ []) h) valOf)) λx=>K x.1 ρ x.2
def stepR (C:Cfg) (n:Nat) (all:List Oper) (o:Oper) (K:Rho->Hp->Prop):Rho->Hp->Prop:=match deferC o with
 |some _=>λ_ _=>False
 | none=>match wantC n all o with
   |none=>opR C o (dstR n o K)
   |some g=>λρ h=>oP (g.f (.fn ρ [])) λb=>gdR C o b (dstR n o K) ρ h
noncomputable def regR (C:Cfg) (n:Nat) (all:List Oper) (K:Rho->Hp->Prop) (os:List Oper):Rho->Hp->Prop:=
 List.rec (motive:=λ_=>Rho->Hp->Prop) K (λo _ a=>stepR C n all o a) os
theorem GK (C:Cfg)(n:Nat)(all:List Oper)(K:Rho->Hp->Prop)(o:Oper)(os:List Oper):regR C n all K (o::os)=stepR C n all o (regR C n all K os):=rfl
theorem AT {o:Oper} {K:Rho->Hp->Prop} {v:V} (a:dstR n o K v ρ h):∃d,dstC n o=some d/\∃b,d.f (.fn ρ []) v = .fn b []/\K b h:=by
 unfold dstR at a;unfold dstC
 cases ho:o.dst with
 |none=>rw[ho]at a;exact⟨_,rfl,ρ,rfl,a⟩
 | some d=>
   rw[ho]at a;simp only at a⊢
   cases hb:Nat.blt d n with
   |true=>rw[hb]at a;exact⟨_,rfl,_,rfl,a⟩
   |false=>rw[hb]at a;exact a.elim
def OpGo (C:Cfg)(o:Oper)(K:V->Rho->Hp->Prop)(ρ:Rho)(h:Hp):Prop:=∃m d v h',(opC o).f (callN C m d) (.fn ρ []) h=some (v,h')/\K v ρ h'
theorem GZ {o:Oper} {K:V->Rho->Hp->Prop} (c:wrR C o K ρ h):(∃v h',(writeC o).f (.fn ρ []) h=some (.val v h')/\K v ρ h')\/∃f args,(writeC o).f (.fn ρ []) h=some (.call f args)/\cP C f args h λv h'=>K v ρ h':=by
 unfold wrR at c;cases hb:isCall o
 all_goals rw[hb]at c
 rotate_left
 ·obtain⟨x,a,d⟩:=gz.1 c;rw[ei]at a;obtain⟨r,e,b⟩:=a
  cases r with
  |val v h'=>cases b
  |call f args=>cases b;exact .inr ⟨f,args,e,d⟩
 ·obtain⟨x,a,d⟩:=gz.1 c;rw[ei]at a;obtain⟨r,e,b⟩:=a
  cases r with
  |val v h'=>cases b;exact .inl ⟨v,h',e,d⟩
  |call f args=>cases b
theorem AX {o:Oper} {K:V->Rho->Hp->Prop} (b:opR C o K ρ h):OpGo C o K ρ h:=by
 by_cases hc0:cls o=0
 ·have a:oP ((pureC o).f (.fn ρ []) h) (λv=>K v ρ h):=by unfold opR at b;rw[hc0]at b;exact b
  obtain⟨v,e,g⟩:=gz.1 a;exact⟨0,0,v,h,by unfold opC;rw[hc0];simp only[e,oB],g⟩
 ·by_cases hc1:cls o=1
  ·have a:oP ((allocC o).f (.fn ρ [])) (λr=>K (r.2 h.next) ρ (h.new r.1)):=by unfold opR at b;rw[hc1]at b;exact b
   obtain⟨r,e,g⟩:=gz.1 a;exact⟨0,0,_,_,by unfold opC;rw[hc1];simp only[e,oB],g⟩
  ·have a:wrR C o K ρ h:=by
    unfold opR at b;generalize cls o=c at b hc0 hc1;rcases c with _|_|c
    ·exact absurd rfl hc0
    ·exact absurd rfl hc1
    ·exact b
   have i:∀call,(opC o).f call (.fn ρ []) h=oB ((writeC o).f (.fn ρ []) h) λr=>match r with
     | .val v h=>some (v,h)
     | .call f args=>call f args h:=by
    intro call;unfold opC;split
    ·exact absurd (by assumption) hc0
    ·exact absurd (by assumption) hc1
    ·rfl
   rcases GZ a with⟨v,h',e,g⟩|⟨f,args,e,v,h',⟨m,d,j⟩,k⟩
   ·exact⟨0,0,v,h',by rw[i];simp only[e,oB],g⟩
   ·exact⟨m,d,v,h',by rw[i];simp only[e,oB];exact j,k⟩
theorem JQ {o:Oper} {b:Bool} {K:V->Rho->Hp->Prop} (e:gdR C o b K ρ h):(b=true/\OpGo C o K ρ h)\/(b=false/\K .undef ρ h):=by
 unfold gdR at e;by_cases hc0:cls o=0
 ·rw[hc0]at e;obtain⟨v,a,d⟩:=gz.1 e
  cases b with
  |true=>exact .inl ⟨rfl,AX (by unfold opR;rw[hc0];exact d9 a d)⟩
  |false=>cases a;exact .inr ⟨rfl,d⟩
 ·by_cases hc1:cls o=1
  ·rw[hc1]at e;obtain⟨v,a,d⟩:=gz.1 e
   cases b with
   | true=>
     obtain⟨r,i,j⟩:=ei.1 (show oB _ _=_ from a);cases j
     exact .inl ⟨rfl,AX (by unfold opR;rw[hc1];exact d9 i d)⟩
   |false=>cases a;exact .inr ⟨rfl,d⟩
  ·have k:∀K,wrR C o K ρ h->opR C o K ρ h:=by
    intro K e;unfold opR;generalize cls o=c at hc0 hc1;rcases c with _|_|c
    ·exact absurd rfl hc0
    ·exact absurd rfl hc1
    ·exact e
   have g:(match isCall o with
     |true=>oP (gC b (oB ((writeC o).f (.fn ρ []) h) callOf)) λx=>cgP C x h λv h'=>K v ρ h'
     |false=>oP (gH b h (oB ((writeC o).f (.fn ρ []) h) valOf)) λx=>K x.1 ρ x.2):=by
    generalize cls o=c at e hc0 hc1;rcases c with _|_|c
    ·exact absurd rfl hc0
    ·exact absurd rfl hc1
    ·exact e
   cases hi:isCall o with
   | true=>
     rw[hi]at g;obtain⟨x,a,d⟩:=gz.1 g
     cases b with
     | true=>
       obtain⟨y,i,j⟩:=ei.1 (show oB _ _=_ from a);cases j
       exact .inl ⟨rfl,AX (k _ (by unfold wrR;rw[hi];exact d9 i d))⟩
     |false=>cases a;exact .inr ⟨rfl,d⟩
   | false=>
     rw[hi]at g;obtain⟨x,a,d⟩:=gz.1 g
     cases b with
     |true=>exact .inl ⟨rfl,AX (k _ (by unfold wrR;rw[hi];exact d9 a d))⟩
     |false=>cases a;exact .inr ⟨rfl,d⟩
theorem Dc {m d a b:Nat} (c:m<=a) (e:d<=b) {all os:List Oper} {t:Tm} {h:Hp} {r:Tm×Hp} (g:(regionC n all os).f (callN C m d) t h=some r):(regionC n all os).f (callN C a b) t h=some r:=
 uZ (qn c e) os g
theorem CT {all:List Oper} {K:Rho->Hp->Prop}:∀(os:List Oper) {ρ:Rho} {h:Hp},regR C n all K os ρ h->∃m d c h',(regionC n all os).f (callN C m d) (.fn ρ []) h=some (.fn c [],h')/\K c h'
 |[],ρ,h,a=>⟨0,0,ρ,h,rfl,a⟩
 | o ::os,ρ,h,a=>by
   rw[GK]at a;unfold stepR at a
   cases hq:deferC o with
   |some q=>rw[hq]at a;exact a.elim
   | none=>
     rw[hq]at a;simp only at a
     have t:∀{ρ h},OpGo C o (dstR n o (regR C n all K os)) ρ h->∃d,dstC n o=some d/\∃m e v s,(opC o).f (callN C m e) (.fn ρ []) h=some (v,s)/\∃i,d.f (.fn ρ []) v = .fn i []/\
        ∃c h',(regionC n all os).f (callN C m e) (.fn i []) s=some (.fn c [],h')/\K c h':=by
       intro ρ h a;obtain⟨m,e,v,s,u,B⟩:=a;obtain⟨d,j,i,k,x⟩:=AT B;obtain⟨y,z,c,h',l,p⟩:=CT os x;exact⟨d,j,max m y,max e z,v,s,zh (qn (wBu _ _) (wBu _ _)) u,i,k,c,h',Dc (wBi _ _) (wBi _ _) l,p⟩
     cases hw:wantC n all o with
     | none=>
       rw[hw]at a;obtain⟨d,j,m,e,v,s,u,i,k,c,h',l,p⟩:=t (AX a);refine⟨m,e,c,h',?_,p⟩;simp only[regionC,stepC,j,hw,hq,u,oB,k]
       exact l
     | some g=>
       rw[hw]at a;obtain⟨b,A,a⟩:=gz.1 a;rcases JQ a with⟨w,r⟩|⟨w,r⟩ <;> subst w
       ·obtain⟨d,j,m,e,v,s,u,i,k,c,h',l,p⟩:=t r
        refine⟨m,e,c,h',?_,p⟩;simp only[regionC,stepC,j,hw,A,u,oB,k];exact l
       ·obtain⟨d,j,i,k,x⟩:=AT r
        obtain⟨y,z,c,h',l,p⟩:=CT os x;refine⟨y,z,c,h',?_,p⟩;simp only[regionC,stepC,j,hw,A,oB,k];exact l
theorem Wp.region {id:Nat} {ops:Array Oper} (a:regR C n ops.toList (λρ h=>Q .normal ρ h) ops.toList ρ h):Wp C n (.region id ops false) Q ρ h:=by
 obtain⟨m,d,b,h',c,e⟩:=CT _ a;exact⟨m,d,.normal,b,h',by simp only[codeC,c,oB],e⟩
end
section
variable{C:Cfg}{n:Nat}{Q:X->Rho->Hp->Prop}{ρ:Rho}{h:Hp}
def holdP (h:Hp) (r:Rec):Prop:=match r.made with
 |none=>(pureC r.it.o).f r.t h=some r.v
 |some (l,ob)=>h.get l=some ob/\O.beq ob ob=true
def stabP (k:Nat) (h:Hp):List (Bool×Rec)->Prop->Prop
 |[],K=>K
 |r::rs,K=>Bool.rec (motive:=λ_=>Prop) (Bool.rec (motive:=λ_=>Prop) True (holdP h r.2) r.1/\stabP k h rs K) (stabP k h rs K) (Nat.blt r.2.last k)
def recs (rs:List (Bool×Rec)):List Rec:=(rs.filter (·.1)).map (·.2)
def itR (C:Cfg) (n:Nat) (all:List Oper) (ws:List It) (a:It) (c:Nat->Rho->Hp->List (Bool×Rec)->Prop) (k:Nat):Rho->Hp->List (Bool×Rec)->Prop:=match cls a.o with
  | 0=>match wantC n all a.o with
    |none=>λρ h rs=>oP ((pureC a.o).f (.fn ρ []) h) λv=>dstR n a.o (λd h=>c k d h ((true,{it:=a,t:= .fn ρ [],v,made:=none,last:=late ws a})::rs)) v ρ h
    |some g=>λρ h rs=>oP (g.f (.fn ρ [])) λb=>oP (gV b ((pureC a.o).f (.fn ρ []) h)) λv=>
       dstR n a.o (λd h=>c k d h ((b,{it:=a,t:= .fn ρ [],v,made:=none,last:=late ws a})::rs)) v ρ h
  | 1=>match wantC n all a.o with
    |none=>λρ h rs=>oP ((allocC a.o).f (.fn ρ [])) λr=>dstR n a.o (λd h'=>c k d h' ((true,{it:=a,t:= .fn ρ [],v:=r.2 h.next,made:=some (h.next,r.1),last:=late ws a})::rs)) (r.2 h.next) ρ (h.new r.1)
    |some _=>λ_ _ _=>False
  | _ =>match wantC n all a.o with
    |none=>λρ h rs=>stabP k h rs (wrR C a.o (λv ρ h'=>h.next<=h'.next/\dstR n a.o (λρ h=>c (Nat.succ k) ρ h rs) v ρ h') ρ h)
    | some g=>match isCall a.o with
      |true=>λρ h rs=>stabP k h rs (oP (g.f (.fn ρ [])) λb=>oP (gC b (oB ((writeC a.o).f (.fn ρ []) h) callOf)) λx=>cgP C x h λv h'=>h.next<=h'.next/\dstR n a.o (λρ h=>c (Nat.succ k) ρ h rs) v ρ h')
      |false=>λ_ _ _=>False
noncomputable def seqR (C:Cfg) (n:Nat) (all:List Oper) (ws:List It) (K:Rho->Hp->Prop) (l:List It):Nat->Rho->Hp->List (Bool×Rec)->Prop:=
 List.rec (motive:=λ_=>Nat->Rho->Hp->List (Bool×Rec)->Prop) (λk ρ h rs=>stabP k h rs (K ρ h)) (λa _ b k=>itR C n all ws a b k) l
theorem FU (C:Cfg)(n:Nat)(all:List Oper)(ws:List It)(K:Rho->Hp->Prop)(a:It)(l:List It)(k:Nat):seqR C n all ws K (a::l) k=itR C n all ws a (seqR C n all ws K l) k:=rfl
theorem yV {k:Nat}:∀{rs:List (Bool×Rec)} {K:Prop},stabP k h rs K->stable k h (recs rs)=true/\K
 |[],K,a=>⟨rfl,a⟩
 | (b,r)::rs,K,a=>by
   simp only[stabP]at a;have c:∀{K:Prop},stabP k h rs K->(b=true->(Nat.blt r.last k ||holdsAt h r)=true)->stable k h (recs ((b,r)::rs))=true/\K:=by
     intro K a d;obtain⟨f,g⟩:=yV a;refine⟨?_,g⟩
     cases b with
     |false=>exact f
     | true=>
       show stable k h (r::recs rs)=true;unfold stable;rw[wCD,d rfl,Bool.true_and];exact f
   cases d:Nat.blt r.last k with
   |true=>rw[d]at a;exact c a (λ_=>by rw[d];rfl)
   | false=>
     rw[d]at a;obtain⟨h0,a⟩:=a;refine c a (λe=>?_);subst e;rw[d,Bool.false_or];have h0:holdP h r:=h0;unfold holdP at h0;unfold holdsAt
     cases hm:r.made with
     |none=>rw[hm]at h0;simp only at h0⊢;rw[h0];exact V.beq_self _
     | some x=>
       obtain⟨l,ob⟩:=x;rw[hm]at h0;simp only at h0⊢;rw[h0.1];exact h0.2
theorem Ko {b:Bool} {x:Option V} {v:V} (h:gV b x=some v):(b=true/\x=some v)\/(b=false/\v = .undef):=by
 cases b with
 |true=>exact .inl ⟨rfl,h⟩
 |false=>cases h;exact .inr ⟨rfl,rfl⟩
theorem xF {o:Oper} {d:DF} (c:dstC n o=some d) {K:Rho->Hp->Prop} {v:V} (e:dstR n o K v ρ h):∃a,d.f (.fn ρ []) v = .fn a []/\K a h:=by
 obtain⟨i,b,g⟩:=AT e;rw[c]at b;cases b;exact g
theorem Gb {m d a b:Nat} (c:m<=a) (e:d<=b) {all:List Oper} {ws l:List It} {k:Nat} {t:Tm} {h:Hp} {rs:List Rec} {r:Tm×Hp} (g:(seqC n all ws l k).f (callN C m d) t h rs=some r) :
  (seqC n all ws l k).f (callN C a b) t h rs=some r:=rY (qn c e) l k g
theorem vy {all:List Oper} {ws:List It} {K:Rho->Hp->Prop}:∀(l:List It) (k:Nat) {ρ:Rho} {h:Hp} {rs:List (Bool×Rec)},seqR C n all ws K l k ρ h rs->
  ∃m d j h',(seqC n all ws l k).f (callN C m d) (.fn ρ []) h (recs rs)=some (.fn j [],h')/\K j h'
 | [],k,ρ,h,rs,e=>by
   obtain⟨s,w⟩:=yV e
   exact⟨0,0,ρ,h,by simp only[seqC,s,bB],w⟩
 | a ::l,k,ρ,h,rs,e=>by
   have i:∀{K:Rho->Hp->Prop} {v:V} {ρ:Rho} {h:Hp},dstR n a.o K v ρ h->∃d,dstC n a.o=some d:=λe=>let⟨d,s,_⟩:=AT e;⟨d,s⟩
   have u:∀{d},dstC n a.o=some d->∀call t h rs,(seqC n all ws (a::l) k).f call t h rs=(match cls a.o with
       |0=>pureS n all ws a d (seqC n all ws l k)
       |1=>allocS n all ws a d (seqC n all ws l k)
       |_=>writeS n all k a d (seqC n all ws l (Nat.succ k))).f call t h rs:=by
     intro d p call t h rs
     conv=>lhs;unfold seqC
     rw[p];simp only;generalize cls a.o=c;rcases c with _|_|c <;> rfl
   have J:∀call t h,cls a.o≠0->cls a.o≠1->(opC a.o).f call t h=oB ((writeC a.o).f t h) λr=>match r with
       | .val v h=>some (v,h)
       | .call f args=>call f args h:=by
     intro call t h h0 s;unfold opC;split
     ·exact absurd (by assumption) h0
     ·exact absurd (by assumption) s
     ·rfl
   have G:∀t,wantC n all a.o=none->wants n all a.o t=some true:=λt h=>by unfold wants;rw[h]
   have D:∀t g,wantC n all a.o=some g->wants n all a.o t=g.f t:=λt g h=>by unfold wants;rw[h]
   have step:∀{h:Hp} {ρ:Rho} {rs:List (Bool×Rec)} {c:Nat},cls a.o=c+2->stable k h (recs rs)=true->wants n all a.o (.fn ρ [])=some true->
       wrR C a.o (λv ρ h'=>h.next<=h'.next/\dstR n a.o (λρ h=>seqR C n all ws K l (Nat.succ k) ρ h rs) v ρ h') ρ h->
       ∃m d j h',(seqC n all ws (a::l) k).f (callN C m d) (.fn ρ []) h (recs rs)=some (.fn j [],h')/\K j h':=by
     intro h ρ rs c hc q O e;have E:=λcall=>J call (.fn ρ []) h (by omega) (by omega);rcases GZ e with⟨v,h',F,H,e⟩|⟨f,args,F,v,h',⟨P,d0,Q⟩,H,e⟩
     ·simp only[F,oB]at E
      obtain⟨d,p⟩:=i e;obtain⟨L,s,e⟩:=xF p e;obtain⟨m,z,j,B,w,A⟩:=vy l _ e;exact⟨m,z,j,B,by rw[u p,hc];simp only[writeS,q,bB,O,oB,E,s,wAS H];exact w,A⟩
     ·simp only[F,oB]at E
      obtain⟨d,p⟩:=i e;obtain⟨L,s,e⟩:=xF p e;obtain⟨m,z,j,B,w,A⟩:=vy l _ e;refine⟨max P m,max d0 z,j,B,?_,A⟩;have M:=qn (C:=C) (wBu P m) (wBu d0 z) _ _ _ _ Q;rw[u p,hc];simp only[writeS,q,bB,O,oB,E,M,s,wAS H];exact Gb (wBi P m) (wBi d0 z) w
   have I:∀{h:Hp} {ρ:Rho} {rs:List (Bool×Rec)} {c:Nat},cls a.o=c+2->stable k h (recs rs)=true->wants n all a.o (.fn ρ [])=some false->
       dstR n a.o (λρ h=>seqR C n all ws K l (Nat.succ k) ρ h rs) .undef ρ h->
       ∃m d j h',(seqC n all ws (a::l) k).f (callN C m d) (.fn ρ []) h (recs rs)=some (.fn j [],h')/\K j h':=by
     intro h ρ rs c hc q O e;obtain⟨d,p⟩:=i e;obtain⟨L,s,e⟩:=xF p e;obtain⟨m,z,j,B,w,A⟩:=vy l _ e;exact⟨m,z,j,B,by rw[u p,hc];simp only[writeS,q,bB,O,oB,s];exact w,A⟩
   rw[FU]at e;unfold itR at e;generalize hc:cls a.o=c at e;rcases c with _|_|c
   ·simp only at e
    cases hwc:wantC n all a.o with
    | none=>
      rw[hwc]at e;obtain⟨v,F,e⟩:=gz.1 e;obtain⟨d,p⟩:=i e;obtain⟨L,s,e⟩:=xF p e;obtain⟨m,z,j,h',w,A⟩:=vy l k e
      exact⟨m,z,j,h',by rw[u p,hc];simp only[pureS,G _ hwc,F,oB,s];exact w,A⟩
    | some g=>
      rw[hwc]at e;obtain⟨b,N,e⟩:=gz.1 e;obtain⟨v,F,e⟩:=gz.1 e;obtain⟨d,p⟩:=i e;obtain⟨L,s,e⟩:=xF p e;obtain⟨m,z,j,h',w,A⟩:=vy l k e;rcases Ko F with⟨R,S⟩|⟨R,U⟩
      ·subst R
       exact⟨m,z,j,h',by rw[u p,hc];simp only[pureS,D _ _ hwc,N,S,oB,s];exact w,A⟩
      ·subst R;subst U
       exact⟨m,z,j,h',by rw[u p,hc];simp only[pureS,D _ _ hwc,N,oB,s];exact w,A⟩
   ·simp only at e
    cases hwc:wantC n all a.o with
    | none=>
      rw[hwc]at e;obtain⟨v,F,e⟩:=gz.1 e;obtain⟨d,p⟩:=i e;obtain⟨L,s,e⟩:=xF p e;obtain⟨m,z,j,h',w,A⟩:=vy l k e
      exact⟨m,z,j,h',by rw[u p,hc];simp only[allocS,G _ hwc,F,oB,s];exact w,A⟩
    |some g=>rw[hwc]at e;exact e.elim
   ·simp only at e
    cases hwc:wantC n all a.o with
    | none=>
      rw[hwc]at e;obtain⟨q,e⟩:=yV e
      exact step hc q (G _ hwc) e
    | some g=>
      rw[hwc]at e;simp only at e
      cases hi:isCall a.o with
      |false=>rw[hi]at e;exact e.elim
      | true=>
        rw[hi]at e;obtain⟨q,e⟩:=yV e;obtain⟨b,N,e⟩:=gz.1 e;obtain⟨x,T,e⟩:=gz.1 e
        cases b with
        | true=>
          obtain⟨y,A,W⟩:=ei.1 (show oB _ _=_ from T);cases W
          exact step hc q (by rw[D _ _ hwc,N]) (by unfold wrR;rw[hi];exact d9 A e)
        | false=>
          cases T;exact I hc q (by rw[D _ _ hwc,N]) e.2
noncomputable def drawable (all:List Oper):Bool:=
 drawOk (items all 0 []) (wsOf (items all 0 []))&&orderOk (items all 0 []) (wsOf (items all 0 [])) (order (items all 0 []) (wsOf (items all 0 [])) (wsOf (items all 0 [])) 0) 0 0
noncomputable def drawR (C:Cfg) (n:Nat) (all:List Oper) (K:Rho->Hp->Prop) (ρ:Rho) (h:Hp):Prop:=
 seqR C n all (wsOf (items all 0 [])) K (order (items all 0 []) (wsOf (items all 0 [])) (wsOf (items all 0 [])) 0) 0 ρ h []
theorem Wp.draw {id:Nat} {ops:Array Oper} (a:drawable ops.toList=true) (c:drawR C n ops.toList (λρ h=>Q .normal ρ h) ρ h):Wp C n (.region id ops true) Q ρ h:=by
 obtain⟨m,d,f,h',b,g⟩:=vy _ _ c;have e:recs []=[]:=rfl;rw[e]at b;refine⟨m,d,.normal,f,h',?_,g⟩;unfold drawable at a;simp only[codeC,drawC,a,b,oB]
noncomputable def codeR (C:Cfg) (n:Nat) (c:Code):(X->Rho->Hp->Prop)->Rho->Hp->Prop:=
 Code.rec (motive:=λ_=>(X->Rho->Hp->Prop)->Rho->Hp->Prop)
  (λQ=>Q .normal)
  (fun _ ops d Q=>match d with
   |false=>regR C n ops.toList (λρ h=>Q .normal ρ h) ops.toList
   | true=>match drawable ops.toList with
     |true=>drawR C n ops.toList (λρ h=>Q .normal ρ h)
     |false=>λ_ _=>False)
  (λ_ b a _ Q=>a (andThen (Wp C n b Q) Q))
  (λc _ _ a e Q ρ h=>oP ((evO c).f (.fn ρ []) h) λv=>bP v (a Q ρ h) (e Q ρ h))
  (λid _ g Q=>g (blockQ id Q))
  (λc _ Q=>Wp C n (.loop c) Q)
  (λ_ _ _ _ _ _ _ _ _=>False)
  (λid Q=>Q (.exit id))
  (λ_ _ _ _ _=>False)
  (λ_ _ _ _=>False)
  (λ_ _ _ _=>False)
  (λQ=>Q .ret)
  (λ_ _ _ _=>False) c
theorem Wp.code:∀(c:Code) {Q:X->Rho->Hp->Prop} {ρ:Rho} {h:Hp},codeR C n c Q ρ h->Wp C n c Q ρ h
 | .skip,_,_,_,d=> .skip d
 | .region _ ops false,_,_,_,d=> .region d
 | .region _ ops true,Q,ρ,h,d=>by
   have e:(match drawable ops.toList with
       |true=>drawR C n ops.toList (λρ h=>Q .normal ρ h)
       |false=>λ_ _=>False) ρ h:=d
   cases hd:drawable ops.toList with
   |true=>rw[hd]at e;exact .draw hd e
   |false=>rw[hd]at e;exact e.elim
 | .seq a _,_,_,_,d=> .seq (Wp.code a d)
 | .cond c a b,_,_,_,d=>by
   obtain⟨v,f,d⟩:=gz.1 d;refine .cond (d9 f ?_);unfold bP at d⊢;split at d
   ·rename_i x
    cases x with
    |true=>exact Wp.code a d
    |false=>exact Wp.code b d
   ·exact d.elim
 | .block id c,_,_,_,d=> .block (Wp.code c d)
 | .loop c,_,_,_,d=>d
 | .exit id,_,_,_,d=> .exit d
 | .ret,_,_,_,d=> .ret d
 | .rangeFunc ..,_,_,_,d=>d.elim
 | .scope _,_,_,_,d=>d.elim
 | .label _,_,_,_,d=>d.elim
 | .goto _,_,_,_,d=>d.elim
 | .refuse _,_,_,_,d=>d.elim
def retP (l:List ResultVar)(Q:V->Hp->Prop)(ρ:Rho)(h:Hp):Prop:=oP (resVs (.fn ρ []) h l) λvs=>Q (tupleOf vs) h
def bodyQ (l:List ResultVar) (Q:V->Hp->Prop):X->Rho->Hp->Prop
 | .exit _,_,_=>False
 |_,ρ,h=>retP l Q ρ h
def argsR (args:List V):Rho:=λi=>(args[i]?).getD .undef
theorem cP.func (hs:C.start=startF) {f:Nat} {fn:Func} {c:Code} {args:List V} (l:P0.funcs[f]? =some fn) (n:fn.body=some c) (o:C.K f args h=none) (g:args.length<=fn.ntmps) {Q:V->Hp->Prop}
  (p:Wp C fn.ntmps c (bodyQ fn.results.toList Q) (argsR args) h):cP C f args h Q:=by
 obtain ⟨m,d,x,q,h',r,i⟩:=p;have a:retP fn.results.toList Q q h'->(∀id,x≠ .exit id)->cP C f args h Q:=by
  intro s t;obtain⟨vs,k,u⟩:=gz.1 s;refine⟨_,_,⟨m,d+1,?_⟩,u⟩;show(funcC C f).f (callN C m d) m args h=_;unfold funcC;rw[l];simp only[n,o,orB,hs];have b:Nat.ble args.length fn.ntmps=true:=wAS g;have j:startF args = .fn (argsR args) []:=rfl;rw[j,b,r]
  cases x with
  |normal=>simp only[bB,oB,Tm.ds,runD,k]
  |ret=>simp only[bB,oB,Tm.ds,runD,k]
  |exit id=>exact absurd rfl (t id)
 cases x with
 |normal=>exact a i (λid e=>nomatch e)
 |ret=>exact a i (λid e=>nomatch e)
 |exit id=>exact i.elim
theorem cP.funcN (hs:C.start=startF) {f:Nat} {fn:Func} {c:Code} {args:List V} {k:Nat} {rs:List ResultVar} (b:P0.funcs[f]? =some fn) (d:fn.body=some c) (e:fn.ntmps=k) (g:fn.results.toList=rs)
  (i:C.K f args h=none) (a:args.length<=k) {Q:V->Hp->Prop} (j:Wp C k c (bodyQ rs Q) (argsR args) h):cP C f args h Q:=by
 subst e;subst g;exact cP.func hs b d i a j
theorem cP.known {f:Nat} {fn:Func} {c:Code} {args:List V} {v:V} (a:P0.funcs[f]? =some fn) (b:fn.body=some c) (d:C.K f args h=some v) (e:flats args=true) (g:v.flat=true) {Q:V->Hp->Prop} (hq:Q v h):cP C f args h Q:=by
 refine⟨v,h,⟨0,1,?_⟩,hq⟩;show(funcC C f).f _ _ args h=_;unfold funcC;rw[a];simp only[b,d,orB,e,g,Bool.and_self,bB]
theorem cP.ext {f:Nat} {fn:Func} {args:List V} {v:V} (a:P0.funcs[f]? =some fn) (b:fn.body=none) (c:extF (C.ext f) args=some v) {Q:V->Hp->Prop} (hq:Q v h):cP C f args h Q:=by
 refine⟨v,h,⟨0,1,?_⟩,hq⟩;show(funcC C f).f _ _ args h=_;unfold funcC;rw[a];simp only[b,c,oB]
theorem cP.mono {f:Nat} {args:List V} {Q a:V->Hp->Prop} (hc:cP C f args h Q) (hq:∀v h,Q v h->a v h):cP C f args h a:=by
 obtain⟨v,h',b,c⟩:=hc;exact⟨v,h',b,hq _ _ c⟩
end
