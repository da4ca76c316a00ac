/- Parts. -/
import Derived.Test.YtjgjgngfjopaaaaDoorM07
namespace Go.Proofs.YtjgjgngfjopaaaaDoor.Hx
abbrev gB:=Nat->V
def Ev(C:fu)(f:Nat)(args:List V)(h:Hp)(v:V)(h':Hp):Prop:=∃m d,kh C m d f args h=some (v,h')
inductive Wp (C:fu) (n:Nat) (c:Code) (Q:X->gB->Hp->Prop) (ρ:gB) (h:Hp):Prop
 |mk (b:∃m d x a h',(iB n c).f (kh C m d) m (.fn ρ []) h=some (x,.fn a [],h')/\Q x a h')
def oP{α:Type}(x:Option α)(k:α->Prop):Prop:=Option.rec (motive:=λ_=>Prop) False k x
theorem YV{α:Type}(a:α)(k:α->Prop):oP (some a) k=k a:=rfl
theorem j6{α:Type} {x:Option α} {k:α->Prop}:oP x k↔∃a,x=some a/\k a:=by
 cases x with
 |none=>exact⟨λh=>h.elim,λ⟨_,h,_⟩=>nomatch h⟩
 |some a=>exact⟨λh=>⟨a,rfl,h⟩,λ⟨_,h,h'⟩=>by cases h;exact h'⟩
theorem ed{α:Type}{x:Option α}{k:α->Prop}{a:α}(h:x=some a)(h':k a):oP x k:=by subst h;exact h'
def cP(C:fu)(f:Nat)(args:List V)(h:Hp)(k:V->Hp->Prop):Prop:=∃v h',Ev C f args h v h'/\k v h'
def bP(v:V) (a b:Prop):Prop:=match v with
 | .bool x=>Bool.rec (motive:=λ_=>Prop) b a x
 |_=>False
theorem ie(x:Bool)(a b:Prop):bP (.bool x) a b=if x=true then a else b:=by cases x <;> rfl
section
variable{C:fu}{n:Nat}{Q:X->gB->Hp->Prop}{ρ:gB}{h:Hp}
theorem Wp.mono{c:Code} {a:X->gB->Hp->Prop} (b:Wp C n c Q ρ h) (hq:∀x ρ h,Q x ρ h->a x ρ h):Wp C n c a ρ h:=by
 obtain⟨m,d,x,e,h',f,g⟩:=b;exact⟨m,d,x,e,h',f,hq _ _ _ g⟩
theorem Wp.skip(hq:Q .normal ρ h):Wp C n .skip Q ρ h:=⟨0,0,.normal,ρ,h,rfl,hq⟩
theorem Wp.ret(hq:Q .ret ρ h):Wp C n .ret Q ρ h:=⟨0,0,.ret,ρ,h,rfl,hq⟩
theorem Wp.exit{id:Nat}(hq:Q (.exit id) ρ h):Wp C n (.exit id) Q ρ h:=⟨0,0,.exit id,ρ,h,rfl,hq⟩
def andThen(k:gB->Hp->Prop) (Q:X->gB->Hp->Prop):X->gB->Hp->Prop
 | .normal,ρ,h=>k ρ h
 |x,ρ,h=>Q x ρ h
theorem xz{m d a b:Nat} (e:m<=a) (g:d<=b) {c:Code} {t:Tm} {h:Hp} {r:X×Tm×Hp} (hv:(iB n c).f (kh C m d) m t h=some r):(iB n c).f (kh C a b) a t h=some r:=
 lY (xx e g) e c hv
theorem Wp.seq{a b:Code} (l:Wp C n a (andThen (Wp C n b Q) Q) ρ h):Wp C n (.seq a b) Q ρ h:=by
 obtain⟨m,d,x,k,h',c,e⟩:=l
 cases x with
 | normal=>
   obtain⟨f,g,o,i,j,p,q⟩:=e;refine⟨max m f,max d g,o,i,j,?_,q⟩;simp only[iB,xz (wBy m f) (wBy d g) c,El]
   exact xz (YW m f) (YW d g) p
 |exit id=>exact⟨m,d,.exit id,k,h',by simp only[iB,c,El],e⟩
 |ret=>exact⟨m,d,.ret,k,h',by simp only[iB,c,El],e⟩
theorem Wp.cond{e:Operand} {a b:Code} (c:oP ((sR e).f (.fn ρ []) h) λv=>bP v (Wp C n a Q ρ h) (Wp C n b Q ρ h)):Wp C n (.cond e a b) Q ρ h:=by
 obtain⟨v,hv,c⟩:=j6.1 c;unfold bP at c;split at c
 ·rename_i x
  cases x with
  | true=>
    obtain⟨m,d,x,g,h',i,j⟩:=c
    exact⟨m,d,x,g,h',by simp only[iB,ft];exact⟨_,hv,i⟩,j⟩
  | false=>
    obtain⟨m,d,x,g,h',i,j⟩:=c;exact⟨m,d,x,g,h',by simp only[iB,ft];exact⟨_,hv,i⟩,j⟩
 ·exact c.elim
def vX(id:Nat) (Q:X->gB->Hp->Prop):X->gB->Hp->Prop
 | .exit i,ρ,h=>Bool.rec (motive:=λ_=>Prop) (Q (.exit i) ρ h) (Q .normal ρ h) (Nat.beq i id)
 |x,ρ,h=>Q x ρ h
theorem Wp.block{id:Nat} {c:Code} (f:Wp C n c (vX id Q) ρ h):Wp C n (.block id c) Q ρ h:=by
 obtain⟨m,d,x,b,h',e,a⟩:=f
 cases x with
 |normal=>exact⟨m,d,.normal,b,h',by simp only[iB,e,JM],a⟩
 |ret=>exact⟨m,d,.ret,b,h',by simp only[iB,e,JM],a⟩
 | exit i=>
   simp only[vX]at a
   cases hb:Nat.beq i id with
   |true=>rw[hb]at a;exact⟨m,d,.normal,b,h',by simp only[iB,e,JM,hb],a⟩
   |false=>rw[hb]at a;exact⟨m,d,.exit i,b,h',by simp only[iB,e,JM,hb],a⟩
theorem Wp.loop{c:Code} (z:Wp C n c (andThen (Wp C n (.loop c) Q) Q) ρ h):Wp C n (.loop c) Q ρ h:=by
 obtain⟨m,d,x,p,h',g,q⟩:=z
 cases x with
 | normal=>
   obtain⟨a,b,o,i,l,s,A⟩:=q;refine⟨max m a+1,max d b,o,i,l,?_,A⟩;have e:=xz (C:=C) (n:=n) (Gt (wBy m a) (Nk _)) (wBy d b) g;simp only[iB]at s⊢;show El _ _=_;simp only[e,El];have F:(iB n (.loop c)).f (kh C a b) a (.fn p []) h' = some (o,.fn i [],l):=s
   have u:∀(k k':Nat) (t:Tm) (h:Hp) (r:X×Tm×Hp),k<=k'->EI (λt h=>(iB n c).f (kh C a b) a t h) k t h=some r->
       EI (λt h=>(iB n c).f (kh C (max m a+1) (max d b)) (max m a+1) t h) k' t h=some r:=by
     intro k
     induction k with
     |zero=>intro k' t h r _ hv;cases hv
     | succ k B=>
       intro k' t h r G hv;obtain⟨k',rfl⟩:∃j,k' = j+1:=⟨k'-1,by omega⟩
       have v:El ((iB n c).f (kh C a b) a t h) (EI (λt h=>(iB n c).f (kh C a b) a t h) k)=some r:=hv;show El ((iB n c).f (kh C (max m a+1) (max d b)) (max m a+1) t h) (EI (λt h=>(iB n c).f (kh C (max m a+1) (max d b)) (max m a+1) t h) k')=some r
       have y:∀{r},(iB n c).f (kh C a b) a t h=some r->(iB n c).f (kh C (max m a+1) (max d b)) (max m a+1) t h=some r:=
         λD=>xz (Gt (YW m a) (Nk _)) (YW d b) D
       rcases IN v with⟨E,g,e,w⟩|⟨e,w⟩
       ·rw[y e];exact B k' E g r (by omega) w
       ·rw[y e]
        obtain⟨o,t',h'⟩:=r
        cases o with
        |normal=>exact absurd rfl w
        |exit id=>rfl
        |ret=>rfl
   exact u a (max m a) _ _ _ (YW m a) s
 | exit id=>
   refine⟨m+1,d,.exit id,p,h',?_,q⟩;have e:=xz (C:=C) (n:=n) (Nk m) (jj d) g;simp only[iB];show El _ _=_
   simp only[e,El]
 | ret=>
   refine⟨m+1,d,.ret,p,h',?_,q⟩;have e:=xz (C:=C) (n:=n) (Nk m) (jj d) g;simp only[iB];show El _ _=_;simp only[e,El]
theorem Wp.zaj{c:Code} (I:Nat->gB->Hp->Prop) (b:∀k ρ h,I k ρ h->Wp C n c (andThen (λa h'=>∃k',k' < k/\I k' a h') Q) ρ h) {k:Nat} (h0:I k ρ h):Wp C n (.loop c) Q ρ h:=by
 induction k using Nat.strongRecOn generalizing ρ h with
 | _ k d=>
   refine .loop ((b k ρ h h0).mono λx a h' hq=>?_)
   cases x with
   |normal=>obtain⟨k',e,hi⟩:=hq;exact d k' e hi
   |exit id=>exact hq
   |ret=>exact hq
def oR(n:Nat) (o:Oper) (K:gB->Hp->Prop):V->gB->Hp->Prop:=match o.dst with
 |none=>λ_ ρ h=>K ρ h
 | some d=>match Nat.blt d n with
   |true=>λv ρ h=>K (fh ρ d v) h
   |false=>λ_ _ _=>False
def valOf:R->Option (V×Hp)
 | .val v h=>some (v,h)
 | .call _ _=>none
def Hm:R->Option (Nat×List V)
 | .call f args=>some (f,args)
 | .val _ _=>none
def yw(o:Oper):Bool:=match o.op with
 | .call c=>match c.callee with
   | .value _| .invoke _ _=>true
   | .builtin _=>false
 |_=>false
def Qm(C:fu) (o:Oper) (K:V->gB->Hp->Prop):gB->Hp->Prop:=match yw o with
 |true=>λρ h=>oP (oB ((jW o).f (.fn ρ []) h) Hm) λx=>cP C x.1 x.2 h λv h'=>K v ρ h'
 |false=>λρ h=>oP (oB ((jW o).f (.fn ρ []) h) valOf) λx=>K x.1 ρ x.2
def Po(C:fu) (o:Oper) (K:V->gB->Hp->Prop):gB->Hp->Prop:=match cls o with
 |0=>λρ h=>oP ((iK o).f (.fn ρ []) h) λv=>K v ρ h
 |1=>λρ h=>oP ((qf o).f (.fn ρ [])) λr=>K (r.2 h.next) ρ (h.new r.1)
 |_=>Qm C o K
noncomputable def gV(b:Bool)(x:Option V):Option V:=Bool.rec (motive:=λ_=>Option V) (some .undef) x b
noncomputable def gH(b:Bool)(h:Hp)(x:Option (V×Hp)):Option (V×Hp):=Bool.rec (motive:=λ_=>Option (V×Hp)) (some (.undef,h)) x b
noncomputable def gC(b:Bool)(x:Option (Nat×List V)):Option (Option (Nat×List V)):=Bool.rec (motive:=λ_=>Option (Option (Nat×List V))) (some none) (oB x λy=>some (some y)) b
def qB(C:fu) (x:Option (Nat×List V)) (h:Hp) (K:V->Hp->Prop):Prop:=match x with
 |none=>K .undef h
 |some y=>cP C y.1 y.2 h K
def X7(C:fu) (o:Oper) (b:Bool) (K:V->gB->Hp->Prop) (ρ:gB) (h:Hp):Prop:=match cls o with
 |0=>oP (gV b ((iK o).f (.fn ρ []) h)) λv=>K v ρ h
 |1=>oP (gH b h (oB ((qf o).f (.fn ρ [])) λr=>some (r.2 h.next,h.new r.1))) λx=>K x.1 ρ x.2
 | _=>match yw o with
   |true=>oP (gC b (oB ((jW o).f (.fn ρ []) h) Hm)) λx=>qB C x h λv h'=>K v ρ h'
   |false=>oP (gH b h (oB ((jW o).f (.fn ρ []) h) valOf)) λx=>K x.1 ρ x.2
def zD(C:fu) (n:Nat) (all:List Oper) (o:Oper) (K:gB->Hp->Prop):gB->Hp->Prop:=match zB o with
 |some _=>λ_ _=>False
 | none=>match kO n all o with
   |none=>Po C o (oR n o K)
   |some g=>λρ h=>oP (g.f (.fn ρ [])) λb=>X7 C o b (oR n o K) ρ h
noncomputable def zh(C:fu) (n:Nat) (all:List Oper) (K:gB->Hp->Prop) (os:List Oper):gB->Hp->Prop:=List.rec (motive:=λ_=>gB->Hp->Prop) K (λo _ a=>zD C n all o a) os
theorem Uy(C:fu)(n:Nat)(all:List Oper)(K:gB->Hp->Prop)(o:Oper)(os:List Oper):zh C n all K (o::os)=zD C n all o (zh C n all K os):=rfl
theorem Lg{o:Oper} {K:gB->Hp->Prop} {v:V} (a:oR n o K v ρ h):∃d,yz n o=some d/\∃b,d.f (.fn ρ []) v = .fn b []/\K b h:=by
 unfold oR at a;unfold yz
 cases ho:o.dst with
 |none=>rw[ho]at a;exact⟨_,rfl,ρ,rfl,a⟩
 | some d=>
   rw[ho]at a;simp only at a⊢
   cases hb:Nat.blt d n with
   |true=>rw[hb]at a;exact⟨_,rfl,_,rfl,a⟩
   |false=>rw[hb]at a;exact a.elim
def zbk(C:fu)(o:Oper)(K:V->gB->Hp->Prop)(ρ:gB)(h:Hp):Prop:=∃m d v h',(Ib o).f (kh C m d) (.fn ρ []) h=some (v,h')/\K v ρ h'
theorem WT{o:Oper} {K:V->gB->Hp->Prop} (c:Qm C o K ρ h):(∃v h',(jW o).f (.fn ρ []) h=some (.val v h')/\K v ρ h')\/∃f args,(jW o).f (.fn ρ []) h=some (.call f args)/\cP C f args h λv h'=>K v ρ h':=by
 unfold Qm at c;cases hb:yw o
 all_goals rw[hb]at c
 rotate_left
 ·obtain⟨x,a,d⟩:=j6.1 c;rw[ft]at a;obtain⟨r,e,b⟩:=a
  cases r with
  |val v h'=>cases b
  |call f args=>cases b;exact .inr ⟨f,args,e,d⟩
 ·obtain⟨x,a,d⟩:=j6.1 c;rw[ft]at a;obtain⟨r,e,b⟩:=a
  cases r with
  |val v h'=>cases b;exact .inl ⟨v,h',e,d⟩
  |call f args=>cases b
theorem Ma{o:Oper} {K:V->gB->Hp->Prop} (b:Po C o K ρ h):zbk C o K ρ h:=by
 by_cases hc0:cls o=0
 ·have a:oP ((iK o).f (.fn ρ []) h) (λv=>K v ρ h):=by unfold Po at b;rw[hc0]at b;exact b
  obtain⟨v,e,g⟩:=j6.1 a;exact⟨0,0,v,h,by unfold Ib;rw[hc0];simp only[e,oB],g⟩
 ·by_cases hc1:cls o=1
  ·have a:oP ((qf o).f (.fn ρ [])) (λr=>K (r.2 h.next) ρ (h.new r.1)):=by unfold Po at b;rw[hc1]at b;exact b
   obtain⟨r,e,g⟩:=j6.1 a;exact⟨0,0,_,_,by unfold Ib;rw[hc1];simp only[e,oB],g⟩
  ·have a:Qm C o K ρ h:=by
    unfold Po at b;generalize cls o=c at b hc0 hc1;rcases c with _|_|c
    ·exact absurd rfl hc0
    ·exact absurd rfl hc1
    ·exact b
   have i:∀call,(Ib o).f call (.fn ρ []) h=oB ((jW o).f (.fn ρ []) h) λr=>match r with
     | .val v h=>some (v,h)
     | .call f args=>call f args h:=by
    intro call;unfold Ib;split
    ·exact absurd (by assumption) hc0
    ·exact absurd (by assumption) hc1
    ·rfl
   rcases WT a with⟨v,h',e,g⟩|⟨f,args,e,v,h',⟨m,d,j⟩,k⟩
   ·exact⟨0,0,v,h',by rw[i];simp only[e,oB],g⟩
   ·exact⟨m,d,v,h',by rw[i];simp only[e,oB];exact j,k⟩
theorem za3{o:Oper} {b:Bool} {K:V->gB->Hp->Prop} (e:X7 C o b K ρ h):(b=true/\zbk C o K ρ h)\/(b=false/\K .undef ρ h):=by
 unfold X7 at e;by_cases hc0:cls o=0
 ·rw[hc0]at e;obtain⟨v,a,d⟩:=j6.1 e
  cases b with
  |true=>exact .inl ⟨rfl,Ma (by unfold Po;rw[hc0];exact ed a d)⟩
  |false=>cases a;exact .inr ⟨rfl,d⟩
 ·by_cases hc1:cls o=1
  ·rw[hc1]at e;obtain⟨v,a,d⟩:=j6.1 e
   cases b with
   | true=>
     obtain⟨r,i,j⟩:=ft.1 (show oB _ _=_ from a);cases j
     exact .inl ⟨rfl,Ma (by unfold Po;rw[hc1];exact ed i d)⟩
   |false=>cases a;exact .inr ⟨rfl,d⟩
  ·have k:∀K,Qm C o K ρ h->Po C o K ρ h:=by
    intro K e;unfold Po;generalize cls o=c at hc0 hc1;rcases c with _|_|c
    ·exact absurd rfl hc0
    ·exact absurd rfl hc1
    ·exact e
   have g:(match yw o with
     |true=>oP (gC b (oB ((jW o).f (.fn ρ []) h) Hm)) λx=>qB C x h λv h'=>K v ρ h'
     |false=>oP (gH b h (oB ((jW o).f (.fn ρ []) h) valOf)) λx=>K x.1 ρ x.2):=by
    generalize cls o=c at e hc0 hc1;rcases c with _|_|c
    ·exact absurd rfl hc0
    ·exact absurd rfl hc1
    ·exact e
   cases hi:yw o with
   | true=>
     rw[hi]at g;obtain⟨x,a,d⟩:=j6.1 g
     cases b with
     | true=>
       obtain⟨y,i,j⟩:=ft.1 (show oB _ _=_ from a);cases j
       exact .inl ⟨rfl,Ma (k _ (by unfold Qm;rw[hi];exact ed i d))⟩
     |false=>cases a;exact .inr ⟨rfl,d⟩
   | false=>
     rw[hi]at g;obtain⟨x,a,d⟩:=j6.1 g
     cases b with
     |true=>exact .inl ⟨rfl,Ma (k _ (by unfold Qm;rw[hi];exact ed a d))⟩
     |false=>cases a;exact .inr ⟨rfl,d⟩
theorem OK{m d a b:Nat} (c:m<=a) (e:d<=b) {all os:List Oper} {t:Tm} {h:Hp} {r:Tm×Hp} (hv:(tQ n all os).f (kh C m d) t h=some r):(tQ n all os).f (kh C a b) t h=some r:=
 Dk (xx c e) os hv
theorem OS{all:List Oper} {K:gB->Hp->Prop}:∀(os:List Oper) {ρ:gB} {h:Hp},zh C n all K os ρ h->∃m d c h',(tQ n all os).f (kh C m d) (.fn ρ []) h=some (.fn c [],h')/\K c h'
 |[],ρ,h,a=>⟨0,0,ρ,h,rfl,a⟩
 | o ::os,ρ,h,a=>by
   rw[Uy]at a;unfold zD at a
   cases hq:zB o with
   |some q=>rw[hq]at a;exact a.elim
   | none=>
     rw[hq]at a;simp only at a
     have t:∀{ρ h},zbk C o (oR n o (zh C n all K os)) ρ h->∃d,yz n o=some d/\∃m e v s,(Ib o).f (kh C m e) (.fn ρ []) h=some (v,s)/\∃i,d.f (.fn ρ []) v = .fn i []/\
        ∃c h',(tQ n all os).f (kh C m e) (.fn i []) s=some (.fn c [],h')/\K c h':=by
       intro ρ h a;obtain⟨m,e,v,s,u,B⟩:=a;obtain⟨d,j,i,k,x⟩:=Lg B;obtain⟨y,z,c,h',l,p⟩:=OS os x;exact⟨d,j,max m y,max e z,v,s,I1 (xx (wBy _ _) (wBy _ _)) u,i,k,c,h',OK (YW _ _) (YW _ _) l,p⟩
     cases hw:kO n all o with
     | none=>
       rw[hw]at a;obtain⟨d,j,m,e,v,s,u,i,k,c,h',l,p⟩:=t (Ma a);refine⟨m,e,c,h',?_,p⟩;simp only[tQ,Iz,j,hw,hq,u,oB,k]
       exact l
     | some g=>
       rw[hw]at a;obtain⟨b,A,a⟩:=j6.1 a;rcases za3 a with⟨w,r⟩|⟨w,r⟩ <;> subst w
       ·obtain⟨d,j,m,e,v,s,u,i,k,c,h',l,p⟩:=t r
        refine⟨m,e,c,h',?_,p⟩;simp only[tQ,Iz,j,hw,A,u,oB,k];exact l
       ·obtain⟨d,j,i,k,x⟩:=Lg r
        obtain⟨y,z,c,h',l,p⟩:=OS os x;refine⟨y,z,c,h',?_,p⟩;simp only[tQ,Iz,j,hw,A,oB,k];exact l
theorem Wp.region{id:Nat} {ops:Array Oper} (a:zh C n ops.toList (λρ h=>Q .normal ρ h) ops.toList ρ h):Wp C n (.region id ops false) Q ρ h:=by
 obtain⟨m,d,b,h',c,e⟩:=OS _ a;exact⟨m,d,.normal,b,h',by simp only[iB,c,oB],e⟩
end
section
variable{C:fu}{n:Nat}{Q:X->gB->Hp->Prop}{ρ:gB}{h:Hp}
def Ce(h:Hp) (r:Rec):Prop:=match r.made with
 |none=>(iK r.it.o).f r.t h=some r.v
 |some (l,ob)=>h.get l=some ob/\O.beq ob ob=true
def xh(k:Nat) (h:Hp):List (Bool×Rec)->Prop->Prop
 |[],K=>K
 |r::rs,K=>Bool.rec (motive:=λ_=>Prop) (Bool.rec (motive:=λ_=>Prop) True (Ce h r.2) r.1/\xh k h rs K) (xh k h rs K) (Nat.blt r.2.last k)
def CL(rs:List (Bool×Rec)):List Rec:=(rs.filter (·.1)).map (·.2)
def itR(C:fu) (n:Nat) (all:List Oper) (ws:List It) (a:It) (c:Nat->gB->Hp->List (Bool×Rec)->Prop) (k:Nat):gB->Hp->List (Bool×Rec)->Prop:=match cls a.o with
  | 0=>match kO n all a.o with
    |none=>λρ h rs=>oP ((iK a.o).f (.fn ρ []) h) λv=>oR n a.o (λd h=>c k d h ((true,{it:=a,t:= .fn ρ [],v,made:=none,last:=late ws a})::rs)) v ρ h
    |some g=>λρ h rs=>oP (g.f (.fn ρ [])) λb=>oP (gV b ((iK a.o).f (.fn ρ []) h)) λv=>
       oR n a.o (λd h=>c k d h ((b,{it:=a,t:= .fn ρ [],v,made:=none,last:=late ws a})::rs)) v ρ h
  | 1=>match kO n all a.o with
    |none=>λρ h rs=>oP ((qf a.o).f (.fn ρ [])) λr=>oR n a.o (λd h'=>c k d h' ((true,{it:=a,t:= .fn ρ [],v:=r.2 h.next,made:=some (h.next,r.1),last:=late ws a})::rs)) (r.2 h.next) ρ (h.new r.1)
    |some _=>λ_ _ _=>False
  | _ =>match kO n all a.o with
    |none=>λρ h rs=>xh k h rs (Qm C a.o (λv ρ h'=>h.next<=h'.next/\oR n a.o (λρ h=>c (Nat.succ k) ρ h rs) v ρ h') ρ h)
    | some g=>match yw a.o with
      |true=>λρ h rs=>xh k h rs (oP (g.f (.fn ρ [])) λb=>oP (gC b (oB ((jW a.o).f (.fn ρ []) h) Hm)) λx=>qB C x h λv h'=>h.next<=h'.next/\oR n a.o (λρ h=>c (Nat.succ k) ρ h rs) v ρ h')
      |false=>λ_ _ _=>False
noncomputable def Ht(C:fu) (n:Nat) (all:List Oper) (ws:List It) (K:gB->Hp->Prop) (l:List It):Nat->gB->Hp->List (Bool×Rec)->Prop:=List.rec (motive:=λ_=>Nat->gB->Hp->List (Bool×Rec)->Prop) (λk ρ h rs=>xh k h rs (K ρ h)) (λa _ b k=>itR C n all ws a b k) l
theorem UM(C:fu)(n:Nat)(all:List Oper)(ws:List It)(K:gB->Hp->Prop)(a:It)(l:List It)(k:Nat):Ht C n all ws K (a::l) k=itR C n all ws a (Ht C n all ws K l) k:=rfl
theorem Ja{k:Nat}:∀{rs:List (Bool×Rec)} {K:Prop},xh k h rs K->Bi k h (CL rs)=true/\K
 |[],K,a=>⟨rfl,a⟩
 | (b,r)::rs,K,a=>by
   simp only[xh]at a;have c:∀{K:Prop},xh k h rs K->(b=true->(Nat.blt r.last k ||zm h r)=true)->Bi k h (CL ((b,r)::rs))=true/\K:=by
     intro K a d;obtain⟨f,g⟩:=Ja a;refine⟨?_,g⟩
     cases b with
     |false=>exact f
     | true=>
       show Bi k h (r::CL rs)=true;unfold Bi;rw[wCH,d rfl,Z1];exact f
   cases d:Nat.blt r.last k with
   |true=>rw[d]at a;exact c a (λ_=>by rw[d];rfl)
   | false=>
     rw[d]at a;obtain⟨h0,a⟩:=a;refine c a (λe=>?_);subst e;rw[d,Bool.false_or];have h0:Ce h r:=h0;unfold Ce at h0;unfold zm
     cases hm:r.made with
     |none=>rw[hm]at h0;simp only at h0⊢;rw[h0];exact V.L6 _
     | some x=>
       obtain⟨l,ob⟩:=x;rw[hm]at h0;simp only at h0⊢;rw[h0.1];exact h0.2
theorem zcQ{b:Bool} {x:Option V} {v:V} (h:gV b x=some v):(b=true/\x=some v)\/(b=false/\v = .undef):=by
 cases b with
 |true=>exact .inl ⟨rfl,h⟩
 |false=>cases h;exact .inr ⟨rfl,rfl⟩
theorem Ge{o:Oper} {d:DF} (c:yz n o=some d) {K:gB->Hp->Prop} {v:V} (e:oR n o K v ρ h):∃a,d.f (.fn ρ []) v = .fn a []/\K a h:=by
 obtain⟨i,b,g⟩:=Lg e;rw[c]at b;cases b;exact g
theorem Vh{m d a b:Nat} (c:m<=a) (e:d<=b) {all:List Oper} {ws l:List It} {k:Nat} {t:Tm} {h:Hp} {rs:List Rec} {r:Tm×Hp} (hv:(xE n all ws l k).f (kh C m d) t h rs=some r) :
  (xE n all ws l k).f (kh C a b) t h rs=some r:=zw (xx c e) l k hv
theorem DB{all:List Oper} {ws:List It} {K:gB->Hp->Prop}:∀(l:List It) (k:Nat) {ρ:gB} {h:Hp} {rs:List (Bool×Rec)},Ht C n all ws K l k ρ h rs->
  ∃m d j h',(xE n all ws l k).f (kh C m d) (.fn ρ []) h (CL rs)=some (.fn j [],h')/\K j h'
 | [],k,ρ,h,rs,e=>by
   obtain⟨s,w⟩:=Ja e
   exact⟨0,0,ρ,h,by simp only[xE,s,bB],w⟩
 | a ::l,k,ρ,h,rs,e=>by
   have i:∀{K:gB->Hp->Prop} {v:V} {ρ:gB} {h:Hp},oR n a.o K v ρ h->∃d,yz n a.o=some d:=λe=>let⟨d,s,_⟩:=Lg e;⟨d,s⟩
   have u:∀{d},yz n a.o=some d->∀call t h rs,(xE n all ws (a::l) k).f call t h rs=(match cls a.o with
       |0=>GW n all ws a d (xE n all ws l k)
       |1=>EB n all ws a d (xE n all ws l k)
       |_=>BE n all k a d (xE n all ws l (Nat.succ k))).f call t h rs:=by
     intro d p call t h rs
     conv=>lhs;unfold xE
     rw[p];simp only;generalize cls a.o=c;rcases c with _|_|c <;> rfl
   have I:∀call t h,cls a.o≠0->cls a.o≠1->(Ib a.o).f call t h=oB ((jW a.o).f t h) λr=>match r with
       | .val v h=>some (v,h)
       | .call f args=>call f args h:=by
     intro call t h h0 s;unfold Ib;split
     ·exact absurd (by assumption) h0
     ·exact absurd (by assumption) s
     ·rfl
   have F:∀t,kO n all a.o=none->pM n all a.o t=some true:=λt h=>by unfold pM;rw[h]
   have D:∀t g,kO n all a.o=some g->pM n all a.o t=g.f t:=λt g h=>by unfold pM;rw[h]
   have step:∀{h:Hp} {ρ:gB} {rs:List (Bool×Rec)} {c:Nat},cls a.o=c+2->Bi k h (CL rs)=true->pM n all a.o (.fn ρ [])=some true->
       Qm C a.o (λv ρ h'=>h.next<=h'.next/\oR n a.o (λρ h=>Ht C n all ws K l (Nat.succ k) ρ h rs) v ρ h') ρ h->
       ∃m d j h',(xE n all ws (a::l) k).f (kh C m d) (.fn ρ []) h (CL rs)=some (.fn j [],h')/\K j h':=by
     intro h ρ rs c hc q N e;have E:=λcall=>I call (.fn ρ []) h (by omega) (by omega);rcases WT e with⟨v,h',hv,G,e⟩|⟨f,args,hv,v,h',⟨O,d0,P⟩,G,e⟩
     ·simp only[hv,oB]at E
      obtain⟨d,p⟩:=i e;obtain⟨J,s,e⟩:=Ge p e;obtain⟨m,z,j,B,w,A⟩:=DB l _ e;exact⟨m,z,j,B,by rw[u p,hc];simp only[BE,q,bB,N,oB,E,s,NZ G];exact w,A⟩
     ·simp only[hv,oB]at E
      obtain⟨d,p⟩:=i e;obtain⟨J,s,e⟩:=Ge p e;obtain⟨m,z,j,B,w,A⟩:=DB l _ e;refine⟨max O m,max d0 z,j,B,?_,A⟩;have L:=xx (C:=C) (wBy O m) (wBy d0 z) _ _ _ _ P;rw[u p,hc];simp only[BE,q,bB,N,oB,E,L,s,NZ G];exact Vh (YW O m) (YW d0 z) w
   have H:∀{h:Hp} {ρ:gB} {rs:List (Bool×Rec)} {c:Nat},cls a.o=c+2->Bi k h (CL rs)=true->pM n all a.o (.fn ρ [])=some false->
       oR n a.o (λρ h=>Ht C n all ws K l (Nat.succ k) ρ h rs) .undef ρ h->
       ∃m d j h',(xE n all ws (a::l) k).f (kh C m d) (.fn ρ []) h (CL rs)=some (.fn j [],h')/\K j h':=by
     intro h ρ rs c hc q N e;obtain⟨d,p⟩:=i e;obtain⟨J,s,e⟩:=Ge p e;obtain⟨m,z,j,B,w,A⟩:=DB l _ e;exact⟨m,z,j,B,by rw[u p,hc];simp only[BE,q,bB,N,oB,s];exact w,A⟩
   rw[UM]at e;unfold itR at e;generalize hc:cls a.o=c at e;rcases c with _|_|c
   ·simp only at e
    cases hwc:kO n all a.o with
    | none=>
      rw[hwc]at e;obtain⟨v,hv,e⟩:=j6.1 e;obtain⟨d,p⟩:=i e;obtain⟨J,s,e⟩:=Ge p e;obtain⟨m,z,j,h',w,A⟩:=DB l k e
      exact⟨m,z,j,h',by rw[u p,hc];simp only[GW,F _ hwc,hv,oB,s];exact w,A⟩
    | some g=>
      rw[hwc]at e;obtain⟨b,M,e⟩:=j6.1 e;obtain⟨v,hv,e⟩:=j6.1 e;obtain⟨d,p⟩:=i e;obtain⟨J,s,e⟩:=Ge p e;obtain⟨m,z,j,h',w,A⟩:=DB l k e;rcases zcQ hv with⟨Q,R⟩|⟨Q,T⟩
      ·subst Q
       exact⟨m,z,j,h',by rw[u p,hc];simp only[GW,D _ _ hwc,M,R,oB,s];exact w,A⟩
      ·subst Q;subst T
       exact⟨m,z,j,h',by rw[u p,hc];simp only[GW,D _ _ hwc,M,oB,s];exact w,A⟩
   ·simp only at e
    cases hwc:kO n all a.o with
    | none=>
      rw[hwc]at e;obtain⟨v,hv,e⟩:=j6.1 e;obtain⟨d,p⟩:=i e;obtain⟨J,s,e⟩:=Ge p e;obtain⟨m,z,j,h',w,A⟩:=DB l k e
      exact⟨m,z,j,h',by rw[u p,hc];simp only[EB,F _ hwc,hv,oB,s];exact w,A⟩
    |some g=>rw[hwc]at e;exact e.elim
   ·simp only at e
    cases hwc:kO n all a.o with
    | none=>
      rw[hwc]at e;obtain⟨q,e⟩:=Ja e
      exact step hc q (F _ hwc) e
    | some g=>
      rw[hwc]at e;simp only at e
      cases hi:yw a.o with
      |false=>rw[hi]at e;exact e.elim
      | true=>
        rw[hi]at e;obtain⟨q,e⟩:=Ja e;obtain⟨b,M,e⟩:=j6.1 e;obtain⟨x,S,e⟩:=j6.1 e
        cases b with
        | true=>
          obtain⟨y,A,U⟩:=ft.1 (show oB _ _=_ from S);cases U
          exact step hc q (by rw[D _ _ hwc,M]) (by unfold Qm;rw[hi];exact ed A e)
        | false=>
          cases S;exact H hc q (by rw[D _ _ hwc,M]) e.2
noncomputable def xY(all:List Oper):Bool:=OR (items all 0 []) (gX (items all 0 []))&&vI (items all 0 []) (gX (items all 0 [])) (order (items all 0 []) (gX (items all 0 [])) (gX (items all 0 [])) 0) 0 0
noncomputable def TQ(C:fu) (n:Nat) (all:List Oper) (K:gB->Hp->Prop) (ρ:gB) (h:Hp):Prop:=Ht C n all (gX (items all 0 [])) K (order (items all 0 []) (gX (items all 0 [])) (gX (items all 0 [])) 0) 0 ρ h []
theorem Wp.draw{id:Nat} {ops:Array Oper} (a:xY ops.toList=true) (c:TQ C n ops.toList (λρ h=>Q .normal ρ h) ρ h):Wp C n (.region id ops true) Q ρ h:=by
 obtain⟨m,d,f,h',b,g⟩:=DB _ _ c;have e:CL []=[]:=rfl;rw[e]at b;refine⟨m,d,.normal,f,h',?_,g⟩;unfold xY at a;simp only[iB,MA,a,b,oB]
noncomputable def jc(C:fu) (n:Nat) (c:Code):(X->gB->Hp->Prop)->gB->Hp->Prop:=
 Code.rec (motive:=λ_=>(X->gB->Hp->Prop)->gB->Hp->Prop)
  (λQ=>Q .normal)
  (fun _ ops d Q=>match d with
   |false=>zh C n ops.toList (λρ h=>Q .normal ρ h) ops.toList
   | true=>match xY ops.toList with
     |true=>TQ C n ops.toList (λρ h=>Q .normal ρ h)
     |false=>λ_ _=>False)
  (λ_ b a _ Q=>a (andThen (Wp C n b Q) Q))
  (λc _ _ a e Q ρ h=>oP ((sR c).f (.fn ρ []) h) λv=>bP v (a Q ρ h) (e Q ρ h))
  (λid _ g Q=>g (vX id Q))
  (λc _ Q=>Wp C n (.loop c) Q)
  (λ_ _ _ _ _ _ _ _ _=>False)
  (λid Q=>Q (.exit id))
  (λ_ _ _ _ _=>False)
  (λ_ _ _ _=>False)
  (λ_ _ _ _=>False)
  (λQ=>Q .ret)
  (λ_ _ _ _=>False) c
theorem Wp.code:∀(c:Code) {Q:X->gB->Hp->Prop} {ρ:gB} {h:Hp},jc C n c Q ρ h->Wp C n c Q ρ h
 | .skip,_,_,_,d=> .skip d
 | .region _ ops false,_,_,_,d=> .region d
 | .region _ ops true,Q,ρ,h,d=>by
   have e:(match xY ops.toList with
       |true=>TQ C n ops.toList (λρ h=>Q .normal ρ h)
       |false=>λ_ _=>False) ρ h:=d
   cases hd:xY ops.toList with
   |true=>rw[hd]at e;exact .draw hd e
   |false=>rw[hd]at e;exact e.elim
 | .seq a _,_,_,_,d=> .seq (Wp.code a d)
 | .cond c a b,_,_,_,d=>by
   obtain⟨v,hv,d⟩:=j6.1 d;refine .cond (ed hv ?_);unfold bP at d⊢;split at d
   ·rename_i x
    cases x with
    |true=>exact Wp.code a d
    |false=>exact Wp.code b d
   ·exact d.elim
 | .block id c,_,_,_,d=> .block (Wp.code c d)
 | .loop c,_,_,_,d=>d
 | .exit id,_,_,_,d=> .exit d
 | .ret,_,_,_,d=> .ret d
 | .rangeFunc ..,_,_,_,d=>d.elim
 | .scope _,_,_,_,d=>d.elim
 | .label _,_,_,_,d=>d.elim
 | .goto _,_,_,_,d=>d.elim
 | .refuse _,_,_,_,d=>d.elim
def Yi(l:List ResultVar)(Q:V->Hp->Prop)(ρ:gB)(h:Hp):Prop:=oP (Ae (.fn ρ []) h l) λvs=>Q (zt vs) h
def EJ(l:List ResultVar) (Q:V->Hp->Prop):X->gB->Hp->Prop
 | .exit _,_,_=>False
 |_,ρ,h=>Yi l Q ρ h
def IV(args:List V):gB:=λi=>(args[i]?).getD .undef
theorem cP.func(hs:C.start=fR) {f:Nat} {fn:Func} {c:Code} {args:List V} (l:P0.funcs[f]? =some fn) (n:fn.body=some c) (o:C.K f args h=none) (g:args.length<=fn.ntmps) {Q:V->Hp->Prop}
  (p:Wp C fn.ntmps c (EJ fn.results.toList Q) (IV args) h):cP C f args h Q:=by
 obtain ⟨m,d,x,q,h',r,i⟩:=p;have a:Yi fn.results.toList Q q h'->(∀id,x≠ .exit id)->cP C f args h Q:=by
  intro s t;obtain⟨vs,k,u⟩:=j6.1 s;refine⟨_,_,⟨m,d+1,?_⟩,u⟩;show(DU C f).f (kh C m d) m args h=_;unfold DU;rw[l];simp only[n,o,YL,hs];have b:Nat.ble args.length fn.ntmps=true:=NZ g;have j:fR args = .fn (IV args) []:=rfl;rw[j,b,r]
  cases x with
  |normal=>simp only[bB,oB,Tm.ds,Nc,k]
  |ret=>simp only[bB,oB,Tm.ds,Nc,k]
  |exit id=>exact absurd rfl (t id)
 cases x with
 |normal=>exact a i (λid e=>nomatch e)
 |ret=>exact a i (λid e=>nomatch e)
 |exit id=>exact i.elim
theorem cP.T6(hs:C.start=fR) {f:Nat} {fn:Func} {c:Code} {args:List V} {k:Nat} {rs:List ResultVar} (b:P0.funcs[f]? =some fn) (d:fn.body=some c) (e:fn.ntmps=k) (g:fn.results.toList=rs)
  (i:C.K f args h=none) (a:args.length<=k) {Q:V->Hp->Prop} (j:Wp C k c (EJ rs Q) (IV args) h):cP C f args h Q:=by
 subst e;subst g;exact cP.func hs b d i a j
theorem cP.known{f:Nat} {fn:Func} {c:Code} {args:List V} {v:V} (a:P0.funcs[f]? =some fn) (b:fn.body=some c) (d:C.K f args h=some v) (e:PE args=true) (g:v.flat=true) {Q:V->Hp->Prop} (hq:Q v h):cP C f args h Q:=by
 refine⟨v,h,⟨0,1,?_⟩,hq⟩;show(DU C f).f _ _ args h=_;unfold DU;rw[a];simp only[b,d,YL,e,g,Bool.and_self,bB]
theorem cP.mono{f:Nat} {args:List V} {Q a:V->Hp->Prop} (hc:cP C f args h Q) (hq:∀v h,Q v h->a v h):cP C f args h a:=by
 obtain⟨v,h',b,c⟩:=hc;exact⟨v,h',b,hq _ _ c⟩
end
