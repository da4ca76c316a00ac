/- Parts. -/
import Derived.Test.YtflkbfabonggkaaGreatDoorM07
set_option maxHeartbeats 4000000
namespace Go.Proofs.YtflkbfabonggkaaGreatDoor.Hx
abbrev gD:=Nat->V
def Ev(C:fm)(f:Nat)(args:List V)(h:Hp)(v:V)(h':Hp):Prop:=∃m d,kE C m d f args h=some (v,h')
inductive Wp (C:fm) (n:Nat) (c:Code) (Q:X->gD->Hp->Prop) (ρ:gD) (h:Hp):Prop
 |mk (b:∃m d x a h',(iE n c).f (kE C m d) m (.fn ρ []) h=some (x,.fn a [],h')/\Q x a h')
def oP{α:Type}(x:Option α)(k:α->Prop):Prop:=Option.rec (motive:=λ_=>Prop) False k x
theorem zap{α:Type}(a:α)(k:α->Prop):oP (some a) k=k a:=rfl
theorem kS{α:Type} {x:Option α} {k:α->Prop}:oP x k↔∃a,x=some a/\k a:=by
 cases x with
 |none=>grind[oP]
 |some a=>exact⟨λh=>⟨a,rfl,h⟩,λ⟨_,h,h'⟩=>by grind[oP]⟩
theorem ed{α:Type}{x:Option α}{k:α->Prop}{a:α}(h:x=some a)(h':k a):oP x k:=by subst h;exact h'
def cP(C:fm)(f:Nat)(args:List V)(h:Hp)(k:V->Hp->Prop):Prop:=∃v h',Ev C f args h v h'/\k v h'
def bP(v:V) (a b:Prop):Prop:=match v with
 | .bool x=>Bool.rec (motive:=λ_=>Prop) b a x
 |_=>False
theorem ij(x:Bool)(a b:Prop):bP (.bool x) a b=if x=true then a else b:=by cases x <;> rfl
section
variable{C:fm}{n:Nat}{Q:X->gD->Hp->Prop}{ρ:gD}{h:Hp}
theorem Wp.mono{c:Code} {a:X->gD->Hp->Prop} (b:Wp C n c Q ρ h) (hq:∀x ρ h,Q x ρ h->a x ρ h):Wp C n c a ρ h:=by
 obtain⟨m,d,x,e,h',f,g⟩:=b;exact⟨m,d,x,e,h',f,by simp_all⟩
theorem Wp.skip(hq:Q .normal ρ h):Wp C n .skip Q ρ h:=⟨0,0,.normal,ρ,h,rfl,hq⟩
theorem Wp.ret(hq:Q .ret ρ h):Wp C n .ret Q ρ h:=⟨0,0,.ret,ρ,h,rfl,hq⟩
theorem Wp.exit{id:Nat}(hq:Q (.exit id) ρ h):Wp C n (.exit id) Q ρ h:=⟨0,0,.exit id,ρ,h,rfl,hq⟩
def andThen(k:gD->Hp->Prop) (Q:X->gD->Hp->Prop):X->gD->Hp->Prop
 | .normal,ρ,h=>k ρ h
 |x,ρ,h=>Q x ρ h
theorem AR{m d a d':Nat} (b:m<=a) (e:d<=d') {c:Code} {t:Tm} {h:Hp} {r:X×Tm×Hp} (hv:(iE n c).f (kE C m d) m t h=some r):(iE n c).f (kE C a d') a t h=some r:=
 mN (yq b e) b c hv
theorem Wp.seq{a b:Code} (i:Wp C n a (andThen (Wp C n b Q) Q) ρ h):Wp C n (.seq a b) Q ρ h:=by
 obtain⟨m,d,x,g,h',o,c⟩:=i
 cases x with
 | normal=>
   obtain⟨j,d',k,e,f,p,l⟩:=c;refine⟨max m j,max d d',k,e,f,?_,l⟩
   grind[iE,AR,wB4,Fl,Nat.le_max_right]
 |exit id=>exact⟨m,d,.exit id,g,h',by grind[iE,Fl],c⟩
 |ret=>exact⟨m,d,.ret,g,h',by grind[iE,Fl],c⟩
theorem Wp.cond{e:Operand} {a b:Code} (c:oP ((tq e).f (.fn ρ []) h) λv=>bP v (Wp C n a Q ρ h) (Wp C n b Q ρ h)):Wp C n (.cond e a b) Q ρ h:=by
 obtain⟨v,hv,c⟩:=kS.1 c;unfold bP at c;split at c
 ·rename_i x
  cases x with
  | true=>
    obtain⟨m,d,x,g,h',j,i⟩:=c
    exact⟨m,d,x,g,h',by grind[iE,fq],i⟩
  | false=>
    obtain⟨m,d,x,g,h',j,i⟩:=c;exact⟨m,d,x,g,h',by grind[iE,fq],i⟩
 simp_all
def xm(id:Nat) (Q:X->gD->Hp->Prop):X->gD->Hp->Prop
 | .exit i,ρ,h=>Bool.rec (motive:=λ_=>Prop) (Q (.exit i) ρ h) (Q .normal ρ h) (Nat.beq i id)
 |x,ρ,h=>Q x ρ h
theorem Wp.block{id:Nat} {c:Code} (e:Wp C n c (xm id Q) ρ h):Wp C n (.block id c) Q ρ h:=by
 obtain⟨m,d,x,b,h',f,a⟩:=e
 cases x with
 |normal=>exact⟨m,d,.normal,b,h',by grind[iE,KO],a⟩
 |ret=>exact⟨m,d,.ret,b,h',by grind[iE,KO],a⟩
 | exit i=>
   simp only[xm]at a
   cases hb:Nat.beq i id with
   |true=>rw[hb]at a;exact⟨m,d,.normal,b,h',by simp_all[iE,KO],a⟩
   |false=>rw[hb]at a;exact⟨m,d,.exit i,b,h',by simp_all[iE,KO],a⟩
theorem Wp.loop{c:Code} (y:Wp C n c (andThen (Wp C n (.loop c) Q) Q) ρ h):Wp C n (.loop c) Q ρ h:=by
 obtain⟨m,d,x,o,h',e,p⟩:=y
 cases x with
 | normal=>
   obtain⟨a,d',l,g,i,q,z⟩:=p;refine⟨max m a+1,max d d',l,g,i,?_,z⟩;have b:=AR (C:=C) (n:=n) (Ie (wB4 m a) (O4 _)) (wB4 d d') e;simp only[iE]at q⊢;show Fl _ _=_;simp only[b,Fl];have E:(iE n (.loop c)).f (kE C a d') a (.fn o []) h' = some (l,.fn g [],i):=q
   have s:∀(k k':Nat) (t:Tm) (h:Hp) (r:X×Tm×Hp),k<=k'->F0 (λt h=>(iE n c).f (kE C a d') a t h) k t h=some r->
       F0 (λt h=>(iE n c).f (kE C (max m a+1) (max d d')) (max m a+1) t h) k' t h=some r:=by
     intro k
     induction k with
     |zero=>intro k' t h r _ hv;cases hv
     | succ k A=>
       intro k' t h r hk hv;obtain⟨k',rfl⟩:∃j,k' = j+1:=⟨k'-1,by omega⟩
       have u:Fl ((iE n c).f (kE C a d') a t h) (F0 (λt h=>(iE n c).f (kE C a d') a t h) k)=some r:=hv;show Fl ((iE n c).f (kE C (max m a+1) (max d d')) (max m a+1) t h) (F0 (λt h=>(iE n c).f (kE C (max m a+1) (max d d')) (max m a+1) t h) k')=some r
       have v:∀{r},(iE n c).f (kE C a d') a t h=some r->(iE n c).f (kE C (max m a+1) (max d d')) (max m a+1) t h=some r:=
         λB=>AR (by omega) (Nat.le_max_right d d') B
       rcases JY u with⟨D,e,b,w⟩|⟨b,w⟩
       ·rw[v b];exact A k' D e r (by omega) w
       ·rw[v b]
        obtain⟨l,t',h'⟩:=r
        cases l with
        |normal=>simp_all
        |exit id=>rfl
        |ret=>rfl
   exact s a (max m a) _ _ _ (Nat.le_max_right m a) q
 | exit id=>
   refine⟨m+1,d,.exit id,o,h',?_,p⟩;have b:=AR (C:=C) (n:=n) (O4 m) (iZ d) e;simp only[iE];show Fl _ _=_
   grind[Fl]
 | ret=>
   refine⟨m+1,d,.ret,o,h',?_,p⟩;have b:=AR (C:=C) (n:=n) (O4 m) (iZ d) e;simp only[iE];show Fl _ _=_
   grind[Fl]
theorem Wp.zbK{c:Code} (I:Nat->gD->Hp->Prop) (b:∀k ρ h,I k ρ h->Wp C n c (andThen (λa h'=>∃k',k' < k/\I k' a h') Q) ρ h) {k:Nat} (h0:I k ρ h):Wp C n (.loop c) Q ρ h:=by
 induction k using Nat.strongRecOn generalizing ρ h with
 | _ k d=>
   refine .loop ((b k ρ h h0).mono λx a h' hq=>?_)
   cases x with
   |normal=>obtain⟨k',hk,hi⟩:=hq;exact d k' hk hi
   |exit id=>exact hq
   |ret=>exact hq
def po(n:Nat) (o:Oper) (K:gD->Hp->Prop):V->gD->Hp->Prop:=match o.dst with
 |none=>λ_ ρ h=>K ρ h
 | some d=>match Nat.blt d n with
   |true=>λv ρ h=>K (fo ρ d v) h
   |false=>λ_ _ _=>False
def valOf:R->Option (V×Hp)
 | .val v h=>some (v,h)
 | .call _ _=>none
def IF:R->Option (Nat×List V)
 | .call f args=>some (f,args)
 | .val _ _=>none
def zf(o:Oper):Bool:=match o.op with
 | .call c=>match c.callee with
   | .value _| .invoke _ _=>true
   | .builtin _=>false
 |_=>false
def Sf(C:fm) (o:Oper) (K:V->gD->Hp->Prop):gD->Hp->Prop:=match zf o with
 |true=>λρ h=>oP (oB ((j7 o).f (.fn ρ []) h) IF) λx=>cP C x.1 x.2 h λv h'=>K v ρ h'
 |false=>λρ h=>oP (oB ((j7 o).f (.fn ρ []) h) valOf) λx=>K x.1 ρ x.2
def QZ(C:fm) (o:Oper) (K:V->gD->Hp->Prop):gD->Hp->Prop:=match cls o with
 |0=>λρ h=>oP ((iL o).f (.fn ρ []) h) λv=>K v ρ h
 |1=>λρ h=>oP ((qw o).f (.fn ρ [])) λr=>K (r.2 h.next) ρ (h.new r.1)
 |_=>Sf C o K
noncomputable def gV(b:Bool)(x:Option V):Option V:=Bool.rec (motive:=λ_=>Option V) (some .undef) x b
noncomputable def gH(b:Bool)(h:Hp)(x:Option (V×Hp)):Option (V×Hp):=Bool.rec (motive:=λ_=>Option (V×Hp)) (some (.undef,h)) x b
noncomputable def gC(b:Bool)(x:Option (Nat×List V)):Option (Option (Nat×List V)):=Bool.rec (motive:=λ_=>Option (Option (Nat×List V))) (some none) (oB x λy=>some (some y)) b
def uj(C:fm) (x:Option (Nat×List V)) (h:Hp) (K:V->Hp->Prop):Prop:=match x with
 |none=>K .undef h
 |some y=>cP C y.1 y.2 h K
def ZO(C:fm) (o:Oper) (b:Bool) (K:V->gD->Hp->Prop) (ρ:gD) (h:Hp):Prop:=match cls o with
 |0=>oP (gV b ((iL o).f (.fn ρ []) h)) λv=>K v ρ h
 |1=>oP (gH b h (oB ((qw o).f (.fn ρ [])) λr=>some (r.2 h.next,h.new r.1))) λx=>K x.1 ρ x.2
 | _=>match zf o with
   |true=>oP (gC b (oB ((j7 o).f (.fn ρ []) h) IF)) λx=>uj C x h λv h'=>K v ρ h'
   |false=>oP (gH b h (oB ((j7 o).f (.fn ρ []) h) valOf)) λx=>K x.1 ρ x.2
def AG(C:fm) (n:Nat) (all:List Oper) (o:Oper) (K:gD->Hp->Prop):gD->Hp->Prop:=match AX o with
 |some _=>λ_ _=>False
 | none=>match kU n all o with
   |none=>QZ C o (po n o K)
   |some g=>λρ h=>oP (g.f (.fn ρ [])) λb=>ZO C o b (po n o K) ρ h
noncomputable def zW(C:fm) (n:Nat) (all:List Oper) (K:gD->Hp->Prop) (os:List Oper):gD->Hp->Prop:=List.rec (motive:=λ_=>gD->Hp->Prop) K (λo _ a=>AG C n all o a) os
theorem V3(C:fm)(n:Nat)(all:List Oper)(K:gD->Hp->Prop)(o:Oper)(os:List Oper):zW C n all K (o::os)=AG C n all o (zW C n all K os):=rfl
theorem Mp{o:Oper} {K:gD->Hp->Prop} {v:V} (hk:po n o K v ρ h):∃d,zd n o=some d/\∃a,d.f (.fn ρ []) v = .fn a []/\K a h:=by
 unfold po at hk;unfold zd
 cases ho:o.dst with
 |none=>simp_all
 | some d=>
   rw[ho]at hk;simp only at hk⊢
   cases hb:Nat.blt d n with
   |true=>rw[hb]at hk;exact⟨_,rfl,_,rfl,hk⟩
   |false=>simp_all
def zcr(C:fm)(o:Oper)(K:V->gD->Hp->Prop)(ρ:gD)(h:Hp):Prop:=∃m d v h',(IX o).f (kE C m d) (.fn ρ []) h=some (v,h')/\K v ρ h'
theorem XM{o:Oper} {K:V->gD->Hp->Prop} (hk:Sf C o K ρ h):(∃v h',(j7 o).f (.fn ρ []) h=some (.val v h')/\K v ρ h')\/∃f args,(j7 o).f (.fn ρ []) h=some (.call f args)/\cP C f args h λv h'=>K v ρ h':=by
 unfold Sf at hk;cases hb:zf o
 all_goals rw[hb]at hk
 rotate_left
 ·obtain⟨x,a,c⟩:=kS.1 hk;rw[fq]at a;obtain⟨r,d,b⟩:=a
  cases r with
  |val v h'=>cases b
  |call f args=>cases b;grind
 ·obtain⟨x,a,c⟩:=kS.1 hk;rw[fq]at a;obtain⟨r,d,b⟩:=a
  cases r with
  |val v h'=>cases b;grind
  |call f args=>cases b
theorem MT{o:Oper} {K:V->gD->Hp->Prop} (hk:QZ C o K ρ h):zcr C o K ρ h:=by
 by_cases hc0:cls o=0
 ·have a:oP ((iL o).f (.fn ρ []) h) (λv=>K v ρ h):=by unfold QZ at hk;rw[hc0]at hk;exact hk
  obtain⟨v,e,b⟩:=kS.1 a;exact⟨0,0,v,h,by simp_all[IX,oB],b⟩
 ·by_cases hc1:cls o=1
  ·have a:oP ((qw o).f (.fn ρ [])) (λr=>K (r.2 h.next) ρ (h.new r.1)):=by unfold QZ at hk;rw[hc1]at hk;exact hk
   obtain⟨r,e,b⟩:=kS.1 a;exact⟨0,0,_,_,by simp_all[IX,oB],b⟩
  ·have a:Sf C o K ρ h:=by
    unfold QZ at hk;generalize cls o=c at hk hc0 hc1;rcases c with _|_|c
    ·omega
    ·omega
    ·exact hk
   have g:∀call,(IX o).f call (.fn ρ []) h=oB ((j7 o).f (.fn ρ []) h) λr=>match r with
     | .val v h=>some (v,h)
     | .call f args=>call f args h:=by
    intro call;unfold IX;split
    ·omega
    ·omega
    ·rfl
   rcases XM a with⟨v,h',e,b⟩|⟨f,args,e,v,h',⟨m,d,j⟩,i⟩
   ·exact⟨0,0,v,h',by simp_all[oB],b⟩
   ·exact⟨m,d,v,h',by simp_all[oB],i⟩
theorem zdd{o:Oper} {b:Bool} {K:V->gD->Hp->Prop} (hk:ZO C o b K ρ h):(b=true/\zcr C o K ρ h)\/(b=false/\K .undef ρ h):=by
 unfold ZO at hk;by_cases hc0:cls o=0
 ·rw[hc0]at hk;obtain⟨v,a,e⟩:=kS.1 hk
  cases b with
  |true=>exact .inl ⟨rfl,MT (by unfold QZ;rw[hc0];exact ed a e)⟩
  |false=>cases a;simp_all
 ·by_cases hc1:cls o=1
  ·rw[hc1]at hk;obtain⟨v,a,e⟩:=kS.1 hk
   cases b with
   | true=>
     obtain⟨r,i,g⟩:=fq.1 (show oB _ _=_ from a);cases g
     exact .inl ⟨rfl,by grind[MT,QZ,ed]⟩
   |false=>cases a;simp_all
  ·have j:∀K,Sf C o K ρ h->QZ C o K ρ h:=by
    intro K hk;unfold QZ;generalize cls o=c at hc0 hc1;rcases c with _|_|c
    ·omega
    ·omega
    ·exact hk
   have d:(match zf o with
     |true=>oP (gC b (oB ((j7 o).f (.fn ρ []) h) IF)) λx=>uj C x h λv h'=>K v ρ h'
     |false=>oP (gH b h (oB ((j7 o).f (.fn ρ []) h) valOf)) λx=>K x.1 ρ x.2):=by
    generalize cls o=c at hk hc0 hc1;rcases c with _|_|c
    ·omega
    ·omega
    ·exact hk
   cases hi:zf o with
   | true=>
     rw[hi]at d;obtain⟨x,a,e⟩:=kS.1 d
     cases b with
     | true=>
       obtain⟨y,i,g⟩:=fq.1 (show oB _ _=_ from a);cases g
       exact .inl ⟨rfl,MT (j _ (by unfold Sf;rw[hi];exact ed i e))⟩
     |false=>cases a;exact .inr ⟨rfl,e⟩
   | false=>
     rw[hi]at d;obtain⟨x,a,e⟩:=kS.1 d
     cases b with
     |true=>exact .inl ⟨rfl,MT (j _ (by unfold Sf;rw[hi];exact ed a e))⟩
     |false=>cases a;simp_all
theorem PG{m d a d':Nat} (b:m<=a) (c:d<=d') {all os:List Oper} {t:Tm} {h:Hp} {r:Tm×Hp} (hv:(ui n all os).f (kE C m d) t h=some r):(ui n all os).f (kE C a d') t h=some r:=
 EC (yq b c) os hv
theorem Pw{all:List Oper} {K:gD->Hp->Prop}:∀(os:List Oper) {ρ:gD} {h:Hp},zW C n all K os ρ h->∃m d a h',(ui n all os).f (kE C m d) (.fn ρ []) h=some (.fn a [],h')/\K a h'
 |[],ρ,h,hk=>⟨0,0,ρ,h,rfl,hk⟩
 | o ::os,ρ,h,hk=>by
   rw[V3]at hk;unfold AG at hk
   cases hq:AX o with
   |some q=>simp_all
   | none=>
     rw[hq]at hk;simp only at hk
     have l:∀{ρ h},zcr C o (po n o (zW C n all K os)) ρ h->∃d,zd n o=some d/\∃m c v k,(IX o).f (kE C m c) (.fn ρ []) h=some (v,k)/\∃e,d.f (.fn ρ []) v = .fn e []/\
        ∃a h',(ui n all os).f (kE C m c) (.fn e []) k=some (.fn a [],h')/\K a h':=by
       intro ρ h hk;obtain⟨m,c,v,k,t,y⟩:=hk;obtain⟨d,r,e,s,u⟩:=Mp y;obtain⟨w,d',a,h',x,i⟩:=Pw os u;exact⟨d,r,max m w,max c d',v,k,J4 (by grind[yq,wB4]) t,e,s,a,h',by grind[PG,Nat.le_max_right],i⟩
     cases hw:kU n all o with
     | none=>
       rw[hw]at hk;obtain⟨d,r,m,c,v,k,t,e,s,a,h',x,i⟩:=l (MT hk);refine⟨m,c,a,h',?_,i⟩
       simp_all[ui,JP,oB]
     | some g=>
       rw[hw]at hk;obtain⟨b,z,hk⟩:=kS.1 hk;rcases zdd hk with⟨p,j⟩|⟨p,j⟩ <;> subst p
       ·obtain⟨d,r,m,c,v,k,t,e,s,a,h',x,i⟩:=l j
        refine⟨m,c,a,h',?_,i⟩
        simp_all[ui,JP,oB]
       ·obtain⟨d,r,e,s,u⟩:=Mp j
        obtain⟨w,d',a,h',x,i⟩:=Pw os u;refine⟨w,d',a,h',?_,i⟩
        simp_all[ui,JP,oB]
theorem Wp.region{id:Nat} {ops:Array Oper} (a:zW C n ops.toList (λρ h=>Q .normal ρ h) ops.toList ρ h):Wp C n (.region id ops false) Q ρ h:=by
 obtain⟨m,d,b,h',e,c⟩:=Pw _ a;exact⟨m,d,.normal,b,h',by simp_all[iE,oB],c⟩
end
section
variable{C:fm}{n:Nat}{Q:X->gD->Hp->Prop}{ρ:gD}{h:Hp}
def Fj(h:Hp) (r:Rec):Prop:=match r.made with
 |none=>(iL r.it.o).f r.t h=some r.v
 |some (l,ob)=>h.get l=some ob/\O.beq ob ob=true
def xK(k:Nat) (h:Hp):List (Bool×Rec)->Prop->Prop
 |[],K=>K
 |r::rs,K=>Bool.rec (motive:=λ_=>Prop) (Bool.rec (motive:=λ_=>Prop) True (Fj h r.2) r.1/\xK k h rs K) (xK k h rs K) (Nat.blt r.2.last k)
def D0(rs:List (Bool×Rec)):List Rec:=(rs.filter (·.1)).map (·.2)
def itR(C:fm) (n:Nat) (all:List Oper) (ws:List It) (a:It) (c:Nat->gD->Hp->List (Bool×Rec)->Prop) (k:Nat):gD->Hp->List (Bool×Rec)->Prop:=match cls a.o with
  | 0=>match kU n all a.o with
    |none=>λρ h rs=>oP ((iL a.o).f (.fn ρ []) h) λv=>po n a.o (λd h=>c k d h ((true,{it:=a,t:= .fn ρ [],v,made:=none,last:=late ws a})::rs)) v ρ h
    |some g=>λρ h rs=>oP (g.f (.fn ρ [])) λb=>oP (gV b ((iL a.o).f (.fn ρ []) h)) λv=>
       po n a.o (λd h=>c k d h ((b,{it:=a,t:= .fn ρ [],v,made:=none,last:=late ws a})::rs)) v ρ h
  | 1=>match kU n all a.o with
    |none=>λρ h rs=>oP ((qw a.o).f (.fn ρ [])) λr=>po n a.o (λd h'=>c k d h' ((true,{it:=a,t:= .fn ρ [],v:=r.2 h.next,made:=some (h.next,r.1),last:=late ws a})::rs)) (r.2 h.next) ρ (h.new r.1)
    |some _=>λ_ _ _=>False
  | _ =>match kU n all a.o with
    |none=>λρ h rs=>xK k h rs (Sf C a.o (λv ρ h'=>h.next<=h'.next/\po n a.o (λρ h=>c (Nat.succ k) ρ h rs) v ρ h') ρ h)
    | some g=>match zf a.o with
      |true=>λρ h rs=>xK k h rs (oP (g.f (.fn ρ [])) λb=>oP (gC b (oB ((j7 a.o).f (.fn ρ []) h) IF)) λx=>uj C x h λv h'=>h.next<=h'.next/\po n a.o (λρ h=>c (Nat.succ k) ρ h rs) v ρ h')
      |false=>λ_ _ _=>False
noncomputable def Jh(C:fm) (n:Nat) (all:List Oper) (ws:List It) (K:gD->Hp->Prop) (l:List It):Nat->gD->Hp->List (Bool×Rec)->Prop:=List.rec (motive:=λ_=>Nat->gD->Hp->List (Bool×Rec)->Prop) (λk ρ h rs=>xK k h rs (K ρ h)) (λa _ b k=>itR C n all ws a b k) l
theorem V9(C:fm)(n:Nat)(all:List Oper)(ws:List It)(K:gD->Hp->Prop)(a:It)(l:List It)(k:Nat):Jh C n all ws K (a::l) k=itR C n all ws a (Jh C n all ws K l) k:=rfl
theorem JI{k:Nat}:∀{rs:List (Bool×Rec)} {K:Prop},xK k h rs K->CB k h (D0 rs)=true/\K
 |[],K,hk=>⟨rfl,hk⟩
 | (b,r)::rs,K,hk=>by
   simp only[xK]at hk;have a:∀{K:Prop},xK k h rs K->(b=true->(Nat.blt r.last k ||zX h r)=true)->CB k h (D0 ((b,r)::rs))=true/\K:=by
     intro K hk c;obtain⟨d,f⟩:=JI hk;refine⟨?_,f⟩
     cases b with
     |false=>exact d
     | true=>
       show CB k h (r::D0 rs)=true;unfold CB;rw[wBy,c rfl,ZR];exact d
   cases c:Nat.blt r.last k with
   |true=>rw[c]at hk;grind
   | false=>
     rw[c]at hk;obtain⟨h0,hk⟩:=hk;refine a hk (λe=>?_);subst e;rw[c,Bool.false_or]
     grind[Fj,zX,V.MH]
theorem zeY{b:Bool} {x:Option V} {v:V} (h:gV b x=some v):(b=true/\x=some v)\/(b=false/\v = .undef):=by
 cases b with
 |true=>exact .inl ⟨rfl,h⟩
 |false=>cases h;simp_all
theorem G9{o:Oper} {d:DF} (b:zd n o=some d) {K:gD->Hp->Prop} {v:V} (hk:po n o K v ρ h):∃a,d.f (.fn ρ []) v = .fn a []/\K a h:=by
 grind[Mp]
theorem Wz{m d a d':Nat} (b:m<=a) (c:d<=d') {all:List Oper} {ws l:List It} {k:Nat} {t:Tm} {h:Hp} {rs:List Rec} {r:Tm×Hp} (hv:(yk n all ws l k).f (kE C m d) t h rs=some r) :
  (yk n all ws l k).f (kE C a d') t h rs=some r:=Ad (yq b c) l k hv
theorem E3{all:List Oper} {ws:List It} {K:gD->Hp->Prop}:∀(l:List It) (k:Nat) {ρ:gD} {h:Hp} {rs:List (Bool×Rec)},Jh C n all ws K l k ρ h rs->
  ∃m d i h',(yk n all ws l k).f (kE C m d) (.fn ρ []) h (D0 rs)=some (.fn i [],h')/\K i h'
 | [],k,ρ,h,rs,hk=>by
   obtain⟨u,w⟩:=JI hk
   exact⟨0,0,ρ,h,by simp_all[yk,bB],w⟩
 | a ::l,k,ρ,h,rs,hk=>by
   have e:∀{K:gD->Hp->Prop} {v:V} {ρ:gD} {h:Hp},po n a.o K v ρ h->∃d,zd n a.o=some d:=by grind[Mp]
   have z:∀{d},zd n a.o=some d->∀call t h rs,(yk n all ws (a::l) k).f call t h rs=(match cls a.o with
       |0=>IC n all ws a d (yk n all ws l k)
       |1=>Gq n all ws a d (yk n all ws l k)
       |_=>CA n all k a d (yk n all ws l (Nat.succ k))).f call t h rs:=by
     intro d j call t h rs
     conv=>lhs;unfold yk
     rw[j];simp only;generalize cls a.o=c;rcases c with _|_|c <;> rfl
   have E:∀call t h,cls a.o≠0->cls a.o≠1->(IX a.o).f call t h=oB ((j7 a.o).f t h) λr=>match r with
       | .val v h=>some (v,h)
       | .call f args=>call f args h:=by
     intro call t h h0 u;unfold IX;split
     ·omega
     ·omega
     ·rfl
   have F:∀t,kU n all a.o=none->p6 n all a.o t=some true:=by grind[p6]
   have G:∀t g,kU n all a.o=some g->p6 n all a.o t=g.f t:=by grind[p6]
   have step:∀{h:Hp} {ρ:gD} {rs:List (Bool×Rec)} {c:Nat},cls a.o=c+2->CB k h (D0 rs)=true->p6 n all a.o (.fn ρ [])=some true->
       Sf C a.o (λv ρ h'=>h.next<=h'.next/\po n a.o (λρ h=>Jh C n all ws K l (Nat.succ k) ρ h rs) v ρ h') ρ h->
       ∃m d i h',(yk n all ws (a::l) k).f (kE C m d) (.fn ρ []) h (D0 rs)=some (.fn i [],h')/\K i h':=by
     intro h ρ rs c hc q P hk;have B:=λcall=>E call (.fn ρ []) h (by omega) (by omega);rcases XM hk with⟨v,h',hv,H,hk⟩|⟨f,args,hv,v,h',⟨Q,d0,L⟩,H,hk⟩
     ·simp only[hv,oB]at B
      obtain⟨d,j⟩:=e hk;obtain⟨I,u,hk⟩:=G9 j hk;obtain⟨m,s,i,A,w,p⟩:=E3 l _ hk;exact⟨m,s,i,A,by simp_all[CA,bB,oB,UD],p⟩
     ·simp only[hv,oB]at B
      obtain⟨d,j⟩:=e hk;obtain⟨I,u,hk⟩:=G9 j hk;obtain⟨m,s,i,A,w,p⟩:=E3 l _ hk;refine⟨max Q m,max d0 s,i,A,?_,p⟩;have J:=yq (C:=C) (wB4 Q m) (wB4 d0 s) _ _ _ _ L;rw[z j,hc];simp only[CA,q,bB,P,oB,B,J,u,UD H]
      grind[Wz,Nat.le_max_right]
   have D:∀{h:Hp} {ρ:gD} {rs:List (Bool×Rec)} {c:Nat},cls a.o=c+2->CB k h (D0 rs)=true->p6 n all a.o (.fn ρ [])=some false->
       po n a.o (λρ h=>Jh C n all ws K l (Nat.succ k) ρ h rs) .undef ρ h->
       ∃m d i h',(yk n all ws (a::l) k).f (kE C m d) (.fn ρ []) h (D0 rs)=some (.fn i [],h')/\K i h':=by
     intro h ρ rs c hc q P hk;obtain⟨d,j⟩:=e hk;obtain⟨I,u,hk⟩:=G9 j hk;obtain⟨m,s,i,A,w,p⟩:=E3 l _ hk;exact⟨m,s,i,A,by simp_all[CA,bB,oB],p⟩
   rw[V9]at hk;unfold itR at hk;generalize hc:cls a.o=c at hk;rcases c with _|_|c
   ·simp only at hk
    cases hwc:kU n all a.o with
    | none=>
      rw[hwc]at hk;obtain⟨v,hv,hk⟩:=kS.1 hk;obtain⟨d,j⟩:=e hk;obtain⟨I,u,hk⟩:=G9 j hk;obtain⟨m,s,i,h',w,p⟩:=E3 l k hk
      exact⟨m,s,i,h',by rw[z j,hc];simp only[IC,F _ hwc,hv,oB,u];exact w,p⟩
    | some g=>
      rw[hwc]at hk;obtain⟨b,M,hk⟩:=kS.1 hk;obtain⟨v,hv,hk⟩:=kS.1 hk;obtain⟨d,j⟩:=e hk;obtain⟨I,u,hk⟩:=G9 j hk;obtain⟨m,s,i,h',w,p⟩:=E3 l k hk;rcases zeY hv with⟨N,O⟩|⟨N,S⟩
      ·subst N
       exact⟨m,s,i,h',by rw[z j,hc];simp only[IC,G _ _ hwc,M,O,oB,u];exact w,p⟩
      ·subst N;subst S
       exact⟨m,s,i,h',by rw[z j,hc];simp only[IC,G _ _ hwc,M,oB,u];exact w,p⟩
   ·simp only at hk
    cases hwc:kU n all a.o with
    | none=>
      rw[hwc]at hk;obtain⟨v,hv,hk⟩:=kS.1 hk;obtain⟨d,j⟩:=e hk;obtain⟨I,u,hk⟩:=G9 j hk;obtain⟨m,s,i,h',w,p⟩:=E3 l k hk
      exact⟨m,s,i,h',by rw[z j,hc];simp only[Gq,F _ hwc,hv,oB,u];exact w,p⟩
    |some g=>simp_all
   ·simp only at hk
    cases hwc:kU n all a.o with
    | none=>
      rw[hwc]at hk;obtain⟨q,hk⟩:=JI hk
      simp_all
    | some g=>
      rw[hwc]at hk;simp only at hk
      cases hi:zf a.o with
      |false=>simp_all
      | true=>
        rw[hi]at hk;obtain⟨q,hk⟩:=JI hk;obtain⟨b,M,hk⟩:=kS.1 hk;obtain⟨x,R,hk⟩:=kS.1 hk
        cases b with
        | true=>
          obtain⟨y,p,T⟩:=fq.1 (show oB _ _=_ from R);cases T
          exact step hc q (by simp_all) (by unfold Sf;rw[hi];exact ed p hk)
        | false=>
          cases R;exact D hc q (by simp_all) hk.2
noncomputable def yG(all:List Oper):Bool:=PL (items all 0 []) (gQ (items all 0 []))&&xk (items all 0 []) (gQ (items all 0 [])) (order (items all 0 []) (gQ (items all 0 [])) (gQ (items all 0 [])) 0) 0 0
noncomputable def Vn(C:fm) (n:Nat) (all:List Oper) (K:gD->Hp->Prop) (ρ:gD) (h:Hp):Prop:=Jh C n all (gQ (items all 0 [])) K (order (items all 0 []) (gQ (items all 0 [])) (gQ (items all 0 [])) 0) 0 ρ h []
theorem Wp.draw{id:Nat} {ops:Array Oper} (a:yG ops.toList=true) (b:Vn C n ops.toList (λρ h=>Q .normal ρ h) ρ h):Wp C n (.region id ops true) Q ρ h:=by
 obtain⟨m,d,c,h',f,g⟩:=E3 _ _ b;have e:D0 []=[]:=rfl;rw[e]at f;refine⟨m,d,.normal,c,h',?_,g⟩
 simp_all[yG,iE,MN,oB]
noncomputable def jH(C:fm) (n:Nat) (c:Code):(X->gD->Hp->Prop)->gD->Hp->Prop:=
 Code.rec (motive:=λ_=>(X->gD->Hp->Prop)->gD->Hp->Prop)
  (λQ=>Q .normal)
  (fun _ ops d Q=>match d with
   |false=>zW C n ops.toList (λρ h=>Q .normal ρ h) ops.toList
   | true=>match yG ops.toList with
     |true=>Vn C n ops.toList (λρ h=>Q .normal ρ h)
     |false=>λ_ _=>False)
  (λ_ b a _ Q=>a (andThen (Wp C n b Q) Q))
  (λc _ _ a e Q ρ h=>oP ((tq c).f (.fn ρ []) h) λv=>bP v (a Q ρ h) (e Q ρ h))
  (λid _ g Q=>g (xm id Q))
  (λc _ Q=>Wp C n (.loop c) Q)
  (λ_ _ _ _ _ _ _ _ _=>False)
  (λid Q=>Q (.exit id))
  (λ_ _ _ _ _=>False)
  (λ_ _ _ _=>False)
  (λ_ _ _ _=>False)
  (λQ=>Q .ret)
  (λ_ _ _ _=>False) c
theorem Wp.code:∀(c:Code) {Q:X->gD->Hp->Prop} {ρ:gD} {h:Hp},jH C n c Q ρ h->Wp C n c Q ρ h
 | .skip,_,_,_,hk=> .skip hk
 | .region _ ops false,_,_,_,hk=> .region hk
 | .region _ ops true,Q,ρ,h,hk=>by
   have d:(match yG ops.toList with
       |true=>Vn C n ops.toList (λρ h=>Q .normal ρ h)
       |false=>λ_ _=>False) ρ h:=hk
   cases hd:yG ops.toList with
   |true=>simp_all[draw]
   |false=>simp_all
 | .seq a _,_,_,_,hk=> .seq (Wp.code a hk)
 | .cond c a b,_,_,_,hk=>by
   obtain⟨v,hv,hk⟩:=kS.1 hk;refine .cond (ed hv ?_);unfold bP at hk⊢;split at hk
   ·rename_i x
    cases x with
    |true=>exact Wp.code a hk
    |false=>exact Wp.code b hk
   ·exact hk.elim
 | .block id c,_,_,_,hk=> .block (Wp.code c hk)
 | .loop c,_,_,_,hk=>hk
 | .exit id,_,_,_,hk=> .exit hk
 | .ret,_,_,_,hk=> .ret hk
 | .rangeFunc ..,_,_,_,hk=>hk.elim
 | .scope _,_,_,_,hk=>hk.elim
 | .label _,_,_,_,hk=>hk.elim
 | .goto _,_,_,_,hk=>hk.elim
 | .refuse _,_,_,_,hk=>hk.elim
def zas(l:List ResultVar)(Q:V->Hp->Prop)(ρ:gD)(h:Hp):Prop:=oP (Ap (.fn ρ []) h l) λvs=>Q (zP vs) h
def ID(l:List ResultVar) (Q:V->Hp->Prop):X->gD->Hp->Prop
 | .exit _,_,_=>False
 |_,ρ,h=>zas l Q ρ h
def Lv(args:List V):gD:=λi=>(args[i]?).getD .undef
theorem cP.func(hs:C.start=fN) {f:Nat} {fn:Func} {c:Code} {args:List V} (j:P0.funcs[f]? =some fn) (k:fn.body=some c) (hk:C.K f args h=none) (e:args.length<=fn.ntmps) {Q:V->Hp->Prop}
  (l:Wp C fn.ntmps c (ID fn.results.toList Q) (Lv args) h):cP C f args h Q:=by
 obtain ⟨m,d,x,n,h',o,g⟩:=l;have a:zas fn.results.toList Q n h'->(∀id,x≠ .exit id)->cP C f args h Q:=by
  intro p r;obtain⟨vs,s,q⟩:=kS.1 p;refine⟨_,_,⟨m,d+1,?_⟩,q⟩;show(Fg C f).f (kE C m d) m args h=_;unfold Fg;rw[j];simp only[k,hk,ZW,hs];have b:Nat.ble args.length fn.ntmps=true:=UD e;have i:fN args = .fn (Lv args) []:=rfl;rw[i,b,o]
  cases x with
  |normal=>simp_all[bB,oB,Tm.ds,Of]
  |ret=>simp_all[bB,oB,Tm.ds,Of]
  |exit id=>simp_all
 cases x with
 |normal=>exact a g (by simp_all)
 |ret=>exact a g (by simp_all)
 |exit id=>exact g.elim
theorem cP.XL(hs:C.start=fN) {f:Nat} {fn:Func} {c:Code} {args:List V} {k:Nat} {rs:List ResultVar} (b:P0.funcs[f]? =some fn) (d:fn.body=some c) (e:fn.ntmps=k) (g:fn.results.toList=rs)
  (hk:C.K f args h=none) (a:args.length<=k) {Q:V->Hp->Prop} (i:Wp C k c (ID rs Q) (Lv args) h):cP C f args h Q:=by
 grind[cP.func]
theorem cP.known{f:Nat} {fn:Func} {c:Code} {args:List V} {v:V} (a:P0.funcs[f]? =some fn) (b:fn.body=some c) (hk:C.K f args h=some v) (d:SW args=true) (e:v.flat=true) {Q:V->Hp->Prop} (hq:Q v h):cP C f args h Q:=by
 refine⟨v,h,⟨0,1,?_⟩,hq⟩;show(Fg C f).f _ _ args h=_
 simp_all[Fg,ZW,Bool.and_self,bB]
theorem cP.mono{f:Nat} {args:List V} {Q a:V->Hp->Prop} (hc:cP C f args h Q) (hq:∀v h,Q v h->a v h):cP C f args h a:=by
 obtain⟨v,h',b,c⟩:=hc;exact⟨v,h',b,hq _ _ c⟩
end
