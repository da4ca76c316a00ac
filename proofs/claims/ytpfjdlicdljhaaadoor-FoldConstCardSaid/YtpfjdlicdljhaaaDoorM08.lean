/- Parts. -/
import Derived.Test.YtpfjdlicdljhaaaDoorM07
set_option maxHeartbeats 4000000
namespace Go.Proofs.YtpfjdlicdljhaaaDoor.Hx
abbrev dR:=Nat->V
def Ev(C:dc)(f:Nat)(args:List V)(h:Hp)(v:V)(h':Hp):Prop:=∃m d,gQ C m d f args h=some (v,h')
inductive Wp (C:dc) (n:Nat) (c:Code) (Q:X->dR->Hp->Prop) (ρ:dR) (h:Hp):Prop
 |mk (b:∃m d x a h',(eY n c).f (gQ C m d) m (.fn ρ []) h=some (x,.fn a [],h')/\Q x a h')
def oP{α:Type}(x:Option α)(k:α->Prop):Prop:=Option.rec (motive:=λ_=>Prop) False k x
theorem TC{α:Type}(a:α)(k:α->Prop):oP (some a) k=k a:=rfl
theorem hK{α:Type} {x:Option α} {k:α->Prop}:oP x k↔∃a,x=some a/\k a:=by
 cases x with
 |none=>grind[oP]
 |some a=>exact⟨λh=>⟨a,rfl,h⟩,λ⟨_,h,h'⟩=>by grind[oP]⟩
theorem cO{α:Type}{x:Option α}{k:α->Prop}{a:α}(h:x=some a)(h':k a):oP x k:=by subst h;exact h'
def cP(C:dc)(f:Nat)(args:List V)(h:Hp)(k:V->Hp->Prop):Prop:=∃v h',Ev C f args h v h'/\k v h'
def bP(v:V) (a b:Prop):Prop:=match v with
 | .bool x=>Bool.rec (motive:=λ_=>Prop) b a x
 |_=>False
theorem eP(x:Bool)(a b:Prop):bP (.bool x) a b=if x=true then a else b:=by cases x <;> rfl
section
variable{C:dc}{n:Nat}{Q:X->dR->Hp->Prop}{ρ:dR}{h:Hp}
theorem Wp.mono{c:Code} {a:X->dR->Hp->Prop} (b:Wp C n c Q ρ h) (hq:∀x ρ h,Q x ρ h->a x ρ h):Wp C n c a ρ h:=by
 obtain⟨m,d,x,e,h',f,g⟩:=b;exact⟨m,d,x,e,h',f,by simp_all⟩
theorem Wp.skip(hq:Q .normal ρ h):Wp C n .skip Q ρ h:=⟨0,0,.normal,ρ,h,rfl,hq⟩
theorem Wp.ret(hq:Q .ret ρ h):Wp C n .ret Q ρ h:=⟨0,0,.ret,ρ,h,rfl,hq⟩
theorem Wp.exit{id:Nat}(hq:Q (.exit id) ρ h):Wp C n (.exit id) Q ρ h:=⟨0,0,.exit id,ρ,h,rfl,hq⟩
def andThen(k:dR->Hp->Prop) (Q:X->dR->Hp->Prop):X->dR->Hp->Prop
 | .normal,ρ,h=>k ρ h
 |x,ρ,h=>Q x ρ h
theorem uw{m d a d':Nat} (b:m<=a) (e:d<=d') {c:Code} {t:Tm} {h:Hp} {r:X×Tm×Hp} (g:(eY n c).f (gQ C m d) m t h=some r):(eY n c).f (gQ C a d') a t h=some r:=
 jc (si b e) b c g
theorem Wp.seq{a b:Code} (i:Wp C n a (andThen (Wp C n b Q) Q) ρ h):Wp C n (.seq a b) Q ρ h:=by
 obtain⟨m,d,x,g,h',o,c⟩:=i
 cases x with
 | normal=>
   obtain⟨j,d',k,e,f,p,l⟩:=c;refine⟨max m j,max d d',k,e,f,?_,l⟩
   grind[eY,uw,Ws,zP,Nat.le_max_right]
 |exit id=>exact⟨m,d,.exit id,g,h',by grind[eY,zP],c⟩
 |ret=>exact⟨m,d,.ret,g,h',by grind[eY,zP],c⟩
theorem Wp.cond{e:Operand} {a b:Code} (c:oP ((nK e).f (.fn ρ []) h) λv=>bP v (Wp C n a Q ρ h) (Wp C n b Q ρ h)):Wp C n (.cond e a b) Q ρ h:=by
 obtain⟨v,k,c⟩:=hK.1 c;unfold bP at c;split at c
 ·rename_i x
  cases x with
  | true=>
    obtain⟨m,d,x,g,h',j,i⟩:=c
    exact⟨m,d,x,g,h',by grind[eY,c7],i⟩
  | false=>
    obtain⟨m,d,x,g,h',j,i⟩:=c;exact⟨m,d,x,g,h',by grind[eY,c7],i⟩
 simp_all
def uZ(id:Nat) (Q:X->dR->Hp->Prop):X->dR->Hp->Prop
 | .exit i,ρ,h=>Bool.rec (motive:=λ_=>Prop) (Q (.exit i) ρ h) (Q .normal ρ h) (Nat.beq i id)
 |x,ρ,h=>Q x ρ h
theorem Wp.block{id:Nat} {c:Code} (e:Wp C n c (uZ id Q) ρ h):Wp C n (.block id c) Q ρ h:=by
 obtain⟨m,d,x,b,h',f,a⟩:=e
 cases x with
 |normal=>exact⟨m,d,.normal,b,h',by grind[eY,DN],a⟩
 |ret=>exact⟨m,d,.ret,b,h',by grind[eY,DN],a⟩
 | exit i=>
   simp only[uZ]at a
   cases hb:Nat.beq i id with
   |true=>rw[hb]at a;exact⟨m,d,.normal,b,h',by simp_all[eY,DN],a⟩
   |false=>rw[hb]at a;exact⟨m,d,.exit i,b,h',by simp_all[eY,DN],a⟩
theorem Wp.loop{c:Code} (z:Wp C n c (andThen (Wp C n (.loop c) Q) Q) ρ h):Wp C n (.loop c) Q ρ h:=by
 obtain⟨m,d,x,o,h',e,p⟩:=z
 cases x with
 | normal=>
   obtain⟨a,d',l,g,i,q,A⟩:=p;refine⟨max m a+1,max d d',l,g,i,?_,A⟩;have b:=uw (C:=C) (n:=n) (EY (Ws m a) (Q0 _)) (Ws d d') e;simp only[eY]at q⊢;show zP _ _=_;simp only[b,zP];have F:(eY n (.loop c)).f (gQ C a d') a (.fn o []) h' = some (l,.fn g [],i):=q
   have s:∀(k k':Nat) (t:Tm) (h:Hp) (r:X×Tm×Hp),k<=k'->AH (λt h=>(eY n c).f (gQ C a d') a t h) k t h=some r->
       AH (λt h=>(eY n c).f (gQ C (max m a+1) (max d d')) (max m a+1) t h) k' t h=some r:=by
     intro k
     induction k with
     |zero=>intro k' t h r _ u;cases u
     | succ k B=>
       intro k' t h r hk u;obtain⟨k',rfl⟩:∃j,k' = j+1:=⟨k'-1,by omega⟩
       have v:zP ((eY n c).f (gQ C a d') a t h) (AH (λt h=>(eY n c).f (gQ C a d') a t h) k)=some r:=u;show zP ((eY n c).f (gQ C (max m a+1) (max d d')) (max m a+1) t h) (AH (λt h=>(eY n c).f (gQ C (max m a+1) (max d d')) (max m a+1) t h) k')=some r
       have w:∀{r},(eY n c).f (gQ C a d') a t h=some r->(eY n c).f (gQ C (max m a+1) (max d d')) (max m a+1) t h=some r:=
         λD=>uw (by omega) (Nat.le_max_right d d') D
       rcases Dj v with⟨E,e,b,y⟩|⟨b,y⟩
       ·rw[w b];exact B k' E e r (by omega) y
       ·rw[w b]
        obtain⟨l,t',h'⟩:=r
        cases l with
        |normal=>simp_all
        |exit id=>rfl
        |ret=>rfl
   exact s a (max m a) _ _ _ (Nat.le_max_right m a) q
 | exit id=>
   refine⟨m+1,d,.exit id,o,h',?_,p⟩;have b:=uw (C:=C) (n:=n) (Q0 m) (iC d) e;simp only[eY];show zP _ _=_
   grind[zP]
 | ret=>
   refine⟨m+1,d,.ret,o,h',?_,p⟩;have b:=uw (C:=C) (n:=n) (Q0 m) (iC d) e;simp only[eY];show zP _ _=_
   grind[zP]
theorem Wp.W9{c:Code} (I:Nat->dR->Hp->Prop) (b:∀k ρ h,I k ρ h->Wp C n c (andThen (λa h'=>∃k',k' < k/\I k' a h') Q) ρ h) {k:Nat} (h0:I k ρ h):Wp C n (.loop c) Q ρ h:=by
 induction k using Nat.strongRecOn generalizing ρ h with
 | _ k d=>
   refine .loop ((b k ρ h h0).mono λx a h' hq=>?_)
   cases x with
   |normal=>obtain⟨k',hk,hi⟩:=hq;exact d k' hk hi
   |exit id=>exact hq
   |ret=>exact hq
def kC(n:Nat) (o:Oper) (K:dR->Hp->Prop):V->dR->Hp->Prop:=match o.dst with
 |none=>λ_ ρ h=>K ρ h
 | some d=>match Nat.blt d n with
   |true=>λv ρ h=>K (dW ρ d v) h
   |false=>λ_ _ _=>False
def valOf:R->Option (V×Hp)
 | .val v h=>some (v,h)
 | .call _ _=>none
def B0:R->Option (Nat×List V)
 | .call f args=>some (f,args)
 | .val _ _=>none
def tn(o:Oper):Bool:=match o.op with
 | .call c=>match c.callee with
   | .value _| .invoke _ _=>true
   | .builtin _=>false
 |_=>false
def Ld(C:dc) (o:Oper) (K:V->dR->Hp->Prop):dR->Hp->Prop:=match tn o with
 |true=>λρ h=>oP (oB ((gK o).f (.fn ρ []) h) B0) λx=>cP C x.1 x.2 h λv h'=>K v ρ h'
 |false=>λρ h=>oP (oB ((gK o).f (.fn ρ []) h) valOf) λx=>K x.1 ρ x.2
def Kf(C:dc) (o:Oper) (K:V->dR->Hp->Prop):dR->Hp->Prop:=match cls o with
 |0=>λρ h=>oP ((fh o).f (.fn ρ []) h) λv=>K v ρ h
 |1=>λρ h=>oP ((lK o).f (.fn ρ [])) λr=>K (r.2 h.next) ρ (h.new r.1)
 |_=>Ld C o K
noncomputable def gV(b:Bool)(x:Option V):Option V:=Bool.rec (motive:=λ_=>Option V) (some .undef) x b
noncomputable def gH(b:Bool)(h:Hp)(x:Option (V×Hp)):Option (V×Hp):=Bool.rec (motive:=λ_=>Option (V×Hp)) (some (.undef,h)) x b
noncomputable def gC(b:Bool)(x:Option (Nat×List V)):Option (Option (Nat×List V)):=Bool.rec (motive:=λ_=>Option (Option (Nat×List V))) (some none) (oB x λy=>some (some y)) b
def tv(C:dc) (x:Option (Nat×List V)) (h:Hp) (K:V->Hp->Prop):Prop:=match x with
 |none=>K .undef h
 |some y=>cP C y.1 y.2 h K
def Sg(C:dc) (o:Oper) (b:Bool) (K:V->dR->Hp->Prop) (ρ:dR) (h:Hp):Prop:=match cls o with
 |0=>oP (gV b ((fh o).f (.fn ρ []) h)) λv=>K v ρ h
 |1=>oP (gH b h (oB ((lK o).f (.fn ρ [])) λr=>some (r.2 h.next,h.new r.1))) λx=>K x.1 ρ x.2
 | _=>match tn o with
   |true=>oP (gC b (oB ((gK o).f (.fn ρ []) h) B0)) λx=>tv C x h λv h'=>K v ρ h'
   |false=>oP (gH b h (oB ((gK o).f (.fn ρ []) h) valOf)) λx=>K x.1 ρ x.2
def uu(C:dc) (n:Nat) (all:List Oper) (o:Oper) (K:dR->Hp->Prop):dR->Hp->Prop:=match uA o with
 |some _=>λ_ _=>False
 | none=>match hO n all o with
   |none=>Kf C o (kC n o K)
   |some g=>λρ h=>oP (g.f (.fn ρ [])) λb=>Sg C o b (kC n o K) ρ h
noncomputable def ua(C:dc) (n:Nat) (all:List Oper) (K:dR->Hp->Prop) (os:List Oper):dR->Hp->Prop:=List.rec (motive:=λ_=>dR->Hp->Prop) K (λo _ a=>uu C n all o a) os
theorem OE(C:dc)(n:Nat)(all:List Oper)(K:dR->Hp->Prop)(o:Oper)(os:List Oper):ua C n all K (o::os)=uu C n all o (ua C n all K os):=rfl
theorem Fi{o:Oper} {K:dR->Hp->Prop} {v:V} (hk:kC n o K v ρ h):∃d,tz n o=some d/\∃a,d.f (.fn ρ []) v = .fn a []/\K a h:=by
 unfold kC at hk;unfold tz
 cases ho:o.dst with
 |none=>simp_all
 | some d=>
   rw[ho]at hk;simp only at hk⊢
   cases hb:Nat.blt d n with
   |true=>rw[hb]at hk;exact⟨_,rfl,_,rfl,hk⟩
   |false=>simp_all
def U8(C:dc)(o:Oper)(K:V->dR->Hp->Prop)(ρ:dR)(h:Hp):Prop:=∃m d v h',(Ct o).f (gQ C m d) (.fn ρ []) h=some (v,h')/\K v ρ h'
theorem PX{o:Oper} {K:V->dR->Hp->Prop} (hk:Ld C o K ρ h):(∃v h',(gK o).f (.fn ρ []) h=some (.val v h')/\K v ρ h')\/∃f args,(gK o).f (.fn ρ []) h=some (.call f args)/\cP C f args h λv h'=>K v ρ h':=by
 unfold Ld at hk;cases hb:tn o
 all_goals rw[hb]at hk
 rotate_left
 ·obtain⟨x,a,c⟩:=hK.1 hk;rw[c7]at a;obtain⟨r,d,b⟩:=a
  cases r with
  |val v h'=>cases b
  |call f args=>cases b;grind
 ·obtain⟨x,a,c⟩:=hK.1 hk;rw[c7]at a;obtain⟨r,d,b⟩:=a
  cases r with
  |val v h'=>cases b;grind
  |call f args=>cases b
theorem GW{o:Oper} {K:V->dR->Hp->Prop} (hk:Kf C o K ρ h):U8 C o K ρ h:=by
 by_cases hc0:cls o=0
 ·have a:oP ((fh o).f (.fn ρ []) h) (λv=>K v ρ h):=by unfold Kf at hk;rw[hc0]at hk;exact hk
  obtain⟨v,e,b⟩:=hK.1 a;exact⟨0,0,v,h,by simp_all[Ct,oB],b⟩
 ·by_cases hc1:cls o=1
  ·have a:oP ((lK o).f (.fn ρ [])) (λr=>K (r.2 h.next) ρ (h.new r.1)):=by unfold Kf at hk;rw[hc1]at hk;exact hk
   obtain⟨r,e,b⟩:=hK.1 a;exact⟨0,0,_,_,by simp_all[Ct,oB],b⟩
  ·have a:Ld C o K ρ h:=by
    unfold Kf at hk;generalize cls o=c at hk hc0 hc1;rcases c with _|_|c
    ·omega
    ·omega
    ·exact hk
   have g:∀call,(Ct o).f call (.fn ρ []) h=oB ((gK o).f (.fn ρ []) h) λr=>match r with
     | .val v h=>some (v,h)
     | .call f args=>call f args h:=by
    intro call;unfold Ct;split
    ·omega
    ·omega
    ·rfl
   rcases PX a with⟨v,h',e,b⟩|⟨f,args,e,v,h',⟨m,d,j⟩,i⟩
   ·exact⟨0,0,v,h',by simp_all[oB],b⟩
   ·exact⟨m,d,v,h',by simp_all[oB],i⟩
theorem U2{o:Oper} {b:Bool} {K:V->dR->Hp->Prop} (hk:Sg C o b K ρ h):(b=true/\U8 C o K ρ h)\/(b=false/\K .undef ρ h):=by
 unfold Sg at hk;by_cases hc0:cls o=0
 ·rw[hc0]at hk;obtain⟨v,a,e⟩:=hK.1 hk
  cases b with
  |true=>exact .inl ⟨rfl,GW (by unfold Kf;rw[hc0];exact cO a e)⟩
  |false=>cases a;simp_all
 ·by_cases hc1:cls o=1
  ·rw[hc1]at hk;obtain⟨v,a,e⟩:=hK.1 hk
   cases b with
   | true=>
     obtain⟨r,i,g⟩:=c7.1 (show oB _ _=_ from a);cases g
     exact .inl ⟨rfl,by grind[GW,Kf,cO]⟩
   |false=>cases a;simp_all
  ·have j:∀K,Ld C o K ρ h->Kf C o K ρ h:=by
    intro K hk;unfold Kf;generalize cls o=c at hc0 hc1;rcases c with _|_|c
    ·omega
    ·omega
    ·exact hk
   have d:(match tn o with
     |true=>oP (gC b (oB ((gK o).f (.fn ρ []) h) B0)) λx=>tv C x h λv h'=>K v ρ h'
     |false=>oP (gH b h (oB ((gK o).f (.fn ρ []) h) valOf)) λx=>K x.1 ρ x.2):=by
    generalize cls o=c at hk hc0 hc1;rcases c with _|_|c
    ·omega
    ·omega
    ·exact hk
   cases hi:tn o with
   | true=>
     rw[hi]at d;obtain⟨x,a,e⟩:=hK.1 d
     cases b with
     | true=>
       obtain⟨y,i,g⟩:=c7.1 (show oB _ _=_ from a);cases g
       exact .inl ⟨rfl,GW (j _ (by unfold Ld;rw[hi];exact cO i e))⟩
     |false=>cases a;exact .inr ⟨rfl,e⟩
   | false=>
     rw[hi]at d;obtain⟨x,a,e⟩:=hK.1 d
     cases b with
     |true=>exact .inl ⟨rfl,GW (j _ (by unfold Ld;rw[hi];exact cO a e))⟩
     |false=>cases a;simp_all
theorem J6{m d a d':Nat} (b:m<=a) (c:d<=d') {all os:List Oper} {t:Tm} {h:Hp} {r:Tm×Hp} (e:(oS n all os).f (gQ C m d) t h=some r):(oS n all os).f (gQ C a d') t h=some r:=
 yo (si b c) os e
theorem Jg{all:List Oper} {K:dR->Hp->Prop}:∀(os:List Oper) {ρ:dR} {h:Hp},ua C n all K os ρ h->∃m d a h',(oS n all os).f (gQ C m d) (.fn ρ []) h=some (.fn a [],h')/\K a h'
 |[],ρ,h,hk=>⟨0,0,ρ,h,rfl,hk⟩
 | o ::os,ρ,h,hk=>by
   rw[OE]at hk;unfold uu at hk
   cases hq:uA o with
   |some q=>simp_all
   | none=>
     rw[hq]at hk;simp only at hk
     have l:∀{ρ h},U8 C o (kC n o (ua C n all K os)) ρ h->∃d,tz n o=some d/\∃m c v k,(Ct o).f (gQ C m c) (.fn ρ []) h=some (v,k)/\∃e,d.f (.fn ρ []) v = .fn e []/\
        ∃a h',(oS n all os).f (gQ C m c) (.fn e []) k=some (.fn a [],h')/\K a h':=by
       intro ρ h hk;obtain⟨m,c,v,k,t,y⟩:=hk;obtain⟨d,r,e,s,u⟩:=Fi y;obtain⟨w,d',a,h',x,i⟩:=Jg os u;exact⟨d,r,max m w,max c d',v,k,DA (by grind[si,Ws]) t,e,s,a,h',by grind[J6,Nat.le_max_right],i⟩
     cases hw:hO n all o with
     | none=>
       rw[hw]at hk;obtain⟨d,r,m,c,v,k,t,e,s,a,h',x,i⟩:=l (GW hk);refine⟨m,c,a,h',?_,i⟩
       simp_all[oS,Dp,oB]
     | some g=>
       rw[hw]at hk;obtain⟨b,z,hk⟩:=hK.1 hk;rcases U2 hk with⟨p,j⟩|⟨p,j⟩ <;> subst p
       ·obtain⟨d,r,m,c,v,k,t,e,s,a,h',x,i⟩:=l j
        refine⟨m,c,a,h',?_,i⟩
        simp_all[oS,Dp,oB]
       ·obtain⟨d,r,e,s,u⟩:=Fi j
        obtain⟨w,d',a,h',x,i⟩:=Jg os u;refine⟨w,d',a,h',?_,i⟩
        simp_all[oS,Dp,oB]
theorem Wp.region{id:Nat} {ops:Array Oper} (a:ua C n ops.toList (λρ h=>Q .normal ρ h) ops.toList ρ h):Wp C n (.region id ops false) Q ρ h:=by
 obtain⟨m,d,b,h',e,c⟩:=Jg _ a;exact⟨m,d,.normal,b,h',by simp_all[eY,oB],c⟩
end
section
variable{C:dc}{n:Nat}{Q:X->dR->Hp->Prop}{ρ:dR}{h:Hp}
def zq(h:Hp) (r:Rec):Prop:=match r.made with
 |none=>(fh r.it.o).f r.t h=some r.v
 |some (l,ob)=>h.get l=some ob/\O.beq ob ob=true
def rT(k:Nat) (h:Hp):List (Bool×Rec)->Prop->Prop
 |[],K=>K
 |r::rs,K=>Bool.rec (motive:=λ_=>Prop) (Bool.rec (motive:=λ_=>Prop) True (zq h r.2) r.1/\rT k h rs K) (rT k h rs K) (Nat.blt r.2.last k)
def yK(rs:List (Bool×Rec)):List Rec:=(rs.filter (·.1)).map (·.2)
def Vh(C:dc) (n:Nat) (all:List Oper) (ws:List It) (a:It) (c:Nat->dR->Hp->List (Bool×Rec)->Prop) (k:Nat):dR->Hp->List (Bool×Rec)->Prop:=match cls a.o with
  | 0=>match hO n all a.o with
    |none=>λρ h rs=>oP ((fh a.o).f (.fn ρ []) h) λv=>kC n a.o (λd h=>c k d h ((true,{it:=a,t:= .fn ρ [],v,made:=none,last:=late ws a})::rs)) v ρ h
    |some g=>λρ h rs=>oP (g.f (.fn ρ [])) λb=>oP (gV b ((fh a.o).f (.fn ρ []) h)) λv=>
       kC n a.o (λd h=>c k d h ((b,{it:=a,t:= .fn ρ [],v,made:=none,last:=late ws a})::rs)) v ρ h
  | 1=>match hO n all a.o with
    |none=>λρ h rs=>oP ((lK a.o).f (.fn ρ [])) λr=>kC n a.o (λd h'=>c k d h' ((true,{it:=a,t:= .fn ρ [],v:=r.2 h.next,made:=some (h.next,r.1),last:=late ws a})::rs)) (r.2 h.next) ρ (h.new r.1)
    |some _=>λ_ _ _=>False
  | _ =>match hO n all a.o with
    |none=>λρ h rs=>rT k h rs (Ld C a.o (λv ρ h'=>h.next<=h'.next/\kC n a.o (λρ h=>c (Nat.succ k) ρ h rs) v ρ h') ρ h)
    | some g=>match tn a.o with
      |true=>λρ h rs=>rT k h rs (oP (g.f (.fn ρ [])) λb=>oP (gC b (oB ((gK a.o).f (.fn ρ []) h) B0)) λx=>tv C x h λv h'=>h.next<=h'.next/\kC n a.o (λρ h=>c (Nat.succ k) ρ h rs) v ρ h')
      |false=>λ_ _ _=>False
noncomputable def Co(C:dc) (n:Nat) (all:List Oper) (ws:List It) (K:dR->Hp->Prop) (l:List It):Nat->dR->Hp->List (Bool×Rec)->Prop:=List.rec (motive:=λ_=>Nat->dR->Hp->List (Bool×Rec)->Prop) (λk ρ h rs=>rT k h rs (K ρ h)) (λa _ b k=>Vh C n all ws a b k) l
theorem OH(C:dc)(n:Nat)(all:List Oper)(ws:List It)(K:dR->Hp->Prop)(a:It)(l:List It)(k:Nat):Co C n all ws K (a::l) k=Vh C n all ws a (Co C n all ws K l) k:=rfl
theorem Du{k:Nat}:∀{rs:List (Bool×Rec)} {K:Prop},rT k h rs K->wR k h (yK rs)=true/\K
 |[],K,hk=>⟨rfl,hk⟩
 | (b,r)::rs,K,hk=>by
   simp only[rT]at hk;have a:∀{K:Prop},rT k h rs K->(b=true->(Nat.blt r.last k ||uh h r)=true)->wR k h (yK ((b,r)::rs))=true/\K:=by
     intro K hk c;obtain⟨d,f⟩:=Du hk;refine⟨?_,f⟩
     cases b with
     |false=>exact d
     | true=>
       show wR k h (r::yK rs)=true;unfold wR;rw[Ul,c rfl,Sv];exact d
   cases c:Nat.blt r.last k with
   |true=>rw[c]at hk;grind
   | false=>
     rw[c]at hk;obtain⟨h0,hk⟩:=hk;refine a hk (λe=>?_);subst e;rw[c,Bool.false_or]
     grind[zq,uh,V.GY]
theorem Xj{b:Bool} {x:Option V} {v:V} (h:gV b x=some v):(b=true/\x=some v)\/(b=false/\v = .undef):=by
 cases b with
 |true=>exact .inl ⟨rfl,h⟩
 |false=>cases h;simp_all
theorem AS{o:Oper} {d:DF} (b:tz n o=some d) {K:dR->Hp->Prop} {v:V} (hk:kC n o K v ρ h):∃a,d.f (.fn ρ []) v = .fn a []/\K a h:=by
 grind[Fi]
theorem PB{m d a d':Nat} (b:m<=a) (c:d<=d') {all:List Oper} {ws l:List It} {k:Nat} {t:Tm} {h:Hp} {rs:List Rec} {r:Tm×Hp} (e:(sg n all ws l k).f (gQ C m d) t h rs=some r) :
  (sg n all ws l k).f (gQ C a d') t h rs=some r:=um (si b c) l k e
theorem zg{all:List Oper} {ws:List It} {K:dR->Hp->Prop}:∀(l:List It) (k:Nat) {ρ:dR} {h:Hp} {rs:List (Bool×Rec)},Co C n all ws K l k ρ h rs->
  ∃m d i h',(sg n all ws l k).f (gQ C m d) (.fn ρ []) h (yK rs)=some (.fn i [],h')/\K i h'
 | [],k,ρ,h,rs,hk=>by
   obtain⟨u,w⟩:=Du hk
   exact⟨0,0,ρ,h,by simp_all[sg,bB],w⟩
 | a ::l,k,ρ,h,rs,hk=>by
   have e:∀{K:dR->Hp->Prop} {v:V} {ρ:dR} {h:Hp},kC n a.o K v ρ h->∃d,tz n a.o=some d:=by grind[Fi]
   have z:∀{d},tz n a.o=some d->∀call t h rs,(sg n all ws (a::l) k).f call t h rs=(match cls a.o with
       |0=>Bv n all ws a d (sg n all ws l k)
       |1=>z7 n all ws a d (sg n all ws l k)
       |_=>wW n all k a d (sg n all ws l (Nat.succ k))).f call t h rs:=by
     intro d j call t h rs
     conv=>lhs;unfold sg
     rw[j];simp only;generalize cls a.o=c;rcases c with _|_|c <;> rfl
   have F:∀call t h,cls a.o≠0->cls a.o≠1->(Ct a.o).f call t h=oB ((gK a.o).f t h) λr=>match r with
       | .val v h=>some (v,h)
       | .call f args=>call f args h:=by
     intro call t h h0 u;unfold Ct;split
     ·omega
     ·omega
     ·rfl
   have G:∀t,hO n all a.o=none->lg n all a.o t=some true:=by grind[lg]
   have H:∀t g,hO n all a.o=some g->lg n all a.o t=g.f t:=by grind[lg]
   have step:∀{h:Hp} {ρ:dR} {rs:List (Bool×Rec)} {c:Nat},cls a.o=c+2->wR k h (yK rs)=true->lg n all a.o (.fn ρ [])=some true->
       Ld C a.o (λv ρ h'=>h.next<=h'.next/\kC n a.o (λρ h=>Co C n all ws K l (Nat.succ k) ρ h rs) v ρ h') ρ h->
       ∃m d i h',(sg n all ws (a::l) k).f (gQ C m d) (.fn ρ []) h (yK rs)=some (.fn i [],h')/\K i h':=by
     intro h ρ rs c hc q Q hk;have D:=λcall=>F call (.fn ρ []) h (by omega) (by omega);rcases PX hk with⟨v,h',B,I,hk⟩|⟨f,args,B,v,h',⟨R,d0,M⟩,I,hk⟩
     ·simp only[B,oB]at D
      obtain⟨d,j⟩:=e hk;obtain⟨J,u,hk⟩:=AS j hk;obtain⟨m,s,i,A,w,p⟩:=zg l _ hk;exact⟨m,s,i,A,by simp_all[wW,bB,oB,Mh],p⟩
     ·simp only[B,oB]at D
      obtain⟨d,j⟩:=e hk;obtain⟨J,u,hk⟩:=AS j hk;obtain⟨m,s,i,A,w,p⟩:=zg l _ hk;refine⟨max R m,max d0 s,i,A,?_,p⟩;have L:=si (C:=C) (Ws R m) (Ws d0 s) _ _ _ _ M;rw[z j,hc];simp only[wW,q,bB,Q,oB,D,L,u,Mh I]
      grind[PB,Nat.le_max_right]
   have E:∀{h:Hp} {ρ:dR} {rs:List (Bool×Rec)} {c:Nat},cls a.o=c+2->wR k h (yK rs)=true->lg n all a.o (.fn ρ [])=some false->
       kC n a.o (λρ h=>Co C n all ws K l (Nat.succ k) ρ h rs) .undef ρ h->
       ∃m d i h',(sg n all ws (a::l) k).f (gQ C m d) (.fn ρ []) h (yK rs)=some (.fn i [],h')/\K i h':=by
     intro h ρ rs c hc q Q hk;obtain⟨d,j⟩:=e hk;obtain⟨J,u,hk⟩:=AS j hk;obtain⟨m,s,i,A,w,p⟩:=zg l _ hk;exact⟨m,s,i,A,by simp_all[wW,bB,oB],p⟩
   rw[OH]at hk;unfold Vh at hk;generalize hc:cls a.o=c at hk;rcases c with _|_|c
   ·simp only at hk
    cases hwc:hO n all a.o with
    | none=>
      rw[hwc]at hk;obtain⟨v,B,hk⟩:=hK.1 hk;obtain⟨d,j⟩:=e hk;obtain⟨J,u,hk⟩:=AS j hk;obtain⟨m,s,i,h',w,p⟩:=zg l k hk
      exact⟨m,s,i,h',by rw[z j,hc];simp only[Bv,G _ hwc,B,oB,u];exact w,p⟩
    | some g=>
      rw[hwc]at hk;obtain⟨b,N,hk⟩:=hK.1 hk;obtain⟨v,B,hk⟩:=hK.1 hk;obtain⟨d,j⟩:=e hk;obtain⟨J,u,hk⟩:=AS j hk;obtain⟨m,s,i,h',w,p⟩:=zg l k hk;rcases Xj B with⟨O,P⟩|⟨O,T⟩
      ·subst O
       exact⟨m,s,i,h',by rw[z j,hc];simp only[Bv,H _ _ hwc,N,P,oB,u];exact w,p⟩
      ·subst O;subst T
       exact⟨m,s,i,h',by rw[z j,hc];simp only[Bv,H _ _ hwc,N,oB,u];exact w,p⟩
   ·simp only at hk
    cases hwc:hO n all a.o with
    | none=>
      rw[hwc]at hk;obtain⟨v,B,hk⟩:=hK.1 hk;obtain⟨d,j⟩:=e hk;obtain⟨J,u,hk⟩:=AS j hk;obtain⟨m,s,i,h',w,p⟩:=zg l k hk
      exact⟨m,s,i,h',by rw[z j,hc];simp only[z7,G _ hwc,B,oB,u];exact w,p⟩
    |some g=>simp_all
   ·simp only at hk
    cases hwc:hO n all a.o with
    | none=>
      rw[hwc]at hk;obtain⟨q,hk⟩:=Du hk
      simp_all
    | some g=>
      rw[hwc]at hk;simp only at hk
      cases hi:tn a.o with
      |false=>simp_all
      | true=>
        rw[hi]at hk;obtain⟨q,hk⟩:=Du hk;obtain⟨b,N,hk⟩:=hK.1 hk;obtain⟨x,S,hk⟩:=hK.1 hk
        cases b with
        | true=>
          obtain⟨y,p,U⟩:=c7.1 (show oB _ _=_ from S);cases U
          exact step hc q (by simp_all) (by unfold Ld;rw[hi];exact cO p hk)
        | false=>
          cases S;exact E hc q (by simp_all) hk.2
noncomputable def td(all:List Oper):Bool:=I0 (items all 0 []) (ej (items all 0 []))&&qF (items all 0 []) (ej (items all 0 [])) (order (items all 0 []) (ej (items all 0 [])) (ej (items all 0 [])) 0) 0 0
noncomputable def Ny(C:dc) (n:Nat) (all:List Oper) (K:dR->Hp->Prop) (ρ:dR) (h:Hp):Prop:=Co C n all (ej (items all 0 [])) K (order (items all 0 []) (ej (items all 0 [])) (ej (items all 0 [])) 0) 0 ρ h []
theorem Wp.draw{id:Nat} {ops:Array Oper} (a:td ops.toList=true) (b:Ny C n ops.toList (λρ h=>Q .normal ρ h) ρ h):Wp C n (.region id ops true) Q ρ h:=by
 obtain⟨m,d,c,h',f,g⟩:=zg _ _ b;have e:yK []=[]:=rfl;rw[e]at f;refine⟨m,d,.normal,c,h',?_,g⟩
 simp_all[td,eY,Gl,oB]
noncomputable def rQ(C:dc) (n:Nat) (c:Code):(X->dR->Hp->Prop)->dR->Hp->Prop:=
 Code.rec (motive:=λ_=>(X->dR->Hp->Prop)->dR->Hp->Prop)
  (λQ=>Q .normal)
  (fun _ ops d Q=>match d with
   |false=>ua C n ops.toList (λρ h=>Q .normal ρ h) ops.toList
   | true=>match td ops.toList with
     |true=>Ny C n ops.toList (λρ h=>Q .normal ρ h)
     |false=>λ_ _=>False)
  (λ_ b a _ Q=>a (andThen (Wp C n b Q) Q))
  (λc _ _ a e Q ρ h=>oP ((nK c).f (.fn ρ []) h) λv=>bP v (a Q ρ h) (e Q ρ h))
  (λid _ g Q=>g (uZ id Q))
  (λc _ Q=>Wp C n (.loop c) Q)
  (λ_ _ _ _ _ _ _ _ _=>False)
  (λid Q=>Q (.exit id))
  (λ_ _ _ _ _=>False)
  (λ_ _ _ _=>False)
  (λ_ _ _ _=>False)
  (λQ=>Q .ret)
  (λ_ _ _ _=>False) c
theorem Wp.code:∀(c:Code) {Q:X->dR->Hp->Prop} {ρ:dR} {h:Hp},rQ C n c Q ρ h->Wp C n c Q ρ h
 | .skip,_,_,_,hk=> .skip hk
 | .region _ ops false,_,_,_,hk=> .region hk
 | .region _ ops true,Q,ρ,h,hk=>by
   have d:(match td ops.toList with
       |true=>Ny C n ops.toList (λρ h=>Q .normal ρ h)
       |false=>λ_ _=>False) ρ h:=hk
   cases hd:td ops.toList with
   |true=>simp_all[draw]
   |false=>simp_all
 | .seq a _,_,_,_,hk=> .seq (Wp.code a hk)
 | .cond c a b,_,_,_,hk=>by
   obtain⟨v,e,hk⟩:=hK.1 hk;refine .cond (cO e ?_);unfold bP at hk⊢;split at hk
   ·rename_i x
    cases x with
    |true=>exact Wp.code a hk
    |false=>exact Wp.code b hk
   ·exact hk.elim
 | .block id c,_,_,_,hk=> .block (Wp.code c hk)
 | .loop c,_,_,_,hk=>hk
 | .exit id,_,_,_,hk=> .exit hk
 | .ret,_,_,_,hk=> .ret hk
 | .rangeFunc ..,_,_,_,hk=>hk.elim
 | .scope _,_,_,_,hk=>hk.elim
 | .label _,_,_,_,hk=>hk.elim
 | .goto _,_,_,_,hk=>hk.elim
 | .refuse _,_,_,_,hk=>hk.elim
def TM(l:List ResultVar)(Q:V->Hp->Prop)(ρ:dR)(h:Hp):Prop:=oP (uF (.fn ρ []) h l) λvs=>Q (tZ vs) h
def FJ(l:List ResultVar) (Q:V->Hp->Prop):X->dR->Hp->Prop
 | .exit _,_,_=>False
 |_,ρ,h=>TM l Q ρ h
def IF(args:List V):dR:=λi=>(args[i]?).getD .undef
theorem cP.func(hs:C.start=dH) {f:Nat} {fn:Func} {c:Code} {args:List V} (j:P0.funcs[f]? =some fn) (k:fn.body=some c) (hk:C.K f args h=none) (e:args.length<=fn.ntmps) {Q:V->Hp->Prop}
  (l:Wp C fn.ntmps c (FJ fn.results.toList Q) (IF args) h):cP C f args h Q:=by
 obtain ⟨m,d,x,n,h',o,g⟩:=l;have a:TM fn.results.toList Q n h'->(∀id,x≠ .exit id)->cP C f args h Q:=by
  intro p r;obtain⟨vs,s,q⟩:=hK.1 p;refine⟨_,_,⟨m,d+1,?_⟩,q⟩;show(zu C f).f (gQ C m d) m args h=_;unfold zu;rw[j];simp only[k,hk,Sb,hs];have b:Nat.ble args.length fn.ntmps=true:=Mh e;have i:dH args = .fn (IF args) []:=rfl;rw[i,b,o]
  cases x with
  |normal=>simp_all[bB,oB,Tm.ds,Ib]
  |ret=>simp_all[bB,oB,Tm.ds,Ib]
  |exit id=>simp_all
 cases x with
 |normal=>exact a g (by simp_all)
 |ret=>exact a g (by simp_all)
 |exit id=>exact g.elim
theorem cP.WZ(hs:C.start=dH) {f:Nat} {fn:Func} {c:Code} {args:List V} {k:Nat} {rs:List ResultVar} (b:P0.funcs[f]? =some fn) (d:fn.body=some c) (e:fn.ntmps=k) (g:fn.results.toList=rs)
  (hk:C.K f args h=none) (a:args.length<=k) {Q:V->Hp->Prop} (i:Wp C k c (FJ rs Q) (IF args) h):cP C f args h Q:=by
 grind[cP.func]
theorem cP.known{f:Nat} {fn:Func} {c:Code} {args:List V} {v:V} (a:P0.funcs[f]? =some fn) (b:fn.body=some c) (hk:C.K f args h=some v) (d:Kr args=true) (e:v.flat=true) {Q:V->Hp->Prop} (hq:Q v h):cP C f args h Q:=by
 refine⟨v,h,⟨0,1,?_⟩,hq⟩;show(zu C f).f _ _ args h=_
 simp_all[zu,Sb,Bool.and_self,bB]
theorem cP.mono{f:Nat} {args:List V} {Q a:V->Hp->Prop} (hc:cP C f args h Q) (hq:∀v h,Q v h->a v h):cP C f args h a:=by
 obtain⟨v,h',b,c⟩:=hc;exact⟨v,h',b,hq _ _ c⟩
end
