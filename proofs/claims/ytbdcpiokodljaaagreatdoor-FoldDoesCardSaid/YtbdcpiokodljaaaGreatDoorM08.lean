/- Parts. -/
import Derived.Test.YtbdcpiokodljaaaGreatDoorM07
set_option maxHeartbeats 4000000
namespace Go.Proofs.YtbdcpiokodljaaaGreatDoor.Hx
abbrev gL:=Nat->V
def Ev(C:fk)(f:Nat)(args:List V)(h:Hp)(v:V)(h':Hp):Prop:=∃m d,kU C m d f args h=some (v,h')
inductive Wp (C:fk) (n:Nat) (c:Code) (Q:X->gL->Hp->Prop) (ρ:gL) (h:Hp):Prop
 |mk (b:∃m d x a h',(iK n c).f (kU C m d) m (.fn ρ []) h=some (x,.fn a [],h')/\Q x a h')
def oP{α:Type}(x:Option α)(k:α->Prop):Prop:=Option.rec (motive:=λ_=>Prop) False k x
theorem Wf{α:Type}(a:α)(k:α->Prop):oP (some a) k=k a:=rfl
theorem lK{α:Type} {x:Option α} {k:α->Prop}:oP x k↔∃a,x=some a/\k a:=by
 cases x with
 |none=>grind[oP]
 |some a=>exact⟨λh=>⟨a,rfl,h⟩,λ⟨_,h,h'⟩=>by grind[oP]⟩
theorem ed{α:Type}{x:Option α}{k:α->Prop}{a:α}(h:x=some a)(h':k a):oP x k:=by subst h;exact h'
def cP(C:fk)(f:Nat)(args:List V)(h:Hp)(k:V->Hp->Prop):Prop:=∃v h',Ev C f args h v h'/\k v h'
def bP(v:V) (a b:Prop):Prop:=match v with
 | .bool x=>Bool.rec (motive:=λ_=>Prop) b a x
 |_=>False
theorem iy(x:Bool)(a b:Prop):bP (.bool x) a b=if x=true then a else b:=by cases x <;> rfl
section
variable{C:fk}{n:Nat}{Q:X->gL->Hp->Prop}{ρ:gL}{h:Hp}
theorem Wp.mono{c:Code} {a:X->gL->Hp->Prop} (b:Wp C n c Q ρ h) (hq:∀x ρ h,Q x ρ h->a x ρ h):Wp C n c a ρ h:=by
 obtain⟨m,d,x,e,h',f,g⟩:=b;exact⟨m,d,x,e,h',f,by simp_all⟩
theorem Wp.skip(hq:Q .normal ρ h):Wp C n .skip Q ρ h:=⟨0,0,.normal,ρ,h,rfl,hq⟩
theorem Wp.ret(hq:Q .ret ρ h):Wp C n .ret Q ρ h:=⟨0,0,.ret,ρ,h,rfl,hq⟩
theorem Wp.exit{id:Nat}(hq:Q (.exit id) ρ h):Wp C n (.exit id) Q ρ h:=⟨0,0,.exit id,ρ,h,rfl,hq⟩
def andThen(k:gL->Hp->Prop) (Q:X->gL->Hp->Prop):X->gL->Hp->Prop
 | .normal,ρ,h=>k ρ h
 |x,ρ,h=>Q x ρ h
theorem Bi{m d a d':Nat} (b:m<=a) (e:d<=d') {c:Code} {t:Tm} {h:Hp} {r:X×Tm×Hp} (hv:(iK n c).f (kU C m d) m t h=some r):(iK n c).f (kU C a d') a t h=some r:=
 nJ (yZ b e) b c hv
theorem Wp.seq{a b:Code} (i:Wp C n a (andThen (Wp C n b Q) Q) ρ h):Wp C n (.seq a b) Q ρ h:=by
 obtain⟨m,d,x,g,h',o,c⟩:=i
 cases x with
 | normal=>
   obtain⟨j,d',k,e,f,p,l⟩:=c;refine⟨max m j,max d d',k,e,f,?_,l⟩
   grind[iK,Bi,wB5,GC,Nat.le_max_right]
 |exit id=>exact⟨m,d,.exit id,g,h',by grind[iK,GC],c⟩
 |ret=>exact⟨m,d,.ret,g,h',by grind[iK,GC],c⟩
theorem Wp.cond{e:Operand} {a b:Code} (c:oP ((uf e).f (.fn ρ []) h) λv=>bP v (Wp C n a Q ρ h) (Wp C n b Q ρ h)):Wp C n (.cond e a b) Q ρ h:=by
 obtain⟨v,hv,c⟩:=lK.1 c;unfold bP at c;split at c
 ·rename_i x
  cases x with
  | true=>
    obtain⟨m,d,x,g,h',j,i⟩:=c
    exact⟨m,d,x,g,h',by grind[iK,ft],i⟩
  | false=>
    obtain⟨m,d,x,g,h',j,i⟩:=c;exact⟨m,d,x,g,h',by grind[iK,ft],i⟩
 simp_all
def w7(id:Nat) (Q:X->gL->Hp->Prop):X->gL->Hp->Prop
 | .exit i,ρ,h=>Bool.rec (motive:=λ_=>Prop) (Q (.exit i) ρ h) (Q .normal ρ h) (Nat.beq i id)
 |x,ρ,h=>Q x ρ h
theorem Wp.block{id:Nat} {c:Code} (e:Wp C n c (w7 id Q) ρ h):Wp C n (.block id c) Q ρ h:=by
 obtain⟨m,d,x,b,h',f,a⟩:=e
 cases x with
 |normal=>exact⟨m,d,.normal,b,h',by grind[iK,LG],a⟩
 |ret=>exact⟨m,d,.ret,b,h',by grind[iK,LG],a⟩
 | exit i=>
   simp only[w7]at a
   cases hb:Nat.beq i id with
   |true=>rw[hb]at a;exact⟨m,d,.normal,b,h',by simp_all[iK,LG],a⟩
   |false=>rw[hb]at a;exact⟨m,d,.exit i,b,h',by simp_all[iK,LG],a⟩
theorem Wp.loop{c:Code} (y:Wp C n c (andThen (Wp C n (.loop c) Q) Q) ρ h):Wp C n (.loop c) Q ρ h:=by
 obtain⟨m,d,x,o,h',e,p⟩:=y
 cases x with
 | normal=>
   obtain⟨a,d',l,g,i,q,z⟩:=p;refine⟨max m a+1,max d d',l,g,i,?_,z⟩;have b:=Bi (C:=C) (n:=n) (Ix (wB5 m a) (PT _)) (wB5 d d') e;simp only[iK]at q⊢;show GC _ _=_;simp only[b,GC];have E:(iK n (.loop c)).f (kU C a d') a (.fn o []) h' = some (l,.fn g [],i):=q
   have s:∀(k k':Nat) (t:Tm) (h:Hp) (r:X×Tm×Hp),k<=k'->GM (λt h=>(iK n c).f (kU C a d') a t h) k t h=some r->
       GM (λt h=>(iK n c).f (kU C (max m a+1) (max d d')) (max m a+1) t h) k' t h=some r:=by
     intro k
     induction k with
     |zero=>intro k' t h r _ hv;cases hv
     | succ k A=>
       intro k' t h r hk hv;obtain⟨k',rfl⟩:∃j,k' = j+1:=⟨k'-1,by omega⟩
       have u:GC ((iK n c).f (kU C a d') a t h) (GM (λt h=>(iK n c).f (kU C a d') a t h) k)=some r:=hv;show GC ((iK n c).f (kU C (max m a+1) (max d d')) (max m a+1) t h) (GM (λt h=>(iK n c).f (kU C (max m a+1) (max d d')) (max m a+1) t h) k')=some r
       have v:∀{r},(iK n c).f (kU C a d') a t h=some r->(iK n c).f (kU C (max m a+1) (max d d')) (max m a+1) t h=some r:=
         λB=>Bi (by omega) (Nat.le_max_right d d') B
       rcases Kx u with⟨D,e,b,w⟩|⟨b,w⟩
       ·rw[v b];exact A k' D e r (by omega) w
       ·rw[v b]
        obtain⟨l,t',h'⟩:=r
        cases l with
        |normal=>simp_all
        |exit id=>rfl
        |ret=>rfl
   exact s a (max m a) _ _ _ (Nat.le_max_right m a) q
 | exit id=>
   refine⟨m+1,d,.exit id,o,h',?_,p⟩;have b:=Bi (C:=C) (n:=n) (PT m) (ju d) e;simp only[iK];show GC _ _=_
   grind[GC]
 | ret=>
   refine⟨m+1,d,.ret,o,h',?_,p⟩;have b:=Bi (C:=C) (n:=n) (PT m) (ju d) e;simp only[iK];show GC _ _=_
   grind[GC]
theorem Wp.zca{c:Code} (I:Nat->gL->Hp->Prop) (b:∀k ρ h,I k ρ h->Wp C n c (andThen (λa h'=>∃k',k' < k/\I k' a h') Q) ρ h) {k:Nat} (h0:I k ρ h):Wp C n (.loop c) Q ρ h:=by
 induction k using Nat.strongRecOn generalizing ρ h with
 | _ k d=>
   refine .loop ((b k ρ h h0).mono λx a h' hq=>?_)
   cases x with
   |normal=>obtain⟨k',hk,hi⟩:=hq;exact d k' hk hi
   |exit id=>exact hq
   |ret=>exact hq
def qa(n:Nat) (o:Oper) (K:gL->Hp->Prop):V->gL->Hp->Prop:=match o.dst with
 |none=>λ_ ρ h=>K ρ h
 | some d=>match Nat.blt d n with
   |true=>λv ρ h=>K (fq ρ d v) h
   |false=>λ_ _ _=>False
def valOf:R->Option (V×Hp)
 | .val v h=>some (v,h)
 | .call _ _=>none
def JA:R->Option (Nat×List V)
 | .call f args=>some (f,args)
 | .val _ _=>none
def zM(o:Oper):Bool:=match o.op with
 | .call c=>match c.callee with
   | .value _| .invoke _ _=>true
   | .builtin _=>false
 |_=>false
def TK(C:fk) (o:Oper) (K:V->gL->Hp->Prop):gL->Hp->Prop:=match zM o with
 |true=>λρ h=>oP (oB ((kJ o).f (.fn ρ []) h) JA) λx=>cP C x.1 x.2 h λv h'=>K v ρ h'
 |false=>λρ h=>oP (oB ((kJ o).f (.fn ρ []) h) valOf) λx=>K x.1 ρ x.2
def RX(C:fk) (o:Oper) (K:V->gL->Hp->Prop):gL->Hp->Prop:=match cls o with
 |0=>λρ h=>oP ((iY o).f (.fn ρ []) h) λv=>K v ρ h
 |1=>λρ h=>oP ((qQ o).f (.fn ρ [])) λr=>K (r.2 h.next) ρ (h.new r.1)
 |_=>TK C o K
noncomputable def gV(b:Bool)(x:Option V):Option V:=Bool.rec (motive:=λ_=>Option V) (some .undef) x b
noncomputable def gH(b:Bool)(h:Hp)(x:Option (V×Hp)):Option (V×Hp):=Bool.rec (motive:=λ_=>Option (V×Hp)) (some (.undef,h)) x b
noncomputable def gC(b:Bool)(x:Option (Nat×List V)):Option (Option (Nat×List V)):=Bool.rec (motive:=λ_=>Option (Option (Nat×List V))) (some none) (oB x λy=>some (some y)) b
def qN(C:fk) (x:Option (Nat×List V)) (h:Hp) (K:V->Hp->Prop):Prop:=match x with
 |none=>K .undef h
 |some y=>cP C y.1 y.2 h K
def gdR(C:fk) (o:Oper) (b:Bool) (K:V->gL->Hp->Prop) (ρ:gL) (h:Hp):Prop:=match cls o with
 |0=>oP (gV b ((iY o).f (.fn ρ []) h)) λv=>K v ρ h
 |1=>oP (gH b h (oB ((qQ o).f (.fn ρ [])) λr=>some (r.2 h.next,h.new r.1))) λx=>K x.1 ρ x.2
 | _=>match zM o with
   |true=>oP (gC b (oB ((kJ o).f (.fn ρ []) h) JA)) λx=>qN C x h λv h'=>K v ρ h'
   |false=>oP (gH b h (oB ((kJ o).f (.fn ρ []) h) valOf)) λx=>K x.1 ρ x.2
def A1(C:fk) (n:Nat) (all:List Oper) (o:Oper) (K:gL->Hp->Prop):gL->Hp->Prop:=match A2 o with
 |some _=>λ_ _=>False
 | none=>match lL n all o with
   |none=>RX C o (qa n o K)
   |some g=>λρ h=>oP (g.f (.fn ρ [])) λb=>gdR C o b (qa n o K) ρ h
noncomputable def Az(C:fk) (n:Nat) (all:List Oper) (K:gL->Hp->Prop) (os:List Oper):gL->Hp->Prop:=List.rec (motive:=λ_=>gL->Hp->Prop) K (λo _ a=>A1 C n all o a) os
theorem XM(C:fk)(n:Nat)(all:List Oper)(K:gL->Hp->Prop)(o:Oper)(os:List Oper):Az C n all K (o::os)=A1 C n all o (Az C n all K os):=rfl
theorem M1{o:Oper} {K:gL->Hp->Prop} {v:V} (hk:qa n o K v ρ h):∃d,zL n o=some d/\∃a,d.f (.fn ρ []) v = .fn a []/\K a h:=by
 unfold qa at hk;unfold zL
 cases ho:o.dst with
 |none=>simp_all
 | some d=>
   rw[ho]at hk;simp only at hk⊢
   cases hb:Nat.blt d n with
   |true=>rw[hb]at hk;exact⟨_,rfl,_,rfl,hk⟩
   |false=>simp_all
def zdr(C:fk)(o:Oper)(K:V->gL->Hp->Prop)(ρ:gL)(h:Hp):Prop:=∃m d v h',(JE o).f (kU C m d) (.fn ρ []) h=some (v,h')/\K v ρ h'
theorem Y2{o:Oper} {K:V->gL->Hp->Prop} (hk:TK C o K ρ h):(∃v h',(kJ o).f (.fn ρ []) h=some (.val v h')/\K v ρ h')\/∃f args,(kJ o).f (.fn ρ []) h=some (.call f args)/\cP C f args h λv h'=>K v ρ h':=by
 unfold TK at hk;cases hb:zM o
 all_goals rw[hb]at hk
 rotate_left
 ·obtain⟨x,a,c⟩:=lK.1 hk;rw[ft]at a;obtain⟨r,d,b⟩:=a
  cases r with
  |val v h'=>cases b
  |call f args=>cases b;grind
 ·obtain⟨x,a,c⟩:=lK.1 hk;rw[ft]at a;obtain⟨r,d,b⟩:=a
  cases r with
  |val v h'=>cases b;grind
  |call f args=>cases b
theorem OE{o:Oper} {K:V->gL->Hp->Prop} (hk:RX C o K ρ h):zdr C o K ρ h:=by
 by_cases hc0:cls o=0
 ·have a:oP ((iY o).f (.fn ρ []) h) (λv=>K v ρ h):=by unfold RX at hk;rw[hc0]at hk;exact hk
  obtain⟨v,e,b⟩:=lK.1 a;exact⟨0,0,v,h,by simp_all[JE,oB],b⟩
 ·by_cases hc1:cls o=1
  ·have a:oP ((qQ o).f (.fn ρ [])) (λr=>K (r.2 h.next) ρ (h.new r.1)):=by unfold RX at hk;rw[hc1]at hk;exact hk
   obtain⟨r,e,b⟩:=lK.1 a;exact⟨0,0,_,_,by simp_all[JE,oB],b⟩
  ·have a:TK C o K ρ h:=by
    unfold RX at hk;generalize cls o=c at hk hc0 hc1;rcases c with _|_|c
    ·omega
    ·omega
    ·exact hk
   have g:∀call,(JE o).f call (.fn ρ []) h=oB ((kJ o).f (.fn ρ []) h) λr=>match r with
     | .val v h=>some (v,h)
     | .call f args=>call f args h:=by
    intro call;unfold JE;split
    ·omega
    ·omega
    ·rfl
   rcases Y2 a with⟨v,h',e,b⟩|⟨f,args,e,v,h',⟨m,d,j⟩,i⟩
   ·exact⟨0,0,v,h',by simp_all[oB],b⟩
   ·exact⟨m,d,v,h',by simp_all[oB],i⟩
theorem zdJ{o:Oper} {b:Bool} {K:V->gL->Hp->Prop} (hk:gdR C o b K ρ h):(b=true/\zdr C o K ρ h)\/(b=false/\K .undef ρ h):=by
 unfold gdR at hk;by_cases hc0:cls o=0
 ·rw[hc0]at hk;obtain⟨v,a,e⟩:=lK.1 hk
  cases b with
  |true=>exact .inl ⟨rfl,OE (by unfold RX;rw[hc0];exact ed a e)⟩
  |false=>cases a;simp_all
 ·by_cases hc1:cls o=1
  ·rw[hc1]at hk;obtain⟨v,a,e⟩:=lK.1 hk
   cases b with
   | true=>
     obtain⟨r,i,g⟩:=ft.1 (show oB _ _=_ from a);cases g
     exact .inl ⟨rfl,by grind[OE,RX,ed]⟩
   |false=>cases a;simp_all
  ·have j:∀K,TK C o K ρ h->RX C o K ρ h:=by
    intro K hk;unfold RX;generalize cls o=c at hc0 hc1;rcases c with _|_|c
    ·omega
    ·omega
    ·exact hk
   have d:(match zM o with
     |true=>oP (gC b (oB ((kJ o).f (.fn ρ []) h) JA)) λx=>qN C x h λv h'=>K v ρ h'
     |false=>oP (gH b h (oB ((kJ o).f (.fn ρ []) h) valOf)) λx=>K x.1 ρ x.2):=by
    generalize cls o=c at hk hc0 hc1;rcases c with _|_|c
    ·omega
    ·omega
    ·exact hk
   cases hi:zM o with
   | true=>
     rw[hi]at d;obtain⟨x,a,e⟩:=lK.1 d
     cases b with
     | true=>
       obtain⟨y,i,g⟩:=ft.1 (show oB _ _=_ from a);cases g
       exact .inl ⟨rfl,OE (j _ (by unfold TK;rw[hi];exact ed i e))⟩
     |false=>cases a;exact .inr ⟨rfl,e⟩
   | false=>
     rw[hi]at d;obtain⟨x,a,e⟩:=lK.1 d
     cases b with
     |true=>exact .inl ⟨rfl,OE (j _ (by unfold TK;rw[hi];exact ed a e))⟩
     |false=>cases a;simp_all
theorem Qw{m d a d':Nat} (b:m<=a) (c:d<=d') {all os:List Oper} {t:Tm} {h:Hp} {r:Tm×Hp} (hv:(uX n all os).f (kU C m d) t h=some r):(uX n all os).f (kU C a d') t h=some r:=
 EO (yZ b c) os hv
theorem RD{all:List Oper} {K:gL->Hp->Prop}:∀(os:List Oper) {ρ:gL} {h:Hp},Az C n all K os ρ h->∃m d a h',(uX n all os).f (kU C m d) (.fn ρ []) h=some (.fn a [],h')/\K a h'
 |[],ρ,h,hk=>⟨0,0,ρ,h,rfl,hk⟩
 | o ::os,ρ,h,hk=>by
   rw[XM]at hk;unfold A1 at hk
   cases hq:A2 o with
   |some q=>simp_all
   | none=>
     rw[hq]at hk;simp only at hk
     have l:∀{ρ h},zdr C o (qa n o (Az C n all K os)) ρ h->∃d,zL n o=some d/\∃m c v k,(JE o).f (kU C m c) (.fn ρ []) h=some (v,k)/\∃e,d.f (.fn ρ []) v = .fn e []/\
        ∃a h',(uX n all os).f (kU C m c) (.fn e []) k=some (.fn a [],h')/\K a h':=by
       intro ρ h hk;obtain⟨m,c,v,k,t,y⟩:=hk;obtain⟨d,r,e,s,u⟩:=M1 y;obtain⟨w,d',a,h',x,i⟩:=RD os u;exact⟨d,r,max m w,max c d',v,k,Kl (by grind[yZ,wB5]) t,e,s,a,h',by grind[Qw,Nat.le_max_right],i⟩
     cases hw:lL n all o with
     | none=>
       rw[hw]at hk;obtain⟨d,r,m,c,v,k,t,e,s,a,h',x,i⟩:=l (OE hk);refine⟨m,c,a,h',?_,i⟩
       simp_all[uX,KK,oB]
     | some g=>
       rw[hw]at hk;obtain⟨b,z,hk⟩:=lK.1 hk;rcases zdJ hk with⟨p,j⟩|⟨p,j⟩ <;> subst p
       ·obtain⟨d,r,m,c,v,k,t,e,s,a,h',x,i⟩:=l j
        refine⟨m,c,a,h',?_,i⟩
        simp_all[uX,KK,oB]
       ·obtain⟨d,r,e,s,u⟩:=M1 j
        obtain⟨w,d',a,h',x,i⟩:=RD os u;refine⟨w,d',a,h',?_,i⟩
        simp_all[uX,KK,oB]
theorem Wp.region{id:Nat} {ops:Array Oper} (a:Az C n ops.toList (λρ h=>Q .normal ρ h) ops.toList ρ h):Wp C n (.region id ops false) Q ρ h:=by
 obtain⟨m,d,b,h',e,c⟩:=RD _ a;exact⟨m,d,.normal,b,h',by simp_all[iK,oB],c⟩
end
section
variable{C:fk}{n:Nat}{Q:X->gL->Hp->Prop}{ρ:gL}{h:Hp}
def FT(h:Hp) (r:Rec):Prop:=match r.made with
 |none=>(iY r.it.o).f r.t h=some r.v
 |some (l,ob)=>h.get l=some ob/\O.beq ob ob=true
def yG(k:Nat) (h:Hp):List (Bool×Rec)->Prop->Prop
 |[],K=>K
 |r::rs,K=>Bool.rec (motive:=λ_=>Prop) (Bool.rec (motive:=λ_=>Prop) True (FT h r.2) r.1/\yG k h rs K) (yG k h rs K) (Nat.blt r.2.last k)
def EY(rs:List (Bool×Rec)):List Rec:=(rs.filter (·.1)).map (·.2)
def itR(C:fk) (n:Nat) (all:List Oper) (ws:List It) (a:It) (c:Nat->gL->Hp->List (Bool×Rec)->Prop) (k:Nat):gL->Hp->List (Bool×Rec)->Prop:=match cls a.o with
  | 0=>match lL n all a.o with
    |none=>λρ h rs=>oP ((iY a.o).f (.fn ρ []) h) λv=>qa n a.o (λd h=>c k d h ((true,{it:=a,t:= .fn ρ [],v,made:=none,last:=late ws a})::rs)) v ρ h
    |some g=>λρ h rs=>oP (g.f (.fn ρ [])) λb=>oP (gV b ((iY a.o).f (.fn ρ []) h)) λv=>
       qa n a.o (λd h=>c k d h ((b,{it:=a,t:= .fn ρ [],v,made:=none,last:=late ws a})::rs)) v ρ h
  | 1=>match lL n all a.o with
    |none=>λρ h rs=>oP ((qQ a.o).f (.fn ρ [])) λr=>qa n a.o (λd h'=>c k d h' ((true,{it:=a,t:= .fn ρ [],v:=r.2 h.next,made:=some (h.next,r.1),last:=late ws a})::rs)) (r.2 h.next) ρ (h.new r.1)
    |some _=>λ_ _ _=>False
  | _ =>match lL n all a.o with
    |none=>λρ h rs=>yG k h rs (TK C a.o (λv ρ h'=>h.next<=h'.next/\qa n a.o (λρ h=>c (Nat.succ k) ρ h rs) v ρ h') ρ h)
    | some g=>match zM a.o with
      |true=>λρ h rs=>yG k h rs (oP (g.f (.fn ρ [])) λb=>oP (gC b (oB ((kJ a.o).f (.fn ρ []) h) JA)) λx=>qN C x h λv h'=>h.next<=h'.next/\qa n a.o (λρ h=>c (Nat.succ k) ρ h rs) v ρ h')
      |false=>λ_ _ _=>False
noncomputable def Jy(C:fk) (n:Nat) (all:List Oper) (ws:List It) (K:gL->Hp->Prop) (l:List It):Nat->gL->Hp->List (Bool×Rec)->Prop:=List.rec (motive:=λ_=>Nat->gL->Hp->List (Bool×Rec)->Prop) (λk ρ h rs=>yG k h rs (K ρ h)) (λa _ b k=>itR C n all ws a b k) l
theorem X3(C:fk)(n:Nat)(all:List Oper)(ws:List It)(K:gL->Hp->Prop)(a:It)(l:List It)(k:Nat):Jy C n all ws K (a::l) k=itR C n all ws a (Jy C n all ws K l) k:=rfl
theorem KS{k:Nat}:∀{rs:List (Bool×Rec)} {K:Prop},yG k h rs K->CY k h (EY rs)=true/\K
 |[],K,hk=>⟨rfl,hk⟩
 | (b,r)::rs,K,hk=>by
   simp only[yG]at hk;have a:∀{K:Prop},yG k h rs K->(b=true->(Nat.blt r.last k ||AI h r)=true)->CY k h (EY ((b,r)::rs))=true/\K:=by
     intro K hk c;obtain⟨d,f⟩:=KS hk;refine⟨?_,f⟩
     cases b with
     |false=>exact d
     | true=>
       show CY k h (r::EY rs)=true;unfold CY;rw[wBy,c rfl,wBc];exact d
   cases c:Nat.blt r.last k with
   |true=>rw[c]at hk;grind
   | false=>
     rw[c]at hk;obtain⟨h0,hk⟩:=hk;refine a hk (λe=>?_);subst e;rw[c,Bool.false_or]
     grind[FT,AI,V.OO]
theorem zfc{b:Bool} {x:Option V} {v:V} (h:gV b x=some v):(b=true/\x=some v)\/(b=false/\v = .undef):=by
 cases b with
 |true=>exact .inl ⟨rfl,h⟩
 |false=>cases h;simp_all
theorem Il{o:Oper} {d:DF} (b:zL n o=some d) {K:gL->Hp->Prop} {v:V} (hk:qa n o K v ρ h):∃a,d.f (.fn ρ []) v = .fn a []/\K a h:=by
 grind[M1]
theorem Xx{m d a d':Nat} (b:m<=a) (c:d<=d') {all:List Oper} {ws l:List It} {k:Nat} {t:Tm} {h:Hp} {rs:List Rec} {r:Tm×Hp} (hv:(yX n all ws l k).f (kU C m d) t h rs=some r) :
  (yX n all ws l k).f (kU C a d') t h rs=some r:=AQ (yZ b c) l k hv
theorem EH{all:List Oper} {ws:List It} {K:gL->Hp->Prop}:∀(l:List It) (k:Nat) {ρ:gL} {h:Hp} {rs:List (Bool×Rec)},Jy C n all ws K l k ρ h rs->
  ∃m d i h',(yX n all ws l k).f (kU C m d) (.fn ρ []) h (EY rs)=some (.fn i [],h')/\K i h'
 | [],k,ρ,h,rs,hk=>by
   obtain⟨u,w⟩:=KS hk
   exact⟨0,0,ρ,h,by simp_all[yX,bB],w⟩
 | a ::l,k,ρ,h,rs,hk=>by
   have e:∀{K:gL->Hp->Prop} {v:V} {ρ:gL} {h:Hp},qa n a.o K v ρ h->∃d,zL n a.o=some d:=by grind[M1]
   have z:∀{d},zL n a.o=some d->∀call t h rs,(yX n all ws (a::l) k).f call t h rs=(match cls a.o with
       |0=>Jo n all ws a d (yX n all ws l k)
       |1=>Hf n all ws a d (yX n all ws l k)
       |_=>C0 n all k a d (yX n all ws l (Nat.succ k))).f call t h rs:=by
     intro d j call t h rs
     conv=>lhs;unfold yX
     rw[j];simp only;generalize cls a.o=c;rcases c with _|_|c <;> rfl
   have E:∀call t h,cls a.o≠0->cls a.o≠1->(JE a.o).f call t h=oB ((kJ a.o).f t h) λr=>match r with
       | .val v h=>some (v,h)
       | .call f args=>call f args h:=by
     intro call t h h0 u;unfold JE;split
     ·omega
     ·omega
     ·rfl
   have F:∀t,lL n all a.o=none->qz n all a.o t=some true:=by grind[qz]
   have G:∀t g,lL n all a.o=some g->qz n all a.o t=g.f t:=by grind[qz]
   have step:∀{h:Hp} {ρ:gL} {rs:List (Bool×Rec)} {c:Nat},cls a.o=c+2->CY k h (EY rs)=true->qz n all a.o (.fn ρ [])=some true->
       TK C a.o (λv ρ h'=>h.next<=h'.next/\qa n a.o (λρ h=>Jy C n all ws K l (Nat.succ k) ρ h rs) v ρ h') ρ h->
       ∃m d i h',(yX n all ws (a::l) k).f (kU C m d) (.fn ρ []) h (EY rs)=some (.fn i [],h')/\K i h':=by
     intro h ρ rs c hc q P hk;have B:=λcall=>E call (.fn ρ []) h (by omega) (by omega);rcases Y2 hk with⟨v,h',hv,H,hk⟩|⟨f,args,hv,v,h',⟨Q,d0,L⟩,H,hk⟩
     ·simp only[hv,oB]at B
      obtain⟨d,j⟩:=e hk;obtain⟨I,u,hk⟩:=Il j hk;obtain⟨m,s,i,A,w,p⟩:=EH l _ hk;exact⟨m,s,i,A,by simp_all[C0,bB,oB,UW],p⟩
     ·simp only[hv,oB]at B
      obtain⟨d,j⟩:=e hk;obtain⟨I,u,hk⟩:=Il j hk;obtain⟨m,s,i,A,w,p⟩:=EH l _ hk;refine⟨max Q m,max d0 s,i,A,?_,p⟩;have J:=yZ (C:=C) (wB5 Q m) (wB5 d0 s) _ _ _ _ L;rw[z j,hc];simp only[C0,q,bB,P,oB,B,J,u,UW H]
      grind[Xx,Nat.le_max_right]
   have D:∀{h:Hp} {ρ:gL} {rs:List (Bool×Rec)} {c:Nat},cls a.o=c+2->CY k h (EY rs)=true->qz n all a.o (.fn ρ [])=some false->
       qa n a.o (λρ h=>Jy C n all ws K l (Nat.succ k) ρ h rs) .undef ρ h->
       ∃m d i h',(yX n all ws (a::l) k).f (kU C m d) (.fn ρ []) h (EY rs)=some (.fn i [],h')/\K i h':=by
     intro h ρ rs c hc q P hk;obtain⟨d,j⟩:=e hk;obtain⟨I,u,hk⟩:=Il j hk;obtain⟨m,s,i,A,w,p⟩:=EH l _ hk;exact⟨m,s,i,A,by simp_all[C0,bB,oB],p⟩
   rw[X3]at hk;unfold itR at hk;generalize hc:cls a.o=c at hk;rcases c with _|_|c
   ·simp only at hk
    cases hwc:lL n all a.o with
    | none=>
      rw[hwc]at hk;obtain⟨v,hv,hk⟩:=lK.1 hk;obtain⟨d,j⟩:=e hk;obtain⟨I,u,hk⟩:=Il j hk;obtain⟨m,s,i,h',w,p⟩:=EH l k hk
      exact⟨m,s,i,h',by rw[z j,hc];simp only[Jo,F _ hwc,hv,oB,u];exact w,p⟩
    | some g=>
      rw[hwc]at hk;obtain⟨b,M,hk⟩:=lK.1 hk;obtain⟨v,hv,hk⟩:=lK.1 hk;obtain⟨d,j⟩:=e hk;obtain⟨I,u,hk⟩:=Il j hk;obtain⟨m,s,i,h',w,p⟩:=EH l k hk;rcases zfc hv with⟨N,O⟩|⟨N,S⟩
      ·subst N
       exact⟨m,s,i,h',by rw[z j,hc];simp only[Jo,G _ _ hwc,M,O,oB,u];exact w,p⟩
      ·subst N;subst S
       exact⟨m,s,i,h',by rw[z j,hc];simp only[Jo,G _ _ hwc,M,oB,u];exact w,p⟩
   ·simp only at hk
    cases hwc:lL n all a.o with
    | none=>
      rw[hwc]at hk;obtain⟨v,hv,hk⟩:=lK.1 hk;obtain⟨d,j⟩:=e hk;obtain⟨I,u,hk⟩:=Il j hk;obtain⟨m,s,i,h',w,p⟩:=EH l k hk
      exact⟨m,s,i,h',by rw[z j,hc];simp only[Hf,F _ hwc,hv,oB,u];exact w,p⟩
    |some g=>simp_all
   ·simp only at hk
    cases hwc:lL n all a.o with
    | none=>
      rw[hwc]at hk;obtain⟨q,hk⟩:=KS hk
      simp_all
    | some g=>
      rw[hwc]at hk;simp only at hk
      cases hi:zM a.o with
      |false=>simp_all
      | true=>
        rw[hi]at hk;obtain⟨q,hk⟩:=KS hk;obtain⟨b,M,hk⟩:=lK.1 hk;obtain⟨x,R,hk⟩:=lK.1 hk
        cases b with
        | true=>
          obtain⟨y,p,T⟩:=ft.1 (show oB _ _=_ from R);cases T
          exact step hc q (by simp_all) (by unfold TK;rw[hi];exact ed p hk)
        | false=>
          cases R;exact D hc q (by simp_all) hk.2
noncomputable def zE(all:List Oper):Bool:=QH (items all 0 []) (gY (items all 0 []))&&xK (items all 0 []) (gY (items all 0 [])) (order (items all 0 []) (gY (items all 0 [])) (gY (items all 0 [])) 0) 0 0
noncomputable def WD(C:fk) (n:Nat) (all:List Oper) (K:gL->Hp->Prop) (ρ:gL) (h:Hp):Prop:=Jy C n all (gY (items all 0 [])) K (order (items all 0 []) (gY (items all 0 [])) (gY (items all 0 [])) 0) 0 ρ h []
theorem Wp.draw{id:Nat} {ops:Array Oper} (a:zE ops.toList=true) (b:WD C n ops.toList (λρ h=>Q .normal ρ h) ρ h):Wp C n (.region id ops true) Q ρ h:=by
 obtain⟨m,d,c,h',f,g⟩:=EH _ _ b;have e:EY []=[]:=rfl;rw[e]at f;refine⟨m,d,.normal,c,h',?_,g⟩
 simp_all[zE,iK,OJ,oB]
noncomputable def j5(C:fk) (n:Nat) (c:Code):(X->gL->Hp->Prop)->gL->Hp->Prop:=
 Code.rec (motive:=λ_=>(X->gL->Hp->Prop)->gL->Hp->Prop)
  (λQ=>Q .normal)
  (fun _ ops d Q=>match d with
   |false=>Az C n ops.toList (λρ h=>Q .normal ρ h) ops.toList
   | true=>match zE ops.toList with
     |true=>WD C n ops.toList (λρ h=>Q .normal ρ h)
     |false=>λ_ _=>False)
  (λ_ b a _ Q=>a (andThen (Wp C n b Q) Q))
  (λc _ _ a e Q ρ h=>oP ((uf c).f (.fn ρ []) h) λv=>bP v (a Q ρ h) (e Q ρ h))
  (λid _ g Q=>g (w7 id Q))
  (λc _ Q=>Wp C n (.loop c) Q)
  (λ_ _ _ _ _ _ _ _ _=>False)
  (λid Q=>Q (.exit id))
  (λ_ _ _ _ _=>False)
  (λ_ _ _ _=>False)
  (λ_ _ _ _=>False)
  (λQ=>Q .ret)
  (λ_ _ _ _=>False) c
theorem Wp.code:∀(c:Code) {Q:X->gL->Hp->Prop} {ρ:gL} {h:Hp},j5 C n c Q ρ h->Wp C n c Q ρ h
 | .skip,_,_,_,hk=> .skip hk
 | .region _ ops false,_,_,_,hk=> .region hk
 | .region _ ops true,Q,ρ,h,hk=>by
   have d:(match zE ops.toList with
       |true=>WD C n ops.toList (λρ h=>Q .normal ρ h)
       |false=>λ_ _=>False) ρ h:=hk
   cases hd:zE ops.toList with
   |true=>simp_all[draw]
   |false=>simp_all
 | .seq a _,_,_,_,hk=> .seq (Wp.code a hk)
 | .cond c a b,_,_,_,hk=>by
   obtain⟨v,hv,hk⟩:=lK.1 hk;refine .cond (ed hv ?_);unfold bP at hk⊢;split at hk
   ·rename_i x
    cases x with
    |true=>exact Wp.code a hk
    |false=>exact Wp.code b hk
   ·exact hk.elim
 | .block id c,_,_,_,hk=> .block (Wp.code c hk)
 | .loop c,_,_,_,hk=>hk
 | .exit id,_,_,_,hk=> .exit hk
 | .ret,_,_,_,hk=> .ret hk
 | .rangeFunc ..,_,_,_,hk=>hk.elim
 | .scope _,_,_,_,hk=>hk.elim
 | .label _,_,_,_,hk=>hk.elim
 | .goto _,_,_,_,hk=>hk.elim
 | .refuse _,_,_,_,hk=>hk.elim
def zbR(l:List ResultVar)(Q:V->Hp->Prop)(ρ:gL)(h:Hp):Prop:=oP (BB (.fn ρ []) h l) λvs=>Q (AG vs) h
def Jb(l:List ResultVar) (Q:V->Hp->Prop):X->gL->Hp->Prop
 | .exit _,_,_=>False
 |_,ρ,h=>zbR l Q ρ h
def Mq(args:List V):gL:=λi=>(args[i]?).getD .undef
theorem cP.func(hs:C.start=fG) {f:Nat} {fn:Func} {c:Code} {args:List V} (j:P0.funcs[f]? =some fn) (k:fn.body=some c) (hk:C.K f args h=none) (e:args.length<=fn.ntmps) {Q:V->Hp->Prop}
  (l:Wp C fn.ntmps c (Jb fn.results.toList Q) (Mq args) h):cP C f args h Q:=by
 obtain ⟨m,d,x,n,h',o,g⟩:=l;have a:zbR fn.results.toList Q n h'->(∀id,x≠ .exit id)->cP C f args h Q:=by
  intro p r;obtain⟨vs,s,q⟩:=lK.1 p;refine⟨_,_,⟨m,d+1,?_⟩,q⟩;show(FY C f).f (kU C m d) m args h=_;unfold FY;rw[j];simp only[k,hk,orB,hs];have b:Nat.ble args.length fn.ntmps=true:=UW e;have i:fG args = .fn (Mq args) []:=rfl;rw[i,b,o]
  cases x with
  |normal=>simp_all[bB,oB,Tm.ds,Pe]
  |ret=>simp_all[bB,oB,Tm.ds,Pe]
  |exit id=>simp_all
 cases x with
 |normal=>exact a g (by simp_all)
 |ret=>exact a g (by simp_all)
 |exit id=>exact g.elim
theorem cP.Z2(hs:C.start=fG) {f:Nat} {fn:Func} {c:Code} {args:List V} {k:Nat} {rs:List ResultVar} (b:P0.funcs[f]? =some fn) (d:fn.body=some c) (e:fn.ntmps=k) (g:fn.results.toList=rs)
  (hk:C.K f args h=none) (a:args.length<=k) {Q:V->Hp->Prop} (i:Wp C k c (Jb rs Q) (Mq args) h):cP C f args h Q:=by
 grind[cP.func]
theorem cP.known{f:Nat} {fn:Func} {c:Code} {args:List V} {v:V} (a:P0.funcs[f]? =some fn) (b:fn.body=some c) (hk:C.K f args h=some v) (d:TG args=true) (e:v.flat=true) {Q:V->Hp->Prop} (hq:Q v h):cP C f args h Q:=by
 refine⟨v,h,⟨0,1,?_⟩,hq⟩;show(FY C f).f _ _ args h=_
 simp_all[FY,orB,Bool.and_self,bB]
theorem cP.mono{f:Nat} {args:List V} {Q a:V->Hp->Prop} (hc:cP C f args h Q) (hq:∀v h,Q v h->a v h):cP C f args h a:=by
 obtain⟨v,h',b,c⟩:=hc;exact⟨v,h',b,hq _ _ c⟩
end
