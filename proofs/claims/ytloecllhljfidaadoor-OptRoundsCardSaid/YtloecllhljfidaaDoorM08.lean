/- Parts. -/
import Derived.Test.YtloecllhljfidaaDoorM07
set_option maxHeartbeats 4000000
namespace Go.Proofs.YtloecllhljfidaaDoor.Hx
abbrev gg:=Nat->V
def Ev(C:fm)(f:Nat)(args:List V)(h:Hp)(v:V)(h':Hp):Prop:=∃m d,jS C m d f args h=some (v,h')
inductive Wp (C:fm) (n:Nat) (c:Code) (Q:X->gg->Hp->Prop) (ρ:gg) (h:Hp):Prop
 |mk (b:∃m d x a h',(hY n c).f (jS C m d) m (.fn ρ []) h=some (x,.fn a [],h')/\Q x a h')
def oP{α:Type}(x:Option α)(k:α->Prop):Prop:=Option.rec (motive:=λ_=>Prop) False k x
theorem TH{α:Type}(a:α)(k:α->Prop):oP (some a) k=k a:=rfl
theorem kG{α:Type} {x:Option α} {k:α->Prop}:oP x k↔∃a,x=some a/\k a:=by
 cases x with
 |none=>grind[oP]
 |some a=>exact⟨λh=>⟨a,rfl,h⟩,λ⟨_,h,h'⟩=>by grind[oP]⟩
theorem ed{α:Type}{x:Option α}{k:α->Prop}{a:α}(h:x=some a)(h':k a):oP x k:=by subst h;exact h'
def cP(C:fm)(f:Nat)(args:List V)(h:Hp)(k:V->Hp->Prop):Prop:=∃v h',Ev C f args h v h'/\k v h'
def bP(v:V) (a b:Prop):Prop:=match v with
 | .bool x=>Bool.rec (motive:=λ_=>Prop) b a x
 |_=>False
theorem ll(x:Bool)(a b:Prop):bP (.bool x) a b=if x=true then a else b:=by cases x <;> rfl
section
variable{C:fm}{n:Nat}{Q:X->gg->Hp->Prop}{ρ:gg}{h:Hp}
theorem Wp.mono{c:Code} {a:X->gg->Hp->Prop} (b:Wp C n c Q ρ h) (hq:∀x ρ h,Q x ρ h->a x ρ h):Wp C n c a ρ h:=by
 obtain⟨m,d,x,e,h',f,g⟩:=b;exact⟨m,d,x,e,h',f,by simp_all⟩
theorem Wp.skip(hq:Q .normal ρ h):Wp C n .skip Q ρ h:=⟨0,0,.normal,ρ,h,rfl,hq⟩
theorem Wp.ret(hq:Q .ret ρ h):Wp C n .ret Q ρ h:=⟨0,0,.ret,ρ,h,rfl,hq⟩
theorem Wp.exit{id:Nat}(hq:Q (.exit id) ρ h):Wp C n (.exit id) Q ρ h:=⟨0,0,.exit id,ρ,h,rfl,hq⟩
def andThen(k:gg->Hp->Prop) (Q:X->gg->Hp->Prop):X->gg->Hp->Prop
 | .normal,ρ,h=>k ρ h
 |x,ρ,h=>Q x ρ h
theorem yI{m d a d':Nat} (b:m<=a) (e:d<=d') {c:Code} {t:Tm} {h:Hp} {r:X×Tm×Hp} (hv:(hY n c).f (jS C m d) m t h=some r):(hY n c).f (jS C a d') a t h=some r:=
 mi (vI b e) b c hv
theorem Wp.seq{a b:Code} (i:Wp C n a (andThen (Wp C n b Q) Q) ρ h):Wp C n (.seq a b) Q ρ h:=by
 obtain⟨m,d,x,g,h',o,c⟩:=i
 cases x with
 | normal=>
   obtain⟨j,d',k,e,f,p,l⟩:=c;refine⟨max m j,max d d',k,e,f,?_,l⟩
   grind[hY,yI,wB9,Cz,Nat.le_max_right]
 |exit id=>exact⟨m,d,.exit id,g,h',by grind[hY,Cz],c⟩
 |ret=>exact⟨m,d,.ret,g,h',by grind[hY,Cz],c⟩
theorem Wp.cond{e:Operand} {a b:Code} (c:oP ((qJ e).f (.fn ρ []) h) λv=>bP v (Wp C n a Q ρ h) (Wp C n b Q ρ h)):Wp C n (.cond e a b) Q ρ h:=by
 obtain⟨v,hv,c⟩:=kG.1 c;unfold bP at c;split at c
 ·rename_i x
  cases x with
  | true=>
    obtain⟨m,d,x,g,h',j,i⟩:=c
    exact⟨m,d,x,g,h',by grind[hY,fj],i⟩
  | false=>
    obtain⟨m,d,x,g,h',j,i⟩:=c;exact⟨m,d,x,g,h',by grind[hY,fj],i⟩
 simp_all
def yt(id:Nat) (Q:X->gg->Hp->Prop):X->gg->Hp->Prop
 | .exit i,ρ,h=>Bool.rec (motive:=λ_=>Prop) (Q (.exit i) ρ h) (Q .normal ρ h) (Nat.beq i id)
 |x,ρ,h=>Q x ρ h
theorem Wp.block{id:Nat} {c:Code} (e:Wp C n c (yt id Q) ρ h):Wp C n (.block id c) Q ρ h:=by
 obtain⟨m,d,x,b,h',f,a⟩:=e
 cases x with
 |normal=>exact⟨m,d,.normal,b,h',by grind[hY,Iz],a⟩
 |ret=>exact⟨m,d,.ret,b,h',by grind[hY,Iz],a⟩
 | exit i=>
   simp only[yt]at a
   cases hb:Nat.beq i id with
   |true=>rw[hb]at a;exact⟨m,d,.normal,b,h',by simp_all[hY,Iz],a⟩
   |false=>rw[hb]at a;exact⟨m,d,.exit i,b,h',by simp_all[hY,Iz],a⟩
theorem Wp.loop{c:Code} (y:Wp C n c (andThen (Wp C n (.loop c) Q) Q) ρ h):Wp C n (.loop c) Q ρ h:=by
 obtain⟨m,d,x,o,h',e,p⟩:=y
 cases x with
 | normal=>
   obtain⟨a,d',l,g,i,q,z⟩:=p;refine⟨max m a+1,max d d',l,g,i,?_,z⟩;have b:=yI (C:=C) (n:=n) (BX (wB9 m a) (Qd _)) (wB9 d d') e;simp only[hY]at q⊢;show Cz _ _=_;simp only[b,Cz];have E:(hY n (.loop c)).f (jS C a d') a (.fn o []) h' = some (l,.fn g [],i):=q
   have s:∀(k k':Nat) (t:Tm) (h:Hp) (r:X×Tm×Hp),k<=k'->DO (λt h=>(hY n c).f (jS C a d') a t h) k t h=some r->
       DO (λt h=>(hY n c).f (jS C (max m a+1) (max d d')) (max m a+1) t h) k' t h=some r:=by
     intro k
     induction k with
     |zero=>intro k' t h r _ hv;cases hv
     | succ k A=>
       intro k' t h r hk hv;obtain⟨k',rfl⟩:∃j,k' = j+1:=⟨k'-1,by omega⟩
       have u:Cz ((hY n c).f (jS C a d') a t h) (DO (λt h=>(hY n c).f (jS C a d') a t h) k)=some r:=hv;show Cz ((hY n c).f (jS C (max m a+1) (max d d')) (max m a+1) t h) (DO (λt h=>(hY n c).f (jS C (max m a+1) (max d d')) (max m a+1) t h) k')=some r
       have v:∀{r},(hY n c).f (jS C a d') a t h=some r->(hY n c).f (jS C (max m a+1) (max d d')) (max m a+1) t h=some r:=
         λB=>yI (by omega) (Nat.le_max_right d d') B
       rcases GY u with⟨D,e,b,w⟩|⟨b,w⟩
       ·rw[v b];exact A k' D e r (by omega) w
       ·rw[v b]
        obtain⟨l,t',h'⟩:=r
        cases l with
        |normal=>simp_all
        |exit id=>rfl
        |ret=>rfl
   exact s a (max m a) _ _ _ (Nat.le_max_right m a) q
 | exit id=>
   refine⟨m+1,d,.exit id,o,h',?_,p⟩;have b:=yI (C:=C) (n:=n) (Qd m) (jb d) e;simp only[hY];show Cz _ _=_
   grind[Cz]
 | ret=>
   refine⟨m+1,d,.ret,o,h',?_,p⟩;have b:=yI (C:=C) (n:=n) (Qd m) (jb d) e;simp only[hY];show Cz _ _=_
   grind[Cz]
theorem Wp.zb6{c:Code} (I:Nat->gg->Hp->Prop) (b:∀k ρ h,I k ρ h->Wp C n c (andThen (λa h'=>∃k',k' < k/\I k' a h') Q) ρ h) {k:Nat} (h0:I k ρ h):Wp C n (.loop c) Q ρ h:=by
 induction k using Nat.strongRecOn generalizing ρ h with
 | _ k d=>
   refine .loop ((b k ρ h h0).mono λx a h' hq=>?_)
   cases x with
   |normal=>obtain⟨k',hk,hi⟩:=hq;exact d k' hk hi
   |exit id=>exact hq
   |ret=>exact hq
def nW(n:Nat) (o:Oper) (K:gg->Hp->Prop):V->gg->Hp->Prop:=match o.dst with
 |none=>λ_ ρ h=>K ρ h
 | some d=>match Nat.blt d n with
   |true=>λv ρ h=>K (gw ρ d v) h
   |false=>λ_ _ _=>False
def valOf:R->Option (V×Hp)
 | .val v h=>some (v,h)
 | .call _ _=>none
def FY:R->Option (Nat×List V)
 | .call f args=>some (f,args)
 | .val _ _=>none
def wS(o:Oper):Bool:=match o.op with
 | .call c=>match c.callee with
   | .value _| .invoke _ _=>true
   | .builtin _=>false
 |_=>false
def PJ(C:fm) (o:Oper) (K:V->gg->Hp->Prop):gg->Hp->Prop:=match wS o with
 |true=>λρ h=>oP (oB ((jL o).f (.fn ρ []) h) FY) λx=>cP C x.1 x.2 h λv h'=>K v ρ h'
 |false=>λρ h=>oP (oB ((jL o).f (.fn ρ []) h) valOf) λx=>K x.1 ρ x.2
def O5(C:fm) (o:Oper) (K:V->gg->Hp->Prop):gg->Hp->Prop:=match cls o with
 |0=>λρ h=>oP ((iz o).f (.fn ρ []) h) λv=>K v ρ h
 |1=>λρ h=>oP ((pz o).f (.fn ρ [])) λr=>K (r.2 h.next) ρ (h.new r.1)
 |_=>PJ C o K
noncomputable def gV(b:Bool)(x:Option V):Option V:=Bool.rec (motive:=λ_=>Option V) (some .undef) x b
noncomputable def gH(b:Bool)(h:Hp)(x:Option (V×Hp)):Option (V×Hp):=Bool.rec (motive:=λ_=>Option (V×Hp)) (some (.undef,h)) x b
noncomputable def gC(b:Bool)(x:Option (Nat×List V)):Option (Option (Nat×List V)):=Bool.rec (motive:=λ_=>Option (Option (Nat×List V))) (some none) (oB x λy=>some (some y)) b
def vD(C:fm) (x:Option (Nat×List V)) (h:Hp) (K:V->Hp->Prop):Prop:=match x with
 |none=>K .undef h
 |some y=>cP C y.1 y.2 h K
def Yc(C:fm) (o:Oper) (b:Bool) (K:V->gg->Hp->Prop) (ρ:gg) (h:Hp):Prop:=match cls o with
 |0=>oP (gV b ((iz o).f (.fn ρ []) h)) λv=>K v ρ h
 |1=>oP (gH b h (oB ((pz o).f (.fn ρ [])) λr=>some (r.2 h.next,h.new r.1))) λx=>K x.1 ρ x.2
 | _=>match wS o with
   |true=>oP (gC b (oB ((jL o).f (.fn ρ []) h) FY)) λx=>vD C x h λv h'=>K v ρ h'
   |false=>oP (gH b h (oB ((jL o).f (.fn ρ []) h) valOf)) λx=>K x.1 ρ x.2
def ym(C:fm) (n:Nat) (all:List Oper) (o:Oper) (K:gg->Hp->Prop):gg->Hp->Prop:=match yq o with
 |some _=>λ_ _=>False
 | none=>match ki n all o with
   |none=>O5 C o (nW n o K)
   |some g=>λρ h=>oP (g.f (.fn ρ [])) λb=>Yc C o b (nW n o K) ρ h
noncomputable def xP(C:fm) (n:Nat) (all:List Oper) (K:gg->Hp->Prop) (os:List Oper):gg->Hp->Prop:=List.rec (motive:=λ_=>gg->Hp->Prop) K (λo _ a=>ym C n all o a) os
theorem Vh(C:fm)(n:Nat)(all:List Oper)(K:gg->Hp->Prop)(o:Oper)(os:List Oper):xP C n all K (o::os)=ym C n all o (xP C n all K os):=rfl
theorem J7{o:Oper} {K:gg->Hp->Prop} {v:V} (hk:nW n o K v ρ h):∃d,wT n o=some d/\∃a,d.f (.fn ρ []) v = .fn a []/\K a h:=by
 unfold nW at hk;unfold wT
 cases ho:o.dst with
 |none=>simp_all
 | some d=>
   rw[ho]at hk;simp only at hk⊢
   cases hb:Nat.blt d n with
   |true=>rw[hb]at hk;exact⟨_,rfl,_,rfl,hk⟩
   |false=>simp_all
def zaW(C:fm)(o:Oper)(K:V->gg->Hp->Prop)(ρ:gg)(h:Hp):Prop:=∃m d v h',(Gq o).f (jS C m d) (.fn ρ []) h=some (v,h')/\K v ρ h'
theorem X2{o:Oper} {K:V->gg->Hp->Prop} (hk:PJ C o K ρ h):(∃v h',(jL o).f (.fn ρ []) h=some (.val v h')/\K v ρ h')\/∃f args,(jL o).f (.fn ρ []) h=some (.call f args)/\cP C f args h λv h'=>K v ρ h':=by
 unfold PJ at hk;cases hb:wS o
 all_goals rw[hb]at hk
 rotate_left
 ·obtain⟨x,a,c⟩:=kG.1 hk;rw[fj]at a;obtain⟨r,d,b⟩:=a
  cases r with
  |val v h'=>cases b
  |call f args=>cases b;grind
 ·obtain⟨x,a,c⟩:=kG.1 hk;rw[fj]at a;obtain⟨r,d,b⟩:=a
  cases r with
  |val v h'=>cases b;grind
  |call f args=>cases b
theorem Lt{o:Oper} {K:V->gg->Hp->Prop} (hk:O5 C o K ρ h):zaW C o K ρ h:=by
 by_cases hc0:cls o=0
 ·have a:oP ((iz o).f (.fn ρ []) h) (λv=>K v ρ h):=by unfold O5 at hk;rw[hc0]at hk;exact hk
  obtain⟨v,e,b⟩:=kG.1 a;exact⟨0,0,v,h,by simp_all[Gq,oB],b⟩
 ·by_cases hc1:cls o=1
  ·have a:oP ((pz o).f (.fn ρ [])) (λr=>K (r.2 h.next) ρ (h.new r.1)):=by unfold O5 at hk;rw[hc1]at hk;exact hk
   obtain⟨r,e,b⟩:=kG.1 a;exact⟨0,0,_,_,by simp_all[Gq,oB],b⟩
  ·have a:PJ C o K ρ h:=by
    unfold O5 at hk;generalize cls o=c at hk hc0 hc1;rcases c with _|_|c
    ·omega
    ·omega
    ·exact hk
   have g:∀call,(Gq o).f call (.fn ρ []) h=oB ((jL o).f (.fn ρ []) h) λr=>match r with
     | .val v h=>some (v,h)
     | .call f args=>call f args h:=by
    intro call;unfold Gq;split
    ·omega
    ·omega
    ·rfl
   rcases X2 a with⟨v,h',e,b⟩|⟨f,args,e,v,h',⟨m,d,j⟩,i⟩
   ·exact⟨0,0,v,h',by simp_all[oB],b⟩
   ·exact⟨m,d,v,h',by simp_all[oB],i⟩
theorem zbj{o:Oper} {b:Bool} {K:V->gg->Hp->Prop} (hk:Yc C o b K ρ h):(b=true/\zaW C o K ρ h)\/(b=false/\K .undef ρ h):=by
 unfold Yc at hk;by_cases hc0:cls o=0
 ·rw[hc0]at hk;obtain⟨v,a,e⟩:=kG.1 hk
  cases b with
  |true=>exact .inl ⟨rfl,Lt (by unfold O5;rw[hc0];exact ed a e)⟩
  |false=>cases a;simp_all
 ·by_cases hc1:cls o=1
  ·rw[hc1]at hk;obtain⟨v,a,e⟩:=kG.1 hk
   cases b with
   | true=>
     obtain⟨r,i,g⟩:=fj.1 (show oB _ _=_ from a);cases g
     exact .inl ⟨rfl,by grind[Lt,O5,ed]⟩
   |false=>cases a;simp_all
  ·have j:∀K,PJ C o K ρ h->O5 C o K ρ h:=by
    intro K hk;unfold O5;generalize cls o=c at hc0 hc1;rcases c with _|_|c
    ·omega
    ·omega
    ·exact hk
   have d:(match wS o with
     |true=>oP (gC b (oB ((jL o).f (.fn ρ []) h) FY)) λx=>vD C x h λv h'=>K v ρ h'
     |false=>oP (gH b h (oB ((jL o).f (.fn ρ []) h) valOf)) λx=>K x.1 ρ x.2):=by
    generalize cls o=c at hk hc0 hc1;rcases c with _|_|c
    ·omega
    ·omega
    ·exact hk
   cases hi:wS o with
   | true=>
     rw[hi]at d;obtain⟨x,a,e⟩:=kG.1 d
     cases b with
     | true=>
       obtain⟨y,i,g⟩:=fj.1 (show oB _ _=_ from a);cases g
       exact .inl ⟨rfl,Lt (j _ (by unfold PJ;rw[hi];exact ed i e))⟩
     |false=>cases a;exact .inr ⟨rfl,e⟩
   | false=>
     rw[hi]at d;obtain⟨x,a,e⟩:=kG.1 d
     cases b with
     |true=>exact .inl ⟨rfl,Lt (j _ (by unfold PJ;rw[hi];exact ed a e))⟩
     |false=>cases a;simp_all
theorem Om{m d a d':Nat} (b:m<=a) (c:d<=d') {all os:List Oper} {t:Tm} {h:Hp} {r:Tm×Hp} (hv:(ry n all os).f (jS C m d) t h=some r):(ry n all os).f (jS C a d') t h=some r:=
 Bc (vI b c) os hv
theorem OZ{all:List Oper} {K:gg->Hp->Prop}:∀(os:List Oper) {ρ:gg} {h:Hp},xP C n all K os ρ h->∃m d a h',(ry n all os).f (jS C m d) (.fn ρ []) h=some (.fn a [],h')/\K a h'
 |[],ρ,h,hk=>⟨0,0,ρ,h,rfl,hk⟩
 | o ::os,ρ,h,hk=>by
   rw[Vh]at hk;unfold ym at hk
   cases hq:yq o with
   |some q=>simp_all
   | none=>
     rw[hq]at hk;simp only at hk
     have l:∀{ρ h},zaW C o (nW n o (xP C n all K os)) ρ h->∃d,wT n o=some d/\∃m c v k,(Gq o).f (jS C m c) (.fn ρ []) h=some (v,k)/\∃e,d.f (.fn ρ []) v = .fn e []/\
        ∃a h',(ry n all os).f (jS C m c) (.fn e []) k=some (.fn a [],h')/\K a h':=by
       intro ρ h hk;obtain⟨m,c,v,k,t,y⟩:=hk;obtain⟨d,r,e,s,u⟩:=J7 y;obtain⟨w,d',a,h',x,i⟩:=OZ os u;exact⟨d,r,max m w,max c d',v,k,GP (by grind[vI,wB9]) t,e,s,a,h',by grind[Om,Nat.le_max_right],i⟩
     cases hw:ki n all o with
     | none=>
       rw[hw]at hk;obtain⟨d,r,m,c,v,k,t,e,s,a,h',x,i⟩:=l (Lt hk);refine⟨m,c,a,h',?_,i⟩
       simp_all[ry,Hk,oB]
     | some g=>
       rw[hw]at hk;obtain⟨b,hb,hk⟩:=kG.1 hk;rcases zbj hk with⟨p,j⟩|⟨p,j⟩ <;> subst p
       ·obtain⟨d,r,m,c,v,k,t,e,s,a,h',x,i⟩:=l j
        refine⟨m,c,a,h',?_,i⟩
        simp_all[ry,Hk,oB]
       ·obtain⟨d,r,e,s,u⟩:=J7 j
        obtain⟨w,d',a,h',x,i⟩:=OZ os u;refine⟨w,d',a,h',?_,i⟩
        simp_all[ry,Hk,oB]
theorem Wp.region{id:Nat} {ops:Array Oper} (a:xP C n ops.toList (λρ h=>Q .normal ρ h) ops.toList ρ h):Wp C n (.region id ops false) Q ρ h:=by
 obtain⟨m,d,b,h',e,c⟩:=OZ _ a;exact⟨m,d,.normal,b,h',by simp_all[hY,oB],c⟩
end
section
variable{C:fm}{n:Nat}{Q:X->gg->Hp->Prop}{ρ:gg}{h:Hp}
def Cl(h:Hp) (r:Rec):Prop:=match r.made with
 |none=>(iz r.it.o).f r.t h=some r.v
 |some (l,ob)=>h.get l=some ob/\O.beq ob ob=true
def vh(k:Nat) (h:Hp):List (Bool×Rec)->Prop->Prop
 |[],K=>K
 |r::rs,K=>Bool.rec (motive:=λ_=>Prop) (Bool.rec (motive:=λ_=>Prop) True (Cl h r.2) r.1/\vh k h rs K) (vh k h rs K) (Nat.blt r.2.last k)
def Bx(rs:List (Bool×Rec)):List Rec:=(rs.filter (·.1)).map (·.2)
def itR(C:fm) (n:Nat) (all:List Oper) (ws:List It) (a:It) (c:Nat->gg->Hp->List (Bool×Rec)->Prop) (k:Nat):gg->Hp->List (Bool×Rec)->Prop:=match cls a.o with
  | 0=>match ki n all a.o with
    |none=>λρ h rs=>oP ((iz a.o).f (.fn ρ []) h) λv=>nW n a.o (λd h=>c k d h ((true,{it:=a,t:= .fn ρ [],v,made:=none,last:=late ws a})::rs)) v ρ h
    |some g=>λρ h rs=>oP (g.f (.fn ρ [])) λb=>oP (gV b ((iz a.o).f (.fn ρ []) h)) λv=>
       nW n a.o (λd h=>c k d h ((b,{it:=a,t:= .fn ρ [],v,made:=none,last:=late ws a})::rs)) v ρ h
  | 1=>match ki n all a.o with
    |none=>λρ h rs=>oP ((pz a.o).f (.fn ρ [])) λr=>nW n a.o (λd h'=>c k d h' ((true,{it:=a,t:= .fn ρ [],v:=r.2 h.next,made:=some (h.next,r.1),last:=late ws a})::rs)) (r.2 h.next) ρ (h.new r.1)
    |some _=>λ_ _ _=>False
  | _ =>match ki n all a.o with
    |none=>λρ h rs=>vh k h rs (PJ C a.o (λv ρ h'=>h.next<=h'.next/\nW n a.o (λρ h=>c (Nat.succ k) ρ h rs) v ρ h') ρ h)
    | some g=>match wS a.o with
      |true=>λρ h rs=>vh k h rs (oP (g.f (.fn ρ [])) λb=>oP (gC b (oB ((jL a.o).f (.fn ρ []) h) FY)) λx=>vD C x h λv h'=>h.next<=h'.next/\nW n a.o (λρ h=>c (Nat.succ k) ρ h rs) v ρ h')
      |false=>λ_ _ _=>False
noncomputable def Gp(C:fm) (n:Nat) (all:List Oper) (ws:List It) (K:gg->Hp->Prop) (l:List It):Nat->gg->Hp->List (Bool×Rec)->Prop:=List.rec (motive:=λ_=>Nat->gg->Hp->List (Bool×Rec)->Prop) (λk ρ h rs=>vh k h rs (K ρ h)) (λa _ b k=>itR C n all ws a b k) l
theorem Vn(C:fm)(n:Nat)(all:List Oper)(ws:List It)(K:gg->Hp->Prop)(a:It)(l:List It)(k:Nat):Gp C n all ws K (a::l) k=itR C n all ws a (Gp C n all ws K l) k:=rfl
theorem G5{k:Nat}:∀{rs:List (Bool×Rec)} {K:Prop},vh k h rs K->zY k h (Bx rs)=true/\K
 |[],K,hk=>⟨rfl,hk⟩
 | (b,r)::rs,K,hk=>by
   simp only[vh]at hk;have a:∀{K:Prop},vh k h rs K->(b=true->(Nat.blt r.last k ||xQ h r)=true)->zY k h (Bx ((b,r)::rs))=true/\K:=by
     intro K hk hb;obtain⟨c,d⟩:=G5 hk;refine⟨?_,d⟩
     cases b with
     |false=>exact c
     | true=>
       show zY k h (r::Bx rs)=true;unfold zY;rw[Y9,hb rfl,Yl];exact c
   cases hb:Nat.blt r.last k with
   |true=>rw[hb]at hk;grind
   | false=>
     rw[hb]at hk;obtain⟨h0,hk⟩:=hk;refine a hk (λe=>?_);subst e;rw[hb,Bool.false_or]
     grind[Cl,xQ,V.KW]
theorem zcj{b:Bool} {x:Option V} {v:V} (h:gV b x=some v):(b=true/\x=some v)\/(b=false/\v = .undef):=by
 cases b with
 |true=>exact .inl ⟨rfl,h⟩
 |false=>cases h;simp_all
theorem EG{o:Oper} {d:DF} (b:wT n o=some d) {K:gg->Hp->Prop} {v:V} (hk:nW n o K v ρ h):∃a,d.f (.fn ρ []) v = .fn a []/\K a h:=by
 grind[J7]
theorem UY{m d a d':Nat} (b:m<=a) (c:d<=d') {all:List Oper} {ws l:List It} {k:Nat} {t:Tm} {h:Hp} {rs:List Rec} {r:Tm×Hp} (hv:(vF n all ws l k).f (jS C m d) t h rs=some r) :
  (vF n all ws l k).f (jS C a d') t h rs=some r:=ye (vI b c) l k hv
theorem A6{all:List Oper} {ws:List It} {K:gg->Hp->Prop}:∀(l:List It) (k:Nat) {ρ:gg} {h:Hp} {rs:List (Bool×Rec)},Gp C n all ws K l k ρ h rs->
  ∃m d i h',(vF n all ws l k).f (jS C m d) (.fn ρ []) h (Bx rs)=some (.fn i [],h')/\K i h'
 | [],k,ρ,h,rs,hk=>by
   obtain⟨u,w⟩:=G5 hk
   exact⟨0,0,ρ,h,by simp_all[vF,bB],w⟩
 | a ::l,k,ρ,h,rs,hk=>by
   have e:∀{K:gg->Hp->Prop} {v:V} {ρ:gg} {h:Hp},nW n a.o K v ρ h->∃d,wT n a.o=some d:=by grind[J7]
   have z:∀{d},wT n a.o=some d->∀call t h rs,(vF n all ws (a::l) k).f call t h rs=(match cls a.o with
       |0=>Fs n all ws a d (vF n all ws l k)
       |1=>DL n all ws a d (vF n all ws l k)
       |_=>z7 n all k a d (vF n all ws l (Nat.succ k))).f call t h rs:=by
     intro d j call t h rs
     conv=>lhs;unfold vF
     rw[j];simp only;generalize cls a.o=c;rcases c with _|_|c <;> rfl
   have E:∀call t h,cls a.o≠0->cls a.o≠1->(Gq a.o).f call t h=oB ((jL a.o).f t h) λr=>match r with
       | .val v h=>some (v,h)
       | .call f args=>call f args h:=by
     intro call t h h0 u;unfold Gq;split
     ·omega
     ·omega
     ·rfl
   have F:∀t,ki n all a.o=none->oU n all a.o t=some true:=by grind[oU]
   have G:∀t g,ki n all a.o=some g->oU n all a.o t=g.f t:=by grind[oU]
   have step:∀{h:Hp} {ρ:gg} {rs:List (Bool×Rec)} {c:Nat},cls a.o=c+2->zY k h (Bx rs)=true->oU n all a.o (.fn ρ [])=some true->
       PJ C a.o (λv ρ h'=>h.next<=h'.next/\nW n a.o (λρ h=>Gp C n all ws K l (Nat.succ k) ρ h rs) v ρ h') ρ h->
       ∃m d i h',(vF n all ws (a::l) k).f (jS C m d) (.fn ρ []) h (Bx rs)=some (.fn i [],h')/\K i h':=by
     intro h ρ rs c hc q O hk;have B:=λcall=>E call (.fn ρ []) h (by omega) (by omega);rcases X2 hk with⟨v,h',hv,H,hk⟩|⟨f,args,hv,v,h',⟨P,d0,L⟩,H,hk⟩
     ·simp only[hv,oB]at B
      obtain⟨d,j⟩:=e hk;obtain⟨I,u,hk⟩:=EG j hk;obtain⟨m,s,i,A,w,p⟩:=A6 l _ hk;exact⟨m,s,i,A,by simp_all[z7,bB,oB,Xg],p⟩
     ·simp only[hv,oB]at B
      obtain⟨d,j⟩:=e hk;obtain⟨I,u,hk⟩:=EG j hk;obtain⟨m,s,i,A,w,p⟩:=A6 l _ hk;refine⟨max P m,max d0 s,i,A,?_,p⟩;have J:=vI (C:=C) (wB9 P m) (wB9 d0 s) _ _ _ _ L;rw[z j,hc];simp only[z7,q,bB,O,oB,B,J,u,Xg H]
      grind[UY,Nat.le_max_right]
   have D:∀{h:Hp} {ρ:gg} {rs:List (Bool×Rec)} {c:Nat},cls a.o=c+2->zY k h (Bx rs)=true->oU n all a.o (.fn ρ [])=some false->
       nW n a.o (λρ h=>Gp C n all ws K l (Nat.succ k) ρ h rs) .undef ρ h->
       ∃m d i h',(vF n all ws (a::l) k).f (jS C m d) (.fn ρ []) h (Bx rs)=some (.fn i [],h')/\K i h':=by
     intro h ρ rs c hc q O hk;obtain⟨d,j⟩:=e hk;obtain⟨I,u,hk⟩:=EG j hk;obtain⟨m,s,i,A,w,p⟩:=A6 l _ hk;exact⟨m,s,i,A,by simp_all[z7,bB,oB],p⟩
   rw[Vn]at hk;unfold itR at hk;generalize hc:cls a.o=c at hk;rcases c with _|_|c
   ·simp only at hk
    cases hwc:ki n all a.o with
    | none=>
      rw[hwc]at hk;obtain⟨v,hv,hk⟩:=kG.1 hk;obtain⟨d,j⟩:=e hk;obtain⟨I,u,hk⟩:=EG j hk;obtain⟨m,s,i,h',w,p⟩:=A6 l k hk
      exact⟨m,s,i,h',by rw[z j,hc];simp only[Fs,F _ hwc,hv,oB,u];exact w,p⟩
    | some g=>
      rw[hwc]at hk;obtain⟨b,hb,hk⟩:=kG.1 hk;obtain⟨v,hv,hk⟩:=kG.1 hk;obtain⟨d,j⟩:=e hk;obtain⟨I,u,hk⟩:=EG j hk;obtain⟨m,s,i,h',w,p⟩:=A6 l k hk;rcases zcj hv with⟨M,N⟩|⟨M,Q⟩
      ·subst M
       exact⟨m,s,i,h',by rw[z j,hc];simp only[Fs,G _ _ hwc,hb,N,oB,u];exact w,p⟩
      ·subst M;subst Q
       exact⟨m,s,i,h',by rw[z j,hc];simp only[Fs,G _ _ hwc,hb,oB,u];exact w,p⟩
   ·simp only at hk
    cases hwc:ki n all a.o with
    | none=>
      rw[hwc]at hk;obtain⟨v,hv,hk⟩:=kG.1 hk;obtain⟨d,j⟩:=e hk;obtain⟨I,u,hk⟩:=EG j hk;obtain⟨m,s,i,h',w,p⟩:=A6 l k hk
      exact⟨m,s,i,h',by rw[z j,hc];simp only[DL,F _ hwc,hv,oB,u];exact w,p⟩
    |some g=>simp_all
   ·simp only at hk
    cases hwc:ki n all a.o with
    | none=>
      rw[hwc]at hk;obtain⟨q,hk⟩:=G5 hk
      simp_all
    | some g=>
      rw[hwc]at hk;simp only at hk
      cases hi:wS a.o with
      |false=>simp_all
      | true=>
        rw[hi]at hk;obtain⟨q,hk⟩:=G5 hk;obtain⟨b,hb,hk⟩:=kG.1 hk;obtain⟨x,hx,hk⟩:=kG.1 hk
        cases b with
        | true=>
          obtain⟨y,p,R⟩:=fj.1 (show oB _ _=_ from hx);cases R
          exact step hc q (by simp_all) (by unfold PJ;rw[hi];exact ed p hk)
        | false=>
          cases hx;exact D hc q (by simp_all) hk.2
noncomputable def wJ(all:List Oper):Bool:=OI (items all 0 []) (gK (items all 0 []))&&ua (items all 0 []) (gK (items all 0 [])) (order (items all 0 []) (gK (items all 0 [])) (gK (items all 0 [])) 0) 0 0
noncomputable def Tf(C:fm) (n:Nat) (all:List Oper) (K:gg->Hp->Prop) (ρ:gg) (h:Hp):Prop:=Gp C n all (gK (items all 0 [])) K (order (items all 0 []) (gK (items all 0 [])) (gK (items all 0 [])) 0) 0 ρ h []
theorem Wp.draw{id:Nat} {ops:Array Oper} (a:wJ ops.toList=true) (b:Tf C n ops.toList (λρ h=>Q .normal ρ h) ρ h):Wp C n (.region id ops true) Q ρ h:=by
 obtain⟨m,d,c,h',f,g⟩:=A6 _ _ b;have e:Bx []=[]:=rfl;rw[e]at f;refine⟨m,d,.normal,c,h',?_,g⟩
 simp_all[wJ,hY,Ky,oB]
noncomputable def uK(C:fm) (n:Nat) (c:Code):(X->gg->Hp->Prop)->gg->Hp->Prop:=
 Code.rec (motive:=λ_=>(X->gg->Hp->Prop)->gg->Hp->Prop)
  (λQ=>Q .normal)
  (fun _ ops d Q=>match d with
   |false=>xP C n ops.toList (λρ h=>Q .normal ρ h) ops.toList
   | true=>match wJ ops.toList with
     |true=>Tf C n ops.toList (λρ h=>Q .normal ρ h)
     |false=>λ_ _=>False)
  (λ_ b a _ Q=>a (andThen (Wp C n b Q) Q))
  (λc _ _ a e Q ρ h=>oP ((qJ c).f (.fn ρ []) h) λv=>bP v (a Q ρ h) (e Q ρ h))
  (λid _ g Q=>g (yt id Q))
  (λc _ Q=>Wp C n (.loop c) Q)
  (λ_ _ _ _ _ _ _ _ _=>False)
  (λid Q=>Q (.exit id))
  (λ_ _ _ _ _=>False)
  (λ_ _ _ _=>False)
  (λ_ _ _ _=>False)
  (λQ=>Q .ret)
  (λ_ _ _ _=>False) c
theorem Wp.code:∀(c:Code) {Q:X->gg->Hp->Prop} {ρ:gg} {h:Hp},uK C n c Q ρ h->Wp C n c Q ρ h
 | .skip,_,_,_,hk=> .skip hk
 | .region _ ops false,_,_,_,hk=> .region hk
 | .region _ ops true,Q,ρ,h,hk=>by
   have d:(match wJ ops.toList with
       |true=>Tf C n ops.toList (λρ h=>Q .normal ρ h)
       |false=>λ_ _=>False) ρ h:=hk
   cases hd:wJ ops.toList with
   |true=>simp_all[draw]
   |false=>simp_all
 | .seq a _,_,_,_,hk=> .seq (Wp.code a hk)
 | .cond c a b,_,_,_,hk=>by
   obtain⟨v,hv,hk⟩:=kG.1 hk;refine .cond (ed hv ?_);unfold bP at hk⊢;split at hk
   ·rename_i x
    cases x with
    |true=>exact Wp.code a hk
    |false=>exact Wp.code b hk
   ·exact hk.elim
 | .block id c,_,_,_,hk=> .block (Wp.code c hk)
 | .loop c,_,_,_,hk=>hk
 | .exit id,_,_,_,hk=> .exit hk
 | .ret,_,_,_,hk=> .ret hk
 | .rangeFunc ..,_,_,_,hk=>hk.elim
 | .scope _,_,_,_,hk=>hk.elim
 | .label _,_,_,_,hk=>hk.elim
 | .goto _,_,_,_,hk=>hk.elim
 | .refuse _,_,_,_,hk=>hk.elim
def Zr(l:List ResultVar)(Q:V->Hp->Prop)(ρ:gg)(h:Hp):Prop:=oP (yl (.fn ρ []) h l) λvs=>Q (yc vs) h
def LS(l:List ResultVar) (Q:V->Hp->Prop):X->gg->Hp->Prop
 | .exit _,_,_=>False
 |_,ρ,h=>Zr l Q ρ h
def ME(args:List V):gg:=λi=>(args[i]?).getD .undef
theorem cP.func(hs:C.start=fK) {f:Nat} {fn:Func} {c:Code} {args:List V} (j:P0.funcs[f]? =some fn) (hb:fn.body=some c) (hk:C.K f args h=none) (e:args.length<=fn.ntmps) {Q:V->Hp->Prop}
  (k:Wp C fn.ntmps c (LS fn.results.toList Q) (ME args) h):cP C f args h Q:=by
 obtain ⟨m,d,x,l,h',n,g⟩:=k;have a:Zr fn.results.toList Q l h'->(∀id,x≠ .exit id)->cP C f args h Q:=by
  intro o hx;obtain⟨vs,q,p⟩:=kG.1 o;refine⟨_,_,⟨m,d+1,?_⟩,p⟩;show(BW C f).f (jS C m d) m args h=_;unfold BW;rw[j];simp only[hb,hk,Yf,hs];have b:Nat.ble args.length fn.ntmps=true:=Xg e;have i:fK args = .fn (ME args) []:=rfl;rw[i,b,n]
  cases x with
  |normal=>simp_all[bB,oB,Tm.ds,Mp]
  |ret=>simp_all[bB,oB,Tm.ds,Mp]
  |exit id=>simp_all
 cases x with
 |normal=>exact a g (by simp_all)
 |ret=>exact a g (by simp_all)
 |exit id=>exact g.elim
theorem cP.zcx(hs:C.start=fK) {f:Nat} {fn:Func} {c:Code} {args:List V} {k:Nat} {rs:List ResultVar} (b:P0.funcs[f]? =some fn) (hb:fn.body=some c) (d:fn.ntmps=k) (e:fn.results.toList=rs)
  (hk:C.K f args h=none) (a:args.length<=k) {Q:V->Hp->Prop} (g:Wp C k c (LS rs Q) (ME args) h):cP C f args h Q:=by
 grind[cP.func]
theorem cP.known{f:Nat} {fn:Func} {c:Code} {args:List V} {v:V} (a:P0.funcs[f]? =some fn) (hb:fn.body=some c) (hk:C.K f args h=some v) (b:PI args=true) (d:v.flat=true) {Q:V->Hp->Prop} (hq:Q v h):cP C f args h Q:=by
 refine⟨v,h,⟨0,1,?_⟩,hq⟩;show(BW C f).f _ _ args h=_
 simp_all[BW,Yf,Bool.and_self,bB]
theorem cP.mono{f:Nat} {args:List V} {Q a:V->Hp->Prop} (hc:cP C f args h Q) (hq:∀v h,Q v h->a v h):cP C f args h a:=by
 obtain⟨v,h',b,c⟩:=hc;exact⟨v,h',b,hq _ _ c⟩
end
