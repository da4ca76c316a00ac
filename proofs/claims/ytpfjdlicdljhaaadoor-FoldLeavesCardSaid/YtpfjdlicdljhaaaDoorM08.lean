/- Parts. -/
import Derived.Test.YtpfjdlicdljhaaaDoorM07
set_option maxHeartbeats 4000000
namespace Go.Proofs.YtpfjdlicdljhaaaDoor.Hx
abbrev gf:=Nat->V
def Ev(C:fk)(f:Nat)(args:List V)(h:Hp)(v:V)(h':Hp):Prop:=∃m d,jE C m d f args h=some (v,h')
inductive Wp (C:fk) (n:Nat) (c:Code) (Q:X->gf->Hp->Prop) (ρ:gf) (h:Hp):Prop
 |mk (b:∃m d x a h',(hZ n c).f (jE C m d) m (.fn ρ []) h=some (x,.fn a [],h')/\Q x a h')
def oP{α:Type}(x:Option α)(k:α->Prop):Prop:=Option.rec (motive:=λ_=>Prop) False k x
theorem Yd{α:Type}(a:α)(k:α->Prop):oP (some a) k=k a:=rfl
theorem j6{α:Type} {x:Option α} {k:α->Prop}:oP x k↔∃a,x=some a/\k a:=by
 cases x with
 |none=>grind[oP]
 |some a=>exact⟨λh=>⟨a,rfl,h⟩,λ⟨_,h,h'⟩=>by grind[oP]⟩
theorem ed{α:Type}{x:Option α}{k:α->Prop}{a:α}(h:x=some a)(h':k a):oP x k:=by subst h;exact h'
def cP(C:fk)(f:Nat)(args:List V)(h:Hp)(k:V->Hp->Prop):Prop:=∃v h',Ev C f args h v h'/\k v h'
def bP(v:V) (a b:Prop):Prop:=match v with
 | .bool x=>Bool.rec (motive:=λ_=>Prop) b a x
 |_=>False
theorem gZ(x:Bool)(a b:Prop):bP (.bool x) a b=if x=true then a else b:=by cases x <;> rfl
section
variable{C:fk}{n:Nat}{Q:X->gf->Hp->Prop}{ρ:gf}{h:Hp}
theorem Wp.mono{c:Code} {a:X->gf->Hp->Prop} (b:Wp C n c Q ρ h) (hq:∀x ρ h,Q x ρ h->a x ρ h):Wp C n c a ρ h:=by
 obtain⟨m,d,x,e,h',f,g⟩:=b;exact⟨m,d,x,e,h',f,by simp_all⟩
theorem Wp.skip(hq:Q .normal ρ h):Wp C n .skip Q ρ h:=⟨0,0,.normal,ρ,h,rfl,hq⟩
theorem Wp.ret(hq:Q .ret ρ h):Wp C n .ret Q ρ h:=⟨0,0,.ret,ρ,h,rfl,hq⟩
theorem Wp.exit{id:Nat}(hq:Q (.exit id) ρ h):Wp C n (.exit id) Q ρ h:=⟨0,0,.exit id,ρ,h,rfl,hq⟩
def andThen(k:gf->Hp->Prop) (Q:X->gf->Hp->Prop):X->gf->Hp->Prop
 | .normal,ρ,h=>k ρ h
 |x,ρ,h=>Q x ρ h
theorem yr{m d a d':Nat} (b:m<=a) (e:d<=d') {c:Code} {t:Tm} {h:Hp} {r:X×Tm×Hp} (g:(hZ n c).f (jE C m d) m t h=some r):(hZ n c).f (jE C a d') a t h=some r:=
 lW (wi b e) b c g
theorem Wp.seq{a b:Code} (i:Wp C n a (andThen (Wp C n b Q) Q) ρ h):Wp C n (.seq a b) Q ρ h:=by
 obtain⟨m,d,x,g,h',o,c⟩:=i
 cases x with
 | normal=>
   obtain⟨j,d',k,e,f,p,l⟩:=c;refine⟨max m j,max d d',k,e,f,?_,l⟩
   grind[hZ,yr,wB2,CN,Nat.le_max_right]
 |exit id=>exact⟨m,d,.exit id,g,h',by grind[hZ,CN],c⟩
 |ret=>exact⟨m,d,.ret,g,h',by grind[hZ,CN],c⟩
theorem Wp.cond{e:Operand} {a b:Code} (c:oP ((rr e).f (.fn ρ []) h) λv=>bP v (Wp C n a Q ρ h) (Wp C n b Q ρ h)):Wp C n (.cond e a b) Q ρ h:=by
 obtain⟨v,k,c⟩:=j6.1 c;unfold bP at c;split at c
 ·rename_i x
  cases x with
  | true=>
    obtain⟨m,d,x,g,h',j,i⟩:=c
    exact⟨m,d,x,g,h',by grind[hZ,fh],i⟩
  | false=>
    obtain⟨m,d,x,g,h',j,i⟩:=c;exact⟨m,d,x,g,h',by grind[hZ,fh],i⟩
 simp_all
def yp(id:Nat) (Q:X->gf->Hp->Prop):X->gf->Hp->Prop
 | .exit i,ρ,h=>Bool.rec (motive:=λ_=>Prop) (Q (.exit i) ρ h) (Q .normal ρ h) (Nat.beq i id)
 |x,ρ,h=>Q x ρ h
theorem Wp.block{id:Nat} {c:Code} (e:Wp C n c (yp id Q) ρ h):Wp C n (.block id c) Q ρ h:=by
 obtain⟨m,d,x,b,h',f,a⟩:=e
 cases x with
 |normal=>exact⟨m,d,.normal,b,h',by grind[hZ,IC],a⟩
 |ret=>exact⟨m,d,.ret,b,h',by grind[hZ,IC],a⟩
 | exit i=>
   simp only[yp]at a
   cases hb:Nat.beq i id with
   |true=>rw[hb]at a;exact⟨m,d,.normal,b,h',by simp_all[hZ,IC],a⟩
   |false=>rw[hb]at a;exact⟨m,d,.exit i,b,h',by simp_all[hZ,IC],a⟩
theorem Wp.loop{c:Code} (z:Wp C n c (andThen (Wp C n (.loop c) Q) Q) ρ h):Wp C n (.loop c) Q ρ h:=by
 obtain⟨m,d,x,o,h',e,p⟩:=z
 cases x with
 | normal=>
   obtain⟨a,d',l,g,i,q,A⟩:=p;refine⟨max m a+1,max d d',l,g,i,?_,A⟩;have b:=yr (C:=C) (n:=n) (Fe (wB2 m a) (Qe _)) (wB2 d d') e;simp only[hZ]at q⊢;show CN _ _=_;simp only[b,CN];have F:(hZ n (.loop c)).f (jE C a d') a (.fn o []) h' = some (l,.fn g [],i):=q
   have s:∀(k k':Nat) (t:Tm) (h:Hp) (r:X×Tm×Hp),k<=k'->Dp (λt h=>(hZ n c).f (jE C a d') a t h) k t h=some r->
       Dp (λt h=>(hZ n c).f (jE C (max m a+1) (max d d')) (max m a+1) t h) k' t h=some r:=by
     intro k
     induction k with
     |zero=>intro k' t h r _ u;cases u
     | succ k B=>
       intro k' t h r hk u;obtain⟨k',rfl⟩:∃j,k' = j+1:=⟨k'-1,by omega⟩
       have v:CN ((hZ n c).f (jE C a d') a t h) (Dp (λt h=>(hZ n c).f (jE C a d') a t h) k)=some r:=u;show CN ((hZ n c).f (jE C (max m a+1) (max d d')) (max m a+1) t h) (Dp (λt h=>(hZ n c).f (jE C (max m a+1) (max d d')) (max m a+1) t h) k')=some r
       have w:∀{r},(hZ n c).f (jE C a d') a t h=some r->(hZ n c).f (jE C (max m a+1) (max d d')) (max m a+1) t h=some r:=
         λD=>yr (by omega) (Nat.le_max_right d d') D
       rcases Hs v with⟨E,e,b,y⟩|⟨b,y⟩
       ·rw[w b];exact B k' E e r (by omega) y
       ·rw[w b]
        obtain⟨l,t',h'⟩:=r
        cases l with
        |normal=>simp_all
        |exit id=>rfl
        |ret=>rfl
   exact s a (max m a) _ _ _ (Nat.le_max_right m a) q
 | exit id=>
   refine⟨m+1,d,.exit id,o,h',?_,p⟩;have b:=yr (C:=C) (n:=n) (Qe m) (iZ d) e;simp only[hZ];show CN _ _=_
   grind[CN]
 | ret=>
   refine⟨m+1,d,.ret,o,h',?_,p⟩;have b:=yr (C:=C) (n:=n) (Qe m) (iZ d) e;simp only[hZ];show CN _ _=_
   grind[CN]
theorem Wp.za5{c:Code} (I:Nat->gf->Hp->Prop) (b:∀k ρ h,I k ρ h->Wp C n c (andThen (λa h'=>∃k',k' < k/\I k' a h') Q) ρ h) {k:Nat} (h0:I k ρ h):Wp C n (.loop c) Q ρ h:=by
 induction k using Nat.strongRecOn generalizing ρ h with
 | _ k d=>
   refine .loop ((b k ρ h h0).mono λx a h' hq=>?_)
   cases x with
   |normal=>obtain⟨k',hk,hi⟩:=hq;exact d k' hk hi
   |exit id=>exact hq
   |ret=>exact hq
def nJ(n:Nat) (o:Oper) (K:gf->Hp->Prop):V->gf->Hp->Prop:=match o.dst with
 |none=>λ_ ρ h=>K ρ h
 | some d=>match Nat.blt d n with
   |true=>λv ρ h=>K (gq ρ d v) h
   |false=>λ_ _ _=>False
def valOf:R->Option (V×Hp)
 | .val v h=>some (v,h)
 | .call _ _=>none
def Ga:R->Option (Nat×List V)
 | .call f args=>some (f,args)
 | .val _ _=>none
def xe(o:Oper):Bool:=match o.op with
 | .call c=>match c.callee with
   | .value _| .invoke _ _=>true
   | .builtin _=>false
 |_=>false
def Qa(C:fk) (o:Oper) (K:V->gf->Hp->Prop):gf->Hp->Prop:=match xe o with
 |true=>λρ h=>oP (oB ((jy o).f (.fn ρ []) h) Ga) λx=>cP C x.1 x.2 h λv h'=>K v ρ h'
 |false=>λρ h=>oP (oB ((jy o).f (.fn ρ []) h) valOf) λx=>K x.1 ρ x.2
def Of(C:fk) (o:Oper) (K:V->gf->Hp->Prop):gf->Hp->Prop:=match cls o with
 |0=>λρ h=>oP ((il o).f (.fn ρ []) h) λv=>K v ρ h
 |1=>λρ h=>oP ((pD o).f (.fn ρ [])) λr=>K (r.2 h.next) ρ (h.new r.1)
 |_=>Qa C o K
noncomputable def gV(b:Bool)(x:Option V):Option V:=Bool.rec (motive:=λ_=>Option V) (some .undef) x b
noncomputable def gH(b:Bool)(h:Hp)(x:Option (V×Hp)):Option (V×Hp):=Bool.rec (motive:=λ_=>Option (V×Hp)) (some (.undef,h)) x b
noncomputable def gC(b:Bool)(x:Option (Nat×List V)):Option (Option (Nat×List V)):=Bool.rec (motive:=λ_=>Option (Option (Nat×List V))) (some none) (oB x λy=>some (some y)) b
def xd(C:fk) (x:Option (Nat×List V)) (h:Hp) (K:V->Hp->Prop):Prop:=match x with
 |none=>K .undef h
 |some y=>cP C y.1 y.2 h K
def Xh(C:fk) (o:Oper) (b:Bool) (K:V->gf->Hp->Prop) (ρ:gf) (h:Hp):Prop:=match cls o with
 |0=>oP (gV b ((il o).f (.fn ρ []) h)) λv=>K v ρ h
 |1=>oP (gH b h (oB ((pD o).f (.fn ρ [])) λr=>some (r.2 h.next,h.new r.1))) λx=>K x.1 ρ x.2
 | _=>match xe o with
   |true=>oP (gC b (oB ((jy o).f (.fn ρ []) h) Ga)) λx=>xd C x h λv h'=>K v ρ h'
   |false=>oP (gH b h (oB ((jy o).f (.fn ρ []) h) valOf)) λx=>K x.1 ρ x.2
def yH(C:fk) (n:Nat) (all:List Oper) (o:Oper) (K:gf->Hp->Prop):gf->Hp->Prop:=match yN o with
 |some _=>λ_ _=>False
 | none=>match jW n all o with
   |none=>Of C o (nJ n o K)
   |some g=>λρ h=>oP (g.f (.fn ρ [])) λb=>Xh C o b (nJ n o K) ρ h
noncomputable def yf(C:fk) (n:Nat) (all:List Oper) (K:gf->Hp->Prop) (os:List Oper):gf->Hp->Prop:=List.rec (motive:=λ_=>gf->Hp->Prop) K (λo _ a=>yH C n all o a) os
theorem TE(C:fk)(n:Nat)(all:List Oper)(K:gf->Hp->Prop)(o:Oper)(os:List Oper):yf C n all K (o::os)=yH C n all o (yf C n all K os):=rfl
theorem JJ{o:Oper} {K:gf->Hp->Prop} {v:V} (hk:nJ n o K v ρ h):∃d,w9 n o=some d/\∃a,d.f (.fn ρ []) v = .fn a []/\K a h:=by
 unfold nJ at hk;unfold w9
 cases ho:o.dst with
 |none=>simp_all
 | some d=>
   rw[ho]at hk;simp only at hk⊢
   cases hb:Nat.blt d n with
   |true=>rw[hb]at hk;exact⟨_,rfl,_,rfl,hk⟩
   |false=>simp_all
def ZT(C:fk)(o:Oper)(K:V->gf->Hp->Prop)(ρ:gf)(h:Hp):Prop:=∃m d v h',(GC o).f (jE C m d) (.fn ρ []) h=some (v,h')/\K v ρ h'
theorem Wx{o:Oper} {K:V->gf->Hp->Prop} (hk:Qa C o K ρ h):(∃v h',(jy o).f (.fn ρ []) h=some (.val v h')/\K v ρ h')\/∃f args,(jy o).f (.fn ρ []) h=some (.call f args)/\cP C f args h λv h'=>K v ρ h':=by
 unfold Qa at hk;cases hb:xe o
 all_goals rw[hb]at hk
 rotate_left
 ·obtain⟨x,a,c⟩:=j6.1 hk;rw[fh]at a;obtain⟨r,d,b⟩:=a
  cases r with
  |val v h'=>cases b
  |call f args=>cases b;grind
 ·obtain⟨x,a,c⟩:=j6.1 hk;rw[fh]at a;obtain⟨r,d,b⟩:=a
  cases r with
  |val v h'=>cases b;grind
  |call f args=>cases b
theorem Ld{o:Oper} {K:V->gf->Hp->Prop} (hk:Of C o K ρ h):ZT C o K ρ h:=by
 by_cases hc0:cls o=0
 ·have a:oP ((il o).f (.fn ρ []) h) (λv=>K v ρ h):=by unfold Of at hk;rw[hc0]at hk;exact hk
  obtain⟨v,e,b⟩:=j6.1 a;exact⟨0,0,v,h,by simp_all[GC,oB],b⟩
 ·by_cases hc1:cls o=1
  ·have a:oP ((pD o).f (.fn ρ [])) (λr=>K (r.2 h.next) ρ (h.new r.1)):=by unfold Of at hk;rw[hc1]at hk;exact hk
   obtain⟨r,e,b⟩:=j6.1 a;exact⟨0,0,_,_,by simp_all[GC,oB],b⟩
  ·have a:Qa C o K ρ h:=by
    unfold Of at hk;generalize cls o=c at hk hc0 hc1;rcases c with _|_|c
    ·omega
    ·omega
    ·exact hk
   have g:∀call,(GC o).f call (.fn ρ []) h=oB ((jy o).f (.fn ρ []) h) λr=>match r with
     | .val v h=>some (v,h)
     | .call f args=>call f args h:=by
    intro call;unfold GC;split
    ·omega
    ·omega
    ·rfl
   rcases Wx a with⟨v,h',e,b⟩|⟨f,args,e,v,h',⟨m,d,j⟩,i⟩
   ·exact⟨0,0,v,h',by simp_all[oB],b⟩
   ·exact⟨m,d,v,h',by simp_all[oB],i⟩
theorem ZL{o:Oper} {b:Bool} {K:V->gf->Hp->Prop} (hk:Xh C o b K ρ h):(b=true/\ZT C o K ρ h)\/(b=false/\K .undef ρ h):=by
 unfold Xh at hk;by_cases hc0:cls o=0
 ·rw[hc0]at hk;obtain⟨v,a,e⟩:=j6.1 hk
  cases b with
  |true=>exact .inl ⟨rfl,Ld (by unfold Of;rw[hc0];exact ed a e)⟩
  |false=>cases a;simp_all
 ·by_cases hc1:cls o=1
  ·rw[hc1]at hk;obtain⟨v,a,e⟩:=j6.1 hk
   cases b with
   | true=>
     obtain⟨r,i,g⟩:=fh.1 (show oB _ _=_ from a);cases g
     exact .inl ⟨rfl,by grind[Ld,Of,ed]⟩
   |false=>cases a;simp_all
  ·have j:∀K,Qa C o K ρ h->Of C o K ρ h:=by
    intro K hk;unfold Of;generalize cls o=c at hc0 hc1;rcases c with _|_|c
    ·omega
    ·omega
    ·exact hk
   have d:(match xe o with
     |true=>oP (gC b (oB ((jy o).f (.fn ρ []) h) Ga)) λx=>xd C x h λv h'=>K v ρ h'
     |false=>oP (gH b h (oB ((jy o).f (.fn ρ []) h) valOf)) λx=>K x.1 ρ x.2):=by
    generalize cls o=c at hk hc0 hc1;rcases c with _|_|c
    ·omega
    ·omega
    ·exact hk
   cases hi:xe o with
   | true=>
     rw[hi]at d;obtain⟨x,a,e⟩:=j6.1 d
     cases b with
     | true=>
       obtain⟨y,i,g⟩:=fh.1 (show oB _ _=_ from a);cases g
       exact .inl ⟨rfl,Ld (j _ (by unfold Qa;rw[hi];exact ed i e))⟩
     |false=>cases a;exact .inr ⟨rfl,e⟩
   | false=>
     rw[hi]at d;obtain⟨x,a,e⟩:=j6.1 d
     cases b with
     |true=>exact .inl ⟨rfl,Ld (j _ (by unfold Qa;rw[hi];exact ed a e))⟩
     |false=>cases a;simp_all
theorem Nb{m d a d':Nat} (b:m<=a) (c:d<=d') {all os:List Oper} {t:Tm} {h:Hp} {r:Tm×Hp} (e:(sh n all os).f (jE C m d) t h=some r):(sh n all os).f (jE C a d') t h=some r:=
 BB (wi b c) os e
theorem M9{all:List Oper} {K:gf->Hp->Prop}:∀(os:List Oper) {ρ:gf} {h:Hp},yf C n all K os ρ h->∃m d a h',(sh n all os).f (jE C m d) (.fn ρ []) h=some (.fn a [],h')/\K a h'
 |[],ρ,h,hk=>⟨0,0,ρ,h,rfl,hk⟩
 | o ::os,ρ,h,hk=>by
   rw[TE]at hk;unfold yH at hk
   cases hq:yN o with
   |some q=>simp_all
   | none=>
     rw[hq]at hk;simp only at hk
     have l:∀{ρ h},ZT C o (nJ n o (yf C n all K os)) ρ h->∃d,w9 n o=some d/\∃m c v k,(GC o).f (jE C m c) (.fn ρ []) h=some (v,k)/\∃e,d.f (.fn ρ []) v = .fn e []/\
        ∃a h',(sh n all os).f (jE C m c) (.fn e []) k=some (.fn a [],h')/\K a h':=by
       intro ρ h hk;obtain⟨m,c,v,k,t,y⟩:=hk;obtain⟨d,r,e,s,u⟩:=JJ y;obtain⟨w,d',a,h',x,i⟩:=M9 os u;exact⟨d,r,max m w,max c d',v,k,Hz (by grind[wi,wB2]) t,e,s,a,h',by grind[Nb,Nat.le_max_right],i⟩
     cases hw:jW n all o with
     | none=>
       rw[hw]at hk;obtain⟨d,r,m,c,v,k,t,e,s,a,h',x,i⟩:=l (Ld hk);refine⟨m,c,a,h',?_,i⟩
       simp_all[sh,G8,oB]
     | some g=>
       rw[hw]at hk;obtain⟨b,z,hk⟩:=j6.1 hk;rcases ZL hk with⟨p,j⟩|⟨p,j⟩ <;> subst p
       ·obtain⟨d,r,m,c,v,k,t,e,s,a,h',x,i⟩:=l j
        refine⟨m,c,a,h',?_,i⟩
        simp_all[sh,G8,oB]
       ·obtain⟨d,r,e,s,u⟩:=JJ j
        obtain⟨w,d',a,h',x,i⟩:=M9 os u;refine⟨w,d',a,h',?_,i⟩
        simp_all[sh,G8,oB]
theorem Wp.region{id:Nat} {ops:Array Oper} (a:yf C n ops.toList (λρ h=>Q .normal ρ h) ops.toList ρ h):Wp C n (.region id ops false) Q ρ h:=by
 obtain⟨m,d,b,h',e,c⟩:=M9 _ a;exact⟨m,d,.normal,b,h',by simp_all[hZ,oB],c⟩
end
section
variable{C:fk}{n:Nat}{Q:X->gf->Hp->Prop}{ρ:gf}{h:Hp}
def CC(h:Hp) (r:Rec):Prop:=match r.made with
 |none=>(il r.it.o).f r.t h=some r.v
 |some (l,ob)=>h.get l=some ob/\O.beq ob ob=true
def vK(k:Nat) (h:Hp):List (Bool×Rec)->Prop->Prop
 |[],K=>K
 |r::rs,K=>Bool.rec (motive:=λ_=>Prop) (Bool.rec (motive:=λ_=>Prop) True (CC h r.2) r.1/\vK k h rs K) (vK k h rs K) (Nat.blt r.2.last k)
def Cl(rs:List (Bool×Rec)):List Rec:=(rs.filter (·.1)).map (·.2)
def itR(C:fk) (n:Nat) (all:List Oper) (ws:List It) (a:It) (c:Nat->gf->Hp->List (Bool×Rec)->Prop) (k:Nat):gf->Hp->List (Bool×Rec)->Prop:=match cls a.o with
  | 0=>match jW n all a.o with
    |none=>λρ h rs=>oP ((il a.o).f (.fn ρ []) h) λv=>nJ n a.o (λd h=>c k d h ((true,{it:=a,t:= .fn ρ [],v,made:=none,last:=late ws a})::rs)) v ρ h
    |some g=>λρ h rs=>oP (g.f (.fn ρ [])) λb=>oP (gV b ((il a.o).f (.fn ρ []) h)) λv=>
       nJ n a.o (λd h=>c k d h ((b,{it:=a,t:= .fn ρ [],v,made:=none,last:=late ws a})::rs)) v ρ h
  | 1=>match jW n all a.o with
    |none=>λρ h rs=>oP ((pD a.o).f (.fn ρ [])) λr=>nJ n a.o (λd h'=>c k d h' ((true,{it:=a,t:= .fn ρ [],v:=r.2 h.next,made:=some (h.next,r.1),last:=late ws a})::rs)) (r.2 h.next) ρ (h.new r.1)
    |some _=>λ_ _ _=>False
  | _ =>match jW n all a.o with
    |none=>λρ h rs=>vK k h rs (Qa C a.o (λv ρ h'=>h.next<=h'.next/\nJ n a.o (λρ h=>c (Nat.succ k) ρ h rs) v ρ h') ρ h)
    | some g=>match xe a.o with
      |true=>λρ h rs=>vK k h rs (oP (g.f (.fn ρ [])) λb=>oP (gC b (oB ((jy a.o).f (.fn ρ []) h) Ga)) λx=>xd C x h λv h'=>h.next<=h'.next/\nJ n a.o (λρ h=>c (Nat.succ k) ρ h rs) v ρ h')
      |false=>λ_ _ _=>False
noncomputable def Gg(C:fk) (n:Nat) (all:List Oper) (ws:List It) (K:gf->Hp->Prop) (l:List It):Nat->gf->Hp->List (Bool×Rec)->Prop:=List.rec (motive:=λ_=>Nat->gf->Hp->List (Bool×Rec)->Prop) (λk ρ h rs=>vK k h rs (K ρ h)) (λa _ b k=>itR C n all ws a b k) l
theorem TM(C:fk)(n:Nat)(all:List Oper)(ws:List It)(K:gf->Hp->Prop)(a:It)(l:List It)(k:Nat):Gg C n all ws K (a::l) k=itR C n all ws a (Gg C n all ws K l) k:=rfl
theorem GU{k:Nat}:∀{rs:List (Bool×Rec)} {K:Prop},vK k h rs K->Ah k h (Cl rs)=true/\K
 |[],K,hk=>⟨rfl,hk⟩
 | (b,r)::rs,K,hk=>by
   simp only[vK]at hk;have a:∀{K:Prop},vK k h rs K->(b=true->(Nat.blt r.last k ||yd h r)=true)->Ah k h (Cl ((b,r)::rs))=true/\K:=by
     intro K hk c;obtain⟨d,f⟩:=GU hk;refine⟨?_,f⟩
     cases b with
     |false=>exact d
     | true=>
       show Ah k h (r::Cl rs)=true;unfold Ah;rw[YY,c rfl,Yq];exact d
   cases c:Nat.blt r.last k with
   |true=>rw[c]at hk;grind
   | false=>
     rw[c]at hk;obtain⟨h0,hk⟩:=hk;refine a hk (λe=>?_);subst e;rw[c,Bool.false_or]
     grind[CC,yd,V.J5]
theorem zbH{b:Bool} {x:Option V} {v:V} (h:gV b x=some v):(b=true/\x=some v)\/(b=false/\v = .undef):=by
 cases b with
 |true=>exact .inl ⟨rfl,h⟩
 |false=>cases h;simp_all
theorem Ew{o:Oper} {d:DF} (b:w9 n o=some d) {K:gf->Hp->Prop} {v:V} (hk:nJ n o K v ρ h):∃a,d.f (.fn ρ []) v = .fn a []/\K a h:=by
 grind[JJ]
theorem TJ{m d a d':Nat} (b:m<=a) (c:d<=d') {all:List Oper} {ws l:List It} {k:Nat} {t:Tm} {h:Hp} {rs:List Rec} {r:Tm×Hp} (e:(vY n all ws l k).f (jE C m d) t h rs=some r) :
  (vY n all ws l k).f (jE C a d') t h rs=some r:=yi (wi b c) l k e
theorem BP{all:List Oper} {ws:List It} {K:gf->Hp->Prop}:∀(l:List It) (k:Nat) {ρ:gf} {h:Hp} {rs:List (Bool×Rec)},Gg C n all ws K l k ρ h rs->
  ∃m d i h',(vY n all ws l k).f (jE C m d) (.fn ρ []) h (Cl rs)=some (.fn i [],h')/\K i h'
 | [],k,ρ,h,rs,hk=>by
   obtain⟨u,w⟩:=GU hk
   exact⟨0,0,ρ,h,by simp_all[vY,bB],w⟩
 | a ::l,k,ρ,h,rs,hk=>by
   have e:∀{K:gf->Hp->Prop} {v:V} {ρ:gf} {h:Hp},nJ n a.o K v ρ h->∃d,w9 n a.o=some d:=by grind[JJ]
   have z:∀{d},w9 n a.o=some d->∀call t h rs,(vY n all ws (a::l) k).f call t h rs=(match cls a.o with
       |0=>Fh n all ws a d (vY n all ws l k)
       |1=>D2 n all ws a d (vY n all ws l k)
       |_=>AA n all k a d (vY n all ws l (Nat.succ k))).f call t h rs:=by
     intro d j call t h rs
     conv=>lhs;unfold vY
     rw[j];simp only;generalize cls a.o=c;rcases c with _|_|c <;> rfl
   have F:∀call t h,cls a.o≠0->cls a.o≠1->(GC a.o).f call t h=oB ((jy a.o).f t h) λr=>match r with
       | .val v h=>some (v,h)
       | .call f args=>call f args h:=by
     intro call t h h0 u;unfold GC;split
     ·omega
     ·omega
     ·rfl
   have G:∀t,jW n all a.o=none->oS n all a.o t=some true:=by grind[oS]
   have H:∀t g,jW n all a.o=some g->oS n all a.o t=g.f t:=by grind[oS]
   have step:∀{h:Hp} {ρ:gf} {rs:List (Bool×Rec)} {c:Nat},cls a.o=c+2->Ah k h (Cl rs)=true->oS n all a.o (.fn ρ [])=some true->
       Qa C a.o (λv ρ h'=>h.next<=h'.next/\nJ n a.o (λρ h=>Gg C n all ws K l (Nat.succ k) ρ h rs) v ρ h') ρ h->
       ∃m d i h',(vY n all ws (a::l) k).f (jE C m d) (.fn ρ []) h (Cl rs)=some (.fn i [],h')/\K i h':=by
     intro h ρ rs c hc q Q hk;have D:=λcall=>F call (.fn ρ []) h (by omega) (by omega);rcases Wx hk with⟨v,h',B,I,hk⟩|⟨f,args,B,v,h',⟨R,d0,M⟩,I,hk⟩
     ·simp only[B,oB]at D
      obtain⟨d,j⟩:=e hk;obtain⟨J,u,hk⟩:=Ew j hk;obtain⟨m,s,i,A,w,p⟩:=BP l _ hk;exact⟨m,s,i,A,by simp_all[AA,bB,oB,Ro],p⟩
     ·simp only[B,oB]at D
      obtain⟨d,j⟩:=e hk;obtain⟨J,u,hk⟩:=Ew j hk;obtain⟨m,s,i,A,w,p⟩:=BP l _ hk;refine⟨max R m,max d0 s,i,A,?_,p⟩;have L:=wi (C:=C) (wB2 R m) (wB2 d0 s) _ _ _ _ M;rw[z j,hc];simp only[AA,q,bB,Q,oB,D,L,u,Ro I]
      grind[TJ,Nat.le_max_right]
   have E:∀{h:Hp} {ρ:gf} {rs:List (Bool×Rec)} {c:Nat},cls a.o=c+2->Ah k h (Cl rs)=true->oS n all a.o (.fn ρ [])=some false->
       nJ n a.o (λρ h=>Gg C n all ws K l (Nat.succ k) ρ h rs) .undef ρ h->
       ∃m d i h',(vY n all ws (a::l) k).f (jE C m d) (.fn ρ []) h (Cl rs)=some (.fn i [],h')/\K i h':=by
     intro h ρ rs c hc q Q hk;obtain⟨d,j⟩:=e hk;obtain⟨J,u,hk⟩:=Ew j hk;obtain⟨m,s,i,A,w,p⟩:=BP l _ hk;exact⟨m,s,i,A,by simp_all[AA,bB,oB],p⟩
   rw[TM]at hk;unfold itR at hk;generalize hc:cls a.o=c at hk;rcases c with _|_|c
   ·simp only at hk
    cases hwc:jW n all a.o with
    | none=>
      rw[hwc]at hk;obtain⟨v,B,hk⟩:=j6.1 hk;obtain⟨d,j⟩:=e hk;obtain⟨J,u,hk⟩:=Ew j hk;obtain⟨m,s,i,h',w,p⟩:=BP l k hk
      exact⟨m,s,i,h',by rw[z j,hc];simp only[Fh,G _ hwc,B,oB,u];exact w,p⟩
    | some g=>
      rw[hwc]at hk;obtain⟨b,N,hk⟩:=j6.1 hk;obtain⟨v,B,hk⟩:=j6.1 hk;obtain⟨d,j⟩:=e hk;obtain⟨J,u,hk⟩:=Ew j hk;obtain⟨m,s,i,h',w,p⟩:=BP l k hk;rcases zbH B with⟨O,P⟩|⟨O,T⟩
      ·subst O
       exact⟨m,s,i,h',by rw[z j,hc];simp only[Fh,H _ _ hwc,N,P,oB,u];exact w,p⟩
      ·subst O;subst T
       exact⟨m,s,i,h',by rw[z j,hc];simp only[Fh,H _ _ hwc,N,oB,u];exact w,p⟩
   ·simp only at hk
    cases hwc:jW n all a.o with
    | none=>
      rw[hwc]at hk;obtain⟨v,B,hk⟩:=j6.1 hk;obtain⟨d,j⟩:=e hk;obtain⟨J,u,hk⟩:=Ew j hk;obtain⟨m,s,i,h',w,p⟩:=BP l k hk
      exact⟨m,s,i,h',by rw[z j,hc];simp only[D2,G _ hwc,B,oB,u];exact w,p⟩
    |some g=>simp_all
   ·simp only at hk
    cases hwc:jW n all a.o with
    | none=>
      rw[hwc]at hk;obtain⟨q,hk⟩:=GU hk
      simp_all
    | some g=>
      rw[hwc]at hk;simp only at hk
      cases hi:xe a.o with
      |false=>simp_all
      | true=>
        rw[hi]at hk;obtain⟨q,hk⟩:=GU hk;obtain⟨b,N,hk⟩:=j6.1 hk;obtain⟨x,S,hk⟩:=j6.1 hk
        cases b with
        | true=>
          obtain⟨y,p,U⟩:=fh.1 (show oB _ _=_ from S);cases U
          exact step hc q (by simp_all) (by unfold Qa;rw[hi];exact ed p hk)
        | false=>
          cases S;exact E hc q (by simp_all) hk.2
noncomputable def wQ(all:List Oper):Bool:=Nt (items all 0 []) (gK (items all 0 []))&&uc (items all 0 []) (gK (items all 0 [])) (order (items all 0 []) (gK (items all 0 [])) (gK (items all 0 [])) 0) 0 0
noncomputable def Ta(C:fk) (n:Nat) (all:List Oper) (K:gf->Hp->Prop) (ρ:gf) (h:Hp):Prop:=Gg C n all (gK (items all 0 [])) K (order (items all 0 []) (gK (items all 0 [])) (gK (items all 0 [])) 0) 0 ρ h []
theorem Wp.draw{id:Nat} {ops:Array Oper} (a:wQ ops.toList=true) (b:Ta C n ops.toList (λρ h=>Q .normal ρ h) ρ h):Wp C n (.region id ops true) Q ρ h:=by
 obtain⟨m,d,c,h',f,g⟩:=BP _ _ b;have e:Cl []=[]:=rfl;rw[e]at f;refine⟨m,d,.normal,c,h',?_,g⟩
 simp_all[wQ,hZ,Kg,oB]
noncomputable def vJ(C:fk) (n:Nat) (c:Code):(X->gf->Hp->Prop)->gf->Hp->Prop:=
 Code.rec (motive:=λ_=>(X->gf->Hp->Prop)->gf->Hp->Prop)
  (λQ=>Q .normal)
  (fun _ ops d Q=>match d with
   |false=>yf C n ops.toList (λρ h=>Q .normal ρ h) ops.toList
   | true=>match wQ ops.toList with
     |true=>Ta C n ops.toList (λρ h=>Q .normal ρ h)
     |false=>λ_ _=>False)
  (λ_ b a _ Q=>a (andThen (Wp C n b Q) Q))
  (λc _ _ a e Q ρ h=>oP ((rr c).f (.fn ρ []) h) λv=>bP v (a Q ρ h) (e Q ρ h))
  (λid _ g Q=>g (yp id Q))
  (λc _ Q=>Wp C n (.loop c) Q)
  (λ_ _ _ _ _ _ _ _ _=>False)
  (λid Q=>Q (.exit id))
  (λ_ _ _ _ _=>False)
  (λ_ _ _ _=>False)
  (λ_ _ _ _=>False)
  (λQ=>Q .ret)
  (λ_ _ _ _=>False) c
theorem Wp.code:∀(c:Code) {Q:X->gf->Hp->Prop} {ρ:gf} {h:Hp},vJ C n c Q ρ h->Wp C n c Q ρ h
 | .skip,_,_,_,hk=> .skip hk
 | .region _ ops false,_,_,_,hk=> .region hk
 | .region _ ops true,Q,ρ,h,hk=>by
   have d:(match wQ ops.toList with
       |true=>Ta C n ops.toList (λρ h=>Q .normal ρ h)
       |false=>λ_ _=>False) ρ h:=hk
   cases hd:wQ ops.toList with
   |true=>simp_all[draw]
   |false=>simp_all
 | .seq a _,_,_,_,hk=> .seq (Wp.code a hk)
 | .cond c a b,_,_,_,hk=>by
   obtain⟨v,e,hk⟩:=j6.1 hk;refine .cond (ed e ?_);unfold bP at hk⊢;split at hk
   ·rename_i x
    cases x with
    |true=>exact Wp.code a hk
    |false=>exact Wp.code b hk
   ·exact hk.elim
 | .block id c,_,_,_,hk=> .block (Wp.code c hk)
 | .loop c,_,_,_,hk=>hk
 | .exit id,_,_,_,hk=> .exit hk
 | .ret,_,_,_,hk=> .ret hk
 | .rangeFunc ..,_,_,_,hk=>hk.elim
 | .scope _,_,_,_,hk=>hk.elim
 | .label _,_,_,_,hk=>hk.elim
 | .goto _,_,_,_,hk=>hk.elim
 | .refuse _,_,_,_,hk=>hk.elim
def Yu(l:List ResultVar)(Q:V->Hp->Prop)(ρ:gf)(h:Hp):Prop:=oP (yT (.fn ρ []) h l) λvs=>Q (yg vs) h
def KM(l:List ResultVar) (Q:V->Hp->Prop):X->gf->Hp->Prop
 | .exit _,_,_=>False
 |_,ρ,h=>Yu l Q ρ h
def Mm(args:List V):gf:=λi=>(args[i]?).getD .undef
theorem cP.func(hs:C.start=fV) {f:Nat} {fn:Func} {c:Code} {args:List V} (j:P0.funcs[f]? =some fn) (k:fn.body=some c) (hk:C.K f args h=none) (e:args.length<=fn.ntmps) {Q:V->Hp->Prop}
  (l:Wp C fn.ntmps c (KM fn.results.toList Q) (Mm args) h):cP C f args h Q:=by
 obtain ⟨m,d,x,n,h',o,g⟩:=l;have a:Yu fn.results.toList Q n h'->(∀id,x≠ .exit id)->cP C f args h Q:=by
  intro p r;obtain⟨vs,s,q⟩:=j6.1 p;refine⟨_,_,⟨m,d+1,?_⟩,q⟩;show(Cv C f).f (jE C m d) m args h=_;unfold Cv;rw[j];simp only[k,hk,Xi,hs];have b:Nat.ble args.length fn.ntmps=true:=Ro e;have i:fV args = .fn (Mm args) []:=rfl;rw[i,b,o]
  cases x with
  |normal=>simp_all[bB,oB,Tm.ds,L9]
  |ret=>simp_all[bB,oB,Tm.ds,L9]
  |exit id=>simp_all
 cases x with
 |normal=>exact a g (by simp_all)
 |ret=>exact a g (by simp_all)
 |exit id=>exact g.elim
theorem cP.zbU(hs:C.start=fV) {f:Nat} {fn:Func} {c:Code} {args:List V} {k:Nat} {rs:List ResultVar} (b:P0.funcs[f]? =some fn) (d:fn.body=some c) (e:fn.ntmps=k) (g:fn.results.toList=rs)
  (hk:C.K f args h=none) (a:args.length<=k) {Q:V->Hp->Prop} (i:Wp C k c (KM rs Q) (Mm args) h):cP C f args h Q:=by
 grind[cP.func]
theorem cP.known{f:Nat} {fn:Func} {c:Code} {args:List V} {v:V} (a:P0.funcs[f]? =some fn) (b:fn.body=some c) (hk:C.K f args h=some v) (d:Oy args=true) (e:v.flat=true) {Q:V->Hp->Prop} (hq:Q v h):cP C f args h Q:=by
 refine⟨v,h,⟨0,1,?_⟩,hq⟩;show(Cv C f).f _ _ args h=_
 simp_all[Cv,Xi,Bool.and_self,bB]
theorem cP.mono{f:Nat} {args:List V} {Q a:V->Hp->Prop} (hc:cP C f args h Q) (hq:∀v h,Q v h->a v h):cP C f args h a:=by
 obtain⟨v,h',b,c⟩:=hc;exact⟨v,h',b,hq _ _ c⟩
end
