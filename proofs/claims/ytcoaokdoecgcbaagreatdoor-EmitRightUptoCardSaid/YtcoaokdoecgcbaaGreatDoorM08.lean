/- Parts. -/
import Derived.Test.YtcoaokdoecgcbaaGreatDoorM07
set_option maxHeartbeats 4000000
namespace Go.Proofs.YtcoaokdoecgcbaaGreatDoor.Hx
abbrev gg:=Nat->V
def Ev(C:fj)(f:Nat)(args:List V)(h:Hp)(v:V)(h':Hp):Prop:=∃m d,j9 C m d f args h=some (v,h')
inductive Wp (C:fj) (n:Nat) (c:Code) (Q:X->gg->Hp->Prop) (ρ:gg) (h:Hp):Prop
 |mk (b:∃m d x a h',(ig n c).f (j9 C m d) m (.fn ρ []) h=some (x,.fn a [],h')/\Q x a h')
def oP{α:Type}(x:Option α)(k:α->Prop):Prop:=Option.rec (motive:=λ_=>Prop) False k x
theorem zbJ{α:Type}(a:α)(k:α->Prop):oP (some a) k=k a:=rfl
theorem kK{α:Type} {x:Option α} {k:α->Prop}:oP x k↔∃a,x=some a/\k a:=by
 cases x with
 |none=>grind[oP]
 |some a=>exact⟨λh=>⟨a,rfl,h⟩,λ⟨_,h,h'⟩=>by grind[oP]⟩
theorem ec{α:Type}{x:Option α}{k:α->Prop}{a:α}(h:x=some a)(h':k a):oP x k:=by subst h;exact h'
def cP(C:fj)(f:Nat)(args:List V)(h:Hp)(k:V->Hp->Prop):Prop:=∃v h',Ev C f args h v h'/\k v h'
def bP(v:V) (a b:Prop):Prop:=match v with
 | .bool x=>Bool.rec (motive:=λ_=>Prop) b a x
 |_=>False
theorem lP(x:Bool)(a b:Prop):bP (.bool x) a b=if x=true then a else b:=by cases x <;> rfl
section
variable{C:fj}{n:Nat}{Q:X->gg->Hp->Prop}{ρ:gg}{h:Hp}
theorem Wp.mono{c:Code} {a:X->gg->Hp->Prop} (b:Wp C n c Q ρ h) (hq:∀x ρ h,Q x ρ h->a x ρ h):Wp C n c a ρ h:=by
 obtain⟨m,d,x,e,h',f,g⟩:=b;exact⟨m,d,x,e,h',f,by simp_all⟩
theorem Wp.skip(hq:Q .normal ρ h):Wp C n .skip Q ρ h:=⟨0,0,.normal,ρ,h,rfl,hq⟩
theorem Wp.ret(hq:Q .ret ρ h):Wp C n .ret Q ρ h:=⟨0,0,.ret,ρ,h,rfl,hq⟩
theorem Wp.exit{id:Nat}(hq:Q (.exit id) ρ h):Wp C n (.exit id) Q ρ h:=⟨0,0,.exit id,ρ,h,rfl,hq⟩
def andThen(k:gg->Hp->Prop) (Q:X->gg->Hp->Prop):X->gg->Hp->Prop
 | .normal,ρ,h=>k ρ h
 |x,ρ,h=>Q x ρ h
theorem Aq{m d a b:Nat} (e:m<=a) (hd:d<=b) {c:Code} {t:Tm} {h:Hp} {r:X×Tm×Hp} (hv:(ig n c).f (j9 C m d) m t h=some r):(ig n c).f (j9 C a b) a t h=some r:=
 mr (wm e hd) e c hv
theorem Wp.seq{a b:Code} (i:Wp C n a (andThen (Wp C n b Q) Q) ρ h):Wp C n (.seq a b) Q ρ h:=by
 obtain⟨m,d,x,g,h',p,c⟩:=i
 cases x with
 | normal=>
   obtain⟨j,k,l,e,f,q,o⟩:=c;refine⟨max m j,max d k,l,e,f,?_,o⟩
   grind[ig,Aq,wBy,EG,Nat.le_max_right]
 |exit id=>exact⟨m,d,.exit id,g,h',by grind[ig,EG],c⟩
 |ret=>exact⟨m,d,.ret,g,h',by grind[ig,EG],c⟩
theorem Wp.cond{e:Operand} {a b:Code} (c:oP ((rM e).f (.fn ρ []) h) λv=>bP v (Wp C n a Q ρ h) (Wp C n b Q ρ h)):Wp C n (.cond e a b) Q ρ h:=by
 obtain⟨v,hv,c⟩:=kK.1 c;unfold bP at c;split at c
 ·rename_i x
  cases x with
  | true=>
    obtain⟨m,d,x,g,h',j,i⟩:=c
    exact⟨m,d,x,g,h',by grind[ig,fk],i⟩
  | false=>
    obtain⟨m,d,x,g,h',j,i⟩:=c;exact⟨m,d,x,g,h',by grind[ig,fk],i⟩
 simp_all
def oI(id:Nat) (Q:X->gg->Hp->Prop):X->gg->Hp->Prop
 | .exit i,ρ,h=>Bool.rec (motive:=λ_=>Prop) (Q (.exit i) ρ h) (Q .normal ρ h) (Nat.beq i id)
 |x,ρ,h=>Q x ρ h
theorem Wp.block{id:Nat} {c:Code} (e:Wp C n c (oI id Q) ρ h):Wp C n (.block id c) Q ρ h:=by
 obtain⟨m,d,x,b,h',f,a⟩:=e
 cases x with
 |normal=>exact⟨m,d,.normal,b,h',by grind[ig,Lv],a⟩
 |ret=>exact⟨m,d,.ret,b,h',by grind[ig,Lv],a⟩
 | exit i=>
   simp only[oI]at a
   cases hb:Nat.beq i id with
   |true=>rw[hb]at a;exact⟨m,d,.normal,b,h',by simp_all[ig,Lv],a⟩
   |false=>rw[hb]at a;exact⟨m,d,.exit i,b,h',by simp_all[ig,Lv],a⟩
theorem Wp.loop{c:Code} (g:yo n c=none) (w:Wp C n c (andThen (Wp C n (.loop c) Q) Q) ρ h):Wp C n (.loop c) Q ρ h:=by
 obtain⟨m,d,x,u,h',e,i⟩:=w
 cases x with
 | normal=>
   obtain⟨a,b,l,o,p,v,y⟩:=i;refine⟨max m a+1,max d b,l,o,p,?_,y⟩;have e1:=Aq (C:=C) (n:=n) (KK (wBy m a) (RM _)) (wBy d b) e;simp only[ig,g]at v⊢;show EG _ _=_;simp only[e1,EG]
   have q:∀(k k':Nat) (t:Tm) (h:Hp) (r:X×Tm×Hp),k<=k'->Gu (λt h=>(ig n c).f (j9 C a b) a t h) k t h=some r->
       Gu (λt h=>(ig n c).f (j9 C (max m a+1) (max d b)) (max m a+1) t h) k' t h=some r:=by
     intro k
     induction k with
     |zero=>intro k' t h r _ hv;cases hv
     | succ k z=>
       intro k' t h r D hv;obtain⟨k',rfl⟩:∃j,k' = j+1:=⟨k'-1,by omega⟩
       have s:EG ((ig n c).f (j9 C a b) a t h) (Gu (λt h=>(ig n c).f (j9 C a b) a t h) k)=some r:=hv;show EG ((ig n c).f (j9 C (max m a+1) (max d b)) (max m a+1) t h) (Gu (λt h=>(ig n c).f (j9 C (max m a+1) (max d b)) (max m a+1) t h) k')=some r
       have hl:∀{r},(ig n c).f (j9 C a b) a t h=some r->(ig n c).f (j9 C (max m a+1) (max d b)) (max m a+1) t h=some r:=
         λA=>Aq (by omega) (Nat.le_max_right d b) A
       rcases J6 s with⟨B,e,e1,e2⟩|⟨e1,e2⟩
       ·rw[hl e1];exact z k' B e r (by omega) e2
       ·rw[hl e1]
        obtain⟨l,t',h'⟩:=r
        cases l with
        |normal=>simp_all
        |exit id=>rfl
        |ret=>rfl
   exact q a (max m a) _ _ _ (Nat.le_max_right m a) v
 | exit id=>
   refine⟨m+1,d,.exit id,u,h',?_,i⟩;have e1:=Aq (C:=C) (n:=n) (RM m) (jv d) e;simp only[ig,g];show EG _ _=_
   grind[EG]
 | ret=>
   refine⟨m+1,d,.ret,u,h',?_,i⟩;have e1:=Aq (C:=C) (n:=n) (RM m) (jv d) e;simp only[ig,g];show EG _ _=_
   grind[EG]
theorem Wp.fill{c:Code} {F:mG} (b:yo n c=some F) {x:X} {a:gg} {h':Hp} (hv:NA F (.fn ρ []) h=some (x,.fn a [],h')) (hq:Q x a h'):Wp C n (.loop c) Q ρ h:=
 ⟨0,0,x,a,h',by simp only[ig,b];exact hv,hq⟩
theorem Wp.Te{c:Code} (I:Nat->gg->Hp->Prop) (b:∀k ρ h,I k ρ h->Wp C n c (andThen (λa h'=>∃k',k' < k/\I k' a h') Q) ρ h) {k:Nat} (h0:I k ρ h) (d:yo n c=none:=by rfl):Wp C n (.loop c) Q ρ h:=by
 induction k using Nat.strongRecOn generalizing ρ h with
 | _ k e=>
   refine .loop d ((b k ρ h h0).mono λx a h' hq=>?_)
   cases x with
   |normal=>obtain⟨k',f,hi⟩:=hq;exact e k' f hi
   |exit id=>exact hq
   |ret=>exact hq
def pj(n:Nat) (o:Oper) (K:gg->Hp->Prop):V->gg->Hp->Prop:=match o.dst with
 |none=>λ_ ρ h=>K ρ h
 | some d=>match Nat.blt d n with
   |true=>λv ρ h=>K (fc ρ d v) h
   |false=>λ_ _ _=>False
def valOf:R->Option (V×Hp)
 | .val v h=>some (v,h)
 | .call _ _=>none
def zS:R->Option (Nat×List V)
 | .call f args=>some (f,args)
 | .val _ _=>none
def yu(o:Oper):Bool:=match o.op with
 | .call c=>match c.callee with
   | .value _| .invoke _ _=>true
   | .builtin _=>false
 |_=>false
def TZ(C:fj) (o:Oper) (K:V->gg->Hp->Prop):gg->Hp->Prop:=match yu o with
 |true=>λρ h=>oP (oB ((jh o).f (.fn ρ []) h) zS) λx=>cP C x.1 x.2 h λv h'=>K v ρ h'
 |false=>λρ h=>oP (oB ((jh o).f (.fn ρ []) h) valOf) λx=>K x.1 ρ x.2
def RQ(C:fj) (o:Oper) (K:V->gg->Hp->Prop):gg->Hp->Prop:=match cls o with
 |0=>λρ h=>oP ((iA o).f (.fn ρ []) h) λv=>K v ρ h
 |1=>λρ h=>oP ((p9 o).f (.fn ρ [])) λr=>K (r.2 h.next) ρ (h.new r.1)
 |_=>TZ C o K
noncomputable def gV(b:Bool)(x:Option V):Option V:=Bool.rec (motive:=λ_=>Option V) (some .undef) x b
noncomputable def gH(b:Bool)(h:Hp)(x:Option (V×Hp)):Option (V×Hp):=Bool.rec (motive:=λ_=>Option (V×Hp)) (some (.undef,h)) x b
noncomputable def gC(b:Bool)(x:Option (Nat×List V)):Option (Option (Nat×List V)):=Bool.rec (motive:=λ_=>Option (Option (Nat×List V))) (some none) (oB x λy=>some (some y)) b
def AS(C:fj) (x:Option (Nat×List V)) (h:Hp) (K:V->Hp->Prop):Prop:=match x with
 |none=>K .undef h
 |some y=>cP C y.1 y.2 h K
def gdR(C:fj) (o:Oper) (b:Bool) (K:V->gg->Hp->Prop) (ρ:gg) (h:Hp):Prop:=match cls o with
 |0=>oP (gV b ((iA o).f (.fn ρ []) h)) λv=>K v ρ h
 |1=>oP (gH b h (oB ((p9 o).f (.fn ρ [])) λr=>some (r.2 h.next,h.new r.1))) λx=>K x.1 ρ x.2
 | _=>match yu o with
   |true=>oP (gC b (oB ((jh o).f (.fn ρ []) h) zS)) λx=>AS C x h λv h'=>K v ρ h'
   |false=>oP (gH b h (oB ((jh o).f (.fn ρ []) h) valOf)) λx=>K x.1 ρ x.2
def zZ(C:fj) (n:Nat) (all:List Oper) (o:Oper) (K:gg->Hp->Prop):gg->Hp->Prop:=match yv o with
 |some _=>λ_ _=>False
 | none=>match jY n all o with
   |none=>RQ C o (pj n o K)
   |some g=>λρ h=>oP (g.f (.fn ρ [])) λb=>gdR C o b (pj n o K) ρ h
noncomputable def zu(C:fj) (n:Nat) (all:List Oper) (K:gg->Hp->Prop) (os:List Oper):gg->Hp->Prop:=List.rec (motive:=λ_=>gg->Hp->Prop) K (λo _ a=>zZ C n all o a) os
theorem Xp(C:fj)(n:Nat)(all:List Oper)(K:gg->Hp->Prop)(o:Oper)(os:List Oper):zu C n all K (o::os)=zZ C n all o (zu C n all K os):=rfl
theorem MN{o:Oper} {K:gg->Hp->Prop} {v:V} (a:pj n o K v ρ h):∃d,tP n o=some d/\∃b,d.f (.fn ρ []) v = .fn b []/\K b h:=by
 unfold pj at a;unfold tP
 cases ho:o.dst with
 |none=>simp_all
 | some d=>
   rw[ho]at a;simp only at a⊢
   cases hb:Nat.blt d n with
   |true=>rw[hb]at a;exact⟨_,rfl,_,rfl,a⟩
   |false=>simp_all
def zdM(C:fj)(o:Oper)(K:V->gg->Hp->Prop)(ρ:gg)(h:Hp):Prop:=∃m d v h',(B7 o).f (j9 C m d) (.fn ρ []) h=some (v,h')/\K v ρ h'
theorem ZN{o:Oper} {K:V->gg->Hp->Prop} (c:TZ C o K ρ h):(∃v h',(jh o).f (.fn ρ []) h=some (.val v h')/\K v ρ h')\/∃f args,(jh o).f (.fn ρ []) h=some (.call f args)/\cP C f args h λv h'=>K v ρ h':=by
 unfold TZ at c;cases hb:yu o
 all_goals rw[hb]at c
 rotate_left
 ·obtain⟨x,a,d⟩:=kK.1 c;rw[fk]at a;obtain⟨r,e,b⟩:=a
  cases r with
  |val v h'=>cases b
  |call f args=>cases b;grind
 ·obtain⟨x,a,d⟩:=kK.1 c;rw[fk]at a;obtain⟨r,e,b⟩:=a
  cases r with
  |val v h'=>cases b;grind
  |call f args=>cases b
theorem N5{o:Oper} {K:V->gg->Hp->Prop} (b:RQ C o K ρ h):zdM C o K ρ h:=by
 by_cases hc0:cls o=0
 ·have a:oP ((iA o).f (.fn ρ []) h) (λv=>K v ρ h):=by unfold RQ at b;rw[hc0]at b;exact b
  obtain⟨v,g,e⟩:=kK.1 a;exact⟨0,0,v,h,by simp_all[B7,oB],e⟩
 ·by_cases hc1:cls o=1
  ·have a:oP ((p9 o).f (.fn ρ [])) (λr=>K (r.2 h.next) ρ (h.new r.1)):=by unfold RQ at b;rw[hc1]at b;exact b
   obtain⟨r,g,e⟩:=kK.1 a;exact⟨0,0,_,_,by simp_all[B7,oB],e⟩
  ·have a:TZ C o K ρ h:=by
    unfold RQ at b;generalize cls o=c at b hc0 hc1;rcases c with _|_|c
    ·omega
    ·omega
    ·exact b
   have i:∀call,(B7 o).f call (.fn ρ []) h=oB ((jh o).f (.fn ρ []) h) λr=>match r with
     | .val v h=>some (v,h)
     | .call f args=>call f args h:=by
    intro call;unfold B7;split
    ·omega
    ·omega
    ·rfl
   rcases ZN a with⟨v,h',g,e⟩|⟨f,args,g,v,h',⟨m,d,k⟩,j⟩
   ·exact⟨0,0,v,h',by simp_all[oB],e⟩
   ·exact⟨m,d,v,h',by simp_all[oB],j⟩
theorem zcZ{o:Oper} {b:Bool} {K:V->gg->Hp->Prop} (d:gdR C o b K ρ h):(b=true/\zdM C o K ρ h)\/(b=false/\K .undef ρ h):=by
 unfold gdR at d;by_cases hc0:cls o=0
 ·rw[hc0]at d;obtain⟨v,a,g⟩:=kK.1 d
  cases b with
  |true=>exact .inl ⟨rfl,N5 (by unfold RQ;rw[hc0];exact ec a g)⟩
  |false=>cases a;simp_all
 ·by_cases hc1:cls o=1
  ·rw[hc1]at d;obtain⟨v,a,g⟩:=kK.1 d
   cases b with
   | true=>
     obtain⟨r,j,i⟩:=fk.1 (show oB _ _=_ from a);cases i
     exact .inl ⟨rfl,by grind[N5,RQ,ec]⟩
   |false=>cases a;simp_all
  ·have k:∀K,TZ C o K ρ h->RQ C o K ρ h:=by
    intro K d;unfold RQ;generalize cls o=c at hc0 hc1;rcases c with _|_|c
    ·omega
    ·omega
    ·exact d
   have e:(match yu o with
     |true=>oP (gC b (oB ((jh o).f (.fn ρ []) h) zS)) λx=>AS C x h λv h'=>K v ρ h'
     |false=>oP (gH b h (oB ((jh o).f (.fn ρ []) h) valOf)) λx=>K x.1 ρ x.2):=by
    generalize cls o=c at d hc0 hc1;rcases c with _|_|c
    ·omega
    ·omega
    ·exact d
   cases hi:yu o with
   | true=>
     rw[hi]at e;obtain⟨x,a,g⟩:=kK.1 e
     cases b with
     | true=>
       obtain⟨y,j,i⟩:=fk.1 (show oB _ _=_ from a);cases i
       exact .inl ⟨rfl,N5 (k _ (by unfold TZ;rw[hi];exact ec j g))⟩
     |false=>cases a;exact .inr ⟨rfl,g⟩
   | false=>
     rw[hi]at e;obtain⟨x,a,g⟩:=kK.1 e
     cases b with
     |true=>exact .inl ⟨rfl,N5 (k _ (by unfold TZ;rw[hi];exact ec a g))⟩
     |false=>cases a;simp_all
theorem Rt{m d a b:Nat} (c:m<=a) (hd:d<=b) {all os:List Oper} {t:Tm} {h:Hp} {r:Tm×Hp} (hv:(lL n all os).f (j9 C m d) t h=some r):(lL n all os).f (j9 C a b) t h=some r:=
 DU (wm c hd) os hv
theorem RB{all:List Oper} {K:gg->Hp->Prop}:∀(os:List Oper) {ρ:gg} {h:Hp},zu C n all K os ρ h->∃m d c h',(lL n all os).f (j9 C m d) (.fn ρ []) h=some (.fn c [],h')/\K c h'
 |[],ρ,h,a=>⟨0,0,ρ,h,rfl,a⟩
 | o ::os,ρ,h,a=>by
   rw[Xp]at a;unfold zZ at a
   cases hq:yv o with
   |some q=>simp_all
   | none=>
     rw[hq]at a;simp only at a
     have p:∀{ρ h},zdM C o (pj n o (zu C n all K os)) ρ h->∃d,tP n o=some d/\∃m e v l,(B7 o).f (j9 C m e) (.fn ρ []) h=some (v,l)/\∃i,d.f (.fn ρ []) v = .fn i []/\
        ∃c h',(lL n all os).f (j9 C m e) (.fn i []) l=some (.fn c [],h')/\K c h':=by
       intro ρ h a;obtain⟨m,e,v,l,u,A⟩:=a;obtain⟨d,s,i,t,w⟩:=MN A;obtain⟨x,y,c,h',z,j⟩:=RB os w;exact⟨d,s,max m x,max e y,v,l,J5 (by grind[wm,wBy]) u,i,t,c,h',by grind[Rt,Nat.le_max_right],j⟩
     cases hw:jY n all o with
     | none=>
       rw[hw]at a;obtain⟨d,s,m,e,v,l,u,i,t,c,h',z,j⟩:=p (N5 a);refine⟨m,e,c,h',?_,j⟩
       simp_all[lL,Gj,oB]
     | some g=>
       rw[hw]at a;obtain⟨b,B,a⟩:=kK.1 a;rcases zcZ a with⟨r,k⟩|⟨r,k⟩ <;> subst r
       ·obtain⟨d,s,m,e,v,l,u,i,t,c,h',z,j⟩:=p k
        refine⟨m,e,c,h',?_,j⟩
        simp_all[lL,Gj,oB]
       ·obtain⟨d,s,i,t,w⟩:=MN k
        obtain⟨x,y,c,h',z,j⟩:=RB os w;refine⟨x,y,c,h',?_,j⟩
        simp_all[lL,Gj,oB]
theorem Wp.region{id:Nat} {ops:Array Oper} (a:zu C n ops.toList (λρ h=>Q .normal ρ h) ops.toList ρ h):Wp C n (.region id ops false) Q ρ h:=by
 obtain⟨m,d,b,h',e,c⟩:=RB _ a;exact⟨m,d,.normal,b,h',by simp_all[ig,oB],c⟩
end
section
variable{C:fj}{n:Nat}{Q:X->gg->Hp->Prop}{ρ:gg}{h:Hp}
def Ej(h:Hp) (r:Rec):Prop:=match r.made with
 |none=>(iA r.it.o).f r.t h=some r.v
 |some (l,ob)=>h.get l=some ob/\O.beq ob ob=true
def vW(k:Nat) (h:Hp):List (Bool×Rec)->Prop->Prop
 |[],K=>K
 |r::rs,K=>Bool.rec (Bool.rec True (Ej h r.2) r.1/\vW k h rs K) (vW k h rs K) (Nat.blt r.2.last k)
def DO(rs:List (Bool×Rec)):List Rec:=(rs.filter (·.1)).map (·.2)
def itR(C:fj) (n:Nat) (all:List Oper) (ws:List It) (a:It) (c:Nat->gg->Hp->List (Bool×Rec)->Prop) (k:Nat):gg->Hp->List (Bool×Rec)->Prop:=match cls a.o with
  | 0=>match jY n all a.o with
    |none=>λρ h rs=>oP ((iA a.o).f (.fn ρ []) h) λv=>pj n a.o (λd h=>c k d h ((true,{it:=a,t:= .fn ρ [],v,made:=none,last:=late ws a})::rs)) v ρ h
    |some g=>λρ h rs=>oP (g.f (.fn ρ [])) λb=>oP (gV b ((iA a.o).f (.fn ρ []) h)) λv=>
       pj n a.o (λd h=>c k d h ((b,{it:=a,t:= .fn ρ [],v,made:=none,last:=late ws a})::rs)) v ρ h
  | 1=>match jY n all a.o with
    |none=>λρ h rs=>oP ((p9 a.o).f (.fn ρ [])) λr=>pj n a.o (λd h'=>c k d h' ((true,{it:=a,t:= .fn ρ [],v:=r.2 h.next,made:=some (h.next,r.1),last:=late ws a})::rs)) (r.2 h.next) ρ (h.new r.1)
    |some _=>λ_ _ _=>False
  | _ =>match jY n all a.o with
    |none=>λρ h rs=>vW k h rs (TZ C a.o (λv ρ h'=>h.next<=h'.next/\pj n a.o (λρ h=>c (Nat.succ k) ρ h rs) v ρ h') ρ h)
    | some g=>match yu a.o with
      |true=>λρ h rs=>vW k h rs (oP (g.f (.fn ρ [])) λb=>oP (gC b (oB ((jh a.o).f (.fn ρ []) h) zS)) λx=>AS C x h λv h'=>h.next<=h'.next/\pj n a.o (λρ h=>c (Nat.succ k) ρ h rs) v ρ h')
      |false=>λ_ _ _=>False
noncomputable def IC(C:fj) (n:Nat) (all:List Oper) (ws:List It) (K:gg->Hp->Prop) (l:List It):Nat->gg->Hp->List (Bool×Rec)->Prop:=List.rec (λk ρ h rs=>vW k h rs (K ρ h)) (λa _ b k=>itR C n all ws a b k) l
theorem WD(C:fj)(n:Nat)(all:List Oper)(ws:List It)(K:gg->Hp->Prop)(a:It)(l:List It)(k:Nat):IC C n all ws K (a::l) k=itR C n all ws a (IC C n all ws K l) k:=rfl
theorem KH{k:Nat}:∀{rs:List (Bool×Rec)} {K:Prop},vW k h rs K->Bs k h (DO rs)=true/\K
 |[],K,a=>⟨rfl,a⟩
 | (b,r)::rs,K,a=>by
   simp [vW]at a;have c:∀{K:Prop},vW k h rs K->(b=true->(Nat.blt r.last k ||zw h r)=true)->Bs k h (DO ((b,r)::rs))=true/\K:=by
     intro K a d
     let⟨f,g⟩:=KH a
     refine⟨?_,g⟩
     cases b with
     |false=>exact f
     | true=>
       show Bs k h (r::DO rs)=true;unfold Bs;rw[wBh,d rfl];exact f
   cases d:Nat.blt r.last k with
   |true=>rw[d]at a;grind
   | false=>
     rw[d]at a
     let⟨h0,a⟩:=a
     refine c a (λe=>?_);subst e;rw[d,Bool.false_or]
     grind[Ej,zw,V.BW]
theorem zfI{b:Bool} {x:Option V} {v:V} (h:gV b x=some v):(b=true/\x=some v)\/(b=false/\v = .undef):=by
 cases b with
 |true=>exact .inl ⟨rfl,h⟩
 |false=>cases h;simp_all
theorem He{o:Oper} {d:DF} (hd:tP n o=some d) {K:gg->Hp->Prop} {v:V} (b:pj n o K v ρ h):∃a,d.f (.fn ρ []) v = .fn a []/\K a h:=by
 grind[MN]
theorem Xg{m d a b:Nat} (c:m<=a) (hd:d<=b) {all:List Oper} {ws l:List It} {k:Nat} {t:Tm} {h:Hp} {rs:List Rec} {r:Tm×Hp} (hv:(wq n all ws l k).f (j9 C m d) t h rs=some r) :
  (wq n all ws l k).f (j9 C a b) t h rs=some r:=zG (wm c hd) l k hv
theorem Di{all:List Oper} {ws:List It} {K:gg->Hp->Prop}:∀l k {ρ:gg} {h:Hp} {rs:List (Bool×Rec)},IC C n all ws K l k ρ h rs->
  ∃m d j h',(wq n all ws l k).f (j9 C m d) (.fn ρ []) h (DO rs)=some (.fn j [],h')/\K j h'
 | [],k,ρ,h,rs,e=>by
   let⟨s,u⟩:=KH e
   exact⟨0,0,ρ,h,by simp_all[wq,bB],u⟩
 | a ::l,k,ρ,h,rs,e=>by
   have i:∀{K:gg->Hp->Prop} {v:V} {ρ:gg} {h:Hp},pj n a.o K v ρ h->∃d,tP n a.o=some d:=by grind[MN]
   have w:∀{d},tP n a.o=some d->∀call t h rs,(wq n all ws (a::l) k).f call t h rs=(match cls a.o with
       |0=>Ii n all ws a d (wq n all ws l k)
       |1=>GM n all ws a d (wq n all ws l k)
       |_=>BM n all k a d (wq n all ws l (Nat.succ k))).f call t h rs:=by
     intro d hd call t h rs
     conv=>lhs;unfold wq
     rw[hd];simp only;generalize cls a.o=c;rcases c with _|_|c <;> rfl
   have B:∀call t h,cls a.o≠0->cls a.o≠1->(B7 a.o).f call t h=oB ((jh a.o).f t h) λr=>match r with
       | .val v h=>some (v,h)
       | .call f args=>call f args h:=by
     intro call t h h0 s;unfold B7;split
     ·omega
     ·omega
     ·rfl
   have D:∀t,jY n all a.o=none->pQ n all a.o t=some true:=by grind[pQ]
   have E:∀t g,jY n all a.o=some g->pQ n all a.o t=g.f t:=by grind[pQ]
   have step:∀{h:Hp} {ρ:gg} {rs:List (Bool×Rec)} {c:Nat},cls a.o=c+2->Bs k h (DO rs)=true->pQ n all a.o (.fn ρ [])=some true->
       TZ C a.o (λv ρ h'=>h.next<=h'.next/\pj n a.o (λρ h=>IC C n all ws K l (Nat.succ k) ρ h rs) v ρ h') ρ h->
       ∃m d j h',(wq n all ws (a::l) k).f (j9 C m d) (.fn ρ []) h (DO rs)=some (.fn j [],h')/\K j h':=by
     intro h ρ rs c hc q J e;have z:=λcall=>B call (.fn ρ []) h (by omega) (by omega);rcases ZN e with⟨v,h',hv,F,e⟩|⟨f,args,hv,v,h',⟨m0,d0,H⟩,F,e⟩
     ·simp[ oB]at z
      let⟨d,hd⟩:=i e
      let⟨ρ1,s,e⟩:=He hd e
      let⟨m,dd,j,h'',u,p⟩:=Di l _ e
      exact⟨m,dd,j,h'',by simp_all[BM,bB,oB,X2],p⟩
     ·simp[hv,oB]at z
      let⟨d,hd⟩:=i e
      let⟨ρ1,s,e⟩:=He hd e
      let⟨m,dd,j,h'',u,p⟩:=Di l _ e
      refine⟨max m0 m,max d0 dd,j,h'',?_,p⟩;have G:=wm (wBy m0 m) (wBy d0 dd) _ _ _ _ H;rw[w hd,hc];simp[BM,q,bB,J,oB,z,G,s,X2 F]
      grind[Xg,Nat.le_max_right]
   have A:∀{h:Hp} {ρ:gg} {rs:List (Bool×Rec)} {c:Nat},cls a.o=c+2->Bs k h (DO rs)=true->pQ n all a.o (.fn ρ [])=some false->
       pj n a.o (λρ h=>IC C n all ws K l (Nat.succ k) ρ h rs) .undef ρ h->
       ∃m d j h',(wq n all ws (a::l) k).f (j9 C m d) (.fn ρ []) h (DO rs)=some (.fn j [],h')/\K j h':=by
     intro h ρ rs c hc q J e
     let⟨d,hd⟩:=i e
     let⟨ρ1,s,e⟩:=He hd e
     let⟨m,dd,j,h'',u,p⟩:=Di l _ e
     exact⟨m,dd,j,h'',by simp_all[BM,bB,oB],p⟩
   rw[WD]at e;unfold itR at e;generalize hc:cls a.o=c at e;rcases c with _|_|c
   ·simp only at e
    cases hwc:jY n all a.o with
    | none=>
      rw[hwc]at e
      let⟨v,hv,e⟩:=kK.1 e
      let⟨d,hd⟩:=i e
      let⟨ρ1,s,e⟩:=He hd e
      let⟨m,dd,j,h',u,p⟩:=Di l k e
      exact⟨m,dd,j,h',by rw[w hd,hc];simp[Ii,D _ hwc,hv,oB,s];exact u,p⟩
    | some g=>
      rw[hwc]at e
      let⟨b,hb,e⟩:=kK.1 e
      let⟨v,hv,e⟩:=kK.1 e
      let⟨d,hd⟩:=i e
      let⟨ρ1,s,e⟩:=He hd e
      let⟨m,dd,j,h',u,p⟩:=Di l k e
      rcases zfI hv with⟨e1,I⟩|⟨e1,e2⟩
      ·subst e1
       exact⟨m,dd,j,h',by rw[w hd,hc];simp[Ii,E _ _ hwc,hb,I,oB,s];exact u,p⟩
      ·subst e1;subst e2
       exact⟨m,dd,j,h',by rw[w hd,hc];simp[Ii,E _ _ hwc,hb,oB,s];exact u,p⟩
   ·simp only at e
    cases hwc:jY n all a.o with
    | none=>
      rw[hwc]at e
      let⟨v,hv,e⟩:=kK.1 e
      let⟨d,hd⟩:=i e
      let⟨ρ1,s,e⟩:=He hd e
      let⟨m,dd,j,h',u,p⟩:=Di l k e
      exact⟨m,dd,j,h',by rw[w hd,hc];simp[GM,D _ hwc,hv,oB,s];exact u,p⟩
    |some g=>simp_all
   ·simp only at e
    cases hwc:jY n all a.o with
    | none=>
      rw[hwc]at e
      let⟨q,e⟩:=KH e
      simp_all
    | some g=>
      rw[hwc]at e
      cases hi:yu a.o with
      |false=>simp_all
      | true=>
        rw[hi]at e
        let⟨q,e⟩:=KH e
        let⟨b,hb,e⟩:=kK.1 e
        let⟨x,hx,e⟩:=kK.1 e
        cases b with
        | true=>
          let⟨y,p,L⟩:=fk.1 (hx)
          cases L
          exact step hc q (by simp_all) (by unfold TZ;rw[hi];exact ec p e)
        | false=>
          cases hx;exact A hc q (by simp_all) e.2
noncomputable def yf(all:List Oper):Bool:=Rv (items all 0 []) (gY (items all 0 []))&&uk (items all 0 []) (gY (items all 0 [])) (order (items all 0 []) (gY (items all 0 [])) (gY (items all 0 [])) 0) 0 0
noncomputable def VG(C:fj) (n:Nat) (all:List Oper) (K:gg->Hp->Prop) (ρ:gg) (h:Hp):Prop:=IC C n all (gY (items all 0 [])) K (order (items all 0 []) (gY (items all 0 [])) (gY (items all 0 [])) 0) 0 ρ h []
theorem Wp.draw{id:Nat} {ops:Array Oper} (a:yf ops.toList=true) (b:VG C n ops.toList (λρ h=>Q .normal ρ h) ρ h):Wp C n (.region id ops true) Q ρ h:=by
 let⟨m,d,ρ',h',c,f⟩:=Di _ _ b
 have e:DO []=[]:=rfl;rw[e]at c;refine⟨m,d,.normal,ρ',h',?_,f⟩
 simp_all[yf,ig,M0,oB]
noncomputable def gJ(C:fj) (n:Nat) (c:Code):(X->gg->Hp->Prop)->gg->Hp->Prop:=
 Code.rec
  (λQ=>Q .normal)
  (fun _ ops d Q=>match d with
   |false=>zu C n ops.toList (λρ h=>Q .normal ρ h) ops.toList
   | true=>match yf ops.toList with
     |true=>VG C n ops.toList (λρ h=>Q .normal ρ h)
     |false=>λ_ _=>False)
  (λ_ b a _ Q=>a (andThen (Wp C n b Q) Q))
  (λc _ _ a e Q ρ h=>oP ((rM c).f (.fn ρ []) h) λv=>bP v (a Q ρ h) (e Q ρ h))
  (λid _ g Q=>g (oI id Q))
  (λc _ Q=>Wp C n (.loop c) Q)
  (λ_ _ _ _ _ _ _ _ _=>False)
  (λid Q=>Q (.exit id))
  (λ_ _ _ _ _=>False)
  (λ_ _ _ _=>False)
  (λ_ _ _ _=>False)
  (λQ=>Q .ret)
  (λ_ _ _ _=>False) c
theorem Wp.code:∀c {Q:X->gg->Hp->Prop} {ρ:gg} {h:Hp},gJ C n c Q ρ h->Wp C n c Q ρ h
 | .skip,_,_,_,hk=> .skip hk
 | .region _ ops false,_,_,_,hk=> .region hk
 | .region _ ops true,Q,ρ,h,hk=>by
   have d:(match yf ops.toList with
       |true=>VG C n ops.toList (λρ h=>Q .normal ρ h)
       |false=>λ_ _=>False) ρ h:=hk
   cases hd:yf ops.toList with
   |true=>simp_all[draw]
   |false=>simp_all
 | .seq a _,_,_,_,hk=> .seq (Wp.code a hk)
 | .cond c a b,_,_,_,hk=>by
   let⟨v,hv,hk⟩:=kK.1 hk
   refine .cond (ec hv ?_);unfold bP at hk⊢;split at hk
   ·rename_i x
    cases x with
    |true=>exact Wp.code a hk
    |false=>exact Wp.code b hk
   ·exact hk.elim
 | .block id c,_,_,_,hk=> .block (Wp.code c hk)
 | .loop c,_,_,_,hk=>hk
 | .exit id,_,_,_,hk=> .exit hk
 | .ret,_,_,_,hk=> .ret hk
 | .rangeFunc ..,_,_,_,hk=>hk.elim
 | .scope _,_,_,_,hk=>hk.elim
 | .label _,_,_,_,hk=>hk.elim
 | .goto _,_,_,_,hk=>hk.elim
 | .refuse _,_,_,_,hk=>hk.elim
def zaO(l:List ResultVar)(Q:V->Hp->Prop)(ρ:gg)(h:Hp):Prop:=oP (z0 (.fn ρ []) h l) λvs=>Q (zy vs) h
def zK(l:List ResultVar) (Q:V->Hp->Prop):X->gg->Hp->Prop
 | .exit _,_,_=>False
 |_,ρ,h=>zaO l Q ρ h
def Il(args:List V):gg:=λi=>(args[i]?).getD .undef
theorem cP.func(hs:C.start=fy) {f:Nat} {fn:Func} {c:Code} {args:List V} (i:P0.funcs[f]? =some fn) (j:fn.body=some c) (k:C.K f args h=none) (e:args.length<=fn.ntmps) {Q:V->Hp->Prop}
  (l:Wp C fn.ntmps c (zK fn.results.toList Q) (Il args) h):cP C f args h Q:=by
 let⟨m,d,x,ρ',h',q,g⟩:=l
 have a:zaO fn.results.toList Q ρ' h'->(∀id,x≠ .exit id)->cP C f args h Q:=by
  intro n r
  let⟨vs,s,o⟩:=kK.1 n
  refine⟨_,_,⟨m,d+1,?_⟩,o⟩;show(Ez C f).f (j9 C m d) m args h=_;unfold Ez;rw[i];simp[j,k,orB];have b:=X2 e;have p:fy args = .fn (Il args) []:=rfl;rw[ b]
  cases x with
  |normal=>simp_all[bB,oB,Tm.ds,OO]
  |ret=>simp_all[bB,oB,Tm.ds,OO]
  |exit id=>simp_all
 cases x with
 |normal=>exact a g (by simp_all)
 |ret=>exact a g (by simp_all)
 |exit id=>exact g.elim
theorem cP.Sh(hs:C.start=fy) {f:Nat} {fn:Func} {c:Code} {args:List V} {k:Nat} {rs:List ResultVar} (b:P0.funcs[f]? =some fn) (d:fn.body=some c) (e:fn.ntmps=k) (g:fn.results.toList=rs)
  (i:C.K f args h=none) (a:args.length<=k) {Q:V->Hp->Prop} (j:Wp C k c (zK rs Q) (Il args) h):cP C f args h Q:=by
 grind[cP.func]
theorem cP.known{f:Nat} {fn:Func} {c:Code} {args:List V} {v:V} (a:P0.funcs[f]? =some fn) (b:fn.body=some c) (d:C.K f args h=some v) (e:Su args=true) (g:v.flat=true) {Q:V->Hp->Prop} (hq:Q v h):cP C f args h Q:=by
 refine⟨v,h,⟨0,1,?_⟩,hq⟩;show(Ez C f).f _ _ args h=_
 simp_all[Ez,orB,bB]
theorem cP.mono{f:Nat} {args:List V} {Q a:V->Hp->Prop} (hc:cP C f args h Q) (hq:∀v h,Q v h->a v h):cP C f args h a:=by
 let⟨v,h',b,c⟩:=hc
 exact⟨v,h',b,hq _ _ c⟩
end
