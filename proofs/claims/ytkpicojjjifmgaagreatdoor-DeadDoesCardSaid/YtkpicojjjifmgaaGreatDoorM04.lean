/- Parts. -/
import Derived.Test.YtkpicojjjifmgaaGreatDoorM03
namespace Go.Proofs.YtkpicojjjifmgaaGreatDoor.Hx
def vU(call:Call):Prop:=∀(f:Nat) (args:List V) (v:V) (h h':Hp) (Δ:Env) (w:World) (gQ:Array Value),call f args h=some (v,h')->WR Δ h w->gP Δ args gQ.toList-> (∃x,(callFunc f gQ).run P0 w = .ok (.value x) w/\zo Δ h w v h' Δ x w)\/ ((callFunc f gQ).run P0 w = .ok (.enter f gQ) w/\Calls P0 f gQ w λe w'=>∃a x,e = .returned x/\zo Δ h w v h' a x w')
section
variable{Δ:Env}{h:Hp}{w:World}{n:Nat}{t:Tm}{a:Act}
theorem OE{call:Call} (hc:vU call) (i:WR Δ h w) (m:TR Δ n t a) {o:Oper} {v:V} {h':Hp} (hv:(IC o).f call t h=some (v,h')) {K:Act->World->Prop} {Q:Exit->Act->World->Prop}
  (p:∀k x w',zo Δ h w v h' k x w'->K (a.put o.dst x) w'):o.wp P0 a w K Q:=by
 unfold IC at hv;split at hv
 ·simp only[fx]at hv;obtain⟨u,j,c⟩:=hv;cases c;obtain⟨x,b,d⟩:=Zq i m j;unfold Oper.wp;rw[b,Oper.upon_value];exact p Δ x w ⟨d,i,.refl _ _,.refl _ _⟩
 ·simp only[fx]at hv;obtain⟨⟨ob,mk⟩,j,c⟩:=hv;cases c;obtain⟨z,mv,b,d⟩:=QW m j;obtain⟨k,a1,a2,a3,a4⟩:=i.alloc d;unfold Oper.wp;rw[b w,Oper.upon_value];exact p k _ _ ⟨a2,a1,a3,a4⟩
 ·simp only[fx]at hv;obtain⟨r,j,c⟩:=hv;rcases Wr i m j with⟨u,y,k,x,w',rfl,b,d⟩|⟨g,l,gQ,rfl,b,d⟩
  ·cases c;unfold Oper.wp;rcases b with b|⟨rfl,b⟩
   ·grind[Oper.upon_value]
   grind[Oper.upon_skip]
  ·unfold Oper.wp;rw[d];rcases hc g l v h h' Δ w gQ c i b with⟨x,q,s⟩|⟨q,s⟩
   ·grind[Oper.upon_value]
   ·rw[q,Oper.upon_enter];refine Calls.mono s λe w' A=>?_
    grind
theorem Yb(a:Act) (d:Nat) (x:Value) (i:Nat) (b:d<a.tmps.size):(a.put (some d) x).tmps.getD i undef=if d=i then x else a.tmps.getD i undef:=by
 simp only[Act.put,wBV,Array.getElem?_setIfInBounds]
 grind
theorem put_defers(a:Act)(d:Option Tmp)(x:Value):(a.put d x).defers=a.defers:=by cases d <;> rfl
theorem Ki(c:TR Δ n t a) {o:Oper} {d:DF} (b:yY n o=some d) {v:V} {x:Value} (hv:fP Δ v x):TR Δ n (d.f t v) (a.put o.dst x):=by
 unfold yY at b
 cases ho:o.dst with
 |none=>simp only[ho]at b;cases b;exact c
 | some k=>
   simp only[ho]at b
   cases hk:Nat.blt k n with
   |false=>simp_all
   | true=>
     simp only[hk]at b;cases b;have e:k<a.tmps.size:=by rw[c.size,<-PM];exact hk
     refine⟨by simp[Act.put,c.size],λi=>?_,by rw[put_defers];show IM Δ (t.set k v).ds _;rw[Tm.V7];exact c.ds⟩;rw[Yb _ _ _ _ e];show fP Δ (j6 (t.set k v) i) _;rw[MG];by_cases h:k=i
     ·simp_all
     ·rw[if_neg h,if_neg h];exact c.rel i
theorem Oo{n:Nat} {ops:List Oper} {o:Oper} (a:lC n ops o=none) (y:Nat->Option Bool):Region.wanted o y=true:=by
 grind[lC,Region.wanted]
theorem Oj(m:TR Δ n t a) {ops:Array Oper} {o:Oper} {g:GF} (e:lC n ops.toList o=some g) {b:Bool} (h:g.f t=some b):Region.wanted o (yielded ops a.tmps)=b:=by
 unfold lC at e;unfold Region.wanted
 cases hg:o.guard with
 |none=>simp_all
 | some q =>
   obtain⟨j,r⟩:=q;simp only[hg]at e⊢;unfold yielded
   cases hj:ops.toList[j]? with
   | none=>
     grind
   | some p=>
     have l:ops[j]? =some p:=by rw[<-Wy];exact hj
     simp only[hj]at e;simp only[l,Option.bind_some]
     cases hd:p.dst with
     | none=>
       grind
     | some d=>
       simp only[hd]at e;simp only[Option.bind_some]
       cases Nr:Nat.blt d n with
       |false=>grind
       | true=>
         simp only[Nr]at e;cases e;have i:d<a.tmps.size:=by rw[m.size,<-PM];exact Nr
         have k:=m.rel d;have s:a.tmps[d]? =some (a.tmps.getD d undef):=by simp[i]
         rw[s];generalize a.tmps.getD d undef=x at k;simp only at h;split at h
         ·rename_i u c
          cases h;rw[c]at k;cases k;cases r <;> cases u <;> rfl
         ·rename_i c
          cases h;rw[c]at k;cases k <;> grind
         ·cases h
structure B1 (Δ:Env) (h:Hp) (w:World) (n:Nat) (t':Tm) (h':Hp) (a:Env) (b:Act) (w':World):Prop where
 tmps:TR a n t' b
 world:WR a h' w'
 frame:FR Δ a w w'
 grow:Gr h Δ h' a
theorem B1.start(b:TR Δ n t a)(c:WR Δ h w):B1 Δ h w n t h Δ a w:=⟨b,c,.refl _ _,.refl _ _⟩
theorem B1.trans{a b:Env} {c d:Hp} {e f:World} {i g:Tm} {a1 a2:Act} (x:B1 Δ h w n i c a a1 e) (y:B1 a c e n g d b a2 f):B1 Δ h w n g d b a2 f:=
 ⟨y.tmps,y.world,x.frame.trans y.frame,x.grow.trans y.grow⟩
theorem B1.put(g:TR Δ n t a) {o:Oper} {d:DF} (b:yY n o=some d) {v:V} {h':Hp} {e:Env} {x:Value} {w':World} (c:zo Δ h w v h' e x w') :
  B1 Δ h w n (d.f t v) h' e (a.put o.dst x) w':=
 ⟨Ki (g.mono c.frame.le) b c.val,c.world,c.frame,c.grow⟩
theorem Xy(p:WR Δ h w) (b:TR Δ n t a) {o:Oper} {q:QF} (hq:Aj o=some q) {t':Tm} (hv:q.f t h=some t') :
  ∃d,(∀w,(execOp a.eval o).run P0 w = .ok (.defer d) w)/\TR Δ n t' {a with defers:=d::a.defers}:=by
 unfold Aj at hq;split at hq
 ·rename_i c r;split at hq
  ·rename_i f s;cases hq;simp only[fx]at hv;obtain⟨A,u,args,v,j⟩:=hv;have e:=lH p b u;obtain⟨xs,x⟩:∃xs,xs=c.args.map a.eval:=⟨_,rfl⟩
   have k:=Bv b v;generalize y:a.eval f=xv at e;unfold Xm at j;split at j
   ·rename_i g first l
    cases j
    cases e with
    | func _ _ _ m c' z hc=>
      refine⟨{target:= .fn (.func g) c',args:=m++c.args.map a.eval},λw=>?_,⟨b.size,λi=>?_,?_⟩⟩
      ·have B:(resolve a.eval c o.type).run P0 w = .ok {target:= .fn (.func g) c',args:=m++c.args.map a.eval} w:=by
         unfold resolve;rw[s];simp only[y];rfl
       simp_all[execOp,xk,vQ]
      ·rw[VV];exact b.rel i
      ·rw[Tm.Zl]
       refine .cons _ _ _ _ _ _ ?_ b.ds;simp only[Array.toList_append,Ii,Array.toList_map];exact z.append (k.append hc)
   ·cases j
  ·cases hq
 ·cases hq
theorem ZI{call:Call} (hc:vU call) {ops:Array Oper} {i:Nat} {o:Oper} (hi:ops[i]? =some o) {c:SF} {K:Act->World->Prop} {Q:Exit->Act->World->Prop}
  (l:WR Δ h w) (e:TR Δ n t a) {r:Tm×Hp} (hv:(IJ n ops.toList o c).f call t h=some r)
  (m:∀t' h' s u w',c.f call t' h' = some r->B1 Δ h w n t' h' s u w'->K u w'):wpOp P0 ops Q i K a w:=by
 unfold IJ at hv;unfold wpOp;simp only[hi]
 cases hdst:yY n o with
 |none=>simp only[hdst]at hv;cases hv
 | some d=>
   simp only[hdst]at hv;have z:∀x,oB ((IC o).f call t h) (λr=>c.f call (d.f t r.1) r.2)=some x->x=r->o.wp P0 a w K Q:=by
     intro x y p;subst p;rw[fx]at y;obtain⟨⟨v,h'⟩,j,k⟩:=y;exact OE hc l e j λs x w' A=>m _ _ _ _ _ k (B1.put e hdst A)
   cases hg:lC n ops.toList o with
   | none=>
     simp only[hg]at hv;rw[if_pos (Oo hg _)]
     cases hq:Aj o with
     |none=>grind
     | some q=>
       simp only[hq,fx]at hv;obtain⟨D,j,k⟩:=hv;obtain⟨E,B,C⟩:=Xy l e hq j;refine .inl ?_;unfold Oper.wp;rw[B w,Oper.upon_defer]
       exact m _ _ _ _ _ k (B1.put C hdst ⟨.undef Δ,l,.refl _ _,.refl _ _⟩)
   | some g=>
     simp only[hg,fx]at hv;obtain⟨b,j,k⟩:=hv;rw[Oj e hg j]
     cases b with
     |true=>simp_all
     |false=>exact m _ _ _ _ _ k (B1.put e hdst ⟨.undef Δ,l,.refl _ _,.refl _ _⟩)
theorem Oq{call:Call} (hc:vU call) {ops:Array Oper} {Q:Exit->Act->World->Prop}:∀(l:List Oper) (k:Nat),l=ops.toList.drop k->∀{Δ:Env} {h:Hp} {w:World} {t:Tm} {a:Act},
  WR Δ h w->TR Δ n t a->∀{r:Tm×Hp},(ux n ops.toList l).f call t h=some r->(∀e b w',B1 Δ h w n r.1 r.2 e b w'->Q .normal b w')->
  wpOps P0 ops Q (List.range' k l.length) a w
 | [],k,hl,Δ,h,w,t,a,hW,hT,r,hv,hQ=>by
   cases hv
   exact hQ _ _ _ (.start hT hW)
 | o ::l,k,hl,Δ,h,w,t,a,hW,hT,r,hv,hQ=>by
   have g:ops[k]? =some o:=by
     have:(ops.toList.drop k)[0]? =some o:=by rw[<-hl];rfl
     rw[wBN,YZ]at this;simpa using this
   have c:l=ops.toList.drop (k+1):=by
     rw[<-Zx,<-hl];rfl
   rw[KB,List.range'_succ,wpOps_cons];refine ZI hc g hW hT hv λt' h' e b w' i d=>?_;exact Oq hc l (k+1) c d.world d.tmps i λj m p q=>hQ _ _ _ (d.trans q)
end
def FP(c:Code) (Q:Exit->Act->World->Prop) (a:Act) (w:World):Prop:=∀(b:Frame) (k:List Item) (cs:List Frame),∃e d w',Q e d w'/\Arrives P0 (lone (b.at a (.code c:: .inLoop c::k)) cs w) b k cs e d w'
theorem FP.round{c:Code} {Q:Exit->Act->World->Prop} {a:Act} {w:World} (h:c.wp P0 (Exit.then (FP c Q) Q) a w):FP c Q a w:=by
 intro b k cs;obtain⟨e,g,i,hq,d⟩:=h b (.inLoop c::k) cs
 cases e with
 | normal=>
   obtain⟨m,n,o,j,f⟩:=hq b k cs
   exact⟨m,n,o,j,.of_steps (Steps.trans d (.one step_inLoop)) f⟩
 |exit id=>exact⟨_,g,i,hq,.pass (x:= .inLoop c) rfl (by simp_all) d⟩
 |goto l=>exact⟨_,g,i,hq,.pass (x:= .inLoop c) rfl (by simp_all) d⟩
 |ret=>exact⟨_,g,i,hq,.pass (x:= .inLoop c) rfl (by simp_all) d⟩
 |panic ch=>exact⟨_,g,i,hq,.pass (x:= .inLoop c) rfl (by simp_all) d⟩
 |outgrown=>exact⟨_,g,i,hq,.pass (x:= .inLoop c) rfl (by simp_all) d⟩
theorem FP.wp{c:Code} {Q:Exit->Act->World->Prop} {a:Act} {w:World} (h:FP c Q a w):(Code.loop c).wp P0 Q a w:=
 λb k cs=>let⟨e,a',w',q,r⟩:=h b k cs;⟨e,a',w',q,.of_steps (.one step_loop) r⟩
def Alike(t t':Tm)(x:Operand):Prop:=(Ni x).f t=(Ni x).f t'
theorem Ih{t t':Tm} {l:List Operand} (h:∀d,d∈BV l->j6 t d=j6 t' d):∀x∈l,Alike t t' x:=by
 induction l with
 |nil=>simp_all
 | cons y l b=>
   intro x a
   cases a with
   | head=>
     unfold Alike
     cases y <;> grind[j6,BV,Ni]
   | tail _ a=>
     refine b (λd c=>h d ?_) x a;cases y <;> simp[BV,c]
section
variable{t t':Tm}{h:Hp}
theorem gS{x:Operand} (a:Alike t t' x):(tx x).f t h=(tx x).f t' h:=by
 unfold Alike at a;cases x <;> grind[tx]
theorem xW:∀{l:List Operand},(∀x∈l,Alike t t' x)->Je t l=Je t' l
 |[],_=>rfl
 | x::l,hl=>by
   have a:(Ni x).f t=(Ni x).f t':=hl x (by simp);simp only[Je,a,xW (l:=l) (by simp_all)]
theorem BW:∀{l:List (Nat×Operand)},(∀x∈l,Alike t t' x.2)->uu t l=uu t' l
 |[],_=>rfl
 | x::l,hl=>by
   have a:(Ni x.2).f t=(Ni x.2).f t':=hl x (by simp);simp only[uu,a,BW (l:=l) (by grind)]
theorem SY{x:Option Operand} (a:∀y,x=some y->Alike t t' y):IU x t h=IU x t' h:=by
 cases x with
 |none=>rfl
 |some y=>simp only[IU,gS (a y rfl)]
theorem Rp{ty:Nat} {p:PF} (hp:p.f t h=p.f t' h):(Ku ty p).f t h=(Ku ty p).f t' h:=by
 grind[Ku]
theorem Re{a b:Nat} {p:PF} (hp:p.f t h=p.f t' h):(KI a b p).f t h=(KI a b p).f t' h:=by
 grind[KI]
theorem JW{a b:Nat} {p:PF} (hp:p.f t h=p.f t' h):(ot a p b).f t h=(ot a p b).f t' h:=by
 grind[ot]
theorem Pp{a b:Nat} {p:PF} (hp:p.f t h=p.f t' h):(HZ a p b).f t h=(HZ a p b).f t' h:=by
 grind[HZ]
theorem Km{a:Nat} {p q:PF} (hp:p.f t h=p.f t' h) (hq:q.f t h=q.f t' h):(oH a p q).f t h=(oH a p q).f t' h:=by
 grind[oH]
theorem PB{a:Nat} {p q:PF} (hp:p.f t h=p.f t' h) (hq:q.f t h=q.f t' h):(HR a p q).f t h=(HR a p q).f t' h:=by
 grind[HR]
theorem PO{a:Nat} {p:PF} {lo hi:Option Operand} (hp:p.f t h=p.f t' h) (b:IU lo t h=IU lo t' h) (c:IU hi t h=IU hi t' h) :
  (J5 a p lo hi).f t h=(J5 a p lo hi).f t' h:=by
 grind[J5]
theorem Nm{a:Nat} {p q:PF} {ok:Bool} (hp:p.f t h=p.f t' h) (hq:q.f t h=q.f t' h):(Gq a p q ok).f t h=(Gq a p q ok).f t' h:=by
 grind[Gq]
theorem Ta{a:Nat} {p:PF} (hp:p.f t h=p.f t' h):(hlen a p).f t h=(hlen a p).f t' h:=by
 grind[hlen]
theorem Ny{a:Nat} {p:PF} {ok:Bool} (hp:p.f t h=p.f t' h):(GI p a ok).f t h=(GI p a ok).f t' h:=by
 grind[GI]
theorem Rv{c p q:PF} (hc:c.f t h=c.f t' h) (hp:p.f t h=p.f t' h) (hq:q.f t h=q.f t' h):(KU c p q).f t h=(KU c p q).f t' h:=by
 grind[KU]
theorem Pw{a:Nat} {ps:List (Nat×Operand)} (hp:uu t ps=uu t' ps):(HH a ps).f t h=(HH a ps).f t' h:=by
 unfold HH;grind
theorem Is{o:Oper} (g:∀x∈o.op.operands.toList,Alike t t' x):(iV o).f t h=(iV o).f t' h:=by
 obtain⟨dst,op,ty,pos,af,gd⟩:=o;cases op <;> simp only[iV] <;> simp only[Op.operands]at g
 case move x=>grind[gS]
 case assign x=>grind[gS]
 case pick c a b=>exact Rv (by grind[gS]) (by grind[gS]) (by grind[gS])
 case load ty a=>grind[Rp,gS]
 case nilCheck x=>grind[uS,gS]
 case binOp op xt x y b=>grind[gS]
 case unOp op b x=>grind[gS]
 case convert s d x=>grind[Re,gS]
 case build ty ps=>grind[Pw,BW]
 case makeFunc fn first caps=>
  cases fn with
  |func f=>grind[xW]
  |_=>rfl
 case slice ty x lo hi mx=>
  cases mx with
  |none=>grind[PO,gS,SY]
  |some _=>rfl
 case fieldAddr s x f=>grind[JW,gS]
 case field s x f=>grind[Pp,gS]
 case indexAddr ty x i=>grind[Km,gS]
 case index ty x i=>grind[PB,gS]
 case lookup ty m k ok=>grind[Nm,gS]
 case extract x i=>grind[Fa,gS]
 case makeInterface ty x=>
  split
  ·grind[gS]
  ·rfl
 case typeAssert x b asserted ok=>grind[Ny,gS]
 case call c=>
  obtain⟨e,args,j⟩:=c
  cases e with
  | builtin b=>
    have l:∀x∈args.toList,Alike t t' x:=by grind[Call.operands]
    cases b <;> simp only
    case len=>
      split
      ·grind[Ta,gS]
      ·rfl
    case min=>grind[xW]
    case max=>grind[xW]
    all_goals rfl
  |_=>rfl
 all_goals rfl
theorem On{x:Operand}(a:Alike t t' x):(Ni x).f t=(Ni x).f t':=a
theorem KK{o:Oper} (a:∀x∈o.op.operands.toList,Alike t t' x):(qy o).f t=(qy o).f t':=by
 obtain⟨dst,op,ty,pos,af,gd⟩:=o;cases op <;> simp only[qy] <;> simp only[Op.operands]at a
 case alloc e=>split <;> rfl
 case box e x=>grind[On]
 case buildSlice ty len parts=>
  (repeat' split) <;> first
   |rfl
   |grind[Fu,BW]
 case makeSlice ty n c=>
  (repeat' split) <;> first
   |rfl
   |grind[On]
 case makeMap ty r=>
  cases r with
  |none=>simp only;split <;> rfl
  |some _=>rfl
 all_goals rfl
theorem Qx{o:Oper} (j:∀x∈o.op.operands.toList,Alike t t' x):(ku o).f t h=(ku o).f t' h:=by
 obtain⟨dst,op,ty,pos,af,gd⟩:=o;cases op <;> simp only[ku] <;> simp only[Op.operands]at j
 case store ty a x=>
  split
  ·grind[gS]
  ·rfl
 case mapUpdate ty m k x=>
  (repeat' split) <;> first
   |rfl
   |grind[gS]
 case insert ty m k x=>
  (repeat' split) <;> first
   |rfl
   |grind[gS]
 case range ty x=>
  split
  ·grind[gS]
  ·rfl
 case next x isS=>
  cases isS with
  |true=>rfl
  |false=>grind[gS]
 case entry x=>grind[gS]
 case convert s d x=>
  (repeat' split) <;> first
   |rfl
   |grind[gS]
 case call c=>
  obtain⟨g,args,l⟩:=c
  cases g with
  | builtin b=>
    have n:∀x∈args.toList,Alike t t' x:=by grind[Call.operands]
    cases b <;> simp only
    case append=>
      split
      ·rename_i s x i xT e _
       (repeat' split) <;> first
         |rfl
         |grind[gS]
      ·rfl
    case copy=>
      split
      ·rename_i s x i xT e _
       (repeat' split) <;> first
         |rfl
         |grind[gS]
      ·rfl
    case delete=>
      split
      ·rename_i s x i xT e _
       (repeat' split) <;> first
         |rfl
         |grind[gS]
      ·rfl
    all_goals rfl
  | value f=>
    grind[Alike,Call.operands,gS,xW]
  | invoke r m=>
    grind[Alike,Call.operands,gS,xW]
 all_goals rfl
theorem Mp{call:Call} {o:Oper} (a:∀x∈o.op.operands.toList,Alike t t' x):(IC o).f call t h=(IC o).f call t' h:=by
 grind[IC,Is,KK,Qx]
end
theorem Ct:∀(l:List Oper) (i:Nat) (b:List Nat) (k:Nat) (a:It),(items l i b)[k]? =some a->a.i=i+k/\l[k]? =some a.o
 |[],i,b,k,a,h=>by grind[items]
 |o::os,i,b,0,a,h=>by simp[items]at h;grind
 | o::os,i,b,k+1,a,h=>by
   simp only[items,X3]at h;obtain⟨c,d⟩:=Ct os (i+1) _ k a h
   grind
theorem Jw:∀(l:List Oper) (i:Nat) (a:List Nat),(items l i a).length=l.length
 |[],i,a=>rfl
 |o::os,i,a=>by simp[items,Jw os]
theorem BQ(a:List Nat) (x:Nat):∀(b:List Edge) (m:Nat),(LM a b m).testBit x=true->m.testBit x=true\/∃e∈b,MM e=true/\(x=e.on\/(a[e.on]?.getD 0).testBit x=true)
 |[],m,h=> .inl h
 | e ::b,m,h=>by
   simp only[LM]at h;split at h
   ·rename_i i
    rcases BQ a x b _ h with c|⟨f,g,d,c⟩
    ·grind
    grind
   ·rcases BQ a x b _ h with c|⟨f,g,d,c⟩
    ·simp_all
    grind
theorem T9:∀(l:List Oper) (i:Nat) (c:List Nat) (k:Nat) (a:It),(items l i c)[k]? =some a->
  a.b=LM (c++((items l i c).take k).map (·.b)) a.o.after.toList 0
 |[],i,c,k,a,h=>by grind[items]
 |o::os,i,c,0,a,h=>by grind[items]
 | o::os,i,c,k+1,a,h=>by
   simp only[items,X3]at h;have:=T9 os (i+1) _ k a h
   grind[items,Ii]
theorem LD{l:List Oper} {k:Nat} {a:It} (h:(items l 0 [])[k]? =some a) {x:Nat} (d:a.b.testBit x=true) :
  ∃e∈a.o.after.toList,MM e=true/\(x=e.on\/∃y,(items l 0 [])[e.on]? =some y/\y.b.testBit x=true):=by
 rw[T9 l 0 [] k a h]at d;rcases BQ _ x _ _ d with c|⟨e,f,g,c⟩
 ·simp_all
 ·refine ⟨e,f,g,?_⟩;rcases c with c|c
  ·omega
  ·right;rw[No,Cq,List.getElem?_take]at c
   grind
theorem Ge(e:Edge):Region.binds .any e=MM e:=by
 rfl
def qI(val:Nat->V)(D:Nat->Bool)(d:Nat)(kF:List It)(b:V):V:=kF.foldl (λv a=>if D a.i=true/\a.o.dst=some d then val a.i else v) b
theorem qV{val Nw:Nat->V} {D D':Nat->Bool} {d:Nat} {kF:List It} (c:∀a∈kF,a.o.dst=some d->D a.i=D' a.i) (e:∀a∈kF,a.o.dst=some d->D a.i=true->val a.i=Nw a.i) (b:V) :
  qI val D d kF b=qI Nw D' d kF b:=by
 unfold qI
 induction kF generalizing b <;> grind
theorem Iz{val:Nat->V} {D:Nat->Bool} {d:Nat} {kF:List It} (h:∀a∈kF,a.o.dst=some d->D a.i=false) (b:V):qI val D d kF b=b:=by
 unfold qI
 induction kF generalizing b <;> grind
theorem U0{val:Nat->V} {D:Nat->Bool} {d:Nat} {kF:List It} (e:∀(k:Nat) (x:It),kF[k]? =some x->x.i=k) {a:It} (j:a∈kF) (l:a.o.dst=some d) (m:D a.i=true)
  (h:∀x∈kF,a.i<x.i->x.o.dst=some d->D x.i=false) (n:V):qI val D d kF n=val a.i:=by
 obtain⟨k,g⟩:=oD.1 j;have p:=e k a g;have f:k<kF.length:=by grind
 have b:kF=kF.take k++a::kF.drop (k+1):=by
  have r:kF.drop k=a::kF.drop (k+1):=by
   rw[Ys f];rw[hO f]at g;cases g;rfl
  rw[<-r,Ym]
 have c:∀x∈kF.drop (k+1),x.o.dst=some d->D x.i=false:=by
  intro x s t;obtain⟨q,hq⟩:=oD.1 s;rw[wBN]at hq;have:=e _ x hq;exact by grind
 unfold qI;rw[b,List.foldl_append,List.foldl_cons,if_pos ⟨m,l⟩];exact Iz c _
def CC(h h':Hp):Prop:=h.next<=h'.next/\∀l,l<h.next->h'.get l=h.get l
theorem CC.refl(h:Hp):CC h h:=⟨jK _,λ_ _=>rfl⟩
theorem CC.trans{h h' c:Hp}(a:CC h h')(b:CC h' c):CC h c:=⟨II a.1 b.1,λl d=>by rw[b.2 l (Cb d a.1),a.2 l d]⟩
theorem CC.new(h:Hp)(o:O):CC h (h.new o):=⟨OH _,by simp_all[wC,if_neg,Nat.ne_of_gt]⟩
theorem WR.OS{Δ:Env} {h h':Hp} {w:World} (a:WR Δ h w) (b:CC h h'):WR Δ h' w where
 fresh:=λl d f=>Cb (a.fresh l d f) b.1
 oW:=a.oW
 obj:=λl d f=>by rw[b.2 l (a.fresh l d f)];exact a.obj l d f
 apart:=λm i e k p s n o j q r=>by
  rw[b.2 m (a.fresh m e n)]at q;rw[b.2 i (a.fresh i k o)]at r;exact a.apart m i e k p s n o j q r
 Iu:=λg p c hp=>by
  rw[b.2 g (Cb c a.zb)]at hp;exact a.Iu g p c hp
 zb:=II a.zb b.1
 TL:=a.TL
theorem O.eq_of_beq{a b:O} (h:O.beq a b=true):a=b:=by
 unfold O.beq at h;split at h
 ·simp only[vR,C9]at h;obtain⟨⟨⟨⟨rfl,rfl⟩,rfl⟩,rfl⟩,c⟩:=h
  grind[V.yc]
 ·simp_all
 ·cases h
structure Tc where
 on:Nat->Bool
 val:Nat->V
 tt:Nat->Tm
 ep:Nat->Nat
 pl:Nat->Nat
 ob:Nat->O
 H:Nat->Hp
 G:Nat->Hp
def Ay(kF:List It)(D:Nat->Bool):Prop:=∀a∈kF,D a.i=true->∀x∈kF,a.b.testBit x.i=true->D x.i=true
section
variable (n:Nat)(all:List Oper)(kF ws:List It)(call:Call)(t0:Tm)(h0:Hp)
structure Ma (T:Tc) (D:Nat->Bool) (a:It):Prop where
 fresh:D a.i=false
 closed:Ay kF D
 fh:∀x∈kF,a.b.testBit x.i=true->D x.i=true
 pE:∀d,j6 (T.tt a.i) d=qI T.val D d kF (j6 t0 d)
 dst:∃d,yY n a.o=some d
 qi:qi n all a.o (T.tt a.i)=some (T.on a.i)
 off:T.on a.i=false->T.val a.i = .undef
 epw:cls a.o≠2->Lo ws a (T.ep a.i)=true
 epl:T.ep a.i<=ws.length
 pure:cls a.o=0->T.on a.i=true->∀j,T.ep a.i<=j->j<=ws.length->j<=late ws a->(iV a.o).f (T.tt a.i) (T.H j)=some (T.val a.i)
 alloc:cls a.o=1->T.on a.i=true->(∃mk,(qy a.o).f (T.tt a.i)=some (T.ob a.i,mk)/\T.val a.i=mk (T.pl a.i))/\
  (∀j,T.ep a.i<=j->j<=ws.length->T.pl a.i<(T.H j).next/\(j<=late ws a->(T.H j).get (T.pl a.i)=some (T.ob a.i)))/\
  (∀j,j<T.ep a.i->(T.G j).next<=T.pl a.i)/\h0.next<=T.pl a.i
 write:cls a.o=2->isW ws a (T.ep a.i)=true/\(T.on a.i=true->(IC a.o).f call (T.tt a.i) (T.H (T.ep a.i))=some (T.val a.i,T.G (T.ep a.i)))/\
  (T.on a.i=false->T.G (T.ep a.i)=T.H (T.ep a.i))
structure uo (l:List It) (m k:Nat) (h:Hp) (rs:List Rec) (r:Tm×Hp) (b T:Tc):Prop where
 same:∀i,m.testBit i=true->T.on i=b.on i/\T.val i=b.val i/\T.tt i=b.tt i/\T.ep i=b.ep i/\T.pl i=b.pl i/\T.ob i=b.ob i
 UN:∀j,j<k->T.H j=b.H j/\T.G j=b.G j
 item:∀a∈l,∃D,Ma n all kF ws call t0 h0 T D a
 DC:∀r∈rs,∀j,k<=j->j<=ws.length->r.last<j\/zG (T.H j) r=true
 more:CC h (T.H k)
 chain:∀j,k<=j->j<ws.length->(T.H j).next<=(T.G j).next/\CC (T.G j) (T.H (j+1))
 UT:∀a∈l,cls a.o=1->T.on a.i=true->h.next<=T.pl a.i
 TF:∀a∈l,∀c∈l,cls a.o=1->cls c.o=1->T.on a.i=true->T.on c.i=true->a.i≠c.i->T.pl a.i≠T.pl c.i
 last:r.2=T.H ws.length
 pE:∀d,j6 r.1 d=qI T.val (λ_=>true) d kF (j6 t0 d)
 done:∀a∈kF,m.testBit a.i=true\/a.i∈l.map (·.i)
 kle:k<=ws.length
end
theorem EZ{ws:List It} {T:Tc} {k:Nat} (h:∀j,k<=j->j<ws.length->(T.H j).next<=(T.G j).next/\CC (T.G j) (T.H (j+1))):∀(m j:Nat),j=k+m->j<=ws.length->(T.H k).next<=(T.H j).next:=by
 intro m
 induction m with
 |zero=>simp_all
 | succ m b=>
   intro j g c;obtain⟨a,rfl⟩:∃a,j=a+1:=⟨j-1,by omega⟩
   have d:=b a (by omega) (by omega);obtain⟨e,f⟩:=h a (by omega) (by omega);exact II d (II e f.1)
theorem XC(m i x:Nat):(m |||2 ^ i).testBit x=(m.testBit x ||decide (i=x)):=by grind
theorem KT{l:List It} (h:rr l=true):∀(i j:Nat) (a b:It),i<j->l[i]? =some a->l[j]? =some b->Po a b=true:=by
 induction l with
 |nil=>simp_all
 | cons x l d=>
   intro i j a b c e f;simp only[rr,vR]at h
   grind
theorem N6{kF:List It} (c:∀(k:Nat) (x:It),kF[k]? =some x->x.i=k) (hp:rr kF=true) {a x:It} (h:a∈kF) (l:x∈kF) {d:Nat} (m:d∈qk a.o) (e:x.o.dst=some d) :
  (x.i<a.i->a.b.testBit x.i=true)/\(a.i<x.i->x.b.testBit a.i=true):=by
 obtain⟨i,hi⟩:=oD.1 h;obtain⟨j,f⟩:=oD.1 l;have n:=c i a hi;have p:=c j x f;have q:writes x.o (qk a.o)=true:=by simp[writes,e,m]
 constructor
 ·intro g;have:=KT hp j i x a (by omega) f hi
  grind[Po]
 ·intro g;have:=KT hp i j a x (by omega) hi f
  grind[Po]
theorem VR{o:Oper}{d:Nat}(h:o.dst=some d):d∈qk o:=by simp[qk,h]
theorem Ig{kF:List It} (e:∀(k:Nat) (x:It),kF[k]? =some x->x.i=k) (hp:rr kF=true) {a:It} (f:a∈kF) {D D':Nat->Bool} (p:Ay kF D) (g:Ay kF D')
  (s:∀x∈kF,a.b.testBit x.i=true->D x.i=true) (q:∀x∈kF,a.b.testBit x.i=true->D' x.i=true) (n:D a.i=false) (c:D' a.i=false) {d:Nat} (r:d∈qk a.o) (val:Nat->V) (j:V) :
  qI val D d kF j=qI val D' d kF j:=by
 refine qV (λx l m=>?_) (by simp_all) j;obtain⟨p1,p2⟩:=N6 e hp f l r m;rcases wBi x.i a.i with h|h|h
 ·simp_all
 ·simp_all
 ·have t:D x.i=false:=by
   cases hh:D x.i with
   |false=>rfl
   |true=>rw[p x l hh a f (p2 h)]at n;cases n
  have u:D' x.i=false:=by
   cases hh:D' x.i with
   |false=>rfl
   |true=>rw[g x l hh a f (p2 h)]at c;cases c
  simp_all
theorem Ga{kF:List It} (b:∀(k:Nat) (x:It),kF[k]? =some x->x.i=k) (hp:rr kF=true) {a:It} (l:a∈kF) {D D':Nat->Bool} (q:Ay kF D) (p:D a.i=false)
  (f:∀i,D' i=(D i ||decide (a.i=i))) {val Nw:Nat->V} (hv:∀i,D i=true->Nw i=val i) (d:Nat) (m:V) :
  qI Nw D' d kF m=if a.o.dst=some d then Nw a.i else qI val D d kF m:=by
 by_cases hd:a.o.dst=some d
 ·rw[if_pos hd];refine U0 b l hd (by simp_all) (λx g h c=>?_) m;rw[f];have r:a.i≠x.i:=RB h;have:=(N6 b hp l g (VR hd) c).2 h
  cases hh:D x.i with
  |false=>simp_all
  |true=>rw[q x g hh a l this]at p;cases p
 ·rw [if_neg hd];refine qV (λx g c=>?_) (λx g c s=>?_) m
  ·rw [f];have:a.i≠x.i:=by
    intro e;obtain⟨i,hi⟩:=oD.1 l;obtain⟨j,n⟩:=oD.1 g;have t:=b i a hi;have u:=b j x n;have:i=j:=by omega
    subst this;rw[hi]at n;cases n;exact hd c
   simp_all
  grind[oD]
def Nn{α:Type}(f:Nat->α)(i:Nat)(v:α):Nat->α:=λj=>if j=i then v else f j
theorem nY{α:Type}(f:Nat->α)(i:Nat)(v:α):Nn f i v i=v:=if_pos rfl
theorem O8{α:Type}(f:Nat->α){i j:Nat}(v:α)(h:j≠i):Nn f i v j=f j:=if_neg h
theorem JN(o:Oper):cls o=0\/cls o=1\/cls o=2:=by
 unfold cls
 grind
theorem I9{n:Nat} {o:Oper} {d:DF} (h:yY n o=some d) (t:Tm) (v:V) (i:Nat):j6 (d.f t v) i=if o.dst=some i then v else j6 t i:=by
 unfold yY at h
 cases ho:o.dst with
 |none=>grind
 | some k=>
   simp only[ho]at h
   cases hk:Nat.blt k n with
   |false=>simp_all
   | true=>
     simp only[hk]at h;cases h;show j6 (t.set k v) i=_
     simp_all[MG,if_pos,if_neg]
theorem yk{n:Nat} {o:Oper} {d:DF} (h:yY n o=some d) (t:Tm) (v:V):(d.f t v).ds=t.ds:=by
 grind[yY,Nat.blt,Tm.V7]
theorem BG{n:Nat} {all:List Oper} {ws:List It} {call:Call}:∀(l:List It) (k:Nat) {t:Tm} {h:Hp} {rs:List Rec} {r:Tm×Hp},(xZ n all ws l k).f call t h rs=some r->r.1.ds=t.ds
 | [],_,t,h,rs,r,hv=>by
   grind[xZ,hY]
 | a ::l,k,t,h,rs,r,hv=>by
   unfold xZ at hv
   cases hd:yY n a.o with
   |none=>simp_all
   | some d=>
     rw[hd]at hv;simp only at hv;split at hv
     ·simp only[Hz,fx]at hv
      obtain⟨b,_,c⟩:=hv
      cases b with
      |false=>rw[BG l _ c,yk hd]
      | true=>
        simp only[fx]at c;obtain⟨x,_,e⟩:=c;rw[BG l _ e,yk hd]
     ·simp only[Fp,fx]at hv
      obtain⟨b,_,c⟩:=hv
      cases b with
      |false=>rw[BG l _ c,yk hd]
      | true=>
        simp only[fx]at c;obtain⟨x,_,e⟩:=c;rw[BG l _ e,yk hd]
     ·simp only[B0,fx,hY]at hv
      obtain⟨_,b,_,c⟩:=hv
      cases b with
      |false=>rw[BG l _ c,yk hd]
      | true=>
        simp only[fx,hY]at c;obtain⟨x,_,_,e⟩:=c;rw[BG l _ e,yk hd]
section
variable{n:Nat}{all:List Oper}{kF ws:List It}{call:Call}{t0:Tm}{h0:Hp}
theorem uo.cons{l:List It} {a:It} {m k k':Nat} {h h':Hp} {rs z:List Rec} {r:Tm×Hp} {d T1 T:Tc} (c:uo n all kF ws call t0 h0 l (m |||2 ^ a.i) k' h' z r T1 T)
  (C:∀i,m.testBit i=true->T1.on i=d.on i/\T1.val i=d.val i/\T1.tt i=d.tt i/\T1.ep i=d.ep i/\T1.pl i=d.pl i/\T1.ob i=d.ob i)
  (J:∀j,j<k->T1.H j=d.H j/\T1.G j=d.G j) (K:k<=k') (e:∃D,Ma n all kF ws call t0 h0 T D a)
  (f:∀r∈rs,∀j,k<=j->j<=ws.length->r.last<j\/zG (T.H j) r=true) (g:CC h (T.H k))
  (w:∀j,k<=j->j<k'->(T.H j).next<=(T.G j).next/\CC (T.G j) (T.H (j+1)))
  (v:cls a.o=1->T.on a.i=true->h.next<=T.pl a.i/\T.pl a.i<h'.next) (uh:h.next<=h'.next) (A:k<=ws.length):uo n all kF ws call t0 h0 (a::l) m k h rs r d T where
 same:=λi hi=>by
  obtain⟨a1,a2,a3,a4,L,M⟩:=c.same i (by simp_all)
  simp_all
 UN:=λj E=>by
  obtain⟨a1,a2⟩:=c.UN j (by omega)
  simp_all
 item:=λx b=>by
  cases b with
  |head=>exact e
  |tail _ b=>exact c.item x b
 DC:=f
 more:=g
 chain:=λj C F=>by
  by_cases E:j<k'
  ·simp_all
  ·exact c.chain j (by omega) F
 UT:=λx b hc I=>by
  cases b with
  |head=>simp_all
  |tail _ b=>exact II uh (c.UT x b hc I)
 TF:=λx b y u p q s t B=>by
  cases b with
  | head=>
    cases u with
    |head=>omega
    |tail _ u=>have:=(v p s).2;have:=c.UT y u q t;omega
  | tail _ b=>
    cases u with
    |head=>have:=(v q t).2;have:=c.UT x b p s;omega
    |tail _ u=>exact c.TF x b y u p q s t B
 last:=c.last
 pE:=c.pE
 done:=λx b=>by
  rcases c.done x b with h|h
  ·grind
  simp_all
 kle:=A
theorem trace(B:∀(k:Nat) (x:It),kF[k]? =some x->x.i=k) (hp:rr kF=true):∀(l:List It) (m k:Nat) (t:Tm) (h:Hp) (rs:List Rec) (r:Tm×Hp) (s:Tc),
  (∀a∈l,a∈kF)->xi kF ws l m k=true->(xZ n all ws l k).f call t h rs=some r->Ay kF m.testBit->(∀d,j6 t d=qI s.val m.testBit d kF (j6 t0 d))->
  h0.next<=h.next->(∀j,j<k->(s.G j).next<=h.next)->k<=ws.length->∃T,uo n all kF ws call t0 h0 l m k h rs r s T
 | [],m,k,t,h,rs,r,s,VL,c,hv,hcl,ht,hn0,hG,hkl=>by
   simp only[xi,vR]at c;obtain⟨ag,hk⟩:=c;have ak:k=ws.length:=AG hk;simp only[xZ,hY]at hv;obtain⟨X,hv⟩:=hv;cases hv;refine⟨{s with H:=Nn s.H k h},⟨by simp_all,λj N=>⟨by grind[O8],rfl⟩,by simp_all,?_,?_,by omega,by simp_all,by simp_all,?_,?_,?_,hkl⟩⟩
   ·intro q hq j Y h2
    have:j=k:=by omega
    simp_all[zG,Nn,nY,B9,Qk,Nc,PM]
   ·grind[CC,Nn,nY]
   ·grind[Nn,nY]
   ·intro d
    rw[ht d];refine qV (λa ha _=>?_) (by simp_all) _
    simp_all
   simp_all
 | a ::l,m,k,t,h,rs,r,s,VL,c,hv,hcl,ht,hn0,hG,hkl=>by
   have ha:a∈kF:=by simp_all
   have w:∀x∈l,x∈kF:=by simp_all
   simp only[xi,vR,wBh]at c;obtain⟨C,al,c⟩:=c;have u:∀x∈kF,a.b.testBit x.i=true->m.testBit x.i=true:=by grind
   have z:Ay kF (m |||2 ^ a.i).testBit:=λx hx A y hy hb=>by
     rw[XC]at A⊢;simp only[Nc,BP]at A;rcases A with A|A
     ·rw[hcl x hx A y hy hb];rfl
     grind[oD]
   simp only[xZ]at hv
   cases hd:yY n a.o with
   |none=>simp_all
   | some d =>
     simp only[hd]at hv
     let T1:Bool->V->Nat->O->(Nat->Hp)->(Nat->Hp)->Tc:=λb v p ob H G=>⟨Nn s.on a.i b,Nn s.val a.i v,Nn s.tt a.i t,Nn s.ep a.i k,Nn s.pl a.i p,Nn s.ob a.i ob,H,G⟩
     have Y:∀b v p ob H G,∀i,m.testBit i=true->(T1 b v p ob H G).on i=s.on i/\(T1 b v p ob H G).val i=s.val i/\(T1 b v p ob H G).tt i=s.tt i/\(T1 b v p ob H G).ep i=s.ep i/\
        (T1 b v p ob H G).pl i=s.pl i/\(T1 b v p ob H G).ob i=s.ob i:=by grind[O8]
     have D:∀b v p ob H G,∀I,j6 (d.f t v) I=qI (T1 b v p ob H G).val (m |||2 ^ a.i).testBit I kF (j6 t0 I):=by grind[I9,Ga,XC,j6,Nn,nY]
     have self:∀{b v p ob H G l' k' h' Q T},uo n all kF ws call t0 h0 l' (m |||2 ^ a.i) k' h' Q r (T1 b v p ob H G) T->
        T.on a.i=b/\T.val a.i=v/\T.tt a.i=t/\T.ep a.i=k/\T.pl a.i=p/\T.ob a.i=ob/\(∀I,j6 (T.tt a.i) I=qI T.val m.testBit I kF (j6 t0 I)):=λ{b v p ob H G l' k' h' Q T} g=>by
       obtain⟨a1,a2,a3,a4,a5,a6⟩:=g.same a.i (by simp_all);refine⟨a1.trans (nY _ _ _),a2.trans (nY _ _ _),a3.trans (nY _ _ _),a4.trans (nY _ _ _),a5.trans (nY _ _ _),a6.trans (nY _ _ _),λI=>?_⟩;rw[a3.trans (nY _ _ _),ht I];refine(qV (by simp_all) (λx hx _ Z=>?_) _).symm;rw[(g.same x.i (by simp_all)).2.1,(Y b v p ob H G x.i Z).2.1]
     rcases JN a.o with hc|hc|hc
     ·
       have E:Nat.beq (cls a.o) 2=false:=by rw[hc];rfl
       rw[E]at c;simp only[vR]at c;obtain⟨F,c⟩:=c;rw[hc]at hv;simp only[Hz,fx]at hv;obtain⟨b,hw,hv⟩:=hv
       cases b with
       | false=>
         obtain⟨T,g⟩:=trace B hp l _ k _ h rs r (T1 false .undef 0 default s.H s.G) w c hv z (D _ _ _ _ _ _) hn0 hG hkl;obtain⟨U,P,W,s4,K,R,J⟩:=self g
         refine ⟨T,g.cons (by simp_all) (by grind) (jK _) ⟨m.testBit,C,hcl,u,J,⟨d,hd⟩,by simp_all,λ_=>P,by simp_all,by omega,
           by simp_all,by omega,by omega⟩ g.DC g.more (by omega) (by omega) (jK _) hkl⟩
       | true=>
         simp only[fx]at hv;obtain⟨v,aa,hv⟩:=hv;obtain⟨T,g⟩:=trace B hp l _ k _ h _ r (T1 true v 0 default s.H s.G) w c hv z (D _ _ _ _ _ _) hn0 hG hkl;obtain⟨U,P,W,s4,K,R,J⟩:=self g
         refine ⟨T,g.cons (by simp_all) (by grind) (jK _) ⟨m.testBit,C,hcl,u,J,⟨d,hd⟩,by simp_all,by simp_all,by simp_all,by omega,
           λ_ _ j L M j3=>?_,by omega,by omega⟩ (λq hq=>g.DC q (by simp[hq])) g.more (by omega) (by omega) (jK _) hkl⟩
         rw[s4]at L;rcases g.DC _ (WD ..) j L M with ab|hh
         ·grind
         grind[zG,V.eq_of_beq]
     ·
       have E:Nat.beq (cls a.o) 2=false:=by rw[hc];rfl
       rw[E]at c;simp only[vR]at c;obtain⟨F,c⟩:=c;rw[hc]at hv;simp only[Fp,fx]at hv;obtain⟨b,hw,hv⟩:=hv
       cases b with
       | false=>
         obtain⟨T,g⟩:=trace B hp l _ k _ h rs r (T1 false .undef 0 default s.H s.G) w c hv z (D _ _ _ _ _ _) hn0 hG hkl;obtain⟨U,P,W,s4,K,R,J⟩:=self g
         refine ⟨T,g.cons (by simp_all) (by grind) (jK _) ⟨m.testBit,C,hcl,u,J,⟨d,hd⟩,by simp_all,λ_=>P,by simp_all,by omega,
           by omega,by simp_all,by omega⟩ g.DC g.more (by omega) (by simp_all) (jK _) hkl⟩
       | true=>
         simp only[fx]at hv;obtain⟨⟨ob,mk⟩,aa,hv⟩:=hv;obtain⟨T,g⟩:=trace B hp l _ k _ _ _ r (T1 true (mk h.next) h.next ob s.H s.G) w c hv z (D _ _ _ _ _ _) (Yn hn0) (λj N=>Yn (hG j N)) hkl;obtain⟨U,P,W,s4,K,R,J⟩:=self g
         refine ⟨T,g.cons (by simp_all) (by grind) (jK _) ⟨m.testBit,C,hcl,u,J,⟨d,hd⟩,by simp_all,by simp_all,by simp_all,by omega,
           by omega,λ_ _=>⟨by simp_all,λj L M=>?_,λj N=>?_,by omega⟩,by omega⟩
           (λq hq=>g.DC q (by simp[hq])) ((CC.new h ob).trans g.more) (by omega) (λ_ _=>by rw[K];exact⟨jK _,Mm _⟩) (OH _) hkl⟩
         ·rw[s4]at L
          rw[K,R];refine⟨?_,λj3=>?_⟩
          ·have e1:(h.new ob).next<=(T.H k).next:=g.more.1
           have e2:=EZ g.chain (j-k) j (by omega) M;have:h.next<(h.new ob).next:=Mm _;omega
          ·rcases g.DC _ (WD ..) j L M with ab|hh
           ·grind
           grind[zG,O.eq_of_beq]
         ·rw[s4]at N
          rw[K,(g.UN j N).2]
          grind
     ·
       have E:Nat.beq (cls a.o) 2=true:=by rw[hc];rfl
       rw[E]at c;simp only[vR]at c;obtain⟨F,c⟩:=c;have ac:k<ws.length:=by
        unfold isW at F;split at F
        ·grind
        ·cases F
       rw[hc]at hv;simp only[B0,hY,fx]at hv;obtain⟨X,b,hw,hv⟩:=hv;have ah:∀q∈rs,q.last<k\/zG h q=true:=by simp_all[B9,Qk,Nc,PM]
       have ai:∀(b:Bool) (v:V) (h':Hp),qi n all a.o t=some b->(xZ n all ws l (Nat.succ k)).f call (d.f t v) h' rs=some r->h.next<=h'.next->(b=false->v = .undef/\h' = h)->
         (b=true->(IC a.o).f call t h=some (v,h'))->∃T,uo n all kF ws call t0 h0 (a::l) m k h rs r s T:=by
         intro b v h' hw hv hn aj am
         obtain ⟨T,g⟩:=trace B hp l _ (k+1) _ h' rs r (T1 b v 0 default (Nn s.H k h) (Nn s.G k h')) w c hv z (D _ _ _ _ _ _) (by omega)
           (fun j N=>by
             by_cases e:j=k
             ·subst e;show(Nn s.G j h' j).next<=_;simp_all[nY,jK]
             grind[Nn,O8,II]) ac
         obtain⟨U,P,W,s4,K,R,J⟩:=self g;obtain⟨g1,g2⟩:=g.UN k (Mm _);have S:T.H k=h:=g1.trans (nY _ _ _);have ae:T.G k=h':=g2.trans (nY _ _ _)
         refine ⟨T,g.cons (Y _ _ _ _ _ _) (by grind[O8]) (OH _) ⟨m.testBit,C,hcl,u,J,⟨d,hd⟩,by grind,
           by grind,by omega,by omega,by omega,by omega,
           λ_=>⟨by grind,λho=>?_,λho=>?_⟩⟩ (λq hq j L M=>?_) (by rw[S];exact .refl h) (λj L M=>?_) (by omega) hn hkl⟩
         ·grind
         ·grind
         ·by_cases e:j=k
          ·grind
          ·exact g.DC q hq j (by omega) M
         ·have:j=k:=by omega
          subst this;rw[S,ae];exact⟨hn,g.more⟩
       cases b with
       |false=>grind
       | true=>
         grind[fx,hY,JE]
end
