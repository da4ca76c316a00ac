/- Parts. -/
import Derived.Test.YtpnddokajmjpbaaDoorM03
namespace Go.Proofs.YtpnddokajmjpbaaDoor.Hx
def CallOk (call:Call):Prop:=∀(f:Nat) (args:List V) (v:V) (h h':Hp) (Δ:Env) (w:World) (args':Array Value),call f args h=some (v,h')->WR Δ h w->VsRel Δ args args'.toList->
 (∃x,(callFunc f args').run P0 w = .ok (.value x) w/\After Δ h w v h' Δ x w)\/
 ((callFunc f args').run P0 w = .ok (.enter f args') w/\Calls P0 f args' w λe w'=>∃a x,e = .returned x/\After Δ h w v h' a x w')
section
variable{Δ:Env}{h:Hp}{w:World}{n:Nat}{t:Tm}{a:Act}
theorem Cq {call:Call} (hc:CallOk call) (k:WR Δ h w) (q:TR Δ n t a) {o:Oper} {v:V} {h':Hp} (c:(opC o).f call t h=some (v,h')) {K:Act->World->Prop} {Q:Exit->Act->World->Prop}
  (i:∀m x w',After Δ h w v h' m x w'->K (a.put o.dst x) w'):o.wp P0 a w K Q:=by
 unfold opC at c;split at c
 ·simp only[ei]at c;obtain⟨y,p,j⟩:=c;cases j;obtain⟨x,b,d⟩:=Jt k q p;unfold Oper.wp;rw[b,Oper.upon_value];exact i Δ x w ⟨d,k,.refl _ _,.refl _ _⟩
 ·simp only[ei]at c;obtain⟨⟨ob,mk⟩,p,j⟩:=c;cases j;obtain⟨C,mv,b,d⟩:=El q p;obtain⟨m,a1,a2,a3,a4⟩:=k.alloc d;unfold Oper.wp;rw[b w,Oper.upon_value];exact i m _ _ ⟨a2,a1,a3,a4⟩
 ·simp only[ei]at c;obtain⟨r,p,j⟩:=c;rcases G0 k q p with⟨y,z,m,x,w',rfl,b,d⟩|⟨g,l,args',rfl,b,d⟩
  ·cases j;unfold Oper.wp;rcases b with b|⟨rfl,b⟩
   ·rw[b,Oper.upon_value];exact i _ _ _ d
   ·rw[b,Oper.upon_skip];exact i _ _ _ d
  ·unfold Oper.wp;rw[d];rcases hc g l v h h' Δ w args' j k b with⟨x,s,u⟩|⟨s,u⟩
   ·rw[s,Oper.upon_value];exact i _ _ _ u
   ·rw[s,Oper.upon_enter];refine Calls.mono u λe w' A=>?_;obtain⟨m,x,rfl,B⟩:=A;exact i _ _ _ B
theorem HW (a:Act) (d:Nat) (x:Value) (i:Nat) (b:d<a.tmps.size):(a.put (some d) x).tmps.getD i undef=if d=i then x else a.tmps.getD i undef:=by
 simp only[Act.put,wBf,Array.getElem?_setIfInBounds];by_cases h:d=i
 ·subst h;simp[b]
 ·simp[h]
theorem EV (a:Act)(d:Option Tmp)(x:Value):(a.put d x).defers=a.defers:=by cases d <;> rfl
theorem zT (c:TR Δ n t a) {o:Oper} {d:DF} (b:dstC n o=some d) {v:V} {x:Value} (g:VRel Δ v x):TR Δ n (d.f t v) (a.put o.dst x):=by
 unfold dstC at b
 cases ho:o.dst with
 |none=>simp only[ho]at b;cases b;exact c
 | some k=>
   simp only[ho]at b
   cases hk:Nat.blt k n with
   |false=>simp[hk]at b
   | true=>
     simp only[hk]at b;cases b;have e:k<a.tmps.size:=by rw[c.size,<-wBV];exact hk
     refine⟨by simp[Act.put,c.size],λi=>?_,by rw[EV];show DsRel Δ (t.set k v).ds _;rw[Tm.ds_set];exact c.ds⟩;rw[HW _ _ _ _ e];show VRel Δ (tget (t.set k v) i) _;rw[BD];by_cases h:k=i
     ·rw[if_pos h,if_pos h];exact g
     ·rw[if_neg h,if_neg h];exact c.rel i
theorem CJ {n:Nat} {ops:List Oper} {o:Oper} (a:wantC n ops o=none) (y:Nat->Option Bool):Region.wanted o y=true:=by
 unfold wantC at a;unfold Region.wanted
 cases hg:o.guard with
 |none=>rfl
 | some g=>
   obtain⟨j,b⟩:=g;simp only[hg]at a;split at a
   ·split at a
    ·split at a <;> cases a
    ·cases a
   ·cases a
theorem Cw (p:TR Δ n t a) {ops:Array Oper} {o:Oper} {g:GF} (c:wantC n ops.toList o=some g) {b:Bool} (e:g.f t=some b):Region.wanted o (yielded ops a.tmps)=b:=by
 unfold wantC at c;unfold Region.wanted
 cases hg:o.guard with
 |none=>simp[hg]at c
 | some r =>
   obtain⟨j,l⟩:=r;simp only[hg]at c⊢;unfold yielded
   cases hj:ops.toList[j]? with
   | none=>
     simp only[hj]at c;cases c;have:ops[j]? =none:=by rw[<-wAv];exact hj
     simp only[this,Option.bind_none];cases e
     cases l <;> rfl
   | some q=>
     have m:ops[j]? =some q:=by rw[<-wAv];exact hj
     simp only[hj]at c;simp only[m,Option.bind_some]
     cases hd:q.dst with
     | none=>
       simp only[hd]at c;cases c;cases e;simp only[Option.bind_none]
       cases l <;> rfl
     | some d=>
       simp only[hd]at c;simp only[Option.bind_some]
       cases hlt:Nat.blt d n with
       |false=>simp only[hlt]at c;cases c;cases e
       | true=>
         simp only[hlt]at c;cases c;have i:d<a.tmps.size:=by rw[p.size,<-wBV];exact hlt
         have k:=p.rel d;have s:a.tmps[d]? =some (a.tmps.getD d undef):=by simp[i]
         rw[s];generalize a.tmps.getD d undef=x at k;simp only at e;split at e
         ·rename_i u h
          cases e;rw[h]at k;cases k;cases l <;> cases u <;> rfl
         ·rename_i h
          cases e;rw[h]at k
          cases k with
          |tuple _ cs v=>cases l <;> rfl
         ·cases e
structure Goes (Δ:Env) (h:Hp) (w:World) (n:Nat) (t':Tm) (h':Hp) (a:Env) (b:Act) (w':World):Prop where
 tmps:TR a n t' b
 world:WR a h' w'
 frame:FR Δ a w w'
 grow:Gr h Δ h' a
theorem Goes.start (b:TR Δ n t a)(c:WR Δ h w):Goes Δ h w n t h Δ a w:=⟨b,c,.refl _ _,.refl _ _⟩
theorem Goes.trans {a b:Env} {c d:Hp} {e f:World} {i g:Tm} {a1 a2:Act} (x:Goes Δ h w n i c a a1 e) (y:Goes a c e n g d b a2 f):Goes Δ h w n g d b a2 f:=
 ⟨y.tmps,y.world,x.frame.trans y.frame,x.grow.trans y.grow⟩
theorem Goes.put (g:TR Δ n t a) {o:Oper} {d:DF} (b:dstC n o=some d) {v:V} {h':Hp} {e:Env} {x:Value} {w':World} (c:After Δ h w v h' e x w') :
  Goes Δ h w n (d.f t v) h' e (a.put o.dst x) w':=
 ⟨zT (g.mono c.frame.le) b c.val,c.world,c.frame,c.grow⟩
theorem HU (s:WR Δ h w) (b:TR Δ n t a) {o:Oper} {q:QF} (hq:deferC o=some q) {t':Tm} (m:q.f t h=some t') :
  ∃d,(∀w,(execOp a.eval o).run P0 w = .ok (.defer d) w)/\TR Δ n t' {a with defers:=d::a.defers}:=by
 unfold deferC at hq;split at hq
 ·rename_i c k;split at hq
  ·rename_i f u;cases hq;simp only[ei]at m;obtain⟨C,v,args,x,j⟩:=m;have e:=gW s b v;obtain⟨xs,y⟩:∃xs,xs=c.args.map a.eval:=⟨_,rfl⟩
   have l:=tP b x;generalize z:a.eval f=xv at e;unfold hdefer at j;split at j
   ·rename_i g first p
    cases j
    cases e with
    | func _ _ _ r c' A hc=>
      refine⟨{target:= .fn (.func g) c',args:=r++c.args.map a.eval},λw=>?_,⟨b.size,λi=>?_,?_⟩⟩
      ·have B:(resolve a.eval c o.type).run P0 w = .ok {target:= .fn (.func g) c',args:=r++c.args.map a.eval} w:=by
         unfold resolve;rw[u];simp only[z];rfl
       unfold execOp;rw[k];simp only[wAP,B,wAH];rfl
      ·rw[Gp];exact b.rel i
      ·rw[Tm.ds_push]
       refine .cons _ _ _ _ _ _ ?_ b.ds;simp only[Array.toList_append,wAU,Array.toList_map];exact A.append (l.append hc)
   ·cases j
  ·cases hq
 ·cases hq
theorem Iu {call:Call} (hc:CallOk call) {ops:Array Oper} {i:Nat} {o:Oper} (hi:ops[i]? =some o) {c:SF} {K:Act->World->Prop} {Q:Exit->Act->World->Prop}
  (p:WR Δ h w) (k:TR Δ n t a) {r:Tm×Hp} (e:(stepC n ops.toList o c).f call t h=some r)
  (s:∀t' h' y z w',c.f call t' h' = some r->Goes Δ h w n t' h' y z w'->K z w'):wpOp P0 ops Q i K a w:=by
 unfold stepC at e;unfold wpOp;simp only[hi]
 cases hdst:dstC n o with
 |none=>simp only[hdst]at e;cases e
 | some d=>
   simp only[hdst]at e;have l:∀x,oB ((opC o).f call t h) (λr=>c.f call (d.f t r.1) r.2)=some x->x=r->o.wp P0 a w K Q:=by
     intro x A u;subst u;rw[ei]at A;obtain⟨⟨v,h'⟩,m,j⟩:=A;exact Cq hc p k m λy x w' B=>s _ _ _ _ _ j (Goes.put k hdst B)
   cases hg:wantC n ops.toList o with
   | none=>
     simp only[hg]at e;rw[if_pos (CJ hg _)]
     cases hq:deferC o with
     |none=>simp only[hq]at e;exact .inl (l _ e rfl)
     | some q=>
       simp only[hq,ei]at e;obtain⟨E,m,j⟩:=e;obtain⟨F,C,D⟩:=HU p k hq m;refine .inl ?_;unfold Oper.wp;rw[C w,Oper.upon_defer]
       exact s _ _ _ _ _ j (Goes.put D hdst ⟨.undef Δ,p,.refl _ _,.refl _ _⟩)
   | some g=>
     simp only[hg,ei]at e;obtain⟨b,m,j⟩:=e;rw[Cw k hg m]
     cases b with
     |true=>exact .inl (l _ j rfl)
     |false=>exact s _ _ _ _ _ j (Goes.put k hdst ⟨.undef Δ,p,.refl _ _,.refl _ _⟩)
theorem Cp {call:Call} (hc:CallOk call) {ops:Array Oper} {Q:Exit->Act->World->Prop}:∀(l:List Oper) (k:Nat),l=ops.toList.drop k->∀{Δ:Env} {h:Hp} {w:World} {t:Tm} {a:Act},
  WR Δ h w->TR Δ n t a->∀{r:Tm×Hp},(regionC n ops.toList l).f call t h=some r->(∀e b w',Goes Δ h w n r.1 r.2 e b w'->Q .normal b w')->
  wpOps P0 ops Q (List.range' k l.length) a w
 | [],k,hl,Δ,h,w,t,a,hW,hT,r,hv,hQ=>by
   cases hv
   exact hQ _ _ _ (.start hT hW)
 | o ::l,k,hl,Δ,h,w,t,a,hW,hT,r,hv,hQ=>by
   have g:ops[k]? =some o:=by
     have:(ops.toList.drop k)[0]? =some o:=by rw[<-hl];rfl
     rw[wBI,wB0]at this;simpa using this
   have c:l=ops.toList.drop (k+1):=by
     rw[<-wBp,<-hl];rfl
   rw[wAX,List.range'_succ,wpOps_cons];refine Iu hc g hW hT hv λt' h' e b w' i d=>?_;exact Cp hc l (k+1) c d.world d.tmps i λj m p q=>hQ _ _ _ (d.trans q)
end
def LoopWp (c:Code) (Q:Exit->Act->World->Prop) (a:Act) (w:World):Prop:=
 ∀(b:Frame) (k:List Item) (cs:List Frame),∃e d w',Q e d w'/\Arrives P0 (lone (b.at a (.code c:: .inLoop c::k)) cs w) b k cs e d w'
theorem LoopWp.round {c:Code} {Q:Exit->Act->World->Prop} {a:Act} {w:World} (h:c.wp P0 (Exit.then (LoopWp c Q) Q) a w):LoopWp c Q a w:=by
 intro b k cs;obtain⟨e,g,i,hq,d⟩:=h b (.inLoop c::k) cs
 cases e with
 | normal=>
   obtain⟨m,n,o,j,f⟩:=hq b k cs
   exact⟨m,n,o,j,.of_steps (Steps.trans d (.one step_inLoop)) f⟩
 |exit id=>exact⟨_,g,i,hq,.pass (x:= .inLoop c) rfl (λ_ _=> .inl (by simp)) d⟩
 |goto l=>exact⟨_,g,i,hq,.pass (x:= .inLoop c) rfl (λ_ _=> .inl (by simp)) d⟩
 |ret=>exact⟨_,g,i,hq,.pass (x:= .inLoop c) rfl (λ_ _=> .inl (by simp)) d⟩
 |panic ch=>exact⟨_,g,i,hq,.pass (x:= .inLoop c) rfl (λ_ _=> .inl (by simp)) d⟩
 |outgrown=>exact⟨_,g,i,hq,.pass (x:= .inLoop c) rfl (λ_ _=> .inl (by simp)) d⟩
theorem LoopWp.wp {c:Code} {Q:Exit->Act->World->Prop} {a:Act} {w:World} (h:LoopWp c Q a w):(Code.loop c).wp P0 Q a w:=
 λb k cs=>let⟨e,a',w',q,r⟩:=h b k cs;⟨e,a',w',q,.of_steps (.one step_loop) r⟩
def Alike (t t':Tm)(x:Operand):Prop:=(evN x).f t=(evN x).f t'
theorem yG {t t':Tm} {l:List Operand} (h:∀d,d∈tmpsIn l->tget t d=tget t' d):∀x∈l,Alike t t' x:=by
 induction l with
 |nil=>intro x a;cases a
 | cons y l b=>
   intro x a
   cases a with
   | head=>
     unfold Alike
     cases y with
     |tmp i=>show some (tget t i)=some (tget t' i);rw[h i (by simp[tmpsIn])]
     |const v=>simp only[evN];split <;> rfl
     |global g=>rfl
     |func f=>rfl
   | tail _ a=>
     refine b (λd c=>h d ?_) x a;cases y <;> simp[tmpsIn,c]
section
variable{t t':Tm}{h:Hp}
theorem eR {x:Operand} (a:Alike t t' x):(evO x).f t h=(evO x).f t' h:=by
 unfold Alike at a
 cases x with
 |global g=>unfold evO;simp only;split <;> rfl
 |tmp i=>exact a
 |const v=>exact a
 |func f=>exact a
theorem nH:∀{l:List Operand},(∀x∈l,Alike t t' x)->evNs t l=evNs t' l
 |[],_=>rfl
 | x::l,hl=>by
   have a:(evN x).f t=(evN x).f t':=hl x (by simp);simp only[evNs,a,nH (l:=l) λy b=>hl y (wA0 _ b)]
theorem t8:∀{l:List (Nat×Operand)},(∀x∈l,Alike t t' x.2)->evParts t l=evParts t' l
 |[],_=>rfl
 | x::l,hl=>by
   have a:(evN x.2).f t=(evN x.2).f t':=hl x (by simp);simp only[evParts,a,t8 (l:=l) λy b=>hl y (wA0 _ b)]
theorem A9 {x:Option Operand} (a:∀y,x=some y->Alike t t' y):optF x t h=optF x t' h:=by
 cases x with
 |none=>rfl
 |some y=>simp only[optF,eR (a y rfl)]
theorem D0 {ty:Nat} {p:PF} (a:p.f t h=p.f t' h):(hload ty p).f t h=(hload ty p).f t' h:=by
 unfold hload;(repeat' split) <;> simp only[a]
theorem Ed {a b:Nat} {p:PF} (c:p.f t h=p.f t' h):(hconv a b p).f t h=(hconv a b p).f t' h:=by
 unfold hconv;split <;> first|rfl|simp only[c]|(split <;> first|rfl|simp only[c])
theorem Ad {a b:Nat} {p:PF} (c:p.f t h=p.f t' h):(hfieldAddr a p b).f t h=(hfieldAddr a p b).f t' h:=by
 unfold hfieldAddr;(repeat' split) <;> simp only[c]
theorem C9 {a b:Nat} {p:PF} (c:p.f t h=p.f t' h):(hfield a p b).f t h=(hfield a p b).f t' h:=by
 unfold hfield;split <;> simp only[c]
theorem zY {a:Nat} {p q:PF} (b:p.f t h=p.f t' h) (hq:q.f t h=q.f t' h):(hindexAddr a p q).f t h=(hindexAddr a p q).f t' h:=by
 unfold hindexAddr;(repeat' split) <;> simp only[b,hq]
theorem CY {a:Nat} {p q:PF} (b:p.f t h=p.f t' h) (hq:q.f t h=q.f t' h):(hindex a p q).f t h=(hindex a p q).f t' h:=by
 unfold hindex;(repeat' split) <;> simp only[b,hq]
theorem C8 {a:Nat} {p:PF} {lo hi:Option Operand} (b:p.f t h=p.f t' h) (c:optF lo t h=optF lo t' h) (d:optF hi t h=optF hi t' h) :
  (hslice a p lo hi).f t h=(hslice a p lo hi).f t' h:=by
 unfold hslice;(repeat' split) <;> simp only[b,c,d]
theorem BX {a:Nat} {p q:PF} {ok:Bool} (b:p.f t h=p.f t' h) (hq:q.f t h=q.f t' h):(hlookup a p q ok).f t h=(hlookup a p q ok).f t' h:=by
 unfold hlookup;(repeat' split) <;> simp only[b,hq]
theorem EC {a:Nat} {p:PF} (b:p.f t h=p.f t' h):(hlen a p).f t h=(hlen a p).f t' h:=by
 unfold hlen;split <;> simp only[b]
theorem B5 {a:Nat} {p:PF} {ok:Bool} (b:p.f t h=p.f t' h):(hassert p a ok).f t h=(hassert p a ok).f t' h:=by
 unfold hassert;split <;> simp only[b]
theorem DB {c p q:PF} (hc:c.f t h=c.f t' h) (a:p.f t h=p.f t' h) (hq:q.f t h=q.f t' h):(hpick c p q).f t h=(hpick c p q).f t' h:=by
 unfold hpick;simp only[hc,a,hq]
theorem Db {a:Nat} {ps:List (Nat×Operand)} (b:evParts t ps=evParts t' ps):(hbuild a ps).f t h=(hbuild a ps).f t' h:=by
 unfold hbuild;(repeat' split) <;> simp only[b]
theorem yM {o:Oper} (e:∀x∈o.op.operands.toList,Alike t t' x):(pureC o).f t h=(pureC o).f t' h:=by
 obtain⟨dst,op,ty,pos,af,gd⟩:=o;cases op <;> simp only[pureC] <;> simp only[Op.operands]at e
 case move x=>exact eR (e x (by simp))
 case assign x=>exact eR (e x (by simp))
 case pick c a b=>exact DB (eR (e c (by simp))) (eR (e a (by simp))) (eR (e b (by simp)))
 case load ty a=>exact D0 (eR (e a (by simp)))
 case nilCheck x=>simp only[hnilCheck,eR (h:=h) (e x (by simp))]
 case binOp op xt x y b=>simp only[eR (h:=h) (e x (by simp)),eR (h:=h) (e y (by simp))]
 case unOp op b x=>simp only[eR (h:=h) (e x (by simp))]
 case convert s d x=>exact Ed (eR (e x (by simp)))
 case build ty ps=>exact Db (t8 λp w=>e p.2 (by simp;exact⟨p.1,by simpa using w⟩))
 case makeFunc fn first caps=>
  cases fn with
  |func f=>simp only[nH (l:=first.toList) λx g=>e x (by simp at g⊢;exact .inl g),nH (l:=caps.toList) λx g=>e x (by simp at g⊢;exact .inr g)]
  |_=>rfl
 case slice ty x lo hi mx=>
  cases mx with
  |none=>exact C8 (eR (e x (by simp))) (A9 λy n=>e y (by simp[n])) (A9 λy n=>e y (by simp[n]))
  |some _=>rfl
 case fieldAddr s x f=>exact Ad (eR (e x (by simp)))
 case field s x f=>exact C9 (eR (e x (by simp)))
 case indexAddr ty x i=>exact zY (eR (e x (by simp))) (eR (e i (by simp)))
 case index ty x i=>exact CY (eR (e x (by simp))) (eR (e i (by simp)))
 case lookup ty m k ok=>exact BX (eR (e m (by simp))) (eR (e k (by simp)))
 case extract x i=>simp only[hextract,eR (h:=h) (e x (by simp))]
 case makeInterface ty x=>
  split
  ·simp only[eR (h:=h) (e x (by simp))]
  ·rfl
 case typeAssert x b asserted ok=>exact B5 (eR (e x (by simp)))
 case call c=>
  obtain⟨q,args,z⟩:=c
  cases q with
  | builtin b=>
    have r:∀x∈args.toList,Alike t t' x:=λx u=>e x (by simp[Call.operands]at u⊢;exact u);cases b <;> simp only
    case len=>
      split
      ·rename_i x ty v j _
       exact EC (eR (r x (by simp[j])))
      ·rfl
    case min=>simp only[nH r]
    case max=>simp only[nH r]
    all_goals rfl
  |_=>rfl
 all_goals rfl
theorem Ae{x:Operand}(a:Alike t t' x):(evN x).f t=(evN x).f t':=a
theorem Ah {o:Oper} (a:∀x∈o.op.operands.toList,Alike t t' x):(allocC o).f t=(allocC o).f t':=by
 obtain⟨dst,op,ty,pos,af,gd⟩:=o;cases op <;> simp only[allocC] <;> simp only[Op.operands]at a
 case alloc e=>split <;> rfl
 case box e x=>simp only[Ae (a x (by simp))]
 case buildSlice ty len parts=>
  (repeat' split) <;> first
   |rfl
   |simp only[hbuildSlice,t8 (t:=t) (t':=t') (l:=parts.toList) λp b=>a p.2 (by simp;exact⟨p.1,by simpa using b⟩)]
 case makeSlice ty n c=>
  (repeat' split) <;> first
   |rfl
   |simp only[Ae (a n (by simp)),Ae (a c (by simp))]
 case makeMap ty r=>
  cases r with
  |none=>simp only;split <;> rfl
  |some _=>rfl
 all_goals rfl
theorem Eo {o:Oper} (g:∀x∈o.op.operands.toList,Alike t t' x):(writeC o).f t h=(writeC o).f t' h:=by
 obtain⟨dst,op,ty,pos,af,gd⟩:=o;cases op <;> simp only[writeC] <;> simp only[Op.operands]at g
 case store ty a x=>
  split
  ·simp only[eR (h:=h) (g a (by simp)),eR (h:=h) (g x (by simp))]
  ·rfl
 case mapUpdate ty m k x=>
  (repeat' split) <;> first
   |rfl
   |simp only[eR (h:=h) (g m (by simp)),eR (h:=h) (g k (by simp)),eR (h:=h) (g x (by simp))]
 case insert ty m k x=>
  (repeat' split) <;> first
   |rfl
   |simp only[eR (h:=h) (g m (by simp)),eR (h:=h) (g k (by simp)),eR (h:=h) (g x (by simp))]
 case range ty x=>
  split
  ·simp only[eR (h:=h) (g x (by simp))]
  ·rfl
 case next x isS=>
  cases isS with
  |true=>rfl
  |false=>simp only[eR (h:=h) (g x (by simp))]
 case entry x=>simp only[eR (h:=h) (g x (by simp))]
 case convert s d x=>
  (repeat' split) <;> first
   |rfl
   |simp only[eR (h:=h) (g x (by simp))]
 case call c=>
  obtain⟨l,args,p⟩:=c
  cases l with
  | builtin b=>
    have i:∀x∈args.toList,Alike t t' x:=λx j=>g x (by simp[Call.operands]at j⊢;exact j);cases b <;> simp only
    case append=>
      split
      ·rename_i s x n xT e _
       (repeat' split) <;> first
         |rfl
         |simp only[eR (h:=h) (i s (by simp[e])),eR (h:=h) (i x (by simp[e]))]
      ·rfl
    case copy=>
      split
      ·rename_i s x n xT e _
       (repeat' split) <;> first
         |rfl
         |simp only[eR (h:=h) (i s (by simp[e])),eR (h:=h) (i x (by simp[e]))]
      ·rfl
    case delete=>
      split
      ·rename_i s x n xT e _
       (repeat' split) <;> first
         |rfl
         |simp only[eR (h:=h) (i s (by simp[e])),eR (h:=h) (i x (by simp[e]))]
      ·rfl
    all_goals rfl
  | value f=>
    have i:∀x∈args.toList,Alike t t' x:=λx j=>g x (by simp[Call.operands]at j⊢;exact .inr j)
    simp only[eR (h:=h) (g f (by simp[Call.operands])),nH i]
  | invoke r m=>
    have i:∀x∈args.toList,Alike t t' x:=λx j=>g x (by simp[Call.operands]at j⊢;exact .inr j);simp only[eR (h:=h) (g r (by simp[Call.operands])),nH i]
 all_goals rfl
theorem Bg {call:Call} {o:Oper} (a:∀x∈o.op.operands.toList,Alike t t' x):(opC o).f call t h=(opC o).f call t' h:=by
 unfold opC;split
 ·simp only[yM (h:=h) a]
 ·simp only[Ah a]
 ·simp only[Eo (h:=h) a]
end
theorem uO:∀(l:List Oper) (i:Nat) (b:List Nat) (k:Nat) (a:It),(items l i b)[k]? =some a->a.i=i+k/\l[k]? =some a.o
 |[],i,b,k,a,h=>by simp[items]at h
 |o::os,i,b,0,a,h=>by simp[items]at h;subst h;exact⟨rfl,rfl⟩
 | o::os,i,b,k+1,a,h=>by
   simp only[items,wAj]at h;obtain⟨d,c⟩:=uO os (i+1) _ k a h;exact⟨by omega,by simpa using c⟩
theorem zx:∀(l:List Oper) (i:Nat) (a:List Nat),(items l i a).length=l.length
 |[],i,a=>rfl
 |o::os,i,a=>by simp[items,zx os]
theorem ue (b:List Nat) (x:Nat):∀(d:List Edge) (m:Nat),(maskE b d m).testBit x=true->m.testBit x=true\/∃e∈d,bindsE e=true/\(x=e.on\/(b[e.on]?.getD 0).testBit x=true)
 |[],m,h=> .inl h
 | e ::d,m,h=>by
   simp only[maskE]at h;split at h
   ·rename_i i
    rcases ue b x d _ h with a|⟨f,g,c,a⟩
    ·rw[Nat.testBit_or,Nat.testBit_or,Nat.testBit_two_pow]at a
     simp only[wAw,wAe]at a;rcases a with a|a|a
     ·exact .inl a
     ·exact .inr ⟨e,by simp,i,.inl a.symm⟩
     ·exact .inr ⟨e,by simp,i,.inr a⟩
    ·exact .inr ⟨f,by simp[g],c,a⟩
   ·rcases ue b x d _ h with a|⟨f,g,c,a⟩
    ·exact .inl a
    ·exact .inr ⟨f,by simp[g],c,a⟩
theorem FE:∀(l:List Oper) (i:Nat) (c:List Nat) (k:Nat) (a:It),(items l i c)[k]? =some a->
  a.b=maskE (c++((items l i c).take k).map (·.b)) a.o.after.toList 0
 |[],i,c,k,a,h=>by simp[items]at h
 |o::os,i,c,0,a,h=>by simp[items]at h;subst h;simp
 | o::os,i,c,k+1,a,h=>by
   simp only[items,wAj]at h;have:=FE os (i+1) _ k a h;rw[this];simp[items,wAU]
theorem BJ {l:List Oper} {k:Nat} {a:It} (h:(items l 0 [])[k]? =some a) {x:Nat} (d:a.b.testBit x=true) :
  ∃e∈a.o.after.toList,bindsE e=true/\(x=e.on\/∃y,(items l 0 [])[e.on]? =some y/\y.b.testBit x=true):=by
 rw[FE l 0 [] k a h]at d;rcases ue _ x _ _ d with c|⟨e,f,g,c⟩
 ·simp at c
 ·refine ⟨e,f,g,?_⟩;rcases c with c|c
  ·exact .inl c
  ·right;rw[wAl,wAQ,List.getElem?_take]at c;split at c
   ·cases hy:(items l 0 [])[e.on]? with
    |none=>rw[hy]at c;simp at c
    |some y=>rw[hy]at c;exact⟨y,rfl,by simpa using c⟩
   ·simp at c
theorem xO (e:Edge):Region.binds .any e=bindsE e:=by
 unfold Region.binds bindsE;cases e.ground <;> rfl
def lastV (val:Nat->V)(D:Nat->Bool)(d:Nat)(its:List It)(b:V):V:=its.foldl (λv a=>if D a.i=true/\a.o.dst=some d then val a.i else v) b
theorem kP {val val':Nat->V} {D D':Nat->Bool} {d:Nat} {its:List It} (e:∀a∈its,a.o.dst=some d->D a.i=D' a.i) (f:∀a∈its,a.o.dst=some d->D a.i=true->val a.i=val' a.i) (b:V) :
  lastV val D d its b=lastV val' D' d its b:=by
 unfold lastV
 induction its generalizing b with
 |nil=>rfl
 | cons a its g=>
   simp only[List.foldl_cons];have hs:(if D a.i=true/\a.o.dst=some d then val a.i else b)=(if D' a.i=true/\a.o.dst=some d then val' a.i else b):=by
     by_cases hd:a.o.dst=some d
     ·rw[<-e a (by simp) hd]
      by_cases hD:D a.i=true
      ·rw[if_pos ⟨hD,hd⟩,if_pos ⟨hD,hd⟩,f a (by simp) hd hD]
      ·rw[if_neg (λh=>hD h.1),if_neg (λh=>hD h.1)]
     ·rw[if_neg (λh=>hd h.2),if_neg (λh=>hd h.2)]
   rw[hs];exact g (λx c=>e x (by simp[c])) (λx c=>f x (by simp[c])) _
theorem yz {val:Nat->V} {D:Nat->Bool} {d:Nat} {its:List It} (h:∀a∈its,a.o.dst=some d->D a.i=false) (b:V):lastV val D d its b=b:=by
 unfold lastV
 induction its generalizing b with
 |nil=>rfl
 | cons a its e=>
   simp only[List.foldl_cons];rw[if_neg (λc=>by rw[h a (by simp) c.2]at c;cases c.1)];exact e (λx f=>h x (by simp[f])) _
theorem GP {val:Nat->V} {D:Nat->Bool} {d:Nat} {its:List It} (e:∀(k:Nat) (x:It),its[k]? =some x->x.i=k) {a:It} (l:a∈its) (m:a.o.dst=some d) (n:D a.i=true)
  (h:∀x∈its,a.i<x.i->x.o.dst=some d->D x.i=false) (p:V):lastV val D d its p=val a.i:=by
 obtain ⟨k,g⟩:=wAD.1 l;have r:=e k a g;have f:k<its.length:=(wAB.1 g).1;have b:its=its.take k++a::its.drop (k+1):=by
  have s:its.drop k=a::its.drop (k+1):=by
   rw[wBE f];rw[wAA f]at g;cases g;rfl
  rw[<-s,wA8]
 have c:∀x∈its.drop (k+1),x.o.dst=some d->D x.i=false:=by
  intro x t j;obtain⟨q,hq⟩:=wAD.1 t;rw[wBI]at hq;have:=e _ x hq;exact h x (wAD.2 ⟨_,hq⟩) (by omega) j
 unfold lastV;rw[b,List.foldl_append,List.foldl_cons,if_pos ⟨n,m⟩];exact yz c _
def More (h h':Hp):Prop:=h.next<=h'.next/\∀l,l<h.next->h'.get l=h.get l
theorem More.refl (h:Hp):More h h:=⟨wAF _,λ_ _=>rfl⟩
theorem More.trans{h h' c:Hp}(a:More h h')(b:More h' c):More h c:=⟨wAq a.1 b.1,λl d=>by rw[b.2 l (wAO d a.1),a.2 l d]⟩
theorem More.new (h:Hp)(o:O):More h (h.new o):=⟨wBZ _,λl a=>by rw[pQ,if_neg (Nat.ne_of_gt a)]⟩
theorem WR.onward {Δ:Env} {h h':Hp} {w:World} (a:WR Δ h w) (b:More h h'):WR Δ h' w where
 fresh:=λl d f=>wAO (a.fresh l d f) b.1
 blk:=a.blk
 obj:=λl d f=>by rw[b.2 l (a.fresh l d f)];exact a.obj l d f
 apart:=λm i e k p t n o j q r=>by
  rw[b.2 m (a.fresh m e n)]at q;rw[b.2 i (a.fresh i k o)]at r;exact a.apart m i e k p t n o j q r
 glob:=λg p c s=>by
  rw[b.2 g (wAO c a.gnext)]at s;exact a.glob g p c s
 gnext:=wAq a.gnext b.1
 tab:=a.tab
theorem O.eq_of_beq {a b:O} (h:O.beq a b=true):a=b:=by
 unfold O.beq at h;split at h
 ·simp only[wAJ,wAt]at h;obtain⟨⟨⟨⟨rfl,rfl⟩,rfl⟩,rfl⟩,c⟩:=h;rw[V.eq_of_beqs _ _ c]
 ·simp only[wAt]at h;rw[h]
 ·cases h
structure Tc where
 on:Nat->Bool
 val:Nat->V
 tt:Nat->Tm
 ep:Nat->Nat
 pl:Nat->Nat
 ob:Nat->O
 H:Nat->Hp
 G:Nat->Hp
def Closed (its:List It)(D:Nat->Bool):Prop:=∀a∈its,D a.i=true->∀x∈its,a.b.testBit x.i=true->D x.i=true
section
variable (n:Nat)(all:List Oper)(its ws:List It)(call:Call)(t0:Tm)(h0:Hp)
structure ItemOk (T:Tc) (D:Nat->Bool) (a:It):Prop where
 fresh:D a.i=false
 closed:Closed its D
 preds:∀x∈its,a.b.testBit x.i=true->D x.i=true
 temps:∀d,tget (T.tt a.i) d=lastV T.val D d its (tget t0 d)
 dst:∃d,dstC n a.o=some d
 wants:wants n all a.o (T.tt a.i)=some (T.on a.i)
 off:T.on a.i=false->T.val a.i = .undef
 epw:cls a.o≠2->afterOk ws a (T.ep a.i)=true
 epl:T.ep a.i<=ws.length
 pure:cls a.o=0->T.on a.i=true->∀j,T.ep a.i<=j->j<=ws.length->j<=late ws a->(pureC a.o).f (T.tt a.i) (T.H j)=some (T.val a.i)
 alloc:cls a.o=1->T.on a.i=true->(∃mk,(allocC a.o).f (T.tt a.i)=some (T.ob a.i,mk)/\T.val a.i=mk (T.pl a.i))/\
  (∀j,T.ep a.i<=j->j<=ws.length->T.pl a.i<(T.H j).next/\(j<=late ws a->(T.H j).get (T.pl a.i)=some (T.ob a.i)))/\
  (∀j,j<T.ep a.i->(T.G j).next<=T.pl a.i)/\h0.next<=T.pl a.i
 write:cls a.o=2->isW ws a (T.ep a.i)=true/\(T.on a.i=true->(opC a.o).f call (T.tt a.i) (T.H (T.ep a.i))=some (T.val a.i,T.G (T.ep a.i)))/\
  (T.on a.i=false->T.G (T.ep a.i)=T.H (T.ep a.i))
structure TraceOk (l:List It) (m k:Nat) (h:Hp) (rs:List Rec) (r:Tm×Hp) (b T:Tc):Prop where
 same:∀i,m.testBit i=true->T.on i=b.on i/\T.val i=b.val i/\T.tt i=b.tt i/\T.ep i=b.ep i/\T.pl i=b.pl i/\T.ob i=b.ob i
 sameH:∀j,j<k->T.H j=b.H j/\T.G j=b.G j
 item:∀a∈l,∃D,ItemOk n all its ws call t0 h0 T D a
 recs:∀r∈rs,∀j,k<=j->j<=ws.length->r.last<j\/holdsAt (T.H j) r=true
 more:More h (T.H k)
 chain:∀j,k<=j->j<ws.length->(T.H j).next<=(T.G j).next/\More (T.G j) (T.H (j+1))
 plow:∀a∈l,cls a.o=1->T.on a.i=true->h.next<=T.pl a.i
 pdist:∀a∈l,∀c∈l,cls a.o=1->cls c.o=1->T.on a.i=true->T.on c.i=true->a.i≠c.i->T.pl a.i≠T.pl c.i
 last:r.2=T.H ws.length
 temps:∀d,tget r.1 d=lastV T.val (λ_=>true) d its (tget t0 d)
 done:∀a∈its,m.testBit a.i=true\/a.i∈l.map (·.i)
 kle:k<=ws.length
end
theorem wz {ws:List It} {T:Tc} {k:Nat} (h:∀j,k<=j->j<ws.length->(T.H j).next<=(T.G j).next/\More (T.G j) (T.H (j+1))):∀(m j:Nat),j=k+m->j<=ws.length->(T.H k).next<=(T.H j).next:=by
 intro m
 induction m with
 |zero=>intro j b _;rw[b];exact wAF _
 | succ m c=>
   intro j b d;obtain⟨a,rfl⟩:∃a,j=a+1:=⟨j-1,by omega⟩
   have e:=c a (by omega) (by omega);obtain⟨f,g⟩:=h a (by omega) (by omega);exact wAq e (wAq f g.1)
theorem zF (m i x:Nat):(m |||2 ^ i).testBit x=(m.testBit x ||decide (i=x)):=by rw[Nat.testBit_or,Nat.testBit_two_pow]
theorem Av {l:List It} (h:pairsOk l=true):∀(i j:Nat) (a b:It),i<j->l[i]? =some a->l[j]? =some b->pairOk a b=true:=by
 induction l with
 |nil=>intro i j a b _ c;simp at c
 | cons x l f=>
   intro i j a b g c d;simp only[pairsOk,wAJ]at h;obtain⟨e,rfl⟩:∃e,j=e+1:=⟨j-1,by omega⟩
   simp only[wAj]at d
   cases i with
   | zero=>
     simp at c;subst c
     exact wAs.1 h.1 b (wAD.2 ⟨_,d⟩)
   |succ i=>exact f h.2 i e a b (by omega) (by simpa using c) d
theorem Cd {its:List It} (c:∀(k:Nat) (x:It),its[k]? =some x->x.i=k) (h:pairsOk its=true) {a x:It} (m:a∈its) (n:x∈its) {d:Nat} (p:d∈namesOf a.o) (e:x.o.dst=some d) :
  (x.i<a.i->a.b.testBit x.i=true)/\(a.i<x.i->x.b.testBit a.i=true):=by
 obtain⟨i,hi⟩:=wAD.1 m;obtain⟨j,f⟩:=wAD.1 n;have q:=c i a hi;have r:=c j x f;have l:writes x.o (namesOf a.o)=true:=by simp[writes,e,p]
 constructor
 ·intro g;have:=Av h j i x a (by omega) f hi;unfold pairOk at this;simpa[l]using this
 ·intro g;have:=Av h i j a x (by omega) hi f;unfold pairOk at this;simpa[l]using this
theorem FX{o:Oper}{d:Nat}(h:o.dst=some d):d∈namesOf o:=by simp[namesOf,h]
theorem yC {its:List It} (f:∀(k:Nat) (x:It),its[k]? =some x->x.i=k) (s:pairsOk its=true) {a:It} (g:a∈its) {D D':Nat->Bool} (t:Closed its D) (j:Closed its D')
  (u:∀x∈its,a.b.testBit x.i=true->D x.i=true) (l:∀x∈its,a.b.testBit x.i=true->D' x.i=true) (m:D a.i=false) (c:D' a.i=false) {d:Nat} (v:d∈namesOf a.o) (val:Nat->V) (n:V) :
  lastV val D d its n=lastV val D' d its n:=by
 refine kP (λx e p=>?_) (λ_ _ _ _=>rfl) n;obtain⟨q,r⟩:=Cd f s g e v p;rcases wBq x.i a.i with h|h|h
 ·rw[u x e (q h),l x e (q h)]
 ·rw[h,m,c]
 ·have w:D x.i=false:=by
   cases hh:D x.i with
   |false=>rfl
   |true=>rw[t x e hh a g (r h)]at m;cases m
  have y:D' x.i=false:=by
   cases hh:D' x.i with
   |false=>rfl
   |true=>rw[j x e hh a g (r h)]at c;cases c
  rw[w,y]
theorem xD {its:List It} (b:∀(k:Nat) (x:It),its[k]? =some x->x.i=k) (s:pairsOk its=true) {a:It} (m:a∈its) {D D':Nat->Bool} (t:Closed its D) (r:D a.i=false)
  (f:∀i,D' i=(D i ||decide (a.i=i))) {val val':Nat->V} (u:∀i,D i=true->val' i=val i) (d:Nat) (p:V) :
  lastV val' D' d its p=if a.o.dst=some d then val' a.i else lastV val D d its p:=by
 by_cases hd:a.o.dst=some d
 ·rw[if_pos hd];refine GP b m hd (by rw[f];simp) (λx l n c=>?_) p;rw[f];have q:a.i≠x.i:=wBN n;have:=(Cd b s m l (FX hd) c).2 n
  cases hh:D x.i with
  |false=>simp[q]
  |true=>rw[t x l hh a m this]at r;cases r
 ·rw [if_neg hd];refine kP (λx l c=>?_) (λx l c g=>?_) p
  ·rw [f];have:a.i≠x.i:=by
    intro e;obtain⟨i,hi⟩:=wAD.1 m;obtain⟨j,h⟩:=wAD.1 l;have v:=b i a hi;have w:=b j x h;have:i=j:=by omega
    subst this;rw[hi]at h;cases h;exact hd c
   simp[this]
  ·rw [f]at g;have:a.i≠x.i:=by
    intro e;obtain⟨i,hi⟩:=wAD.1 m;obtain⟨j,h⟩:=wAD.1 l;have v:=b i a hi;have w:=b j x h;have:i=j:=by omega
    subst this;rw[hi]at h;cases h;exact hd c
   simp[this]at g;exact u x.i g
def upd{α:Type}(f:Nat->α)(i:Nat)(v:α):Nat->α:=λj=>if j=i then v else f j
theorem iZ{α:Type}(f:Nat->α)(i:Nat)(v:α):upd f i v i=v:=if_pos rfl
theorem t9{α:Type}(f:Nat->α){i j:Nat}(v:α)(h:j≠i):upd f i v j=f j:=if_neg h
theorem Aa (o:Oper):cls o=0\/cls o=1\/cls o=2:=by
 unfold cls;split
 all_goals first
  |exact .inl rfl
  |exact .inr (.inl rfl)
  |exact .inr (.inr rfl)
  | (split <;> first
    |exact .inl rfl
    |exact .inr (.inl rfl)
    |exact .inr (.inr rfl))
theorem zt {n:Nat} {o:Oper} {d:DF} (h:dstC n o=some d) (t:Tm) (v:V) (i:Nat):tget (d.f t v) i=if o.dst=some i then v else tget t i:=by
 unfold dstC at h
 cases ho:o.dst with
 |none=>simp only[ho]at h;cases h;rw[if_neg (λe=>by cases e)]
 | some k=>
   simp only[ho]at h
   cases hk:Nat.blt k n with
   |false=>simp[hk]at h
   | true=>
     simp only[hk]at h;cases h;show tget (t.set k v) i=_;rw[BD];by_cases e:k=i
     ·rw[if_pos e,if_pos (by rw[e])]
     ·rw[if_neg e,if_neg (λh=>e (by cases h;rfl))]
theorem qv {n:Nat} {o:Oper} {d:DF} (h:dstC n o=some d) (t:Tm) (v:V):(d.f t v).ds=t.ds:=by
 unfold dstC at h
 cases ho:o.dst with
 |none=>simp only[ho]at h;cases h;rfl
 | some k=>
   simp only[ho]at h
   cases hk:Nat.blt k n with
   |false=>simp[hk]at h
   |true=>simp only[hk]at h;cases h;exact Tm.ds_set _ _ _
theorem tO {n:Nat} {all:List Oper} {ws:List It} {call:Call}:∀(l:List It) (k:Nat) {t:Tm} {h:Hp} {rs:List Rec} {r:Tm×Hp},(seqC n all ws l k).f call t h rs=some r->r.1.ds=t.ds
 | [],_,t,h,rs,r,hv=>by
   simp only[seqC,fm]at hv
   cases hv.2;rfl
 | a ::l,k,t,h,rs,r,hv=>by
   unfold seqC at hv
   cases hd:dstC n a.o with
   |none=>rw[hd]at hv;cases hv
   | some d=>
     rw[hd]at hv;simp only at hv;split at hv
     ·simp only[pureS,ei]at hv
      obtain⟨b,_,c⟩:=hv
      cases b with
      |false=>rw[tO l _ c,qv hd]
      | true=>
        simp only[ei]at c;obtain⟨x,_,e⟩:=c;rw[tO l _ e,qv hd]
     ·simp only[allocS,ei]at hv
      obtain⟨b,_,c⟩:=hv
      cases b with
      |false=>rw[tO l _ c,qv hd]
      | true=>
        simp only[ei]at c;obtain⟨x,_,e⟩:=c;rw[tO l _ e,qv hd]
     ·simp only[writeS,ei,fm]at hv
      obtain⟨_,b,_,c⟩:=hv
      cases b with
      |false=>rw[tO l _ c,qv hd]
      | true=>
        simp only[ei,fm]at c;obtain⟨x,_,_,e⟩:=c;rw[tO l _ e,qv hd]
section
variable{n:Nat}{all:List Oper}{its ws:List It}{call:Call}{t0:Tm}{h0:Hp}
theorem TraceOk.cons {l:List It} {a:It} {m k k':Nat} {h h':Hp} {rs A:List Rec} {r:Tm×Hp} {d T1 T:Tc} (c:TraceOk n all its ws call t0 h0 l (m |||2 ^ a.i) k' h' A r T1 T)
  (B:∀i,m.testBit i=true->T1.on i=d.on i/\T1.val i=d.val i/\T1.tt i=d.tt i/\T1.ep i=d.ep i/\T1.pl i=d.pl i/\T1.ob i=d.ob i)
  (I:∀j,j<k->T1.H j=d.H j/\T1.G j=d.G j) (P:k<=k') (f:∃D,ItemOk n all its ws call t0 h0 T D a)
  (g:∀r∈rs,∀j,k<=j->j<=ws.length->r.last<j\/holdsAt (T.H j) r=true) (p:More h (T.H k))
  (e:∀j,k<=j->j<k'->(T.H j).next<=(T.G j).next/\More (T.G j) (T.H (j+1)))
  (q:cls a.o=1->T.on a.i=true->h.next<=T.pl a.i/\T.pl a.i<h'.next) (hnext:h.next<=h'.next) (C:k<=ws.length):TraceOk n all its ws call t0 h0 (a::l) m k h rs r d T where
 same:=λi hi=>by
  obtain⟨a1,a2,a3,a4,J,K⟩:=c.same i (by rw[zF,hi];rfl);obtain⟨b1,b2,b3,L,M,N⟩:=B i hi;exact⟨a1.trans b1,a2.trans b2,a3.trans b3,a4.trans L,J.trans M,K.trans N⟩
 sameH:=λj E=>by
  obtain⟨a1,a2⟩:=c.sameH j (by omega);obtain⟨b1,b2⟩:=I j E;exact⟨a1.trans b1,a2.trans b2⟩
 item:=λx b=>by
  cases b with
  |head=>exact f
  |tail _ b=>exact c.item x b
 recs:=g
 more:=p
 chain:=λj B O=>by
  by_cases E:j<k'
  ·exact e j B E
  ·exact c.chain j (by omega) O
 plow:=λx b hc F=>by
  cases b with
  |head=>exact(q hc F).1
  |tail _ b=>exact wAq hnext (c.plow x b hc F)
 pdist:=λx b y w s t u v z=>by
  cases b with
  | head=>
    cases w with
    |head=>exact absurd rfl z
    |tail _ w=>have:=(q s u).2;have:=c.plow y w t v;omega
  | tail _ b=>
    cases w with
    |head=>have:=(q t v).2;have:=c.plow x b s u;omega
    |tail _ w=>exact c.pdist x b y w s t u v z
 last:=c.last
 temps:=c.temps
 done:=λx b=>by
  rcases c.done x b with h|h
  ·rw[zF]at h;simp only[wAw,wAe]at h;rcases h with h|h
   ·exact .inl h
   ·exact .inr (by simp[h])
  ·exact .inr (by rw[wBO];exact wA0 _ h)
 kle:=C
theorem trace (F:∀(k:Nat) (x:It),its[k]? =some x->x.i=k) (hp:pairsOk its=true):∀(l:List It) (m k:Nat) (t:Tm) (h:Hp) (rs:List Rec) (r:Tm×Hp) (u:Tc),
  (∀a∈l,a∈its)->orderOk its ws l m k=true->(seqC n all ws l k).f call t h rs=some r->Closed its m.testBit->(∀d,tget t d=lastV u.val m.testBit d its (tget t0 d))->
  h0.next<=h.next->(∀j,j<k->(u.G j).next<=h.next)->k<=ws.length->∃T,TraceOk n all its ws call t0 h0 l m k h rs r u T
 | [],m,k,t,h,rs,r,u,hsub,c,s,hcl,ht,hn0,hG,hkl=>by
   simp only[orderOk,wAJ]at c;obtain⟨aa,hk⟩:=c;have an:k=ws.length:=wAG hk;simp only[seqC,fm]at s;obtain⟨U,s⟩:=s;cases s;refine⟨{u with H:=upd u.H k h},⟨λi _=>⟨rfl,rfl,rfl,rfl,rfl,rfl⟩,λj P=>⟨t9 _ _ (by omega),rfl⟩,λa Q=>(nomatch Q),?_,?_,λj h1 h2=>by omega,λa Q=>(nomatch Q),λa Q=>(nomatch Q),?_,?_,?_,hkl⟩⟩
   ·intro q hq j h1 h2
    have:j=k:=by omega
    subst this;show q.last<j\/holdsAt (upd u.H j h j) q=true;rw[iZ];unfold stable at U;have:=wAs.1 U q hq;simp only[wAw,wBV]at this;exact this
   ·show More h (upd u.H k h k)
    rw[iZ];exact .refl h
   ·show h=upd u.H k h ws.length
    rw[<-an,iZ]
   ·intro d
    rw[ht d];refine kP (λa Q _=>?_) (λ_ _ _ _=>rfl) _;exact wAs.1 aa a Q
   ·intro a Q
    exact .inl (wAs.1 aa a Q)
 | a ::l,m,k,t,h,rs,r,u,hsub,c,s,hcl,ht,hn0,hG,hkl=>by
   have Q:a∈its:=hsub a (by simp);have C:∀x∈l,x∈its:=λx hx=>hsub x (by simp[hx]);simp only[orderOk,wAJ,wBl]at c;obtain⟨K,ao,c⟩:=c;have z:∀x∈its,a.b.testBit x.i=true->m.testBit x.i=true:=λx hx hb=>by
     have:=wAs.1 ao x hx;simpa[hb]using this
   have I:Closed its (m |||2 ^ a.i).testBit:=λx hx L y hy hb=>by
     rw[zF]at L⊢;simp only[wAw,wAe]at L;rcases L with L|L
     ·rw[hcl x hx L y hy hb];rfl
     ·have:x=a:=by
        obtain⟨i,hi⟩:=wAD.1 Q;obtain⟨j,P⟩:=wAD.1 hx;have h3:=F i a hi;have h4:=F j x P;have:i=j:=by omega
        subst this;rw[hi]at P;cases P;rfl
      subst this;rw[z y hy hb];rfl
   simp only[seqC]at s
   cases hd:dstC n a.o with
   |none=>simp only[hd]at s;cases s
   | some d =>
     simp only[hd]at s
     let T1:Bool->V->Nat->O->(Nat->Hp)->(Nat->Hp)->Tc:=λb v p ob H G=>⟨upd u.on a.i b,upd u.val a.i v,upd u.tt a.i t,upd u.ep a.i k,upd u.pl a.i p,upd u.ob a.i ob,H,G⟩
     have h1:∀b v p ob H G,∀i,m.testBit i=true->(T1 b v p ob H G).on i=u.on i/\(T1 b v p ob H G).val i=u.val i/\(T1 b v p ob H G).tt i=u.tt i/\(T1 b v p ob H G).ep i=u.ep i/\
        (T1 b v p ob H G).pl i=u.pl i/\(T1 b v p ob H G).ob i=u.ob i:=λb v p ob H G i hi=>by
       have M:i≠a.i:=λe=>by rw[e,K]at hi;cases hi
       exact⟨t9 _ _ M,t9 _ _ M,t9 _ _ M,t9 _ _ M,t9 _ _ M,t9 _ _ M⟩
     have W:∀b v p ob H G,∀N,tget (d.f t v) N=lastV (T1 b v p ob H G).val (m |||2 ^ a.i).testBit N its (tget t0 N):=λb v p ob H G N=>by
       rw[zt hd,xD F hp Q hcl K (λi=>zF m a.i i) (val:=u.val) (val':=(T1 b v p ob H G).val) (λi hi=>(h1 b v p ob H G i hi).2.1) N (tget t0 N)];rw[ht N];show _=if _ then upd u.val a.i v a.i else _
       rw[iZ]
     have self:∀{b v p ob H G l' k' h' ah T},TraceOk n all its ws call t0 h0 l' (m |||2 ^ a.i) k' h' ah r (T1 b v p ob H G) T->
        T.on a.i=b/\T.val a.i=v/\T.tt a.i=t/\T.ep a.i=k/\T.pl a.i=p/\T.ob a.i=ob/\(∀N,tget (T.tt a.i) N=lastV T.val m.testBit N its (tget t0 N)):=λ{b v p ob H G l' k' h' ah T} A=>by
       obtain⟨a1,a2,a3,a4,a5,a6⟩:=A.same a.i (by rw[zF];simp);refine⟨a1.trans (iZ _ _ _),a2.trans (iZ _ _ _),a3.trans (iZ _ _ _),a4.trans (iZ _ _ _),a5.trans (iZ _ _ _),a6.trans (iZ _ _ _),λN=>?_⟩;rw[a3.trans (iZ _ _ _),ht N];refine(kP (λ_ _ _=>rfl) (λx hx _ ai=>?_) _).symm;rw[(A.same x.i (by rw[zF,ai];rfl)).2.1,(h1 b v p ob H G x.i ai).2.1]
     rcases Aa a.o with hc|hc|hc
     ·
       have X:Nat.beq (cls a.o) 2=false:=by rw[hc];rfl
       rw[X]at c;simp only[wAJ]at c;obtain⟨D,c⟩:=c;rw[hc]at s;simp only[pureS,ei]at s;obtain⟨b,R,s⟩:=s
       cases b with
       | false=>
         obtain⟨T,A⟩:=trace F hp l _ k _ h rs r (T1 false .undef 0 default u.H u.G) C c s I (W _ _ _ _ _ _) hn0 hG hkl;obtain⟨J,Z,S,E,s5,s6,s7⟩:=self A
         refine ⟨T,A.cons (h1 _ _ _ _ _ _) (λj _=>⟨rfl,rfl⟩) (wAF _) ⟨m.testBit,K,hcl,z,s7,⟨d,hd⟩,by rw[J,S];exact R,λ_=>Z,λ_=>by rw[E];exact D,by rw[E];exact hkl,
           λ_ B=>(by rw[J]at B;cases B),λg=>(by rw[hc]at g;cases g),λg=>(by rw[hc]at g;cases g)⟩ A.recs A.more (λj _ _=>by omega) (λg=>(by rw[hc]at g;cases g)) (wAF _) hkl⟩
       | true=>
         simp only[ei]at s;obtain⟨v,aj,s⟩:=s;obtain⟨T,A⟩:=trace F hp l _ k _ h _ r (T1 true v 0 default u.H u.G) C c s I (W _ _ _ _ _ _) hn0 hG hkl;obtain⟨J,Z,S,E,s5,s6,s7⟩:=self A
         refine ⟨T,A.cons (h1 _ _ _ _ _ _) (λj _=>⟨rfl,rfl⟩) (wAF _) ⟨m.testBit,K,hcl,z,s7,⟨d,hd⟩,by rw[J,S];exact R,λB=>(by rw[J]at B;cases B),λ_=>by rw[E];exact D,by rw[E];exact hkl,
           λ_ _ j j1 j2 j3=>?_,λg=>(by rw[hc]at g;cases g),λg=>(by rw[hc]at g;cases g)⟩ (λq hq=>A.recs q (by simp[hq])) A.more (λj _ _=>by omega) (λg=>(by rw[hc]at g;cases g)) (wAF _) hkl⟩
         rw[E]at j1;rcases A.recs _ (wA9 ..) j j1 j2 with ae|g
         ·simp only at ae;omega
         ·rw[S,Z]
          unfold holdsAt at g;simp only at g;split at g
          ·rename_i v' ap
           rw[ap,V.eq_of_beq _ _ g]
          ·cases g
     ·
       have X:Nat.beq (cls a.o) 2=false:=by rw[hc];rfl
       rw[X]at c;simp only[wAJ]at c;obtain⟨D,c⟩:=c;rw[hc]at s;simp only[allocS,ei]at s;obtain⟨b,R,s⟩:=s
       cases b with
       | false=>
         obtain⟨T,A⟩:=trace F hp l _ k _ h rs r (T1 false .undef 0 default u.H u.G) C c s I (W _ _ _ _ _ _) hn0 hG hkl;obtain⟨J,Z,S,E,s5,s6,s7⟩:=self A
         refine ⟨T,A.cons (h1 _ _ _ _ _ _) (λj _=>⟨rfl,rfl⟩) (wAF _) ⟨m.testBit,K,hcl,z,s7,⟨d,hd⟩,by rw[J,S];exact R,λ_=>Z,λ_=>by rw[E];exact D,by rw[E];exact hkl,
           λg=>(by rw[hc]at g;cases g),λ_ B=>(by rw[J]at B;cases B),λg=>(by rw[hc]at g;cases g)⟩ A.recs A.more (λj _ _=>by omega) (λ_ B=>(by rw[J]at B;cases B)) (wAF _) hkl⟩
       | true =>
         simp only[ei]at s;obtain⟨⟨ob,mk⟩,aj,s⟩:=s;obtain⟨T,A⟩:=trace F hp l _ k _ _ _ r (T1 true (mk h.next) h.next ob u.H u.G) C c s I (W _ _ _ _ _ _) (wBX hn0) (λj P=>wBX (hG j P)) hkl;obtain⟨J,Z,S,E,s5,s6,s7⟩:=self A
         refine ⟨T,A.cons (h1 _ _ _ _ _ _) (λj _=>⟨rfl,rfl⟩) (wAF _) ⟨m.testBit,K,hcl,z,s7,⟨d,hd⟩,by rw[J,S];exact R,λB=>(by rw[J]at B;cases B),λ_=>by rw[E];exact D,by rw[E];exact hkl,
           λg=>(by rw[hc]at g;cases g),λ_ _=>⟨⟨mk,by rw[S,s6];exact aj,by rw[Z,s5]⟩,λj j1 j2=>?_,λj P=>?_,by rw[s5];exact hn0⟩,λg=>(by rw[hc]at g;cases g)⟩
           (λq hq=>A.recs q (by simp[hq])) ((More.new h ob).trans A.more) (λj _ _=>by omega) (λ_ _=>by rw[s5];exact⟨wAF _,wAk _⟩) (wBZ _) hkl⟩
         ·rw[E]at j1
          rw[s5,s6];refine⟨?_,λj3=>?_⟩
          ·have e1:(h.new ob).next<=(T.H k).next:=A.more.1
           have e2:=wz A.chain (j-k) j (by omega) j2;have:h.next<(h.new ob).next:=wAk _;omega
          ·rcases A.recs _ (wA9 ..) j j1 j2 with ae|g
           ·simp only at ae;omega
           ·unfold holdsAt at g
            simp only at g;split at g
            ·rename_i aw al
             rw[al,O.eq_of_beq g]
            ·cases g
         ·rw[E]at P
          rw[s5,(A.sameH j P).2];exact hG j P
     ·
       have X:Nat.beq (cls a.o) 2=true:=by rw[hc];rfl
       rw[X]at c;simp only[wAJ]at c;obtain⟨D,c⟩:=c;have aq:k<ws.length:=by
        unfold isW at D;split at D
        ·rename_i w R;exact(wAB.1 R).1
        ·cases D
       rw[hc]at s;simp only[writeS,fm,ei]at s;obtain⟨U,b,R,s⟩:=s;have am:∀q∈rs,q.last<k\/holdsAt h q=true:=λq hq=>by
        unfold stable at U;have:=wAs.1 U q hq;simp only[wAw,wBV]at this;exact this
       have ab : ∀(b:Bool) (v:V) (h':Hp),wants n all a.o t=some b->(seqC n all ws l (Nat.succ k)).f call (d.f t v) h' rs=some r->h.next<=h'.next->(b=false->v = .undef/\h' = h)->
         (b=true->(opC a.o).f call t h=some (v,h'))->∃T,TraceOk n all its ws call t0 h0 (a::l) m k h rs r u T:=by
         intro b v h' R s hn ac ar
         obtain ⟨T,A⟩:=trace F hp l _ (k+1) _ h' rs r (T1 b v 0 default (upd u.H k h) (upd u.G k h')) C c s I (W _ _ _ _ _ _) (wAq hn0 hn)
           (fun j P=>by
             by_cases e:j=k
             ·subst e;show(upd u.G j h' j).next<=_;rw[iZ];exact wAF _
             ·show(upd u.G k h' j).next<=_
              rw[t9 _ _ e];exact wAq (hG j (by omega)) hn) aq
         obtain⟨J,Z,S,E,s5,s6,s7⟩:=self A;obtain⟨g1,g2⟩:=A.sameH k (wAk _);have Y:T.H k=h:=g1.trans (iZ _ _ _);have ag:T.G k=h':=g2.trans (iZ _ _ _)
         refine ⟨T,A.cons (h1 _ _ _ _ _ _) (λj P=>⟨t9 _ _ (by omega),t9 _ _ (by omega)⟩) (wBZ _) ⟨m.testBit,K,hcl,z,s7,⟨d,hd⟩,by rw[J,S];exact R,
           λB=>by rw[J]at B;rw[Z];exact(ac B).1,λg=>absurd hc g,by rw[E];exact hkl,λg=>(by rw[hc]at g;cases g),λg=>(by rw[hc]at g;cases g),
           λ_=>⟨by rw[E];exact D,λB=>?_,λB=>?_⟩⟩ (λq hq j j1 j2=>?_) (by rw[Y];exact .refl h) (λj j1 j2=>?_) (λg=>(by rw[hc]at g;cases g)) hn hkl⟩
         ·rw[J]at B
          rw[S,E,Z,Y,ag];exact ar B
         ·rw[J]at B
          rw[E,Y,ag];exact(ac B).2
         ·by_cases e:j=k
          ·subst e;rw[Y];exact am q hq
          ·exact A.recs q hq j (by omega) j2
         ·have:j=k:=by omega
          subst this;rw[Y,ag];exact⟨hn,A.more⟩
       cases b with
       |false=>exact ab false .undef h R s (wAF _) (λ_=>⟨rfl,rfl⟩) (λB=>by cases B)
       | true=>
         simp only[ei,fm]at s;obtain⟨⟨v,h'⟩,au,hn,s⟩:=s;exact ab true v h' R s (wAZ hn) (λB=>by cases B) (λ_=>au)
end
