/- Parts. -/
import Derived.Test.YtflkbfabonggkaaGreatDoorM03
set_option maxHeartbeats 4000000
namespace Go.Proofs.YtflkbfabonggkaaGreatDoor.Hx
def xj(call:Call):Prop:=∀(f:Nat) (args:List V) (v:V) (h h':Hp) (Δ:Env) (w:World) (gN:Array Value),call f args h=some (v,h')->WR Δ h w->gK Δ args gN.toList-> (∃x,(callFunc f gN).run P0 w = .ok (.value x) w/\zL Δ h w v h' Δ x w)\/ ((callFunc f gN).run P0 w = .ok (.enter f gN) w/\Calls P0 f gN w λe w'=>∃a x,e = .returned x/\zL Δ h w v h' a x w')
section
variable{Δ:Env}{h:Hp}{w:World}{n:Nat}{t:Tm}{a:Act}
theorem OH{call:Call} (hc:xj call) (i:WR Δ h w) (m:TR Δ n t a) {o:Oper} {v:V} {h':Hp} (hv:(IX o).f call t h=some (v,h')) {K:Act->World->Prop} {Q:Exit->Act->World->Prop}
  (p:∀k x w',zL Δ h w v h' k x w'->K (a.put o.dst x) w'):o.wp P0 a w K Q:=by
 unfold IX at hv;split at hv
 ·simp only[fq]at hv;obtain⟨u,j,c⟩:=hv;cases c;obtain⟨x,b,d⟩:=zbd i m j;unfold Oper.wp;rw[b,Oper.upon_value];exact p Δ x w ⟨d,i,.refl _ _,.refl _ _⟩
 ·simp only[fq]at hv;obtain⟨⟨ob,mk⟩,j,c⟩:=hv;cases c;obtain⟨A,B,b,d⟩:=Ri m j;obtain⟨k,a1,a2,a3,y⟩:=i.alloc d;unfold Oper.wp;rw[b w,Oper.upon_value];exact p k _ _ ⟨a2,a1,a3,y⟩
 ·simp only[fq]at hv;obtain⟨r,j,c⟩:=hv;rcases Yj i m j with⟨u,z,k,x,w',rfl,b,d⟩|⟨g,l,gN,rfl,b,d⟩
  ·cases c;unfold Oper.wp;rcases b with b|⟨rfl,b⟩
   ·grind[Oper.upon_value]
   grind[Oper.upon_skip]
  ·unfold Oper.wp;rw[d];rcases hc g l v h h' Δ w gN c i b with⟨x,q,s⟩|⟨q,s⟩
   ·grind[Oper.upon_value]
   ·rw[q,Oper.upon_enter];refine Calls.mono s λe w' C=>?_
    grind
theorem Zk(a:Act) (d:Nat) (x:Value) (i:Nat) (b:d<a.tmps.size):(a.put (some d) x).tmps.getD i undef=if d=i then x else a.tmps.getD i undef:=by
 simp only[Act.put,wBT,Array.getElem?_setIfInBounds]
 grind
theorem put_defers(a:Act)(d:Option Tmp)(x:Value):(a.put d x).defers=a.defers:=by cases d <;> rfl
theorem K4(c:TR Δ n t a) {o:Oper} {d:DF} (b:zd n o=some d) {v:V} {x:Value} (hv:fO Δ v x):TR Δ n (d.f t v) (a.put o.dst x):=by
 unfold zd at b
 cases ho:o.dst with
 |none=>simp only[ho]at b;cases b;exact c
 | some k=>
   simp only[ho]at b
   cases hk:Nat.blt k n with
   |false=>simp_all
   | true=>
     simp only[hk]at b;cases b;have e:k<a.tmps.size:=by rw[c.size,<-Qu];exact hk
     refine⟨by simp[Act.put,c.size],λi=>?_,by rw[put_defers];show J8 Δ (t.set k v).ds _;rw[Tm.YO];exact c.ds⟩;rw[Zk _ _ _ _ e];show fO Δ (jR (t.set k v) i) _;rw[MM];by_cases h:k=i
     ·simp_all
     ·rw[if_neg h,if_neg h];exact c.rel i
theorem Pf{n:Nat} {ops:List Oper} {o:Oper} (a:kU n ops o=none) (y:Nat->Option Bool):Region.wanted o y=true:=by
 grind[kU,Region.wanted]
theorem Ph(m:TR Δ n t a) {ops:Array Oper} {o:Oper} {g:GF} (e:kU n ops.toList o=some g) {b:Bool} (h:g.f t=some b):Region.wanted o (yielded ops a.tmps)=b:=by
 unfold kU at e;unfold Region.wanted
 cases hg:o.guard with
 |none=>simp_all
 | some q =>
   obtain⟨j,r⟩:=q;simp only[hg]at e⊢;unfold yielded
   cases hj:ops.toList[j]? with
   | none=>
     grind
   | some p=>
     have l:ops[j]? =some p:=by rw[<-Z2];exact hj
     simp only[hj]at e;simp only[l,Option.bind_some]
     cases hd:p.dst with
     | none=>
       grind
     | some d=>
       simp only[hd]at e;simp only[Option.bind_some]
       cases Ob:Nat.blt d n with
       |false=>grind
       | true=>
         simp only[Ob]at e;cases e;have i:d<a.tmps.size:=by rw[m.size,<-Qu];exact Ob
         have k:=m.rel d;have s:a.tmps[d]? =some (a.tmps.getD d undef):=by simp[i]
         rw[s];generalize a.tmps.getD d undef=x at k;simp only at h;split at h
         ·rename_i u c
          cases h;rw[c]at k;cases k;cases r <;> cases u <;> rfl
         ·rename_i c
          cases h;rw[c]at k;cases k <;> grind
         ·cases h
structure Ce (Δ:Env) (h:Hp) (w:World) (n:Nat) (t':Tm) (h':Hp) (a:Env) (a':Act) (w':World):Prop where
 tmps:TR a n t' a'
 world:WR a h' w'
 frame:FR Δ a w w'
 grow:Gr h Δ h' a
theorem Ce.start(b:TR Δ n t a)(c:WR Δ h w):Ce Δ h w n t h Δ a w:=⟨b,c,.refl _ _,.refl _ _⟩
theorem Ce.trans{a b:Env} {c d:Hp} {e f:World} {i g:Tm} {a1 a2:Act} (x:Ce Δ h w n i c a a1 e) (y:Ce a c e n g d b a2 f):Ce Δ h w n g d b a2 f:=
 ⟨y.tmps,y.world,x.frame.trans y.frame,x.grow.trans y.grow⟩
theorem Ce.put(g:TR Δ n t a) {o:Oper} {d:DF} (b:zd n o=some d) {v:V} {h':Hp} {e:Env} {x:Value} {w':World} (c:zL Δ h w v h' e x w') :
  Ce Δ h w n (d.f t v) h' e (a.put o.dst x) w':=
 ⟨K4 (g.mono c.frame.le) b c.val,c.world,c.frame,c.grow⟩
theorem X0(m:WR Δ h w) (b:TR Δ n t a) {o:Oper} {q:QF} (hq:AX o=some q) {t':Tm} (hv:q.f t h=some t') :
  ∃d,(∀w,(execOp a.eval o).run P0 w = .ok (.defer d) w)/\TR Δ n t' {a with defers:=d::a.defers}:=by
 unfold AX at hq;split at hq
 ·rename_i c p;split at hq
  ·rename_i f r;cases hq;simp only[fq]at hv;obtain⟨z,s,args,u,j⟩:=hv;have e:=kY m b s;obtain⟨xs,v⟩:∃xs,xs=c.args.map a.eval:=⟨_,rfl⟩
   have k:=BO b u;generalize x:a.eval f=xv at e;unfold ZC at j;split at j
   ·rename_i g first l
    cases j
    cases e with
    | func _ _ _ a' c' y hc=>
      refine⟨{target:= .fn (.func g) c',args:=a'++c.args.map a.eval},λw=>?_,⟨b.size,λi=>?_,?_⟩⟩
      ·have A:(resolve a.eval c o.type).run P0 w = .ok {target:= .fn (.func g) c',args:=a'++c.args.map a.eval} w:=by
         unfold resolve;rw[r];simp only[x];rfl
       simp_all[execOp,xD,vT]
      ·rw[WW];exact b.rel i
      ·rw[Tm.Z4]
       refine .cons _ _ _ _ _ _ ?_ b.ds;simp only[Array.toList_append,LY,Array.toList_map];exact y.append (k.append hc)
   ·cases j
  ·cases hq
 ·cases hq
theorem za7{call:Call} (hc:xj call) {ops:Array Oper} {i:Nat} {o:Oper} (hi:ops[i]? =some o) {c:SF} {K:Act->World->Prop} {Q:Exit->Act->World->Prop}
  (l:WR Δ h w) (e:TR Δ n t a) {r:Tm×Hp} (hv:(JP n ops.toList o c).f call t h=some r)
  (m:∀t' h' s a' w',c.f call t' h' = some r->Ce Δ h w n t' h' s a' w'->K a' w'):wpOp P0 ops Q i K a w:=by
 unfold JP at hv;unfold wpOp;simp only[hi]
 cases hdst:zd n o with
 |none=>simp only[hdst]at hv;cases hv
 | some d=>
   simp only[hdst]at hv;have y:∀x,oB ((IX o).f call t h) (λr=>c.f call (d.f t r.1) r.2)=some x->x=r->o.wp P0 a w K Q:=by
     intro x u p;subst p;rw[fq]at u;obtain⟨⟨v,h'⟩,j,k⟩:=u;exact OH hc l e j λs x w' z=>m _ _ _ _ _ k (Ce.put e hdst z)
   cases hg:kU n ops.toList o with
   | none=>
     simp only[hg]at hv;rw[if_pos (Pf hg _)]
     cases hq:AX o with
     |none=>grind
     | some q=>
       simp only[hq,fq]at hv;obtain⟨C,j,k⟩:=hv;obtain⟨D,A,B⟩:=X0 l e hq j;refine .inl ?_;unfold Oper.wp;rw[A w,Oper.upon_defer]
       exact m _ _ _ _ _ k (Ce.put B hdst ⟨.undef Δ,l,.refl _ _,.refl _ _⟩)
   | some g=>
     simp only[hg,fq]at hv;obtain⟨b,j,k⟩:=hv;rw[Ph e hg j]
     cases b with
     |true=>simp_all
     |false=>exact m _ _ _ _ _ k (Ce.put e hdst ⟨.undef Δ,l,.refl _ _,.refl _ _⟩)
theorem O7{call:Call} (hc:xj call) {ops:Array Oper} {Q:Exit->Act->World->Prop}:∀(l:List Oper) (k:Nat),l=ops.toList.drop k->∀{Δ:Env} {h:Hp} {w:World} {t:Tm} {a:Act},
  WR Δ h w->TR Δ n t a->∀{r:Tm×Hp},(ui n ops.toList l).f call t h=some r->(∀d a' w',Ce Δ h w n r.1 r.2 d a' w'->Q .normal a' w')->
  wpOps P0 ops Q (List.range' k l.length) a w
 | [],k,hl,Δ,h,w,t,a,hW,hT,r,hv,hQ=>by
   cases hv
   exact hQ _ _ _ (.start hT hW)
 | o ::l,k,hl,Δ,h,w,t,a,hW,hT,r,hv,hQ=>by
   have hk:ops[k]? =some o:=by
     have:(ops.toList.drop k)[0]? =some o:=by rw[<-hl];rfl
     rw[wBW,wBw]at this;simpa using this
   have b:l=ops.toList.drop (k+1):=by
     rw[<-wBh,<-hl];rfl
   rw[QN,List.range'_succ,wpOps_cons];refine za7 hc hk hW hT hv λt' h' d a' w' e c=>?_;exact O7 hc l (k+1) b c.world c.tmps e λg i j m=>hQ _ _ _ (c.trans m)
end
def Gp(c:Code) (Q:Exit->Act->World->Prop) (a:Act) (w:World):Prop:=∀(b:Frame) (k:List Item) (cs:List Frame),∃e a' w',Q e a' w'/\Arrives P0 (lone (b.at a (.code c:: .inLoop c::k)) cs w) b k cs e a' w'
theorem Gp.round{c:Code} {Q:Exit->Act->World->Prop} {a:Act} {w:World} (h:c.wp P0 (Exit.then (Gp c Q) Q) a w):Gp c Q a w:=by
 intro b k cs;obtain⟨e,g,i,hq,d⟩:=h b (.inLoop c::k) cs
 cases e with
 | normal=>
   obtain⟨m,n,o,j,f⟩:=hq b k cs
   exact⟨m,n,o,j,.of_steps (Steps.trans d (.one step_inLoop)) f⟩
 |exit id=>exact⟨_,g,i,hq,.pass (x:= .inLoop c) rfl (by simp_all) d⟩
 |goto l=>exact⟨_,g,i,hq,.pass (x:= .inLoop c) rfl (by simp_all) d⟩
 |ret=>exact⟨_,g,i,hq,.pass (x:= .inLoop c) rfl (by simp_all) d⟩
 |panic ch=>exact⟨_,g,i,hq,.pass (x:= .inLoop c) rfl (by simp_all) d⟩
 |outgrown=>exact⟨_,g,i,hq,.pass (x:= .inLoop c) rfl (by simp_all) d⟩
theorem Gp.wp{c:Code} {Q:Exit->Act->World->Prop} {a:Act} {w:World} (h:Gp c Q a w):(Code.loop c).wp P0 Q a w:=
 λb k cs=>let⟨e,a',w',q,r⟩:=h b k cs;⟨e,a',w',q,.of_steps (.one step_loop) r⟩
def Alike(t t':Tm)(x:Operand):Prop:=(N8 x).f t=(N8 x).f t'
theorem IJ{t t':Tm} {l:List Operand} (h:∀d,d∈Cr l->jR t d=jR t' d):∀x∈l,Alike t t' x:=by
 induction l with
 |nil=>simp_all
 | cons y l b=>
   intro x a
   cases a with
   | head=>
     unfold Alike
     cases y <;> grind[jR,Cr,N8]
   | tail _ a=>
     refine b (λd c=>h d ?_) x a;cases y <;> simp[Cr,c]
section
variable{t t':Tm}{h:Hp}
theorem gO{x:Operand} (a:Alike t t' x):(tq x).f t h=(tq x).f t' h:=by
 unfold Alike at a;cases x <;> grind[tq]
theorem yw:∀{l:List Operand},(∀x∈l,Alike t t' x)->J7 t l=J7 t' l
 |[],_=>rfl
 | x::l,hl=>by
   have a:(N8 x).f t=(N8 x).f t':=hl x (by simp);simp only[J7,a,yw (l:=l) (by simp_all)]
theorem Ci:∀{l:List (Nat×Operand)},(∀x∈l,Alike t t' x.2)->uf t l=uf t' l
 |[],_=>rfl
 | x::l,hl=>by
   have a:(N8 x.2).f t=(N8 x.2).f t':=hl x (by simp);simp only[uf,a,Ci (l:=l) (by grind)]
theorem TP{x:Option Operand} (a:∀y,x=some y->Alike t t' y):J5 x t h=J5 x t' h:=by
 cases x with
 |none=>rfl
 |some y=>simp only[J5,gO (a y rfl)]
theorem RI{ty:Nat} {p:PF} (hp:p.f t h=p.f t' h):(Lr ty p).f t h=(Lr ty p).f t' h:=by
 grind[Lr]
theorem Sd{a b:Nat} {p:PF} (hp:p.f t h=p.f t' h):(LG a b p).f t h=(LG a b p).f t' h:=by
 grind[LG]
theorem Kr{a b:Nat} {p:PF} (hp:p.f t h=p.f t' h):(qE a p b).f t h=(qE a p b).f t' h:=by
 grind[qE]
theorem PC{a b:Nat} {p:PF} (hp:p.f t h=p.f t' h):(Jb a p b).f t h=(Jb a p b).f t' h:=by
 grind[Jb]
theorem KB{a:Nat} {p q:PF} (hp:p.f t h=p.f t' h) (hq:q.f t h=q.f t' h):(qj a p q).f t h=(qj a p q).f t' h:=by
 grind[qj]
theorem P9{a:Nat} {p q:PF} (hp:p.f t h=p.f t' h) (hq:q.f t h=q.f t' h):(IM a p q).f t h=(IM a p q).f t' h:=by
 grind[IM]
theorem Qp{a:Nat} {p:PF} {lo hi:Option Operand} (hp:p.f t h=p.f t' h) (b:J5 lo t h=J5 lo t' h) (c:J5 hi t h=J5 hi t' h) :
  (KJ a p lo hi).f t h=(KJ a p lo hi).f t' h:=by
 grind[KJ]
theorem Oe{a:Nat} {p q:PF} {ok:Bool} (hp:p.f t h=p.f t' h) (hq:q.f t h=q.f t' h):(Hr a p q ok).f t h=(Hr a p q ok).f t' h:=by
 grind[Hr]
theorem TS{a:Nat} {p:PF} (hp:p.f t h=p.f t' h):(hlen a p).f t h=(hlen a p).f t' h:=by
 grind[hlen]
theorem Oh{a:Nat} {p:PF} {ok:Bool} (hp:p.f t h=p.f t' h):(Hf p a ok).f t h=(Hf p a ok).f t' h:=by
 grind[Hf]
theorem Sl{c p q:PF} (hc:c.f t h=c.f t' h) (hp:p.f t h=p.f t' h) (hq:q.f t h=q.f t' h):(Lu c p q).f t h=(Lu c p q).f t' h:=by
 grind[Lu]
theorem QH{a:Nat} {ps:List (Nat×Operand)} (hp:uf t ps=uf t' ps):(IW a ps).f t h=(IW a ps).f t' h:=by
 unfold IW;grind
theorem IV{o:Oper} (g:∀x∈o.op.operands.toList,Alike t t' x):(iL o).f t h=(iL o).f t' h:=by
 obtain⟨dst,op,ty,pos,af,gd⟩:=o;cases op <;> simp only[iL] <;> simp only[Op.operands]at g
 case move x=>grind[gO]
 case assign x=>grind[gO]
 case pick c a b=>exact Sl (by grind[gO]) (by grind[gO]) (by grind[gO])
 case load ty a=>grind[RI,gO]
 case nilCheck x=>grind[Ah,gO]
 case binOp op xt x y b=>grind[gO]
 case unOp op b x=>grind[gO]
 case convert s d x=>grind[Sd,gO]
 case build ty ps=>grind[QH,Ci]
 case makeFunc fn first caps=>
  cases fn with
  |func f=>grind[yw]
  |_=>rfl
 case slice ty x lo hi mx=>
  cases mx with
  |none=>grind[Qp,gO,TP]
  |some _=>rfl
 case fieldAddr s x f=>grind[Kr,gO]
 case field s x f=>grind[PC,gO]
 case indexAddr ty x i=>grind[KB,gO]
 case index ty x i=>grind[P9,gO]
 case lookup ty m k ok=>grind[Oe,gO]
 case extract x i=>grind[Gm,gO]
 case makeInterface ty x=>
  split
  ·grind[gO]
  ·rfl
 case typeAssert x b asserted ok=>grind[Oh,gO]
 case call c=>
  obtain⟨e,args,j⟩:=c
  cases e with
  | builtin b=>
    have l:∀x∈args.toList,Alike t t' x:=by grind[Call.operands]
    cases b <;> simp only
    case len=>
      split
      ·grind[TS,gO]
      ·rfl
    case min=>grind[yw]
    case max=>grind[yw]
    all_goals rfl
  |_=>rfl
 all_goals rfl
theorem Pm{x:Operand}(a:Alike t t' x):(N8 x).f t=(N8 x).f t':=a
theorem LR{o:Oper} (a:∀x∈o.op.operands.toList,Alike t t' x):(qw o).f t=(qw o).f t':=by
 obtain⟨dst,op,ty,pos,af,gd⟩:=o;cases op <;> simp only[qw] <;> simp only[Op.operands]at a
 case alloc e=>split <;> rfl
 case box e x=>grind[Pm]
 case buildSlice ty len parts=>
  (repeat' split) <;> first
   |rfl
   |grind[GD,Ci]
 case makeSlice ty n c=>
  (repeat' split) <;> first
   |rfl
   |grind[Pm]
 case makeMap ty r=>
  cases r with
  |none=>simp only;split <;> rfl
  |some _=>rfl
 all_goals rfl
theorem Rg{o:Oper} (j:∀x∈o.op.operands.toList,Alike t t' x):(j7 o).f t h=(j7 o).f t' h:=by
 obtain⟨dst,op,ty,pos,af,gd⟩:=o;cases op <;> simp only[j7] <;> simp only[Op.operands]at j
 case store ty a x=>
  split
  ·grind[gO]
  ·rfl
 case mapUpdate ty m k x=>
  (repeat' split) <;> first
   |rfl
   |grind[gO]
 case insert ty m k x=>
  (repeat' split) <;> first
   |rfl
   |grind[gO]
 case range ty x=>
  split
  ·grind[gO]
  ·rfl
 case next x isS=>
  cases isS with
  |true=>rfl
  |false=>grind[gO]
 case entry x=>grind[gO]
 case convert s d x=>
  (repeat' split) <;> first
   |rfl
   |grind[gO]
 case call c=>
  obtain⟨g,args,l⟩:=c
  cases g with
  | builtin b=>
    have n:∀x∈args.toList,Alike t t' x:=by grind[Call.operands]
    cases b <;> simp only
    case append=>
      split
      ·rename_i s x i xT e _
       (repeat' split) <;> first
         |rfl
         |grind[gO]
      ·rfl
    case copy=>
      split
      ·rename_i s x i xT e _
       (repeat' split) <;> first
         |rfl
         |grind[gO]
      ·rfl
    case delete=>
      split
      ·rename_i s x i xT e _
       (repeat' split) <;> first
         |rfl
         |grind[gO]
      ·rfl
    all_goals rfl
  | value f=>
    grind[Alike,Call.operands,gO,yw]
  | invoke r m=>
    grind[Alike,Call.operands,gO,yw]
 all_goals rfl
theorem Nd{call:Call} {o:Oper} (a:∀x∈o.op.operands.toList,Alike t t' x):(IX o).f call t h=(IX o).f call t' h:=by
 grind[IX,IV,LR,Rg]
end
theorem CY:∀(l:List Oper) (i:Nat) (b:List Nat) (k:Nat) (a:It),(items l i b)[k]? =some a->a.i=i+k/\l[k]? =some a.o
 |[],i,b,k,a,h=>by grind[items]
 |o::os,i,b,0,a,h=>by simp[items]at h;grind
 | o::os,i,b,k+1,a,h=>by
   simp only[items,wBc]at h;obtain⟨c,d⟩:=CY os (i+1) _ k a h
   grind
theorem JZ:∀(l:List Oper) (i:Nat) (a:List Nat),(items l i a).length=l.length
 |[],i,a=>rfl
 |o::os,i,a=>by simp[items,JZ os]
theorem Cq(a:List Nat) (x:Nat):∀(b:List Edge) (m:Nat),(Nn a b m).testBit x=true->m.testBit x=true\/∃e∈b,NN e=true/\(x=e.on\/(a[e.on]?.getD 0).testBit x=true)
 |[],m,h=> .inl h
 | e ::b,m,h=>by
   simp only[Nn]at h;split at h
   ·rename_i g
    rcases Cq a x b _ h with c|⟨e',f,d,c⟩
    ·grind
    grind
   ·rcases Cq a x b _ h with c|⟨e',f,d,c⟩
    ·simp_all
    grind
theorem UU:∀(l:List Oper) (i:Nat) (c:List Nat) (k:Nat) (a:It),(items l i c)[k]? =some a->
  a.b=Nn (c++((items l i c).take k).map (·.b)) a.o.after.toList 0
 |[],i,c,k,a,h=>by grind[items]
 |o::os,i,c,0,a,h=>by grind[items]
 | o::os,i,c,k+1,a,h=>by
   simp only[items,wBc]at h;have:=UU os (i+1) _ k a h
   grind[items,LY]
theorem M7{l:List Oper} {k:Nat} {a:It} (h:(items l 0 [])[k]? =some a) {x:Nat} (d:a.b.testBit x=true) :
  ∃e∈a.o.after.toList,NN e=true/\(x=e.on\/∃y,(items l 0 [])[e.on]? =some y/\y.b.testBit x=true):=by
 rw[UU l 0 [] k a h]at d;rcases Cq _ x _ _ d with c|⟨e,f,g,c⟩
 ·simp_all
 ·refine ⟨e,f,g,?_⟩;rcases c with c|c
  ·omega
  ·right;rw[SO,CH,List.getElem?_take]at c
   grind
theorem GY(e:Edge):Region.binds .any e=NN e:=by
 rfl
def qI(val:Nat->V)(D:Nat->Bool)(d:Nat)(j9:List It)(b:V):V:=j9.foldl (λv a=>if D a.i=true/\a.o.dst=some d then val a.i else v) b
theorem qp{val Oi:Nat->V} {D D':Nat->Bool} {d:Nat} {j9:List It} (c:∀a∈j9,a.o.dst=some d->D a.i=D' a.i) (e:∀a∈j9,a.o.dst=some d->D a.i=true->val a.i=Oi a.i) (b:V) :
  qI val D d j9 b=qI Oi D' d j9 b:=by
 unfold qI
 induction j9 generalizing b <;> grind
theorem IU{val:Nat->V} {D:Nat->Bool} {d:Nat} {j9:List It} (h:∀a∈j9,a.o.dst=some d->D a.i=false) (b:V):qI val D d j9 b=b:=by
 unfold qI
 induction j9 generalizing b <;> grind
theorem Wv{val:Nat->V} {D:Nat->Bool} {d:Nat} {j9:List It} (e:∀(k:Nat) (x:It),j9[k]? =some x->x.i=k) {a:It} (g:a∈j9) (j:a.o.dst=some d) (l:D a.i=true)
  (h:∀x∈j9,a.i<x.i->x.o.dst=some d->D x.i=false) (m:V):qI val D d j9 m=val a.i:=by
 obtain⟨k,hk⟩:=mQ.1 g;have n:=e k a hk;have f:k<j9.length:=by grind
 have b:j9=j9.take k++a::j9.drop (k+1):=by
  have p:j9.drop k=a::j9.drop (k+1):=by
   rw[Xx f];rw[gW f]at hk;cases hk;rfl
  rw[<-p,Zp]
 have c:∀x∈j9.drop (k+1),x.o.dst=some d->D x.i=false:=by
  intro x r s;obtain⟨q,hq⟩:=mQ.1 r;rw[wBW]at hq;have:=e _ x hq;exact by grind
 unfold qI;rw[b,List.foldl_append,List.foldl_cons,if_pos ⟨l,j⟩];exact IU c _
def DN(h h':Hp):Prop:=h.next<=h'.next/\∀l,l<h.next->h'.get l=h.get l
theorem DN.refl(h:Hp):DN h h:=⟨iZ _,λ_ _=>rfl⟩
theorem DN.trans{h h' c:Hp}(a:DN h h')(b:DN h' c):DN h c:=⟨Ie a.1 b.1,λl d=>by rw[b.2 l (EL d a.1),a.2 l d]⟩
theorem DN.new(h:Hp)(o:O):DN h (h.new o):=⟨O4 _,by simp_all[xi,if_neg,Nat.ne_of_gt]⟩
theorem WR.PE{Δ:Env} {h h':Hp} {w:World} (a:WR Δ h w) (b:DN h h'):WR Δ h' w where
 fresh:=λl d f=>EL (a.fresh l d f) b.1
 nf:=a.nf
 obj:=λl d f=>by rw[b.2 l (a.fresh l d f)];exact a.obj l d f
 apart:=λm i e e' p r k n j o q=>by
  rw[b.2 m (a.fresh m e k)]at o;rw[b.2 i (a.fresh i e' n)]at q;exact a.apart m i e e' p r k n j o q
 IE:=λg p c hp=>by
  rw[b.2 g (EL c a.zx)]at hp;exact a.IE g p c hp
 zx:=Ie a.zx b.1
 UP:=a.UP
theorem O.eq_of_beq{a b:O} (h:O.beq a b=true):a=b:=by
 unfold O.beq at h;split at h
 ·simp only[xg,HR]at h;obtain⟨⟨⟨⟨rfl,rfl⟩,rfl⟩,rfl⟩,c⟩:=h
  grind[V.yo]
 ·simp_all
 ·cases h
structure Tc where
 on:Nat->Bool
 val:Nat->V
 tt:Nat->Tm
 ep:Nat->Nat
 pl:Nat->Nat
 ob:Nat->O
 H:Nat->Hp
 G:Nat->Hp
def AP(j9:List It)(D:Nat->Bool):Prop:=∀a∈j9,D a.i=true->∀x∈j9,a.b.testBit x.i=true->D x.i=true
section
variable (n:Nat)(all:List Oper)(j9 ws:List It)(call:Call)(t0:Tm)(h0:Hp)
structure Mt (T:Tc) (D:Nat->Bool) (a:It):Prop where
 fresh:D a.i=false
 closed:AP j9 D
 eQ:∀x∈j9,a.b.testBit x.i=true->D x.i=true
 pC:∀d,jR (T.tt a.i) d=qI T.val D d j9 (jR t0 d)
 dst:∃d,zd n a.o=some d
 p6:p6 n all a.o (T.tt a.i)=some (T.on a.i)
 off:T.on a.i=false->T.val a.i = .undef
 epw:cls a.o≠2->Mf ws a (T.ep a.i)=true
 epl:T.ep a.i<=ws.length
 pure:cls a.o=0->T.on a.i=true->∀j,T.ep a.i<=j->j<=ws.length->j<=late ws a->(iL a.o).f (T.tt a.i) (T.H j)=some (T.val a.i)
 alloc:cls a.o=1->T.on a.i=true->(∃mk,(qw a.o).f (T.tt a.i)=some (T.ob a.i,mk)/\T.val a.i=mk (T.pl a.i))/\
  (∀j,T.ep a.i<=j->j<=ws.length->T.pl a.i<(T.H j).next/\(j<=late ws a->(T.H j).get (T.pl a.i)=some (T.ob a.i)))/\
  (∀j,j<T.ep a.i->(T.G j).next<=T.pl a.i)/\h0.next<=T.pl a.i
 write:cls a.o=2->isW ws a (T.ep a.i)=true/\(T.on a.i=true->(IX a.o).f call (T.tt a.i) (T.H (T.ep a.i))=some (T.val a.i,T.G (T.ep a.i)))/\
  (T.on a.i=false->T.G (T.ep a.i)=T.H (T.ep a.i))
structure ug (l:List It) (m k:Nat) (h:Hp) (rs:List Rec) (r:Tm×Hp) (b T:Tc):Prop where
 same:∀i,m.testBit i=true->T.on i=b.on i/\T.val i=b.val i/\T.tt i=b.tt i/\T.ep i=b.ep i/\T.pl i=b.pl i/\T.ob i=b.ob i
 VX:∀j,j<k->T.H j=b.H j/\T.G j=b.G j
 item:∀a∈l,∃D,Mt n all j9 ws call t0 h0 T D a
 D0:∀r∈rs,∀j,k<=j->j<=ws.length->r.last<j\/zX (T.H j) r=true
 more:DN h (T.H k)
 chain:∀j,k<=j->j<ws.length->(T.H j).next<=(T.G j).next/\DN (T.G j) (T.H (j+1))
 Wb:∀a∈l,cls a.o=1->T.on a.i=true->h.next<=T.pl a.i
 VP:∀a∈l,∀a'∈l,cls a.o=1->cls a'.o=1->T.on a.i=true->T.on a'.i=true->a.i≠a'.i->T.pl a.i≠T.pl a'.i
 last:r.2=T.H ws.length
 pC:∀d,jR r.1 d=qI T.val (λ_=>true) d j9 (jR t0 d)
 done:∀a∈j9,m.testBit a.i=true\/a.i∈l.map (·.i)
 kle:k<=ws.length
end
theorem GV{ws:List It} {T:Tc} {k:Nat} (h:∀j,k<=j->j<ws.length->(T.H j).next<=(T.G j).next/\DN (T.G j) (T.H (j+1))):∀(m j:Nat),j=k+m->j<=ws.length->(T.H k).next<=(T.H j).next:=by
 intro m
 induction m with
 |zero=>simp_all
 | succ m b=>
   intro j g c;obtain⟨a,rfl⟩:∃a,j=a+1:=⟨j-1,by omega⟩
   have d:=b a (by omega) (by omega);obtain⟨e,f⟩:=h a (by omega) (by omega);exact Ie d (Ie e f.1)
theorem YB(m i x:Nat):(m |||2 ^ i).testBit x=(m.testBit x ||decide (i=x)):=by grind
theorem Ln{l:List It} (h:qV l=true):∀(i j:Nat) (a b:It),i<j->l[i]? =some a->l[j]? =some b->PI a b=true:=by
 induction l with
 |nil=>simp_all
 | cons x l d=>
   intro i j a b c e f;simp only[qV,xg]at h
   grind
theorem OU{j9:List It} (c:∀(k:Nat) (x:It),j9[k]? =some x->x.i=k) (hp:qV j9=true) {a x:It} (h:a∈j9) (l:x∈j9) {d:Nat} (m:d∈pV a.o) (e:x.o.dst=some d) :
  (x.i<a.i->a.b.testBit x.i=true)/\(a.i<x.i->x.b.testBit a.i=true):=by
 obtain⟨i,hi⟩:=mQ.1 h;obtain⟨j,f⟩:=mQ.1 l;have n:=c i a hi;have p:=c j x f;have q:writes x.o (pV a.o)=true:=by simp[writes,e,m]
 constructor
 ·intro g;have:=Ln hp j i x a (by omega) f hi
  grind[PI]
 ·intro g;have:=Ln hp i j a x (by omega) hi f
  grind[PI]
theorem VZ{o:Oper}{d:Nat}(h:o.dst=some d):d∈pV o:=by simp[pV,h]
theorem IT{j9:List It} (e:∀(k:Nat) (x:It),j9[k]? =some x->x.i=k) (hp:qV j9=true) {a:It} (f:a∈j9) {D D':Nat->Bool} (p:AP j9 D) (g:AP j9 D')
  (s:∀x∈j9,a.b.testBit x.i=true->D x.i=true) (q:∀x∈j9,a.b.testBit x.i=true->D' x.i=true) (n:D a.i=false) (c:D' a.i=false) {d:Nat} (r:d∈pV a.o) (val:Nat->V) (j:V) :
  qI val D d j9 j=qI val D' d j9 j:=by
 refine qp (λx l m=>?_) (by simp_all) j;obtain⟨p1,p2⟩:=OU e hp f l r m;rcases wB6 x.i a.i with h|h|h
 ·simp_all
 ·simp_all
 ·have t:D x.i=false:=by
   cases hh:D x.i with
   |false=>rfl
   |true=>rw[p x l hh a f (p2 h)]at n;cases n
  have u:D' x.i=false:=by
   cases hh:D' x.i with
   |false=>rfl
   |true=>rw[g x l hh a f (p2 h)]at c;cases c
  simp_all
theorem G6{j9:List It} (b:∀(k:Nat) (x:It),j9[k]? =some x->x.i=k) (hp:qV j9=true) {a:It} (l:a∈j9) {D D':Nat->Bool} (q:AP j9 D) (p:D a.i=false)
  (f:∀i,D' i=(D i ||decide (a.i=i))) {val Oi:Nat->V} (hv:∀i,D i=true->Oi i=val i) (d:Nat) (m:V) :
  qI Oi D' d j9 m=if a.o.dst=some d then Oi a.i else qI val D d j9 m:=by
 by_cases hd:a.o.dst=some d
 ·rw[if_pos hd];refine Wv b l hd (by simp_all) (λx g h c=>?_) m;rw[f];have r:a.i≠x.i:=Rc h;have:=(OU b hp l g (VZ hd) c).2 h
  cases hh:D x.i with
  |false=>simp_all
  |true=>rw[q x g hh a l this]at p;cases p
 ·rw [if_neg hd];refine qp (λx g c=>?_) (λx g c s=>?_) m
  ·rw [f];have:a.i≠x.i:=by
    intro e;obtain⟨i,hi⟩:=mQ.1 l;obtain⟨j,n⟩:=mQ.1 g;have t:=b i a hi;have u:=b j x n;have:i=j:=by omega
    subst this;rw[hi]at n;cases n;exact hd c
   simp_all
  grind[mQ]
def Oo{α:Type}(f:Nat->α)(i:Nat)(v:α):Nat->α:=λj=>if j=i then v else f j
theorem ni{α:Type}(f:Nat->α)(i:Nat)(v:α):Oo f i v i=v:=if_pos rfl
theorem QC{α:Type}(f:Nat->α){i j:Nat}(v:α)(h:j≠i):Oo f i v j=f j:=if_neg h
theorem KT(o:Oper):cls o=0\/cls o=1\/cls o=2:=by
 unfold cls
 grind
theorem J6{n:Nat} {o:Oper} {d:DF} (h:zd n o=some d) (t:Tm) (v:V) (i:Nat):jR (d.f t v) i=if o.dst=some i then v else jR t i:=by
 unfold zd at h
 cases ho:o.dst with
 |none=>grind
 | some k=>
   simp only[ho]at h
   cases hk:Nat.blt k n with
   |false=>simp_all
   | true=>
     simp only[hk]at h;cases h;show jR (t.set k v) i=_
     simp_all[MM,if_pos,if_neg]
theorem yB{n:Nat} {o:Oper} {d:DF} (h:zd n o=some d) (t:Tm) (v:V):(d.f t v).ds=t.ds:=by
 grind[zd,Nat.blt,Tm.YO]
theorem BZ{n:Nat} {all:List Oper} {ws:List It} {call:Call}:∀(l:List It) (k:Nat) {t:Tm} {h:Hp} {rs:List Rec} {r:Tm×Hp},(yk n all ws l k).f call t h rs=some r->r.1.ds=t.ds
 | [],_,t,h,rs,r,hv=>by
   grind[yk,gS]
 | a ::l,k,t,h,rs,r,hv=>by
   unfold yk at hv
   cases hd:zd n a.o with
   |none=>simp_all
   | some d=>
     rw[hd]at hv;simp only at hv;split at hv
     ·simp only[IC,fq]at hv
      obtain⟨b,_,c⟩:=hv
      cases b with
      |false=>rw[BZ l _ c,yB hd]
      | true=>
        simp only[fq]at c;obtain⟨x,_,e⟩:=c;rw[BZ l _ e,yB hd]
     ·simp only[Gq,fq]at hv
      obtain⟨b,_,c⟩:=hv
      cases b with
      |false=>rw[BZ l _ c,yB hd]
      | true=>
        simp only[fq]at c;obtain⟨x,_,e⟩:=c;rw[BZ l _ e,yB hd]
     ·simp only[CA,fq,gS]at hv
      obtain⟨_,b,_,c⟩:=hv
      cases b with
      |false=>rw[BZ l _ c,yB hd]
      | true=>
        simp only[fq,gS]at c;obtain⟨x,_,_,e⟩:=c;rw[BZ l _ e,yB hd]
section
variable{n:Nat}{all:List Oper}{j9 ws:List It}{call:Call}{t0:Tm}{h0:Hp}
theorem ug.cons{l:List It} {a:It} {m k k':Nat} {h h':Hp} {rs z:List Rec} {r:Tm×Hp} {d T1 T:Tc} (c:ug n all j9 ws call t0 h0 l (m |||2 ^ a.i) k' h' z r T1 T)
  (C:∀i,m.testBit i=true->T1.on i=d.on i/\T1.val i=d.val i/\T1.tt i=d.tt i/\T1.ep i=d.ep i/\T1.pl i=d.pl i/\T1.ob i=d.ob i)
  (J:∀j,j<k->T1.H j=d.H j/\T1.G j=d.G j) (hk:k<=k') (e:∃D,Mt n all j9 ws call t0 h0 T D a)
  (f:∀r∈rs,∀j,k<=j->j<=ws.length->r.last<j\/zX (T.H j) r=true) (g:DN h (T.H k))
  (w:∀j,k<=j->j<k'->(T.H j).next<=(T.G j).next/\DN (T.G j) (T.H (j+1)))
  (v:cls a.o=1->T.on a.i=true->h.next<=T.pl a.i/\T.pl a.i<h'.next) (Dg:h.next<=h'.next) (A:k<=ws.length):ug n all j9 ws call t0 h0 (a::l) m k h rs r d T where
 same:=λi hi=>by
  obtain⟨a1,a2,a3,K,L,M⟩:=c.same i (by simp_all)
  simp_all
 VX:=λj E=>by
  obtain⟨a1,a2⟩:=c.VX j (by omega)
  simp_all
 item:=λx b=>by
  cases b with
  |head=>exact e
  |tail _ b=>exact c.item x b
 D0:=f
 more:=g
 chain:=λj C F=>by
  by_cases E:j<k'
  ·simp_all
  ·exact c.chain j (by omega) F
 Wb:=λx b hc I=>by
  cases b with
  |head=>simp_all
  |tail _ b=>exact Ie Dg (c.Wb x b hc I)
 VP:=λx b y u p q s t B=>by
  cases b with
  | head=>
    cases u with
    |head=>omega
    |tail _ u=>have:=(v p s).2;have:=c.Wb y u q t;omega
  | tail _ b=>
    cases u with
    |head=>have:=(v q t).2;have:=c.Wb x b p s;omega
    |tail _ u=>exact c.VP x b y u p q s t B
 last:=c.last
 pC:=c.pC
 done:=λx b=>by
  rcases c.done x b with h|h
  ·grind
  simp_all
 kle:=A
theorem trace(B:∀(k:Nat) (x:It),j9[k]? =some x->x.i=k) (hp:qV j9=true):∀(l:List It) (m k:Nat) (t:Tm) (h:Hp) (rs:List Rec) (r:Tm×Hp) (s:Tc),
  (∀a∈l,a∈j9)->xk j9 ws l m k=true->(yk n all ws l k).f call t h rs=some r->AP j9 m.testBit->(∀d,jR t d=qI s.val m.testBit d j9 (jR t0 d))->
  h0.next<=h.next->(∀j,j<k->(s.G j).next<=h.next)->k<=ws.length->∃T,ug n all j9 ws call t0 h0 l m k h rs r s T
 | [],m,k,t,h,rs,r,s,WE,c,hv,hcl,ht,hn0,hG,hkl=>by
   simp only[xk,xg]at c;obtain⟨ag,hk⟩:=c;have ak:k=ws.length:=BT hk;simp only[yk,gS]at hv;obtain⟨W,hv⟩:=hv;cases hv;refine⟨{s with H:=Oo s.H k h},⟨by simp_all,λj M=>⟨by grind[QC],rfl⟩,by simp_all,?_,?_,by omega,by simp_all,by simp_all,?_,?_,?_,hkl⟩⟩
   ·intro q hq j X h2
    have:j=k:=by omega
    simp_all[zX,Oo,ni,CB,Q1,PV,Qu]
   ·grind[DN,Oo,ni]
   ·grind[Oo,ni]
   ·intro d
    rw[ht d];refine qp (λa ha _=>?_) (by simp_all) _
    simp_all
   simp_all
 | a ::l,m,k,t,h,rs,r,s,WE,c,hv,hcl,ht,hn0,hG,hkl=>by
   have ha:a∈j9:=by simp_all
   have w:∀x∈l,x∈j9:=by simp_all
   simp only[xk,xg,wBj]at c;obtain⟨C,al,c⟩:=c;have u:∀x∈j9,a.b.testBit x.i=true->m.testBit x.i=true:=by grind
   have z:AP j9 (m |||2 ^ a.i).testBit:=λx hx A y hy hb=>by
     rw[YB]at A⊢;simp only[PV,AQ]at A;rcases A with A|A
     ·rw[hcl x hx A y hy hb];rfl
     grind[mQ]
   simp only[yk]at hv
   cases hd:zd n a.o with
   |none=>simp_all
   | some d =>
     simp only[hd]at hv
     let T1:Bool->V->Nat->O->(Nat->Hp)->(Nat->Hp)->Tc:=λb v p ob H G=>⟨Oo s.on a.i b,Oo s.val a.i v,Oo s.tt a.i t,Oo s.ep a.i k,Oo s.pl a.i p,Oo s.ob a.i ob,H,G⟩
     have X:∀b v p ob H G,∀i,m.testBit i=true->(T1 b v p ob H G).on i=s.on i/\(T1 b v p ob H G).val i=s.val i/\(T1 b v p ob H G).tt i=s.tt i/\(T1 b v p ob H G).ep i=s.ep i/\
        (T1 b v p ob H G).pl i=s.pl i/\(T1 b v p ob H G).ob i=s.ob i:=by grind[QC]
     have D:∀b v p ob H G,∀d',jR (d.f t v) d' = qI (T1 b v p ob H G).val (m |||2 ^ a.i).testBit d' j9 (jR t0 d'):=by grind[J6,G6,YB,jR,Oo,ni]
     have self:∀{b v p ob H G l' k' h' P T},ug n all j9 ws call t0 h0 l' (m |||2 ^ a.i) k' h' P r (T1 b v p ob H G) T->
        T.on a.i=b/\T.val a.i=v/\T.tt a.i=t/\T.ep a.i=k/\T.pl a.i=p/\T.ob a.i=ob/\(∀d',jR (T.tt a.i) d' = qI T.val m.testBit d' j9 (jR t0 d')):=λ{b v p ob H G l' k' h' P T} g=>by
       obtain⟨a1,a2,a3,a4,a5,a6⟩:=g.same a.i (by simp_all);refine⟨a1.trans (ni _ _ _),a2.trans (ni _ _ _),a3.trans (ni _ _ _),a4.trans (ni _ _ _),a5.trans (ni _ _ _),a6.trans (ni _ _ _),λd'=>?_⟩;rw[a3.trans (ni _ _ _),ht d'];refine(qp (by simp_all) (λx hx _ Y=>?_) _).symm;rw[(g.same x.i (by simp_all)).2.1,(X b v p ob H G x.i Y).2.1]
     rcases KT a.o with hc|hc|hc
     ·
       have E:Nat.beq (cls a.o) 2=false:=by rw[hc];rfl
       rw[E]at c;simp only[xg]at c;obtain⟨F,c⟩:=c;rw[hc]at hv;simp only[IC,fq]at hv;obtain⟨b,Z,hv⟩:=hv
       cases b with
       | false=>
         obtain⟨T,g⟩:=trace B hp l _ k _ h rs r (T1 false .undef 0 default s.H s.G) w c hv z (D _ _ _ _ _ _) hn0 hG hkl;obtain⟨S,N,U,s4,J,Q,I⟩:=self g
         refine ⟨T,g.cons (by simp_all) (by grind) (iZ _) ⟨m.testBit,C,hcl,u,I,⟨d,hd⟩,by simp_all,λ_=>N,by simp_all,by omega,
           by simp_all,by omega,by omega⟩ g.D0 g.more (by omega) (by omega) (iZ _) hkl⟩
       | true=>
         simp only[fq]at hv;obtain⟨v,aa,hv⟩:=hv;obtain⟨T,g⟩:=trace B hp l _ k _ h _ r (T1 true v 0 default s.H s.G) w c hv z (D _ _ _ _ _ _) hn0 hG hkl;obtain⟨S,N,U,s4,J,Q,I⟩:=self g
         refine ⟨T,g.cons (by simp_all) (by grind) (iZ _) ⟨m.testBit,C,hcl,u,I,⟨d,hd⟩,by simp_all,by simp_all,by simp_all,by omega,
           λ_ _ j K L j3=>?_,by omega,by omega⟩ (λq hq=>g.D0 q (by simp[hq])) g.more (by omega) (by omega) (iZ _) hkl⟩
         rw[s4]at K;rcases g.D0 _ (ZP ..) j K L with ab|hh
         ·grind
         grind[zX,V.eq_of_beq]
     ·
       have E:Nat.beq (cls a.o) 2=false:=by rw[hc];rfl
       rw[E]at c;simp only[xg]at c;obtain⟨F,c⟩:=c;rw[hc]at hv;simp only[Gq,fq]at hv;obtain⟨b,Z,hv⟩:=hv
       cases b with
       | false=>
         obtain⟨T,g⟩:=trace B hp l _ k _ h rs r (T1 false .undef 0 default s.H s.G) w c hv z (D _ _ _ _ _ _) hn0 hG hkl;obtain⟨S,N,U,s4,J,Q,I⟩:=self g
         refine ⟨T,g.cons (by simp_all) (by grind) (iZ _) ⟨m.testBit,C,hcl,u,I,⟨d,hd⟩,by simp_all,λ_=>N,by simp_all,by omega,
           by omega,by simp_all,by omega⟩ g.D0 g.more (by omega) (by simp_all) (iZ _) hkl⟩
       | true=>
         simp only[fq]at hv;obtain⟨⟨ob,mk⟩,aa,hv⟩:=hv;obtain⟨T,g⟩:=trace B hp l _ k _ _ _ r (T1 true (mk h.next) h.next ob s.H s.G) w c hv z (D _ _ _ _ _ _) (ZT hn0) (λj M=>ZT (hG j M)) hkl;obtain⟨S,N,U,s4,J,Q,I⟩:=self g
         refine ⟨T,g.cons (by simp_all) (by grind) (iZ _) ⟨m.testBit,C,hcl,u,I,⟨d,hd⟩,by simp_all,by simp_all,by simp_all,by omega,
           by omega,λ_ _=>⟨by simp_all,λj K L=>?_,λj M=>?_,by omega⟩,by omega⟩
           (λq hq=>g.D0 q (by simp[hq])) ((DN.new h ob).trans g.more) (by omega) (λ_ _=>by rw[J];exact⟨iZ _,Oy _⟩) (O4 _) hkl⟩
         ·rw[s4]at K
          rw[J,Q];refine⟨?_,λj3=>?_⟩
          ·have e1:(h.new ob).next<=(T.H k).next:=g.more.1
           have e2:=GV g.chain (j-k) j (by omega) L;have:h.next<(h.new ob).next:=Oy _;omega
          ·rcases g.D0 _ (ZP ..) j K L with ab|hh
           ·grind
           grind[zX,O.eq_of_beq]
         ·rw[s4]at M
          rw[J,(g.VX j M).2]
          grind
     ·
       have E:Nat.beq (cls a.o) 2=true:=by rw[hc];rfl
       rw[E]at c;simp only[xg]at c;obtain⟨F,c⟩:=c;have ac:k<ws.length:=by
        unfold isW at F;split at F
        ·grind
        ·cases F
       rw[hc]at hv;simp only[CA,gS,fq]at hv;obtain⟨W,b,Z,hv⟩:=hv;have ah:∀q∈rs,q.last<k\/zX h q=true:=by simp_all[CB,Q1,PV,Qu]
       have ai:∀(b:Bool) (v:V) (h':Hp),p6 n all a.o t=some b->(yk n all ws l (Nat.succ k)).f call (d.f t v) h' rs=some r->h.next<=h'.next->(b=false->v = .undef/\h' = h)->
         (b=true->(IX a.o).f call t h=some (v,h'))->∃T,ug n all j9 ws call t0 h0 (a::l) m k h rs r s T:=by
         intro b v h' Z hv hn aj am
         obtain ⟨T,g⟩:=trace B hp l _ (k+1) _ h' rs r (T1 b v 0 default (Oo s.H k h) (Oo s.G k h')) w c hv z (D _ _ _ _ _ _) (by omega)
           (fun j M=>by
             by_cases e:j=k
             ·subst e;show(Oo s.G j h' j).next<=_;simp_all[ni,iZ]
             grind[Oo,QC,Ie]) ac
         obtain⟨S,N,U,s4,J,Q,I⟩:=self g;obtain⟨g1,g2⟩:=g.VX k (Oy _);have R:T.H k=h:=g1.trans (ni _ _ _);have ae:T.G k=h':=g2.trans (ni _ _ _)
         refine ⟨T,g.cons (X _ _ _ _ _ _) (by grind[QC]) (O4 _) ⟨m.testBit,C,hcl,u,I,⟨d,hd⟩,by grind,
           by grind,by omega,by omega,by omega,by omega,
           λ_=>⟨by grind,λho=>?_,λho=>?_⟩⟩ (λq hq j K L=>?_) (by rw[R];exact .refl h) (λj K L=>?_) (by omega) hn hkl⟩
         ·grind
         ·grind
         ·by_cases e:j=k
          ·grind
          ·exact g.D0 q hq j (by omega) L
         ·have:j=k:=by omega
          subst this;rw[R,ae];exact⟨hn,g.more⟩
       cases b with
       |false=>grind
       | true=>
         grind[fq,gS,Kj]
end
