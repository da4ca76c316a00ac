/- Parts. -/
import Derived.Test.YtjgjgngfjopaaaaDoorM03
namespace Go.Proofs.YtjgjgngfjopaaaaDoor.Hx
def vU(call:Call):Prop:=∀(f:Nat) (args:List V) (v:V) (h h':Hp) (Δ:Env) (w:World) (gN:Array Value),call f args h=some (v,h')->WR Δ h w->gM Δ args gN.toList-> (∃x,(callFunc f gN).run P0 w = .ok (.value x) w/\yQ Δ h w v h' Δ x w)\/ ((callFunc f gN).run P0 w = .ok (.enter f gN) w/\Calls P0 f gN w λe w'=>∃a x,e = .returned x/\yQ Δ h w v h' a x w')
section
variable{Δ:Env}{h:Hp}{w:World}{n:Nat}{t:Tm}{a:Act}
theorem NI{call:Call} (hc:vU call) (j:WR Δ h w) (p:TR Δ n t a) {o:Oper} {v:V} {h':Hp} (hv:(Ib o).f call t h=some (v,h')) {K:Act->World->Prop} {Q:Exit->Act->World->Prop}
  (d:∀k x w',yQ Δ h w v h' k x w'->K (a.put o.dst x) w'):o.wp P0 a w K Q:=by
 unfold Ib at hv;split at hv
 ·simp only[ft]at hv;obtain⟨u,m,i⟩:=hv;cases i;obtain⟨x,b,c⟩:=YC j p m;unfold Oper.wp;rw[b,Oper.upon_value];exact d Δ x w ⟨c,j,.refl _ _,.refl _ _⟩
 ·simp only[ft]at hv;obtain⟨⟨ob,mk⟩,m,i⟩:=hv;cases i;obtain⟨B,mv,b,c⟩:=Q8 p m;obtain⟨k,a1,a2,a3,a4⟩:=j.alloc c;unfold Oper.wp;rw[b w,Oper.upon_value];exact d k _ _ ⟨a2,a1,a3,a4⟩
 ·simp only[ft]at hv;obtain⟨r,m,i⟩:=hv;rcases VC j p m with⟨u,y,k,x,w',rfl,b,c⟩|⟨g,l,gN,rfl,b,c⟩
  ·cases i;unfold Oper.wp;rcases b with b|⟨rfl,b⟩
   ·rw[b,Oper.upon_value];exact d _ _ _ c
   ·rw[b,Oper.upon_skip];exact d _ _ _ c
  ·unfold Oper.wp;rw[c];rcases hc g l v h h' Δ w gN i j b with⟨x,q,s⟩|⟨q,s⟩
   ·rw[q,Oper.upon_value];exact d _ _ _ s
   ·rw[q,Oper.upon_enter];refine Calls.mono s λe w' z=>?_;obtain⟨k,x,rfl,A⟩:=z;exact d _ _ _ A
theorem W9(a:Act) (d:Nat) (x:Value) (i:Nat) (b:d<a.tmps.size):(a.put (some d) x).tmps.getD i undef=if d=i then x else a.tmps.getD i undef:=by
 simp only[Act.put,wBj,Array.getElem?_setIfInBounds];by_cases h:d=i
 ·subst h;simp[b]
 ·simp[h]
theorem put_defers(a:Act)(d:Option Tmp)(x:Value):(a.put d x).defers=a.defers:=by cases d <;> rfl
theorem Jk(c:TR Δ n t a) {o:Oper} {d:DF} (b:yz n o=some d) {v:V} {x:Value} (hv:fM Δ v x):TR Δ n (d.f t v) (a.put o.dst x):=by
 unfold yz at b
 cases ho:o.dst with
 |none=>simp only[ho]at b;cases b;exact c
 | some k=>
   simp only[ho]at b
   cases hk:Nat.blt k n with
   |false=>simp[hk]at b
   | true=>
     simp only[hk]at b;cases b;have e:k<a.tmps.size:=by rw[c.size,<-Ns];exact hk
     refine⟨by simp[Act.put,c.size],λi=>?_,by rw[put_defers];show II Δ (t.set k v).ds _;rw[Tm.VU];exact c.ds⟩;rw[W9 _ _ _ _ e];show fM Δ (jL (t.set k v) i) _;rw[Ms];by_cases h:k=i
     ·rw[if_pos h,if_pos h];exact hv
     ·rw[if_neg h,if_neg h];exact c.rel i
theorem NB{n:Nat} {ops:List Oper} {o:Oper} (a:kO n ops o=none) (y:Nat->Option Bool):Region.wanted o y=true:=by
 unfold kO at a;unfold Region.wanted
 cases hg:o.guard with
 |none=>rfl
 | some g=>
   obtain⟨j,b⟩:=g;simp only[hg]at a;split at a
   ·split at a
    ·split at a <;> cases a
    ·cases a
   ·cases a
theorem NS(p:TR Δ n t a) {ops:Array Oper} {o:Oper} {g:GF} (c:kO n ops.toList o=some g) {b:Bool} (e:g.f t=some b):Region.wanted o (yielded ops a.tmps)=b:=by
 unfold kO at c;unfold Region.wanted
 cases hg:o.guard with
 |none=>simp[hg]at c
 | some r =>
   obtain⟨j,l⟩:=r;simp only[hg]at c⊢;unfold yielded
   cases hj:ops.toList[j]? with
   | none=>
     simp only[hj]at c;cases c;have:ops[j]? =none:=by rw[<-Rm];exact hj
     simp only[this,Option.bind_none];cases e
     cases l <;> rfl
   | some q=>
     have m:ops[j]? =some q:=by rw[<-Rm];exact hj
     simp only[hj]at c;simp only[m,Option.bind_some]
     cases hd:q.dst with
     | none=>
       simp only[hd]at c;cases c;cases e;simp only[Option.bind_none]
       cases l <;> rfl
     | some d=>
       simp only[hd]at c;simp only[Option.bind_some]
       cases Kh:Nat.blt d n with
       |false=>simp only[Kh]at c;cases c;cases e
       | true=>
         simp only[Kh]at c;cases c;have i:d<a.tmps.size:=by rw[p.size,<-Ns];exact Kh
         have k:=p.rel d;have s:a.tmps[d]? =some (a.tmps.getD d undef):=by simp[i]
         rw[s];generalize a.tmps.getD d undef=x at k;simp only at e;split at e
         ·rename_i u h
          cases e;rw[h]at k;cases k;cases l <;> cases u <;> rfl
         ·rename_i h
          cases e;rw[h]at k
          cases k with
          |tuple _ cs v=>cases l <;> rfl
         ·cases e
structure BA (Δ:Env) (h:Hp) (w:World) (n:Nat) (t':Tm) (h':Hp) (a:Env) (b:Act) (w':World):Prop where
 tmps:TR a n t' b
 world:WR a h' w'
 frame:FR Δ a w w'
 grow:Gr h Δ h' a
theorem BA.start(b:TR Δ n t a)(c:WR Δ h w):BA Δ h w n t h Δ a w:=⟨b,c,.refl _ _,.refl _ _⟩
theorem BA.trans{a b:Env} {c d:Hp} {e f:World} {i g:Tm} {a1 a2:Act} (x:BA Δ h w n i c a a1 e) (y:BA a c e n g d b a2 f):BA Δ h w n g d b a2 f:=
 ⟨y.tmps,y.world,x.frame.trans y.frame,x.grow.trans y.grow⟩
theorem BA.put(g:TR Δ n t a) {o:Oper} {d:DF} (b:yz n o=some d) {v:V} {h':Hp} {e:Env} {x:Value} {w':World} (c:yQ Δ h w v h' e x w') :
  BA Δ h w n (d.f t v) h' e (a.put o.dst x) w':=
 ⟨Jk (g.mono c.frame.le) b c.val,c.world,c.frame,c.grow⟩
theorem WQ(r:WR Δ h w) (b:TR Δ n t a) {o:Oper} {q:QF} (hq:zB o=some q) {t':Tm} (hv:q.f t h=some t') :
  ∃d,(∀w,(execOp a.eval o).run P0 w = .ok (.defer d) w)/\TR Δ n t' {a with defers:=d::a.defers}:=by
 unfold zB at hq;split at hq
 ·rename_i c k;split at hq
  ·rename_i f s;cases hq;simp only[ft]at hv;obtain⟨B,u,args,v,j⟩:=hv;have e:=kS r b u;obtain⟨xs,x⟩:∃xs,xs=c.args.map a.eval:=⟨_,rfl⟩
   have l:=A8 b v;generalize y:a.eval f=xv at e;unfold VZ at j;split at j
   ·rename_i g first m
    cases j
    cases e with
    | func _ _ _ p c' z hc=>
      refine⟨{target:= .fn (.func g) c',args:=p++c.args.map a.eval},λw=>?_,⟨b.size,λi=>?_,?_⟩⟩
      ·have A:(resolve a.eval c o.type).run P0 w = .ok {target:= .fn (.func g) c',args:=p++c.args.map a.eval} w:=by
         unfold resolve;rw[s];simp only[y];rfl
       unfold execOp;rw[k];simp only[qh,A,py];rfl
      ·rw[Uj];exact b.rel i
      ·rw[Tm.Ze]
       refine .cons _ _ _ _ _ _ ?_ b.ds;simp only[Array.toList_append,Ek,Array.toList_map];exact z.append (l.append hc)
   ·cases j
  ·cases hq
 ·cases hq
theorem Zy{call:Call} (hc:vU call) {ops:Array Oper} {i:Nat} {o:Oper} (hi:ops[i]? =some o) {c:SF} {K:Act->World->Prop} {Q:Exit->Act->World->Prop}
  (m:WR Δ h w) (j:TR Δ n t a) {r:Tm×Hp} (hv:(Iz n ops.toList o c).f call t h=some r)
  (p:∀t' h' u y w',c.f call t' h' = some r->BA Δ h w n t' h' u y w'->K y w'):wpOp P0 ops Q i K a w:=by
 unfold Iz at hv;unfold wpOp;simp only[hi]
 cases hdst:yz n o with
 |none=>simp only[hdst]at hv;cases hv
 | some d=>
   simp only[hdst]at hv;have k:∀x,oB ((Ib o).f call t h) (λr=>c.f call (d.f t r.1) r.2)=some x->x=r->o.wp P0 a w K Q:=by
     intro x z s;subst s;rw[ft]at z;obtain⟨⟨v,h'⟩,l,e⟩:=z;exact NI hc m j l λu x w' A=>p _ _ _ _ _ e (BA.put j hdst A)
   cases hg:kO n ops.toList o with
   | none=>
     simp only[hg]at hv;rw[if_pos (NB hg _)]
     cases hq:zB o with
     |none=>simp only[hq]at hv;exact .inl (k _ hv rfl)
     | some q=>
       simp only[hq,ft]at hv;obtain⟨D,l,e⟩:=hv;obtain⟨E,B,C⟩:=WQ m j hq l;refine .inl ?_;unfold Oper.wp;rw[B w,Oper.upon_defer]
       exact p _ _ _ _ _ e (BA.put C hdst ⟨.undef Δ,m,.refl _ _,.refl _ _⟩)
   | some g=>
     simp only[hg,ft]at hv;obtain⟨b,l,e⟩:=hv;rw[NS j hg l]
     cases b with
     |true=>exact .inl (k _ e rfl)
     |false=>exact p _ _ _ _ _ e (BA.put j hdst ⟨.undef Δ,m,.refl _ _,.refl _ _⟩)
theorem N2{call:Call} (hc:vU call) {ops:Array Oper} {Q:Exit->Act->World->Prop}:∀(l:List Oper) (k:Nat),l=ops.toList.drop k->∀{Δ:Env} {h:Hp} {w:World} {t:Tm} {a:Act},
  WR Δ h w->TR Δ n t a->∀{r:Tm×Hp},(tQ n ops.toList l).f call t h=some r->(∀e b w',BA Δ h w n r.1 r.2 e b w'->Q .normal b w')->
  wpOps P0 ops Q (List.range' k l.length) a w
 | [],k,hl,Δ,h,w,t,a,hW,hT,r,hv,hQ=>by
   cases hv
   exact hQ _ _ _ (.start hT hW)
 | o ::l,k,hl,Δ,h,w,t,a,hW,hT,r,hv,hQ=>by
   have g:ops[k]? =some o:=by
     have:(ops.toList.drop k)[0]? =some o:=by rw[<-hl];rfl
     rw[Vr,X8]at this;simpa using this
   have c:l=ops.toList.drop (k+1):=by
     rw[<-ZQ,<-hl];rfl
   rw[Dz,List.range'_succ,wpOps_cons];refine Zy hc g hW hT hv λt' h' e b w' i d=>?_;exact N2 hc l (k+1) c d.world d.tmps i λj m p q=>hQ _ _ _ (d.trans q)
end
def Ey(c:Code) (Q:Exit->Act->World->Prop) (a:Act) (w:World):Prop:=∀(b:Frame) (k:List Item) (cs:List Frame),∃e d w',Q e d w'/\Arrives P0 (lone (b.at a (.code c:: .inLoop c::k)) cs w) b k cs e d w'
theorem Ey.round{c:Code} {Q:Exit->Act->World->Prop} {a:Act} {w:World} (h:c.wp P0 (Exit.then (Ey c Q) Q) a w):Ey c Q a w:=by
 intro b k cs;obtain⟨e,g,i,hq,d⟩:=h b (.inLoop c::k) cs
 cases e with
 | normal=>
   obtain⟨m,n,o,j,f⟩:=hq b k cs
   exact⟨m,n,o,j,.of_steps (Steps.trans d (.one step_inLoop)) f⟩
 |exit id=>exact⟨_,g,i,hq,.pass (x:= .inLoop c) rfl (λ_ _=> .inl (by simp)) d⟩
 |goto l=>exact⟨_,g,i,hq,.pass (x:= .inLoop c) rfl (λ_ _=> .inl (by simp)) d⟩
 |ret=>exact⟨_,g,i,hq,.pass (x:= .inLoop c) rfl (λ_ _=> .inl (by simp)) d⟩
 |panic ch=>exact⟨_,g,i,hq,.pass (x:= .inLoop c) rfl (λ_ _=> .inl (by simp)) d⟩
 |outgrown=>exact⟨_,g,i,hq,.pass (x:= .inLoop c) rfl (λ_ _=> .inl (by simp)) d⟩
theorem Ey.wp{c:Code} {Q:Exit->Act->World->Prop} {a:Act} {w:World} (h:Ey c Q a w):(Code.loop c).wp P0 Q a w:=
 λb k cs=>let⟨e,a',w',q,r⟩:=h b k cs;⟨e,a',w',q,.of_steps (.one step_loop) r⟩
def Alike(t t':Tm)(x:Operand):Prop:=(MV x).f t=(MV x).f t'
theorem Hz{t t':Tm} {l:List Operand} (h:∀d,d∈Bv l->jL t d=jL t' d):∀x∈l,Alike t t' x:=by
 induction l with
 |nil=>intro x a;cases a
 | cons y l b=>
   intro x a
   cases a with
   | head=>
     unfold Alike
     cases y with
     |tmp i=>show some (jL t i)=some (jL t' i);rw[h i (by simp[Bv])]
     |const v=>simp only[MV];split <;> rfl
     |global g=>rfl
     |func f=>rfl
   | tail _ a=>
     refine b (λd c=>h d ?_) x a;cases y <;> simp[Bv,c]
section
variable{t t':Tm}{h:Hp}
theorem gf{x:Operand} (a:Alike t t' x):(sR x).f t h=(sR x).f t' h:=by
 unfold Alike at a
 cases x with
 |global g=>unfold sR;simp only;split <;> rfl
 |tmp i=>exact a
 |const v=>exact a
 |func f=>exact a
theorem tX:∀{l:List Operand},(∀x∈l,Alike t t' x)->Jb t l=Jb t' l
 |[],_=>rfl
 | x::l,hl=>by
   have a:(MV x).f t=(MV x).f t':=hl x (by simp);simp only[Jb,a,tX (l:=l) λy b=>hl y (Ud _ b)]
theorem BC:∀{l:List (Nat×Operand)},(∀x∈l,Alike t t' x.2)->tN t l=tN t' l
 |[],_=>rfl
 | x::l,hl=>by
   have a:(MV x.2).f t=(MV x.2).f t':=hl x (by simp);simp only[tN,a,BC (l:=l) λy b=>hl y (Ud _ b)]
theorem L5{x:Option Operand} (a:∀y,x=some y->Alike t t' y):Ip x t h=Ip x t' h:=by
 cases x with
 |none=>rfl
 |some y=>simp only[Ip,gf (a y rfl)]
theorem Rb{ty:Nat} {p:PF} (hp:p.f t h=p.f t' h):(Kb ty p).f t h=(Kb ty p).f t' h:=by
 unfold Kb;(repeat' split) <;> simp only[hp]
theorem Qr{a b:Nat} {p:PF} (hp:p.f t h=p.f t' h):(KB a b p).f t h=(KB a b p).f t' h:=by
 unfold KB;split <;> first|rfl|simp only[hp]|(split <;> first|rfl|simp only[hp])
theorem Jn{a b:Nat} {p:PF} (hp:p.f t h=p.f t' h):(nw a p b).f t h=(nw a p b).f t' h:=by
 unfold nw;(repeat' split) <;> simp only[hp]
theorem OT{a b:Nat} {p:PF} (hp:p.f t h=p.f t' h):(Ia a p b).f t h=(Ia a p b).f t' h:=by
 unfold Ia;split <;> simp only[hp]
theorem JP{a:Nat} {p q:PF} (hp:p.f t h=p.f t' h) (hq:q.f t h=q.f t' h):(nj a p q).f t h=(nj a p q).f t' h:=by
 unfold nj;(repeat' split) <;> simp only[hp,hq]
theorem OA{a:Nat} {p q:PF} (hp:p.f t h=p.f t' h) (hq:q.f t h=q.f t' h):(HX a p q).f t h=(HX a p q).f t' h:=by
 unfold HX;(repeat' split) <;> simp only[hp,hq]
theorem O8{a:Nat} {p:PF} {lo hi:Option Operand} (hp:p.f t h=p.f t' h) (b:Ip lo t h=Ip lo t' h) (c:Ip hi t h=Ip hi t' h) :
  (JL a p lo hi).f t h=(JL a p lo hi).f t' h:=by
 unfold JL;(repeat' split) <;> simp only[hp,b,c]
theorem M6{a:Nat} {p q:PF} {ok:Bool} (hp:p.f t h=p.f t' h) (hq:q.f t h=q.f t' h):(FL a p q ok).f t h=(FL a p q ok).f t' h:=by
 unfold FL;(repeat' split) <;> simp only[hp,hq]
theorem R0{a:Nat} {p:PF} (hp:p.f t h=p.f t' h):(hlen a p).f t h=(hlen a p).f t' h:=by
 unfold hlen;split <;> simp only[hp]
theorem M5{a:Nat} {p:PF} {ok:Bool} (hp:p.f t h=p.f t' h):(Gg p a ok).f t h=(Gg p a ok).f t' h:=by
 unfold Gg;split <;> simp only[hp]
theorem PH{c p q:PF} (hc:c.f t h=c.f t' h) (hp:p.f t h=p.f t' h) (hq:q.f t h=q.f t' h):(Kv c p q).f t h=(Kv c p q).f t' h:=by
 unfold Kv;simp only[hc,hp,hq]
theorem OF{a:Nat} {ps:List (Nat×Operand)} (hp:tN t ps=tN t' ps):(Hq a ps).f t h=(Hq a ps).f t' h:=by
 unfold Hq;(repeat' split) <;> simp only[hp]
theorem HB{o:Oper} (e:∀x∈o.op.operands.toList,Alike t t' x):(iK o).f t h=(iK o).f t' h:=by
 obtain⟨dst,op,ty,pos,af,gd⟩:=o;cases op <;> simp only[iK] <;> simp only[Op.operands]at e
 case move x=>exact gf (e x (by simp))
 case assign x=>exact gf (e x (by simp))
 case pick c a b=>exact PH (gf (e c (by simp))) (gf (e a (by simp))) (gf (e b (by simp)))
 case load ty a=>exact Rb (gf (e a (by simp)))
 case nilCheck x=>simp only[uh,gf (h:=h) (e x (by simp))]
 case binOp op xt x y b=>simp only[gf (h:=h) (e x (by simp)),gf (h:=h) (e y (by simp))]
 case unOp op b x=>simp only[gf (h:=h) (e x (by simp))]
 case convert s d x=>exact Qr (gf (e x (by simp)))
 case build ty ps=>exact OF (BC λp hp=>e p.2 (by simp;exact⟨p.1,by simpa using hp⟩))
 case makeFunc fn first caps=>
  cases fn with
  |func f=>simp only[tX (l:=first.toList) λx g=>e x (by simp at g⊢;exact .inl g),tX (l:=caps.toList) λx g=>e x (by simp at g⊢;exact .inr g)]
  |_=>rfl
 case slice ty x lo hi mx=>
  cases mx with
  |none=>exact O8 (gf (e x (by simp))) (L5 λy n=>e y (by simp[n])) (L5 λy n=>e y (by simp[n]))
  |some _=>rfl
 case fieldAddr s x f=>exact Jn (gf (e x (by simp)))
 case field s x f=>exact OT (gf (e x (by simp)))
 case indexAddr ty x i=>exact JP (gf (e x (by simp))) (gf (e i (by simp)))
 case index ty x i=>exact OA (gf (e x (by simp))) (gf (e i (by simp)))
 case lookup ty m k ok=>exact M6 (gf (e m (by simp))) (gf (e k (by simp)))
 case extract x i=>simp only[EG,gf (h:=h) (e x (by simp))]
 case makeInterface ty x=>
  split
  ·simp only[gf (h:=h) (e x (by simp))]
  ·rfl
 case typeAssert x b asserted ok=>exact M5 (gf (e x (by simp)))
 case call c=>
  obtain⟨q,args,w⟩:=c
  cases q with
  | builtin b=>
    have r:∀x∈args.toList,Alike t t' x:=λx u=>e x (by simp[Call.operands]at u⊢;exact u);cases b <;> simp only
    case len=>
      split
      ·rename_i x ty v j _
       exact R0 (gf (r x (by simp[j])))
      ·rfl
    case min=>simp only[tX r]
    case max=>simp only[tX r]
    all_goals rfl
  |_=>rfl
 all_goals rfl
theorem Jl{x:Operand}(a:Alike t t' x):(MV x).f t=(MV x).f t':=a
theorem Ki{o:Oper} (a:∀x∈o.op.operands.toList,Alike t t' x):(qf o).f t=(qf o).f t':=by
 obtain⟨dst,op,ty,pos,af,gd⟩:=o;cases op <;> simp only[qf] <;> simp only[Op.operands]at a
 case alloc e=>split <;> rfl
 case box e x=>simp only[Jl (a x (by simp))]
 case buildSlice ty len parts=>
  (repeat' split) <;> first
   |rfl
   |simp only[Fe,BC (t:=t) (t':=t') (l:=parts.toList) λp hp=>a p.2 (by simp;exact⟨p.1,by simpa using hp⟩)]
 case makeSlice ty n c=>
  (repeat' split) <;> first
   |rfl
   |simp only[Jl (a n (by simp)),Jl (a c (by simp))]
 case makeMap ty r=>
  cases r with
  |none=>simp only;split <;> rfl
  |some _=>rfl
 all_goals rfl
theorem Pq{o:Oper} (g:∀x∈o.op.operands.toList,Alike t t' x):(jW o).f t h=(jW o).f t' h:=by
 obtain⟨dst,op,ty,pos,af,gd⟩:=o;cases op <;> simp only[jW] <;> simp only[Op.operands]at g
 case store ty a x=>
  split
  ·simp only[gf (h:=h) (g a (by simp)),gf (h:=h) (g x (by simp))]
  ·rfl
 case mapUpdate ty m k x=>
  (repeat' split) <;> first
   |rfl
   |simp only[gf (h:=h) (g m (by simp)),gf (h:=h) (g k (by simp)),gf (h:=h) (g x (by simp))]
 case insert ty m k x=>
  (repeat' split) <;> first
   |rfl
   |simp only[gf (h:=h) (g m (by simp)),gf (h:=h) (g k (by simp)),gf (h:=h) (g x (by simp))]
 case range ty x=>
  split
  ·simp only[gf (h:=h) (g x (by simp))]
  ·rfl
 case next x Z7=>
  cases Z7 with
  |true=>rfl
  |false=>simp only[gf (h:=h) (g x (by simp))]
 case entry x=>simp only[gf (h:=h) (g x (by simp))]
 case convert s d x=>
  (repeat' split) <;> first
   |rfl
   |simp only[gf (h:=h) (g x (by simp))]
 case call c=>
  obtain⟨l,args,p⟩:=c
  cases l with
  | builtin b=>
    have i:∀x∈args.toList,Alike t t' x:=λx j=>g x (by simp[Call.operands]at j⊢;exact j);cases b <;> simp only
    case append=>
      split
      ·rename_i s x n xT e _
       (repeat' split) <;> first
         |rfl
         |simp only[gf (h:=h) (i s (by simp[e])),gf (h:=h) (i x (by simp[e]))]
      ·rfl
    case copy=>
      split
      ·rename_i s x n xT e _
       (repeat' split) <;> first
         |rfl
         |simp only[gf (h:=h) (i s (by simp[e])),gf (h:=h) (i x (by simp[e]))]
      ·rfl
    case delete=>
      split
      ·rename_i s x n xT e _
       (repeat' split) <;> first
         |rfl
         |simp only[gf (h:=h) (i s (by simp[e])),gf (h:=h) (i x (by simp[e]))]
      ·rfl
    all_goals rfl
  | value f=>
    have i:∀x∈args.toList,Alike t t' x:=λx j=>g x (by simp[Call.operands]at j⊢;exact .inr j)
    simp only[gf (h:=h) (g f (by simp[Call.operands])),tX i]
  | invoke r m=>
    have i:∀x∈args.toList,Alike t t' x:=λx j=>g x (by simp[Call.operands]at j⊢;exact .inr j);simp only[gf (h:=h) (g r (by simp[Call.operands])),tX i]
 all_goals rfl
theorem LK{call:Call} {o:Oper} (a:∀x∈o.op.operands.toList,Alike t t' x):(Ib o).f call t h=(Ib o).f call t' h:=by
 unfold Ib;split
 ·simp only[HB (h:=h) a]
 ·simp only[Ki a]
 ·simp only[Pq (h:=h) a]
end
theorem Cr:∀(l:List Oper) (i:Nat) (b:List Nat) (k:Nat) (a:It),(items l i b)[k]? =some a->a.i=i+k/\l[k]? =some a.o
 |[],i,b,k,a,h=>by simp[items]at h
 |o::os,i,b,0,a,h=>by simp[items]at h;subst h;exact⟨rfl,rfl⟩
 | o::os,i,b,k+1,a,h=>by
   simp only[items,QB]at h;obtain⟨d,c⟩:=Cr os (i+1) _ k a h;exact⟨by omega,by simpa using c⟩
theorem I3:∀(l:List Oper) (i:Nat) (a:List Nat),(items l i a).length=l.length
 |[],i,a=>rfl
 |o::os,i,a=>by simp[items,I3 os]
theorem Br(b:List Nat) (x:Nat):∀(d:List Edge) (m:Nat),(LG b d m).testBit x=true->m.testBit x=true\/∃e∈d,JI e=true/\(x=e.on\/(b[e.on]?.getD 0).testBit x=true)
 |[],m,h=> .inl h
 | e ::d,m,h=>by
   simp only[LG]at h;split at h
   ·rename_i i
    rcases Br b x d _ h with a|⟨f,g,c,a⟩
    ·rw[Nat.testBit_or,Nat.testBit_or,Nat.testBit_two_pow]at a
     simp only[KM,AW]at a;rcases a with a|a|a
     ·exact .inl a
     ·exact .inr ⟨e,by simp,i,.inl a.symm⟩
     ·exact .inr ⟨e,by simp,i,.inr a⟩
    ·exact .inr ⟨f,by simp[g],c,a⟩
   ·rcases Br b x d _ h with a|⟨f,g,c,a⟩
    ·exact .inl a
    ·exact .inr ⟨f,by simp[g],c,a⟩
theorem TP:∀(l:List Oper) (i:Nat) (c:List Nat) (k:Nat) (a:It),(items l i c)[k]? =some a->
  a.b=LG (c++((items l i c).take k).map (·.b)) a.o.after.toList 0
 |[],i,c,k,a,h=>by simp[items]at h
 |o::os,i,c,0,a,h=>by simp[items]at h;subst h;simp
 | o::os,i,c,k+1,a,h=>by
   simp only[items,QB]at h;have:=TP os (i+1) _ k a h;rw[this];simp[items,Ek]
theorem LU{l:List Oper} {k:Nat} {a:It} (h:(items l 0 [])[k]? =some a) {x:Nat} (d:a.b.testBit x=true) :
  ∃e∈a.o.after.toList,JI e=true/\(x=e.on\/∃y,(items l 0 [])[e.on]? =some y/\y.b.testBit x=true):=by
 rw[TP l 0 [] k a h]at d;rcases Br _ x _ _ d with c|⟨e,f,g,c⟩
 ·simp at c
 ·refine ⟨e,f,g,?_⟩;rcases c with c|c
  ·exact .inl c
  ·right;rw[OO,zG,List.getElem?_take]at c;split at c
   ·cases hy:(items l 0 [])[e.on]? with
    |none=>rw[hy]at c;simp at c
    |some y=>rw[hy]at c;exact⟨y,rfl,by simpa using c⟩
   ·simp at c
theorem FZ(e:Edge):Region.binds .any e=JI e:=by
 unfold Region.binds JI;cases e.ground <;> rfl
def qc(val:Nat->V)(D:Nat->Bool)(d:Nat)(jY:List It)(b:V):V:=jY.foldl (λv a=>if D a.i=true/\a.o.dst=some d then val a.i else v) b
theorem qk{val KJ:Nat->V} {D D':Nat->Bool} {d:Nat} {jY:List It} (e:∀a∈jY,a.o.dst=some d->D a.i=D' a.i) (f:∀a∈jY,a.o.dst=some d->D a.i=true->val a.i=KJ a.i) (b:V) :
  qc val D d jY b=qc KJ D' d jY b:=by
 unfold qc
 induction jY generalizing b with
 |nil=>rfl
 | cons a jY g=>
   simp only[List.foldl_cons];have hs:(if D a.i=true/\a.o.dst=some d then val a.i else b)=(if D' a.i=true/\a.o.dst=some d then KJ a.i else b):=by
     by_cases hd:a.o.dst=some d
     ·rw[<-e a (by simp) hd]
      by_cases hD:D a.i=true
      ·rw[if_pos ⟨hD,hd⟩,if_pos ⟨hD,hd⟩,f a (by simp) hd hD]
      ·rw[if_neg (λh=>hD h.1),if_neg (λh=>hD h.1)]
     ·rw[if_neg (λh=>hd h.2),if_neg (λh=>hd h.2)]
   rw[hs];exact g (λx c=>e x (by simp[c])) (λx c=>f x (by simp[c])) _
theorem HR{val:Nat->V} {D:Nat->Bool} {d:Nat} {jY:List It} (h:∀a∈jY,a.o.dst=some d->D a.i=false) (b:V):qc val D d jY b=b:=by
 unfold qc
 induction jY generalizing b with
 |nil=>rfl
 | cons a jY e=>
   simp only[List.foldl_cons];rw[if_neg (λc=>by rw[h a (by simp) c.2]at c;cases c.1)];exact e (λx f=>h x (by simp[f])) _
theorem Ux{val:Nat->V} {D:Nat->Bool} {d:Nat} {jY:List It} (e:∀(k:Nat) (x:It),jY[k]? =some x->x.i=k) {a:It} (l:a∈jY) (m:a.o.dst=some d) (n:D a.i=true)
  (h:∀x∈jY,a.i<x.i->x.o.dst=some d->D x.i=false) (p:V):qc val D d jY p=val a.i:=by
 obtain ⟨k,g⟩:=mK.1 l;have r:=e k a g;have f:k<jY.length:=(iR.1 g).1;have b:jY=jY.take k++a::jY.drop (k+1):=by
  have s:jY.drop k=a::jY.drop (k+1):=by
   rw[XU f];rw[gP f]at g;cases g;rfl
  rw[<-s,X5]
 have c:∀x∈jY.drop (k+1),x.o.dst=some d->D x.i=false:=by
  intro x t j;obtain⟨q,hq⟩:=mK.1 t;rw[Vr]at hq;have:=e _ x hq;exact h x (mK.2 ⟨_,hq⟩) (by omega) j
 unfold qc;rw[b,List.foldl_append,List.foldl_cons,if_pos ⟨n,m⟩];exact HR c _
def B9(h h':Hp):Prop:=h.next<=h'.next/\∀l,l<h.next->h'.get l=h.get l
theorem B9.refl(h:Hp):B9 h h:=⟨jj _,λ_ _=>rfl⟩
theorem B9.trans{h h' c:Hp}(a:B9 h h')(b:B9 h' c):B9 h c:=⟨Gt a.1 b.1,λl d=>by rw[b.2 l (BL d a.1),a.2 l d]⟩
theorem B9.new(h:Hp)(o:O):B9 h (h.new o):=⟨Nk _,λl a=>by rw[vM,if_neg (Nat.ne_of_gt a)]⟩
theorem WR.Pe{Δ:Env} {h h':Hp} {w:World} (a:WR Δ h w) (b:B9 h h'):WR Δ h' w where
 fresh:=λl d f=>BL (a.fresh l d f) b.1
 nW:=a.nW
 obj:=λl d f=>by rw[b.2 l (a.fresh l d f)];exact a.obj l d f
 apart:=λm i e k p s n o j q r=>by
  rw[b.2 m (a.fresh m e n)]at q;rw[b.2 i (a.fresh i k o)]at r;exact a.apart m i e k p s n o j q r
 HL:=λg p c hp=>by
  rw[b.2 g (BL c a.yJ)]at hp;exact a.HL g p c hp
 yJ:=Gt a.yJ b.1
 Ts:=a.Ts
theorem O.eq_of_beq{a b:O} (h:O.beq a b=true):a=b:=by
 unfold O.beq at h;split at h
 ·simp only[uZ,z8]at h;obtain⟨⟨⟨⟨rfl,rfl⟩,rfl⟩,rfl⟩,c⟩:=h;rw[V.xu _ _ c]
 ·simp only[z8]at h;rw[h]
 ·cases h
structure Tc where
 on:Nat->Bool
 val:Nat->V
 tt:Nat->Tm
 ep:Nat->Nat
 pl:Nat->Nat
 ob:Nat->O
 H:Nat->Hp
 G:Nat->Hp
def zS(jY:List It)(D:Nat->Bool):Prop:=∀a∈jY,D a.i=true->∀x∈jY,a.b.testBit x.i=true->D x.i=true
section
variable (n:Nat)(all:List Oper)(jY ws:List It)(call:Call)(t0:Tm)(h0:Hp)
structure LZ (T:Tc) (D:Nat->Bool) (a:It):Prop where
 fresh:D a.i=false
 closed:zS jY D
 fg:∀x∈jY,a.b.testBit x.i=true->D x.i=true
 pe:∀d,jL (T.tt a.i) d=qc T.val D d jY (jL t0 d)
 dst:∃d,yz n a.o=some d
 pM:pM n all a.o (T.tt a.i)=some (T.on a.i)
 off:T.on a.i=false->T.val a.i = .undef
 epw:cls a.o≠2->KV ws a (T.ep a.i)=true
 epl:T.ep a.i<=ws.length
 pure:cls a.o=0->T.on a.i=true->∀j,T.ep a.i<=j->j<=ws.length->j<=late ws a->(iK a.o).f (T.tt a.i) (T.H j)=some (T.val a.i)
 alloc:cls a.o=1->T.on a.i=true->(∃mk,(qf a.o).f (T.tt a.i)=some (T.ob a.i,mk)/\T.val a.i=mk (T.pl a.i))/\
  (∀j,T.ep a.i<=j->j<=ws.length->T.pl a.i<(T.H j).next/\(j<=late ws a->(T.H j).get (T.pl a.i)=some (T.ob a.i)))/\
  (∀j,j<T.ep a.i->(T.G j).next<=T.pl a.i)/\h0.next<=T.pl a.i
 write:cls a.o=2->isW ws a (T.ep a.i)=true/\(T.on a.i=true->(Ib a.o).f call (T.tt a.i) (T.H (T.ep a.i))=some (T.val a.i,T.G (T.ep a.i)))/\
  (T.on a.i=false->T.G (T.ep a.i)=T.H (T.ep a.i))
structure tL (l:List It) (m k:Nat) (h:Hp) (rs:List Rec) (r:Tm×Hp) (b T:Tc):Prop where
 same:∀i,m.testBit i=true->T.on i=b.on i/\T.val i=b.val i/\T.tt i=b.tt i/\T.ep i=b.ep i/\T.pl i=b.pl i/\T.ob i=b.ob i
 T2:∀j,j<k->T.H j=b.H j/\T.G j=b.G j
 item:∀a∈l,∃D,LZ n all jY ws call t0 h0 T D a
 CL:∀r∈rs,∀j,k<=j->j<=ws.length->r.last<j\/zm (T.H j) r=true
 more:B9 h (T.H k)
 chain:∀j,k<=j->j<ws.length->(T.H j).next<=(T.G j).next/\B9 (T.G j) (T.H (j+1))
 UJ:∀a∈l,cls a.o=1->T.on a.i=true->h.next<=T.pl a.i
 TC:∀a∈l,∀c∈l,cls a.o=1->cls c.o=1->T.on a.i=true->T.on c.i=true->a.i≠c.i->T.pl a.i≠T.pl c.i
 last:r.2=T.H ws.length
 pe:∀d,jL r.1 d=qc T.val (λ_=>true) d jY (jL t0 d)
 done:∀a∈jY,m.testBit a.i=true\/a.i∈l.map (·.i)
 kle:k<=ws.length
end
theorem EU{ws:List It} {T:Tc} {k:Nat} (h:∀j,k<=j->j<ws.length->(T.H j).next<=(T.G j).next/\B9 (T.G j) (T.H (j+1))):∀(m j:Nat),j=k+m->j<=ws.length->(T.H k).next<=(T.H j).next:=by
 intro m
 induction m with
 |zero=>intro j b _;rw[b];exact jj _
 | succ m c=>
   intro j b d;obtain⟨a,rfl⟩:∃a,j=a+1:=⟨j-1,by omega⟩
   have e:=c a (by omega) (by omega);obtain⟨f,g⟩:=h a (by omega) (by omega);exact Gt e (Gt f g.1)
theorem JS(m i x:Nat):(m |||2 ^ i).testBit x=(m.testBit x ||decide (i=x)):=by rw[Nat.testBit_or,Nat.testBit_two_pow]
theorem J9{l:List It} (h:qC l=true):∀(i j:Nat) (a b:It),i<j->l[i]? =some a->l[j]? =some b->O2 a b=true:=by
 induction l with
 |nil=>intro i j a b _ c;simp at c
 | cons x l f=>
   intro i j a b g c d;simp only[qC,uZ]at h;obtain⟨e,rfl⟩:∃e,j=e+1:=⟨j-1,by omega⟩
   simp only[QB]at d
   cases i with
   | zero=>
     simp at c;subst c
     exact MT.1 h.1 b (mK.2 ⟨_,d⟩)
   |succ i=>exact f h.2 i e a b (by omega) (by simpa using c) d
theorem Np{jY:List It} (c:∀(k:Nat) (x:It),jY[k]? =some x->x.i=k) (hp:qC jY=true) {a x:It} (l:a∈jY) (m:x∈jY) {d:Nat} (n:d∈pN a.o) (e:x.o.dst=some d) :
  (x.i<a.i->a.b.testBit x.i=true)/\(a.i<x.i->x.b.testBit a.i=true):=by
 obtain⟨i,hi⟩:=mK.1 l;obtain⟨j,f⟩:=mK.1 m;have p:=c i a hi;have q:=c j x f;have h:writes x.o (pN a.o)=true:=by simp[writes,e,n]
 constructor
 ·intro g;have:=J9 hp j i x a (by omega) f hi;unfold O2 at this;simpa[h]using this
 ·intro g;have:=J9 hp i j a x (by omega) hi f;unfold O2 at this;simpa[h]using this
theorem UY{o:Oper}{d:Nat}(h:o.dst=some d):d∈pN o:=by simp[pN,h]
theorem HU{jY:List It} (f:∀(k:Nat) (x:It),jY[k]? =some x->x.i=k) (hp:qC jY=true) {a:It} (g:a∈jY) {D D':Nat->Bool} (q:zS jY D) (j:zS jY D')
  (r:∀x∈jY,a.b.testBit x.i=true->D x.i=true) (l:∀x∈jY,a.b.testBit x.i=true->D' x.i=true) (m:D a.i=false) (c:D' a.i=false) {d:Nat} (s:d∈pN a.o) (val:Nat->V) (n:V) :
  qc val D d jY n=qc val D' d jY n:=by
 refine qk (λx e p=>?_) (λ_ _ _ _=>rfl) n;obtain⟨p1,p2⟩:=Np f hp g e s p;rcases wBp x.i a.i with h|h|h
 ·rw[r x e (p1 h),l x e (p1 h)]
 ·rw[h,m,c]
 ·have t:D x.i=false:=by
   cases hh:D x.i with
   |false=>rfl
   |true=>rw[q x e hh a g (p2 h)]at m;cases m
  have u:D' x.i=false:=by
   cases hh:D' x.i with
   |false=>rfl
   |true=>rw[j x e hh a g (p2 h)]at c;cases c
  rw[t,u]
theorem FY{jY:List It} (b:∀(k:Nat) (x:It),jY[k]? =some x->x.i=k) (hp:qC jY=true) {a:It} (m:a∈jY) {D D':Nat->Bool} (s:zS jY D) (r:D a.i=false)
  (f:∀i,D' i=(D i ||decide (a.i=i))) {val KJ:Nat->V} (hv:∀i,D i=true->KJ i=val i) (d:Nat) (p:V) :
  qc KJ D' d jY p=if a.o.dst=some d then KJ a.i else qc val D d jY p:=by
 by_cases hd:a.o.dst=some d
 ·rw[if_pos hd];refine Ux b m hd (by rw[f];simp) (λx l n c=>?_) p;rw[f];have q:a.i≠x.i:=Qe n;have:=(Np b hp m l (UY hd) c).2 n
  cases hh:D x.i with
  |false=>simp[q]
  |true=>rw[s x l hh a m this]at r;cases r
 ·rw [if_neg hd];refine qk (λx l c=>?_) (λx l c g=>?_) p
  ·rw [f];have:a.i≠x.i:=by
    intro e;obtain⟨i,hi⟩:=mK.1 m;obtain⟨j,h⟩:=mK.1 l;have t:=b i a hi;have u:=b j x h;have:i=j:=by omega
    subst this;rw[hi]at h;cases h;exact hd c
   simp[this]
  ·rw [f]at g;have:a.i≠x.i:=by
    intro e;obtain⟨i,hi⟩:=mK.1 m;obtain⟨j,h⟩:=mK.1 l;have t:=b i a hi;have u:=b j x h;have:i=j:=by omega
    subst this;rw[hi]at h;cases h;exact hd c
   simp[this]at g;exact hv x.i g
def MW{α:Type}(f:Nat->α)(i:Nat)(v:α):Nat->α:=λj=>if j=i then v else f j
theorem mR{α:Type}(f:Nat->α)(i:Nat)(v:α):MW f i v i=v:=if_pos rfl
theorem BD{α:Type}(f:Nat->α){i j:Nat}(v:α)(h:j≠i):MW f i v j=f j:=if_neg h
theorem JA(o:Oper):cls o=0\/cls o=1\/cls o=2:=by
 unfold cls;split
 all_goals first
  |exact .inl rfl
  |exact .inr (.inl rfl)
  |exact .inr (.inr rfl)
  | (split <;> first
    |exact .inl rfl
    |exact .inr (.inl rfl)
    |exact .inr (.inr rfl))
theorem Io{n:Nat} {o:Oper} {d:DF} (h:yz n o=some d) (t:Tm) (v:V) (i:Nat):jL (d.f t v) i=if o.dst=some i then v else jL t i:=by
 unfold yz at h
 cases ho:o.dst with
 |none=>simp only[ho]at h;cases h;rw[if_neg (λe=>by cases e)]
 | some k=>
   simp only[ho]at h
   cases hk:Nat.blt k n with
   |false=>simp[hk]at h
   | true=>
     simp only[hk]at h;cases h;show jL (t.set k v) i=_;rw[Ms];by_cases e:k=i
     ·rw[if_pos e,if_pos (by rw[e])]
     ·rw[if_neg e,if_neg (λh=>e (by cases h;rfl))]
theorem xH{n:Nat} {o:Oper} {d:DF} (h:yz n o=some d) (t:Tm) (v:V):(d.f t v).ds=t.ds:=by
 unfold yz at h
 cases ho:o.dst with
 |none=>simp only[ho]at h;cases h;rfl
 | some k=>
   simp only[ho]at h
   cases hk:Nat.blt k n with
   |false=>simp[hk]at h
   |true=>simp only[hk]at h;cases h;exact Tm.VU _ _ _
theorem A9{n:Nat} {all:List Oper} {ws:List It} {call:Call}:∀(l:List It) (k:Nat) {t:Tm} {h:Hp} {rs:List Rec} {r:Tm×Hp},(xE n all ws l k).f call t h rs=some r->r.1.ds=t.ds
 | [],_,t,h,rs,r,hv=>by
   simp only[xE,g0]at hv
   cases hv.2;rfl
 | a ::l,k,t,h,rs,r,hv=>by
   unfold xE at hv
   cases hd:yz n a.o with
   |none=>rw[hd]at hv;cases hv
   | some d=>
     rw[hd]at hv;simp only at hv;split at hv
     ·simp only[GW,ft]at hv
      obtain⟨b,_,c⟩:=hv
      cases b with
      |false=>rw[A9 l _ c,xH hd]
      | true=>
        simp only[ft]at c;obtain⟨x,_,e⟩:=c;rw[A9 l _ e,xH hd]
     ·simp only[EB,ft]at hv
      obtain⟨b,_,c⟩:=hv
      cases b with
      |false=>rw[A9 l _ c,xH hd]
      | true=>
        simp only[ft]at c;obtain⟨x,_,e⟩:=c;rw[A9 l _ e,xH hd]
     ·simp only[BE,ft,g0]at hv
      obtain⟨_,b,_,c⟩:=hv
      cases b with
      |false=>rw[A9 l _ c,xH hd]
      | true=>
        simp only[ft,g0]at c;obtain⟨x,_,_,e⟩:=c;rw[A9 l _ e,xH hd]
section
variable{n:Nat}{all:List Oper}{jY ws:List It}{call:Call}{t0:Tm}{h0:Hp}
theorem tL.cons{l:List It} {a:It} {m k k':Nat} {h h':Hp} {rs A:List Rec} {r:Tm×Hp} {d T1 T:Tc} (c:tL n all jY ws call t0 h0 l (m |||2 ^ a.i) k' h' A r T1 T)
  (B:∀i,m.testBit i=true->T1.on i=d.on i/\T1.val i=d.val i/\T1.tt i=d.tt i/\T1.ep i=d.ep i/\T1.pl i=d.pl i/\T1.ob i=d.ob i)
  (I:∀j,j<k->T1.H j=d.H j/\T1.G j=d.G j) (P:k<=k') (f:∃D,LZ n all jY ws call t0 h0 T D a)
  (g:∀r∈rs,∀j,k<=j->j<=ws.length->r.last<j\/zm (T.H j) r=true) (p:B9 h (T.H k))
  (e:∀j,k<=j->j<k'->(T.H j).next<=(T.G j).next/\B9 (T.G j) (T.H (j+1)))
  (q:cls a.o=1->T.on a.i=true->h.next<=T.pl a.i/\T.pl a.i<h'.next) (sU:h.next<=h'.next) (C:k<=ws.length):tL n all jY ws call t0 h0 (a::l) m k h rs r d T where
 same:=λi hi=>by
  obtain⟨a1,a2,a3,a4,J,K⟩:=c.same i (by rw[JS,hi];rfl);obtain⟨b1,b2,b3,L,M,N⟩:=B i hi;exact⟨a1.trans b1,a2.trans b2,a3.trans b3,a4.trans L,J.trans M,K.trans N⟩
 T2:=λj E=>by
  obtain⟨a1,a2⟩:=c.T2 j (by omega);obtain⟨b1,b2⟩:=I j E;exact⟨a1.trans b1,a2.trans b2⟩
 item:=λx b=>by
  cases b with
  |head=>exact f
  |tail _ b=>exact c.item x b
 CL:=g
 more:=p
 chain:=λj B O=>by
  by_cases E:j<k'
  ·exact e j B E
  ·exact c.chain j (by omega) O
 UJ:=λx b hc F=>by
  cases b with
  |head=>exact(q hc F).1
  |tail _ b=>exact Gt sU (c.UJ x b hc F)
 TC:=λx b y w s t u v z=>by
  cases b with
  | head=>
    cases w with
    |head=>exact absurd rfl z
    |tail _ w=>have:=(q s u).2;have:=c.UJ y w t v;omega
  | tail _ b=>
    cases w with
    |head=>have:=(q t v).2;have:=c.UJ x b s u;omega
    |tail _ w=>exact c.TC x b y w s t u v z
 last:=c.last
 pe:=c.pe
 done:=λx b=>by
  rcases c.done x b with h|h
  ·rw[JS]at h;simp only[KM,AW]at h;rcases h with h|h
   ·exact .inl h
   ·exact .inr (by simp[h])
  ·exact .inr (by rw[Sp];exact Ud _ h)
 kle:=C
theorem trace(D:∀(k:Nat) (x:It),jY[k]? =some x->x.i=k) (hp:qC jY=true):∀(l:List It) (m k:Nat) (t:Tm) (h:Hp) (rs:List Rec) (r:Tm×Hp) (s:Tc),
  (∀a∈l,a∈jY)->vI jY ws l m k=true->(xE n all ws l k).f call t h rs=some r->zS jY m.testBit->(∀d,jL t d=qc s.val m.testBit d jY (jL t0 d))->
  h0.next<=h.next->(∀j,j<k->(s.G j).next<=h.next)->k<=ws.length->∃T,tL n all jY ws call t0 h0 l m k h rs r s T
 | [],m,k,t,h,rs,r,s,Q2,c,hv,hcl,ht,hn0,hG,hkl=>by
   simp only[vI,uZ]at c;obtain⟨aa,hk⟩:=c;have am:k=ws.length:=vK hk;simp only[xE,g0]at hv;obtain⟨R,hv⟩:=hv;cases hv;refine⟨{s with H:=MW s.H k h},⟨λi _=>⟨rfl,rfl,rfl,rfl,rfl,rfl⟩,λj M=>⟨BD _ _ (by omega),rfl⟩,λa N=>(nomatch N),?_,?_,λj Y h2=>by omega,λa N=>(nomatch N),λa N=>(nomatch N),?_,?_,?_,hkl⟩⟩
   ·intro q hq j Y h2
    have:j=k:=by omega
    subst this;show q.last<j\/zm (MW s.H j h j) q=true;rw[mR];unfold Bi at R;have:=MT.1 R q hq;simp only[KM,Ns]at this;exact this
   ·show B9 h (MW s.H k h k)
    rw[mR];exact .refl h
   ·show h=MW s.H k h ws.length
    rw[<-am,mR]
   ·intro d
    rw[ht d];refine qk (λa N _=>?_) (λ_ _ _ _=>rfl) _;exact MT.1 aa a N
   ·intro a N
    exact .inl (MT.1 aa a N)
 | a ::l,m,k,t,h,rs,r,s,Q2,c,hv,hcl,ht,hn0,hG,hkl=>by
   have N:a∈jY:=Q2 a (by simp);have B:∀x∈l,x∈jY:=λx hx=>Q2 x (by simp[hx]);simp only[vI,uZ,wBo]at c;obtain⟨I,an,c⟩:=c;have u:∀x∈jY,a.b.testBit x.i=true->m.testBit x.i=true:=λx hx hb=>by
     have:=MT.1 an x hx;simpa[hb]using this
   have E:zS jY (m |||2 ^ a.i).testBit:=λx hx J y hy hb=>by
     rw[JS]at J⊢;simp only[KM,AW]at J;rcases J with J|J
     ·rw[hcl x hx J y hy hb];rfl
     ·have:x=a:=by
        obtain⟨i,hi⟩:=mK.1 N;obtain⟨j,M⟩:=mK.1 hx;have h3:=D i a hi;have h4:=D j x M;have:i=j:=by omega
        subst this;rw[hi]at M;cases M;rfl
      subst this;rw[u y hy hb];rfl
   simp only[xE]at hv
   cases hd:yz n a.o with
   |none=>simp only[hd]at hv;cases hv
   | some d =>
     simp only[hd]at hv
     let T1:Bool->V->Nat->O->(Nat->Hp)->(Nat->Hp)->Tc:=λb v p ob H G=>⟨MW s.on a.i b,MW s.val a.i v,MW s.tt a.i t,MW s.ep a.i k,MW s.pl a.i p,MW s.ob a.i ob,H,G⟩
     have Y:∀b v p ob H G,∀i,m.testBit i=true->(T1 b v p ob H G).on i=s.on i/\(T1 b v p ob H G).val i=s.val i/\(T1 b v p ob H G).tt i=s.tt i/\(T1 b v p ob H G).ep i=s.ep i/\
        (T1 b v p ob H G).pl i=s.pl i/\(T1 b v p ob H G).ob i=s.ob i:=λb v p ob H G i hi=>by
       have K:i≠a.i:=λe=>by rw[e,I]at hi;cases hi
       exact⟨BD _ _ K,BD _ _ K,BD _ _ K,BD _ _ K,BD _ _ K,BD _ _ K⟩
     have S:∀b v p ob H G,∀L,jL (d.f t v) L=qc (T1 b v p ob H G).val (m |||2 ^ a.i).testBit L jY (jL t0 L):=λb v p ob H G L=>by
       rw[Io hd,FY D hp N hcl I (λi=>JS m a.i i) (val:=s.val) (KJ:=(T1 b v p ob H G).val) (λi hi=>(Y b v p ob H G i hi).2.1) L (jL t0 L)];rw[ht L];show _=if _ then MW s.val a.i v a.i else _
       rw[mR]
     have self:∀{b v p ob H G l' k' h' ah T},tL n all jY ws call t0 h0 l' (m |||2 ^ a.i) k' h' ah r (T1 b v p ob H G) T->
        T.on a.i=b/\T.val a.i=v/\T.tt a.i=t/\T.ep a.i=k/\T.pl a.i=p/\T.ob a.i=ob/\(∀L,jL (T.tt a.i) L=qc T.val m.testBit L jY (jL t0 L)):=λ{b v p ob H G l' k' h' ah T} z=>by
       obtain⟨a1,a2,a3,a4,a5,a6⟩:=z.same a.i (by rw[JS];simp);refine⟨a1.trans (mR _ _ _),a2.trans (mR _ _ _),a3.trans (mR _ _ _),a4.trans (mR _ _ _),a5.trans (mR _ _ _),a6.trans (mR _ _ _),λL=>?_⟩;rw[a3.trans (mR _ _ _),ht L];refine(qk (λ_ _ _=>rfl) (λx hx _ ai=>?_) _).symm;rw[(z.same x.i (by rw[JS,ai];rfl)).2.1,(Y b v p ob H G x.i ai).2.1]
     rcases JA a.o with hc|hc|hc
     ·
       have U:Nat.beq (cls a.o) 2=false:=by rw[hc];rfl
       rw[U]at c;simp only[uZ]at c;obtain⟨C,c⟩:=c;rw[hc]at hv;simp only[GW,ft]at hv;obtain⟨b,P,hv⟩:=hv
       cases b with
       | false=>
         obtain⟨T,z⟩:=trace D hp l _ k _ h rs r (T1 false .undef 0 default s.H s.G) B c hv E (S _ _ _ _ _ _) hn0 hG hkl;obtain⟨F,X,Q,s4,Z,s6,s7⟩:=self z
         refine ⟨T,z.cons (Y _ _ _ _ _ _) (λj _=>⟨rfl,rfl⟩) (jj _) ⟨m.testBit,I,hcl,u,s7,⟨d,hd⟩,by rw[F,Q];exact P,λ_=>X,λ_=>by rw[s4];exact C,by rw[s4];exact hkl,
           λ_ A=>(by rw[F]at A;cases A),λg=>(by rw[hc]at g;cases g),λg=>(by rw[hc]at g;cases g)⟩ z.CL z.more (λj _ _=>by omega) (λg=>(by rw[hc]at g;cases g)) (jj _) hkl⟩
       | true=>
         simp only[ft]at hv;obtain⟨v,aj,hv⟩:=hv;obtain⟨T,z⟩:=trace D hp l _ k _ h _ r (T1 true v 0 default s.H s.G) B c hv E (S _ _ _ _ _ _) hn0 hG hkl;obtain⟨F,X,Q,s4,Z,s6,s7⟩:=self z
         refine ⟨T,z.cons (Y _ _ _ _ _ _) (λj _=>⟨rfl,rfl⟩) (jj _) ⟨m.testBit,I,hcl,u,s7,⟨d,hd⟩,by rw[F,Q];exact P,λA=>(by rw[F]at A;cases A),λ_=>by rw[s4];exact C,by rw[s4];exact hkl,
           λ_ _ j j1 j2 j3=>?_,λg=>(by rw[hc]at g;cases g),λg=>(by rw[hc]at g;cases g)⟩ (λq hq=>z.CL q (by simp[hq])) z.more (λj _ _=>by omega) (λg=>(by rw[hc]at g;cases g)) (jj _) hkl⟩
         rw[s4]at j1;rcases z.CL _ (US ..) j j1 j2 with ae|g
         ·simp only at ae;omega
         ·rw[Q,X]
          unfold zm at g;simp only at g;split at g
          ·rename_i v' ao
           rw[ao,V.eq_of_beq _ _ g]
          ·cases g
     ·
       have U:Nat.beq (cls a.o) 2=false:=by rw[hc];rfl
       rw[U]at c;simp only[uZ]at c;obtain⟨C,c⟩:=c;rw[hc]at hv;simp only[EB,ft]at hv;obtain⟨b,P,hv⟩:=hv
       cases b with
       | false=>
         obtain⟨T,z⟩:=trace D hp l _ k _ h rs r (T1 false .undef 0 default s.H s.G) B c hv E (S _ _ _ _ _ _) hn0 hG hkl;obtain⟨F,X,Q,s4,Z,s6,s7⟩:=self z
         refine ⟨T,z.cons (Y _ _ _ _ _ _) (λj _=>⟨rfl,rfl⟩) (jj _) ⟨m.testBit,I,hcl,u,s7,⟨d,hd⟩,by rw[F,Q];exact P,λ_=>X,λ_=>by rw[s4];exact C,by rw[s4];exact hkl,
           λg=>(by rw[hc]at g;cases g),λ_ A=>(by rw[F]at A;cases A),λg=>(by rw[hc]at g;cases g)⟩ z.CL z.more (λj _ _=>by omega) (λ_ A=>(by rw[F]at A;cases A)) (jj _) hkl⟩
       | true =>
         simp only[ft]at hv;obtain⟨⟨ob,mk⟩,aj,hv⟩:=hv;obtain⟨T,z⟩:=trace D hp l _ k _ _ _ r (T1 true (mk h.next) h.next ob s.H s.G) B c hv E (S _ _ _ _ _ _) (X6 hn0) (λj M=>X6 (hG j M)) hkl;obtain⟨F,X,Q,s4,Z,s6,s7⟩:=self z
         refine ⟨T,z.cons (Y _ _ _ _ _ _) (λj _=>⟨rfl,rfl⟩) (jj _) ⟨m.testBit,I,hcl,u,s7,⟨d,hd⟩,by rw[F,Q];exact P,λA=>(by rw[F]at A;cases A),λ_=>by rw[s4];exact C,by rw[s4];exact hkl,
           λg=>(by rw[hc]at g;cases g),λ_ _=>⟨⟨mk,by rw[Q,s6];exact aj,by rw[X,Z]⟩,λj j1 j2=>?_,λj M=>?_,by rw[Z];exact hn0⟩,λg=>(by rw[hc]at g;cases g)⟩
           (λq hq=>z.CL q (by simp[hq])) ((B9.new h ob).trans z.more) (λj _ _=>by omega) (λ_ _=>by rw[Z];exact⟨jj _,KX _⟩) (Nk _) hkl⟩
         ·rw[s4]at j1
          rw[Z,s6];refine⟨?_,λj3=>?_⟩
          ·have e1:(h.new ob).next<=(T.H k).next:=z.more.1
           have e2:=EU z.chain (j-k) j (by omega) j2;have:h.next<(h.new ob).next:=KX _;omega
          ·rcases z.CL _ (US ..) j j1 j2 with ae|g
           ·simp only at ae;omega
           ·unfold zm at g
            simp only at g;split at g
            ·rename_i au ak
             rw[ak,O.eq_of_beq g]
            ·cases g
         ·rw[s4]at M
          rw[Z,(z.T2 j M).2];exact hG j M
     ·
       have U:Nat.beq (cls a.o) 2=true:=by rw[hc];rfl
       rw[U]at c;simp only[uZ]at c;obtain⟨C,c⟩:=c;have ap:k<ws.length:=by
        unfold isW at C;split at C
        ·rename_i w P;exact(iR.1 P).1
        ·cases C
       rw[hc]at hv;simp only[BE,g0,ft]at hv;obtain⟨R,b,P,hv⟩:=hv;have al:∀q∈rs,q.last<k\/zm h q=true:=λq hq=>by
        unfold Bi at R;have:=MT.1 R q hq;simp only[KM,Ns]at this;exact this
       have ab : ∀(b:Bool) (v:V) (h':Hp),pM n all a.o t=some b->(xE n all ws l (Nat.succ k)).f call (d.f t v) h' rs=some r->h.next<=h'.next->(b=false->v = .undef/\h' = h)->
         (b=true->(Ib a.o).f call t h=some (v,h'))->∃T,tL n all jY ws call t0 h0 (a::l) m k h rs r s T:=by
         intro b v h' P hv hn ac aq
         obtain ⟨T,z⟩:=trace D hp l _ (k+1) _ h' rs r (T1 b v 0 default (MW s.H k h) (MW s.G k h')) B c hv E (S _ _ _ _ _ _) (Gt hn0 hn)
           (fun j M=>by
             by_cases e:j=k
             ·subst e;show(MW s.G j h' j).next<=_;rw[mR];exact jj _
             ·show(MW s.G k h' j).next<=_
              rw[BD _ _ e];exact Gt (hG j (by omega)) hn) ap
         obtain⟨F,X,Q,s4,Z,s6,s7⟩:=self z;obtain⟨g1,g2⟩:=z.T2 k (KX _);have W:T.H k=h:=g1.trans (mR _ _ _);have ag:T.G k=h':=g2.trans (mR _ _ _)
         refine ⟨T,z.cons (Y _ _ _ _ _ _) (λj M=>⟨BD _ _ (by omega),BD _ _ (by omega)⟩) (Nk _) ⟨m.testBit,I,hcl,u,s7,⟨d,hd⟩,by rw[F,Q];exact P,
           λA=>by rw[F]at A;rw[X];exact(ac A).1,λg=>absurd hc g,by rw[s4];exact hkl,λg=>(by rw[hc]at g;cases g),λg=>(by rw[hc]at g;cases g),
           λ_=>⟨by rw[s4];exact C,λA=>?_,λA=>?_⟩⟩ (λq hq j j1 j2=>?_) (by rw[W];exact .refl h) (λj j1 j2=>?_) (λg=>(by rw[hc]at g;cases g)) hn hkl⟩
         ·rw[F]at A
          rw[Q,s4,X,W,ag];exact aq A
         ·rw[F]at A
          rw[s4,W,ag];exact(ac A).2
         ·by_cases e:j=k
          ·subst e;rw[W];exact al q hq
          ·exact z.CL q hq j (by omega) j2
         ·have:j=k:=by omega
          subst this;rw[W,ag];exact⟨hn,z.more⟩
       cases b with
       |false=>exact ab false .undef h P hv (jj _) (λ_=>⟨rfl,rfl⟩) (λA=>by cases A)
       | true=>
         simp only[ft,g0]at hv;obtain⟨⟨v,h'⟩,ar,hn,hv⟩:=hv;exact ab true v h' P hv (Iu hn) (λA=>by cases A) (λ_=>ar)
end
