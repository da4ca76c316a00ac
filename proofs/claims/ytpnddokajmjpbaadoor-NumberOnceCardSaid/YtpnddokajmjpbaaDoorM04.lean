/- Parts. -/
import Derived.Test.YtpnddokajmjpbaaDoorM03
namespace Go.Proofs.YtpnddokajmjpbaaDoor.Hx
def uj (call:Call):Prop:=∀(f:Nat) (args:List V) (v:V) (h h':Hp) (Δ:Env) (w:World) (gq:Array Value),call f args h=some (v,h')->WR Δ h w->gh Δ args gq.toList->
 (∃x,(callFunc f gq).run P0 w = .ok (.value x) w/\xE Δ h w v h' Δ x w)\/
 ((callFunc f gq).run P0 w = .ok (.enter f gq) w/\Calls P0 f gq w λe w'=>∃a x,e = .returned x/\xE Δ h w v h' a x w')
section
variable{Δ:Env}{h:Hp}{w:World}{n:Nat}{t:Tm}{a:Act}
theorem Lr {call:Call} (hc:uj call) (j:WR Δ h w) (p:TR Δ n t a) {o:Oper} {v:V} {h':Hp} (hv:(FB o).f call t h=some (v,h')) {K:Act->World->Prop} {Q:Exit->Act->World->Prop}
  (d:∀k x w',xE Δ h w v h' k x w'->K (a.put o.dst x) w'):o.wp P0 a w K Q:=by
 unfold FB at hv;split at hv
 ·simp only[fj]at hv;obtain⟨u,m,i⟩:=hv;cases i;obtain⟨x,b,c⟩:=Xm j p m;unfold Oper.wp;rw[b,Oper.upon_value];exact d Δ x w ⟨c,j,.refl _ _,.refl _ _⟩
 ·simp only[fj]at hv;obtain⟨⟨ob,mk⟩,m,i⟩:=hv;cases i;obtain⟨C,D,b,c⟩:=OH p m;obtain⟨k,a1,a2,a3,y⟩:=j.alloc c;unfold Oper.wp;rw[b w,Oper.upon_value];exact d k _ _ ⟨a2,a1,a3,y⟩
 ·simp only[fj]at hv;obtain⟨r,m,i⟩:=hv;rcases T6 j p m with⟨u,z,k,x,w',rfl,b,c⟩|⟨g,l,gq,rfl,b,c⟩
  ·cases i;unfold Oper.wp;rcases b with b|⟨rfl,b⟩
   ·rw[b,Oper.upon_value];exact d _ _ _ c
   ·rw[b,Oper.upon_skip];exact d _ _ _ c
  ·unfold Oper.wp;rw[c];rcases hc g l v h h' Δ w gq i j b with⟨x,q,s⟩|⟨q,s⟩
   ·rw[q,Oper.upon_value];exact d _ _ _ s
   ·rw[q,Oper.upon_enter];refine Calls.mono s λe w' A=>?_;obtain⟨k,x,rfl,B⟩:=A;exact d _ _ _ B
theorem Uk (a:Act) (d:Nat) (x:Value) (i:Nat) (b:d<a.tmps.size):(a.put (some d) x).tmps.getD i undef=if d=i then x else a.tmps.getD i undef:=by
 simp only[Act.put,wBj,Array.getElem?_setIfInBounds];by_cases h:d=i
 ·subst h;simp[b]
 ·simp[h]
theorem put_defers (a:Act)(d:Option Tmp)(x:Value):(a.put d x).defers=a.defers:=by cases d <;> rfl
theorem Hq (c:TR Δ n t a) {o:Oper} {d:DF} (b:wX n o=some d) {v:V} {x:Value} (hv:fI Δ v x):TR Δ n (d.f t v) (a.put o.dst x):=by
 unfold wX at b
 cases ho:o.dst with
 |none=>simp only[ho]at b;cases b;exact c
 | some k=>
   simp only[ho]at b
   cases hk:Nat.blt k n with
   |false=>simp[hk]at b
   | true=>
     simp only[hk]at b;cases b;have e:k<a.tmps.size:=by rw[c.size,<-LS];exact hk
     refine⟨by simp[Act.put,c.size],λi=>?_,by rw[put_defers];show Gv Δ (t.set k v).ds _;rw[Tm.Ue];exact c.ds⟩;rw[Uk _ _ _ _ e];show fI Δ (jl (t.set k v) i) _;rw[Js];by_cases h:k=i
     ·rw[if_pos h,if_pos h];exact hv
     ·rw[if_neg h,if_neg h];exact c.rel i
theorem L4 {n:Nat} {ops:List Oper} {o:Oper} (a:jX n ops o=none) (y:Nat->Option Bool):Region.wanted o y=true:=by
 unfold jX at a;unfold Region.wanted
 cases hg:o.guard with
 |none=>rfl
 | some g=>
   obtain⟨j,b⟩:=g;simp only[hg]at a;split at a
   ·split at a
    ·split at a <;> cases a
    ·cases a
   ·cases a
theorem Mj (m:TR Δ n t a) {ops:Array Oper} {o:Oper} {g:GF} (c:jX n ops.toList o=some g) {b:Bool} (hb:g.f t=some b):Region.wanted o (yielded ops a.tmps)=b:=by
 unfold jX at c;unfold Region.wanted
 cases hg:o.guard with
 |none=>simp[hg]at c
 | some q =>
   obtain⟨j,k⟩:=q;simp only[hg]at c⊢;unfold yielded
   cases hj:ops.toList[j]? with
   | none=>
     simp only[hj]at c;cases c;have:ops[j]? =none:=by rw[<-QM];exact hj
     simp only[this,Option.bind_none];cases hb
     cases k <;> rfl
   | some p=>
     have l:ops[j]? =some p:=by rw[<-QM];exact hj
     simp only[hj]at c;simp only[l,Option.bind_some]
     cases hd:p.dst with
     | none=>
       simp only[hd]at c;cases c;cases hb;simp only[Option.bind_none]
       cases k <;> rfl
     | some d=>
       simp only[hd]at c;simp only[Option.bind_some]
       cases IH:Nat.blt d n with
       |false=>simp only[IH]at c;cases c;cases hb
       | true=>
         simp only[IH]at c;cases c;have h:d<a.tmps.size:=by rw[m.size,<-LS];exact IH
         have i:=m.rel d;have r:a.tmps[d]? =some (a.tmps.getD d undef):=by simp[h]
         rw[r];generalize a.tmps.getD d undef=x at i;simp only at hb;split at hb
         ·rename_i s e
          cases hb;rw[e]at i;cases i;cases k <;> cases s <;> rfl
         ·rename_i e
          cases hb;rw[e]at i
          cases i with
          |tuple _ cs u=>cases k <;> rfl
         ·cases hb
structure Ag (Δ:Env) (h:Hp) (w:World) (n:Nat) (t':Tm) (h':Hp) (a:Env) (b:Act) (w':World):Prop where
 tmps:TR a n t' b
 world:WR a h' w'
 frame:FR Δ a w w'
 grow:Gr h Δ h' a
theorem Ag.start (b:TR Δ n t a)(c:WR Δ h w):Ag Δ h w n t h Δ a w:=⟨b,c,.refl _ _,.refl _ _⟩
theorem Ag.trans {a b:Env} {c d:Hp} {e f:World} {i g:Tm} {a1 a2:Act} (x:Ag Δ h w n i c a a1 e) (y:Ag a c e n g d b a2 f):Ag Δ h w n g d b a2 f:=
 ⟨y.tmps,y.world,x.frame.trans y.frame,x.grow.trans y.grow⟩
theorem Ag.put (g:TR Δ n t a) {o:Oper} {d:DF} (b:wX n o=some d) {v:V} {h':Hp} {e:Env} {x:Value} {w':World} (c:xE Δ h w v h' e x w') :
  Ag Δ h w n (d.f t v) h' e (a.put o.dst x) w':=
 ⟨Hq (g.mono c.frame.le) b c.val,c.world,c.frame,c.grow⟩
theorem TE (r:WR Δ h w) (b:TR Δ n t a) {o:Oper} {q:QF} (hq:yx o=some q) {t':Tm} (hv:q.f t h=some t') :
  ∃d,(∀w,(execOp a.eval o).run P0 w = .ok (.defer d) w)/\TR Δ n t' {a with defers:=d::a.defers}:=by
 unfold yx at hq;split at hq
 ·rename_i c k;split at hq
  ·rename_i f s;cases hq;simp only[fj]at hv;obtain⟨A,u,args,v,j⟩:=hv;have e:=j6 r b u;obtain⟨xs,x⟩:∃xs,xs=c.args.map a.eval:=⟨_,rfl⟩
   have l:=zT b v;generalize hx:a.eval f=xv at e;unfold Vj at j;split at j
   ·rename_i g first m
    cases j
    cases e with
    | func _ _ _ p c' y hc=>
      refine⟨{target:= .fn (.func g) c',args:=p++c.args.map a.eval},λw=>?_,⟨b.size,λi=>?_,?_⟩⟩
      ·have z:(resolve a.eval c o.type).run P0 w = .ok {target:= .fn (.func g) c',args:=p++c.args.map a.eval} w:=by
         unfold resolve;rw[s];simp only[hx];rfl
       unfold execOp;rw[k];simp only[pB,z,oD];rfl
      ·rw[SZ];exact b.rel i
      ·rw[Tm.W6]
       refine .cons _ _ _ _ _ _ ?_ b.ds;simp only[Array.toList_append,Cy,Array.toList_map];exact y.append (l.append hc)
   ·cases j
  ·cases hq
 ·cases hq
theorem Xo {call:Call} (hc:uj call) {ops:Array Oper} {i:Nat} {o:Oper} (hi:ops[i]? =some o) {c:SF} {K:Act->World->Prop} {Q:Exit->Act->World->Prop}
  (m:WR Δ h w) (j:TR Δ n t a) {r:Tm×Hp} (hv:(Gz n ops.toList o c).f call t h=some r)
  (p:∀t' h' u y w',c.f call t' h' = some r->Ag Δ h w n t' h' u y w'->K y w'):wpOp P0 ops Q i K a w:=by
 unfold Gz at hv;unfold wpOp;simp only[hi]
 cases hdst:wX n o with
 |none=>simp only[hdst]at hv;cases hv
 | some d=>
   simp only[hdst]at hv;have k:∀x,oB ((FB o).f call t h) (λr=>c.f call (d.f t r.1) r.2)=some x->x=r->o.wp P0 a w K Q:=by
     intro x hx s;subst s;rw[fj]at hx;obtain⟨⟨v,h'⟩,l,e⟩:=hx;exact Lr hc m j l λu x w' z=>p _ _ _ _ _ e (Ag.put j hdst z)
   cases hg:jX n ops.toList o with
   | none=>
     simp only[hg]at hv;rw[if_pos (L4 hg _)]
     cases hq:yx o with
     |none=>simp only[hq]at hv;exact .inl (k _ hv rfl)
     | some q=>
       simp only[hq,fj]at hv;obtain⟨C,l,e⟩:=hv;obtain⟨D,A,B⟩:=TE m j hq l;refine .inl ?_;unfold Oper.wp;rw[A w,Oper.upon_defer]
       exact p _ _ _ _ _ e (Ag.put B hdst ⟨.undef Δ,m,.refl _ _,.refl _ _⟩)
   | some g=>
     simp only[hg,fj]at hv;obtain⟨b,l,e⟩:=hv;rw[Mj j hg l]
     cases b with
     |true=>exact .inl (k _ e rfl)
     |false=>exact p _ _ _ _ _ e (Ag.put j hdst ⟨.undef Δ,m,.refl _ _,.refl _ _⟩)
theorem LN {call:Call} (hc:uj call) {ops:Array Oper} {Q:Exit->Act->World->Prop}:∀(l:List Oper) (k:Nat),l=ops.toList.drop k->∀{Δ:Env} {h:Hp} {w:World} {t:Tm} {a:Act},
  WR Δ h w->TR Δ n t a->∀{r:Tm×Hp},(sj n ops.toList l).f call t h=some r->(∀e b w',Ag Δ h w n r.1 r.2 e b w'->Q .normal b w')->
  wpOps P0 ops Q (List.range' k l.length) a w
 | [],k,hl,Δ,h,w,t,a,hW,hT,r,hv,hQ=>by
   cases hv
   exact hQ _ _ _ (.start hT hW)
 | o ::l,k,hl,Δ,h,w,t,a,hW,hT,r,hv,hQ=>by
   have g:ops[k]? =some o:=by
     have:(ops.toList.drop k)[0]? =some o:=by rw[<-hl];rfl
     rw[Tj,VP]at this;simpa using this
   have c:l=ops.toList.drop (k+1):=by
     rw[<-V7,<-hl];rfl
   rw[CM,List.range'_succ,wpOps_cons];refine Xo hc g hW hT hv λt' h' e b w' i d=>?_;exact LN hc l (k+1) c d.world d.tmps i λj m p q=>hQ _ _ _ (d.trans q)
end
def Df (c:Code) (Q:Exit->Act->World->Prop) (a:Act) (w:World):Prop:=
 ∀(b:Frame) (k:List Item) (cs:List Frame),∃e d w',Q e d w'/\Arrives P0 (lone (b.at a (.code c:: .inLoop c::k)) cs w) b k cs e d w'
theorem Df.round {c:Code} {Q:Exit->Act->World->Prop} {a:Act} {w:World} (h:c.wp P0 (Exit.then (Df c Q) Q) a w):Df c Q a w:=by
 intro b k cs;obtain⟨e,g,i,hq,d⟩:=h b (.inLoop c::k) cs
 cases e with
 | normal=>
   obtain⟨m,n,o,j,f⟩:=hq b k cs
   exact⟨m,n,o,j,.of_steps (Steps.trans d (.one step_inLoop)) f⟩
 |exit id=>exact⟨_,g,i,hq,.pass (x:= .inLoop c) rfl (λ_ _=> .inl (by simp)) d⟩
 |goto l=>exact⟨_,g,i,hq,.pass (x:= .inLoop c) rfl (λ_ _=> .inl (by simp)) d⟩
 |ret=>exact⟨_,g,i,hq,.pass (x:= .inLoop c) rfl (λ_ _=> .inl (by simp)) d⟩
 |panic ch=>exact⟨_,g,i,hq,.pass (x:= .inLoop c) rfl (λ_ _=> .inl (by simp)) d⟩
 |outgrown=>exact⟨_,g,i,hq,.pass (x:= .inLoop c) rfl (λ_ _=> .inl (by simp)) d⟩
theorem Df.wp {c:Code} {Q:Exit->Act->World->Prop} {a:Act} {w:World} (h:Df c Q a w):(Code.loop c).wp P0 Q a w:=
 λb k cs=>let⟨e,a',w',q,r⟩:=h b k cs;⟨e,a',w',q,.of_steps (.one step_loop) r⟩
def Alike (t t':Tm)(x:Operand):Prop:=(K5 x).f t=(K5 x).f t'
theorem FH {t t':Tm} {l:List Operand} (h:∀d,d∈Ay l->jl t d=jl t' d):∀x∈l,Alike t t' x:=by
 induction l with
 |nil=>intro x hx;cases hx
 | cons y l a=>
   intro x hx
   cases hx with
   | head=>
     unfold Alike
     cases y with
     |tmp i=>show some (jl t i)=some (jl t' i);rw[h i (by simp[Ay])]
     |const v=>simp only[K5];split <;> rfl
     |global g=>rfl
     |func f=>rfl
   | tail _ hx=>
     refine a (λd b=>h d ?_) x hx;cases y <;> simp[Ay,b]
section
variable{t t':Tm}{h:Hp}
theorem fS {x:Operand} (hx:Alike t t' x):(rB x).f t h=(rB x).f t' h:=by
 unfold Alike at hx
 cases x with
 |global g=>unfold rB;simp only;split <;> rfl
 |tmp i=>exact hx
 |const v=>exact hx
 |func f=>exact hx
theorem sB:∀{l:List Operand},(∀x∈l,Alike t t' x)->GQ t l=GQ t' l
 |[],_=>rfl
 | x::l,hl=>by
   have a:(K5 x).f t=(K5 x).f t':=hl x (by simp);simp only[GQ,a,sB (l:=l) λy b=>hl y (Mh _ b)]
theorem Aw:∀{l:List (Nat×Operand)},(∀x∈l,Alike t t' x.2)->si t l=si t' l
 |[],_=>rfl
 | x::l,hl=>by
   have a:(K5 x.2).f t=(K5 x.2).f t':=hl x (by simp);simp only[si,a,Aw (l:=l) λy b=>hl y (Mh _ b)]
theorem Jv {x:Option Operand} (hx:∀y,x=some y->Alike t t' y):GX x t h=GX x t' h:=by
 cases x with
 |none=>rfl
 |some y=>simp only[GX,fS (hx y rfl)]
theorem NR {ty:Nat} {p:PF} (a:p.f t h=p.f t' h):(IA ty p).f t h=(IA ty p).f t' h:=by
 unfold IA;(repeat' split) <;> simp only[a]
theorem OK {a b:Nat} {p:PF} (c:p.f t h=p.f t' h):(Io a b p).f t h=(Io a b p).f t' h:=by
 unfold Io;split <;> first|rfl|simp only[c]|(split <;> first|rfl|simp only[c])
theorem Hf {a b:Nat} {p:PF} (c:p.f t h=p.f t' h):(mI a p b).f t h=(mI a p b).f t' h:=by
 unfold mI;(repeat' split) <;> simp only[c]
theorem MQ {a b:Nat} {p:PF} (c:p.f t h=p.f t' h):(FT a p b).f t h=(FT a p b).f t' h:=by
 unfold FT;split <;> simp only[c]
theorem Ho {a:Nat} {p q:PF} (b:p.f t h=p.f t' h) (hq:q.f t h=q.f t' h):(mF a p q).f t h=(mF a p q).f t' h:=by
 unfold mF;(repeat' split) <;> simp only[b,hq]
theorem Nf {a:Nat} {p q:PF} (b:p.f t h=p.f t' h) (hq:q.f t h=q.f t' h):(FA a p q).f t h=(FA a p q).f t' h:=by
 unfold FA;(repeat' split) <;> simp only[b,hq]
theorem Mv {a:Nat} {p:PF} {lo hi:Option Operand} (b:p.f t h=p.f t' h) (c:GX lo t h=GX lo t' h) (d:GX hi t h=GX hi t' h) :
  (He a p lo hi).f t h=(He a p lo hi).f t' h:=by
 unfold He;(repeat' split) <;> simp only[b,c,d]
theorem La {a:Nat} {p q:PF} {ok:Bool} (b:p.f t h=p.f t' h) (hq:q.f t h=q.f t' h):(Ek a p q ok).f t h=(Ek a p q ok).f t' h:=by
 unfold Ek;(repeat' split) <;> simp only[b,hq]
theorem PU {a:Nat} {p:PF} (b:p.f t h=p.f t' h):(hlen a p).f t h=(hlen a p).f t' h:=by
 unfold hlen;split <;> simp only[b]
theorem K9 {a:Nat} {p:PF} {ok:Bool} (b:p.f t h=p.f t' h):(Ej p a ok).f t h=(Ej p a ok).f t' h:=by
 unfold Ej;split <;> simp only[b]
theorem OF {c p q:PF} (hc:c.f t h=c.f t' h) (a:p.f t h=p.f t' h) (hq:q.f t h=q.f t' h):(IG c p q).f t h=(IG c p q).f t' h:=by
 unfold IG;simp only[hc,a,hq]
theorem Nc {a:Nat} {ps:List (Nat×Operand)} (b:si t ps=si t' ps):(FL a ps).f t h=(FL a ps).f t' h:=by
 unfold FL;(repeat' split) <;> simp only[b]
theorem Fy {o:Oper} (hx:∀x∈o.op.operands.toList,Alike t t' x):(ir o).f t h=(ir o).f t' h:=by
 obtain⟨dst,op,ty,pos,af,gd⟩:=o;cases op <;> simp only[ir] <;> simp only[Op.operands]at hx
 case move x=>exact fS (hx x (by simp))
 case assign x=>exact fS (hx x (by simp))
 case pick c a b=>exact OF (fS (hx c (by simp))) (fS (hx a (by simp))) (fS (hx b (by simp)))
 case load ty a=>exact NR (fS (hx a (by simp)))
 case nilCheck x=>simp only[tj,fS (h:=h) (hx x (by simp))]
 case binOp op xt x y b=>simp only[fS (h:=h) (hx x (by simp)),fS (h:=h) (hx y (by simp))]
 case unOp op b x=>simp only[fS (h:=h) (hx x (by simp))]
 case convert s d x=>exact OK (fS (hx x (by simp)))
 case build ty ps=>exact Nc (Aw λp v=>hx p.2 (by simp;exact⟨p.1,by simpa using v⟩))
 case makeFunc fn first caps=>
  cases fn with
  |func f=>simp only[sB (l:=first.toList) λx e=>hx x (by simp at e⊢;exact .inl e),sB (l:=caps.toList) λx e=>hx x (by simp at e⊢;exact .inr e)]
  |_=>rfl
 case slice ty x lo hi mx=>
  cases mx with
  |none=>exact Mv (fS (hx x (by simp))) (Jv λy j=>hx y (by simp[j])) (Jv λy j=>hx y (by simp[j]))
  |some _=>rfl
 case fieldAddr s x f=>exact Hf (fS (hx x (by simp)))
 case field s x f=>exact MQ (fS (hx x (by simp)))
 case indexAddr ty x i=>exact Ho (fS (hx x (by simp))) (fS (hx i (by simp)))
 case index ty x i=>exact Nf (fS (hx x (by simp))) (fS (hx i (by simp)))
 case lookup ty m k ok=>exact La (fS (hx m (by simp))) (fS (hx k (by simp)))
 case extract x i=>simp only[Dy,fS (h:=h) (hx x (by simp))]
 case makeInterface ty x=>
  split
  ·simp only[fS (h:=h) (hx x (by simp))]
  ·rfl
 case typeAssert x b asserted ok=>exact K9 (fS (hx x (by simp)))
 case call c=>
  obtain⟨n,args,w⟩:=c
  cases n with
  | builtin b=>
    have q:∀x∈args.toList,Alike t t' x:=λx r=>hx x (by simp[Call.operands]at r⊢;exact r);cases b <;> simp only
    case len=>
      split
      ·rename_i x ty u g _
       exact PU (fS (q x (by simp[g])))
      ·rfl
    case min=>simp only[sB q]
    case max=>simp only[sB q]
    all_goals rfl
  |_=>rfl
 all_goals rfl
theorem Hj{x:Operand}(hx:Alike t t' x):(K5 x).f t=(K5 x).f t':=hx
theorem Ii {o:Oper} (hx:∀x∈o.op.operands.toList,Alike t t' x):(pd o).f t=(pd o).f t':=by
 obtain⟨dst,op,ty,pos,af,gd⟩:=o;cases op <;> simp only[pd] <;> simp only[Op.operands]at hx
 case alloc e=>split <;> rfl
 case box e x=>simp only[Hj (hx x (by simp))]
 case buildSlice ty len parts=>
  (repeat' split) <;> first
   |rfl
   |simp only[CW,Aw (t:=t) (t':=t') (l:=parts.toList) λp a=>hx p.2 (by simp;exact⟨p.1,by simpa using a⟩)]
 case makeSlice ty n c=>
  (repeat' split) <;> first
   |rfl
   |simp only[Hj (hx n (by simp)),Hj (hx c (by simp))]
 case makeMap ty r=>
  cases r with
  |none=>simp only;split <;> rfl
  |some _=>rfl
 all_goals rfl
theorem Ob {o:Oper} (hx:∀x∈o.op.operands.toList,Alike t t' x):(jz o).f t h=(jz o).f t' h:=by
 obtain⟨dst,op,ty,pos,af,gd⟩:=o;cases op <;> simp only[jz] <;> simp only[Op.operands]at hx
 case store ty a x=>
  split
  ·simp only[fS (h:=h) (hx a (by simp)),fS (h:=h) (hx x (by simp))]
  ·rfl
 case mapUpdate ty m k x=>
  (repeat' split) <;> first
   |rfl
   |simp only[fS (h:=h) (hx m (by simp)),fS (h:=h) (hx k (by simp)),fS (h:=h) (hx x (by simp))]
 case insert ty m k x=>
  (repeat' split) <;> first
   |rfl
   |simp only[fS (h:=h) (hx m (by simp)),fS (h:=h) (hx k (by simp)),fS (h:=h) (hx x (by simp))]
 case range ty x=>
  split
  ·simp only[fS (h:=h) (hx x (by simp))]
  ·rfl
 case next x XE=>
  cases XE with
  |true=>rfl
  |false=>simp only[fS (h:=h) (hx x (by simp))]
 case entry x=>simp only[fS (h:=h) (hx x (by simp))]
 case convert s d x=>
  (repeat' split) <;> first
   |rfl
   |simp only[fS (h:=h) (hx x (by simp))]
 case call c=>
  obtain⟨j,args,n⟩:=c
  cases j with
  | builtin b=>
    have g:∀x∈args.toList,Alike t t' x:=λx i=>hx x (by simp[Call.operands]at i⊢;exact i);cases b <;> simp only
    case append=>
      split
      ·rename_i s x l xT e _
       (repeat' split) <;> first
         |rfl
         |simp only[fS (h:=h) (g s (by simp[e])),fS (h:=h) (g x (by simp[e]))]
      ·rfl
    case copy=>
      split
      ·rename_i s x l xT e _
       (repeat' split) <;> first
         |rfl
         |simp only[fS (h:=h) (g s (by simp[e])),fS (h:=h) (g x (by simp[e]))]
      ·rfl
    case delete=>
      split
      ·rename_i s x l xT e _
       (repeat' split) <;> first
         |rfl
         |simp only[fS (h:=h) (g s (by simp[e])),fS (h:=h) (g x (by simp[e]))]
      ·rfl
    all_goals rfl
  | value f=>
    have g:∀x∈args.toList,Alike t t' x:=λx i=>hx x (by simp[Call.operands]at i⊢;exact .inr i)
    simp only[fS (h:=h) (hx f (by simp[Call.operands])),sB g]
  | invoke r m=>
    have g:∀x∈args.toList,Alike t t' x:=λx i=>hx x (by simp[Call.operands]at i⊢;exact .inr i);simp only[fS (h:=h) (hx r (by simp[Call.operands])),sB g]
 all_goals rfl
theorem JC {call:Call} {o:Oper} (hx:∀x∈o.op.operands.toList,Alike t t' x):(FB o).f call t h=(FB o).f call t' h:=by
 unfold FB;split
 ·simp only[Fy (h:=h) hx]
 ·simp only[Ii hx]
 ·simp only[Ob (h:=h) hx]
end
theorem A7:∀(l:List Oper) (i:Nat) (b:List Nat) (k:Nat) (a:It),(items l i b)[k]? =some a->a.i=i+k/\l[k]? =some a.o
 |[],i,b,k,a,h=>by simp[items]at h
 |o::os,i,b,0,a,h=>by simp[items]at h;subst h;exact⟨rfl,rfl⟩
 | o::os,i,b,k+1,a,h=>by
   simp only[items,O8]at h;obtain⟨d,c⟩:=A7 os (i+1) _ k a h;exact⟨by omega,by simpa using c⟩
theorem Gk:∀(l:List Oper) (i:Nat) (a:List Nat),(items l i a).length=l.length
 |[],i,a=>rfl
 |o::os,i,a=>by simp[items,Gk os]
theorem An (b:List Nat) (x:Nat):∀(d:List Edge) (m:Nat),(KC b d m).testBit x=true->m.testBit x=true\/∃e∈d,HR e=true/\(x=e.on\/(b[e.on]?.getD 0).testBit x=true)
 |[],m,h=> .inl h
 | e ::d,m,h=>by
   simp only[KC]at h;split at h
   ·rename_i hb
    rcases An b x d _ h with a|⟨f,g,c,a⟩
    ·rw[Nat.testBit_or,Nat.testBit_or,Nat.testBit_two_pow]at a
     simp only[K6,DY]at a;rcases a with a|a|a
     ·exact .inl a
     ·exact .inr ⟨e,by simp,hb,.inl a.symm⟩
     ·exact .inr ⟨e,by simp,hb,.inr a⟩
    ·exact .inr ⟨f,by simp[g],c,a⟩
   ·rcases An b x d _ h with a|⟨f,g,c,a⟩
    ·exact .inl a
    ·exact .inr ⟨f,by simp[g],c,a⟩
theorem QZ:∀(l:List Oper) (i:Nat) (c:List Nat) (k:Nat) (a:It),(items l i c)[k]? =some a->
  a.b=KC (c++((items l i c).take k).map (·.b)) a.o.after.toList 0
 |[],i,c,k,a,h=>by simp[items]at h
 |o::os,i,c,0,a,h=>by simp[items]at h;subst h;simp
 | o::os,i,c,k+1,a,h=>by
   simp only[items,O8]at h;have:=QZ os (i+1) _ k a h;rw[this];simp[items,Cy]
theorem KA {l:List Oper} {k:Nat} {a:It} (h:(items l 0 [])[k]? =some a) {x:Nat} (hx:a.b.testBit x=true) :
  ∃e∈a.o.after.toList,HR e=true/\(x=e.on\/∃y,(items l 0 [])[e.on]? =some y/\y.b.testBit x=true):=by
 rw[QZ l 0 [] k a h]at hx;rcases An _ x _ _ hx with c|⟨e,d,hb,c⟩
 ·simp at c
 ·refine ⟨e,d,hb,?_⟩;rcases c with c|c
  ·exact .inl c
  ·right;rw[LG,wq,List.getElem?_take]at c;split at c
   ·cases hy:(items l 0 [])[e.on]? with
    |none=>rw[hy]at c;simp at c
    |some y=>rw[hy]at c;exact⟨y,rfl,by simpa using c⟩
   ·simp at c
theorem DU (e:Edge):Region.binds .any e=HR e:=by
 unfold Region.binds HR;cases e.ground <;> rfl
def pP (val:Nat->V)(D:Nat->Bool)(d:Nat)(jA:List It)(b:V):V:=jA.foldl (λv a=>if D a.i=true/\a.o.dst=some d then val a.i else v) b
theorem pT {val IW:Nat->V} {D D':Nat->Bool} {d:Nat} {jA:List It} (c:∀a∈jA,a.o.dst=some d->D a.i=D' a.i) (e:∀a∈jA,a.o.dst=some d->D a.i=true->val a.i=IW a.i) (b:V) :
  pP val D d jA b=pP IW D' d jA b:=by
 unfold pP
 induction jA generalizing b with
 |nil=>rfl
 | cons a jA f=>
   simp only[List.foldl_cons];have hs:(if D a.i=true/\a.o.dst=some d then val a.i else b)=(if D' a.i=true/\a.o.dst=some d then IW a.i else b):=by
     by_cases hd:a.o.dst=some d
     ·rw[<-c a (by simp) hd]
      by_cases hD:D a.i=true
      ·rw[if_pos ⟨hD,hd⟩,if_pos ⟨hD,hd⟩,e a (by simp) hd hD]
      ·rw[if_neg (λh=>hD h.1),if_neg (λh=>hD h.1)]
     ·rw[if_neg (λh=>hd h.2),if_neg (λh=>hd h.2)]
   rw[hs];exact f (λx hx=>c x (by simp[hx])) (λx hx=>e x (by simp[hx])) _
theorem FP {val:Nat->V} {D:Nat->Bool} {d:Nat} {jA:List It} (h:∀a∈jA,a.o.dst=some d->D a.i=false) (b:V):pP val D d jA b=b:=by
 unfold pP
 induction jA generalizing b with
 |nil=>rfl
 | cons a jA e=>
   simp only[List.foldl_cons];rw[if_neg (λc=>by rw[h a (by simp) c.2]at c;cases c.1)];exact e (λx hx=>h x (by simp[hx])) _
theorem RQ {val:Nat->V} {D:Nat->Bool} {d:Nat} {jA:List It} (e:∀(k:Nat) (x:It),jA[k]? =some x->x.i=k) {a:It} (l:a∈jA) (m:a.o.dst=some d) (n:D a.i=true)
  (h:∀x∈jA,a.i<x.i->x.o.dst=some d->D x.i=false) (p:V):pP val D d jA p=val a.i:=by
 obtain ⟨k,g⟩:=mA.1 l;have r:=e k a g;have f:k<jA.length:=(iB.1 g).1;have b:jA=jA.take k++a::jA.drop (k+1):=by
  have s:jA.drop k=a::jA.drop (k+1):=by
   rw[Yh f];rw[gQ f]at g;cases g;rfl
  rw[<-s,VM]
 have c:∀x∈jA.drop (k+1),x.o.dst=some d->D x.i=false:=by
  intro x hx j;obtain⟨q,hq⟩:=mA.1 hx;rw[Tj]at hq;have:=e _ x hq;exact h x (mA.2 ⟨_,hq⟩) (by omega) j
 unfold pP;rw[b,List.foldl_append,List.foldl_cons,if_pos ⟨n,m⟩];exact FP c _
def A9 (h h':Hp):Prop:=h.next<=h'.next/\∀l,l<h.next->h'.get l=h.get l
theorem A9.refl (h:Hp):A9 h h:=⟨iW _,λ_ _=>rfl⟩
theorem A9.trans{h h' c:Hp}(a:A9 h h')(b:A9 h' c):A9 h c:=⟨Ez a.1 b.1,λl d=>by rw[b.2 l (Ac d a.1),a.2 l d]⟩
theorem A9.new (h:Hp)(o:O):A9 h (h.new o):=⟨Nv _,λl a=>by rw[uE,if_neg (Nat.ne_of_gt a)]⟩
theorem WR.MT {Δ:Env} {h h':Hp} {w:World} (a:WR Δ h w) (b:A9 h h'):WR Δ h' w where
 fresh:=λl d f=>Ac (a.fresh l d f) b.1
 mS:=a.mS
 obj:=λl d f=>by rw[b.2 l (a.fresh l d f)];exact a.obj l d f
 apart:=λm i e k p t n o j q r=>by
  rw[b.2 m (a.fresh m e n)]at q;rw[b.2 i (a.fresh i k o)]at r;exact a.apart m i e k p t n o j q r
 Fo:=λg p c s=>by
  rw[b.2 g (Ac c a.xu)]at s;exact a.Fo g p c s
 xu:=Ez a.xu b.1
 Rg:=a.Rg
theorem O.eq_of_beq {a b:O} (h:O.beq a b=true):a=b:=by
 unfold O.beq at h;split at h
 ·simp only[tN,CN]at h;obtain⟨⟨⟨⟨rfl,rfl⟩,rfl⟩,rfl⟩,c⟩:=h;rw[V.vE _ _ c]
 ·simp only[CN]at h;rw[h]
 ·cases h
structure Tc where
 on:Nat->Bool
 val:Nat->V
 tt:Nat->Tm
 ep:Nat->Nat
 pl:Nat->Nat
 ob:Nat->O
 H:Nat->Hp
 G:Nat->Hp
def yy (jA:List It)(D:Nat->Bool):Prop:=∀a∈jA,D a.i=true->∀x∈jA,a.b.testBit x.i=true->D x.i=true
section
variable (n:Nat)(all:List Oper)(jA ws:List It)(call:Call)(t0:Tm)(h0:Hp)
structure Kz (T:Tc) (D:Nat->Bool) (a:It):Prop where
 fresh:D a.i=false
 closed:yy jA D
 fe:∀x∈jA,a.b.testBit x.i=true->D x.i=true
 oA:∀d,jl (T.tt a.i) d=pP T.val D d jA (jl t0 d)
 dst:∃d,wX n a.o=some d
 oO:oO n all a.o (T.tt a.i)=some (T.on a.i)
 off:T.on a.i=false->T.val a.i = .undef
 epw:cls a.o≠2->Ji ws a (T.ep a.i)=true
 epl:T.ep a.i<=ws.length
 pure:cls a.o=0->T.on a.i=true->∀j,T.ep a.i<=j->j<=ws.length->j<=late ws a->(ir a.o).f (T.tt a.i) (T.H j)=some (T.val a.i)
 alloc:cls a.o=1->T.on a.i=true->(∃mk,(pd a.o).f (T.tt a.i)=some (T.ob a.i,mk)/\T.val a.i=mk (T.pl a.i))/\
  (∀j,T.ep a.i<=j->j<=ws.length->T.pl a.i<(T.H j).next/\(j<=late ws a->(T.H j).get (T.pl a.i)=some (T.ob a.i)))/\
  (∀j,j<T.ep a.i->(T.G j).next<=T.pl a.i)/\h0.next<=T.pl a.i
 write:cls a.o=2->Yf ws a (T.ep a.i)=true/\(T.on a.i=true->(FB a.o).f call (T.tt a.i) (T.H (T.ep a.i))=some (T.val a.i,T.G (T.ep a.i)))/\
  (T.on a.i=false->T.G (T.ep a.i)=T.H (T.ep a.i))
structure sk (l:List It) (m k:Nat) (h:Hp) (rs:List Rec) (r:Tm×Hp) (b T:Tc):Prop where
 same:∀i,m.testBit i=true->T.on i=b.on i/\T.val i=b.val i/\T.tt i=b.tt i/\T.ep i=b.ep i/\T.pl i=b.pl i/\T.ob i=b.ob i
 RH:∀j,j<k->T.H j=b.H j/\T.G j=b.G j
 item:∀a∈l,∃D,Kz n all jA ws call t0 h0 T D a
 Bu:∀r∈rs,∀j,k<=j->j<=ws.length->r.last<j\/yc (T.H j) r=true
 more:A9 h (T.H k)
 chain:∀j,k<=j->j<ws.length->(T.H j).next<=(T.G j).next/\A9 (T.G j) (T.H (j+1))
 SG:∀a∈l,cls a.o=1->T.on a.i=true->h.next<=T.pl a.i
 RA:∀a∈l,∀c∈l,cls a.o=1->cls c.o=1->T.on a.i=true->T.on c.i=true->a.i≠c.i->T.pl a.i≠T.pl c.i
 last:r.2=T.H ws.length
 oA:∀d,jl r.1 d=pP T.val (λ_=>true) d jA (jl t0 d)
 done:∀a∈jA,m.testBit a.i=true\/a.i∈l.map (·.i)
 kle:k<=ws.length
end
theorem CT {ws:List It} {T:Tc} {k:Nat} (h:∀j,k<=j->j<ws.length->(T.H j).next<=(T.G j).next/\A9 (T.G j) (T.H (j+1))):∀(m j:Nat),j=k+m->j<=ws.length->(T.H k).next<=(T.H j).next:=by
 intro m
 induction m with
 |zero=>intro j b _;rw[b];exact iW _
 | succ m c=>
   intro j b d;obtain⟨a,rfl⟩:∃a,j=a+1:=⟨j-1,by omega⟩
   have e:=c a (by omega) (by omega);obtain⟨f,g⟩:=h a (by omega) (by omega);exact Ez e (Ez f g.1)
theorem Hb (m i x:Nat):(m |||2 ^ i).testBit x=(m.testBit x ||decide (i=x)):=by rw[Nat.testBit_or,Nat.testBit_two_pow]
theorem Ik {l:List It} (h:pW l=true):∀(i j:Nat) (a b:It),i<j->l[i]? =some a->l[j]? =some b->MG a b=true:=by
 induction l with
 |nil=>intro i j a b _ c;simp at c
 | cons x l e=>
   intro i j a b f c hb;simp only[pW,tN]at h;obtain⟨d,rfl⟩:∃d,j=d+1:=⟨j-1,by omega⟩
   simp only[O8]at hb
   cases i with
   | zero=>
     simp at c;subst c
     exact KQ.1 h.1 b (mA.2 ⟨_,hb⟩)
   |succ i=>exact e h.2 i d a b (by omega) (by simpa using c) hb
theorem LU {jA:List It} (c:∀(k:Nat) (x:It),jA[k]? =some x->x.i=k) (h:pW jA=true) {a x:It} (m:a∈jA) (hx:x∈jA) {d:Nat} (n:d∈oK a.o) (e:x.o.dst=some d) :
  (x.i<a.i->a.b.testBit x.i=true)/\(a.i<x.i->x.b.testBit a.i=true):=by
 obtain⟨i,hi⟩:=mA.1 m;obtain⟨j,f⟩:=mA.1 hx;have p:=c i a hi;have q:=c j x f;have l:writes x.o (oK a.o)=true:=by simp[writes,e,n]
 constructor
 ·intro g;have:=Ik h j i x a (by omega) f hi;unfold MG at this;simpa[l]using this
 ·intro g;have:=Ik h i j a x (by omega) hi f;unfold MG at this;simpa[l]using this
theorem Sr{o:Oper}{d:Nat}(h:o.dst=some d):d∈oK o:=by simp[oK,h]
theorem Fi {jA:List It} (e:∀(k:Nat) (x:It),jA[k]? =some x->x.i=k) (r:pW jA=true) {a:It} (f:a∈jA) {D D':Nat->Bool} (s:yy jA D) (g:yy jA D')
  (t:∀x∈jA,a.b.testBit x.i=true->D x.i=true) (j:∀x∈jA,a.b.testBit x.i=true->D' x.i=true) (l:D a.i=false) (c:D' a.i=false) {d:Nat} (u:d∈oK a.o) (val:Nat->V) (m:V) :
  pP val D d jA m=pP val D' d jA m:=by
 refine pT (λx hx n=>?_) (λ_ _ _ _=>rfl) m;obtain⟨p,q⟩:=LU e r f hx u n;rcases V2 x.i a.i with h|h|h
 ·rw[t x hx (p h),j x hx (p h)]
 ·rw[h,l,c]
 ·have v:D x.i=false:=by
   cases hh:D x.i with
   |false=>rfl
   |true=>rw[s x hx hh a f (q h)]at l;cases l
  have w:D' x.i=false:=by
   cases hh:D' x.i with
   |false=>rfl
   |true=>rw[g x hx hh a f (q h)]at c;cases c
  rw[v,w]
theorem DT {jA:List It} (b:∀(k:Nat) (x:It),jA[k]? =some x->x.i=k) (r:pW jA=true) {a:It} (l:a∈jA) {D D':Nat->Bool} (s:yy jA D) (q:D a.i=false)
  (f:∀i,D' i=(D i ||decide (a.i=i))) {val IW:Nat->V} (hv:∀i,D i=true->IW i=val i) (d:Nat) (n:V) :
  pP IW D' d jA n=if a.o.dst=some d then IW a.i else pP val D d jA n:=by
 by_cases hd:a.o.dst=some d
 ·rw[if_pos hd];refine RQ b l hd (by rw[f];simp) (λx hx m c=>?_) n;rw[f];have p:a.i≠x.i:=O6 m;have:=(LU b r l hx (Sr hd) c).2 m
  cases hh:D x.i with
  |false=>simp[p]
  |true=>rw[s x hx hh a l this]at q;cases q
 ·rw [if_neg hd];refine pT (λx hx c=>?_) (λx hx c g=>?_) n
  ·rw [f];have:a.i≠x.i:=by
    intro e;obtain⟨i,hi⟩:=mA.1 l;obtain⟨j,h⟩:=mA.1 hx;have t:=b i a hi;have u:=b j x h;have:i=j:=by omega
    subst this;rw[hi]at h;cases h;exact hd c
   simp[this]
  ·rw [f]at g;have:a.i≠x.i:=by
    intro e;obtain⟨i,hi⟩:=mA.1 l;obtain⟨j,h⟩:=mA.1 hx;have t:=b i a hi;have u:=b j x h;have:i=j:=by omega
    subst this;rw[hi]at h;cases h;exact hd c
   simp[this]at g;exact hv x.i g
def Ld{α:Type}(f:Nat->α)(i:Nat)(v:α):Nat->α:=λj=>if j=i then v else f j
theorem mz{α:Type}(f:Nat->α)(i:Nat)(v:α):Ld f i v i=v:=if_pos rfl
theorem Av{α:Type}(f:Nat->α){i j:Nat}(v:α)(h:j≠i):Ld f i v j=f j:=if_neg h
theorem Ib (o:Oper):cls o=0\/cls o=1\/cls o=2:=by
 unfold cls;split
 all_goals first
  |exact .inl rfl
  |exact .inr (.inl rfl)
  |exact .inr (.inr rfl)
  | (split <;> first
    |exact .inl rfl
    |exact .inr (.inl rfl)
    |exact .inr (.inr rfl))
theorem Gx {n:Nat} {o:Oper} {d:DF} (h:wX n o=some d) (t:Tm) (v:V) (i:Nat):jl (d.f t v) i=if o.dst=some i then v else jl t i:=by
 unfold wX at h
 cases ho:o.dst with
 |none=>simp only[ho]at h;cases h;rw[if_neg (λe=>by cases e)]
 | some k=>
   simp only[ho]at h
   cases hk:Nat.blt k n with
   |false=>simp[hk]at h
   | true=>
     simp only[hk]at h;cases h;show jl (t.set k v) i=_;rw[Js];by_cases e:k=i
     ·rw[if_pos e,if_pos (by rw[e])]
     ·rw[if_neg e,if_neg (λh=>e (by cases h;rfl))]
theorem vZ {n:Nat} {o:Oper} {d:DF} (h:wX n o=some d) (t:Tm) (v:V):(d.f t v).ds=t.ds:=by
 unfold wX at h
 cases ho:o.dst with
 |none=>simp only[ho]at h;cases h;rfl
 | some k=>
   simp only[ho]at h
   cases hk:Nat.blt k n with
   |false=>simp[hk]at h
   |true=>simp only[hk]at h;cases h;exact Tm.Ue _ _ _
theorem Ab {n:Nat} {all:List Oper} {ws:List It} {call:Call}:∀(l:List It) (k:Nat) {t:Tm} {h:Hp} {rs:List Rec} {r:Tm×Hp},(vJ n all ws l k).f call t h rs=some r->r.1.ds=t.ds
 | [],_,t,h,rs,r,hv=>by
   simp only[vJ,gM]at hv
   cases hv.2;rfl
 | a ::l,k,t,h,rs,r,hv=>by
   unfold vJ at hv
   cases hd:wX n a.o with
   |none=>rw[hd]at hv;cases hv
   | some d=>
     rw[hd]at hv;simp only at hv;split at hv
     ·simp only[EN,fj]at hv
      obtain⟨b,_,c⟩:=hv
      cases b with
      |false=>rw[Ab l _ c,vZ hd]
      | true=>
        simp only[fj]at c;obtain⟨x,_,e⟩:=c;rw[Ab l _ e,vZ hd]
     ·simp only[Dn,fj]at hv
      obtain⟨b,_,c⟩:=hv
      cases b with
      |false=>rw[Ab l _ c,vZ hd]
      | true=>
        simp only[fj]at c;obtain⟨x,_,e⟩:=c;rw[Ab l _ e,vZ hd]
     ·simp only[AD,fj,gM]at hv
      obtain⟨_,b,_,c⟩:=hv
      cases b with
      |false=>rw[Ab l _ c,vZ hd]
      | true=>
        simp only[fj,gM]at c;obtain⟨x,_,_,e⟩:=c;rw[Ab l _ e,vZ hd]
section
variable{n:Nat}{all:List Oper}{jA ws:List It}{call:Call}{t0:Tm}{h0:Hp}
theorem sk.cons {l:List It} {a:It} {m k k':Nat} {h h':Hp} {rs z:List Rec} {r:Tm×Hp} {c T1 T:Tc} (b:sk n all jA ws call t0 h0 l (m |||2 ^ a.i) k' h' z r T1 T)
  (A:∀i,m.testBit i=true->T1.on i=c.on i/\T1.val i=c.val i/\T1.tt i=c.tt i/\T1.ep i=c.ep i/\T1.pl i=c.pl i/\T1.ob i=c.ob i)
  (F:∀j,j<k->T1.H j=c.H j/\T1.G j=c.G j) (P:k<=k') (e:∃D,Kz n all jA ws call t0 h0 T D a)
  (f:∀r∈rs,∀j,k<=j->j<=ws.length->r.last<j\/yc (T.H j) r=true) (g:A9 h (T.H k))
  (d:∀j,k<=j->j<k'->(T.H j).next<=(T.G j).next/\A9 (T.G j) (T.H (j+1)))
  (p:cls a.o=1->T.on a.i=true->h.next<=T.pl a.i/\T.pl a.i<h'.next) (wm:h.next<=h'.next) (B:k<=ws.length):sk n all jA ws call t0 h0 (a::l) m k h rs r c T where
 same:=λi hi=>by
  obtain⟨a1,a2,a3,I,J,K⟩:=b.same i (by rw[Hb,hi];rfl);obtain⟨b1,b2,b3,L,M,N⟩:=A i hi;exact⟨a1.trans b1,a2.trans b2,a3.trans b3,I.trans L,J.trans M,K.trans N⟩
 RH:=λj C=>by
  obtain⟨a1,a2⟩:=b.RH j (by omega);obtain⟨b1,b2⟩:=F j C;exact⟨a1.trans b1,a2.trans b2⟩
 item:=λx hx=>by
  cases hx with
  |head=>exact e
  |tail _ hx=>exact b.item x hx
 Bu:=f
 more:=g
 chain:=λj A O=>by
  by_cases C:j<k'
  ·exact d j A C
  ·exact b.chain j (by omega) O
 SG:=λx hx hc E=>by
  cases hx with
  |head=>exact(p hc E).1
  |tail _ hx=>exact Ez wm (b.SG x hx hc E)
 RA:=λx hx y v q s t u w=>by
  cases hx with
  | head=>
    cases v with
    |head=>exact absurd rfl w
    |tail _ v=>have:=(p q t).2;have:=b.SG y v s u;omega
  | tail _ hx=>
    cases v with
    |head=>have:=(p s u).2;have:=b.SG x hx q t;omega
    |tail _ v=>exact b.RA x hx y v q s t u w
 last:=b.last
 oA:=b.oA
 done:=λx hx=>by
  rcases b.done x hx with h|h
  ·rw[Hb]at h;simp only[K6,DY]at h;rcases h with h|h
   ·exact .inl h
   ·exact .inr (by simp[h])
  ·exact .inr (by rw[PW];exact Mh _ h)
 kle:=B
theorem trace (E:∀(k:Nat) (x:It),jA[k]? =some x->x.i=k) (hp:pW jA=true):∀(l:List It) (m k:Nat) (t:Tm) (h:Hp) (rs:List Rec) (r:Tm×Hp) (s:Tc),
  (∀a∈l,a∈jA)->uN jA ws l m k=true->(vJ n all ws l k).f call t h rs=some r->yy jA m.testBit->(∀d,jl t d=pP s.val m.testBit d jA (jl t0 d))->
  h0.next<=h.next->(∀j,j<k->(s.G j).next<=h.next)->k<=ws.length->∃T,sk n all jA ws call t0 h0 l m k h rs r s T
 | [],m,k,t,h,rs,r,s,hsub,c,hv,hcl,ht,hn0,hG,hkl=>by
   simp only[uN,tN]at c;obtain⟨aa,hk⟩:=c;have am:k=ws.length:=tU hk;simp only[vJ,gM]at hv;obtain⟨S,hv⟩:=hv;cases hv;refine⟨{s with H:=Ld s.H k h},⟨λi _=>⟨rfl,rfl,rfl,rfl,rfl,rfl⟩,λj N=>⟨Av _ _ (by omega),rfl⟩,λa P=>(nomatch P),?_,?_,λj Z h2=>by omega,λa P=>(nomatch P),λa P=>(nomatch P),?_,?_,?_,hkl⟩⟩
   ·intro q hq j Z h2
    have:j=k:=by omega
    subst this;show q.last<j\/yc (Ld s.H j h j) q=true;rw[mz];unfold Ar at S;have:=KQ.1 S q hq;simp only[K6,LS]at this;exact this
   ·show A9 h (Ld s.H k h k)
    rw[mz];exact .refl h
   ·show h=Ld s.H k h ws.length
    rw[<-am,mz]
   ·intro d
    rw[ht d];refine pT (λa P _=>?_) (λ_ _ _ _=>rfl) _;exact KQ.1 aa a P
   ·intro a P
    exact .inl (KQ.1 aa a P)
 | a ::l,m,k,t,h,rs,r,s,hsub,c,hv,hcl,ht,hn0,hG,hkl=>by
   have P:a∈jA:=hsub a (by simp);have B:∀x∈l,x∈jA:=λx hx=>hsub x (by simp[hx]);simp only[uN,tN,X9]at c;obtain⟨J,an,c⟩:=c;have u:∀x∈jA,a.b.testBit x.i=true->m.testBit x.i=true:=λx hx hb=>by
     have:=KQ.1 an x hx;simpa[hb]using this
   have F:yy jA (m |||2 ^ a.i).testBit:=λx hx K y hy hb=>by
     rw[Hb]at K⊢;simp only[K6,DY]at K;rcases K with K|K
     ·rw[hcl x hx K y hy hb];rfl
     ·have:x=a:=by
        obtain⟨i,hi⟩:=mA.1 P;obtain⟨j,N⟩:=mA.1 hx;have h3:=E i a hi;have h4:=E j x N;have:i=j:=by omega
        subst this;rw[hi]at N;cases N;rfl
      subst this;rw[u y hy hb];rfl
   simp only[vJ]at hv
   cases hd:wX n a.o with
   |none=>simp only[hd]at hv;cases hv
   | some d =>
     simp only[hd]at hv
     let T1:Bool->V->Nat->O->(Nat->Hp)->(Nat->Hp)->Tc:=λb v p ob H G=>⟨Ld s.on a.i b,Ld s.val a.i v,Ld s.tt a.i t,Ld s.ep a.i k,Ld s.pl a.i p,Ld s.ob a.i ob,H,G⟩
     have Z:∀b v p ob H G,∀i,m.testBit i=true->(T1 b v p ob H G).on i=s.on i/\(T1 b v p ob H G).val i=s.val i/\(T1 b v p ob H G).tt i=s.tt i/\(T1 b v p ob H G).ep i=s.ep i/\
        (T1 b v p ob H G).pl i=s.pl i/\(T1 b v p ob H G).ob i=s.ob i:=λb v p ob H G i hi=>by
       have L:i≠a.i:=λe=>by rw[e,J]at hi;cases hi
       exact⟨Av _ _ L,Av _ _ L,Av _ _ L,Av _ _ L,Av _ _ L,Av _ _ L⟩
     have U:∀b v p ob H G,∀M,jl (d.f t v) M=pP (T1 b v p ob H G).val (m |||2 ^ a.i).testBit M jA (jl t0 M):=λb v p ob H G M=>by
       rw[Gx hd,DT E hp P hcl J (λi=>Hb m a.i i) (val:=s.val) (IW:=(T1 b v p ob H G).val) (λi hi=>(Z b v p ob H G i hi).2.1) M (jl t0 M)];rw[ht M];show _=if _ then Ld s.val a.i v a.i else _
       rw[mz]
     have self:∀{b v p ob H G l' k' h' ah T},sk n all jA ws call t0 h0 l' (m |||2 ^ a.i) k' h' ah r (T1 b v p ob H G) T->
        T.on a.i=b/\T.val a.i=v/\T.tt a.i=t/\T.ep a.i=k/\T.pl a.i=p/\T.ob a.i=ob/\(∀M,jl (T.tt a.i) M=pP T.val m.testBit M jA (jl t0 M)):=λ{b v p ob H G l' k' h' ah T} z=>by
       obtain⟨a1,a2,a3,a4,a5,a6⟩:=z.same a.i (by rw[Hb];simp);refine⟨a1.trans (mz _ _ _),a2.trans (mz _ _ _),a3.trans (mz _ _ _),a4.trans (mz _ _ _),a5.trans (mz _ _ _),a6.trans (mz _ _ _),λM=>?_⟩;rw[a3.trans (mz _ _ _),ht M];refine(pT (λ_ _ _=>rfl) (λx hx _ ai=>?_) _).symm;rw[(z.same x.i (by rw[Hb,ai];rfl)).2.1,(Z b v p ob H G x.i ai).2.1]
     rcases Ib a.o with hc|hc|hc
     ·
       have W:Nat.beq (cls a.o) 2=false:=by rw[hc];rfl
       rw[W]at c;simp only[tN]at c;obtain⟨C,c⟩:=c;rw[hc]at hv;simp only[EN,fj]at hv;obtain⟨b,Q,hv⟩:=hv
       cases b with
       | false=>
         obtain⟨T,z⟩:=trace E hp l _ k _ h rs r (T1 false .undef 0 default s.H s.G) B c hv F (U _ _ _ _ _ _) hn0 hG hkl;obtain⟨I,Y,R,D,s5,s6,s7⟩:=self z
         refine ⟨T,z.cons (Z _ _ _ _ _ _) (λj _=>⟨rfl,rfl⟩) (iW _) ⟨m.testBit,J,hcl,u,s7,⟨d,hd⟩,by rw[I,R];exact Q,λ_=>Y,λ_=>by rw[D];exact C,by rw[D];exact hkl,
           λ_ A=>(by rw[I]at A;cases A),λg=>(by rw[hc]at g;cases g),λg=>(by rw[hc]at g;cases g)⟩ z.Bu z.more (λj _ _=>by omega) (λg=>(by rw[hc]at g;cases g)) (iW _) hkl⟩
       | true=>
         simp only[fj]at hv;obtain⟨v,aj,hv⟩:=hv;obtain⟨T,z⟩:=trace E hp l _ k _ h _ r (T1 true v 0 default s.H s.G) B c hv F (U _ _ _ _ _ _) hn0 hG hkl;obtain⟨I,Y,R,D,s5,s6,s7⟩:=self z
         refine ⟨T,z.cons (Z _ _ _ _ _ _) (λj _=>⟨rfl,rfl⟩) (iW _) ⟨m.testBit,J,hcl,u,s7,⟨d,hd⟩,by rw[I,R];exact Q,λA=>(by rw[I]at A;cases A),λ_=>by rw[D];exact C,by rw[D];exact hkl,
           λ_ _ j j1 j2 j3=>?_,λg=>(by rw[hc]at g;cases g),λg=>(by rw[hc]at g;cases g)⟩ (λq hq=>z.Bu q (by simp[hq])) z.more (λj _ _=>by omega) (λg=>(by rw[hc]at g;cases g)) (iW _) hkl⟩
         rw[D]at j1;rcases z.Bu _ (Sk ..) j j1 j2 with ae|g
         ·simp only at ae;omega
         ·rw[R,Y]
          unfold yc at g;simp only at g;split at g
          ·rename_i v' ao
           rw[ao,V.eq_of_beq _ _ g]
          ·cases g
     ·
       have W:Nat.beq (cls a.o) 2=false:=by rw[hc];rfl
       rw[W]at c;simp only[tN]at c;obtain⟨C,c⟩:=c;rw[hc]at hv;simp only[Dn,fj]at hv;obtain⟨b,Q,hv⟩:=hv
       cases b with
       | false=>
         obtain⟨T,z⟩:=trace E hp l _ k _ h rs r (T1 false .undef 0 default s.H s.G) B c hv F (U _ _ _ _ _ _) hn0 hG hkl;obtain⟨I,Y,R,D,s5,s6,s7⟩:=self z
         refine ⟨T,z.cons (Z _ _ _ _ _ _) (λj _=>⟨rfl,rfl⟩) (iW _) ⟨m.testBit,J,hcl,u,s7,⟨d,hd⟩,by rw[I,R];exact Q,λ_=>Y,λ_=>by rw[D];exact C,by rw[D];exact hkl,
           λg=>(by rw[hc]at g;cases g),λ_ A=>(by rw[I]at A;cases A),λg=>(by rw[hc]at g;cases g)⟩ z.Bu z.more (λj _ _=>by omega) (λ_ A=>(by rw[I]at A;cases A)) (iW _) hkl⟩
       | true =>
         simp only[fj]at hv;obtain⟨⟨ob,mk⟩,aj,hv⟩:=hv;obtain⟨T,z⟩:=trace E hp l _ k _ _ _ r (T1 true (mk h.next) h.next ob s.H s.G) B c hv F (U _ _ _ _ _ _) (VL hn0) (λj N=>VL (hG j N)) hkl;obtain⟨I,Y,R,D,s5,s6,s7⟩:=self z
         refine ⟨T,z.cons (Z _ _ _ _ _ _) (λj _=>⟨rfl,rfl⟩) (iW _) ⟨m.testBit,J,hcl,u,s7,⟨d,hd⟩,by rw[I,R];exact Q,λA=>(by rw[I]at A;cases A),λ_=>by rw[D];exact C,by rw[D];exact hkl,
           λg=>(by rw[hc]at g;cases g),λ_ _=>⟨⟨mk,by rw[R,s6];exact aj,by rw[Y,s5]⟩,λj j1 j2=>?_,λj N=>?_,by rw[s5];exact hn0⟩,λg=>(by rw[hc]at g;cases g)⟩
           (λq hq=>z.Bu q (by simp[hq])) ((A9.new h ob).trans z.more) (λj _ _=>by omega) (λ_ _=>by rw[s5];exact⟨iW _,IS _⟩) (Nv _) hkl⟩
         ·rw[D]at j1
          rw[s5,s6];refine⟨?_,λj3=>?_⟩
          ·have e1:(h.new ob).next<=(T.H k).next:=z.more.1
           have e2:=CT z.chain (j-k) j (by omega) j2;have:h.next<(h.new ob).next:=IS _;omega
          ·rcases z.Bu _ (Sk ..) j j1 j2 with ae|g
           ·simp only at ae;omega
           ·unfold yc at g
            simp only at g;split at g
            ·rename_i au ak
             rw[ak,O.eq_of_beq g]
            ·cases g
         ·rw[D]at N
          rw[s5,(z.RH j N).2];exact hG j N
     ·
       have W:Nat.beq (cls a.o) 2=true:=by rw[hc];rfl
       rw[W]at c;simp only[tN]at c;obtain⟨C,c⟩:=c;have ap:k<ws.length:=by
        unfold Yf at C;split at C
        ·rename_i w Q;exact(iB.1 Q).1
        ·cases C
       rw[hc]at hv;simp only[AD,gM,fj]at hv;obtain⟨S,b,Q,hv⟩:=hv;have al:∀q∈rs,q.last<k\/yc h q=true:=λq hq=>by
        unfold Ar at S;have:=KQ.1 S q hq;simp only[K6,LS]at this;exact this
       have ab : ∀(b:Bool) (v:V) (h':Hp),oO n all a.o t=some b->(vJ n all ws l (Nat.succ k)).f call (d.f t v) h' rs=some r->h.next<=h'.next->(b=false->v = .undef/\h' = h)->
         (b=true->(FB a.o).f call t h=some (v,h'))->∃T,sk n all jA ws call t0 h0 (a::l) m k h rs r s T:=by
         intro b v h' Q hv hn ac aq
         obtain ⟨T,z⟩:=trace E hp l _ (k+1) _ h' rs r (T1 b v 0 default (Ld s.H k h) (Ld s.G k h')) B c hv F (U _ _ _ _ _ _) (Ez hn0 hn)
           (fun j N=>by
             by_cases e:j=k
             ·subst e;show(Ld s.G j h' j).next<=_;rw[mz];exact iW _
             ·show(Ld s.G k h' j).next<=_
              rw[Av _ _ e];exact Ez (hG j (by omega)) hn) ap
         obtain⟨I,Y,R,D,s5,s6,s7⟩:=self z;obtain⟨g1,g2⟩:=z.RH k (IS _);have X:T.H k=h:=g1.trans (mz _ _ _);have ag:T.G k=h':=g2.trans (mz _ _ _)
         refine ⟨T,z.cons (Z _ _ _ _ _ _) (λj N=>⟨Av _ _ (by omega),Av _ _ (by omega)⟩) (Nv _) ⟨m.testBit,J,hcl,u,s7,⟨d,hd⟩,by rw[I,R];exact Q,
           λA=>by rw[I]at A;rw[Y];exact(ac A).1,λg=>absurd hc g,by rw[D];exact hkl,λg=>(by rw[hc]at g;cases g),λg=>(by rw[hc]at g;cases g),
           λ_=>⟨by rw[D];exact C,λA=>?_,λA=>?_⟩⟩ (λq hq j j1 j2=>?_) (by rw[X];exact .refl h) (λj j1 j2=>?_) (λg=>(by rw[hc]at g;cases g)) hn hkl⟩
         ·rw[I]at A
          rw[R,D,Y,X,ag];exact aq A
         ·rw[I]at A
          rw[D,X,ag];exact(ac A).2
         ·by_cases e:j=k
          ·subst e;rw[X];exact al q hq
          ·exact z.Bu q hq j (by omega) j2
         ·have:j=k:=by omega
          subst this;rw[X,ag];exact⟨hn,z.more⟩
       cases b with
       |false=>exact ab false .undef h Q hv (iW _) (λ_=>⟨rfl,rfl⟩) (λA=>by cases A)
       | true=>
         simp only[fj,gM]at hv;obtain⟨⟨v,h'⟩,ar,hn,hv⟩:=hv;exact ab true v h' Q hv (G9 hn) (λA=>by cases A) (λ_=>ar)
end
