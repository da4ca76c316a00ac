/- Parts. -/
import Derived.Test.YtloecllhljfidaaDoorM03
set_option maxHeartbeats 4000000
namespace Go.Proofs.YtloecllhljfidaaDoor.Hx
def uq(call:Call):Prop:=∀(f:Nat) (args:List V) (v:V) (h h':Hp) (Δ:Env) (w:World) (gB:Array Value),call f args h=some (v,h')->WR Δ h w->gj Δ args gB.toList-> (∃x,(callFunc f gB).run P0 w = .ok (.value x) w/\xD Δ h w v h' Δ x w)\/ ((callFunc f gB).run P0 w = .ok (.enter f gB) w/\Calls P0 f gB w λe w'=>∃a x,e = .returned x/\xD Δ h w v h' a x w')
section
variable{Δ:Env}{h:Hp}{w:World}{n:Nat}{t:Tm}{a:Act}
theorem Nj{call:Call} (hc:uq call) (i:WR Δ h w) (m:TR Δ n t a) {o:Oper} {v:V} {h':Hp} (hv:(Gq o).f call t h=some (v,h')) {K:Act->World->Prop} {Q:Exit->Act->World->Prop}
  (p:∀k x w',xD Δ h w v h' k x w'->K (a.put o.dst x) w'):o.wp P0 a w K Q:=by
 unfold Gq at hv;split at hv
 ·simp only[fj]at hv;obtain⟨u,j,c⟩:=hv;cases c;obtain⟨x,b,d⟩:=ZJ i m j;unfold Oper.wp;rw[b,Oper.upon_value];exact p Δ x w ⟨d,i,.refl _ _,.refl _ _⟩
 ·simp only[fj]at hv;obtain⟨⟨ob,mk⟩,j,c⟩:=hv;cases c;obtain⟨z,mv,b,d⟩:=PB m j;obtain⟨k,a1,a2,a3,a4⟩:=i.alloc d;unfold Oper.wp;rw[b w,Oper.upon_value];exact p k _ _ ⟨a2,a1,a3,a4⟩
 ·simp only[fj]at hv;obtain⟨r,j,c⟩:=hv;rcases Xv i m j with⟨u,y,k,x,w',rfl,b,d⟩|⟨g,l,gB,rfl,b,d⟩
  ·cases c;unfold Oper.wp;rcases b with b|⟨rfl,b⟩
   ·grind[Oper.upon_value]
   grind[Oper.upon_skip]
  ·unfold Oper.wp;rw[d];rcases hc g l v h h' Δ w gB c i b with⟨x,q,s⟩|⟨q,s⟩
   ·grind[Oper.upon_value]
   ·rw[q,Oper.upon_enter];refine Calls.mono s λe w' A=>?_
    grind
theorem W4(a:Act) (d:Nat) (x:Value) (i:Nat) (b:d<a.tmps.size):(a.put (some d) x).tmps.getD i undef=if d=i then x else a.tmps.getD i undef:=by
 simp only[Act.put,wBS,Array.getElem?_setIfInBounds]
 grind
theorem put_defers(a:Act)(d:Option Tmp)(x:Value):(a.put d x).defers=a.defers:=by cases d <;> rfl
theorem HZ(c:TR Δ n t a) {o:Oper} {d:DF} (b:wT n o=some d) {v:V} {x:Value} (hv:fG Δ v x):TR Δ n (d.f t v) (a.put o.dst x):=by
 unfold wT at b
 cases ho:o.dst with
 |none=>simp only[ho]at b;cases b;exact c
 | some k=>
   simp only[ho]at b
   cases hk:Nat.blt k n with
   |false=>simp_all
   | true=>
     simp only[hk]at b;cases b;have e:k<a.tmps.size:=by rw[c.size,<-O6];exact hk
     refine⟨by simp[Act.put,c.size],λi=>?_,by rw[put_defers];show Hs Δ (t.set k v).ds _;rw[Tm.XP];exact c.ds⟩;rw[W4 _ _ _ _ e];show fG Δ (jw (t.set k v) i) _;rw[LI];by_cases h:k=i
     ·simp_all
     ·rw[if_neg h,if_neg h];exact c.rel i
theorem Nn{n:Nat} {ops:List Oper} {o:Oper} (a:ki n ops o=none) (y:Nat->Option Bool):Region.wanted o y=true:=by
 grind[ki,Region.wanted]
theorem Nd(l:TR Δ n t a) {ops:Array Oper} {o:Oper} {g:GF} (e:ki n ops.toList o=some g) {b:Bool} (hb:g.f t=some b):Region.wanted o (yielded ops a.tmps)=b:=by
 unfold ki at e;unfold Region.wanted
 cases hg:o.guard with
 |none=>simp_all
 | some p =>
   obtain⟨j,q⟩:=p;simp only[hg]at e⊢;unfold yielded
   cases hj:ops.toList[j]? with
   | none=>
     grind
   | some m=>
     have k:ops[j]? =some m:=by rw[<-Yk];exact hj
     simp only[hj]at e;simp only[k,Option.bind_some]
     cases hd:m.dst with
     | none=>
       grind
     | some d=>
       simp only[hd]at e;simp only[Option.bind_some]
       cases Mw:Nat.blt d n with
       |false=>grind
       | true=>
         simp only[Mw]at e;cases e;have h:d<a.tmps.size:=by rw[l.size,<-O6];exact Mw
         have i:=l.rel d;have r:a.tmps[d]? =some (a.tmps.getD d undef):=by simp[h]
         rw[r];generalize a.tmps.getD d undef=x at i;simp only at hb;split at hb
         ·rename_i s c
          cases hb;rw[c]at i;cases i;cases q <;> cases s <;> rfl
         ·rename_i c
          cases hb;rw[c]at i;cases i <;> grind
         ·cases hb
structure zR (Δ:Env) (h:Hp) (w:World) (n:Nat) (t':Tm) (h':Hp) (a:Env) (a':Act) (w':World):Prop where
 tmps:TR a n t' a'
 world:WR a h' w'
 frame:FR Δ a w w'
 grow:Gr h Δ h' a
theorem zR.start(b:TR Δ n t a)(c:WR Δ h w):zR Δ h w n t h Δ a w:=⟨b,c,.refl _ _,.refl _ _⟩
theorem zR.trans{a b:Env} {c d:Hp} {e f:World} {i g:Tm} {a1 a2:Act} (x:zR Δ h w n i c a a1 e) (y:zR a c e n g d b a2 f):zR Δ h w n g d b a2 f:=
 ⟨y.tmps,y.world,x.frame.trans y.frame,x.grow.trans y.grow⟩
theorem zR.put(g:TR Δ n t a) {o:Oper} {d:DF} (b:wT n o=some d) {v:V} {h':Hp} {e:Env} {x:Value} {w':World} (c:xD Δ h w v h' e x w') :
  zR Δ h w n (d.f t v) h' e (a.put o.dst x) w':=
 ⟨HZ (g.mono c.frame.le) b c.val,c.world,c.frame,c.grow⟩
theorem WD(m:WR Δ h w) (b:TR Δ n t a) {o:Oper} {q:QF} (hq:yq o=some q) {t':Tm} (hv:q.f t h=some t') :
  ∃d,(∀w,(execOp a.eval o).run P0 w = .ok (.defer d) w)/\TR Δ n t' {a with defers:=d::a.defers}:=by
 unfold yq at hq;split at hq
 ·rename_i c p;split at hq
  ·rename_i f r;cases hq;simp only[fj]at hv;obtain⟨y,s,args,u,j⟩:=hv;have e:=kE m b s;obtain⟨xs,v⟩:∃xs,xs=c.args.map a.eval:=⟨_,rfl⟩
   have k:=zN b u;generalize hx:a.eval f=xv at e;unfold X4 at j;split at j
   ·rename_i g first l
    cases j
    cases e with
    | func _ _ _ a' c' x hc=>
      refine⟨{target:= .fn (.func g) c',args:=a'++c.args.map a.eval},λw=>?_,⟨b.size,λi=>?_,?_⟩⟩
      ·have z:(resolve a.eval c o.type).run P0 w = .ok {target:= .fn (.func g) c',args:=a'++c.args.map a.eval} w:=by
         unfold resolve;rw[r];simp only[hx];rfl
       simp_all[execOp,uG,tn]
      ·rw[UF];exact b.rel i
      ·rw[Tm.Zw]
       refine .cons _ _ _ _ _ _ ?_ b.ds;simp only[Array.toList_append,Mb,Array.toList_map];exact x.append (k.append hc)
   ·cases j
  ·cases hq
 ·cases hq
theorem YR{call:Call} (hc:uq call) {ops:Array Oper} {i:Nat} {o:Oper} (hi:ops[i]? =some o) {c:SF} {K:Act->World->Prop} {Q:Exit->Act->World->Prop}
  (l:WR Δ h w) (e:TR Δ n t a) {r:Tm×Hp} (hv:(Hk n ops.toList o c).f call t h=some r)
  (m:∀t' h' s a' w',c.f call t' h' = some r->zR Δ h w n t' h' s a' w'->K a' w'):wpOp P0 ops Q i K a w:=by
 unfold Hk at hv;unfold wpOp;simp only[hi]
 cases hdst:wT n o with
 |none=>simp only[hdst]at hv;cases hv
 | some d=>
   simp only[hdst]at hv;have u:∀x,oB ((Gq o).f call t h) (λr=>c.f call (d.f t r.1) r.2)=some x->x=r->o.wp P0 a w K Q:=by
     intro x hx p;subst p;rw[fj]at hx;obtain⟨⟨v,h'⟩,j,k⟩:=hx;exact Nj hc l e j λs x w' y=>m _ _ _ _ _ k (zR.put e hdst y)
   cases hg:ki n ops.toList o with
   | none=>
     simp only[hg]at hv;rw[if_pos (Nn hg _)]
     cases hq:yq o with
     |none=>grind
     | some q=>
       simp only[hq,fj]at hv;obtain⟨B,j,k⟩:=hv;obtain⟨C,z,A⟩:=WD l e hq j;refine .inl ?_;unfold Oper.wp;rw[z w,Oper.upon_defer]
       exact m _ _ _ _ _ k (zR.put A hdst ⟨.undef Δ,l,.refl _ _,.refl _ _⟩)
   | some g=>
     simp only[hg,fj]at hv;obtain⟨b,j,k⟩:=hv;rw[Nd e hg j]
     cases b with
     |true=>simp_all
     |false=>exact m _ _ _ _ _ k (zR.put e hdst ⟨.undef Δ,l,.refl _ _,.refl _ _⟩)
theorem M9{call:Call} (hc:uq call) {ops:Array Oper} {Q:Exit->Act->World->Prop}:∀(l:List Oper) (k:Nat),l=ops.toList.drop k->∀{Δ:Env} {h:Hp} {w:World} {t:Tm} {a:Act},
  WR Δ h w->TR Δ n t a->∀{r:Tm×Hp},(ry n ops.toList l).f call t h=some r->(∀d a' w',zR Δ h w n r.1 r.2 d a' w'->Q .normal a' w')->
  wpOps P0 ops Q (List.range' k l.length) a w
 | [],k,hl,Δ,h,w,t,a,hW,hT,r,hv,hQ=>by
   cases hv
   exact hQ _ _ _ (.start hT hW)
 | o ::l,k,hl,Δ,h,w,t,a,hW,hT,r,hv,hQ=>by
   have hk:ops[k]? =some o:=by
     have:(ops.toList.drop k)[0]? =some o:=by rw[<-hl];rfl
     rw[wBr,wB8]at this;simpa using this
   have b:l=ops.toList.drop (k+1):=by
     rw[<-wBv,<-hl];rfl
   rw[Pb,List.range'_succ,wpOps_cons];refine YR hc hk hW hT hv λt' h' d a' w' e c=>?_;exact M9 hc l (k+1) b c.world c.tmps e λg i j m=>hQ _ _ _ (c.trans m)
end
def CU(c:Code) (Q:Exit->Act->World->Prop) (a:Act) (w:World):Prop:=∀(b:Frame) (k:List Item) (cs:List Frame),∃e a' w',Q e a' w'/\Arrives P0 (lone (b.at a (.code c:: .inLoop c::k)) cs w) b k cs e a' w'
theorem CU.round{c:Code} {Q:Exit->Act->World->Prop} {a:Act} {w:World} (h:c.wp P0 (Exit.then (CU c Q) Q) a w):CU c Q a w:=by
 intro b k cs;obtain⟨e,g,i,hq,d⟩:=h b (.inLoop c::k) cs
 cases e with
 | normal=>
   obtain⟨m,n,o,j,f⟩:=hq b k cs
   exact⟨m,n,o,j,.of_steps (Steps.trans d (.one step_inLoop)) f⟩
 |exit id=>exact⟨_,g,i,hq,.pass (x:= .inLoop c) rfl (by simp_all) d⟩
 |goto l=>exact⟨_,g,i,hq,.pass (x:= .inLoop c) rfl (by simp_all) d⟩
 |ret=>exact⟨_,g,i,hq,.pass (x:= .inLoop c) rfl (by simp_all) d⟩
 |panic ch=>exact⟨_,g,i,hq,.pass (x:= .inLoop c) rfl (by simp_all) d⟩
 |outgrown=>exact⟨_,g,i,hq,.pass (x:= .inLoop c) rfl (by simp_all) d⟩
theorem CU.wp{c:Code} {Q:Exit->Act->World->Prop} {a:Act} {w:World} (h:CU c Q a w):(Code.loop c).wp P0 Q a w:=
 λb k cs=>let⟨e,a',w',q,r⟩:=h b k cs;⟨e,a',w',q,.of_steps (.one step_loop) r⟩
def Alike(t t':Tm)(x:Operand):Prop:=(L9 x).f t=(L9 x).f t'
theorem Ga{t t':Tm} {l:List Operand} (h:∀d,d∈Ac l->jw t d=jw t' d):∀x∈l,Alike t t' x:=by
 induction l with
 |nil=>simp_all
 | cons y l a=>
   intro x hx
   cases hx with
   | head=>
     unfold Alike
     cases y <;> grind[jw,Ac,L9]
   | tail _ hx=>
     refine a (λd b=>h d ?_) x hx;cases y <;> simp[Ac,b]
section
variable{t t':Tm}{h:Hp}
theorem gD{x:Operand} (hx:Alike t t' x):(qJ x).f t h=(qJ x).f t' h:=by
 unfold Alike at hx;cases x <;> grind[qJ]
theorem vG:∀{l:List Operand},(∀x∈l,Alike t t' x)->G3 t l=G3 t' l
 |[],_=>rfl
 | x::l,hl=>by
   have a:(L9 x).f t=(L9 x).f t':=hl x (by simp);simp only[G3,a,vG (l:=l) (by simp_all)]
theorem Ab:∀{l:List (Nat×Operand)},(∀x∈l,Alike t t' x.2)->rB t l=rB t' l
 |[],_=>rfl
 | x::l,hl=>by
   have a:(L9 x.2).f t=(L9 x.2).f t':=hl x (by simp);simp only[rB,a,Ab (l:=l) (by grind)]
theorem Rp{x:Option Operand} (hx:∀y,x=some y->Alike t t' y):G8 x t h=G8 x t' h:=by
 cases x with
 |none=>rfl
 |some y=>simp only[G8,gD (hx y rfl)]
theorem Qr{ty:Nat} {p:PF} (a:p.f t h=p.f t' h):(I3 ty p).f t h=(I3 ty p).f t' h:=by
 grind[I3]
theorem Px{a b:Nat} {p:PF} (c:p.f t h=p.f t' h):(Jb a b p).f t h=(Jb a b p).f t' h:=by
 grind[Jb]
theorem Io{a b:Nat} {p:PF} (c:p.f t h=p.f t' h):(pA a p b).f t h=(pA a p b).f t' h:=by
 grind[pA]
theorem Oe{a b:Nat} {p:PF} (c:p.f t h=p.f t' h):(FP a p b).f t h=(FP a p b).f t' h:=by
 grind[FP]
theorem Im{a:Nat} {p q:PF} (b:p.f t h=p.f t' h) (hq:q.f t h=q.f t' h):(pR a p q).f t h=(pR a p q).f t' h:=by
 grind[pR]
theorem Nv{a:Nat} {p q:PF} (b:p.f t h=p.f t' h) (hq:q.f t h=q.f t' h):(Gt a p q).f t h=(Gt a p q).f t' h:=by
 grind[Gt]
theorem Ot{a:Nat} {p:PF} {lo hi:Option Operand} (b:p.f t h=p.f t' h) (c:G8 lo t h=G8 lo t' h) (d:G8 hi t h=G8 hi t' h) :
  (IP a p lo hi).f t h=(IP a p lo hi).f t' h:=by
 grind[IP]
theorem Mq{a:Nat} {p q:PF} {ok:Bool} (b:p.f t h=p.f t' h) (hq:q.f t h=q.f t' h):(Es a p q ok).f t h=(Es a p q ok).f t' h:=by
 grind[Es]
theorem Sj{a:Nat} {p:PF} (b:p.f t h=p.f t' h):(hlen a p).f t h=(hlen a p).f t' h:=by
 grind[hlen]
theorem MB{a:Nat} {p:PF} {ok:Bool} (b:p.f t h=p.f t' h):(Ei p a ok).f t h=(Ei p a ok).f t' h:=by
 grind[Ei]
theorem Q0{c p q:PF} (hc:c.f t h=c.f t' h) (a:p.f t h=p.f t' h) (hq:q.f t h=q.f t' h):(Ju c p q).f t h=(Ju c p q).f t' h:=by
 grind[Ju]
theorem O2{a:Nat} {ps:List (Nat×Operand)} (b:rB t ps=rB t' ps):(Gc a ps).f t h=(Gc a ps).f t' h:=by
 unfold Gc;grind
theorem GJ{o:Oper} (hx:∀x∈o.op.operands.toList,Alike t t' x):(iz o).f t h=(iz o).f t' h:=by
 obtain⟨dst,op,ty,pos,af,gd⟩:=o;cases op <;> simp only[iz] <;> simp only[Op.operands]at hx
 case move x=>grind[gD]
 case assign x=>grind[gD]
 case pick c a b=>exact Q0 (by grind[gD]) (by grind[gD]) (by grind[gD])
 case load ty a=>grind[Qr,gD]
 case nilCheck x=>grind[yh,gD]
 case binOp op xt x y b=>grind[gD]
 case unOp op b x=>grind[gD]
 case convert s d x=>grind[Px,gD]
 case build ty ps=>grind[O2,Ab]
 case makeFunc fn first caps=>
  cases fn with
  |func f=>grind[vG]
  |_=>rfl
 case slice ty x lo hi mx=>
  cases mx with
  |none=>grind[Ot,gD,Rp]
  |some _=>rfl
 case fieldAddr s x f=>grind[Io,gD]
 case field s x f=>grind[Oe,gD]
 case indexAddr ty x i=>grind[Im,gD]
 case index ty x i=>grind[Nv,gD]
 case lookup ty m k ok=>grind[Mq,gD]
 case extract x i=>grind[CO,gD]
 case makeInterface ty x=>
  split
  ·grind[gD]
  ·rfl
 case typeAssert x b asserted ok=>grind[MB,gD]
 case call c=>
  obtain⟨e,args,g⟩:=c
  cases e with
  | builtin b=>
    have j:∀x∈args.toList,Alike t t' x:=by grind[Call.operands]
    cases b <;> simp only
    case len=>
      split
      ·grind[Sj,gD]
      ·rfl
    case min=>grind[vG]
    case max=>grind[vG]
    all_goals rfl
  |_=>rfl
 all_goals rfl
theorem MZ{x:Operand}(hx:Alike t t' x):(L9 x).f t=(L9 x).f t':=hx
theorem Jd{o:Oper} (hx:∀x∈o.op.operands.toList,Alike t t' x):(pz o).f t=(pz o).f t':=by
 obtain⟨dst,op,ty,pos,af,gd⟩:=o;cases op <;> simp only[pz] <;> simp only[Op.operands]at hx
 case alloc e=>split <;> rfl
 case box e x=>grind[MZ]
 case buildSlice ty len parts=>
  (repeat' split) <;> first
   |rfl
   |grind[DD,Ab]
 case makeSlice ty n c=>
  (repeat' split) <;> first
   |rfl
   |grind[MZ]
 case makeMap ty r=>
  cases r with
  |none=>simp only;split <;> rfl
  |some _=>rfl
 all_goals rfl
theorem QS{o:Oper} (hx:∀x∈o.op.operands.toList,Alike t t' x):(jL o).f t h=(jL o).f t' h:=by
 obtain⟨dst,op,ty,pos,af,gd⟩:=o;cases op <;> simp only[jL] <;> simp only[Op.operands]at hx
 case store ty a x=>
  split
  ·grind[gD]
  ·rfl
 case mapUpdate ty m k x=>
  (repeat' split) <;> first
   |rfl
   |grind[gD]
 case insert ty m k x=>
  (repeat' split) <;> first
   |rfl
   |grind[gD]
 case range ty x=>
  split
  ·grind[gD]
  ·rfl
 case next x isS=>
  cases isS with
  |true=>rfl
  |false=>grind[gD]
 case entry x=>grind[gD]
 case convert s d x=>
  (repeat' split) <;> first
   |rfl
   |grind[gD]
 case call c=>
  obtain⟨g,args,j⟩:=c
  cases g with
  | builtin b=>
    have l:∀x∈args.toList,Alike t t' x:=by grind[Call.operands]
    cases b <;> simp only
    case append=>
      split
      ·rename_i s x i xT e _
       (repeat' split) <;> first
         |rfl
         |grind[gD]
      ·rfl
    case copy=>
      split
      ·rename_i s x i xT e _
       (repeat' split) <;> first
         |rfl
         |grind[gD]
      ·rfl
    case delete=>
      split
      ·rename_i s x i xT e _
       (repeat' split) <;> first
         |rfl
         |grind[gD]
      ·rfl
    all_goals rfl
  | value f=>
    grind[Alike,Call.operands,gD,vG]
  | invoke r m=>
    grind[Alike,Call.operands,gD,vG]
 all_goals rfl
theorem K6{call:Call} {o:Oper} (hx:∀x∈o.op.operands.toList,Alike t t' x):(Gq o).f call t h=(Gq o).f call t' h:=by
 grind[Gq,GJ,Jd,QS]
end
theorem AB:∀(l:List Oper) (i:Nat) (b:List Nat) (k:Nat) (a:It),(items l i b)[k]? =some a->a.i=i+k/\l[k]? =some a.o
 |[],i,b,k,a,h=>by grind[items]
 |o::os,i,b,0,a,h=>by simp[items]at h;grind
 | o::os,i,b,k+1,a,h=>by
   simp only[items,wBc]at h;obtain⟨c,d⟩:=AB os (i+1) _ k a h
   grind
theorem GN:∀(l:List Oper) (i:Nat) (a:List Nat),(items l i a).length=l.length
 |[],i,a=>rfl
 |o::os,i,a=>by simp[items,GN os]
theorem zZ(a:List Nat) (x:Nat):∀(b:List Edge) (m:Nat),(Kq a b m).testBit x=true->m.testBit x=true\/∃e∈b,Lp e=true/\(x=e.on\/(a[e.on]?.getD 0).testBit x=true)
 |[],m,h=> .inl h
 | e ::b,m,h=>by
   simp only[Kq]at h;split at h
   ·rename_i hb
    rcases zZ a x b _ h with c|⟨e',f,d,c⟩
    ·grind
    grind
   ·rcases zZ a x b _ h with c|⟨e',f,d,c⟩
    ·simp_all
    grind
theorem Tw:∀(l:List Oper) (i:Nat) (c:List Nat) (k:Nat) (a:It),(items l i c)[k]? =some a->
  a.b=Kq (c++((items l i c).take k).map (·.b)) a.o.after.toList 0
 |[],i,c,k,a,h=>by grind[items]
 |o::os,i,c,0,a,h=>by grind[items]
 | o::os,i,c,k+1,a,h=>by
   simp only[items,wBc]at h;have:=Tw os (i+1) _ k a h
   grind[items,Mb]
theorem Lg{l:List Oper} {k:Nat} {a:It} (h:(items l 0 [])[k]? =some a) {x:Nat} (hx:a.b.testBit x=true) :
  ∃e∈a.o.after.toList,Lp e=true/\(x=e.on\/∃y,(items l 0 [])[e.on]? =some y/\y.b.testBit x=true):=by
 rw[Tw l 0 [] k a h]at hx;rcases zZ _ x _ _ hx with c|⟨e,d,hb,c⟩
 ·simp_all
 ·refine ⟨e,d,hb,?_⟩;rcases c with c|c
  ·omega
  ·right;rw[MR,xk,List.getElem?_take]at c
   grind
theorem Eb(e:Edge):Region.binds .any e=Lp e:=by
 rfl
def p6(val:Nat->V)(D:Nat->Bool)(d:Nat)(jM:List It)(b:V):V:=jM.foldl (λv a=>if D a.i=true/\a.o.dst=some d then val a.i else v) b
theorem pg{val Mj:Nat->V} {D D':Nat->Bool} {d:Nat} {jM:List It} (c:∀a∈jM,a.o.dst=some d->D a.i=D' a.i) (e:∀a∈jM,a.o.dst=some d->D a.i=true->val a.i=Mj a.i) (b:V) :
  p6 val D d jM b=p6 Mj D' d jM b:=by
 unfold p6
 induction jM generalizing b <;> grind
theorem FD{val:Nat->V} {D:Nat->Bool} {d:Nat} {jM:List It} (h:∀a∈jM,a.o.dst=some d->D a.i=false) (b:V):p6 val D d jM b=b:=by
 unfold p6
 induction jM generalizing b <;> grind
theorem Vf{val:Nat->V} {D:Nat->Bool} {d:Nat} {jM:List It} (e:∀(k:Nat) (x:It),jM[k]? =some x->x.i=k) {a:It} (g:a∈jM) (j:a.o.dst=some d) (l:D a.i=true)
  (h:∀x∈jM,a.i<x.i->x.o.dst=some d->D x.i=false) (m:V):p6 val D d jM m=val a.i:=by
 obtain⟨k,hk⟩:=mr.1 g;have n:=e k a hk;have f:k<jM.length:=by grind
 have b:jM=jM.take k++a::jM.drop (k+1):=by
  have p:jM.drop k=a::jM.drop (k+1):=by
   rw[VV f];rw[g0 f]at hk;cases hk;rfl
  rw[<-p,VY]
 have c:∀x∈jM.drop (k+1),x.o.dst=some d->D x.i=false:=by
  intro x hx r;obtain⟨q,hq⟩:=mr.1 hx;rw[wBr]at hq;have:=e _ x hq;exact by grind
 unfold p6;rw[b,List.foldl_append,List.foldl_cons,if_pos ⟨l,j⟩];exact FD c _
def zV(h h':Hp):Prop:=h.next<=h'.next/\∀l,l<h.next->h'.get l=h.get l
theorem zV.refl(h:Hp):zV h h:=⟨jb _,λ_ _=>rfl⟩
theorem zV.trans{h h' c:Hp}(a:zV h h')(b:zV h' c):zV h c:=⟨BX a.1 b.1,λl d=>by rw[b.2 l (BF d a.1),a.2 l d]⟩
theorem zV.new(h:Hp)(o:O):zV h (h.new o):=⟨Qd _,by simp_all[tz,if_neg,Nat.ne_of_gt]⟩
theorem WR.OU{Δ:Env} {h h':Hp} {w:World} (a:WR Δ h w) (b:zV h h'):WR Δ h' w where
 fresh:=λl d f=>BF (a.fresh l d f) b.1
 vf:=a.vf
 obj:=λl d f=>by rw[b.2 l (a.fresh l d f)];exact a.obj l d f
 apart:=λm i e e' p s k n j o q=>by
  rw[b.2 m (a.fresh m e k)]at o;rw[b.2 i (a.fresh i e' n)]at q;exact a.apart m i e e' p s k n j o q
 GI:=λg p c r=>by
  rw[b.2 g (BF c a.xd)]at r;exact a.GI g p c r
 xd:=BX a.xd b.1
 Tz:=a.Tz
theorem O.eq_of_beq{a b:O} (h:O.beq a b=true):a=b:=by
 unfold O.beq at h;split at h
 ·simp only[uF,EE]at h;obtain⟨⟨⟨⟨rfl,rfl⟩,rfl⟩,rfl⟩,c⟩:=h
  grind[V.vH]
 ·simp_all
 ·cases h
structure Tc where
 on:Nat->Bool
 val:Nat->V
 tt:Nat->Tm
 ep:Nat->Nat
 pl:Nat->Nat
 ob:Nat->O
 H:Nat->Hp
 G:Nat->Hp
def yn(jM:List It)(D:Nat->Bool):Prop:=∀a∈jM,D a.i=true->∀x∈jM,a.b.testBit x.i=true->D x.i=true
section
variable (n:Nat)(all:List Oper)(jM ws:List It)(call:Call)(t0:Tm)(h0:Hp)
structure Lv (T:Tc) (D:Nat->Bool) (a:It):Prop where
 fresh:D a.i=false
 closed:yn jM D
 ez:∀x∈jM,a.b.testBit x.i=true->D x.i=true
 oi:∀d,jw (T.tt a.i) d=p6 T.val D d jM (jw t0 d)
 dst:∃d,wT n a.o=some d
 oU:oU n all a.o (T.tt a.i)=some (T.on a.i)
 off:T.on a.i=false->T.val a.i = .undef
 epw:cls a.o≠2->Kb ws a (T.ep a.i)=true
 epl:T.ep a.i<=ws.length
 pure:cls a.o=0->T.on a.i=true->∀j,T.ep a.i<=j->j<=ws.length->j<=late ws a->(iz a.o).f (T.tt a.i) (T.H j)=some (T.val a.i)
 alloc:cls a.o=1->T.on a.i=true->(∃mk,(pz a.o).f (T.tt a.i)=some (T.ob a.i,mk)/\T.val a.i=mk (T.pl a.i))/\
  (∀j,T.ep a.i<=j->j<=ws.length->T.pl a.i<(T.H j).next/\(j<=late ws a->(T.H j).get (T.pl a.i)=some (T.ob a.i)))/\
  (∀j,j<T.ep a.i->(T.G j).next<=T.pl a.i)/\h0.next<=T.pl a.i
 write:cls a.o=2->isW ws a (T.ep a.i)=true/\(T.on a.i=true->(Gq a.o).f call (T.tt a.i) (T.H (T.ep a.i))=some (T.val a.i,T.G (T.ep a.i)))/\
  (T.on a.i=false->T.G (T.ep a.i)=T.H (T.ep a.i))
structure rD (l:List It) (m k:Nat) (h:Hp) (rs:List Rec) (r:Tm×Hp) (b T:Tc):Prop where
 same:∀i,m.testBit i=true->T.on i=b.on i/\T.val i=b.val i/\T.tt i=b.tt i/\T.ep i=b.ep i/\T.pl i=b.pl i/\T.ob i=b.ob i
 Tl:∀j,j<k->T.H j=b.H j/\T.G j=b.G j
 item:∀a∈l,∃D,Lv n all jM ws call t0 h0 T D a
 Bx:∀r∈rs,∀j,k<=j->j<=ws.length->r.last<j\/xQ (T.H j) r=true
 more:zV h (T.H k)
 chain:∀j,k<=j->j<ws.length->(T.H j).next<=(T.G j).next/\zV (T.G j) (T.H (j+1))
 Vc:∀a∈l,cls a.o=1->T.on a.i=true->h.next<=T.pl a.i
 Tj:∀a∈l,∀a'∈l,cls a.o=1->cls a'.o=1->T.on a.i=true->T.on a'.i=true->a.i≠a'.i->T.pl a.i≠T.pl a'.i
 last:r.2=T.H ws.length
 oi:∀d,jw r.1 d=p6 T.val (λ_=>true) d jM (jw t0 d)
 done:∀a∈jM,m.testBit a.i=true\/a.i∈l.map (·.i)
 kle:k<=ws.length
end
theorem DI{ws:List It} {T:Tc} {k:Nat} (h:∀j,k<=j->j<ws.length->(T.H j).next<=(T.G j).next/\zV (T.G j) (T.H (j+1))):∀(m j:Nat),j=k+m->j<=ws.length->(T.H k).next<=(T.H j).next:=by
 intro m
 induction m with
 |zero=>simp_all
 | succ m b=>
   intro j g c;obtain⟨a,rfl⟩:∃a,j=a+1:=⟨j-1,by omega⟩
   have d:=b a (by omega) (by omega);obtain⟨e,f⟩:=h a (by omega) (by omega);exact BX d (BX e f.1)
theorem X5(m i x:Nat):(m |||2 ^ i).testBit x=(m.testBit x ||decide (i=x)):=by grind
theorem Jm{l:List It} (h:qc l=true):∀(i j:Nat) (a b:It),i<j->l[i]? =some a->l[j]? =some b->OW a b=true:=by
 induction l with
 |nil=>simp_all
 | cons x l d=>
   intro i j a b c e hb;simp only[qc,uF]at h
   grind
theorem M7{jM:List It} (c:∀(k:Nat) (x:It),jM[k]? =some x->x.i=k) (h:qc jM=true) {a x:It} (l:a∈jM) (hx:x∈jM) {d:Nat} (m:d∈pb a.o) (e:x.o.dst=some d) :
  (x.i<a.i->a.b.testBit x.i=true)/\(a.i<x.i->x.b.testBit a.i=true):=by
 obtain⟨i,hi⟩:=mr.1 l;obtain⟨j,f⟩:=mr.1 hx;have n:=c i a hi;have p:=c j x f;have q:writes x.o (pb a.o)=true:=by simp[writes,e,m]
 constructor
 ·intro g;have:=Jm h j i x a (by omega) f hi
  grind[OW]
 ·intro g;have:=Jm h i j a x (by omega) hi f
  grind[OW]
theorem U3{o:Oper}{d:Nat}(h:o.dst=some d):d∈pb o:=by simp[pb,h]
theorem Gj{jM:List It} (e:∀(k:Nat) (x:It),jM[k]? =some x->x.i=k) (p:qc jM=true) {a:It} (f:a∈jM) {D D':Nat->Bool} (q:yn jM D) (g:yn jM D')
  (t:∀x∈jM,a.b.testBit x.i=true->D x.i=true) (r:∀x∈jM,a.b.testBit x.i=true->D' x.i=true) (m:D a.i=false) (c:D' a.i=false) {d:Nat} (s:d∈pb a.o) (val:Nat->V) (j:V) :
  p6 val D d jM j=p6 val D' d jM j:=by
 refine pg (λx hx l=>?_) (by simp_all) j;obtain⟨p1,n⟩:=M7 e p f hx s l;rcases wBj x.i a.i with h|h|h
 ·simp_all
 ·simp_all
 ·have u:D x.i=false:=by
   cases hh:D x.i with
   |false=>rfl
   |true=>rw[q x hx hh a f (n h)]at m;cases m
  have v:D' x.i=false:=by
   cases hh:D' x.i with
   |false=>rfl
   |true=>rw[g x hx hh a f (n h)]at c;cases c
  simp_all
theorem Ed{jM:List It} (b:∀(k:Nat) (x:It),jM[k]? =some x->x.i=k) (p:qc jM=true) {a:It} (h:a∈jM) {D D':Nat->Bool} (q:yn jM D) (n:D a.i=false)
  (f:∀i,D' i=(D i ||decide (a.i=i))) {val Mj:Nat->V} (hv:∀i,D i=true->Mj i=val i) (d:Nat) (l:V) :
  p6 Mj D' d jM l=if a.o.dst=some d then Mj a.i else p6 val D d jM l:=by
 by_cases hd:a.o.dst=some d
 ·rw[if_pos hd];refine Vf b h hd (by simp_all) (λx hx g c=>?_) l;rw[f];have r:a.i≠x.i:=Po g;have:=(M7 b p h hx (U3 hd) c).2 g
  cases hh:D x.i with
  |false=>simp_all
  |true=>rw[q x hx hh a h this]at n;cases n
 ·rw [if_neg hd];refine pg (λx hx c=>?_) (λx hx c s=>?_) l
  ·rw [f];have:a.i≠x.i:=by
    intro e;obtain⟨i,hi⟩:=mr.1 h;obtain⟨j,m⟩:=mr.1 hx;have t:=b i a hi;have u:=b j x m;have:i=j:=by omega
    subst this;rw[hi]at m;cases m;exact hd c
   simp_all
  grind[mr]
def Ms{α:Type}(f:Nat->α)(i:Nat)(v:α):Nat->α:=λj=>if j=i then v else f j
theorem mM{α:Type}(f:Nat->α)(i:Nat)(v:α):Ms f i v i=v:=if_pos rfl
theorem Ny{α:Type}(f:Nat->α){i j:Nat}(v:α)(h:j≠i):Ms f i v j=f j:=if_neg h
theorem IY(o:Oper):cls o=0\/cls o=1\/cls o=2:=by
 unfold cls
 grind
theorem GR{n:Nat} {o:Oper} {d:DF} (h:wT n o=some d) (t:Tm) (v:V) (i:Nat):jw (d.f t v) i=if o.dst=some i then v else jw t i:=by
 unfold wT at h
 cases ho:o.dst with
 |none=>grind
 | some k=>
   simp only[ho]at h
   cases hk:Nat.blt k n with
   |false=>simp_all
   | true=>
     simp only[hk]at h;cases h;show jw (t.set k v) i=_
     simp_all[LI,if_pos,if_neg]
theorem vS{n:Nat} {o:Oper} {d:DF} (h:wT n o=some d) (t:Tm) (v:V):(d.f t v).ds=t.ds:=by
 grind[wT,Nat.blt,Tm.XP]
theorem zD{n:Nat} {all:List Oper} {ws:List It} {call:Call}:∀(l:List It) (k:Nat) {t:Tm} {h:Hp} {rs:List Rec} {r:Tm×Hp},(vF n all ws l k).f call t h rs=some r->r.1.ds=t.ds
 | [],_,t,h,rs,r,hv=>by
   grind[vF,gP]
 | a ::l,k,t,h,rs,r,hv=>by
   unfold vF at hv
   cases hd:wT n a.o with
   |none=>simp_all
   | some d=>
     rw[hd]at hv;simp only at hv;split at hv
     ·simp only[Fs,fj]at hv
      obtain⟨b,_,c⟩:=hv
      cases b with
      |false=>rw[zD l _ c,vS hd]
      | true=>
        simp only[fj]at c;obtain⟨x,_,e⟩:=c;rw[zD l _ e,vS hd]
     ·simp only[DL,fj]at hv
      obtain⟨b,_,c⟩:=hv
      cases b with
      |false=>rw[zD l _ c,vS hd]
      | true=>
        simp only[fj]at c;obtain⟨x,_,e⟩:=c;rw[zD l _ e,vS hd]
     ·simp only[z7,fj,gP]at hv
      obtain⟨_,b,_,c⟩:=hv
      cases b with
      |false=>rw[zD l _ c,vS hd]
      | true=>
        simp only[fj,gP]at c;obtain⟨x,_,_,e⟩:=c;rw[zD l _ e,vS hd]
section
variable{n:Nat}{all:List Oper}{jM ws:List It}{call:Call}{t0:Tm}{h0:Hp}
theorem rD.cons{l:List It} {a:It} {m k k':Nat} {h h':Hp} {rs w:List Rec} {r:Tm×Hp} {c T1 T:Tc} (b:rD n all jM ws call t0 h0 l (m |||2 ^ a.i) k' h' w r T1 T)
  (B:∀i,m.testBit i=true->T1.on i=c.on i/\T1.val i=c.val i/\T1.tt i=c.tt i/\T1.ep i=c.ep i/\T1.pl i=c.pl i/\T1.ob i=c.ob i)
  (I:∀j,j<k->T1.H j=c.H j/\T1.G j=c.G j) (hk:k<=k') (d:∃D,Lv n all jM ws call t0 h0 T D a)
  (e:∀r∈rs,∀j,k<=j->j<=ws.length->r.last<j\/xQ (T.H j) r=true) (f:zV h (T.H k))
  (v:∀j,k<=j->j<k'->(T.H j).next<=(T.G j).next/\zV (T.G j) (T.H (j+1)))
  (u:cls a.o=1->T.on a.i=true->h.next<=T.pl a.i/\T.pl a.i<h'.next) (wc:h.next<=h'.next) (z:k<=ws.length):rD n all jM ws call t0 h0 (a::l) m k h rs r c T where
 same:=λi hi=>by
  obtain⟨a1,a2,a3,a4,J,K⟩:=b.same i (by simp_all)
  simp_all
 Tl:=λj C=>by
  obtain⟨a1,a2⟩:=b.Tl j (by omega)
  simp_all
 item:=λx hx=>by
  cases hx with
  |head=>exact d
  |tail _ hx=>exact b.item x hx
 Bx:=e
 more:=f
 chain:=λj B E=>by
  by_cases C:j<k'
  ·simp_all
  ·exact b.chain j (by omega) E
 Vc:=λx hx hc F=>by
  cases hx with
  |head=>simp_all
  |tail _ hx=>exact BX wc (b.Vc x hx hc F)
 Tj:=λx hx y t g p q s A=>by
  cases hx with
  | head=>
    cases t with
    |head=>omega
    |tail _ t=>have:=(u g q).2;have:=b.Vc y t p s;omega
  | tail _ hx=>
    cases t with
    |head=>have:=(u p s).2;have:=b.Vc x hx g q;omega
    |tail _ t=>exact b.Tj x hx y t g p q s A
 last:=b.last
 oi:=b.oi
 done:=λx hx=>by
  rcases b.done x hx with h|h
  ·grind
  simp_all
 kle:=z
theorem trace(B:∀(k:Nat) (x:It),jM[k]? =some x->x.i=k) (Q:qc jM=true):∀(l:List It) (m k:Nat) (t:Tm) (h:Hp) (rs:List Rec) (r:Tm×Hp) (s:Tc),
  (∀a∈l,a∈jM)->ua jM ws l m k=true->(vF n all ws l k).f call t h rs=some r->yn jM m.testBit->(∀d,jw t d=p6 s.val m.testBit d jM (jw t0 d))->
  h0.next<=h.next->(∀j,j<k->(s.G j).next<=h.next)->k<=ws.length->∃T,rD n all jM ws call t0 h0 l m k h rs r s T
 | [],m,k,t,h,rs,r,s,Vv,c,hv,hcl,ht,hn0,hG,hkl=>by
   simp only[ua,uF]at c;obtain⟨ah,hk⟩:=c;have al:k=ws.length:=zB hk;simp only[vF,gP]at hv;obtain⟨Y,hv⟩:=hv;cases hv;refine⟨{s with H:=Ms s.H k h},⟨by simp_all,λj N=>⟨by grind[Ny],rfl⟩,by simp_all,?_,?_,by omega,by simp_all,by simp_all,?_,?_,?_,hkl⟩⟩
   ·intro q hq j Z h2
    have:j=k:=by omega
    simp_all[xQ,Ms,mM,zY,O4,Rc,O6]
   ·grind[zV,Ms,mM]
   ·grind[Ms,mM]
   ·intro d
    rw[ht d];refine pg (λa ha _=>?_) (by simp_all) _
    simp_all
   simp_all
 | a ::l,m,k,t,h,rs,r,s,Vv,c,hv,hcl,ht,hn0,hG,hkl=>by
   have ha:a∈jM:=by simp_all
   have w:∀x∈l,x∈jM:=by simp_all
   simp only[ua,uF,wBh]at c;obtain⟨C,am,c⟩:=c;have u:∀x∈jM,a.b.testBit x.i=true->m.testBit x.i=true:=by grind
   have z:yn jM (m |||2 ^ a.i).testBit:=λx hx A y hy hb=>by
     rw[X5]at A⊢;simp only[Rc,D1]at A;rcases A with A|A
     ·rw[hcl x hx A y hy hb];rfl
     grind[mr]
   simp only[vF]at hv
   cases hd:wT n a.o with
   |none=>simp_all
   | some d =>
     simp only[hd]at hv
     let T1:Bool->V->Nat->O->(Nat->Hp)->(Nat->Hp)->Tc:=λb v p ob H G=>⟨Ms s.on a.i b,Ms s.val a.i v,Ms s.tt a.i t,Ms s.ep a.i k,Ms s.pl a.i p,Ms s.ob a.i ob,H,G⟩
     have Z:∀b v p ob H G,∀i,m.testBit i=true->(T1 b v p ob H G).on i=s.on i/\(T1 b v p ob H G).val i=s.val i/\(T1 b v p ob H G).tt i=s.tt i/\(T1 b v p ob H G).ep i=s.ep i/\
        (T1 b v p ob H G).pl i=s.pl i/\(T1 b v p ob H G).ob i=s.ob i:=by grind[Ny]
     have D:∀b v p ob H G,∀d',jw (d.f t v) d' = p6 (T1 b v p ob H G).val (m |||2 ^ a.i).testBit d' jM (jw t0 d'):=by grind[GR,Ed,X5,jw,Ms,mM]
     have self:∀{b v p ob H G l' k' h' R T},rD n all jM ws call t0 h0 l' (m |||2 ^ a.i) k' h' R r (T1 b v p ob H G) T->
        T.on a.i=b/\T.val a.i=v/\T.tt a.i=t/\T.ep a.i=k/\T.pl a.i=p/\T.ob a.i=ob/\(∀d',jw (T.tt a.i) d' = p6 T.val m.testBit d' jM (jw t0 d')):=λ{b v p ob H G l' k' h' R T} g=>by
       obtain⟨a1,a2,a3,a4,a5,a6⟩:=g.same a.i (by simp_all);refine⟨a1.trans (mM _ _ _),a2.trans (mM _ _ _),a3.trans (mM _ _ _),a4.trans (mM _ _ _),a5.trans (mM _ _ _),a6.trans (mM _ _ _),λd'=>?_⟩;rw[a3.trans (mM _ _ _),ht d'];refine(pg (by simp_all) (λx hx _ aa=>?_) _).symm;rw[(g.same x.i (by simp_all)).2.1,(Z b v p ob H G x.i aa).2.1]
     rcases IY a.o with hc|hc|hc
     ·
       have E:Nat.beq (cls a.o) 2=false:=by rw[hc];rfl
       rw[E]at c;simp only[uF]at c;obtain⟨F,c⟩:=c;rw[hc]at hv;simp only[Fs,fj]at hv;obtain⟨b,hw,hv⟩:=hv
       cases b with
       | false=>
         obtain⟨T,g⟩:=trace B Q l _ k _ h rs r (T1 false .undef 0 default s.H s.G) w c hv z (D _ _ _ _ _ _) hn0 hG hkl;obtain⟨W,P,X,J,K,S,I⟩:=self g
         refine ⟨T,g.cons (by simp_all) (by grind) (jb _) ⟨m.testBit,C,hcl,u,I,⟨d,hd⟩,by simp_all,λ_=>P,by simp_all,by omega,
           by simp_all,by omega,by omega⟩ g.Bx g.more (by omega) (by omega) (jb _) hkl⟩
       | true=>
         simp only[fj]at hv;obtain⟨v,ab,hv⟩:=hv;obtain⟨T,g⟩:=trace B Q l _ k _ h _ r (T1 true v 0 default s.H s.G) w c hv z (D _ _ _ _ _ _) hn0 hG hkl;obtain⟨W,P,X,J,K,S,I⟩:=self g
         refine ⟨T,g.cons (by simp_all) (by grind) (jb _) ⟨m.testBit,C,hcl,u,I,⟨d,hd⟩,by simp_all,by simp_all,by simp_all,by omega,
           λ_ _ j L M j3=>?_,by omega,by omega⟩ (λq hq=>g.Bx q (by simp[hq])) g.more (by omega) (by omega) (jb _) hkl⟩
         rw[J]at L;rcases g.Bx _ (Y4 ..) j L M with ac|hh
         ·grind
         grind[xQ,V.eq_of_beq]
     ·
       have E:Nat.beq (cls a.o) 2=false:=by rw[hc];rfl
       rw[E]at c;simp only[uF]at c;obtain⟨F,c⟩:=c;rw[hc]at hv;simp only[DL,fj]at hv;obtain⟨b,hw,hv⟩:=hv
       cases b with
       | false=>
         obtain⟨T,g⟩:=trace B Q l _ k _ h rs r (T1 false .undef 0 default s.H s.G) w c hv z (D _ _ _ _ _ _) hn0 hG hkl;obtain⟨W,P,X,J,K,S,I⟩:=self g
         refine ⟨T,g.cons (by simp_all) (by grind) (jb _) ⟨m.testBit,C,hcl,u,I,⟨d,hd⟩,by simp_all,λ_=>P,by simp_all,by omega,
           by omega,by simp_all,by omega⟩ g.Bx g.more (by omega) (by simp_all) (jb _) hkl⟩
       | true=>
         simp only[fj]at hv;obtain⟨⟨ob,mk⟩,ab,hv⟩:=hv;obtain⟨T,g⟩:=trace B Q l _ k _ _ _ r (T1 true (mk h.next) h.next ob s.H s.G) w c hv z (D _ _ _ _ _ _) (X8 hn0) (λj N=>X8 (hG j N)) hkl;obtain⟨W,P,X,J,K,S,I⟩:=self g
         refine ⟨T,g.cons (by simp_all) (by grind) (jb _) ⟨m.testBit,C,hcl,u,I,⟨d,hd⟩,by simp_all,by simp_all,by simp_all,by omega,
           by omega,λ_ _=>⟨by simp_all,λj L M=>?_,λj N=>?_,by omega⟩,by omega⟩
           (λq hq=>g.Bx q (by simp[hq])) ((zV.new h ob).trans g.more) (by omega) (λ_ _=>by rw[K];exact⟨jb _,Pd _⟩) (Qd _) hkl⟩
         ·rw[J]at L
          rw[K,S];refine⟨?_,λj3=>?_⟩
          ·have e1:(h.new ob).next<=(T.H k).next:=g.more.1
           have e2:=DI g.chain (j-k) j (by omega) M;have:h.next<(h.new ob).next:=Pd _;omega
          ·rcases g.Bx _ (Y4 ..) j L M with ac|hh
           ·grind
           grind[xQ,O.eq_of_beq]
         ·rw[J]at N
          rw[K,(g.Tl j N).2]
          grind
     ·
       have E:Nat.beq (cls a.o) 2=true:=by rw[hc];rfl
       rw[E]at c;simp only[uF]at c;obtain⟨F,c⟩:=c;have ae:k<ws.length:=by
        unfold isW at F;split at F
        ·grind
        ·cases F
       rw[hc]at hv;simp only[z7,gP,fj]at hv;obtain⟨Y,b,hw,hv⟩:=hv;have ai:∀q∈rs,q.last<k\/xQ h q=true:=by simp_all[zY,O4,Rc,O6]
       have aj:∀(b:Bool) (v:V) (h':Hp),oU n all a.o t=some b->(vF n all ws l (Nat.succ k)).f call (d.f t v) h' rs=some r->h.next<=h'.next->(b=false->v = .undef/\h' = h)->
         (b=true->(Gq a.o).f call t h=some (v,h'))->∃T,rD n all jM ws call t0 h0 (a::l) m k h rs r s T:=by
         intro b v h' hw hv hn ak an
         obtain ⟨T,g⟩:=trace B Q l _ (k+1) _ h' rs r (T1 b v 0 default (Ms s.H k h) (Ms s.G k h')) w c hv z (D _ _ _ _ _ _) (by omega)
           (fun j N=>by
             by_cases e:j=k
             ·subst e;show(Ms s.G j h' j).next<=_;simp_all[mM,jb]
             grind[Ms,Ny,BX]) ae
         obtain⟨W,P,X,J,K,S,I⟩:=self g;obtain⟨g1,g2⟩:=g.Tl k (Pd _);have U:T.H k=h:=g1.trans (mM _ _ _);have ag:T.G k=h':=g2.trans (mM _ _ _)
         refine ⟨T,g.cons (Z _ _ _ _ _ _) (by grind[Ny]) (Qd _) ⟨m.testBit,C,hcl,u,I,⟨d,hd⟩,by grind,
           by grind,by omega,by omega,by omega,by omega,
           λ_=>⟨by grind,λho=>?_,λho=>?_⟩⟩ (λq hq j L M=>?_) (by rw[U];exact .refl h) (λj L M=>?_) (by omega) hn hkl⟩
         ·grind
         ·grind
         ·by_cases e:j=k
          ·grind
          ·exact g.Bx q hq j (by omega) M
         ·have:j=k:=by omega
          subst this;rw[U,ag];exact⟨hn,g.more⟩
       cases b with
       |false=>grind
       | true=>
         grind[fj,gP,Jz]
end
