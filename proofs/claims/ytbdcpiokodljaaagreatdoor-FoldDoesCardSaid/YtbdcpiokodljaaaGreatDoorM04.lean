/- Parts. -/
import Derived.Test.YtbdcpiokodljaaaGreatDoorM03
set_option maxHeartbeats 4000000
namespace Go.Proofs.YtbdcpiokodljaaaGreatDoor.Hx
def xk(call:Call):Prop:=∀(f:Nat) (args:List V) (v:V) (h h':Hp) (Δ:Env) (w:World) (gS:Array Value),call f args h=some (v,h')->WR Δ h w->gN Δ args gS.toList-> (∃x,(callFunc f gS).run P0 w = .ok (.value x) w/\Am Δ h w v h' Δ x w)\/ ((callFunc f gS).run P0 w = .ok (.enter f gS) w/\Calls P0 f gS w λe w'=>∃a x,e = .returned x/\Am Δ h w v h' a x w')
section
variable{Δ:Env}{h:Hp}{w:World}{n:Nat}{t:Tm}{a:Act}
theorem PJ{call:Call} (hc:xk call) (i:WR Δ h w) (m:TR Δ n t a) {o:Oper} {v:V} {h':Hp} (hv:(JE o).f call t h=some (v,h')) {K:Act->World->Prop} {Q:Exit->Act->World->Prop}
  (p:∀k x w',Am Δ h w v h' k x w'->K (a.put o.dst x) w'):o.wp P0 a w K Q:=by
 unfold JE at hv;split at hv
 ·simp only[ft]at hv;obtain⟨u,j,c⟩:=hv;cases c;obtain⟨x,b,d⟩:=zbC i m j;unfold Oper.wp;rw[b,Oper.upon_value];exact p Δ x w ⟨d,i,.refl _ _,.refl _ _⟩
 ·simp only[ft]at hv;obtain⟨⟨ob,mk⟩,j,c⟩:=hv;cases c;obtain⟨A,B,b,d⟩:=SS m j;obtain⟨k,a1,a2,a3,y⟩:=i.alloc d;unfold Oper.wp;rw[b w,Oper.upon_value];exact p k _ _ ⟨a2,a1,a3,y⟩
 ·simp only[ft]at hv;obtain⟨r,j,c⟩:=hv;rcases ZR i m j with⟨u,z,k,x,w',rfl,b,d⟩|⟨g,l,gS,rfl,b,d⟩
  ·cases c;unfold Oper.wp;rcases b with b|⟨rfl,b⟩
   ·grind[Oper.upon_value]
   grind[Oper.upon_skip]
  ·unfold Oper.wp;rw[d];rcases hc g l v h h' Δ w gS c i b with⟨x,q,s⟩|⟨q,s⟩
   ·grind[Oper.upon_value]
   ·rw[q,Oper.upon_enter];refine Calls.mono s λe w' C=>?_
    grind
theorem Zs(a:Act) (d:Nat) (x:Value) (i:Nat) (b:d<a.tmps.size):(a.put (some d) x).tmps.getD i undef=if d=i then x else a.tmps.getD i undef:=by
 simp only[Act.put,wBT,Array.getElem?_setIfInBounds]
 grind
theorem put_defers(a:Act)(d:Option Tmp)(x:Value):(a.put d x).defers=a.defers:=by cases d <;> rfl
theorem LO(c:TR Δ n t a) {o:Oper} {d:DF} (b:zL n o=some d) {v:V} {x:Value} (hv:fO Δ v x):TR Δ n (d.f t v) (a.put o.dst x):=by
 unfold zL at b
 cases ho:o.dst with
 |none=>simp only[ho]at b;cases b;exact c
 | some k=>
   simp only[ho]at b
   cases hk:Nat.blt k n with
   |false=>simp_all
   | true=>
     simp only[hk]at b;cases b;have e:k<a.tmps.size:=by rw[c.size,<-Q8];exact hk
     refine⟨by simp[Act.put,c.size],λi=>?_,by rw[put_defers];show Kr Δ (t.set k v).ds _;rw[Tm.YM];exact c.ds⟩;rw[Zs _ _ _ _ e];show fO Δ (ki (t.set k v) i) _;rw[OQ];by_cases h:k=i
     ·simp_all
     ·rw[if_neg h,if_neg h];exact c.rel i
theorem Qg{n:Nat} {ops:List Oper} {o:Oper} (a:lL n ops o=none) (y:Nat->Option Bool):Region.wanted o y=true:=by
 grind[lL,Region.wanted]
theorem PH(m:TR Δ n t a) {ops:Array Oper} {o:Oper} {g:GF} (e:lL n ops.toList o=some g) {b:Bool} (h:g.f t=some b):Region.wanted o (yielded ops a.tmps)=b:=by
 unfold lL at e;unfold Region.wanted
 cases hg:o.guard with
 |none=>simp_all
 | some q =>
   obtain⟨j,r⟩:=q;simp only[hg]at e⊢;unfold yielded
   cases hj:ops.toList[j]? with
   | none=>
     grind
   | some p=>
     have l:ops[j]? =some p:=by rw[<-wBC];exact hj
     simp only[hj]at e;simp only[l,Option.bind_some]
     cases hd:p.dst with
     | none=>
       grind
     | some d=>
       simp only[hd]at e;simp only[Option.bind_some]
       cases Pu:Nat.blt d n with
       |false=>grind
       | true=>
         simp only[Pu]at e;cases e;have i:d<a.tmps.size:=by rw[m.size,<-Q8];exact Pu
         have k:=m.rel d;have s:a.tmps[d]? =some (a.tmps.getD d undef):=by simp[i]
         rw[s];generalize a.tmps.getD d undef=x at k;simp only at h;split at h
         ·rename_i u c
          cases h;rw[c]at k;cases k;cases r <;> cases u <;> rfl
         ·rename_i c
          cases h;rw[c]at k;cases k <;> grind
         ·cases h
structure Db (Δ:Env) (h:Hp) (w:World) (n:Nat) (t':Tm) (h':Hp) (a:Env) (a':Act) (w':World):Prop where
 tmps:TR a n t' a'
 world:WR a h' w'
 frame:FR Δ a w w'
 grow:Gr h Δ h' a
theorem Db.start(b:TR Δ n t a)(c:WR Δ h w):Db Δ h w n t h Δ a w:=⟨b,c,.refl _ _,.refl _ _⟩
theorem Db.trans{a b:Env} {c d:Hp} {e f:World} {i g:Tm} {a1 a2:Act} (x:Db Δ h w n i c a a1 e) (y:Db a c e n g d b a2 f):Db Δ h w n g d b a2 f:=
 ⟨y.tmps,y.world,x.frame.trans y.frame,x.grow.trans y.grow⟩
theorem Db.put(g:TR Δ n t a) {o:Oper} {d:DF} (b:zL n o=some d) {v:V} {h':Hp} {e:Env} {x:Value} {w':World} (c:Am Δ h w v h' e x w') :
  Db Δ h w n (d.f t v) h' e (a.put o.dst x) w':=
 ⟨LO (g.mono c.frame.le) b c.val,c.world,c.frame,c.grow⟩
theorem ZZ(m:WR Δ h w) (b:TR Δ n t a) {o:Oper} {q:QF} (hq:A2 o=some q) {t':Tm} (hv:q.f t h=some t') :
  ∃d,(∀w,(execOp a.eval o).run P0 w = .ok (.defer d) w)/\TR Δ n t' {a with defers:=d::a.defers}:=by
 unfold A2 at hq;split at hq
 ·rename_i c p;split at hq
  ·rename_i f r;cases hq;simp only[ft]at hv;obtain⟨z,s,args,u,j⟩:=hv;have e:=lX m b s;obtain⟨xs,v⟩:∃xs,xs=c.args.map a.eval:=⟨_,rfl⟩
   have k:=Cz b u;generalize x:a.eval f=xv at e;unfold Yu at j;split at j
   ·rename_i g first l
    cases j
    cases e with
    | func _ _ _ a' c' y hc=>
      refine⟨{target:= .fn (.func g) c',args:=a'++c.args.map a.eval},λw=>?_,⟨b.size,λi=>?_,?_⟩⟩
      ·have A:(resolve a.eval c o.type).run P0 w = .ok {target:= .fn (.func g) c',args:=a'++c.args.map a.eval} w:=by
         unfold resolve;rw[r];simp only[x];rfl
       simp_all[execOp,yo,wT]
      ·rw[W4];exact b.rel i
      ·rw[Tm.zbQ]
       refine .cons _ _ _ _ _ _ ?_ b.ds;simp only[Array.toList_append,M6,Array.toList_map];exact y.append (k.append hc)
   ·cases j
  ·cases hq
 ·cases hq
theorem zbb{call:Call} (hc:xk call) {ops:Array Oper} {i:Nat} {o:Oper} (hi:ops[i]? =some o) {c:SF} {K:Act->World->Prop} {Q:Exit->Act->World->Prop}
  (l:WR Δ h w) (e:TR Δ n t a) {r:Tm×Hp} (hv:(KK n ops.toList o c).f call t h=some r)
  (m:∀t' h' s a' w',c.f call t' h' = some r->Db Δ h w n t' h' s a' w'->K a' w'):wpOp P0 ops Q i K a w:=by
 unfold KK at hv;unfold wpOp;simp only[hi]
 cases hdst:zL n o with
 |none=>simp only[hdst]at hv;cases hv
 | some d=>
   simp only[hdst]at hv;have y:∀x,oB ((JE o).f call t h) (λr=>c.f call (d.f t r.1) r.2)=some x->x=r->o.wp P0 a w K Q:=by
     intro x u p;subst p;rw[ft]at u;obtain⟨⟨v,h'⟩,j,k⟩:=u;exact PJ hc l e j λs x w' z=>m _ _ _ _ _ k (Db.put e hdst z)
   cases hg:lL n ops.toList o with
   | none=>
     simp only[hg]at hv;rw[if_pos (Qg hg _)]
     cases hq:A2 o with
     |none=>grind
     | some q=>
       simp only[hq,ft]at hv;obtain⟨C,j,k⟩:=hv;obtain⟨D,A,B⟩:=ZZ l e hq j;refine .inl ?_;unfold Oper.wp;rw[A w,Oper.upon_defer]
       exact m _ _ _ _ _ k (Db.put B hdst ⟨.undef Δ,l,.refl _ _,.refl _ _⟩)
   | some g=>
     simp only[hg,ft]at hv;obtain⟨b,j,k⟩:=hv;rw[PH e hg j]
     cases b with
     |true=>simp_all
     |false=>exact m _ _ _ _ _ k (Db.put e hdst ⟨.undef Δ,l,.refl _ _,.refl _ _⟩)
theorem Qs{call:Call} (hc:xk call) {ops:Array Oper} {Q:Exit->Act->World->Prop}:∀(l:List Oper) (k:Nat),l=ops.toList.drop k->∀{Δ:Env} {h:Hp} {w:World} {t:Tm} {a:Act},
  WR Δ h w->TR Δ n t a->∀{r:Tm×Hp},(uX n ops.toList l).f call t h=some r->(∀d a' w',Db Δ h w n r.1 r.2 d a' w'->Q .normal a' w')->
  wpOps P0 ops Q (List.range' k l.length) a w
 | [],k,hl,Δ,h,w,t,a,hW,hT,r,hv,hQ=>by
   cases hv
   exact hQ _ _ _ (.start hT hW)
 | o ::l,k,hl,Δ,h,w,t,a,hW,hT,r,hv,hQ=>by
   have hk:ops[k]? =some o:=by
     have:(ops.toList.drop k)[0]? =some o:=by rw[<-hl];rfl
     rw[wBW,wBw]at this;simpa using this
   have b:l=ops.toList.drop (k+1):=by
     rw[<-wBg,<-hl];rfl
   rw[Rb,List.range'_succ,wpOps_cons];refine zbb hc hk hW hT hv λt' h' d a' w' e c=>?_;exact Qs hc l (k+1) b c.world c.tmps e λg i j m=>hQ _ _ _ (c.trans m)
end
def GS(c:Code) (Q:Exit->Act->World->Prop) (a:Act) (w:World):Prop:=∀(b:Frame) (k:List Item) (cs:List Frame),∃e a' w',Q e a' w'/\Arrives P0 (lone (b.at a (.code c:: .inLoop c::k)) cs w) b k cs e a' w'
theorem GS.round{c:Code} {Q:Exit->Act->World->Prop} {a:Act} {w:World} (h:c.wp P0 (Exit.then (GS c Q) Q) a w):GS c Q a w:=by
 intro b k cs;obtain⟨e,g,i,hq,d⟩:=h b (.inLoop c::k) cs
 cases e with
 | normal=>
   obtain⟨m,n,o,j,f⟩:=hq b k cs
   exact⟨m,n,o,j,.of_steps (Steps.trans d (.one step_inLoop)) f⟩
 |exit id=>exact⟨_,g,i,hq,.pass (x:= .inLoop c) rfl (by simp_all) d⟩
 |goto l=>exact⟨_,g,i,hq,.pass (x:= .inLoop c) rfl (by simp_all) d⟩
 |ret=>exact⟨_,g,i,hq,.pass (x:= .inLoop c) rfl (by simp_all) d⟩
 |panic ch=>exact⟨_,g,i,hq,.pass (x:= .inLoop c) rfl (by simp_all) d⟩
 |outgrown=>exact⟨_,g,i,hq,.pass (x:= .inLoop c) rfl (by simp_all) d⟩
theorem GS.wp{c:Code} {Q:Exit->Act->World->Prop} {a:Act} {w:World} (h:GS c Q a w):(Code.loop c).wp P0 Q a w:=
 λb k cs=>let⟨e,a',w',q,r⟩:=h b k cs;⟨e,a',w',q,.of_steps (.one step_loop) r⟩
def Alike(t t':Tm)(x:Operand):Prop:=(OY x).f t=(OY x).f t'
theorem JG{t t':Tm} {l:List Operand} (h:∀d,d∈CU l->ki t d=ki t' d):∀x∈l,Alike t t' x:=by
 induction l with
 |nil=>simp_all
 | cons y l b=>
   intro x a
   cases a with
   | head=>
     unfold Alike
     cases y <;> grind[ki,CU,OY]
   | tail _ a=>
     refine b (λd c=>h d ?_) x a;cases y <;> simp[CU,c]
section
variable{t t':Tm}{h:Hp}
theorem gU{x:Operand} (a:Alike t t' x):(uf x).f t h=(uf x).f t' h:=by
 unfold Alike at a;cases x <;> grind[uf]
theorem yY:∀{l:List Operand},(∀x∈l,Alike t t' x)->KA t l=KA t' l
 |[],_=>rfl
 | x::l,hl=>by
   have a:(OY x).f t=(OY x).f t':=hl x (by simp);simp only[KA,a,yY (l:=l) (by simp_all)]
theorem CQ:∀{l:List (Nat×Operand)},(∀x∈l,Alike t t' x.2)->ve t l=ve t' l
 |[],_=>rfl
 | x::l,hl=>by
   have a:(OY x.2).f t=(OY x.2).f t':=hl x (by simp);simp only[ve,a,CQ (l:=l) (by grind)]
theorem Um{x:Option Operand} (a:∀y,x=some y->Alike t t' y):KB x t h=KB x t' h:=by
 cases x with
 |none=>rfl
 |some y=>simp only[KB,gU (a y rfl)]
theorem TT{ty:Nat} {p:PF} (hp:p.f t h=p.f t' h):(Mh ty p).f t h=(Mh ty p).f t' h:=by
 grind[Mh]
theorem Ua{a b:Nat} {p:PF} (hp:p.f t h=p.f t' h):(Mu a b p).f t h=(Mu a b p).f t' h:=by
 grind[Mu]
theorem L3{a b:Nat} {p:PF} (hp:p.f t h=p.f t' h):(rk a p b).f t h=(rk a p b).f t' h:=by
 grind[rk]
theorem Re{a b:Nat} {p:PF} (hp:p.f t h=p.f t' h):(JB a p b).f t h=(JB a p b).f t' h:=by
 grind[JB]
theorem LB{a:Nat} {p q:PF} (hp:p.f t h=p.f t' h) (hq:q.f t h=q.f t' h):(rG a p q).f t h=(rG a p q).f t' h:=by
 grind[rG]
theorem Q5{a:Nat} {p q:PF} (hp:p.f t h=p.f t' h) (hq:q.f t h=q.f t' h):(JO a p q).f t h=(JO a p q).f t' h:=by
 grind[JO]
theorem QJ{a:Nat} {p:PF} {lo hi:Option Operand} (hp:p.f t h=p.f t' h) (b:KB lo t h=KB lo t' h) (c:KB hi t h=KB hi t' h) :
  (Lm a p lo hi).f t h=(Lm a p lo hi).f t' h:=by
 grind[Lm]
theorem Pg{a:Nat} {p q:PF} {ok:Bool} (hp:p.f t h=p.f t' h) (hq:q.f t h=q.f t' h):(Ih a p q ok).f t h=(Ih a p q ok).f t' h:=by
 grind[Ih]
theorem Va{a:Nat} {p:PF} (hp:p.f t h=p.f t' h):(hlen a p).f t h=(hlen a p).f t' h:=by
 grind[hlen]
theorem Px{a:Nat} {p:PF} {ok:Bool} (hp:p.f t h=p.f t' h):(HY p a ok).f t h=(HY p a ok).f t' h:=by
 grind[HY]
theorem SR{c p q:PF} (hc:c.f t h=c.f t' h) (hp:p.f t h=p.f t' h) (hq:q.f t h=q.f t' h):(Mf c p q).f t h=(Mf c p q).f t' h:=by
 grind[Mf]
theorem QA{a:Nat} {ps:List (Nat×Operand)} (hp:ve t ps=ve t' ps):(JS a ps).f t h=(JS a ps).f t' h:=by
 unfold JS;grind
theorem JF{o:Oper} (g:∀x∈o.op.operands.toList,Alike t t' x):(iY o).f t h=(iY o).f t' h:=by
 obtain⟨dst,op,ty,pos,af,gd⟩:=o;cases op <;> simp only[iY] <;> simp only[Op.operands]at g
 case move x=>grind[gU]
 case assign x=>grind[gU]
 case pick c a b=>exact SR (by grind[gU]) (by grind[gU]) (by grind[gU])
 case load ty a=>grind[TT,gU]
 case nilCheck x=>grind[AS,gU]
 case binOp op xt x y b=>grind[gU]
 case unOp op b x=>grind[gU]
 case convert s d x=>grind[Ua,gU]
 case build ty ps=>grind[QA,CQ]
 case makeFunc fn first caps=>
  cases fn with
  |func f=>grind[yY]
  |_=>rfl
 case slice ty x lo hi mx=>
  cases mx with
  |none=>grind[QJ,gU,Um]
  |some _=>rfl
 case fieldAddr s x f=>grind[L3,gU]
 case field s x f=>grind[Re,gU]
 case indexAddr ty x i=>grind[LB,gU]
 case index ty x i=>grind[Q5,gU]
 case lookup ty m k ok=>grind[Pg,gU]
 case extract x i=>grind[Hn,gU]
 case makeInterface ty x=>
  split
  ·grind[gU]
  ·rfl
 case typeAssert x b asserted ok=>grind[Px,gU]
 case call c=>
  obtain⟨e,args,j⟩:=c
  cases e with
  | builtin b=>
    have l:∀x∈args.toList,Alike t t' x:=by grind[Call.operands]
    cases b <;> simp only
    case len=>
      split
      ·grind[Va,gU]
      ·rfl
    case min=>grind[yY]
    case max=>grind[yY]
    all_goals rfl
  |_=>rfl
 all_goals rfl
theorem Qc{x:Operand}(a:Alike t t' x):(OY x).f t=(OY x).f t':=a
theorem Mp{o:Oper} (a:∀x∈o.op.operands.toList,Alike t t' x):(qQ o).f t=(qQ o).f t':=by
 obtain⟨dst,op,ty,pos,af,gd⟩:=o;cases op <;> simp only[qQ] <;> simp only[Op.operands]at a
 case alloc e=>split <;> rfl
 case box e x=>grind[Qc]
 case buildSlice ty len parts=>
  (repeat' split) <;> first
   |rfl
   |grind[Ho,CQ]
 case makeSlice ty n c=>
  (repeat' split) <;> first
   |rfl
   |grind[Qc]
 case makeMap ty r=>
  cases r with
  |none=>simp only;split <;> rfl
  |some _=>rfl
 all_goals rfl
theorem TE{o:Oper} (j:∀x∈o.op.operands.toList,Alike t t' x):(kJ o).f t h=(kJ o).f t' h:=by
 obtain⟨dst,op,ty,pos,af,gd⟩:=o;cases op <;> simp only[kJ] <;> simp only[Op.operands]at j
 case store ty a x=>
  split
  ·grind[gU]
  ·rfl
 case mapUpdate ty m k x=>
  (repeat' split) <;> first
   |rfl
   |grind[gU]
 case insert ty m k x=>
  (repeat' split) <;> first
   |rfl
   |grind[gU]
 case range ty x=>
  split
  ·grind[gU]
  ·rfl
 case next x isS=>
  cases isS with
  |true=>rfl
  |false=>grind[gU]
 case entry x=>grind[gU]
 case convert s d x=>
  (repeat' split) <;> first
   |rfl
   |grind[gU]
 case call c=>
  obtain⟨g,args,l⟩:=c
  cases g with
  | builtin b=>
    have n:∀x∈args.toList,Alike t t' x:=by grind[Call.operands]
    cases b <;> simp only
    case append=>
      split
      ·rename_i s x i xT e _
       (repeat' split) <;> first
         |rfl
         |grind[gU]
      ·rfl
    case copy=>
      split
      ·rename_i s x i xT e _
       (repeat' split) <;> first
         |rfl
         |grind[gU]
      ·rfl
    case delete=>
      split
      ·rename_i s x i xT e _
       (repeat' split) <;> first
         |rfl
         |grind[gU]
      ·rfl
    all_goals rfl
  | value f=>
    grind[Alike,Call.operands,gU,yY]
  | invoke r m=>
    grind[Alike,Call.operands,gU,yY]
 all_goals rfl
theorem NT{call:Call} {o:Oper} (a:∀x∈o.op.operands.toList,Alike t t' x):(JE o).f call t h=(JE o).f call t' h:=by
 grind[JE,JF,Mp,TE]
end
theorem DR:∀(l:List Oper) (i:Nat) (b:List Nat) (k:Nat) (a:It),(items l i b)[k]? =some a->a.i=i+k/\l[k]? =some a.o
 |[],i,b,k,a,h=>by grind[items]
 |o::os,i,b,0,a,h=>by simp[items]at h;grind
 | o::os,i,b,k+1,a,h=>by
   simp only[items,wBb]at h;obtain⟨c,d⟩:=DR os (i+1) _ k a h
   grind
theorem K5:∀(l:List Oper) (i:Nat) (a:List Nat),(items l i a).length=l.length
 |[],i,a=>rfl
 |o::os,i,a=>by simp[items,K5 os]
theorem Dc(a:List Nat) (x:Nat):∀(b:List Edge) (m:Nat),(Ob a b m).testBit x=true->m.testBit x=true\/∃e∈b,Oy e=true/\(x=e.on\/(a[e.on]?.getD 0).testBit x=true)
 |[],m,h=> .inl h
 | e ::b,m,h=>by
   simp only[Ob]at h;split at h
   ·rename_i g
    rcases Dc a x b _ h with c|⟨e',f,d,c⟩
    ·grind
    grind
   ·rcases Dc a x b _ h with c|⟨e',f,d,c⟩
    ·simp_all
    grind
theorem WE:∀(l:List Oper) (i:Nat) (c:List Nat) (k:Nat) (a:It),(items l i c)[k]? =some a->
  a.b=Ob (c++((items l i c).take k).map (·.b)) a.o.after.toList 0
 |[],i,c,k,a,h=>by grind[items]
 |o::os,i,c,0,a,h=>by grind[items]
 | o::os,i,c,k+1,a,h=>by
   simp only[items,wBb]at h;have:=WE os (i+1) _ k a h
   grind[items,M6]
theorem N4{l:List Oper} {k:Nat} {a:It} (h:(items l 0 [])[k]? =some a) {x:Nat} (d:a.b.testBit x=true) :
  ∃e∈a.o.after.toList,Oy e=true/\(x=e.on\/∃y,(items l 0 [])[e.on]? =some y/\y.b.testBit x=true):=by
 rw[WE l 0 [] k a h]at d;rcases Dc _ x _ _ d with c|⟨e,f,g,c⟩
 ·simp_all
 ·refine ⟨e,f,g,?_⟩;rcases c with c|c
  ·omega
  ·right;rw[O7,AX,List.getElem?_take]at c
   grind
theorem HS(e:Edge):Region.binds .any e=Oy e:=by
 rfl
def qR(val:Nat->V)(D:Nat->Bool)(d:Nat)(kM:List It)(b:V):V:=kM.foldl (λv a=>if D a.i=true/\a.o.dst=some d then val a.i else v) b
theorem rI{val Pp:Nat->V} {D D':Nat->Bool} {d:Nat} {kM:List It} (c:∀a∈kM,a.o.dst=some d->D a.i=D' a.i) (e:∀a∈kM,a.o.dst=some d->D a.i=true->val a.i=Pp a.i) (b:V) :
  qR val D d kM b=qR Pp D' d kM b:=by
 unfold qR
 induction kM generalizing b <;> grind
theorem JR{val:Nat->V} {D:Nat->Bool} {d:Nat} {kM:List It} (h:∀a∈kM,a.o.dst=some d->D a.i=false) (b:V):qR val D d kM b=b:=by
 unfold qR
 induction kM generalizing b <;> grind
theorem Xz{val:Nat->V} {D:Nat->Bool} {d:Nat} {kM:List It} (e:∀(k:Nat) (x:It),kM[k]? =some x->x.i=k) {a:It} (g:a∈kM) (j:a.o.dst=some d) (l:D a.i=true)
  (h:∀x∈kM,a.i<x.i->x.o.dst=some d->D x.i=false) (m:V):qR val D d kM m=val a.i:=by
 obtain⟨k,hk⟩:=nT.1 g;have n:=e k a hk;have f:k<kM.length:=by grind
 have b:kM=kM.take k++a::kM.drop (k+1):=by
  have p:kM.drop k=a::kM.drop (k+1):=by
   rw[Yq f];rw[hO f]at hk;cases hk;rfl
  rw[<-p,Zb]
 have c:∀x∈kM.drop (k+1),x.o.dst=some d->D x.i=false:=by
  intro x r s;obtain⟨q,hq⟩:=nT.1 r;rw[wBW]at hq;have:=e _ x hq;exact by grind
 unfold qR;rw[b,List.foldl_append,List.foldl_cons,if_pos ⟨l,j⟩];exact JR c _
def Eg(h h':Hp):Prop:=h.next<=h'.next/\∀l,l<h.next->h'.get l=h.get l
theorem Eg.refl(h:Hp):Eg h h:=⟨ju _,λ_ _=>rfl⟩
theorem Eg.trans{h h' c:Hp}(a:Eg h h')(b:Eg h' c):Eg h c:=⟨Ix a.1 b.1,λl d=>by rw[b.2 l (ET d a.1),a.2 l d]⟩
theorem Eg.new(h:Hp)(o:O):Eg h (h.new o):=⟨PT _,by simp_all[xz,if_neg,Nat.ne_of_gt]⟩
theorem WR.Qz{Δ:Env} {h h':Hp} {w:World} (a:WR Δ h w) (b:Eg h h'):WR Δ h' w where
 fresh:=λl d f=>ET (a.fresh l d f) b.1
 nV:=a.nV
 obj:=λl d f=>by rw[b.2 l (a.fresh l d f)];exact a.obj l d f
 apart:=λm i e e' p r k n j o q=>by
  rw[b.2 m (a.fresh m e k)]at o;rw[b.2 i (a.fresh i e' n)]at q;exact a.apart m i e e' p r k n j o q
 Jq:=λg p c hp=>by
  rw[b.2 g (ET c a.An)]at hp;exact a.Jq g p c hp
 An:=Ix a.An b.1
 Wj:=a.Wj
theorem O.eq_of_beq{a b:O} (h:O.beq a b=true):a=b:=by
 unfold O.beq at h;split at h
 ·simp only[yl,IE]at h;obtain⟨⟨⟨⟨rfl,rfl⟩,rfl⟩,rfl⟩,c⟩:=h
  grind[V.zd]
 ·simp_all
 ·cases h
structure Tc where
 on:Nat->Bool
 val:Nat->V
 tt:Nat->Tm
 ep:Nat->Nat
 pl:Nat->Nat
 ob:Nat->O
 H:Nat->Hp
 G:Nat->Hp
def Bb(kM:List It)(D:Nat->Bool):Prop:=∀a∈kM,D a.i=true->∀x∈kM,a.b.testBit x.i=true->D x.i=true
section
variable (n:Nat)(all:List Oper)(kM ws:List It)(call:Call)(t0:Tm)(h0:Hp)
structure NL (T:Tc) (D:Nat->Bool) (a:It):Prop where
 fresh:D a.i=false
 closed:Bb kM D
 eQ:∀x∈kM,a.b.testBit x.i=true->D x.i=true
 ql:∀d,ki (T.tt a.i) d=qR T.val D d kM (ki t0 d)
 dst:∃d,zL n a.o=some d
 qz:qz n all a.o (T.tt a.i)=some (T.on a.i)
 off:T.on a.i=false->T.val a.i = .undef
 epw:cls a.o≠2->Na ws a (T.ep a.i)=true
 epl:T.ep a.i<=ws.length
 pure:cls a.o=0->T.on a.i=true->∀j,T.ep a.i<=j->j<=ws.length->j<=late ws a->(iY a.o).f (T.tt a.i) (T.H j)=some (T.val a.i)
 alloc:cls a.o=1->T.on a.i=true->(∃mk,(qQ a.o).f (T.tt a.i)=some (T.ob a.i,mk)/\T.val a.i=mk (T.pl a.i))/\
  (∀j,T.ep a.i<=j->j<=ws.length->T.pl a.i<(T.H j).next/\(j<=late ws a->(T.H j).get (T.pl a.i)=some (T.ob a.i)))/\
  (∀j,j<T.ep a.i->(T.G j).next<=T.pl a.i)/\h0.next<=T.pl a.i
 write:cls a.o=2->isW ws a (T.ep a.i)=true/\(T.on a.i=true->(JE a.o).f call (T.tt a.i) (T.H (T.ep a.i))=some (T.val a.i,T.G (T.ep a.i)))/\
  (T.on a.i=false->T.G (T.ep a.i)=T.H (T.ep a.i))
structure uZ (l:List It) (m k:Nat) (h:Hp) (rs:List Rec) (r:Tm×Hp) (b T:Tc):Prop where
 same:∀i,m.testBit i=true->T.on i=b.on i/\T.val i=b.val i/\T.tt i=b.tt i/\T.ep i=b.ep i/\T.pl i=b.pl i/\T.ob i=b.ob i
 V0:∀j,j<k->T.H j=b.H j/\T.G j=b.G j
 item:∀a∈l,∃D,NL n all kM ws call t0 h0 T D a
 EY:∀r∈rs,∀j,k<=j->j<=ws.length->r.last<j\/AI (T.H j) r=true
 more:Eg h (T.H k)
 chain:∀j,k<=j->j<ws.length->(T.H j).next<=(T.G j).next/\Eg (T.G j) (T.H (j+1))
 Xd:∀a∈l,cls a.o=1->T.on a.i=true->h.next<=T.pl a.i
 Wn:∀a∈l,∀a'∈l,cls a.o=1->cls a'.o=1->T.on a.i=true->T.on a'.i=true->a.i≠a'.i->T.pl a.i≠T.pl a'.i
 last:r.2=T.H ws.length
 ql:∀d,ki r.1 d=qR T.val (λ_=>true) d kM (ki t0 d)
 done:∀a∈kM,m.testBit a.i=true\/a.i∈l.map (·.i)
 kle:k<=ws.length
end
theorem GO{ws:List It} {T:Tc} {k:Nat} (h:∀j,k<=j->j<ws.length->(T.H j).next<=(T.G j).next/\Eg (T.G j) (T.H (j+1))):∀(m j:Nat),j=k+m->j<=ws.length->(T.H k).next<=(T.H j).next:=by
 intro m
 induction m with
 |zero=>simp_all
 | succ m b=>
   intro j g c;obtain⟨a,rfl⟩:∃a,j=a+1:=⟨j-1,by omega⟩
   have d:=b a (by omega) (by omega);obtain⟨e,f⟩:=h a (by omega) (by omega);exact Ix d (Ix e f.1)
theorem YP(m i x:Nat):(m |||2 ^ i).testBit x=(m.testBit x ||decide (i=x)):=by grind
theorem Mz{l:List It} (h:rY l=true):∀(i j:Nat) (a b:It),i<j->l[i]? =some a->l[j]? =some b->Rm a b=true:=by
 induction l with
 |nil=>simp_all
 | cons x l d=>
   intro i j a b c e f;simp only[rY,yl]at h
   grind
theorem Qq{kM:List It} (c:∀(k:Nat) (x:It),kM[k]? =some x->x.i=k) (hp:rY kM=true) {a x:It} (h:a∈kM) (l:x∈kM) {d:Nat} (m:d∈qI a.o) (e:x.o.dst=some d) :
  (x.i<a.i->a.b.testBit x.i=true)/\(a.i<x.i->x.b.testBit a.i=true):=by
 obtain⟨i,hi⟩:=nT.1 h;obtain⟨j,f⟩:=nT.1 l;have n:=c i a hi;have p:=c j x f;have q:writes x.o (qI a.o)=true:=by simp[writes,e,m]
 constructor
 ·intro g;have:=Mz hp j i x a (by omega) f hi
  grind[Rm]
 ·intro g;have:=Mz hp i j a x (by omega) hi f
  grind[Rm]
theorem Yh{o:Oper}{d:Nat}(h:o.dst=some d):d∈qI o:=by simp[qI,h]
theorem JN{kM:List It} (e:∀(k:Nat) (x:It),kM[k]? =some x->x.i=k) (hp:rY kM=true) {a:It} (f:a∈kM) {D D':Nat->Bool} (p:Bb kM D) (g:Bb kM D')
  (s:∀x∈kM,a.b.testBit x.i=true->D x.i=true) (q:∀x∈kM,a.b.testBit x.i=true->D' x.i=true) (n:D a.i=false) (c:D' a.i=false) {d:Nat} (r:d∈qI a.o) (val:Nat->V) (j:V) :
  qR val D d kM j=qR val D' d kM j:=by
 refine rI (λx l m=>?_) (by simp_all) j;obtain⟨p1,p2⟩:=Qq e hp f l r m;rcases wB7 x.i a.i with h|h|h
 ·simp_all
 ·simp_all
 ·have t:D x.i=false:=by
   cases hh:D x.i with
   |false=>rfl
   |true=>rw[p x l hh a f (p2 h)]at n;cases n
  have u:D' x.i=false:=by
   cases hh:D' x.i with
   |false=>rfl
   |true=>rw[g x l hh a f (p2 h)]at c;cases c
  simp_all
theorem Ii{kM:List It} (b:∀(k:Nat) (x:It),kM[k]? =some x->x.i=k) (hp:rY kM=true) {a:It} (l:a∈kM) {D D':Nat->Bool} (q:Bb kM D) (p:D a.i=false)
  (f:∀i,D' i=(D i ||decide (a.i=i))) {val Pp:Nat->V} (hv:∀i,D i=true->Pp i=val i) (d:Nat) (m:V) :
  qR Pp D' d kM m=if a.o.dst=some d then Pp a.i else qR val D d kM m:=by
 by_cases hd:a.o.dst=some d
 ·rw[if_pos hd];refine Xz b l hd (by simp_all) (λx g h c=>?_) m;rw[f];have r:a.i≠x.i:=Sp h;have:=(Qq b hp l g (Yh hd) c).2 h
  cases hh:D x.i with
  |false=>simp_all
  |true=>rw[q x g hh a l this]at p;cases p
 ·rw [if_neg hd];refine rI (λx g c=>?_) (λx g c s=>?_) m
  ·rw [f];have:a.i≠x.i:=by
    intro e;obtain⟨i,hi⟩:=nT.1 l;obtain⟨j,n⟩:=nT.1 g;have t:=b i a hi;have u:=b j x n;have:i=j:=by omega
    subst this;rw[hi]at n;cases n;exact hd c
   simp_all
  grind[nT]
def Pj{α:Type}(f:Nat->α)(i:Nat)(v:α):Nat->α:=λj=>if j=i then v else f j
theorem oX{α:Type}(f:Nat->α)(i:Nat)(v:α):Pj f i v i=v:=if_pos rfl
theorem RK{α:Type}(f:Nat->α){i j:Nat}(v:α)(h:j≠i):Pj f i v j=f j:=if_neg h
theorem LQ(o:Oper):cls o=0\/cls o=1\/cls o=2:=by
 unfold cls
 grind
theorem Kq{n:Nat} {o:Oper} {d:DF} (h:zL n o=some d) (t:Tm) (v:V) (i:Nat):ki (d.f t v) i=if o.dst=some i then v else ki t i:=by
 unfold zL at h
 cases ho:o.dst with
 |none=>grind
 | some k=>
   simp only[ho]at h
   cases hk:Nat.blt k n with
   |false=>simp_all
   | true=>
     simp only[hk]at h;cases h;show ki (t.set k v) i=_
     simp_all[OQ,if_pos,if_neg]
theorem zi{n:Nat} {o:Oper} {d:DF} (h:zL n o=some d) (t:Tm) (v:V):(d.f t v).ds=t.ds:=by
 grind[zL,Nat.blt,Tm.YM]
theorem Cm{n:Nat} {all:List Oper} {ws:List It} {call:Call}:∀(l:List It) (k:Nat) {t:Tm} {h:Hp} {rs:List Rec} {r:Tm×Hp},(yX n all ws l k).f call t h rs=some r->r.1.ds=t.ds
 | [],_,t,h,rs,r,hv=>by
   grind[yX,hK]
 | a ::l,k,t,h,rs,r,hv=>by
   unfold yX at hv
   cases hd:zL n a.o with
   |none=>simp_all
   | some d=>
     rw[hd]at hv;simp only at hv;split at hv
     ·simp only[Jo,ft]at hv
      obtain⟨b,_,c⟩:=hv
      cases b with
      |false=>rw[Cm l _ c,zi hd]
      | true=>
        simp only[ft]at c;obtain⟨x,_,e⟩:=c;rw[Cm l _ e,zi hd]
     ·simp only[Hf,ft]at hv
      obtain⟨b,_,c⟩:=hv
      cases b with
      |false=>rw[Cm l _ c,zi hd]
      | true=>
        simp only[ft]at c;obtain⟨x,_,e⟩:=c;rw[Cm l _ e,zi hd]
     ·simp only[C0,ft,hK]at hv
      obtain⟨_,b,_,c⟩:=hv
      cases b with
      |false=>rw[Cm l _ c,zi hd]
      | true=>
        simp only[ft,hK]at c;obtain⟨x,_,_,e⟩:=c;rw[Cm l _ e,zi hd]
section
variable{n:Nat}{all:List Oper}{kM ws:List It}{call:Call}{t0:Tm}{h0:Hp}
theorem uZ.cons{l:List It} {a:It} {m k k':Nat} {h h':Hp} {rs z:List Rec} {r:Tm×Hp} {d T1 T:Tc} (c:uZ n all kM ws call t0 h0 l (m |||2 ^ a.i) k' h' z r T1 T)
  (C:∀i,m.testBit i=true->T1.on i=d.on i/\T1.val i=d.val i/\T1.tt i=d.tt i/\T1.ep i=d.ep i/\T1.pl i=d.pl i/\T1.ob i=d.ob i)
  (J:∀j,j<k->T1.H j=d.H j/\T1.G j=d.G j) (hk:k<=k') (e:∃D,NL n all kM ws call t0 h0 T D a)
  (f:∀r∈rs,∀j,k<=j->j<=ws.length->r.last<j\/AI (T.H j) r=true) (g:Eg h (T.H k))
  (w:∀j,k<=j->j<k'->(T.H j).next<=(T.G j).next/\Eg (T.G j) (T.H (j+1)))
  (v:cls a.o=1->T.on a.i=true->h.next<=T.pl a.i/\T.pl a.i<h'.next) (Ez:h.next<=h'.next) (A:k<=ws.length):uZ n all kM ws call t0 h0 (a::l) m k h rs r d T where
 same:=λi hi=>by
  obtain⟨a1,a2,a3,K,L,M⟩:=c.same i (by simp_all)
  simp_all
 V0:=λj E=>by
  obtain⟨a1,a2⟩:=c.V0 j (by omega)
  simp_all
 item:=λx b=>by
  cases b with
  |head=>exact e
  |tail _ b=>exact c.item x b
 EY:=f
 more:=g
 chain:=λj C F=>by
  by_cases E:j<k'
  ·simp_all
  ·exact c.chain j (by omega) F
 Xd:=λx b hc I=>by
  cases b with
  |head=>simp_all
  |tail _ b=>exact Ix Ez (c.Xd x b hc I)
 Wn:=λx b y u p q s t B=>by
  cases b with
  | head=>
    cases u with
    |head=>omega
    |tail _ u=>have:=(v p s).2;have:=c.Xd y u q t;omega
  | tail _ b=>
    cases u with
    |head=>have:=(v q t).2;have:=c.Xd x b p s;omega
    |tail _ u=>exact c.Wn x b y u p q s t B
 last:=c.last
 ql:=c.ql
 done:=λx b=>by
  rcases c.done x b with h|h
  ·grind
  simp_all
 kle:=A
theorem trace(B:∀(k:Nat) (x:It),kM[k]? =some x->x.i=k) (hp:rY kM=true):∀(l:List It) (m k:Nat) (t:Tm) (h:Hp) (rs:List Rec) (r:Tm×Hp) (s:Tc),
  (∀a∈l,a∈kM)->xK kM ws l m k=true->(yX n all ws l k).f call t h rs=some r->Bb kM m.testBit->(∀d,ki t d=qR s.val m.testBit d kM (ki t0 d))->
  h0.next<=h.next->(∀j,j<k->(s.G j).next<=h.next)->k<=ws.length->∃T,uZ n all kM ws call t0 h0 l m k h rs r s T
 | [],m,k,t,h,rs,r,s,XK,c,hv,hcl,ht,hn0,hG,hkl=>by
   simp only[xK,yl]at c;obtain⟨ag,hk⟩:=c;have ak:k=ws.length:=CI hk;simp only[yX,hK]at hv;obtain⟨W,hv⟩:=hv;cases hv;refine⟨{s with H:=Pj s.H k h},⟨by simp_all,λj M=>⟨by grind[RK],rfl⟩,by simp_all,?_,?_,by omega,by simp_all,by simp_all,?_,?_,?_,hkl⟩⟩
   ·intro q hq j X h2
    have:j=k:=by omega
    simp_all[AI,Pj,oX,CY,RU,RC,Q8]
   ·grind[Eg,Pj,oX]
   ·grind[Pj,oX]
   ·intro d
    rw[ht d];refine rI (λa ha _=>?_) (by simp_all) _
    simp_all
   simp_all
 | a ::l,m,k,t,h,rs,r,s,XK,c,hv,hcl,ht,hn0,hG,hkl=>by
   have ha:a∈kM:=by simp_all
   have w:∀x∈l,x∈kM:=by simp_all
   simp only[xK,yl,wBi]at c;obtain⟨C,al,c⟩:=c;have u:∀x∈kM,a.b.testBit x.i=true->m.testBit x.i=true:=by grind
   have z:Bb kM (m |||2 ^ a.i).testBit:=λx hx A y hy hb=>by
     rw[YP]at A⊢;simp only[RC,A4]at A;rcases A with A|A
     ·rw[hcl x hx A y hy hb];rfl
     grind[nT]
   simp only[yX]at hv
   cases hd:zL n a.o with
   |none=>simp_all
   | some d =>
     simp only[hd]at hv
     let T1:Bool->V->Nat->O->(Nat->Hp)->(Nat->Hp)->Tc:=λb v p ob H G=>⟨Pj s.on a.i b,Pj s.val a.i v,Pj s.tt a.i t,Pj s.ep a.i k,Pj s.pl a.i p,Pj s.ob a.i ob,H,G⟩
     have X:∀b v p ob H G,∀i,m.testBit i=true->(T1 b v p ob H G).on i=s.on i/\(T1 b v p ob H G).val i=s.val i/\(T1 b v p ob H G).tt i=s.tt i/\(T1 b v p ob H G).ep i=s.ep i/\
        (T1 b v p ob H G).pl i=s.pl i/\(T1 b v p ob H G).ob i=s.ob i:=by grind[RK]
     have D:∀b v p ob H G,∀d',ki (d.f t v) d' = qR (T1 b v p ob H G).val (m |||2 ^ a.i).testBit d' kM (ki t0 d'):=by grind[Kq,Ii,YP,ki,Pj,oX]
     have self:∀{b v p ob H G l' k' h' P T},uZ n all kM ws call t0 h0 l' (m |||2 ^ a.i) k' h' P r (T1 b v p ob H G) T->
        T.on a.i=b/\T.val a.i=v/\T.tt a.i=t/\T.ep a.i=k/\T.pl a.i=p/\T.ob a.i=ob/\(∀d',ki (T.tt a.i) d' = qR T.val m.testBit d' kM (ki t0 d')):=λ{b v p ob H G l' k' h' P T} g=>by
       obtain⟨a1,a2,a3,a4,a5,a6⟩:=g.same a.i (by simp_all);refine⟨a1.trans (oX _ _ _),a2.trans (oX _ _ _),a3.trans (oX _ _ _),a4.trans (oX _ _ _),a5.trans (oX _ _ _),a6.trans (oX _ _ _),λd'=>?_⟩;rw[a3.trans (oX _ _ _),ht d'];refine(rI (by simp_all) (λx hx _ Y=>?_) _).symm;rw[(g.same x.i (by simp_all)).2.1,(X b v p ob H G x.i Y).2.1]
     rcases LQ a.o with hc|hc|hc
     ·
       have E:Nat.beq (cls a.o) 2=false:=by rw[hc];rfl
       rw[E]at c;simp only[yl]at c;obtain⟨F,c⟩:=c;rw[hc]at hv;simp only[Jo,ft]at hv;obtain⟨b,Z,hv⟩:=hv
       cases b with
       | false=>
         obtain⟨T,g⟩:=trace B hp l _ k _ h rs r (T1 false .undef 0 default s.H s.G) w c hv z (D _ _ _ _ _ _) hn0 hG hkl;obtain⟨S,N,U,s4,J,Q,I⟩:=self g
         refine ⟨T,g.cons (by simp_all) (by grind) (ju _) ⟨m.testBit,C,hcl,u,I,⟨d,hd⟩,by simp_all,λ_=>N,by simp_all,by omega,
           by simp_all,by omega,by omega⟩ g.EY g.more (by omega) (by omega) (ju _) hkl⟩
       | true=>
         simp only[ft]at hv;obtain⟨v,aa,hv⟩:=hv;obtain⟨T,g⟩:=trace B hp l _ k _ h _ r (T1 true v 0 default s.H s.G) w c hv z (D _ _ _ _ _ _) hn0 hG hkl;obtain⟨S,N,U,s4,J,Q,I⟩:=self g
         refine ⟨T,g.cons (by simp_all) (by grind) (ju _) ⟨m.testBit,C,hcl,u,I,⟨d,hd⟩,by simp_all,by simp_all,by simp_all,by omega,
           λ_ _ j K L j3=>?_,by omega,by omega⟩ (λq hq=>g.EY q (by simp[hq])) g.more (by omega) (by omega) (ju _) hkl⟩
         rw[s4]at K;rcases g.EY _ (wBM ..) j K L with ab|hh
         ·grind
         grind[AI,V.eq_of_beq]
     ·
       have E:Nat.beq (cls a.o) 2=false:=by rw[hc];rfl
       rw[E]at c;simp only[yl]at c;obtain⟨F,c⟩:=c;rw[hc]at hv;simp only[Hf,ft]at hv;obtain⟨b,Z,hv⟩:=hv
       cases b with
       | false=>
         obtain⟨T,g⟩:=trace B hp l _ k _ h rs r (T1 false .undef 0 default s.H s.G) w c hv z (D _ _ _ _ _ _) hn0 hG hkl;obtain⟨S,N,U,s4,J,Q,I⟩:=self g
         refine ⟨T,g.cons (by simp_all) (by grind) (ju _) ⟨m.testBit,C,hcl,u,I,⟨d,hd⟩,by simp_all,λ_=>N,by simp_all,by omega,
           by omega,by simp_all,by omega⟩ g.EY g.more (by omega) (by simp_all) (ju _) hkl⟩
       | true=>
         simp only[ft]at hv;obtain⟨⟨ob,mk⟩,aa,hv⟩:=hv;obtain⟨T,g⟩:=trace B hp l _ k _ _ _ r (T1 true (mk h.next) h.next ob s.H s.G) w c hv z (D _ _ _ _ _ _) (wBL hn0) (λj M=>wBL (hG j M)) hkl;obtain⟨S,N,U,s4,J,Q,I⟩:=self g
         refine ⟨T,g.cons (by simp_all) (by grind) (ju _) ⟨m.testBit,C,hcl,u,I,⟨d,hd⟩,by simp_all,by simp_all,by simp_all,by omega,
           by omega,λ_ _=>⟨by simp_all,λj K L=>?_,λj M=>?_,by omega⟩,by omega⟩
           (λq hq=>g.EY q (by simp[hq])) ((Eg.new h ob).trans g.more) (by omega) (λ_ _=>by rw[J];exact⟨ju _,Pv _⟩) (PT _) hkl⟩
         ·rw[s4]at K
          rw[J,Q];refine⟨?_,λj3=>?_⟩
          ·have e1:(h.new ob).next<=(T.H k).next:=g.more.1
           have e2:=GO g.chain (j-k) j (by omega) L;have:h.next<(h.new ob).next:=Pv _;omega
          ·rcases g.EY _ (wBM ..) j K L with ab|hh
           ·grind
           grind[AI,O.eq_of_beq]
         ·rw[s4]at M
          rw[J,(g.V0 j M).2]
          grind
     ·
       have E:Nat.beq (cls a.o) 2=true:=by rw[hc];rfl
       rw[E]at c;simp only[yl]at c;obtain⟨F,c⟩:=c;have ac:k<ws.length:=by
        unfold isW at F;split at F
        ·grind
        ·cases F
       rw[hc]at hv;simp only[C0,hK,ft]at hv;obtain⟨W,b,Z,hv⟩:=hv;have ah:∀q∈rs,q.last<k\/AI h q=true:=by simp_all[CY,RU,RC,Q8]
       have ai:∀(b:Bool) (v:V) (h':Hp),qz n all a.o t=some b->(yX n all ws l (Nat.succ k)).f call (d.f t v) h' rs=some r->h.next<=h'.next->(b=false->v = .undef/\h' = h)->
         (b=true->(JE a.o).f call t h=some (v,h'))->∃T,uZ n all kM ws call t0 h0 (a::l) m k h rs r s T:=by
         intro b v h' Z hv hn aj am
         obtain ⟨T,g⟩:=trace B hp l _ (k+1) _ h' rs r (T1 b v 0 default (Pj s.H k h) (Pj s.G k h')) w c hv z (D _ _ _ _ _ _) (by omega)
           (fun j M=>by
             by_cases e:j=k
             ·subst e;show(Pj s.G j h' j).next<=_;simp_all[oX,ju]
             grind[Pj,RK,Ix]) ac
         obtain⟨S,N,U,s4,J,Q,I⟩:=self g;obtain⟨g1,g2⟩:=g.V0 k (Pv _);have R:T.H k=h:=g1.trans (oX _ _ _);have ae:T.G k=h':=g2.trans (oX _ _ _)
         refine ⟨T,g.cons (X _ _ _ _ _ _) (by grind[RK]) (PT _) ⟨m.testBit,C,hcl,u,I,⟨d,hd⟩,by grind,
           by grind,by omega,by omega,by omega,by omega,
           λ_=>⟨by grind,λho=>?_,λho=>?_⟩⟩ (λq hq j K L=>?_) (by rw[R];exact .refl h) (λj K L=>?_) (by omega) hn hkl⟩
         ·grind
         ·grind
         ·by_cases e:j=k
          ·grind
          ·exact g.EY q hq j (by omega) L
         ·have:j=k:=by omega
          subst this;rw[R,ae];exact⟨hn,g.more⟩
       cases b with
       |false=>grind
       | true=>
         grind[ft,hK,K7]
end
