/- Parts. -/
import Derived.Test.YtkpicojjjifmgabGreatDoorM03
set_option maxHeartbeats 4000000
namespace Go.Proofs.YtkpicojjjifmgabGreatDoor.Hx
def xe(call:Call):Prop:=∀(f:Nat) (args:List V) (v:V) (h h':Hp) (Δ:Env) (w:World) (gW:Array Value),call f args h=some (v,h')->WR Δ h w->gQ Δ args gW.toList-> (∃x,(callFunc f gW).run P0 w = .ok (.value x) w/\zX Δ h w v h' Δ x w)\/ ((callFunc f gW).run P0 w = .ok (.enter f gW) w/\Calls P0 f gW w λe w'=>∃a x,e = .returned x/\zX Δ h w v h' a x w')
section
variable{Δ:Env}{h:Hp}{w:World}{n:Nat}{t:Tm}{a:Act}
theorem Pr{call:Call} (hc:xe call) (i:WR Δ h w) (m:TR Δ n t a) {o:Oper} {v:V} {h':Hp} (hv:(Ji o).f call t h=some (v,h')) {K:Act->World->Prop} {Q:Exit->Act->World->Prop}
  (p:∀k x w',zX Δ h w v h' k x w'->K (a.put o.dst x) w'):o.wp P0 a w K Q:=by
 unfold Ji at hv;split at hv
 ·simp only[fy]at hv;obtain⟨u,j,c⟩:=hv;cases c;obtain⟨x,b,d⟩:=zbr i m j;unfold Oper.wp;rw[b,Oper.upon_value];exact p Δ x w ⟨d,i,.refl _ _,.refl _ _⟩
 ·simp only[fy]at hv;obtain⟨⟨ob,mk⟩,j,c⟩:=hv;cases c;obtain⟨A,B,b,d⟩:=Sh m j;obtain⟨k,a1,a2,a3,y⟩:=i.alloc d;unfold Oper.wp;rw[b w,Oper.upon_value];exact p k _ _ ⟨a2,a1,a3,y⟩
 ·simp only[fy]at hv;obtain⟨r,j,c⟩:=hv;rcases Yk i m j with⟨u,z,k,x,w',rfl,b,d⟩|⟨g,l,gW,rfl,b,d⟩
  ·cases c;unfold Oper.wp;rcases b with b|⟨rfl,b⟩
   ·grind[Oper.upon_value]
   grind[Oper.upon_skip]
  ·unfold Oper.wp;rw[d];rcases hc g l v h h' Δ w gW c i b with⟨x,q,s⟩|⟨q,s⟩
   ·grind[Oper.upon_value]
   ·rw[q,Oper.upon_enter];refine Calls.mono s λe w' C=>?_
    grind
theorem XJ(a:Act) (d:Nat) (x:Value) (i:Nat) (b:d<a.tmps.size):(a.put (some d) x).tmps.getD i undef=if d=i then x else a.tmps.getD i undef:=by
 simp only[Act.put,wBV,Array.getElem?_setIfInBounds]
 grind
theorem put_defers(a:Act)(d:Option Tmp)(x:Value):(a.put d x).defers=a.defers:=by cases d <;> rfl
theorem K0(c:TR Δ n t a) {o:Oper} {d:DF} (b:zT n o=some d) {v:V} {x:Value} (hv:fR Δ v x):TR Δ n (d.f t v) (a.put o.dst x):=by
 unfold zT at b
 cases ho:o.dst with
 |none=>simp only[ho]at b;cases b;exact c
 | some k=>
   simp only[ho]at b
   cases hk:Nat.blt k n with
   |false=>simp_all
   | true=>
     simp only[hk]at b;cases b;have e:k<a.tmps.size:=by rw[c.size,<-Qq];exact hk
     refine⟨by simp[Act.put,c.size],λi=>?_,by rw[put_defers];show J8 Δ (t.set k v).ds _;rw[Tm.YU];exact c.ds⟩;rw[XJ _ _ _ _ e];show fR Δ (kj (t.set k v) i) _;rw[MV];by_cases h:k=i
     ·simp_all
     ·rw[if_neg h,if_neg h];exact c.rel i
theorem PJ{n:Nat} {ops:List Oper} {o:Oper} (a:lP n ops o=none) (y:Nat->Option Bool):Region.wanted o y=true:=by
 grind[lP,Region.wanted]
theorem Pd(l:TR Δ n t a) {ops:Array Oper} {o:Oper} {g:GF} (e:lP n ops.toList o=some g) {b:Bool} (hb:g.f t=some b):Region.wanted o (yielded ops a.tmps)=b:=by
 unfold lP at e;unfold Region.wanted
 cases hg:o.guard with
 |none=>simp_all
 | some p =>
   obtain⟨j,q⟩:=p;simp only[hg]at e⊢;unfold yielded
   cases hj:ops.toList[j]? with
   | none=>
     grind
   | some m=>
     have k:ops[j]? =some m:=by rw[<-wBD];exact hj
     simp only[hj]at e;simp only[k,Option.bind_some]
     cases hd:m.dst with
     | none=>
       grind
     | some d=>
       simp only[hd]at e;simp only[Option.bind_some]
       cases OY:Nat.blt d n with
       |false=>grind
       | true=>
         simp only[OY]at e;cases e;have h:d<a.tmps.size:=by rw[l.size,<-Qq];exact OY
         have i:=l.rel d;have r:a.tmps[d]? =some (a.tmps.getD d undef):=by simp[h]
         rw[r];generalize a.tmps.getD d undef=x at i;simp only at hb;split at hb
         ·rename_i s c
          cases hb;rw[c]at i;cases i;cases q <;> cases s <;> rfl
         ·rename_i c
          cases hb;rw[c]at i;cases i <;> grind
         ·cases hb
structure CD (Δ:Env) (h:Hp) (w:World) (n:Nat) (t':Tm) (h':Hp) (a:Env) (b:Act) (w':World):Prop where
 tmps:TR a n t' b
 world:WR a h' w'
 frame:FR Δ a w w'
 grow:Gr h Δ h' a
theorem CD.start(b:TR Δ n t a)(c:WR Δ h w):CD Δ h w n t h Δ a w:=⟨b,c,.refl _ _,.refl _ _⟩
theorem CD.trans{a b:Env} {c d:Hp} {e f:World} {i g:Tm} {a1 a2:Act} (x:CD Δ h w n i c a a1 e) (y:CD a c e n g d b a2 f):CD Δ h w n g d b a2 f:=
 ⟨y.tmps,y.world,x.frame.trans y.frame,x.grow.trans y.grow⟩
theorem CD.put(g:TR Δ n t a) {o:Oper} {d:DF} (b:zT n o=some d) {v:V} {h':Hp} {e:Env} {x:Value} {w':World} (c:zX Δ h w v h' e x w') :
  CD Δ h w n (d.f t v) h' e (a.put o.dst x) w':=
 ⟨K0 (g.mono c.frame.le) b c.val,c.world,c.frame,c.grow⟩
theorem YS(p:WR Δ h w) (b:TR Δ n t a) {o:Oper} {q:QF} (hq:Bu o=some q) {t':Tm} (hv:q.f t h=some t') :
  ∃d,(∀w,(execOp a.eval o).run P0 w = .ok (.defer d) w)/\TR Δ n t' {a with defers:=d::a.defers}:=by
 unfold Bu at hq;split at hq
 ·rename_i c r;split at hq
  ·rename_i f s;cases hq;simp only[fy]at hv;obtain⟨z,u,args,v,j⟩:=hv;have e:=lU p b u;obtain⟨xs,x⟩:∃xs,xs=c.args.map a.eval:=⟨_,rfl⟩
   have k:=Cu b v;generalize hx:a.eval f=xv at e;unfold Zv at j;split at j
   ·rename_i g first l
    cases j
    cases e with
    | func _ _ _ m c' y hc=>
      refine⟨{target:= .fn (.func g) c',args:=m++c.args.map a.eval},λw=>?_,⟨b.size,λi=>?_,?_⟩⟩
      ·have A:(resolve a.eval c o.type).run P0 w = .ok {target:= .fn (.func g) c',args:=m++c.args.map a.eval} w:=by
         unfold resolve;rw[s];simp only[hx];rfl
       simp_all[execOp,yo,wX]
      ·rw[Xe];exact b.rel i
      ·rw[Tm.za8]
       refine .cons _ _ _ _ _ _ ?_ b.ds;simp only[Array.toList_append,Lb,Array.toList_map];exact y.append (k.append hc)
   ·cases j
  ·cases hq
 ·cases hq
theorem zaQ{call:Call} (hc:xe call) {ops:Array Oper} {i:Nat} {o:Oper} (hi:ops[i]? =some o) {c:SF} {K:Act->World->Prop} {Q:Exit->Act->World->Prop}
  (l:WR Δ h w) (e:TR Δ n t a) {r:Tm×Hp} (hv:(J3 n ops.toList o c).f call t h=some r)
  (m:∀t' h' s u w',c.f call t' h' = some r->CD Δ h w n t' h' s u w'->K u w'):wpOp P0 ops Q i K a w:=by
 unfold J3 at hv;unfold wpOp;simp only[hi]
 cases hdst:zT n o with
 |none=>simp only[hdst]at hv;cases hv
 | some d=>
   simp only[hdst]at hv;have y:∀x,oB ((Ji o).f call t h) (λr=>c.f call (d.f t r.1) r.2)=some x->x=r->o.wp P0 a w K Q:=by
     intro x hx p;subst p;rw[fy]at hx;obtain⟨⟨v,h'⟩,j,k⟩:=hx;exact Pr hc l e j λs x w' z=>m _ _ _ _ _ k (CD.put e hdst z)
   cases hg:lP n ops.toList o with
   | none=>
     simp only[hg]at hv;rw[if_pos (PJ hg _)]
     cases hq:Bu o with
     |none=>grind
     | some q=>
       simp only[hq,fy]at hv;obtain⟨C,j,k⟩:=hv;obtain⟨D,A,B⟩:=YS l e hq j;refine .inl ?_;unfold Oper.wp;rw[A w,Oper.upon_defer]
       exact m _ _ _ _ _ k (CD.put B hdst ⟨.undef Δ,l,.refl _ _,.refl _ _⟩)
   | some g=>
     simp only[hg,fy]at hv;obtain⟨b,j,k⟩:=hv;rw[Pd e hg j]
     cases b with
     |true=>simp_all
     |false=>exact m _ _ _ _ _ k (CD.put e hdst ⟨.undef Δ,l,.refl _ _,.refl _ _⟩)
theorem PV{call:Call} (hc:xe call) {ops:Array Oper} {Q:Exit->Act->World->Prop}:∀(l:List Oper) (k:Nat),l=ops.toList.drop k->∀{Δ:Env} {h:Hp} {w:World} {t:Tm} {a:Act},
  WR Δ h w->TR Δ n t a->∀{r:Tm×Hp},(uZ n ops.toList l).f call t h=some r->(∀e b w',CD Δ h w n r.1 r.2 e b w'->Q .normal b w')->
  wpOps P0 ops Q (List.range' k l.length) a w
 | [],k,hl,Δ,h,w,t,a,hW,hT,r,hv,hQ=>by
   cases hv
   exact hQ _ _ _ (.start hT hW)
 | o ::l,k,hl,Δ,h,w,t,a,hW,hT,r,hv,hQ=>by
   have g:ops[k]? =some o:=by
     have:(ops.toList.drop k)[0]? =some o:=by rw[<-hl];rfl
     rw[wBL,wBu]at this;simpa using this
   have c:l=ops.toList.drop (k+1):=by
     rw[<-wBf,<-hl];rfl
   rw[Rt,List.range'_succ,wpOps_cons];refine zaQ hc g hW hT hv λt' h' e b w' i d=>?_;exact PV hc l (k+1) c d.world d.tmps i λj m p q=>hQ _ _ _ (d.trans q)
end
def Gk(c:Code) (Q:Exit->Act->World->Prop) (a:Act) (w:World):Prop:=∀(b:Frame) (k:List Item) (cs:List Frame),∃e d w',Q e d w'/\Arrives P0 (lone (b.at a (.code c:: .inLoop c::k)) cs w) b k cs e d w'
theorem Gk.round{c:Code} {Q:Exit->Act->World->Prop} {a:Act} {w:World} (h:c.wp P0 (Exit.then (Gk c Q) Q) a w):Gk c Q a w:=by
 intro b k cs;obtain⟨e,g,i,hq,d⟩:=h b (.inLoop c::k) cs
 cases e with
 | normal=>
   obtain⟨m,n,o,j,f⟩:=hq b k cs
   exact⟨m,n,o,j,.of_steps (Steps.trans d (.one step_inLoop)) f⟩
 |exit id=>exact⟨_,g,i,hq,.pass (x:= .inLoop c) rfl (by simp_all) d⟩
 |goto l=>exact⟨_,g,i,hq,.pass (x:= .inLoop c) rfl (by simp_all) d⟩
 |ret=>exact⟨_,g,i,hq,.pass (x:= .inLoop c) rfl (by simp_all) d⟩
 |panic ch=>exact⟨_,g,i,hq,.pass (x:= .inLoop c) rfl (by simp_all) d⟩
 |outgrown=>exact⟨_,g,i,hq,.pass (x:= .inLoop c) rfl (by simp_all) d⟩
theorem Gk.wp{c:Code} {Q:Exit->Act->World->Prop} {a:Act} {w:World} (h:Gk c Q a w):(Code.loop c).wp P0 Q a w:=
 λb k cs=>let⟨e,a',w',q,r⟩:=h b k cs;⟨e,a',w',q,.of_steps (.one step_loop) r⟩
def Alike(t t':Tm)(x:Operand):Prop:=(OD x).f t=(OD x).f t'
theorem Jq{t t':Tm} {l:List Operand} (h:∀d,d∈CE l->kj t d=kj t' d):∀x∈l,Alike t t' x:=by
 induction l with
 |nil=>simp_all
 | cons y l a=>
   intro x hx
   cases hx with
   | head=>
     unfold Alike
     cases y <;> grind[kj,CE,OD]
   | tail _ hx=>
     refine a (λd b=>h d ?_) x hx;cases y <;> simp[CE,b]
section
variable{t t':Tm}{h:Hp}
theorem gX{x:Operand} (hx:Alike t t' x):(ud x).f t h=(ud x).f t' h:=by
 unfold Alike at hx;cases x <;> grind[ud]
theorem yW:∀{l:List Operand},(∀x∈l,Alike t t' x)->J0 t l=J0 t' l
 |[],_=>rfl
 | x::l,hl=>by
   have a:(OD x).f t=(OD x).f t':=hl x (by simp);simp only[J0,a,yW (l:=l) (by simp_all)]
theorem CX:∀{l:List (Nat×Operand)},(∀x∈l,Alike t t' x.2)->vg t l=vg t' l
 |[],_=>rfl
 | x::l,hl=>by
   have a:(OD x.2).f t=(OD x.2).f t':=hl x (by simp);simp only[vg,a,CX (l:=l) (by grind)]
theorem Uo{x:Option Operand} (hx:∀y,x=some y->Alike t t' y):Kf x t h=Kf x t' h:=by
 cases x with
 |none=>rfl
 |some y=>simp only[Kf,gX (hx y rfl)]
theorem Su{ty:Nat} {p:PF} (hp:p.f t h=p.f t' h):(Mb ty p).f t h=(Mb ty p).f t' h:=by
 grind[Mb]
theorem RM{a b:Nat} {p:PF} (hp:p.f t h=p.f t' h):(L2 a b p).f t h=(L2 a b p).f t' h:=by
 grind[L2]
theorem Ln{a b:Nat} {p:PF} (hp:p.f t h=p.f t' h):(qR a p b).f t h=(qR a p b).f t' h:=by
 grind[qR]
theorem QV{a b:Nat} {p:PF} (hp:p.f t h=p.f t' h):(Jx a p b).f t h=(Jx a p b).f t' h:=by
 grind[Jx]
theorem LH{a:Nat} {p q:PF} (hp:p.f t h=p.f t' h) (hq:q.f t h=q.f t' h):(ry a p q).f t h=(ry a p q).f t' h:=by
 grind[ry]
theorem Qm{a:Nat} {p q:PF} (hp:p.f t h=p.f t' h) (hq:q.f t h=q.f t' h):(JD a p q).f t h=(JD a p q).f t' h:=by
 grind[JD]
theorem Qb{a:Nat} {p:PF} {lo hi:Option Operand} (hp:p.f t h=p.f t' h) (b:Kf lo t h=Kf lo t' h) (c:Kf hi t h=Kf hi t' h) :
  (Lg a p lo hi).f t h=(Lg a p lo hi).f t' h:=by
 grind[Lg]
theorem OQ{a:Nat} {p q:PF} {ok:Bool} (hp:p.f t h=p.f t' h) (hq:q.f t h=q.f t' h):(Ho a p q ok).f t h=(Ho a p q ok).f t' h:=by
 grind[Ho]
theorem TZ{a:Nat} {p:PF} (hp:p.f t h=p.f t' h):(hlen a p).f t h=(hlen a p).f t' h:=by
 grind[hlen]
theorem OI{a:Nat} {p:PF} {ok:Bool} (hp:p.f t h=p.f t' h):(HY p a ok).f t h=(HY p a ok).f t' h:=by
 grind[HY]
theorem Ru{c p q:PF} (hc:c.f t h=c.f t' h) (hp:p.f t h=p.f t' h) (hq:q.f t h=q.f t' h):(LO c p q).f t h=(LO c p q).f t' h:=by
 grind[LO]
theorem Rf{a:Nat} {ps:List (Nat×Operand)} (hp:vg t ps=vg t' ps):(I8 a ps).f t h=(I8 a ps).f t' h:=by
 unfold I8;grind
theorem Jb{o:Oper} (hx:∀x∈o.op.operands.toList,Alike t t' x):(jb o).f t h=(jb o).f t' h:=by
 obtain⟨dst,op,ty,pos,af,gd⟩:=o;cases op <;> simp only[jb] <;> simp only[Op.operands]at hx
 case move x=>grind[gX]
 case assign x=>grind[gX]
 case pick c a b=>exact Ru (by grind[gX]) (by grind[gX]) (by grind[gX])
 case load ty a=>grind[Su,gX]
 case nilCheck x=>grind[AJ,gX]
 case binOp op xt x y b=>grind[gX]
 case unOp op b x=>grind[gX]
 case convert s d x=>grind[RM,gX]
 case build ty ps=>grind[Rf,CX]
 case makeFunc fn first caps=>
  cases fn with
  |func f=>grind[yW]
  |_=>rfl
 case slice ty x lo hi mx=>
  cases mx with
  |none=>grind[Qb,gX,Uo]
  |some _=>rfl
 case fieldAddr s x f=>grind[Ln,gX]
 case field s x f=>grind[QV,gX]
 case indexAddr ty x i=>grind[LH,gX]
 case index ty x i=>grind[Qm,gX]
 case lookup ty m k ok=>grind[OQ,gX]
 case extract x i=>grind[GW,gX]
 case makeInterface ty x=>
  split
  ·grind[gX]
  ·rfl
 case typeAssert x b asserted ok=>grind[OI,gX]
 case call c=>
  obtain⟨e,args,g⟩:=c
  cases e with
  | builtin b=>
    have j:∀x∈args.toList,Alike t t' x:=by grind[Call.operands]
    cases b <;> simp only
    case len=>
      split
      ·grind[TZ,gX]
      ·rfl
    case min=>grind[yW]
    case max=>grind[yW]
    all_goals rfl
  |_=>rfl
 all_goals rfl
theorem Px{x:Operand}(hx:Alike t t' x):(OD x).f t=(OD x).f t':=hx
theorem LX{o:Oper} (hx:∀x∈o.op.operands.toList,Alike t t' x):(rj o).f t=(rj o).f t':=by
 obtain⟨dst,op,ty,pos,af,gd⟩:=o;cases op <;> simp only[rj] <;> simp only[Op.operands]at hx
 case alloc e=>split <;> rfl
 case box e x=>grind[Px]
 case buildSlice ty len parts=>
  (repeat' split) <;> first
   |rfl
   |grind[Gl,CX]
 case makeSlice ty n c=>
  (repeat' split) <;> first
   |rfl
   |grind[Px]
 case makeMap ty r=>
  cases r with
  |none=>simp only;split <;> rfl
  |some _=>rfl
 all_goals rfl
theorem RB{o:Oper} (hx:∀x∈o.op.operands.toList,Alike t t' x):(kO o).f t h=(kO o).f t' h:=by
 obtain⟨dst,op,ty,pos,af,gd⟩:=o;cases op <;> simp only[kO] <;> simp only[Op.operands]at hx
 case store ty a x=>
  split
  ·grind[gX]
  ·rfl
 case mapUpdate ty m k x=>
  (repeat' split) <;> first
   |rfl
   |grind[gX]
 case insert ty m k x=>
  (repeat' split) <;> first
   |rfl
   |grind[gX]
 case range ty x=>
  split
  ·grind[gX]
  ·rfl
 case next x isS=>
  cases isS with
  |true=>rfl
  |false=>grind[gX]
 case entry x=>grind[gX]
 case convert s d x=>
  (repeat' split) <;> first
   |rfl
   |grind[gX]
 case call c=>
  obtain⟨g,args,j⟩:=c
  cases g with
  | builtin b=>
    have l:∀x∈args.toList,Alike t t' x:=by grind[Call.operands]
    cases b <;> simp only
    case append=>
      split
      ·rename_i s x i xT e _
       (repeat' split) <;> first
         |rfl
         |grind[gX]
      ·rfl
    case copy=>
      split
      ·rename_i s x i xT e _
       (repeat' split) <;> first
         |rfl
         |grind[gX]
      ·rfl
    case delete=>
      split
      ·rename_i s x i xT e _
       (repeat' split) <;> first
         |rfl
         |grind[gX]
      ·rfl
    all_goals rfl
  | value f=>
    grind[Alike,Call.operands,gX,yW]
  | invoke r m=>
    grind[Alike,Call.operands,gX,yW]
 all_goals rfl
theorem Oo{call:Call} {o:Oper} (hx:∀x∈o.op.operands.toList,Alike t t' x):(Ji o).f call t h=(Ji o).f call t' h:=by
 grind[Ji,Jb,LX,RB]
end
theorem DA:∀(l:List Oper) (i:Nat) (b:List Nat) (k:Nat) (a:It),(items l i b)[k]? =some a->a.i=i+k/\l[k]? =some a.o
 |[],i,b,k,a,h=>by grind[items]
 |o::os,i,b,0,a,h=>by simp[items]at h;grind
 | o::os,i,b,k+1,a,h=>by
   simp only[items,wBU]at h;obtain⟨c,d⟩:=DA os (i+1) _ k a h
   grind
theorem Ke:∀(l:List Oper) (i:Nat) (a:List Nat),(items l i a).length=l.length
 |[],i,a=>rfl
 |o::os,i,a=>by simp[items,Ke os]
theorem CH(a:List Nat) (x:Nat):∀(b:List Edge) (m:Nat),(NL a b m).testBit x=true->m.testBit x=true\/∃e∈b,NM e=true/\(x=e.on\/(a[e.on]?.getD 0).testBit x=true)
 |[],m,h=> .inl h
 | e ::b,m,h=>by
   simp only[NL]at h;split at h
   ·rename_i hb
    rcases CH a x b _ h with c|⟨f,g,d,c⟩
    ·grind
    grind
   ·rcases CH a x b _ h with c|⟨f,g,d,c⟩
    ·simp_all
    grind
theorem Vz:∀(l:List Oper) (i:Nat) (c:List Nat) (k:Nat) (a:It),(items l i c)[k]? =some a->
  a.b=NL (c++((items l i c).take k).map (·.b)) a.o.after.toList 0
 |[],i,c,k,a,h=>by grind[items]
 |o::os,i,c,0,a,h=>by grind[items]
 | o::os,i,c,k+1,a,h=>by
   simp only[items,wBU]at h;have:=Vz os (i+1) _ k a h
   grind[items,Lb]
theorem Nq{l:List Oper} {k:Nat} {a:It} (h:(items l 0 [])[k]? =some a) {x:Nat} (hx:a.b.testBit x=true) :
  ∃e∈a.o.after.toList,NM e=true/\(x=e.on\/∃y,(items l 0 [])[e.on]? =some y/\y.b.testBit x=true):=by
 rw[Vz l 0 [] k a h]at hx;rcases CH _ x _ _ hx with c|⟨e,d,hb,c⟩
 ·simp_all
 ·refine ⟨e,d,hb,?_⟩;rcases c with c|c
  ·omega
  ·right;rw[OG,Dn,List.getElem?_take]at c
   grind
theorem Hk(e:Edge):Region.binds .any e=NM e:=by
 rfl
def rk(val:Nat->V)(D:Nat->Bool)(d:Nat)(kP:List It)(b:V):V:=kP.foldl (λv a=>if D a.i=true/\a.o.dst=some d then val a.i else v) b
theorem rA{val OT:Nat->V} {D D':Nat->Bool} {d:Nat} {kP:List It} (c:∀a∈kP,a.o.dst=some d->D a.i=D' a.i) (e:∀a∈kP,a.o.dst=some d->D a.i=true->val a.i=OT a.i) (b:V) :
  rk val D d kP b=rk OT D' d kP b:=by
 unfold rk
 induction kP generalizing b <;> grind
theorem JI{val:Nat->V} {D:Nat->Bool} {d:Nat} {kP:List It} (h:∀a∈kP,a.o.dst=some d->D a.i=false) (b:V):rk val D d kP b=b:=by
 unfold rk
 induction kP generalizing b <;> grind
theorem WZ{val:Nat->V} {D:Nat->Bool} {d:Nat} {kP:List It} (e:∀(k:Nat) (x:It),kP[k]? =some x->x.i=k) {a:It} (j:a∈kP) (l:a.o.dst=some d) (m:D a.i=true)
  (h:∀x∈kP,a.i<x.i->x.o.dst=some d->D x.i=false) (n:V):rk val D d kP n=val a.i:=by
 obtain⟨k,g⟩:=oY.1 j;have p:=e k a g;have f:k<kP.length:=by grind
 have b:kP=kP.take k++a::kP.drop (k+1):=by
  have r:kP.drop k=a::kP.drop (k+1):=by
   rw[ZH f];rw[iy f]at g;cases g;rfl
  rw[<-r,ZI]
 have c:∀x∈kP.drop (k+1),x.o.dst=some d->D x.i=false:=by
  intro x hx s;obtain⟨q,hq⟩:=oY.1 hx;rw[wBL]at hq;have:=e _ x hq;exact by grind
 unfold rk;rw[b,List.foldl_append,List.foldl_cons,if_pos ⟨m,l⟩];exact JI c _
def DD(h h':Hp):Prop:=h.next<=h'.next/\∀l,l<h.next->h'.get l=h.get l
theorem DD.refl(h:Hp):DD h h:=⟨jO _,λ_ _=>rfl⟩
theorem DD.trans{h h' c:Hp}(a:DD h h')(b:DD h' c):DD h c:=⟨KG a.1 b.1,λl d=>by rw[b.2 l (EK d a.1),a.2 l d]⟩
theorem DD.new(h:Hp)(o:O):DD h (h.new o):=⟨OK _,by simp_all[yk,if_neg,Nat.ne_of_gt]⟩
theorem WR.Q6{Δ:Env} {h h':Hp} {w:World} (a:WR Δ h w) (b:DD h h'):WR Δ h' w where
 fresh:=λl d f=>EK (a.fresh l d f) b.1
 pE:=a.pE
 obj:=λl d f=>by rw[b.2 l (a.fresh l d f)];exact a.obj l d f
 apart:=λm i e k p s n o j q r=>by
  rw[b.2 m (a.fresh m e n)]at q;rw[b.2 i (a.fresh i k o)]at r;exact a.apart m i e k p s n o j q r
 JJ:=λg p c hp=>by
  rw[b.2 g (EK c a.Ae)]at hp;exact a.JJ g p c hp
 Ae:=KG a.Ae b.1
 VM:=a.VM
theorem O.eq_of_beq{a b:O} (h:O.beq a b=true):a=b:=by
 unfold O.beq at h;split at h
 ·simp only[vH,Cw]at h;obtain⟨⟨⟨⟨rfl,rfl⟩,rfl⟩,rfl⟩,c⟩:=h
  grind[V.yV]
 ·simp_all
 ·cases h
structure Tc where
 on:Nat->Bool
 val:Nat->V
 tt:Nat->Tm
 ep:Nat->Nat
 pl:Nat->Nat
 ob:Nat->O
 H:Nat->Hp
 G:Nat->Hp
def Ba(kP:List It)(D:Nat->Bool):Prop:=∀a∈kP,D a.i=true->∀x∈kP,a.b.testBit x.i=true->D x.i=true
section
variable (n:Nat)(all:List Oper)(kP ws:List It)(call:Call)(t0:Tm)(h0:Hp)
structure NU (T:Tc) (D:Nat->Bool) (a:It):Prop where
 fresh:D a.i=false
 closed:Ba kP D
 fi:∀x∈kP,a.b.testBit x.i=true->D x.i=true
 qd:∀d,kj (T.tt a.i) d=rk T.val D d kP (kj t0 d)
 dst:∃d,zT n a.o=some d
 qJ:qJ n all a.o (T.tt a.i)=some (T.on a.i)
 off:T.on a.i=false->T.val a.i = .undef
 epw:cls a.o≠2->MQ ws a (T.ep a.i)=true
 epl:T.ep a.i<=ws.length
 pure:cls a.o=0->T.on a.i=true->∀j,T.ep a.i<=j->j<=ws.length->j<=late ws a->(jb a.o).f (T.tt a.i) (T.H j)=some (T.val a.i)
 alloc:cls a.o=1->T.on a.i=true->(∃mk,(rj a.o).f (T.tt a.i)=some (T.ob a.i,mk)/\T.val a.i=mk (T.pl a.i))/\
  (∀j,T.ep a.i<=j->j<=ws.length->T.pl a.i<(T.H j).next/\(j<=late ws a->(T.H j).get (T.pl a.i)=some (T.ob a.i)))/\
  (∀j,j<T.ep a.i->(T.G j).next<=T.pl a.i)/\h0.next<=T.pl a.i
 write:cls a.o=2->isW ws a (T.ep a.i)=true/\(T.on a.i=true->(Ji a.o).f call (T.tt a.i) (T.H (T.ep a.i))=some (T.val a.i,T.G (T.ep a.i)))/\
  (T.on a.i=false->T.G (T.ep a.i)=T.H (T.ep a.i))
structure vj (l:List It) (m k:Nat) (h:Hp) (rs:List Rec) (r:Tm×Hp) (b T:Tc):Prop where
 same:∀i,m.testBit i=true->T.on i=b.on i/\T.val i=b.val i/\T.tt i=b.tt i/\T.ep i=b.ep i/\T.pl i=b.pl i/\T.ob i=b.ob i
 Vk:∀j,j<k->T.H j=b.H j/\T.G j=b.G j
 item:∀a∈l,∃D,NU n all kP ws call t0 h0 T D a
 EG:∀r∈rs,∀j,k<=j->j<=ws.length->r.last<j\/Av (T.H j) r=true
 more:DD h (T.H k)
 chain:∀j,k<=j->j<ws.length->(T.H j).next<=(T.G j).next/\DD (T.G j) (T.H (j+1))
 WY:∀a∈l,cls a.o=1->T.on a.i=true->h.next<=T.pl a.i
 VI:∀a∈l,∀c∈l,cls a.o=1->cls c.o=1->T.on a.i=true->T.on c.i=true->a.i≠c.i->T.pl a.i≠T.pl c.i
 last:r.2=T.H ws.length
 qd:∀d,kj r.1 d=rk T.val (λ_=>true) d kP (kj t0 d)
 done:∀a∈kP,m.testBit a.i=true\/a.i∈l.map (·.i)
 kle:k<=ws.length
end
theorem GK{ws:List It} {T:Tc} {k:Nat} (h:∀j,k<=j->j<ws.length->(T.H j).next<=(T.G j).next/\DD (T.G j) (T.H (j+1))):∀(m j:Nat),j=k+m->j<=ws.length->(T.H k).next<=(T.H j).next:=by
 intro m
 induction m with
 |zero=>simp_all
 | succ m b=>
   intro j g c;obtain⟨a,rfl⟩:∃a,j=a+1:=⟨j-1,by omega⟩
   have d:=b a (by omega) (by omega);obtain⟨e,f⟩:=h a (by omega) (by omega);exact KG d (KG e f.1)
theorem Zj(m i x:Nat):(m |||2 ^ i).testBit x=(m.testBit x ||decide (i=x)):=by grind
theorem Mh{l:List It} (h:rY l=true):∀(i j:Nat) (a b:It),i<j->l[i]? =some a->l[j]? =some b->Qv a b=true:=by
 induction l with
 |nil=>simp_all
 | cons x l d=>
   intro i j a b c e hb;simp only[rY,vH]at h
   grind
theorem O6{kP:List It} (c:∀(k:Nat) (x:It),kP[k]? =some x->x.i=k) (hp:rY kP=true) {a x:It} (h:a∈kP) (hx:x∈kP) {d:Nat} (l:d∈qK a.o) (e:x.o.dst=some d) :
  (x.i<a.i->a.b.testBit x.i=true)/\(a.i<x.i->x.b.testBit a.i=true):=by
 obtain⟨i,hi⟩:=oY.1 h;obtain⟨j,f⟩:=oY.1 hx;have m:=c i a hi;have n:=c j x f;have p:writes x.o (qK a.o)=true:=by simp[writes,e,l]
 constructor
 ·intro g;have:=Mh hp j i x a (by omega) f hi
  grind[Qv]
 ·intro g;have:=Mh hp i j a x (by omega) hi f
  grind[Qv]
theorem WM{o:Oper}{d:Nat}(h:o.dst=some d):d∈qK o:=by simp[qK,h]
theorem Jp{kP:List It} (e:∀(k:Nat) (x:It),kP[k]? =some x->x.i=k) (hp:rY kP=true) {a:It} (f:a∈kP) {D D':Nat->Bool} (n:Ba kP D) (g:Ba kP D')
  (r:∀x∈kP,a.b.testBit x.i=true->D x.i=true) (p:∀x∈kP,a.b.testBit x.i=true->D' x.i=true) (m:D a.i=false) (c:D' a.i=false) {d:Nat} (q:d∈qK a.o) (val:Nat->V) (j:V) :
  rk val D d kP j=rk val D' d kP j:=by
 refine rA (λx hx l=>?_) (by simp_all) j;obtain⟨p1,p2⟩:=O6 e hp f hx q l;rcases wBi x.i a.i with h|h|h
 ·simp_all
 ·simp_all
 ·have s:D x.i=false:=by
   cases hh:D x.i with
   |false=>rfl
   |true=>rw[n x hx hh a f (p2 h)]at m;cases m
  have t:D' x.i=false:=by
   cases hh:D' x.i with
   |false=>rfl
   |true=>rw[g x hx hh a f (p2 h)]at c;cases c
  simp_all
theorem HH{kP:List It} (b:∀(k:Nat) (x:It),kP[k]? =some x->x.i=k) (hp:rY kP=true) {a:It} (h:a∈kP) {D D':Nat->Bool} (p:Ba kP D) (n:D a.i=false)
  (f:∀i,D' i=(D i ||decide (a.i=i))) {val OT:Nat->V} (hv:∀i,D i=true->OT i=val i) (d:Nat) (l:V) :
  rk OT D' d kP l=if a.o.dst=some d then OT a.i else rk val D d kP l:=by
 by_cases hd:a.o.dst=some d
 ·rw[if_pos hd];refine WZ b h hd (by simp_all) (λx hx g c=>?_) l;rw[f];have q:a.i≠x.i:=Tv g;have:=(O6 b hp h hx (WM hd) c).2 g
  cases hh:D x.i with
  |false=>simp_all
  |true=>rw[p x hx hh a h this]at n;cases n
 ·rw [if_neg hd];refine rA (λx hx c=>?_) (λx hx c r=>?_) l
  ·rw [f];have:a.i≠x.i:=by
    intro e;obtain⟨i,hi⟩:=oY.1 h;obtain⟨j,m⟩:=oY.1 hx;have s:=b i a hi;have t:=b j x m;have:i=j:=by omega
    subst this;rw[hi]at m;cases m;exact hd c
   simp_all
  grind[oY]
def OP{α:Type}(f:Nat->α)(i:Nat)(v:α):Nat->α:=λj=>if j=i then v else f j
theorem oO{α:Type}(f:Nat->α)(i:Nat)(v:α):OP f i v i=v:=if_pos rfl
theorem Qp{α:Type}(f:Nat->α){i j:Nat}(v:α)(h:j≠i):OP f i v j=f j:=if_neg h
theorem LJ(o:Oper):cls o=0\/cls o=1\/cls o=2:=by
 unfold cls
 grind
theorem Kz{n:Nat} {o:Oper} {d:DF} (h:zT n o=some d) (t:Tm) (v:V) (i:Nat):kj (d.f t v) i=if o.dst=some i then v else kj t i:=by
 unfold zT at h
 cases ho:o.dst with
 |none=>grind
 | some k=>
   simp only[ho]at h
   cases hk:Nat.blt k n with
   |false=>simp_all
   | true=>
     simp only[hk]at h;cases h;show kj (t.set k v) i=_
     simp_all[MV,if_pos,if_neg]
theorem zg{n:Nat} {o:Oper} {d:DF} (h:zT n o=some d) (t:Tm) (v:V):(d.f t v).ds=t.ds:=by
 grind[zT,Nat.blt,Tm.YU]
theorem Cm{n:Nat} {all:List Oper} {ws:List It} {call:Call}:∀(l:List It) (k:Nat) {t:Tm} {h:Hp} {rs:List Rec} {r:Tm×Hp},(yQ n all ws l k).f call t h rs=some r->r.1.ds=t.ds
 | [],_,t,h,rs,r,hv=>by
   grind[yQ,ie]
 | a ::l,k,t,h,rs,r,hv=>by
   unfold yQ at hv
   cases hd:zT n a.o with
   |none=>simp_all
   | some d=>
     rw[hd]at hv;simp only at hv;split at hv
     ·simp only[IG,fy]at hv
      obtain⟨b,_,c⟩:=hv
      cases b with
      |false=>rw[Cm l _ c,zg hd]
      | true=>
        simp only[fy]at c;obtain⟨x,_,e⟩:=c;rw[Cm l _ e,zg hd]
     ·simp only[GR,fy]at hv
      obtain⟨b,_,c⟩:=hv
      cases b with
      |false=>rw[Cm l _ c,zg hd]
      | true=>
        simp only[fy]at c;obtain⟨x,_,e⟩:=c;rw[Cm l _ e,zg hd]
     ·simp only[C0,fy,ie]at hv
      obtain⟨_,b,_,c⟩:=hv
      cases b with
      |false=>rw[Cm l _ c,zg hd]
      | true=>
        simp only[fy,ie]at c;obtain⟨x,_,_,e⟩:=c;rw[Cm l _ e,zg hd]
section
variable{n:Nat}{all:List Oper}{kP ws:List It}{call:Call}{t0:Tm}{h0:Hp}
theorem vj.cons{l:List It} {a:It} {m k k':Nat} {h h':Hp} {rs w:List Rec} {r:Tm×Hp} {c T1 T:Tc} (b:vj n all kP ws call t0 h0 l (m |||2 ^ a.i) k' h' w r T1 T)
  (B:∀i,m.testBit i=true->T1.on i=c.on i/\T1.val i=c.val i/\T1.tt i=c.tt i/\T1.ep i=c.ep i/\T1.pl i=c.pl i/\T1.ob i=c.ob i)
  (I:∀j,j<k->T1.H j=c.H j/\T1.G j=c.G j) (J:k<=k') (d:∃D,NU n all kP ws call t0 h0 T D a)
  (e:∀r∈rs,∀j,k<=j->j<=ws.length->r.last<j\/Av (T.H j) r=true) (f:DD h (T.H k))
  (v:∀j,k<=j->j<k'->(T.H j).next<=(T.G j).next/\DD (T.G j) (T.H (j+1)))
  (u:cls a.o=1->T.on a.i=true->h.next<=T.pl a.i/\T.pl a.i<h'.next) (Ee:h.next<=h'.next) (z:k<=ws.length):vj n all kP ws call t0 h0 (a::l) m k h rs r c T where
 same:=λi hi=>by
  obtain⟨a1,a2,a3,K,L,M⟩:=b.same i (by simp_all)
  simp_all
 Vk:=λj C=>by
  obtain⟨a1,a2⟩:=b.Vk j (by omega)
  simp_all
 item:=λx hx=>by
  cases hx with
  |head=>exact d
  |tail _ hx=>exact b.item x hx
 EG:=e
 more:=f
 chain:=λj B E=>by
  by_cases C:j<k'
  ·simp_all
  ·exact b.chain j (by omega) E
 WY:=λx hx hc F=>by
  cases hx with
  |head=>simp_all
  |tail _ hx=>exact KG Ee (b.WY x hx hc F)
 VI:=λx hx y t g p q s A=>by
  cases hx with
  | head=>
    cases t with
    |head=>omega
    |tail _ t=>have:=(u g q).2;have:=b.WY y t p s;omega
  | tail _ hx=>
    cases t with
    |head=>have:=(u p s).2;have:=b.WY x hx g q;omega
    |tail _ t=>exact b.VI x hx y t g p q s A
 last:=b.last
 qd:=b.qd
 done:=λx hx=>by
  rcases b.done x hx with h|h
  ·grind
  simp_all
 kle:=z
theorem trace(B:∀(k:Nat) (x:It),kP[k]? =some x->x.i=k) (hp:rY kP=true):∀(l:List It) (m k:Nat) (t:Tm) (h:Hp) (rs:List Rec) (r:Tm×Hp) (s:Tc),
  (∀a∈l,a∈kP)->xC kP ws l m k=true->(yQ n all ws l k).f call t h rs=some r->Ba kP m.testBit->(∀d,kj t d=rk s.val m.testBit d kP (kj t0 d))->
  h0.next<=h.next->(∀j,j<k->(s.G j).next<=h.next)->k<=ws.length->∃T,vj n all kP ws call t0 h0 l m k h rs r s T
 | [],m,k,t,h,rs,r,s,W9,c,hv,hcl,ht,hn0,hG,hkl=>by
   simp only[xC,vH]at c;obtain⟨ag,hk⟩:=c;have ak:k=ws.length:=Cr hk;simp only[yQ,ie]at hv;obtain⟨X,hv⟩:=hv;cases hv;refine⟨{s with H:=OP s.H k h},⟨by simp_all,λj N=>⟨by grind[Qp],rfl⟩,by simp_all,?_,?_,by omega,by simp_all,by simp_all,?_,?_,?_,hkl⟩⟩
   ·intro q hq j Y h2
    have:j=k:=by omega
    simp_all[Av,OP,oO,Dd,Rp,KO,Qq]
   ·grind[DD,OP,oO]
   ·grind[OP,oO]
   ·intro d
    rw[ht d];refine rA (λa ha _=>?_) (by simp_all) _
    simp_all
   simp_all
 | a ::l,m,k,t,h,rs,r,s,W9,c,hv,hcl,ht,hn0,hG,hkl=>by
   have ha:a∈kP:=by simp_all
   have w:∀x∈l,x∈kP:=by simp_all
   simp only[xC,vH,wBg]at c;obtain⟨C,al,c⟩:=c;have u:∀x∈kP,a.b.testBit x.i=true->m.testBit x.i=true:=by grind
   have z:Ba kP (m |||2 ^ a.i).testBit:=λx hx A y hy hb=>by
     rw[Zj]at A⊢;simp only[KO,CU]at A;rcases A with A|A
     ·rw[hcl x hx A y hy hb];rfl
     grind[oY]
   simp only[yQ]at hv
   cases hd:zT n a.o with
   |none=>simp_all
   | some d =>
     simp only[hd]at hv
     let T1:Bool->V->Nat->O->(Nat->Hp)->(Nat->Hp)->Tc:=λb v p ob H G=>⟨OP s.on a.i b,OP s.val a.i v,OP s.tt a.i t,OP s.ep a.i k,OP s.pl a.i p,OP s.ob a.i ob,H,G⟩
     have Y:∀b v p ob H G,∀i,m.testBit i=true->(T1 b v p ob H G).on i=s.on i/\(T1 b v p ob H G).val i=s.val i/\(T1 b v p ob H G).tt i=s.tt i/\(T1 b v p ob H G).ep i=s.ep i/\
        (T1 b v p ob H G).pl i=s.pl i/\(T1 b v p ob H G).ob i=s.ob i:=by grind[Qp]
     have D:∀b v p ob H G,∀I,kj (d.f t v) I=rk (T1 b v p ob H G).val (m |||2 ^ a.i).testBit I kP (kj t0 I):=by grind[Kz,HH,Zj,kj,OP,oO]
     have self:∀{b v p ob H G l' k' h' Q T},vj n all kP ws call t0 h0 l' (m |||2 ^ a.i) k' h' Q r (T1 b v p ob H G) T->
        T.on a.i=b/\T.val a.i=v/\T.tt a.i=t/\T.ep a.i=k/\T.pl a.i=p/\T.ob a.i=ob/\(∀I,kj (T.tt a.i) I=rk T.val m.testBit I kP (kj t0 I)):=λ{b v p ob H G l' k' h' Q T} g=>by
       obtain⟨a1,a2,a3,a4,a5,a6⟩:=g.same a.i (by simp_all);refine⟨a1.trans (oO _ _ _),a2.trans (oO _ _ _),a3.trans (oO _ _ _),a4.trans (oO _ _ _),a5.trans (oO _ _ _),a6.trans (oO _ _ _),λI=>?_⟩;rw[a3.trans (oO _ _ _),ht I];refine(rA (by simp_all) (λx hx _ Z=>?_) _).symm;rw[(g.same x.i (by simp_all)).2.1,(Y b v p ob H G x.i Z).2.1]
     rcases LJ a.o with hc|hc|hc
     ·
       have E:Nat.beq (cls a.o) 2=false:=by rw[hc];rfl
       rw[E]at c;simp only[vH]at c;obtain⟨F,c⟩:=c;rw[hc]at hv;simp only[IG,fy]at hv;obtain⟨b,hw,hv⟩:=hv
       cases b with
       | false=>
         obtain⟨T,g⟩:=trace B hp l _ k _ h rs r (T1 false .undef 0 default s.H s.G) w c hv z (D _ _ _ _ _ _) hn0 hG hkl;obtain⟨U,P,W,s4,K,R,J⟩:=self g
         refine ⟨T,g.cons (by simp_all) (by grind) (jO _) ⟨m.testBit,C,hcl,u,J,⟨d,hd⟩,by simp_all,λ_=>P,by simp_all,by omega,
           by simp_all,by omega,by omega⟩ g.EG g.more (by omega) (by omega) (jO _) hkl⟩
       | true=>
         simp only[fy]at hv;obtain⟨v,aa,hv⟩:=hv;obtain⟨T,g⟩:=trace B hp l _ k _ h _ r (T1 true v 0 default s.H s.G) w c hv z (D _ _ _ _ _ _) hn0 hG hkl;obtain⟨U,P,W,s4,K,R,J⟩:=self g
         refine ⟨T,g.cons (by simp_all) (by grind) (jO _) ⟨m.testBit,C,hcl,u,J,⟨d,hd⟩,by simp_all,by simp_all,by simp_all,by omega,
           λ_ _ j L M j3=>?_,by omega,by omega⟩ (λq hq=>g.EG q (by simp[hq])) g.more (by omega) (by omega) (jO _) hkl⟩
         rw[s4]at L;rcases g.EG _ (ZP ..) j L M with ab|hh
         ·grind
         grind[Av,V.eq_of_beq]
     ·
       have E:Nat.beq (cls a.o) 2=false:=by rw[hc];rfl
       rw[E]at c;simp only[vH]at c;obtain⟨F,c⟩:=c;rw[hc]at hv;simp only[GR,fy]at hv;obtain⟨b,hw,hv⟩:=hv
       cases b with
       | false=>
         obtain⟨T,g⟩:=trace B hp l _ k _ h rs r (T1 false .undef 0 default s.H s.G) w c hv z (D _ _ _ _ _ _) hn0 hG hkl;obtain⟨U,P,W,s4,K,R,J⟩:=self g
         refine ⟨T,g.cons (by simp_all) (by grind) (jO _) ⟨m.testBit,C,hcl,u,J,⟨d,hd⟩,by simp_all,λ_=>P,by simp_all,by omega,
           by omega,by simp_all,by omega⟩ g.EG g.more (by omega) (by simp_all) (jO _) hkl⟩
       | true=>
         simp only[fy]at hv;obtain⟨⟨ob,mk⟩,aa,hv⟩:=hv;obtain⟨T,g⟩:=trace B hp l _ k _ _ _ r (T1 true (mk h.next) h.next ob s.H s.G) w c hv z (D _ _ _ _ _ _) (ZM hn0) (λj N=>ZM (hG j N)) hkl;obtain⟨U,P,W,s4,K,R,J⟩:=self g
         refine ⟨T,g.cons (by simp_all) (by grind) (jO _) ⟨m.testBit,C,hcl,u,J,⟨d,hd⟩,by simp_all,by simp_all,by simp_all,by omega,
           by omega,λ_ _=>⟨by simp_all,λj L M=>?_,λj N=>?_,by omega⟩,by omega⟩
           (λq hq=>g.EG q (by simp[hq])) ((DD.new h ob).trans g.more) (by omega) (λ_ _=>by rw[K];exact⟨jO _,OF _⟩) (OK _) hkl⟩
         ·rw[s4]at L
          rw[K,R];refine⟨?_,λj3=>?_⟩
          ·have e1:(h.new ob).next<=(T.H k).next:=g.more.1
           have e2:=GK g.chain (j-k) j (by omega) M;have:h.next<(h.new ob).next:=OF _;omega
          ·rcases g.EG _ (ZP ..) j L M with ab|hh
           ·grind
           grind[Av,O.eq_of_beq]
         ·rw[s4]at N
          rw[K,(g.Vk j N).2]
          grind
     ·
       have E:Nat.beq (cls a.o) 2=true:=by rw[hc];rfl
       rw[E]at c;simp only[vH]at c;obtain⟨F,c⟩:=c;have ac:k<ws.length:=by
        unfold isW at F;split at F
        ·grind
        ·cases F
       rw[hc]at hv;simp only[C0,ie,fy]at hv;obtain⟨X,b,hw,hv⟩:=hv;have ah:∀q∈rs,q.last<k\/Av h q=true:=by simp_all[Dd,Rp,KO,Qq]
       have ai:∀(b:Bool) (v:V) (h':Hp),qJ n all a.o t=some b->(yQ n all ws l (Nat.succ k)).f call (d.f t v) h' rs=some r->h.next<=h'.next->(b=false->v = .undef/\h' = h)->
         (b=true->(Ji a.o).f call t h=some (v,h'))->∃T,vj n all kP ws call t0 h0 (a::l) m k h rs r s T:=by
         intro b v h' hw hv hn aj am
         obtain ⟨T,g⟩:=trace B hp l _ (k+1) _ h' rs r (T1 b v 0 default (OP s.H k h) (OP s.G k h')) w c hv z (D _ _ _ _ _ _) (by omega)
           (fun j N=>by
             by_cases e:j=k
             ·subst e;show(OP s.G j h' j).next<=_;simp_all[oO,jO]
             grind[OP,Qp,KG]) ac
         obtain⟨U,P,W,s4,K,R,J⟩:=self g;obtain⟨g1,g2⟩:=g.Vk k (OF _);have S:T.H k=h:=g1.trans (oO _ _ _);have ae:T.G k=h':=g2.trans (oO _ _ _)
         refine ⟨T,g.cons (Y _ _ _ _ _ _) (by grind[Qp]) (OK _) ⟨m.testBit,C,hcl,u,J,⟨d,hd⟩,by grind,
           by grind,by omega,by omega,by omega,by omega,
           λ_=>⟨by grind,λho=>?_,λho=>?_⟩⟩ (λq hq j L M=>?_) (by rw[S];exact .refl h) (λj L M=>?_) (by omega) hn hkl⟩
         ·grind
         ·grind
         ·by_cases e:j=k
          ·grind
          ·exact g.EG q hq j (by omega) M
         ·have:j=k:=by omega
          subst this;rw[S,ae];exact⟨hn,g.more⟩
       cases b with
       |false=>grind
       | true=>
         grind[fy,ie,KS]
end
