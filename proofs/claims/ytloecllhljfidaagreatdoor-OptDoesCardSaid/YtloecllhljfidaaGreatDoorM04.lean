/- Parts. -/
import Derived.Test.YtloecllhljfidaaGreatDoorM03
set_option maxHeartbeats 4000000
namespace Go.Proofs.YtloecllhljfidaaGreatDoor.Hx
variable{kj:List It}{o:Oper}{a:Nat}{p:PF}{D:Nat->Bool}{call:Call}{val:Nat->V}{d n:Nat}{α:Type}{q:PF}{k:Nat}
def zF(call:Call):Prop:=∀f args v h h' Δ w ie,call f args h=some (v,h')->WR Δ h w->gW Δ args ie.toList-> (∃x,(callFunc f ie).run P0 w = .ok (.value x) w/\Km Δ h w v h' Δ x w)\/ ((callFunc f ie).run P0 w = .ok (.enter f ie) w/\Calls P0 f ie w λe w'=>∃a x,e = .returned x/\Km Δ h w v h' a x w')
section
variable{Δ:Env}{h:Hp}{w:World}{n:Nat}{t:Tm}{a:Act}
theorem Qf (hc:zF call) (i:WR Δ h w) (m:TR Δ n t a) {o:Oper} {v:V} {h':Hp} (hv:(JT o).f call t h=some (v,h')) {K:Act->World->Prop} {Q:Exit->Act->World->Prop}
  (p:∀k x w',Km Δ h w v h' k x w'->K (a.put o.dst x) w'):o.wp P0 a w K Q:=by
 unfold JT at hv;split at hv
 ·simp only[fR]at hv
  let⟨u,j,c⟩:=hv
  cases c
  let⟨x,b,d⟩:=zbS i m j
  unfold Oper.wp;rw[b,Oper.upon_value];exact p Δ x w ⟨d,i,.refl _ _,.refl _ _⟩
 ·simp only[fR]at hv
  let⟨⟨ob,mk⟩,j,c⟩:=hv
  cases c
  let⟨mo,mv,b,d⟩:=Tx m j
  let⟨k,a1,a2,a3,a4⟩:=i.alloc d
  unfold Oper.wp;rw[b w,Oper.upon_value];exact p k _ _ ⟨a2,a1,a3,a4⟩
 ·simp [fR]at hv
  let⟨r,j,c⟩:=hv
  rcases ZD i m j with⟨u,y,k,x,w',rfl,b,d⟩|⟨g,l,ie,rfl,b,d⟩
  ·cases c;unfold Oper.wp;rcases b with b|⟨rfl,b⟩
   ·grind[Oper.upon_value]
   grind[Oper.upon_skip]
  ·unfold Oper.wp;rw[d];rcases hc g l v h h' Δ w ie c i b with⟨x,q,s⟩|⟨q,s⟩
   ·grind[Oper.upon_value]
   ·rw[q,Oper.upon_enter];refine Calls.mono s λe w' z=>?_
    grind
theorem Z6(a:Act) (d:Nat) (x:Value) (i:Nat) (b:d<a.tmps.size):(a.put (some d) x).tmps.getD i undef=if d=i then x else a.tmps.getD i undef:=by
 simp[Act.put,wBQ]
 grind
theorem put_defers(a:Act)(d:Option Tmp)(x:Value):(a.put d x).defers=a.defers:=by cases d <;> rfl
theorem NA(c:TR Δ n t a) {o:Oper} {d:DF} (b:AZ n o=some d) {v:V} {x:Value} (hv:fZ Δ v x):TR Δ n (d.f t v) (a.put o.dst x):=by
 unfold AZ at b
 cases ho:o.dst with
 |none=>simp[ho]at b;cases b;exact c
 | some k=>
   simp[ho]at b
   cases hk:Nat.blt k n with
   |false=>simp_all
   | true=>
     simp[hk]at b;cases b;have e:k<a.tmps.size:=by rw[c.size,<-UC];exact hk
     refine⟨by simp[Act.put,c.size],λi=>?_,by rw[put_defers];show Ms Δ (t.set k v).ds _;rw[Tm.ZS];exact c.ds⟩;rw[Z6 _ _ _ _ e];show fZ Δ (j5 (t.set k v) i) _;rw[NZ];by_cases h:k=i
     ·simp_all
     ·rw[if_neg h,if_neg h];exact c.rel i
theorem PJ {ops:List Oper}  (a:kR n ops o=none) (y:Nat->Option Bool):Region.wanted o y=true:=by
 grind[kR,Region.wanted]
theorem Qc(l:TR Δ n t a) {ops:Array Oper} {o:Oper} {g:GF} (e:kR n ops.toList o=some g) {b:Bool} (hb:g.f t=some b):Region.wanted o (yielded ops a.tmps)=b:=by
 unfold kR at e;unfold Region.wanted
 cases hg:o.guard with
 |none=>simp_all
 | some p =>
   let⟨j,wt⟩:=p
   simp only[hg]at e⊢;unfold yielded
   cases hj:ops.toList[j]? with
   | none=>
     grind
   | some m=>
     have k:ops[j]? =some m:=by rw[<-wBI];exact hj
     simp[hj]at e;simp[k,Option.bind_some]
     cases hd:m.dst with
     | none=>
       grind
     | some d=>
       simp[hd]at e;simp[Option.bind_some]
       cases Nr:Nat.blt d n with
       |false=>grind
       | true=>
         simp[Nr]at e;cases e;have h:d<a.tmps.size:=by rw[l.size,<-UC];exact Nr
         have i:=l.rel d;have q:a.tmps[d]? =some (a.tmps.getD d undef):=by simp[h]
         rw[q];generalize a.tmps.getD d undef=x at i;simp only at hb;split at hb
         ·rename_i r c
          cases hb;rw[c]at i;cases i;cases wt <;> cases r <;> rfl
         ·rename_i c
          cases hb;rw[c]at i;cases i <;> grind
         ·cases hb
structure EW (Δ:Env) (h:Hp) (w:World) (n:Nat) (t':Tm) (h':Hp) (a:Env) (a':Act) (w':World):Prop where
 tmps:TR a n t' a'
 world:WR a h' w'
 frame:FR Δ a w w'
 grow:Gr h Δ h' a
theorem EW.start(b:TR Δ n t a)(c:WR Δ h w):EW Δ h w n t h Δ a w:=⟨b,c,.refl _ _,.refl _ _⟩
theorem EW.trans{a b:Env} {c d:Hp} {e f:World} {i g:Tm} {a1 a2:Act} (x:EW Δ h w n i c a a1 e) (y:EW a c e n g d b a2 f):EW Δ h w n g d b a2 f:=
 ⟨y.tmps,y.world,x.frame.trans y.frame,x.grow.trans y.grow⟩
theorem EW.put(g:TR Δ n t a) {o:Oper} {d:DF} (b:AZ n o=some d) {v:V} {h':Hp} {e:Env} {x:Value} {w':World} (c:Km Δ h w v h' e x w') :
  EW Δ h w n (d.f t v) h' e (a.put o.dst x) w':=
 ⟨NA (g.mono c.frame.le) b c.val,c.world,c.frame,c.grow⟩
theorem zbg (hc:zF call) {ops:Array Oper} {i:Nat} {o:Oper} (hi:ops[i]? =some o) {c:SF} {K:Act->World->Prop} {Q:Exit->Act->World->Prop}
  (m:WR Δ h w) (e:TR Δ n t a) {r:Tm×Hp} (hv:(Lp n ops.toList o c).f call t h=some r)
  (p:∀t' h' q a' w',c.f call t' h' = some r->EW Δ h w n t' h' q a' w'->K a' w'):wpOp P0 ops Q i K a w:=by
 unfold Lp at hv;unfold wpOp;simp[hi]
 cases hdst:AZ n o with
 |none=>simp[hdst]at hv;cases hv
 | some d=>
   simp [hdst]at hv;have s:∀x,oB ((JT o).f call t h) (λr=>c.f call (d.f t r.1) r.2)=some x->x=r->o.wp P0 a w K Q:=by
     intro x hx j;subst j;rw[fR]at hx
     let⟨⟨v,h'⟩,k,l⟩:=hx
     exact Qf hc m e k λq x w' u=>p _ _ _ _ _ l (EW.put e hdst u)
   cases hg:kR n ops.toList o with
   | none=>
     simp[hg]at hv;rw[if_pos (PJ hg _)]
     grind
   | some g=>
     simp only[hg,fR]at hv
     let⟨b,k,l⟩:=hv
     rw[Qc e hg k]
     cases b with
     |true=>simp_all
     |false=>exact p _ _ _ _ _ l (EW.put e hdst ⟨.undef Δ,m,.refl _ _,.refl _ _⟩)
theorem PQ (hc:zF call) {ops:Array Oper} {Q:Exit->Act->World->Prop}:∀l k,l=ops.toList.drop k->∀{Δ:Env} {h:Hp} {w:World} {t:Tm} {a:Act},
  WR Δ h w->TR Δ n t a->∀{r:Tm×Hp},(vH n ops.toList l).f call t h=some r->(∀d a' w',EW Δ h w n r.1 r.2 d a' w'->Q .normal a' w')->
  wpOps P0 ops Q (List.range' k l.length) a w
 | [],k,hl,Δ,h,w,t,a,hW,hT,r,hv,hQ=>by
   cases hv
   exact hQ _ _ _ (.start hT hW)
 | o ::l,k,hl,Δ,h,w,t,a,hW,hT,r,hv,hQ=>by
   have hk:ops[k]? =some o:=by
     have:(ops.toList.drop k)[0]? =some o:=by rw[<-hl];rfl
     rw[wBa,Nat.add_zero]at this;simpa using this
   have b:l=ops.toList.drop (k+1):=by
     rw[<-wBr,<-hl];rfl
   rw[VS,List.range'_succ];refine zbg hc hk hW hT hv λt' h' d a' w' e c=>?_;exact PQ hc l (k+1) b c.world c.tmps e λg i j m=>hQ _ _ _ (c.trans m)
end
def G1(c:Code) (Q:Exit->Act->World->Prop) (a:Act) (w:World):Prop:=∀b k cs,∃e a' w',Q e a' w'/\Arrives P0 (lone (b.at a (.code c:: .inLoop c::k)) cs w) b k cs e a' w'
theorem G1.round{c:Code} {Q:Exit->Act->World->Prop} {a:Act} {w:World} (h:c.wp P0 (Exit.then (G1 c Q) Q) a w):G1 c Q a w:=by
 intro b k cs
 let⟨e,a₁,w₁,hq,harr⟩:=h b (.inLoop c::k) cs
 cases e with
 | normal=>
   let⟨e₂,a₂,w₂,hq₂,harr₂⟩:=hq b k cs
   exact⟨e₂,a₂,w₂,hq₂,.of_steps (Steps.trans harr (.one step_inLoop)) harr₂⟩
 |exit id=>exact⟨_,a₁,w₁,hq,.pass rfl (by simp_all) harr⟩
 |goto l=>exact⟨_,a₁,w₁,hq,.pass rfl (by simp_all) harr⟩
 |ret=>exact⟨_,a₁,w₁,hq,.pass rfl (by simp_all) harr⟩
 |panic ch=>exact⟨_,a₁,w₁,hq,.pass rfl (by simp_all) harr⟩
 |outgrown=>exact⟨_,a₁,w₁,hq,.pass rfl (by simp_all) harr⟩
theorem G1.wp{c:Code} {Q:Exit->Act->World->Prop} {a:Act} {w:World} (h:G1 c Q a w):(Code.loop c).wp P0 Q a w:=
 λb k cs=>let⟨e,a',w',q,r⟩:=h b k cs;⟨e,a',w',q,.of_steps (.one step_loop) r⟩
def Alike(t t':Tm)(x:Operand):Prop:=(Pg x).f t=(Pg x).f t'
theorem Kb{t t':Tm} {l:List Operand} (h:∀d,d∈CB l->j5 t d=j5 t' d):∀x∈l,Alike t t' x:=by
 induction l with
 |nil=>simp_all
 | cons y l a=>
   intro x hx
   cases hx with
   | head=>
     unfold Alike
     cases y <;> grind[j5,CB,Pg]
   | tail _ hx=>
     refine a (λd b=>h d ?_) x hx;cases y <;> simp[CB,b]
section
variable{t t':Tm}{h:Hp}
theorem iK{x:Operand} (hx:Alike t t' x):(Ab x).f t h=(Ab x).f t' h:=by
 unfold Alike at hx;cases x <;> grind[Ab]
theorem EJ:∀{l:List Operand},(∀x∈l,Alike t t' x)->NP t l=NP t' l
 |[],_=>rfl
 | x::l,hl=>by
   have a:(Pg x).f t=(Pg x).f t':=hl x (by simp);simp only[NP,a,EJ (l:=l) (by simp_all)]
theorem Cs:∀{l:List (Nat×Operand)},(∀x∈l,Alike t t' x.2)->yf t l=yf t' l
 |[],_=>rfl
 | x::l,hl=>by
   have a:(Pg x.2).f t=(Pg x.2).f t':=hl x (by simp);simp only[yf,a,Cs (l:=l) (by grind)]
theorem Va{x:Option Operand} (hx:∀y,x=some y->Alike t t' y):Ko x t h=Ko x t' h:=by
 cases x with
 |none=>rfl
 |some y=>simp only[Ko,iK (hx y rfl)]
theorem Tj{ty:Nat}  (hp:p.f t h=p.f t' h):(Of ty p).f t h=(Of ty p).f t' h:=by
 grind[Of]
theorem SP{b:Nat}  (hp:p.f t h=p.f t' h):(Qb a b p).f t h=(Qb a b p).f t' h:=by
 grind[Qb]
theorem Md{b:Nat}  (hp:p.f t h=p.f t' h):(sd a p b).f t h=(sd a p b).f t' h:=by
 grind[sd]
theorem Mc  (hp:p.f t h=p.f t' h) (hq:q.f t h=q.f t' h):(rX a p q).f t h=(rX a p q).f t' h:=by
 grind[rX]
theorem Rp  (hp:p.f t h=p.f t' h) (hq:q.f t h=q.f t' h):(J7 a p q).f t h=(J7 a p q).f t' h:=by
 grind[J7]
theorem Q6  {lo hi:Option Operand} (hp:p.f t h=p.f t' h) (b:Ko lo t h=Ko lo t' h) (c:Ko hi t h=Ko hi t' h) :
  (Ml a p lo hi).f t h=(Ml a p lo hi).f t' h:=by
 grind[Ml]
theorem Po  {ok:Bool} (hp:p.f t h=p.f t' h) (hq:q.f t h=q.f t' h):(HS a p q ok).f t h=(HS a p q ok).f t' h:=by
 grind[HS]
theorem VD  (hp:p.f t h=p.f t' h):(hlen a p).f t h=(hlen a p).f t' h:=by
 grind[hlen]
theorem TM{c:PF} (hc:c.f t h=c.f t' h) (hp:p.f t h=p.f t' h) (hq:q.f t h=q.f t' h):(MH c p q).f t h=(MH c p q).f t' h:=by
 grind[MH]
theorem Rv {b:List (Nat×Operand)} (hp:yf t b=yf t' b):(Ka a b).f t h=(Ka a b).f t' h:=by
 unfold Ka;grind
theorem Jy (hx:∀x∈o.op.operands.toList,Alike t t' x):(iJ o).f t h=(iJ o).f t' h:=by
 obtain⟨dst,op,ty,pos,af,gd⟩:=o;cases op <;> simp only[iJ] <;> simp only[Op.operands]at hx
 case move x=>grind[iK]
 case assign x=>grind[iK]
 case pick c a b=>exact TM (by grind[iK]) (by grind[iK]) (by grind[iK])
 case load ty a=>grind[Tj,iK]
 case nilCheck x=>grind[Ap,iK]
 case binOp op xt x y b=>grind[iK]
 case unOp op b x=>grind[iK]
 case convert s d x=>grind[SP,iK]
 case build ty ps=>grind[Rv,Cs]
 case makeFunc fn first caps=>
  cases fn with
  |func f=>grind[EJ]
  |_=>rfl
 case slice ty x lo hi mx=>
  cases mx with
  |none=>grind[Q6,iK,Va]
  |some _=>rfl
 case fieldAddr s x f=>grind[Md,iK]
 case indexAddr ty x i=>grind[Mc,iK]
 case index ty x i=>grind[Rp,iK]
 case lookup ty m k ok=>grind[Po,iK]
 case extract x i=>grind[GY,iK]
 case call c=>
  obtain⟨e,args,g⟩:=c
  cases e with
  | builtin b=>
    have j:∀x∈args.toList,Alike t t' x:=by grind[Call.operands]
    cases b <;> simp only
    case len=>
      split
      ·grind[VD,iK]
      ·rfl
    case min=>grind[EJ]
    all_goals rfl
  |_=>rfl
 all_goals rfl
theorem Qp{x:Operand}(hx:Alike t t' x):(Pg x).f t=(Pg x).f t':=hx
theorem MK (hx:∀x∈o.op.operands.toList,Alike t t' x):(su o).f t=(su o).f t':=by
 obtain⟨dst,op,ty,pos,af,gd⟩:=o;cases op <;> simp only[su] <;> simp only[Op.operands]at hx
 case alloc e=>split <;> rfl
 case box e x=>grind[Qp]
 case buildSlice ty len parts=>
  (repeat' split) <;> first
   |rfl
   |grind[Ho,Cs]
 case makeSlice ty n c=>
  (repeat' split) <;> first
   |rfl
   |grind[Qp]
 case makeMap ty r=>
  cases r with
  |none=>simp only;split <;> rfl
  |some _=>rfl
 all_goals rfl
theorem TU (hx:∀x∈o.op.operands.toList,Alike t t' x):(mr o).f t h=(mr o).f t' h:=by
 obtain⟨dst,op,ty,pos,af,gd⟩:=o;cases op <;> simp only[mr] <;> simp only[Op.operands]at hx
 case store ty a x=>
  split
  ·grind[iK]
  ·rfl
 case mapUpdate ty m k x=>
  (repeat' split) <;> first
   |rfl
   |grind[iK]
 case call c=>
  obtain⟨e,args,g⟩:=c
  cases e with
  | builtin b=>
    have l:∀x∈args.toList,Alike t t' x:=by grind[Call.operands]
    cases b <;> simp only
    case append=>
      split
      ·rename_i s x i j d _
       (repeat' split) <;> first
         |rfl
         |grind[iK]
      ·rfl
    case delete=>
      split
      ·rename_i s x i j d _
       (repeat' split) <;> first
         |rfl
         |grind[iK]
      ·rfl
    all_goals rfl
  | value f=>
    grind[Alike,Call.operands,iK,EJ]
  |_=>rfl
 all_goals rfl
theorem Ny  (hx:∀x∈o.op.operands.toList,Alike t t' x):(JT o).f call t h=(JT o).f call t' h:=by
 grind[JT,Jy,MK,TU]
end
theorem C9:∀l i b k a,(items l i b)[k]? =some a->a.i=i+k/\l[k]? =some a.o
 |[],i,b,k,a,h=>by grind[items]
 |o::os,i,b,0,a,h=>by simp[items]at h;grind
 | o::os,i,b,k+1,a,h=>by
   let⟨c,d⟩:=C9 os (i+1) _ k a h
   grind
theorem KS:∀l i a,(items l i a).length=l.length
 |[],i,a=>rfl
 |o::os,i,a=>by simp[items,KS os]
theorem CD(a:List Nat) (x:Nat):∀b m,(NX a b m).testBit x=true->m.testBit x=true\/∃e∈b,NQ e=true/\(x=e.on\/(a[e.on]?.getD 0).testBit x=true)
 |[],m,h=> .inl h
 | e ::b,m,h=>by
   simp[NX]at h;split at h
   ·rename_i hb
    rcases CD a x b _ h with c|⟨e',f,d,c⟩
    ·grind
    grind
   ·rcases CD a x b _ h with c|⟨e',f,d,c⟩
    ·simp_all
    grind
theorem Wg:∀l i c k a,(items l i c)[k]? =some a->
  a.b=NX (c++((items l i c).take k).map (·.b)) a.o.after.toList 0
 |[],i,c,k,a,h=>by grind[items]
 |o::os,i,c,0,a,h=>by grind[items]
 | o::os,i,c,k+1,a,h=>by
   have:=Wg os (i+1) _ k a h
   grind[items,Pr]
theorem NT{l:List Oper}  {a:It} (h:(items l 0 [])[k]? =some a) {x:Nat} (hx:a.b.testBit x=true) :
  ∃e∈a.o.after.toList,NQ e=true/\(x=e.on\/∃y,(items l 0 [])[e.on]? =some y/\y.b.testBit x=true):=by
 rw[Wg l 0 [] k a h]at hx;rcases CD _ x _ _ hx with c|⟨e,d,hb,c⟩
 ·simp_all
 ·refine ⟨e,d,hb,?_⟩;rcases c with c|c
  ·omega
  ·right;rw[UA,zq]at c
   grind
theorem HZ(e:Edge):Region.binds .any e=NQ e:=by
 rfl
def qZ(val:Nat->V)(D:Nat->Bool)(d:Nat)(kj:List It)(b:V):V:=kj.foldl (λv a=>if D a.i=true/\a.o.dst=some d then val a.i else v) b
theorem sB{b:Nat->V} {D':Nat->Bool}   (e:∀a∈kj,a.o.dst=some d->D a.i=D' a.i) (f:∀a∈kj,a.o.dst=some d->D a.i=true->val a.i=b a.i) (c:V) :
  qZ val D d kj c=qZ b D' d kj c:=by
 unfold qZ
 induction kj generalizing c <;> grind
theorem JX    (h:∀a∈kj,a.o.dst=some d->D a.i=false) (b:V):qZ val D d kj b=b:=by
 unfold qZ
 induction kj generalizing b <;> grind
theorem Yt    (f:∀k (x:It),kj[k]? =some x->x.i=k) {a:It} (g:a∈kj) (j:a.o.dst=some d) (l:D a.i=true)
  (h:∀x∈kj,a.i<x.i->x.o.dst=some d->D x.i=false) (m:V):qZ val D d kj m=val a.i:=by
 let⟨k,hk⟩:=mn.1 g
 have e:k<kj.length:=by grind
 have b:kj=kj.take k++a::kj.drop (k+1):=by
  have n:kj.drop k=a::kj.drop (k+1):=by
   rw[YD e];rw[gN e]at hk;cases hk;rfl
  rw[<-n,wA1]
 have c:∀x∈kj.drop (k+1),x.o.dst=some d->D x.i=false:=by
  intro x hx p
  let⟨q,hq⟩:=mn.1 hx
  rw[wBa]at hq;have:=f _ x hq;exact by grind
 unfold qZ;rw[b,List.foldl_append,List.foldl_cons,if_pos ⟨l,j⟩];exact JX c _
def Dx(h h':Hp):Prop:=h.next<=h'.next/\∀l,l<h.next->h'.get l=h.get l
theorem Dx.refl(h:Hp):Dx h h:=⟨iZ _,λ_ _=>rfl⟩
theorem Dx.trans{h h' c:Hp}(a:Dx h h')(b:Dx h' c):Dx h c:=⟨Gq a.1 b.1,λl d=>by rw[b.2 l (Ep d a.1),a.2 l d]⟩
theorem Dx.new(h:Hp)(o:O):Dx h (h.new o):=⟨PH _,by simp_all[xN,if_neg,Nat.ne_of_gt]⟩
theorem WR.Q3{Δ:Env} {h h':Hp} {w:World} (a:WR Δ h w) (b:Dx h h'):WR Δ h' w where
 fresh:=λl d f=>Ep (a.fresh l d f) b.1
 nJ:=a.nJ
 obj:=λl d f=>by rw[b.2 l (a.fresh l d f)];exact a.obj l d f
 apart:=λm i e e' p r k n j o q=>by
  rw[b.2 m (a.fresh m e k)]at o;rw[b.2 i (a.fresh i e' n)]at q;exact a.apart m i e e' p r k n j o q
 JN:=λg p c hp=>by
  rw[b.2 g (Ep c a.zV)]at hp;exact a.JN g p c hp
 zV:=Gq a.zV b.1
 V9:=a.V9
theorem O.eq_of_beq{a b:O} (h:O.beq a b=true):a=b:=by
 unfold O.beq at h;split at h
 ·simp[ Bg]at h;obtain⟨⟨⟨⟨rfl,rfl⟩,rfl⟩,rfl⟩,c⟩:=h
  grind[V.yM]
 ·simp_all
 ·cases h
structure Tc where
 on:Nat->Bool
 val:Nat->V
 tt:Nat->Tm
 ep:Nat->Nat
 pl:Nat->Nat
 ob:Nat->O
 H:Nat->Hp
 G:Nat->Hp
def Az(kj:List It)(D:Nat->Bool):Prop:=∀a∈kj,D a.i=true->∀x∈kj,a.b.testBit x.i=true->D x.i=true
section
variable (n:Nat)(all:List Oper)(kj ws:List It)(call:Call)(t0:Tm)(h0:Hp)
structure NM (T:Tc) (D:Nat->Bool) (a:It):Prop where
 fresh:D a.i=false
 closed:Az kj D
 fh:∀x∈kj,a.b.testBit x.i=true->D x.i=true
 qm:∀d,j5 (T.tt a.i) d=qZ T.val D d kj (j5 t0 d)
 dst:∃d,AZ n a.o=some d
 qK:qK n all a.o (T.tt a.i)=some (T.on a.i)
 off:T.on a.i=false->T.val a.i = .undef
 epw:cls a.o≠2->Ni ws a (T.ep a.i)=true
 epl:T.ep a.i<=ws.length
 pure:cls a.o=0->T.on a.i=true->∀j,T.ep a.i<=j->j<=ws.length->j<=late ws a->(iJ a.o).f (T.tt a.i) (T.H j)=some (T.val a.i)
 alloc:cls a.o=1->T.on a.i=true->(∃mk,(su a.o).f (T.tt a.i)=some (T.ob a.i,mk)/\T.val a.i=mk (T.pl a.i))/\
  (∀j,T.ep a.i<=j->j<=ws.length->T.pl a.i<(T.H j).next/\(j<=late ws a->(T.H j).get (T.pl a.i)=some (T.ob a.i)))/\
  (∀j,j<T.ep a.i->(T.G j).next<=T.pl a.i)/\h0.next<=T.pl a.i
 write:cls a.o=2->isW ws a (T.ep a.i)=true/\(T.on a.i=true->(JT a.o).f call (T.tt a.i) (T.H (T.ep a.i))=some (T.val a.i,T.G (T.ep a.i)))/\
  (T.on a.i=false->T.G (T.ep a.i)=T.H (T.ep a.i))
structure vI (l:List It) (m k:Nat) (h:Hp) (rs:List Rec) (r:Tm×Hp) (b T:Tc):Prop where
 same:∀i,m.testBit i=true->T.on i=b.on i/\T.val i=b.val i/\T.tt i=b.tt i/\T.ep i=b.ep i/\T.pl i=b.pl i/\T.ob i=b.ob i
 WB:∀j,j<k->T.H j=b.H j/\T.G j=b.G j
 item:∀a∈l,∃D,NM n all kj ws call t0 h0 T D a
 EB:∀r∈rs,∀j,k<=j->j<=ws.length->r.last<j\/z7 (T.H j) r=true
 more:Dx h (T.H k)
 chain:∀j,k<=j->j<ws.length->(T.H j).next<=(T.G j).next/\Dx (T.G j) (T.H (j+1))
 XG:∀a∈l,cls a.o=1->T.on a.i=true->h.next<=T.pl a.i
 Wu:∀a∈l,∀a'∈l,cls a.o=1->cls a'.o=1->T.on a.i=true->T.on a'.i=true->a.i≠a'.i->T.pl a.i≠T.pl a'.i
 last:r.2=T.H ws.length
 qm:∀d,j5 r.1 d=qZ T.val (λ_=>true) d kj (j5 t0 d)
 done:∀a∈kj,m.testBit a.i=true\/a.i∈l.map (·.i)
 kle:k<=ws.length
end
theorem Hl{ws:List It} {T:Tc}  (h:∀j,k<=j->j<ws.length->(T.H j).next<=(T.G j).next/\Dx (T.G j) (T.H (j+1))):∀m j,j=k+m->j<=ws.length->(T.H k).next<=(T.H j).next:=by
 intro m
 induction m with
 |zero=>simp_all
 | succ m b=>
   intro j g c;obtain⟨a,rfl⟩:∃a,j=a+1:=⟨j-1,by omega⟩
   have d:=b a (by omega) (by omega)
   let⟨e,f⟩:=h a (by omega) (by omega)
   exact Gq d (Gq e f.1)
theorem zaf(m i x:Nat):(m |||2 ^ i).testBit x=(m.testBit x ||decide (i=x)):=by grind
theorem MM{l:List It} (h:sX l=true):∀(i j:Nat) a b,i<j->l[i]? =some a->l[j]? =some b->RC a b=true:=by
 induction l with
 |nil=>simp_all
 | cons x l d=>
   intro i j a b c e hb;simp[sX,vU]at h
   grind
theorem PU (c:∀k (x:It),kj[k]? =some x->x.i=k) (hp:sX kj=true) {a x:It} (g:a∈kj) (hx:x∈kj) {d:Nat} (h:d∈sZ a.o) (e:x.o.dst=some d) :
  (x.i<a.i->a.b.testBit x.i=true)/\(a.i<x.i->x.b.testBit a.i=true):=by
 let⟨i,hi⟩:=mn.1 g
 let⟨j,hj⟩:=mn.1 hx
 have l:=c i a hi;have m:=c j x hj;have n:writes x.o (sZ a.o)=true:=by simp[writes,e,h]
 constructor
 ·intro f;have:=MM hp j i x a (by omega) hj hi
  grind[RC]
 ·intro f;have:=MM hp i j a x (by omega) hi hj
  grind[RC]
theorem X0(h:o.dst=some d):d∈sZ o:=by simp[sZ,h]
theorem JK (e:∀k (x:It),kj[k]? =some x->x.i=k) (hp:sX kj=true) {a:It} (f:a∈kj) {D D':Nat->Bool} (n:Az kj D) (g:Az kj D')
  (r:∀x∈kj,a.b.testBit x.i=true->D x.i=true) (p:∀x∈kj,a.b.testBit x.i=true->D' x.i=true) (m:D a.i=false) (c:D' a.i=false) {d:Nat} (q:d∈sZ a.o) (val:Nat->V) (j:V) :
  qZ val D d kj j=qZ val D' d kj j:=by
 refine sB (λx hx l=>?_) (by simp_all) j
 let⟨p1,p2⟩:=PU e hp f hx q l
 rcases wB1 x.i a.i with h|h|h
 ·simp_all
 ·simp_all
 ·have s:D x.i=false:=by
   cases hh:D x.i with
   |false=>rfl
   |true=>rw[n x hx hh a f (p2 h)]at m;cases m
  have t:D' x.i=false:=by
   cases hh:D' x.i with
   |false=>rfl
   |true=>rw[g x hx hh a f (p2 h)]at c;cases c
  simp_all
theorem Im (c:∀k (x:It),kj[k]? =some x->x.i=k) (hp:sX kj=true) {a:It} (l:a∈kj) {D D':Nat->Bool} (p:Az kj D) (n:D a.i=false)
  (g:∀i,D' i=(D i ||decide (a.i=i))) {val b:Nat->V} (hv:∀i,D i=true->b i=val i) (d:Nat) (m:V) :
  qZ b D' d kj m=if a.o.dst=some d then b a.i else qZ val D d kj m:=by
 by_cases hd:a.o.dst=some d
 ·rw[if_pos hd];refine Yt c l hd (by simp_all) (λx hx h f=>?_) m;rw[g];have q:=TL h;have:=(PU c hp l hx (X0 hd) f).2 h
  cases hh:D x.i with
  |false=>simp_all
  |true=>rw[p x hx hh a l this]at n;cases n
 ·rw [if_neg hd];refine sB (λx hx f=>?_) (λx hx f r=>?_) m
  ·rw [g];have:a.i≠x.i:=by
    intro e
    let⟨i,hi⟩:=mn.1 l
    let⟨j,hj⟩:=mn.1 hx
    have s:=c i a hi;have t:=c j x hj;have:i=j:=by omega
    subst this;rw[hi]at hj;cases hj;exact hd f
   simp_all
  grind[mn]
def Pu(f:Nat->α)(i:Nat)(v:α):Nat->α:=λj=>if j=i then v else f j
theorem nQ(f:Nat->α)(i:Nat)(v:α):Pu f i v i=v:=if_pos rfl
theorem RI(f:Nat->α){i j:Nat}(v:α)(h:j≠i):Pu f i v j=f j:=if_neg h
theorem LB(o:Oper):cls o=0\/cls o=1\/cls o=2:=by
 unfold cls
 grind
theorem KD  {d:DF} (h:AZ n o=some d) (t:Tm) (v:V) (i:Nat):j5 (d.f t v) i=if o.dst=some i then v else j5 t i:=by
 unfold AZ at h
 cases ho:o.dst with
 |none=>grind
 | some k=>
   simp only[ho]at h
   cases hk:Nat.blt k n with
   |false=>simp_all
   | true=>
     simp only[hk]at h;cases h;show j5 (t.set k v) i=_
     simp_all[NZ,if_pos,if_neg]
theorem yT  {d:DF} (h:AZ n o=some d) (t:Tm) (v:V):(d.f t v).ds=t.ds:=by
 grind[AZ,Nat.blt,Tm.ZS]
theorem B1 {all:List Oper} {ws:List It} :∀(l:List It) (k:Nat) {t:Tm} {h:Hp} {rs:List Rec} {r:Tm×Hp},(yN n all ws l k).f call t h rs=some r->r.1.ds=t.ds
 | [],_,t,h,rs,r,hv=>by
   grind[yN,jf]
 | a ::l,k,t,h,rs,r,hv=>by
   unfold yN at hv
   cases hd:AZ n a.o with
   |none=>simp_all
   | some d=>
     rw[hd]at hv;simp only at hv;split at hv
     ·simp only[Jl,fR]at hv
      obtain⟨b,_,c⟩:=hv
      cases b with
      |false=>rw[B1 l _ c,yT hd]
      | true=>
        simp only[fR]at c;obtain⟨x,_,e⟩:=c;rw[B1 l _ e,yT hd]
     ·simp only[G7,fR]at hv
      obtain⟨b,_,c⟩:=hv
      cases b with
      |false=>rw[B1 l _ c,yT hd]
      | true=>
        simp only[fR]at c;obtain⟨x,_,e⟩:=c;rw[B1 l _ e,yT hd]
     ·simp only[CM,fR,jf]at hv
      obtain⟨_,b,_,c⟩:=hv
      cases b with
      |false=>rw[B1 l _ c,yT hd]
      | true=>
        simp only[fR,jf]at c;obtain⟨x,_,_,e⟩:=c;rw[B1 l _ e,yT hd]
section
variable{n:Nat}{all:List Oper}{kj ws:List It}{call:Call}{t0:Tm}{h0:Hp}
theorem vI.cons{l:List It} {a:It} {m k':Nat} {h h':Hp} {rs z:List Rec} {r:Tm×Hp} {c T1 T:Tc} (b:vI n all kj ws call t0 h0 l (m |||2 ^ a.i) k' h' z r T1 T)
  (C:∀i,m.testBit i=true->T1.on i=c.on i/\T1.val i=c.val i/\T1.tt i=c.tt i/\T1.ep i=c.ep i/\T1.pl i=c.pl i/\T1.ob i=c.ob i)
  (J:∀j,j<k->T1.H j=c.H j/\T1.G j=c.G j) (hk:k<=k') (d:∃D,NM n all kj ws call t0 h0 T D a)
  (e:∀r∈rs,∀j,k<=j->j<=ws.length->r.last<j\/z7 (T.H j) r=true) (f:Dx h (T.H k))
  (w:∀j,k<=j->j<k'->(T.H j).next<=(T.G j).next/\Dx (T.G j) (T.H (j+1)))
  (v:cls a.o=1->T.on a.i=true->h.next<=T.pl a.i/\T.pl a.i<h'.next) (g:h.next<=h'.next) (A:k<=ws.length):vI n all kj ws call t0 h0 (a::l) m k h rs r c T where
 same:=λi hi=>by
  obtain⟨a1,a2,a3,a4,K,L⟩:=b.same i (by simp_all)
  simp_all
 WB:=λj E=>by
  obtain⟨a1,a2⟩:=b.WB j (by omega)
  simp_all
 item:=λx hx=>by
  cases hx with
  |head=>exact d
  |tail _ hx=>exact b.item x hx
 EB:=e
 more:=f
 chain:=λj C F=>by
  by_cases E:j<k'
  ·simp_all
  ·exact b.chain j (by omega) F
 XG:=λx hx hc I=>by
  cases hx with
  |head=>simp_all
  |tail _ hx=>exact Gq g (b.XG x hx hc I)
 Wu:=λx hx y u p q s t B=>by
  cases hx with
  | head=>
    cases u with
    |head=>omega
    |tail _ u=>have:=(v p s).2;have:=b.XG y u q t;omega
  | tail _ hx=>
    cases u with
    |head=>have:=(v q t).2;have:=b.XG x hx p s;omega
    |tail _ u=>exact b.Wu x hx y u p q s t B
 last:=b.last
 qm:=b.qm
 done:=λx hx=>by
  rcases b.done x hx with h|h
  ·grind
  simp_all
 kle:=A
theorem trace(B:∀(k:Nat) (x:It),kj[k]? =some x->x.i=k) (hp:sX kj=true):∀(l:List It) (m k:Nat) (t:Tm) (h:Hp) (rs:List Rec) (r:Tm×Hp) (s:Tc),
  (∀a∈l,a∈kj)->yd kj ws l m k=true->(yN n all ws l k).f call t h rs=some r->Az kj m.testBit->(∀d,j5 t d=qZ s.val m.testBit d kj (j5 t0 d))->
  h0.next<=h.next->(∀j,j<k->(s.G j).next<=h.next)->k<=ws.length->∃T,vI n all kj ws call t0 h0 l m k h rs r s T
 | [],m,k,t,h,rs,r,s,XX,c,hv,hcl,ht,hn0,hG,hkl=>by
   simp only[yd,vU]at c;obtain⟨ae,hk⟩:=c;have aj:k=ws.length:=Iw hk;simp only[yN,jf]at hv;obtain⟨W,hv⟩:=hv;cases hv;refine⟨{s with H:=Pu s.H k h},⟨by simp_all,λj M=>⟨by grind[RI],rfl⟩,by simp_all,?_,?_,by omega,by simp_all,by simp_all,?_,?_,?_,hkl⟩⟩
   ·intro q hq j X h2
    have:j=k:=by omega
    simp_all[z7,Pu,nQ,CI,Sj,OK,UC]
   ·grind[Dx,Pu,nQ]
   ·grind[Pu,nQ]
   ·intro d
    rw[ht d];refine sB (λa ha _=>?_) (by simp_all) _
    simp_all
   simp_all
 | a ::l,m,k,t,h,rs,r,s,XX,c,hv,hcl,ht,hn0,hG,hkl=>by
   have ha:a∈kj:=by simp_all
   have w:∀x∈l,x∈kj:=by simp_all
   simp only[yd,vU,Bool.not_eq_true']at c;obtain⟨C,ak,c⟩:=c;have u:∀x∈kj,a.b.testBit x.i=true->m.testBit x.i=true:=by grind
   have z:Az kj (m |||2 ^ a.i).testBit:=λx hx A y hy hb=>by
     rw[zaf]at A⊢;simp only[OK,zX]at A;rcases A with A|A
     ·rw[hcl x hx A y hy hb];rfl
     grind[mn]
   simp only[yN]at hv
   cases hd:AZ n a.o with
   |none=>simp_all
   | some d =>
     simp only[hd]at hv
     let T1:Bool->V->Nat->O->(Nat->Hp)->(Nat->Hp)->Tc:=λb v p ob H G=>⟨Pu s.on a.i b,Pu s.val a.i v,Pu s.tt a.i t,Pu s.ep a.i k,Pu s.pl a.i p,Pu s.ob a.i ob,H,G⟩
     have X:∀b v p ob H G,∀i,m.testBit i=true->(T1 b v p ob H G).on i=s.on i/\(T1 b v p ob H G).val i=s.val i/\(T1 b v p ob H G).tt i=s.tt i/\(T1 b v p ob H G).ep i=s.ep i/\
        (T1 b v p ob H G).pl i=s.pl i/\(T1 b v p ob H G).ob i=s.ob i:=by grind[RI]
     have D:∀b v p ob H G,∀d',j5 (d.f t v) d' = qZ (T1 b v p ob H G).val (m |||2 ^ a.i).testBit d' kj (j5 t0 d'):=by grind[KD,Im,zaf,j5,Pu,nQ]
     have self:∀{b v p ob H G l' k' h' P T},vI n all kj ws call t0 h0 l' (m |||2 ^ a.i) k' h' P r (T1 b v p ob H G) T->
        T.on a.i=b/\T.val a.i=v/\T.tt a.i=t/\T.ep a.i=k/\T.pl a.i=p/\T.ob a.i=ob/\(∀d',j5 (T.tt a.i) d' = qZ T.val m.testBit d' kj (j5 t0 d')):=λ{b v p ob H G l' k' h' P T} g=>by
       obtain⟨a1,a2,a3,a4,a5,a6⟩:=g.same a.i (by simp_all);refine⟨a1.trans (nQ _ _ _),a2.trans (nQ _ _ _),a3.trans (nQ _ _ _),a4.trans (nQ _ _ _),a5.trans (nQ _ _ _),a6.trans (nQ _ _ _),λd'=>?_⟩;rw[a3.trans (nQ _ _ _),ht d'];refine(sB (by simp_all) (λx hx _ Y=>?_) _).symm;rw[(g.same x.i (by simp_all)).2.1,(X b v p ob H G x.i Y).2.1]
     rcases LB a.o with hc|hc|hc
     ·
       have E:Nat.beq (cls a.o) 2=false:=by rw[hc];rfl
       rw[E]at c;simp only[vU]at c;obtain⟨F,c⟩:=c;rw[hc]at hv;simp only[Jl,fR]at hv;obtain⟨b,Z,hv⟩:=hv
       cases b with
       | false=>
         obtain⟨T,g⟩:=trace B hp l _ k _ h rs r (T1 false .undef 0 default s.H s.G) w c hv z (D _ _ _ _ _ _) hn0 hG hkl;obtain⟨S,N,U,s4,J,Q,I⟩:=self g
         refine ⟨T,g.cons (by simp_all) (by grind) (iZ _) ⟨m.testBit,C,hcl,u,I,⟨d,hd⟩,by simp_all,λ_=>N,by simp_all,by omega,
           by simp_all,by omega,by omega⟩ g.EB g.more (by omega) (by omega) (iZ _) hkl⟩
       | true=>
         simp only[fR]at hv;obtain⟨v,aa,hv⟩:=hv;obtain⟨T,g⟩:=trace B hp l _ k _ h _ r (T1 true v 0 default s.H s.G) w c hv z (D _ _ _ _ _ _) hn0 hG hkl;obtain⟨S,N,U,s4,J,Q,I⟩:=self g
         refine ⟨T,g.cons (by simp_all) (by grind) (iZ _) ⟨m.testBit,C,hcl,u,I,⟨d,hd⟩,by simp_all,by simp_all,by simp_all,by omega,
           λ_ _ j K L j3=>?_,by omega,by omega⟩ (λq hq=>g.EB q (by simp[hq])) g.more (by omega) (by omega) (iZ _) hkl⟩
         rw[s4]at K;rcases g.EB _ (wBN ..) j K L with ab|hh
         ·grind
         grind[z7,V.eq_of_beq]
     ·
       have E:Nat.beq (cls a.o) 2=false:=by rw[hc];rfl
       rw[E]at c;simp only[vU]at c;obtain⟨F,c⟩:=c;rw[hc]at hv;simp only[G7,fR]at hv;obtain⟨b,Z,hv⟩:=hv
       cases b with
       | false=>
         obtain⟨T,g⟩:=trace B hp l _ k _ h rs r (T1 false .undef 0 default s.H s.G) w c hv z (D _ _ _ _ _ _) hn0 hG hkl;obtain⟨S,N,U,s4,J,Q,I⟩:=self g
         refine ⟨T,g.cons (by simp_all) (by grind) (iZ _) ⟨m.testBit,C,hcl,u,I,⟨d,hd⟩,by simp_all,λ_=>N,by simp_all,by omega,
           by omega,by simp_all,by omega⟩ g.EB g.more (by omega) (by simp_all) (iZ _) hkl⟩
       | true=>
         simp only[fR]at hv;obtain⟨⟨ob,mk⟩,aa,hv⟩:=hv;obtain⟨T,g⟩:=trace B hp l _ k _ _ _ r (T1 true (mk h.next) h.next ob s.H s.G) w c hv z (D _ _ _ _ _ _) (wBK hn0) (λj M=>wBK (hG j M)) hkl;obtain⟨S,N,U,s4,J,Q,I⟩:=self g
         refine ⟨T,g.cons (by simp_all) (by grind) (iZ _) ⟨m.testBit,C,hcl,u,I,⟨d,hd⟩,by simp_all,by simp_all,by simp_all,by omega,
           by omega,λ_ _=>⟨by simp_all,λj K L=>?_,λj M=>?_,by omega⟩,by omega⟩
           (λq hq=>g.EB q (by simp[hq])) ((Dx.new h ob).trans g.more) (by omega) (λ_ _=>by rw[J];exact⟨iZ _,Pf _⟩) (PH _) hkl⟩
         ·rw[s4]at K
          rw[J,Q];refine⟨?_,λj3=>?_⟩
          ·have e1:(h.new ob).next<=(T.H k).next:=g.more.1
           have e2:=Hl g.chain (j-k) j (by omega) L;have:h.next<(h.new ob).next:=Pf _;omega
          ·rcases g.EB _ (wBN ..) j K L with ab|hh
           ·grind
           grind[z7,O.eq_of_beq]
         ·rw[s4]at M
          rw[J,(g.WB j M).2]
          grind
     ·
       have E:Nat.beq (cls a.o) 2=true:=by rw[hc];rfl
       rw[E]at c;simp only[vU]at c;obtain⟨F,c⟩:=c;have ac:k<ws.length:=by
        unfold isW at F;split at F
        ·grind
        ·cases F
       rw[hc]at hv;simp only[CM,jf,fR]at hv;obtain⟨W,b,Z,hv⟩:=hv;have ag:∀q∈rs,q.last<k\/z7 h q=true:=by simp_all[CI,Sj,OK,UC]
       have ah:∀(b:Bool) (v:V) (h':Hp),qK n all a.o t=some b->(yN n all ws l (Nat.succ k)).f call (d.f t v) h' rs=some r->h.next<=h'.next->(b=false->v = .undef/\h' = h)->
         (b=true->(JT a.o).f call t h=some (v,h'))->∃T,vI n all kj ws call t0 h0 (a::l) m k h rs r s T:=by
         intro b v h' Z hv hn ai al
         obtain ⟨T,g⟩:=trace B hp l _ (k+1) _ h' rs r (T1 b v 0 default (Pu s.H k h) (Pu s.G k h')) w c hv z (D _ _ _ _ _ _) (by omega)
           (fun j M=>by
             by_cases e:j=k
             ·subst e;show(Pu s.G j h' j).next<=_;simp_all[nQ,iZ]
             grind[Pu,RI,Gq]) ac
         obtain⟨S,N,U,s4,J,Q,I⟩:=self g;obtain⟨g1,g2⟩:=g.WB k (Pf _);have R:T.H k=h:=g1.trans (nQ _ _ _);have ad:T.G k=h':=g2.trans (nQ _ _ _)
         refine ⟨T,g.cons (X _ _ _ _ _ _) (by grind[RI]) (PH _) ⟨m.testBit,C,hcl,u,I,⟨d,hd⟩,by grind,
           by grind,by omega,by omega,by omega,by omega,
           λ_=>⟨by grind,λho=>?_,λho=>?_⟩⟩ (λq hq j K L=>?_) (by rw[R];exact .refl h) (λj K L=>?_) (by omega) hn hkl⟩
         ·grind
         ·grind
         ·by_cases e:j=k
          ·grind
          ·exact g.EB q hq j (by omega) L
         ·have:j=k:=by omega
          subst this;rw[R,ad];exact⟨hn,g.more⟩
       cases b with
       |false=>grind
       | true=>
         grind[fR,jf,MY]
end
