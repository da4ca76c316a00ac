/- Parts. -/
import Derived.Test.YtpfjdlicdljhaaaDoorM03
set_option maxHeartbeats 4000000
namespace Go.Proofs.YtpfjdlicdljhaaaDoor.Hx
def qZ(call:Call):Prop:=∀(f:Nat) (args:List V) (v:V) (h h':Hp) (Δ:Env) (w:World) (ee:Array Value),call f args h=some (v,h')->WR Δ h w->dS Δ args ee.toList-> (∃x,(callFunc f ee).run P0 w = .ok (.value x) w/\tJ Δ h w v h' Δ x w)\/ ((callFunc f ee).run P0 w = .ok (.enter f ee) w/\Calls P0 f ee w λe w'=>∃a x,e = .returned x/\tJ Δ h w v h' a x w')
section
variable{Δ:Env}{h:Hp}{w:World}{n:Nat}{t:Tm}{a:Act}
theorem Ii{call:Call} (hc:qZ call) (j:WR Δ h w) (p:TR Δ n t a) {o:Oper} {v:V} {h':Hp} (c:(Ct o).f call t h=some (v,h')) {K:Act->World->Prop} {Q:Exit->Act->World->Prop}
  (q:∀m x w',tJ Δ h w v h' m x w'->K (a.put o.dst x) w'):o.wp P0 a w K Q:=by
 unfold Ct at c;split at c
 ·simp only[c7]at c;obtain⟨y,k,d⟩:=c;cases d;obtain⟨x,b,i⟩:=SA j p k;unfold Oper.wp;rw[b,Oper.upon_value];exact q Δ x w ⟨i,j,.refl _ _,.refl _ _⟩
 ·simp only[c7]at c;obtain⟨⟨ob,mk⟩,k,d⟩:=c;cases d;obtain⟨B,C,b,i⟩:=KW p k;obtain⟨m,a1,a2,a3,z⟩:=j.alloc i;unfold Oper.wp;rw[b w,Oper.upon_value];exact q m _ _ ⟨a2,a1,a3,z⟩
 ·simp only[c7]at c;obtain⟨r,k,d⟩:=c;rcases RM j p k with⟨y,A,m,x,w',rfl,b,i⟩|⟨g,l,ee,rfl,b,i⟩
  ·cases d;unfold Oper.wp;rcases b with b|⟨rfl,b⟩
   ·grind[Oper.upon_value]
   grind[Oper.upon_skip]
  ·unfold Oper.wp;rw[i];rcases hc g l v h h' Δ w ee d j b with⟨x,s,u⟩|⟨s,u⟩
   ·grind[Oper.upon_value]
   ·rw[s,Oper.upon_enter];refine Calls.mono u λe w' D=>?_
    grind
theorem RR(a:Act) (d:Nat) (x:Value) (i:Nat) (b:d<a.tmps.size):(a.put (some d) x).tmps.getD i undef=if d=i then x else a.tmps.getD i undef:=by
 simp only[Act.put,X7,Array.getElem?_setIfInBounds]
 grind
theorem put_defers(a:Act)(d:Option Tmp)(x:Value):(a.put d x).defers=a.defers:=by cases d <;> rfl
theorem DZ(c:TR Δ n t a) {o:Oper} {d:DF} (b:tz n o=some d) {v:V} {x:Value} (g:dj Δ v x):TR Δ n (d.f t v) (a.put o.dst x):=by
 unfold tz at b
 cases ho:o.dst with
 |none=>simp only[ho]at b;cases b;exact c
 | some k=>
   simp only[ho]at b
   cases hk:Nat.blt k n with
   |false=>simp_all
   | true=>
     simp only[hk]at b;cases b;have e:k<a.tmps.size:=by rw[c.size,<-I3];exact hk
     refine⟨by simp[Act.put,c.size],λi=>?_,by rw[put_defers];show Cw Δ (t.set k v).ds _;rw[Tm.RV];exact c.ds⟩;rw[RR _ _ _ _ e];show dj Δ (gg (t.set k v) i) _;rw[Gk];by_cases h:k=i
     ·simp_all
     ·rw[if_neg h,if_neg h];exact c.rel i
theorem IG{n:Nat} {ops:List Oper} {o:Oper} (a:hO n ops o=none) (y:Nat->Option Bool):Region.wanted o y=true:=by
 grind[hO,Region.wanted]
theorem Ij(m:TR Δ n t a) {ops:Array Oper} {o:Oper} {g:GF} (e:hO n ops.toList o=some g) {b:Bool} (h:g.f t=some b):Region.wanted o (yielded ops a.tmps)=b:=by
 unfold hO at e;unfold Region.wanted
 cases hg:o.guard with
 |none=>simp_all
 | some q =>
   obtain⟨j,r⟩:=q;simp only[hg]at e⊢;unfold yielded
   cases hj:ops.toList[j]? with
   | none=>
     grind
   | some p=>
     have l:ops[j]? =some p:=by rw[<-SW];exact hj
     simp only[hj]at e;simp only[l,Option.bind_some]
     cases hd:p.dst with
     | none=>
       grind
     | some d=>
       simp only[hd]at e;simp only[Option.bind_some]
       cases PL:Nat.blt d n with
       |false=>grind
       | true=>
         simp only[PL]at e;cases e;have i:d<a.tmps.size:=by rw[m.size,<-I3];exact PL
         have k:=m.rel d;have s:a.tmps[d]? =some (a.tmps.getD d undef):=by simp[i]
         rw[s];generalize a.tmps.getD d undef=x at k;simp only at h;split at h
         ·rename_i u c
          cases h;rw[c]at k;cases k;cases r <;> cases u <;> rfl
         ·rename_i c
          cases h;rw[c]at k;cases k <;> grind
         ·cases h
structure xi (Δ:Env) (h:Hp) (w:World) (n:Nat) (t':Tm) (h':Hp) (a:Env) (a':Act) (w':World):Prop where
 tmps:TR a n t' a'
 world:WR a h' w'
 frame:FR Δ a w w'
 grow:Gr h Δ h' a
theorem xi.start(b:TR Δ n t a)(c:WR Δ h w):xi Δ h w n t h Δ a w:=⟨b,c,.refl _ _,.refl _ _⟩
theorem xi.trans{a b:Env} {c d:Hp} {e f:World} {i g:Tm} {a1 a2:Act} (x:xi Δ h w n i c a a1 e) (y:xi a c e n g d b a2 f):xi Δ h w n g d b a2 f:=
 ⟨y.tmps,y.world,x.frame.trans y.frame,x.grow.trans y.grow⟩
theorem xi.put(g:TR Δ n t a) {o:Oper} {d:DF} (b:tz n o=some d) {v:V} {h':Hp} {e:Env} {x:Value} {w':World} (c:tJ Δ h w v h' e x w') :
  xi Δ h w n (d.f t v) h' e (a.put o.dst x) w':=
 ⟨DZ (g.mono c.frame.le) b c.val,c.world,c.frame,c.grow⟩
theorem RA(p:WR Δ h w) (b:TR Δ n t a) {o:Oper} {q:QF} (hq:uA o=some q) {t':Tm} (l:q.f t h=some t') :
  ∃d,(∀w,(execOp a.eval o).run P0 w = .ok (.defer d) w)/\TR Δ n t' {a with defers:=d::a.defers}:=by
 unfold uA at hq;split at hq
 ·rename_i c r;split at hq
  ·rename_i f s;cases hq;simp only[c7]at l;obtain⟨A,u,args,v,j⟩:=l;have e:=hZ p b u;obtain⟨xs,x⟩:∃xs,xs=c.args.map a.eval:=⟨_,rfl⟩
   have k:=wj b v;generalize y:a.eval f=xv at e;unfold Rj at j;split at j
   ·rename_i g first m
    cases j
    cases e with
    | func _ _ _ a' c' z hc=>
      refine⟨{target:= .fn (.func g) c',args:=a'++c.args.map a.eval},λw=>?_,⟨b.size,λi=>?_,?_⟩⟩
      ·have B:(resolve a.eval c o.type).run P0 w = .ok {target:= .fn (.func g) c',args:=a'++c.args.map a.eval} w:=by
         unfold resolve;rw[s];simp only[y];rfl
       simp_all[execOp,rk,qf]
      ·rw[PK];exact b.rel i
      ·rw[Tm.Tv]
       refine .cons _ _ _ _ _ _ ?_ b.ds;simp only[Array.toList_append,Hq,Array.toList_map];exact z.append (k.append hc)
   ·cases j
  ·cases hq
 ·cases hq
theorem St{call:Call} (hc:qZ call) {ops:Array Oper} {i:Nat} {o:Oper} (hi:ops[i]? =some o) {c:SF} {K:Act->World->Prop} {Q:Exit->Act->World->Prop}
  (m:WR Δ h w) (j:TR Δ n t a) {r:Tm×Hp} (e:(Dp n ops.toList o c).f call t h=some r)
  (p:∀t' h' u a' w',c.f call t' h' = some r->xi Δ h w n t' h' u a' w'->K a' w'):wpOp P0 ops Q i K a w:=by
 unfold Dp at e;unfold wpOp;simp only[hi]
 cases hdst:tz n o with
 |none=>simp only[hdst]at e;cases e
 | some d=>
   simp only[hdst]at e;have z:∀x,oB ((Ct o).f call t h) (λr=>c.f call (d.f t r.1) r.2)=some x->x=r->o.wp P0 a w K Q:=by
     intro x y s;subst s;rw[c7]at y;obtain⟨⟨v,h'⟩,k,l⟩:=y;exact Ii hc m j k λu x w' A=>p _ _ _ _ _ l (xi.put j hdst A)
   cases hg:hO n ops.toList o with
   | none=>
     simp only[hg]at e;rw[if_pos (IG hg _)]
     cases hq:uA o with
     |none=>grind
     | some q=>
       simp only[hq,c7]at e;obtain⟨D,k,l⟩:=e;obtain⟨E,B,C⟩:=RA m j hq k;refine .inl ?_;unfold Oper.wp;rw[B w,Oper.upon_defer]
       exact p _ _ _ _ _ l (xi.put C hdst ⟨.undef Δ,m,.refl _ _,.refl _ _⟩)
   | some g=>
     simp only[hg,c7]at e;obtain⟨b,k,l⟩:=e;rw[Ij j hg k]
     cases b with
     |true=>simp_all
     |false=>exact p _ _ _ _ _ l (xi.put j hdst ⟨.undef Δ,m,.refl _ _,.refl _ _⟩)
theorem IC{call:Call} (hc:qZ call) {ops:Array Oper} {Q:Exit->Act->World->Prop}:∀(l:List Oper) (k:Nat),l=ops.toList.drop k->∀{Δ:Env} {h:Hp} {w:World} {t:Tm} {a:Act},
  WR Δ h w->TR Δ n t a->∀{r:Tm×Hp},(oS n ops.toList l).f call t h=some r->(∀d a' w',xi Δ h w n r.1 r.2 d a' w'->Q .normal a' w')->
  wpOps P0 ops Q (List.range' k l.length) a w
 | [],k,hl,Δ,h,w,t,a,hW,hT,r,hv,hQ=>by
   cases hv
   exact hQ _ _ _ (.start hT hW)
 | o ::l,k,hl,Δ,h,w,t,a,hW,hT,r,hv,hQ=>by
   have hk:ops[k]? =some o:=by
     have:(ops.toList.drop k)[0]? =some o:=by rw[<-hl];rfl
     rw[V1,Vk]at this;simpa using this
   have b:l=ops.toList.drop (k+1):=by
     rw[<-UJ,<-hl];rfl
   rw[LU,List.range'_succ,wpOps_cons];refine St hc hk hW hT hv λt' h' d a' w' e c=>?_;exact IC hc l (k+1) b c.world c.tmps e λg i j m=>hQ _ _ _ (c.trans m)
end
def zU(c:Code) (Q:Exit->Act->World->Prop) (a:Act) (w:World):Prop:=∀(b:Frame) (k:List Item) (cs:List Frame),∃e a' w',Q e a' w'/\Arrives P0 (lone (b.at a (.code c:: .inLoop c::k)) cs w) b k cs e a' w'
theorem zU.round{c:Code} {Q:Exit->Act->World->Prop} {a:Act} {w:World} (h:c.wp P0 (Exit.then (zU c Q) Q) a w):zU c Q a w:=by
 intro b k cs;obtain⟨e,g,i,hq,d⟩:=h b (.inLoop c::k) cs
 cases e with
 | normal=>
   obtain⟨m,n,o,j,f⟩:=hq b k cs
   exact⟨m,n,o,j,.of_steps (Steps.trans d (.one step_inLoop)) f⟩
 |exit id=>exact⟨_,g,i,hq,.pass (x:= .inLoop c) rfl (by simp_all) d⟩
 |goto l=>exact⟨_,g,i,hq,.pass (x:= .inLoop c) rfl (by simp_all) d⟩
 |ret=>exact⟨_,g,i,hq,.pass (x:= .inLoop c) rfl (by simp_all) d⟩
 |panic ch=>exact⟨_,g,i,hq,.pass (x:= .inLoop c) rfl (by simp_all) d⟩
 |outgrown=>exact⟨_,g,i,hq,.pass (x:= .inLoop c) rfl (by simp_all) d⟩
theorem zU.wp{c:Code} {Q:Exit->Act->World->Prop} {a:Act} {w:World} (h:zU c Q a w):(Code.loop c).wp P0 Q a w:=
 λb k cs=>let⟨e,a',w',q,r⟩:=h b k cs;⟨e,a',w',q,.of_steps (.one step_loop) r⟩
def Alike(t t':Tm)(x:Operand):Prop:=(Hs x).f t=(Hs x).f t'
theorem BT{t t':Tm} {l:List Operand} (h:∀d,d∈xe l->gg t d=gg t' d):∀x∈l,Alike t t' x:=by
 induction l with
 |nil=>simp_all
 | cons y l b=>
   intro x a
   cases a with
   | head=>
     unfold Alike
     cases y <;> grind[gg,xe,Hs]
   | tail _ a=>
     refine b (λd c=>h d ?_) x a;cases y <;> simp[xe,c]
section
variable{t t':Tm}{h:Hp}
theorem ef{x:Operand} (a:Alike t t' x):(nK x).f t h=(nK x).f t' h:=by
 unfold Alike at a;cases x <;> grind[nK]
theorem sh:∀{l:List Operand},(∀x∈l,Alike t t' x)->CW t l=CW t' l
 |[],_=>rfl
 | x::l,hl=>by
   have a:(Hs x).f t=(Hs x).f t':=hl x (by simp);simp only[CW,a,sh (l:=l) (by simp_all)]
theorem wO:∀{l:List (Nat×Operand)},(∀x∈l,Alike t t' x.2)->oT t l=oT t' l
 |[],_=>rfl
 | x::l,hl=>by
   have a:(Hs x.2).f t=(Hs x.2).f t':=hl x (by simp);simp only[oT,a,wO (l:=l) (by grind)]
theorem M9{x:Option Operand} (a:∀y,x=some y->Alike t t' y):CI x t h=CI x t' h:=by
 cases x with
 |none=>rfl
 |some y=>simp only[CI,ef (a y rfl)]
theorem KU{ty:Nat} {p:PF} (a:p.f t h=p.f t' h):(EM ty p).f t h=(EM ty p).f t' h:=by
 grind[EM]
theorem Ks{a b:Nat} {p:PF} (c:p.f t h=p.f t' h):(EU a b p).f t h=(EU a b p).f t' h:=by
 grind[EU]
theorem DW{a b:Nat} {p:PF} (c:p.f t h=p.f t' h):(ma a p b).f t h=(ma a p b).f t' h:=by
 grind[ma]
theorem J3{a b:Nat} {p:PF} (c:p.f t h=p.f t' h):(BV a p b).f t h=(BV a p b).f t' h:=by
 grind[BV]
theorem Ej{a:Nat} {p q:PF} (b:p.f t h=p.f t' h) (hq:q.f t h=q.f t' h):(l0 a p q).f t h=(l0 a p q).f t' h:=by
 grind[l0]
theorem Jr{a:Nat} {p q:PF} (b:p.f t h=p.f t' h) (hq:q.f t h=q.f t' h):(BR a p q).f t h=(BR a p q).f t' h:=by
 grind[BR]
theorem Jm{a:Nat} {p:PF} {lo hi:Option Operand} (b:p.f t h=p.f t' h) (c:CI lo t h=CI lo t' h) (d:CI hi t h=CI hi t' h) :
  (Ed a p lo hi).f t h=(Ed a p lo hi).f t' h:=by
 grind[Ed]
theorem HH{a:Nat} {p q:PF} {ok:Bool} (b:p.f t h=p.f t' h) (hq:q.f t h=q.f t' h):(A9 a p q ok).f t h=(A9 a p q ok).f t' h:=by
 grind[A9]
theorem MF{a:Nat} {p:PF} (b:p.f t h=p.f t' h):(hlen a p).f t h=(hlen a p).f t' h:=by
 grind[hlen]
theorem HZ{a:Nat} {p:PF} {ok:Bool} (b:p.f t h=p.f t' h):(AR p a ok).f t h=(AR p a ok).f t' h:=by
 grind[AR]
theorem Kk{c p q:PF} (hc:c.f t h=c.f t' h) (a:p.f t h=p.f t' h) (hq:q.f t h=q.f t' h):(EX c p q).f t h=(EX c p q).f t' h:=by
 grind[EX]
theorem Jw{a:Nat} {b:List (Nat×Operand)} (c:oT t b=oT t' b):(Cd a b).f t h=(Cd a b).f t' h:=by
 unfold Cd;grind
theorem Cs{o:Oper} (g:∀x∈o.op.operands.toList,Alike t t' x):(fh o).f t h=(fh o).f t' h:=by
 obtain⟨dst,op,ty,pos,af,gd⟩:=o;cases op <;> simp only[fh] <;> simp only[Op.operands]at g
 case move x=>grind[ef]
 case assign x=>grind[ef]
 case pick c a b=>exact Kk (by grind[ef]) (by grind[ef]) (by grind[ef])
 case load ty a=>grind[KU,ef]
 case nilCheck x=>grind[uk,ef]
 case binOp op xt x y b=>grind[ef]
 case unOp op b x=>grind[ef]
 case convert s d x=>grind[Ks,ef]
 case build ty ps=>grind[Jw,wO]
 case makeFunc fn first caps=>
  cases fn with
  |func f=>grind[sh]
  |_=>rfl
 case slice ty x lo hi mx=>
  cases mx with
  |none=>grind[Jm,ef,M9]
  |some _=>rfl
 case fieldAddr s x f=>grind[DW,ef]
 case field s x f=>grind[J3,ef]
 case indexAddr ty x i=>grind[Ej,ef]
 case index ty x i=>grind[Jr,ef]
 case lookup ty m k ok=>grind[HH,ef]
 case extract x i=>grind[Al,ef]
 case makeInterface ty x=>
  split
  ·grind[ef]
  ·rfl
 case typeAssert x b asserted ok=>grind[HZ,ef]
 case call c=>
  obtain⟨e,args,j⟩:=c
  cases e with
  | builtin b=>
    have l:∀x∈args.toList,Alike t t' x:=by grind[Call.operands]
    cases b <;> simp only
    case len=>
      split
      ·grind[MF,ef]
      ·rfl
    case min=>grind[sh]
    case max=>grind[sh]
    all_goals rfl
  |_=>rfl
 all_goals rfl
theorem IP{x:Operand}(a:Alike t t' x):(Hs x).f t=(Hs x).f t':=a
theorem EK{o:Oper} (a:∀x∈o.op.operands.toList,Alike t t' x):(lK o).f t=(lK o).f t':=by
 obtain⟨dst,op,ty,pos,af,gd⟩:=o;cases op <;> simp only[lK] <;> simp only[Op.operands]at a
 case alloc e=>split <;> rfl
 case box e x=>grind[IP]
 case buildSlice ty len parts=>
  (repeat' split) <;> first
   |rfl
   |grind[Ap,wO]
 case makeSlice ty n c=>
  (repeat' split) <;> first
   |rfl
   |grind[IP]
 case makeMap ty r=>
  cases r with
  |none=>simp only;split <;> rfl
  |some _=>rfl
 all_goals rfl
theorem LD{o:Oper} (j:∀x∈o.op.operands.toList,Alike t t' x):(gK o).f t h=(gK o).f t' h:=by
 obtain⟨dst,op,ty,pos,af,gd⟩:=o;cases op <;> simp only[gK] <;> simp only[Op.operands]at j
 case store ty a x=>
  split
  ·grind[ef]
  ·rfl
 case mapUpdate ty m k x=>
  (repeat' split) <;> first
   |rfl
   |grind[ef]
 case insert ty m k x=>
  (repeat' split) <;> first
   |rfl
   |grind[ef]
 case range ty x=>
  split
  ·grind[ef]
  ·rfl
 case next x Ue=>
  cases Ue with
  |true=>rfl
  |false=>grind[ef]
 case entry x=>grind[ef]
 case convert s d x=>
  (repeat' split) <;> first
   |rfl
   |grind[ef]
 case call c=>
  obtain⟨g,args,l⟩:=c
  cases g with
  | builtin b=>
    have n:∀x∈args.toList,Alike t t' x:=by grind[Call.operands]
    cases b <;> simp only
    case append=>
      split
      ·rename_i s x i xT e _
       (repeat' split) <;> first
         |rfl
         |grind[ef]
      ·rfl
    case copy=>
      split
      ·rename_i s x i xT e _
       (repeat' split) <;> first
         |rfl
         |grind[ef]
      ·rfl
    case delete=>
      split
      ·rename_i s x i xT e _
       (repeat' split) <;> first
         |rfl
         |grind[ef]
      ·rfl
    all_goals rfl
  | value f=>
    grind[Alike,Call.operands,ef,sh]
  | invoke r m=>
    grind[Alike,Call.operands,ef,sh]
 all_goals rfl
theorem GL{call:Call} {o:Oper} (a:∀x∈o.op.operands.toList,Alike t t' x):(Ct o).f call t h=(Ct o).f call t' h:=by
 grind[Ct,Cs,EK,LD]
end
theorem xP:∀(l:List Oper) (i:Nat) (b:List Nat) (k:Nat) (a:It),(items l i b)[k]? =some a->a.i=i+k/\l[k]? =some a.o
 |[],i,b,k,a,h=>by grind[items]
 |o::os,i,b,0,a,h=>by simp[items]at h;grind
 | o::os,i,b,k+1,a,h=>by
   simp only[items,Xa]at h;obtain⟨c,d⟩:=xP os (i+1) _ k a h
   grind
theorem Dg:∀(l:List Oper) (i:Nat) (a:List Nat),(items l i a).length=l.length
 |[],i,a=>rfl
 |o::os,i,a=>by simp[items,Dg os]
theorem wQ(a:List Nat) (x:Nat):∀(b:List Edge) (m:Nat),(GA a b m).testBit x=true->m.testBit x=true\/∃e∈b,G3 e=true/\(x=e.on\/(a[e.on]?.getD 0).testBit x=true)
 |[],m,h=> .inl h
 | e ::b,m,h=>by
   simp only[GA]at h;split at h
   ·rename_i g
    rcases wQ a x b _ h with c|⟨e',f,d,c⟩
    ·grind
    grind
   ·rcases wQ a x b _ h with c|⟨e',f,d,c⟩
    ·simp_all
    grind
theorem On:∀(l:List Oper) (i:Nat) (c:List Nat) (k:Nat) (a:It),(items l i c)[k]? =some a->
  a.b=GA (c++((items l i c).take k).map (·.b)) a.o.after.toList 0
 |[],i,c,k,a,h=>by grind[items]
 |o::os,i,c,0,a,h=>by grind[items]
 | o::os,i,c,k+1,a,h=>by
   simp only[items,Xa]at h;have:=On os (i+1) _ k a h
   grind[items,Hq]
theorem G6{l:List Oper} {k:Nat} {a:It} (h:(items l 0 [])[k]? =some a) {x:Nat} (d:a.b.testBit x=true) :
  ∃e∈a.o.after.toList,G3 e=true/\(x=e.on\/∃y,(items l 0 [])[e.on]? =some y/\y.b.testBit x=true):=by
 rw[On l 0 [] k a h]at d;rcases wQ _ x _ _ d with c|⟨e,f,g,c⟩
 ·simp_all
 ·refine ⟨e,f,g,?_⟩;rcases c with c|c
  ·omega
  ·right;rw[Pr,w5,List.getElem?_take]at c
   grind
theorem AM(e:Edge):Region.binds .any e=G3 e:=by
 rfl
def lS(val:Nat->V)(D:Nat->Bool)(d:Nat)(gM:List It)(b:V):V:=gM.foldl (λv a=>if D a.i=true/\a.o.dst=some d then val a.i else v) b
theorem lQ{val Hv:Nat->V} {D D':Nat->Bool} {d:Nat} {gM:List It} (c:∀a∈gM,a.o.dst=some d->D a.i=D' a.i) (e:∀a∈gM,a.o.dst=some d->D a.i=true->val a.i=Hv a.i) (b:V) :
  lS val D d gM b=lS Hv D' d gM b:=by
 unfold lS
 induction gM generalizing b <;> grind
theorem Cg{val:Nat->V} {D:Nat->Bool} {d:Nat} {gM:List It} (h:∀a∈gM,a.o.dst=some d->D a.i=false) (b:V):lS val D d gM b=b:=by
 unfold lS
 induction gM generalizing b <;> grind
theorem O0{val:Nat->V} {D:Nat->Bool} {d:Nat} {gM:List It} (e:∀(k:Nat) (x:It),gM[k]? =some x->x.i=k) {a:It} (g:a∈gM) (j:a.o.dst=some d) (l:D a.i=true)
  (h:∀x∈gM,a.i<x.i->x.o.dst=some d->D x.i=false) (m:V):lS val D d gM m=val a.i:=by
 obtain⟨k,hk⟩:=kh.1 g;have n:=e k a hk;have f:k<gM.length:=by grind
 have b:gM=gM.take k++a::gM.drop (k+1):=by
  have p:gM.drop k=a::gM.drop (k+1):=by
   rw[SE f];rw[fg f]at hk;cases hk;rfl
  rw[<-p,Sj]
 have c:∀x∈gM.drop (k+1),x.o.dst=some d->D x.i=false:=by
  intro x r s;obtain⟨q,hq⟩:=kh.1 r;rw[V1]at hq;have:=e _ x hq;exact by grind
 unfold lS;rw[b,List.foldl_append,List.foldl_cons,if_pos ⟨l,j⟩];exact Cg c _
def xX(h h':Hp):Prop:=h.next<=h'.next/\∀l,l<h.next->h'.get l=h.get l
theorem xX.refl(h:Hp):xX h h:=⟨iC _,λ_ _=>rfl⟩
theorem xX.trans{h h' c:Hp}(a:xX h h')(b:xX h' c):xX h c:=⟨EY a.1 b.1,λl d=>by rw[b.2 l (EP d a.1),a.2 l d]⟩
theorem xX.new(h:Hp)(o:O):xX h (h.new o):=⟨Q0 _,by simp_all[qp,if_neg,Nat.ne_of_gt]⟩
theorem WR.Jk{Δ:Env} {h h':Hp} {w:World} (a:WR Δ h w) (b:xX h h'):WR Δ h' w where
 fresh:=λl d f=>EP (a.fresh l d f) b.1
 jB:=a.jB
 obj:=λl d f=>by rw[b.2 l (a.fresh l d f)];exact a.obj l d f
 apart:=λm i e e' p s k n j o q=>by
  rw[b.2 m (a.fresh m e k)]at o;rw[b.2 i (a.fresh i e' n)]at q;exact a.apart m i e e' p s k n j o q
 Cj:=λg p c r=>by
  rw[b.2 g (EP c a.tP)]at r;exact a.Cj g p c r
 tP:=EY a.tP b.1
 NK:=a.NK
theorem O.eq_of_beq{a b:O} (h:O.beq a b=true):a=b:=by
 unfold O.beq at h;split at h
 ·simp only[rm,CG]at h;obtain⟨⟨⟨⟨rfl,rfl⟩,rfl⟩,rfl⟩,c⟩:=h
  grind[V.sj]
 ·simp_all
 ·cases h
structure Tc where
 on:Nat->Bool
 val:Nat->V
 tt:Nat->Tm
 ep:Nat->Nat
 pl:Nat->Nat
 ob:Nat->O
 H:Nat->Hp
 G:Nat->Hp
def uU(gM:List It)(D:Nat->Bool):Prop:=∀a∈gM,D a.i=true->∀x∈gM,a.b.testBit x.i=true->D x.i=true
section
variable (n:Nat)(all:List Oper)(gM ws:List It)(call:Call)(t0:Tm)(h0:Hp)
structure GB (T:Tc) (D:Nat->Bool) (a:It):Prop where
 fresh:D a.i=false
 closed:uU gM D
 c8:∀x∈gM,a.b.testBit x.i=true->D x.i=true
 kQ:∀d,gg (T.tt a.i) d=lS T.val D d gM (gg t0 d)
 dst:∃d,tz n a.o=some d
 lg:lg n all a.o (T.tt a.i)=some (T.on a.i)
 off:T.on a.i=false->T.val a.i = .undef
 Wx:cls a.o≠2->Ff ws a (T.ep a.i)=true
 epl:T.ep a.i<=ws.length
 pure:cls a.o=0->T.on a.i=true->∀j,T.ep a.i<=j->j<=ws.length->j<=late ws a->(fh a.o).f (T.tt a.i) (T.H j)=some (T.val a.i)
 alloc:cls a.o=1->T.on a.i=true->(∃mk,(lK a.o).f (T.tt a.i)=some (T.ob a.i,mk)/\T.val a.i=mk (T.pl a.i))/\
  (∀j,T.ep a.i<=j->j<=ws.length->T.pl a.i<(T.H j).next/\(j<=late ws a->(T.H j).get (T.pl a.i)=some (T.ob a.i)))/\
  (∀j,j<T.ep a.i->(T.G j).next<=T.pl a.i)/\h0.next<=T.pl a.i
 write:cls a.o=2->Uh ws a (T.ep a.i)=true/\(T.on a.i=true->(Ct a.o).f call (T.tt a.i) (T.H (T.ep a.i))=some (T.val a.i,T.G (T.ep a.i)))/\
  (T.on a.i=false->T.G (T.ep a.i)=T.H (T.ep a.i))
structure oR (l:List It) (m k:Nat) (h:Hp) (rs:List Rec) (r:Tm×Hp) (b T:Tc):Prop where
 same:∀i,m.testBit i=true->T.on i=b.on i/\T.val i=b.val i/\T.tt i=b.tt i/\T.ep i=b.ep i/\T.pl i=b.pl i/\T.ob i=b.ob i
 N6:∀j,j<k->T.H j=b.H j/\T.G j=b.G j
 item:∀a∈l,∃D,GB n all gM ws call t0 h0 T D a
 yK:∀r∈rs,∀j,k<=j->j<=ws.length->r.last<j\/uh (T.H j) r=true
 more:xX h (T.H k)
 chain:∀j,k<=j->j<ws.length->(T.H j).next<=(T.G j).next/\xX (T.G j) (T.H (j+1))
 OS:∀a∈l,cls a.o=1->T.on a.i=true->h.next<=T.pl a.i
 NB:∀a∈l,∀a'∈l,cls a.o=1->cls a'.o=1->T.on a.i=true->T.on a'.i=true->a.i≠a'.i->T.pl a.i≠T.pl a'.i
 last:r.2=T.H ws.length
 kQ:∀d,gg r.1 d=lS T.val (λ_=>true) d gM (gg t0 d)
 done:∀a∈gM,m.testBit a.i=true\/a.i∈l.map (·.i)
 ZH:k<=ws.length
end
theorem zW{ws:List It} {T:Tc} {k:Nat} (h:∀j,k<=j->j<ws.length->(T.H j).next<=(T.G j).next/\xX (T.G j) (T.H (j+1))):∀(m j:Nat),j=k+m->j<=ws.length->(T.H k).next<=(T.H j).next:=by
 intro m
 induction m with
 |zero=>simp_all
 | succ m b=>
   intro j g c;obtain⟨a,rfl⟩:∃a,j=a+1:=⟨j-1,by omega⟩
   have d:=b a (by omega) (by omega);obtain⟨e,f⟩:=h a (by omega) (by omega);exact EY d (EY e f.1)
theorem Ri(m i x:Nat):(m |||2 ^ i).testBit x=(m.testBit x ||decide (i=x)):=by grind
theorem ES{l:List It} (h:mr l=true):∀(i j:Nat) (a b:It),i<j->l[i]? =some a->l[j]? =some b->IZ a b=true:=by
 induction l with
 |nil=>simp_all
 | cons x l d=>
   intro i j a b c e f;simp only[mr,rm]at h
   grind
theorem ID{gM:List It} (c:∀(k:Nat) (x:It),gM[k]? =some x->x.i=k) (h:mr gM=true) {a x:It} (l:a∈gM) (m:x∈gM) {d:Nat} (n:d∈lC a.o) (e:x.o.dst=some d) :
  (x.i<a.i->a.b.testBit x.i=true)/\(a.i<x.i->x.b.testBit a.i=true):=by
 obtain⟨i,hi⟩:=kh.1 l;obtain⟨j,f⟩:=kh.1 m;have p:=c i a hi;have q:=c j x f;have r:writes x.o (lC a.o)=true:=by simp[writes,e,n]
 constructor
 ·intro g;have:=ES h j i x a (by omega) f hi
  grind[IZ]
 ·intro g;have:=ES h i j a x (by omega) hi f
  grind[IZ]
theorem O6{o:Oper}{d:Nat}(h:o.dst=some d):d∈lC o:=by simp[lC,h]
theorem B1{gM:List It} (e:∀(k:Nat) (x:It),gM[k]? =some x->x.i=k) (q:mr gM=true) {a:It} (f:a∈gM) {D D':Nat->Bool} (r:uU gM D) (g:uU gM D')
  (u:∀x∈gM,a.b.testBit x.i=true->D x.i=true) (s:∀x∈gM,a.b.testBit x.i=true->D' x.i=true) (n:D a.i=false) (c:D' a.i=false) {d:Nat} (t:d∈lC a.o) (val:Nat->V) (j:V) :
  lS val D d gM j=lS val D' d gM j:=by
 refine lQ (λx l m=>?_) (by simp_all) j;obtain⟨p1,p⟩:=ID e q f l t m;rcases YI x.i a.i with h|h|h
 ·simp_all
 ·simp_all
 ·have v:D x.i=false:=by
   cases hh:D x.i with
   |false=>rfl
   |true=>rw[r x l hh a f (p h)]at n;cases n
  have w:D' x.i=false:=by
   cases hh:D' x.i with
   |false=>rfl
   |true=>rw[g x l hh a f (p h)]at c;cases c
  simp_all
theorem AQ{gM:List It} (b:∀(k:Nat) (x:It),gM[k]? =some x->x.i=k) (q:mr gM=true) {a:It} (l:a∈gM) {D D':Nat->Bool} (r:uU gM D) (p:D a.i=false)
  (f:∀i,D' i=(D i ||decide (a.i=i))) {val Hv:Nat->V} (u:∀i,D i=true->Hv i=val i) (d:Nat) (m:V) :
  lS Hv D' d gM m=if a.o.dst=some d then Hv a.i else lS val D d gM m:=by
 by_cases hd:a.o.dst=some d
 ·rw[if_pos hd];refine O0 b l hd (by simp_all) (λx g h c=>?_) m;rw[f];have s:a.i≠x.i:=Xq h;have:=(ID b q l g (O6 hd) c).2 h
  cases hh:D x.i with
  |false=>simp_all
  |true=>rw[r x g hh a l this]at p;cases p
 ·rw [if_neg hd];refine lQ (λx g c=>?_) (λx g c t=>?_) m
  ·rw [f];have:a.i≠x.i:=by
    intro e;obtain⟨i,hi⟩:=kh.1 l;obtain⟨j,n⟩:=kh.1 g;have v:=b i a hi;have w:=b j x n;have:i=j:=by omega
    subst this;rw[hi]at n;cases n;exact hd c
   simp_all
  grind[kh]
def HV{α:Type}(f:Nat->α)(i:Nat)(v:α):Nat->α:=λj=>if j=i then v else f j
theorem jI{α:Type}(f:Nat->α)(i:Nat)(v:α):HV f i v i=v:=if_pos rfl
theorem Je{α:Type}(f:Nat->α){i j:Nat}(v:α)(h:j≠i):HV f i v j=f j:=if_neg h
theorem Er(o:Oper):cls o=0\/cls o=1\/cls o=2:=by
 unfold cls
 grind
theorem CU{n:Nat} {o:Oper} {d:DF} (h:tz n o=some d) (t:Tm) (v:V) (i:Nat):gg (d.f t v) i=if o.dst=some i then v else gg t i:=by
 unfold tz at h
 cases ho:o.dst with
 |none=>grind
 | some k=>
   simp only[ho]at h
   cases hk:Nat.blt k n with
   |false=>simp_all
   | true=>
     simp only[hk]at h;cases h;show gg (t.set k v) i=_
     simp_all[Gk,if_pos,if_neg]
theorem sx{n:Nat} {o:Oper} {d:DF} (h:tz n o=some d) (t:Tm) (v:V):(d.f t v).ds=t.ds:=by
 grind[tz,Nat.blt,Tm.RV]
theorem wA{n:Nat} {all:List Oper} {ws:List It} {call:Call}:∀(l:List It) (k:Nat) {t:Tm} {h:Hp} {rs:List Rec} {r:Tm×Hp},(sg n all ws l k).f call t h rs=some r->r.1.ds=t.ds
 | [],_,t,h,rs,r,hv=>by
   grind[sg,ek]
 | a ::l,k,t,h,rs,r,hv=>by
   unfold sg at hv
   cases hd:tz n a.o with
   |none=>simp_all
   | some d=>
     rw[hd]at hv;simp only at hv;split at hv
     ·simp only[Bv,c7]at hv
      obtain⟨b,_,c⟩:=hv
      cases b with
      |false=>rw[wA l _ c,sx hd]
      | true=>
        simp only[c7]at c;obtain⟨x,_,e⟩:=c;rw[wA l _ e,sx hd]
     ·simp only[z7,c7]at hv
      obtain⟨b,_,c⟩:=hv
      cases b with
      |false=>rw[wA l _ c,sx hd]
      | true=>
        simp only[c7]at c;obtain⟨x,_,e⟩:=c;rw[wA l _ e,sx hd]
     ·simp only[wW,c7,ek]at hv
      obtain⟨_,b,_,c⟩:=hv
      cases b with
      |false=>rw[wA l _ c,sx hd]
      | true=>
        simp only[c7,ek]at c;obtain⟨x,_,_,e⟩:=c;rw[wA l _ e,sx hd]
section
variable{n:Nat}{all:List Oper}{gM ws:List It}{call:Call}{t0:Tm}{h0:Hp}
theorem oR.cons{l:List It} {a:It} {m k k':Nat} {h h':Hp} {rs z:List Rec} {r:Tm×Hp} {d T1 T:Tc} (c:oR n all gM ws call t0 h0 l (m |||2 ^ a.i) k' h' z r T1 T)
  (C:∀i,m.testBit i=true->T1.on i=d.on i/\T1.val i=d.val i/\T1.tt i=d.tt i/\T1.ep i=d.ep i/\T1.pl i=d.pl i/\T1.ob i=d.ob i)
  (J:∀j,j<k->T1.H j=d.H j/\T1.G j=d.G j) (hk:k<=k') (e:∃D,GB n all gM ws call t0 h0 T D a)
  (f:∀r∈rs,∀j,k<=j->j<=ws.length->r.last<j\/uh (T.H j) r=true) (g:xX h (T.H k))
  (w:∀j,k<=j->j<k'->(T.H j).next<=(T.G j).next/\xX (T.G j) (T.H (j+1)))
  (v:cls a.o=1->T.on a.i=true->h.next<=T.pl a.i/\T.pl a.i<h'.next) (xV:h.next<=h'.next) (A:k<=ws.length):oR n all gM ws call t0 h0 (a::l) m k h rs r d T where
 same:=λi hi=>by
  obtain⟨a1,a2,a3,K,L,M⟩:=c.same i (by simp_all)
  simp_all
 N6:=λj E=>by
  obtain⟨a1,a2⟩:=c.N6 j (by omega)
  simp_all
 item:=λx b=>by
  cases b with
  |head=>exact e
  |tail _ b=>exact c.item x b
 yK:=f
 more:=g
 chain:=λj C F=>by
  by_cases E:j<k'
  ·simp_all
  ·exact c.chain j (by omega) F
 OS:=λx b hc I=>by
  cases b with
  |head=>simp_all
  |tail _ b=>exact EY xV (c.OS x b hc I)
 NB:=λx b y u p q s t B=>by
  cases b with
  | head=>
    cases u with
    |head=>omega
    |tail _ u=>have:=(v p s).2;have:=c.OS y u q t;omega
  | tail _ b=>
    cases u with
    |head=>have:=(v q t).2;have:=c.OS x b p s;omega
    |tail _ u=>exact c.NB x b y u p q s t B
 last:=c.last
 kQ:=c.kQ
 done:=λx b=>by
  rcases c.done x b with h|h
  ·grind
  simp_all
 ZH:=A
theorem trace(C:∀(k:Nat) (x:It),gM[k]? =some x->x.i=k) (R:mr gM=true):∀(l:List It) (m k:Nat) (t:Tm) (h:Hp) (rs:List Rec) (r:Tm×Hp) (s:Tc),
  (∀a∈l,a∈gM)->qF gM ws l m k=true->(sg n all ws l k).f call t h rs=some r->uU gM m.testBit->(∀d,gg t d=lS s.val m.testBit d gM (gg t0 d))->
  h0.next<=h.next->(∀j,j<k->(s.G j).next<=h.next)->k<=ws.length->∃T,oR n all gM ws call t0 h0 l m k h rs r s T
 | [],m,k,t,h,rs,r,s,PJ,c,u,hcl,ht,hn0,hG,hkl=>by
   simp only[qF,rm]at c;obtain⟨ah,hk⟩:=c;have al:k=ws.length:=wC hk;simp only[sg,ek]at u;obtain⟨Z,u⟩:=u;cases u;refine⟨{s with H:=HV s.H k h},⟨by simp_all,λj P=>⟨by grind[Je],rfl⟩,by simp_all,?_,?_,by omega,by simp_all,by simp_all,?_,?_,?_,hkl⟩⟩
   ·intro q hq j h1 h2
    have:j=k:=by omega
    simp_all[uh,HV,jI,wR,Kd,Ie,I3]
   ·grind[xX,HV,jI]
   ·grind[HV,jI]
   ·intro d
    rw[ht d];refine lQ (λa ha _=>?_) (by simp_all) _
    simp_all
   simp_all
 | a ::l,m,k,t,h,rs,r,s,PJ,c,u,hcl,ht,hn0,hG,hkl=>by
   have ha:a∈gM:=by simp_all
   have z:∀x∈l,x∈gM:=by simp_all
   simp only[qF,rm,Vo]at c;obtain⟨D,am,c⟩:=c;have w:∀x∈gM,a.b.testBit x.i=true->m.testBit x.i=true:=by grind
   have A:uU gM (m |||2 ^ a.i).testBit:=λx hx B y hy hb=>by
     rw[Ri]at B⊢;simp only[Ie,zv]at B;rcases B with B|B
     ·rw[hcl x hx B y hy hb];rfl
     grind[kh]
   simp only[sg]at u
   cases hd:tz n a.o with
   |none=>simp_all
   | some d =>
     simp only[hd]at u
     let T1:Bool->V->Nat->O->(Nat->Hp)->(Nat->Hp)->Tc:=λb v p ob H G=>⟨HV s.on a.i b,HV s.val a.i v,HV s.tt a.i t,HV s.ep a.i k,HV s.pl a.i p,HV s.ob a.i ob,H,G⟩
     have h1:∀b v p ob H G,∀i,m.testBit i=true->(T1 b v p ob H G).on i=s.on i/\(T1 b v p ob H G).val i=s.val i/\(T1 b v p ob H G).tt i=s.tt i/\(T1 b v p ob H G).ep i=s.ep i/\
        (T1 b v p ob H G).pl i=s.pl i/\(T1 b v p ob H G).ob i=s.ob i:=by grind[Je]
     have E:∀b v p ob H G,∀d',gg (d.f t v) d' = lS (T1 b v p ob H G).val (m |||2 ^ a.i).testBit d' gM (gg t0 d'):=by grind[CU,AQ,Ri,gg,HV,jI]
     have self:∀{b v p ob H G l' k' h' S T},oR n all gM ws call t0 h0 l' (m |||2 ^ a.i) k' h' S r (T1 b v p ob H G) T->
        T.on a.i=b/\T.val a.i=v/\T.tt a.i=t/\T.ep a.i=k/\T.pl a.i=p/\T.ob a.i=ob/\(∀d',gg (T.tt a.i) d' = lS T.val m.testBit d' gM (gg t0 d')):=λ{b v p ob H G l' k' h' S T} g=>by
       obtain⟨a1,a2,a3,a4,a5,a6⟩:=g.same a.i (by simp_all);refine⟨a1.trans (jI _ _ _),a2.trans (jI _ _ _),a3.trans (jI _ _ _),a4.trans (jI _ _ _),a5.trans (jI _ _ _),a6.trans (jI _ _ _),λd'=>?_⟩;rw[a3.trans (jI _ _ _),ht d'];refine(lQ (by simp_all) (λx hx _ aa=>?_) _).symm;rw[(g.same x.i (by simp_all)).2.1,(h1 b v p ob H G x.i aa).2.1]
     rcases Er a.o with hc|hc|hc
     ·
       have F:Nat.beq (cls a.o) 2=false:=by rw[hc];rfl
       rw[F]at c;simp only[rm]at c;obtain⟨I,c⟩:=c;rw[hc]at u;simp only[Bv,c7]at u;obtain⟨b,hw,u⟩:=u
       cases b with
       | false=>
         obtain⟨T,g⟩:=trace C R l _ k _ h rs r (T1 false .undef 0 default s.H s.G) z c u A (E _ _ _ _ _ _) hn0 hG hkl;obtain⟨X,Q,Y,K,L,U,J⟩:=self g
         refine ⟨T,g.cons (by simp_all) (by grind) (iC _) ⟨m.testBit,D,hcl,w,J,⟨d,hd⟩,by simp_all,λ_=>Q,by simp_all,by omega,
           by simp_all,by omega,by omega⟩ g.yK g.more (by omega) (by omega) (iC _) hkl⟩
       | true=>
         simp only[c7]at u;obtain⟨v,ab,u⟩:=u;obtain⟨T,g⟩:=trace C R l _ k _ h _ r (T1 true v 0 default s.H s.G) z c u A (E _ _ _ _ _ _) hn0 hG hkl;obtain⟨X,Q,Y,K,L,U,J⟩:=self g
         refine ⟨T,g.cons (by simp_all) (by grind) (iC _) ⟨m.testBit,D,hcl,w,J,⟨d,hd⟩,by simp_all,by simp_all,by simp_all,by omega,
           λ_ _ j M N j3=>?_,by omega,by omega⟩ (λq hq=>g.yK q (by simp[hq])) g.more (by omega) (by omega) (iC _) hkl⟩
         rw[K]at M;rcases g.yK _ (Si ..) j M N with ac|hh
         ·grind
         grind[uh,V.eq_of_beq]
     ·
       have F:Nat.beq (cls a.o) 2=false:=by rw[hc];rfl
       rw[F]at c;simp only[rm]at c;obtain⟨I,c⟩:=c;rw[hc]at u;simp only[z7,c7]at u;obtain⟨b,hw,u⟩:=u
       cases b with
       | false=>
         obtain⟨T,g⟩:=trace C R l _ k _ h rs r (T1 false .undef 0 default s.H s.G) z c u A (E _ _ _ _ _ _) hn0 hG hkl;obtain⟨X,Q,Y,K,L,U,J⟩:=self g
         refine ⟨T,g.cons (by simp_all) (by grind) (iC _) ⟨m.testBit,D,hcl,w,J,⟨d,hd⟩,by simp_all,λ_=>Q,by simp_all,by omega,
           by omega,by simp_all,by omega⟩ g.yK g.more (by omega) (by simp_all) (iC _) hkl⟩
       | true=>
         simp only[c7]at u;obtain⟨⟨ob,mk⟩,ab,u⟩:=u;obtain⟨T,g⟩:=trace C R l _ k _ _ _ r (T1 true (mk h.next) h.next ob s.H s.G) z c u A (E _ _ _ _ _ _) (Yq hn0) (λj P=>Yq (hG j P)) hkl;obtain⟨X,Q,Y,K,L,U,J⟩:=self g
         refine ⟨T,g.cons (by simp_all) (by grind) (iC _) ⟨m.testBit,D,hcl,w,J,⟨d,hd⟩,by simp_all,by simp_all,by simp_all,by omega,
           by omega,λ_ _=>⟨by simp_all,λj M N=>?_,λj P=>?_,by omega⟩,by omega⟩
           (λq hq=>g.yK q (by simp[hq])) ((xX.new h ob).trans g.more) (by omega) (λ_ _=>by rw[L];exact⟨iC _,Ls _⟩) (Q0 _) hkl⟩
         ·rw[K]at M
          rw[L,U];refine⟨?_,λj3=>?_⟩
          ·have e1:(h.new ob).next<=(T.H k).next:=g.more.1
           have e2:=zW g.chain (j-k) j (by omega) N;have:h.next<(h.new ob).next:=Ls _;omega
          ·rcases g.yK _ (Si ..) j M N with ac|hh
           ·grind
           grind[uh,O.eq_of_beq]
         ·rw[K]at P
          rw[L,(g.N6 j P).2]
          grind
     ·
       have F:Nat.beq (cls a.o) 2=true:=by rw[hc];rfl
       rw[F]at c;simp only[rm]at c;obtain⟨I,c⟩:=c;have ae:k<ws.length:=by
        unfold Uh at I;split at I
        ·grind
        ·cases I
       rw[hc]at u;simp only[wW,ek,c7]at u;obtain⟨Z,b,hw,u⟩:=u;have ai:∀q∈rs,q.last<k\/uh h q=true:=by simp_all[wR,Kd,Ie,I3]
       have aj:∀(b:Bool) (v:V) (h':Hp),lg n all a.o t=some b->(sg n all ws l (Nat.succ k)).f call (d.f t v) h' rs=some r->h.next<=h'.next->(b=false->v = .undef/\h' = h)->
         (b=true->(Ct a.o).f call t h=some (v,h'))->∃T,oR n all gM ws call t0 h0 (a::l) m k h rs r s T:=by
         intro b v h' hw u hn ak an
         obtain ⟨T,g⟩:=trace C R l _ (k+1) _ h' rs r (T1 b v 0 default (HV s.H k h) (HV s.G k h')) z c u A (E _ _ _ _ _ _) (by omega)
           (fun j P=>by
             by_cases e:j=k
             ·subst e;show(HV s.G j h' j).next<=_;simp_all[jI,iC]
             grind[HV,Je,EY]) ae
         obtain⟨X,Q,Y,K,L,U,J⟩:=self g;obtain⟨g1,g2⟩:=g.N6 k (Ls _);have W:T.H k=h:=g1.trans (jI _ _ _);have ag:T.G k=h':=g2.trans (jI _ _ _)
         refine ⟨T,g.cons (h1 _ _ _ _ _ _) (by grind[Je]) (Q0 _) ⟨m.testBit,D,hcl,w,J,⟨d,hd⟩,by grind,
           by grind,by omega,by omega,by omega,by omega,
           λ_=>⟨by grind,λho=>?_,λho=>?_⟩⟩ (λq hq j M N=>?_) (by rw[W];exact .refl h) (λj M N=>?_) (by omega) hn hkl⟩
         ·grind
         ·grind
         ·by_cases e:j=k
          ·grind
          ·exact g.yK q hq j (by omega) N
         ·have:j=k:=by omega
          subst this;rw[W,ag];exact⟨hn,g.more⟩
       cases b with
       |false=>grind
       | true=>
         grind[c7,ek,EN]
end
