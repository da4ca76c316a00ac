/- Parts. -/
import Derived.Test.YtpfjdlicdljhaaaDoorM03
set_option maxHeartbeats 4000000
namespace Go.Proofs.YtpfjdlicdljhaaaDoor.Hx
def uF(call:Call):Prop:=∀(f:Nat) (args:List V) (v:V) (h h':Hp) (Δ:Env) (w:World) (gz:Array Value),call f args h=some (v,h')->WR Δ h w->gh Δ args gz.toList-> (∃x,(callFunc f gz).run P0 w = .ok (.value x) w/\xD Δ h w v h' Δ x w)\/ ((callFunc f gz).run P0 w = .ok (.enter f gz) w/\Calls P0 f gz w λe w'=>∃a x,e = .returned x/\xD Δ h w v h' a x w')
section
variable{Δ:Env}{h:Hp}{w:World}{n:Nat}{t:Tm}{a:Act}
theorem MK{call:Call} (hc:uF call) (j:WR Δ h w) (p:TR Δ n t a) {o:Oper} {v:V} {h':Hp} (c:(GC o).f call t h=some (v,h')) {K:Act->World->Prop} {Q:Exit->Act->World->Prop}
  (q:∀m x w',xD Δ h w v h' m x w'->K (a.put o.dst x) w'):o.wp P0 a w K Q:=by
 unfold GC at c;split at c
 ·simp only[fh]at c;obtain⟨y,k,d⟩:=c;cases d;obtain⟨x,b,i⟩:=Yz j p k;unfold Oper.wp;rw[b,Oper.upon_value];exact q Δ x w ⟨i,j,.refl _ _,.refl _ _⟩
 ·simp only[fh]at c;obtain⟨⟨ob,mk⟩,k,d⟩:=c;cases d;obtain⟨B,C,b,i⟩:=Pq p k;obtain⟨m,a1,a2,a3,z⟩:=j.alloc i;unfold Oper.wp;rw[b w,Oper.upon_value];exact q m _ _ ⟨a2,a1,a3,z⟩
 ·simp only[fh]at c;obtain⟨r,k,d⟩:=c;rcases Wb j p k with⟨y,A,m,x,w',rfl,b,i⟩|⟨g,l,gz,rfl,b,i⟩
  ·cases d;unfold Oper.wp;rcases b with b|⟨rfl,b⟩
   ·grind[Oper.upon_value]
   grind[Oper.upon_skip]
  ·unfold Oper.wp;rw[i];rcases hc g l v h h' Δ w gz d j b with⟨x,s,u⟩|⟨s,u⟩
   ·grind[Oper.upon_value]
   ·rw[s,Oper.upon_enter];refine Calls.mono u λe w' D=>?_
    grind
theorem Wg(a:Act) (d:Nat) (x:Value) (i:Nat) (b:d<a.tmps.size):(a.put (some d) x).tmps.getD i undef=if d=i then x else a.tmps.getD i undef:=by
 simp only[Act.put,wBS,Array.getElem?_setIfInBounds]
 grind
theorem put_defers(a:Act)(d:Option Tmp)(x:Value):(a.put d x).defers=a.defers:=by cases d <;> rfl
theorem HY(c:TR Δ n t a) {o:Oper} {d:DF} (b:w9 n o=some d) {v:V} {x:Value} (g:fF Δ v x):TR Δ n (d.f t v) (a.put o.dst x):=by
 unfold w9 at b
 cases ho:o.dst with
 |none=>simp only[ho]at b;cases b;exact c
 | some k=>
   simp only[ho]at b
   cases hk:Nat.blt k n with
   |false=>simp_all
   | true=>
     simp only[hk]at b;cases b;have e:k<a.tmps.size:=by rw[c.size,<-Nn];exact hk
     refine⟨by simp[Act.put,c.size],λi=>?_,by rw[put_defers];show G9 Δ (t.set k v).ds _;rw[Tm.Wl];exact c.ds⟩;rw[Wg _ _ _ _ e];show fF Δ (jl (t.set k v) i) _;rw[Kt];by_cases h:k=i
     ·simp_all
     ·rw[if_neg h,if_neg h];exact c.rel i
theorem My{n:Nat} {ops:List Oper} {o:Oper} (a:jW n ops o=none) (y:Nat->Option Bool):Region.wanted o y=true:=by
 grind[jW,Region.wanted]
theorem Mo(m:TR Δ n t a) {ops:Array Oper} {o:Oper} {g:GF} (e:jW n ops.toList o=some g) {b:Bool} (h:g.f t=some b):Region.wanted o (yielded ops a.tmps)=b:=by
 unfold jW at e;unfold Region.wanted
 cases hg:o.guard with
 |none=>simp_all
 | some q =>
   obtain⟨j,r⟩:=q;simp only[hg]at e⊢;unfold yielded
   cases hj:ops.toList[j]? with
   | none=>
     grind
   | some p=>
     have l:ops[j]? =some p:=by rw[<-X2];exact hj
     simp only[hj]at e;simp only[l,Option.bind_some]
     cases hd:p.dst with
     | none=>
       grind
     | some d=>
       simp only[hd]at e;simp only[Option.bind_some]
       cases Me:Nat.blt d n with
       |false=>grind
       | true=>
         simp only[Me]at e;cases e;have i:d<a.tmps.size:=by rw[m.size,<-Nn];exact Me
         have k:=m.rel d;have s:a.tmps[d]? =some (a.tmps.getD d undef):=by simp[i]
         rw[s];generalize a.tmps.getD d undef=x at k;simp only at h;split at h
         ·rename_i u c
          cases h;rw[c]at k;cases k;cases r <;> cases u <;> rfl
         ·rename_i c
          cases h;rw[c]at k;cases k <;> grind
         ·cases h
structure Ae (Δ:Env) (h:Hp) (w:World) (n:Nat) (t':Tm) (h':Hp) (a:Env) (a':Act) (w':World):Prop where
 tmps:TR a n t' a'
 world:WR a h' w'
 frame:FR Δ a w w'
 grow:Gr h Δ h' a
theorem Ae.start(b:TR Δ n t a)(c:WR Δ h w):Ae Δ h w n t h Δ a w:=⟨b,c,.refl _ _,.refl _ _⟩
theorem Ae.trans{a b:Env} {c d:Hp} {e f:World} {i g:Tm} {a1 a2:Act} (x:Ae Δ h w n i c a a1 e) (y:Ae a c e n g d b a2 f):Ae Δ h w n g d b a2 f:=
 ⟨y.tmps,y.world,x.frame.trans y.frame,x.grow.trans y.grow⟩
theorem Ae.put(g:TR Δ n t a) {o:Oper} {d:DF} (b:w9 n o=some d) {v:V} {h':Hp} {e:Env} {x:Value} {w':World} (c:xD Δ h w v h' e x w') :
  Ae Δ h w n (d.f t v) h' e (a.put o.dst x) w':=
 ⟨HY (g.mono c.frame.le) b c.val,c.world,c.frame,c.grow⟩
theorem VC(p:WR Δ h w) (b:TR Δ n t a) {o:Oper} {q:QF} (hq:yN o=some q) {t':Tm} (l:q.f t h=some t') :
  ∃d,(∀w,(execOp a.eval o).run P0 w = .ok (.defer d) w)/\TR Δ n t' {a with defers:=d::a.defers}:=by
 unfold yN at hq;split at hq
 ·rename_i c r;split at hq
  ·rename_i f s;cases hq;simp only[fh]at l;obtain⟨A,u,args,v,j⟩:=l;have e:=ke p b u;obtain⟨xs,x⟩:∃xs,xs=c.args.map a.eval:=⟨_,rfl⟩
   have k:=zL b v;generalize y:a.eval f=xv at e;unfold Vk at j;split at j
   ·rename_i g first m
    cases j
    cases e with
    | func _ _ _ a' c' z hc=>
      refine⟨{target:= .fn (.func g) c',args:=a'++c.args.map a.eval},λw=>?_,⟨b.size,λi=>?_,?_⟩⟩
      ·have B:(resolve a.eval c o.type).run P0 w = .ok {target:= .fn (.func g) c',args:=a'++c.args.map a.eval} w:=by
         unfold resolve;rw[s];simp only[y];rfl
       simp_all[execOp,uZ,tN]
      ·rw[Tx];exact b.rel i
      ·rw[Tm.X6]
       refine .cons _ _ _ _ _ _ ?_ b.ds;simp only[Array.toList_append,Jx,Array.toList_map];exact z.append (k.append hc)
   ·cases j
  ·cases hq
 ·cases hq
theorem Yi{call:Call} (hc:uF call) {ops:Array Oper} {i:Nat} {o:Oper} (hi:ops[i]? =some o) {c:SF} {K:Act->World->Prop} {Q:Exit->Act->World->Prop}
  (m:WR Δ h w) (j:TR Δ n t a) {r:Tm×Hp} (e:(G8 n ops.toList o c).f call t h=some r)
  (p:∀t' h' u a' w',c.f call t' h' = some r->Ae Δ h w n t' h' u a' w'->K a' w'):wpOp P0 ops Q i K a w:=by
 unfold G8 at e;unfold wpOp;simp only[hi]
 cases hdst:w9 n o with
 |none=>simp only[hdst]at e;cases e
 | some d=>
   simp only[hdst]at e;have z:∀x,oB ((GC o).f call t h) (λr=>c.f call (d.f t r.1) r.2)=some x->x=r->o.wp P0 a w K Q:=by
     intro x y s;subst s;rw[fh]at y;obtain⟨⟨v,h'⟩,k,l⟩:=y;exact MK hc m j k λu x w' A=>p _ _ _ _ _ l (Ae.put j hdst A)
   cases hg:jW n ops.toList o with
   | none=>
     simp only[hg]at e;rw[if_pos (My hg _)]
     cases hq:yN o with
     |none=>grind
     | some q=>
       simp only[hq,fh]at e;obtain⟨D,k,l⟩:=e;obtain⟨E,B,C⟩:=VC m j hq k;refine .inl ?_;unfold Oper.wp;rw[B w,Oper.upon_defer]
       exact p _ _ _ _ _ l (Ae.put C hdst ⟨.undef Δ,m,.refl _ _,.refl _ _⟩)
   | some g=>
     simp only[hg,fh]at e;obtain⟨b,k,l⟩:=e;rw[Mo j hg k]
     cases b with
     |true=>simp_all
     |false=>exact p _ _ _ _ _ l (Ae.put j hdst ⟨.undef Δ,m,.refl _ _,.refl _ _⟩)
theorem MY{call:Call} (hc:uF call) {ops:Array Oper} {Q:Exit->Act->World->Prop}:∀(l:List Oper) (k:Nat),l=ops.toList.drop k->∀{Δ:Env} {h:Hp} {w:World} {t:Tm} {a:Act},
  WR Δ h w->TR Δ n t a->∀{r:Tm×Hp},(sh n ops.toList l).f call t h=some r->(∀d a' w',Ae Δ h w n r.1 r.2 d a' w'->Q .normal a' w')->
  wpOps P0 ops Q (List.range' k l.length) a w
 | [],k,hl,Δ,h,w,t,a,hW,hT,r,hv,hQ=>by
   cases hv
   exact hQ _ _ _ (.start hT hW)
 | o ::l,k,hl,Δ,h,w,t,a,hW,hT,r,hv,hQ=>by
   have hk:ops[k]? =some o:=by
     have:(ops.toList.drop k)[0]? =some o:=by rw[<-hl];rfl
     rw[wBn,XC]at this;simpa using this
   have b:l=ops.toList.drop (k+1):=by
     rw[<-Yw,<-hl];rfl
   rw[M0,List.range'_succ,wpOps_cons];refine Yi hc hk hW hT hv λt' h' d a' w' e c=>?_;exact MY hc l (k+1) b c.world c.tmps e λg i j m=>hQ _ _ _ (c.trans m)
end
def Df(c:Code) (Q:Exit->Act->World->Prop) (a:Act) (w:World):Prop:=∀(b:Frame) (k:List Item) (cs:List Frame),∃e a' w',Q e a' w'/\Arrives P0 (lone (b.at a (.code c:: .inLoop c::k)) cs w) b k cs e a' w'
theorem Df.round{c:Code} {Q:Exit->Act->World->Prop} {a:Act} {w:World} (h:c.wp P0 (Exit.then (Df c Q) Q) a w):Df c Q a w:=by
 intro b k cs;obtain⟨e,g,i,hq,d⟩:=h b (.inLoop c::k) cs
 cases e with
 | normal=>
   obtain⟨m,n,o,j,f⟩:=hq b k cs
   exact⟨m,n,o,j,.of_steps (Steps.trans d (.one step_inLoop)) f⟩
 |exit id=>exact⟨_,g,i,hq,.pass (x:= .inLoop c) rfl (by simp_all) d⟩
 |goto l=>exact⟨_,g,i,hq,.pass (x:= .inLoop c) rfl (by simp_all) d⟩
 |ret=>exact⟨_,g,i,hq,.pass (x:= .inLoop c) rfl (by simp_all) d⟩
 |panic ch=>exact⟨_,g,i,hq,.pass (x:= .inLoop c) rfl (by simp_all) d⟩
 |outgrown=>exact⟨_,g,i,hq,.pass (x:= .inLoop c) rfl (by simp_all) d⟩
theorem Df.wp{c:Code} {Q:Exit->Act->World->Prop} {a:Act} {w:World} (h:Df c Q a w):(Code.loop c).wp P0 Q a w:=
 λb k cs=>let⟨e,a',w',q,r⟩:=h b k cs;⟨e,a',w',q,.of_steps (.one step_loop) r⟩
def Alike(t t':Tm)(x:Operand):Prop:=(LJ x).f t=(LJ x).f t'
theorem GB{t t':Tm} {l:List Operand} (h:∀d,d∈Ao l->jl t d=jl t' d):∀x∈l,Alike t t' x:=by
 induction l with
 |nil=>simp_all
 | cons y l b=>
   intro x a
   cases a with
   | head=>
     unfold Alike
     cases y <;> grind[jl,Ao,LJ]
   | tail _ a=>
     refine b (λd c=>h d ?_) x a;cases y <;> simp[Ao,c]
section
variable{t t':Tm}{h:Hp}
theorem gD{x:Operand} (a:Alike t t' x):(rr x).f t h=(rr x).f t' h:=by
 unfold Alike at a;cases x <;> grind[rr]
theorem we:∀{l:List Operand},(∀x∈l,Alike t t' x)->Ha t l=Ha t' l
 |[],_=>rfl
 | x::l,hl=>by
   have a:(LJ x).f t=(LJ x).f t':=hl x (by simp);simp only[Ha,a,we (l:=l) (by simp_all)]
theorem Ai:∀{l:List (Nat×Operand)},(∀x∈l,Alike t t' x.2)->sk t l=sk t' l
 |[],_=>rfl
 | x::l,hl=>by
   have a:(LJ x.2).f t=(LJ x.2).f t':=hl x (by simp);simp only[sk,a,Ai (l:=l) (by grind)]
theorem QP{x:Option Operand} (a:∀y,x=some y->Alike t t' y):G5 x t h=G5 x t' h:=by
 cases x with
 |none=>rfl
 |some y=>simp only[G5,gD (a y rfl)]
theorem OA{ty:Nat} {p:PF} (a:p.f t h=p.f t' h):(I3 ty p).f t h=(I3 ty p).f t' h:=by
 grind[I3]
theorem OS{a b:Nat} {p:PF} (c:p.f t h=p.f t' h):(I5 a b p).f t h=(I5 a b p).f t' h:=by
 grind[I5]
theorem IF{a b:Nat} {p:PF} (c:p.f t h=p.f t' h):(pb a p b).f t h=(pb a p b).f t' h:=by
 grind[pb]
theorem M4{a b:Nat} {p:PF} (c:p.f t h=p.f t' h):(FJ a p b).f t h=(FJ a p b).f t' h:=by
 grind[FJ]
theorem II{a:Nat} {p q:PF} (b:p.f t h=p.f t' h) (hq:q.f t h=q.f t' h):(pE a p q).f t h=(pE a p q).f t' h:=by
 grind[pE]
theorem N8{a:Nat} {p q:PF} (b:p.f t h=p.f t' h) (hq:q.f t h=q.f t' h):(Ge a p q).f t h=(Ge a p q).f t' h:=by
 grind[Ge]
theorem M7{a:Nat} {p:PF} {lo hi:Option Operand} (b:p.f t h=p.f t' h) (c:G5 lo t h=G5 lo t' h) (d:G5 hi t h=G5 hi t' h) :
  (Iw a p lo hi).f t h=(Iw a p lo hi).f t' h:=by
 grind[Iw]
theorem LN{a:Nat} {p q:PF} {ok:Bool} (b:p.f t h=p.f t' h) (hq:q.f t h=q.f t' h):(EC a p q ok).f t h=(EC a p q ok).f t' h:=by
 grind[EC]
theorem Rt{a:Nat} {p:PF} (b:p.f t h=p.f t' h):(hlen a p).f t h=(hlen a p).f t' h:=by
 grind[hlen]
theorem Ma{a:Nat} {p:PF} {ok:Bool} (b:p.f t h=p.f t' h):(Et p a ok).f t h=(Et p a ok).f t' h:=by
 grind[Et]
theorem PQ{c p q:PF} (hc:c.f t h=c.f t' h) (a:p.f t h=p.f t' h) (hq:q.f t h=q.f t' h):(Je c p q).f t h=(Je c p q).f t' h:=by
 grind[Je]
theorem Nq{a:Nat} {ps:List (Nat×Operand)} (b:sk t ps=sk t' ps):(F0 a ps).f t h=(F0 a ps).f t' h:=by
 unfold F0;grind
theorem FT{o:Oper} (g:∀x∈o.op.operands.toList,Alike t t' x):(il o).f t h=(il o).f t' h:=by
 obtain⟨dst,op,ty,pos,af,gd⟩:=o;cases op <;> simp only[il] <;> simp only[Op.operands]at g
 case move x=>grind[gD]
 case assign x=>grind[gD]
 case pick c a b=>exact PQ (by grind[gD]) (by grind[gD]) (by grind[gD])
 case load ty a=>grind[OA,gD]
 case nilCheck x=>grind[yj,gD]
 case binOp op xt x y b=>grind[gD]
 case unOp op b x=>grind[gD]
 case convert s d x=>grind[OS,gD]
 case build ty ps=>grind[Nq,Ai]
 case makeFunc fn first caps=>
  cases fn with
  |func f=>grind[we]
  |_=>rfl
 case slice ty x lo hi mx=>
  cases mx with
  |none=>grind[M7,gD,QP]
  |some _=>rfl
 case fieldAddr s x f=>grind[IF,gD]
 case field s x f=>grind[M4,gD]
 case indexAddr ty x i=>grind[II,gD]
 case index ty x i=>grind[N8,gD]
 case lookup ty m k ok=>grind[LN,gD]
 case extract x i=>grind[Di,gD]
 case makeInterface ty x=>
  split
  ·grind[gD]
  ·rfl
 case typeAssert x b asserted ok=>grind[Ma,gD]
 case call c=>
  obtain⟨e,args,j⟩:=c
  cases e with
  | builtin b=>
    have l:∀x∈args.toList,Alike t t' x:=by grind[Call.operands]
    cases b <;> simp only
    case len=>
      split
      ·grind[Rt,gD]
      ·rfl
    case min=>grind[we]
    case max=>grind[we]
    all_goals rfl
  |_=>rfl
 all_goals rfl
theorem MG{x:Operand}(a:Alike t t' x):(LJ x).f t=(LJ x).f t':=a
theorem Jl{o:Oper} (a:∀x∈o.op.operands.toList,Alike t t' x):(pD o).f t=(pD o).f t':=by
 obtain⟨dst,op,ty,pos,af,gd⟩:=o;cases op <;> simp only[pD] <;> simp only[Op.operands]at a
 case alloc e=>split <;> rfl
 case box e x=>grind[MG]
 case buildSlice ty len parts=>
  (repeat' split) <;> first
   |rfl
   |grind[DU,Ai]
 case makeSlice ty n c=>
  (repeat' split) <;> first
   |rfl
   |grind[MG]
 case makeMap ty r=>
  cases r with
  |none=>simp only;split <;> rfl
  |some _=>rfl
 all_goals rfl
theorem O4{o:Oper} (j:∀x∈o.op.operands.toList,Alike t t' x):(jy o).f t h=(jy o).f t' h:=by
 obtain⟨dst,op,ty,pos,af,gd⟩:=o;cases op <;> simp only[jy] <;> simp only[Op.operands]at j
 case store ty a x=>
  split
  ·grind[gD]
  ·rfl
 case mapUpdate ty m k x=>
  (repeat' split) <;> first
   |rfl
   |grind[gD]
 case insert ty m k x=>
  (repeat' split) <;> first
   |rfl
   |grind[gD]
 case range ty x=>
  split
  ·grind[gD]
  ·rfl
 case next x Y4=>
  cases Y4 with
  |true=>rfl
  |false=>grind[gD]
 case entry x=>grind[gD]
 case convert s d x=>
  (repeat' split) <;> first
   |rfl
   |grind[gD]
 case call c=>
  obtain⟨g,args,l⟩:=c
  cases g with
  | builtin b=>
    have n:∀x∈args.toList,Alike t t' x:=by grind[Call.operands]
    cases b <;> simp only
    case append=>
      split
      ·rename_i s x i xT e _
       (repeat' split) <;> first
         |rfl
         |grind[gD]
      ·rfl
    case copy=>
      split
      ·rename_i s x i xT e _
       (repeat' split) <;> first
         |rfl
         |grind[gD]
      ·rfl
    case delete=>
      split
      ·rename_i s x i xT e _
       (repeat' split) <;> first
         |rfl
         |grind[gD]
      ·rfl
    all_goals rfl
  | value f=>
    grind[Alike,Call.operands,gD,we]
  | invoke r m=>
    grind[Alike,Call.operands,gD,we]
 all_goals rfl
theorem Kq{call:Call} {o:Oper} (a:∀x∈o.op.operands.toList,Alike t t' x):(GC o).f call t h=(GC o).f call t' h:=by
 grind[GC,FT,Jl,O4]
end
theorem AZ:∀(l:List Oper) (i:Nat) (b:List Nat) (k:Nat) (a:It),(items l i b)[k]? =some a->a.i=i+k/\l[k]? =some a.o
 |[],i,b,k,a,h=>by grind[items]
 |o::os,i,b,0,a,h=>by simp[items]at h;grind
 | o::os,i,b,k+1,a,h=>by
   simp only[items,wBa]at h;obtain⟨c,d⟩:=AZ os (i+1) _ k a h
   grind
theorem Hk:∀(l:List Oper) (i:Nat) (a:List Nat),(items l i a).length=l.length
 |[],i,a=>rfl
 |o::os,i,a=>by simp[items,Hk os]
theorem Ak(a:List Nat) (x:Nat):∀(b:List Edge) (m:Nat),(Lk a b m).testBit x=true->m.testBit x=true\/∃e∈b,Ka e=true/\(x=e.on\/(a[e.on]?.getD 0).testBit x=true)
 |[],m,h=> .inl h
 | e ::b,m,h=>by
   simp only[Lk]at h;split at h
   ·rename_i g
    rcases Ak a x b _ h with c|⟨e',f,d,c⟩
    ·grind
    grind
   ·rcases Ak a x b _ h with c|⟨e',f,d,c⟩
    ·simp_all
    grind
theorem RR:∀(l:List Oper) (i:Nat) (c:List Nat) (k:Nat) (a:It),(items l i c)[k]? =some a->
  a.b=Lk (c++((items l i c).take k).map (·.b)) a.o.after.toList 0
 |[],i,c,k,a,h=>by grind[items]
 |o::os,i,c,0,a,h=>by grind[items]
 | o::os,i,c,k+1,a,h=>by
   simp only[items,wBa]at h;have:=RR os (i+1) _ k a h
   grind[items,Jx]
theorem KB{l:List Oper} {k:Nat} {a:It} (h:(items l 0 [])[k]? =some a) {x:Nat} (d:a.b.testBit x=true) :
  ∃e∈a.o.after.toList,Ka e=true/\(x=e.on\/∃y,(items l 0 [])[e.on]? =some y/\y.b.testBit x=true):=by
 rw[RR l 0 [] k a h]at d;rcases Ak _ x _ _ d with c|⟨e,f,g,c⟩
 ·simp_all
 ·refine ⟨e,f,g,?_⟩;rcases c with c|c
  ·omega
  ·right;rw[Qk,AJ,List.getElem?_take]at c
   grind
theorem Eh(e:Edge):Region.binds .any e=Ka e:=by
 rfl
def pP(val:Nat->V)(D:Nat->Bool)(d:Nat)(jB:List It)(b:V):V:=jB.foldl (λv a=>if D a.i=true/\a.o.dst=some d then val a.i else v) b
theorem pH{val L8:Nat->V} {D D':Nat->Bool} {d:Nat} {jB:List It} (c:∀a∈jB,a.o.dst=some d->D a.i=D' a.i) (e:∀a∈jB,a.o.dst=some d->D a.i=true->val a.i=L8 a.i) (b:V) :
  pP val D d jB b=pP L8 D' d jB b:=by
 unfold pP
 induction jB generalizing b <;> grind
theorem Gy{val:Nat->V} {D:Nat->Bool} {d:Nat} {jB:List It} (h:∀a∈jB,a.o.dst=some d->D a.i=false) (b:V):pP val D d jB b=b:=by
 unfold pP
 induction jB generalizing b <;> grind
theorem UJ{val:Nat->V} {D:Nat->Bool} {d:Nat} {jB:List It} (e:∀(k:Nat) (x:It),jB[k]? =some x->x.i=k) {a:It} (g:a∈jB) (j:a.o.dst=some d) (l:D a.i=true)
  (h:∀x∈jB,a.i<x.i->x.o.dst=some d->D x.i=false) (m:V):pP val D d jB m=val a.i:=by
 obtain⟨k,hk⟩:=mm.1 g;have n:=e k a hk;have f:k<jB.length:=by grind
 have b:jB=jB.take k++a::jB.drop (k+1):=by
  have p:jB.drop k=a::jB.drop (k+1):=by
   rw[V9 f];rw[ig f]at hk;cases hk;rfl
  rw[<-p,WN]
 have c:∀x∈jB.drop (k+1),x.o.dst=some d->D x.i=false:=by
  intro x r s;obtain⟨q,hq⟩:=mm.1 r;rw[wBn]at hq;have:=e _ x hq;exact by grind
 unfold pP;rw[b,List.foldl_append,List.foldl_cons,if_pos ⟨l,j⟩];exact Gy c _
def Bw(h h':Hp):Prop:=h.next<=h'.next/\∀l,l<h.next->h'.get l=h.get l
theorem Bw.refl(h:Hp):Bw h h:=⟨iZ _,λ_ _=>rfl⟩
theorem Bw.trans{h h' c:Hp}(a:Bw h h')(b:Bw h' c):Bw h c:=⟨Fe a.1 b.1,λl d=>by rw[b.2 l (Cc d a.1),a.2 l d]⟩
theorem Bw.new(h:Hp)(o:O):Bw h (h.new o):=⟨Qe _,by simp_all[tW,if_neg,Nat.ne_of_gt]⟩
theorem WR.Nj{Δ:Env} {h h':Hp} {w:World} (a:WR Δ h w) (b:Bw h h'):WR Δ h' w where
 fresh:=λl d f=>Cc (a.fresh l d f) b.1
 mh:=a.mh
 obj:=λl d f=>by rw[b.2 l (a.fresh l d f)];exact a.obj l d f
 apart:=λm i e e' p s k n j o q=>by
  rw[b.2 m (a.fresh m e k)]at o;rw[b.2 i (a.fresh i e' n)]at q;exact a.apart m i e e' p s k n j o q
 GA:=λg p c r=>by
  rw[b.2 g (Cc c a.xF)]at r;exact a.GA g p c r
 xF:=Fe a.xF b.1
 SW:=a.SW
theorem O.eq_of_beq{a b:O} (h:O.beq a b=true):a=b:=by
 unfold O.beq at h;split at h
 ·simp only[ve,IB]at h;obtain⟨⟨⟨⟨rfl,rfl⟩,rfl⟩,rfl⟩,c⟩:=h
  grind[V.vT]
 ·simp_all
 ·cases h
structure Tc where
 on:Nat->Bool
 val:Nat->V
 tt:Nat->Tm
 ep:Nat->Nat
 pl:Nat->Nat
 ob:Nat->O
 H:Nat->Hp
 G:Nat->Hp
def yW(jB:List It)(D:Nat->Bool):Prop:=∀a∈jB,D a.i=true->∀x∈jB,a.b.testBit x.i=true->D x.i=true
section
variable (n:Nat)(all:List Oper)(jB ws:List It)(call:Call)(t0:Tm)(h0:Hp)
structure KT (T:Tc) (D:Nat->Bool) (a:It):Prop where
 fresh:D a.i=false
 closed:yW jB D
 ez:∀x∈jB,a.b.testBit x.i=true->D x.i=true
 nV:∀d,jl (T.tt a.i) d=pP T.val D d jB (jl t0 d)
 dst:∃d,w9 n a.o=some d
 oS:oS n all a.o (T.tt a.i)=some (T.on a.i)
 off:T.on a.i=false->T.val a.i = .undef
 epw:cls a.o≠2->JW ws a (T.ep a.i)=true
 epl:T.ep a.i<=ws.length
 pure:cls a.o=0->T.on a.i=true->∀j,T.ep a.i<=j->j<=ws.length->j<=late ws a->(il a.o).f (T.tt a.i) (T.H j)=some (T.val a.i)
 alloc:cls a.o=1->T.on a.i=true->(∃mk,(pD a.o).f (T.tt a.i)=some (T.ob a.i,mk)/\T.val a.i=mk (T.pl a.i))/\
  (∀j,T.ep a.i<=j->j<=ws.length->T.pl a.i<(T.H j).next/\(j<=late ws a->(T.H j).get (T.pl a.i)=some (T.ob a.i)))/\
  (∀j,j<T.ep a.i->(T.G j).next<=T.pl a.i)/\h0.next<=T.pl a.i
 write:cls a.o=2->Zq ws a (T.ep a.i)=true/\(T.on a.i=true->(GC a.o).f call (T.tt a.i) (T.H (T.ep a.i))=some (T.val a.i,T.G (T.ep a.i)))/\
  (T.on a.i=false->T.G (T.ep a.i)=T.H (T.ep a.i))
structure sm (l:List It) (m k:Nat) (h:Hp) (rs:List Rec) (r:Tm×Hp) (b T:Tc):Prop where
 same:∀i,m.testBit i=true->T.on i=b.on i/\T.val i=b.val i/\T.tt i=b.tt i/\T.ep i=b.ep i/\T.pl i=b.pl i/\T.ob i=b.ob i
 SY:∀j,j<k->T.H j=b.H j/\T.G j=b.G j
 item:∀a∈l,∃D,KT n all jB ws call t0 h0 T D a
 Cl:∀r∈rs,∀j,k<=j->j<=ws.length->r.last<j\/yd (T.H j) r=true
 more:Bw h (T.H k)
 chain:∀j,k<=j->j<ws.length->(T.H j).next<=(T.G j).next/\Bw (T.G j) (T.H (j+1))
 Uv:∀a∈l,cls a.o=1->T.on a.i=true->h.next<=T.pl a.i
 SL:∀a∈l,∀a'∈l,cls a.o=1->cls a'.o=1->T.on a.i=true->T.on a'.i=true->a.i≠a'.i->T.pl a.i≠T.pl a'.i
 last:r.2=T.H ws.length
 nV:∀d,jl r.1 d=pP T.val (λ_=>true) d jB (jl t0 d)
 done:∀a∈jB,m.testBit a.i=true\/a.i∈l.map (·.i)
 kle:k<=ws.length
end
theorem Eb{ws:List It} {T:Tc} {k:Nat} (h:∀j,k<=j->j<ws.length->(T.H j).next<=(T.G j).next/\Bw (T.G j) (T.H (j+1))):∀(m j:Nat),j=k+m->j<=ws.length->(T.H k).next<=(T.H j).next:=by
 intro m
 induction m with
 |zero=>simp_all
 | succ m b=>
   intro j g c;obtain⟨a,rfl⟩:∃a,j=a+1:=⟨j-1,by omega⟩
   have d:=b a (by omega) (by omega);obtain⟨e,f⟩:=h a (by omega) (by omega);exact Fe d (Fe e f.1)
theorem Vi(m i x:Nat):(m |||2 ^ i).testBit x=(m.testBit x ||decide (i=x)):=by grind
theorem IV{l:List It} (h:pW l=true):∀(i j:Nat) (a b:It),i<j->l[i]? =some a->l[j]? =some b->Nr a b=true:=by
 induction l with
 |nil=>simp_all
 | cons x l d=>
   intro i j a b c e f;simp only[pW,ve]at h
   grind
theorem MV{jB:List It} (c:∀(k:Nat) (x:It),jB[k]? =some x->x.i=k) (h:pW jB=true) {a x:It} (l:a∈jB) (m:x∈jB) {d:Nat} (n:d∈oO a.o) (e:x.o.dst=some d) :
  (x.i<a.i->a.b.testBit x.i=true)/\(a.i<x.i->x.b.testBit a.i=true):=by
 obtain⟨i,hi⟩:=mm.1 l;obtain⟨j,f⟩:=mm.1 m;have p:=c i a hi;have q:=c j x f;have r:writes x.o (oO a.o)=true:=by simp[writes,e,n]
 constructor
 ·intro g;have:=IV h j i x a (by omega) f hi
  grind[Nr]
 ·intro g;have:=IV h i j a x (by omega) hi f
  grind[Nr]
theorem Ud{o:Oper}{d:Nat}(h:o.dst=some d):d∈oO o:=by simp[oO,h]
theorem FZ{jB:List It} (e:∀(k:Nat) (x:It),jB[k]? =some x->x.i=k) (q:pW jB=true) {a:It} (f:a∈jB) {D D':Nat->Bool} (r:yW jB D) (g:yW jB D')
  (u:∀x∈jB,a.b.testBit x.i=true->D x.i=true) (s:∀x∈jB,a.b.testBit x.i=true->D' x.i=true) (n:D a.i=false) (c:D' a.i=false) {d:Nat} (t:d∈oO a.o) (val:Nat->V) (j:V) :
  pP val D d jB j=pP val D' d jB j:=by
 refine pH (λx l m=>?_) (by simp_all) j;obtain⟨v,p⟩:=MV e q f l t m;rcases wB4 x.i a.i with h|h|h
 ·simp_all
 ·simp_all
 ·have w:D x.i=false:=by
   cases hh:D x.i with
   |false=>rfl
   |true=>rw[r x l hh a f (p h)]at n;cases n
  have y:D' x.i=false:=by
   cases hh:D' x.i with
   |false=>rfl
   |true=>rw[g x l hh a f (p h)]at c;cases c
  simp_all
theorem En{jB:List It} (b:∀(k:Nat) (x:It),jB[k]? =some x->x.i=k) (q:pW jB=true) {a:It} (l:a∈jB) {D D':Nat->Bool} (r:yW jB D) (p:D a.i=false)
  (f:∀i,D' i=(D i ||decide (a.i=i))) {val L8:Nat->V} (u:∀i,D i=true->L8 i=val i) (d:Nat) (m:V) :
  pP L8 D' d jB m=if a.o.dst=some d then L8 a.i else pP val D d jB m:=by
 by_cases hd:a.o.dst=some d
 ·rw[if_pos hd];refine UJ b l hd (by simp_all) (λx g h c=>?_) m;rw[f];have s:a.i≠x.i:=O6 h;have:=(MV b q l g (Ud hd) c).2 h
  cases hh:D x.i with
  |false=>simp_all
  |true=>rw[r x g hh a l this]at p;cases p
 ·rw [if_neg hd];refine pH (λx g c=>?_) (λx g c t=>?_) m
  ·rw [f];have:a.i≠x.i:=by
    intro e;obtain⟨i,hi⟩:=mm.1 l;obtain⟨j,n⟩:=mm.1 g;have v:=b i a hi;have w:=b j x n;have:i=j:=by omega
    subst this;rw[hi]at n;cases n;exact hd c
   simp_all
  grind[mm]
def LV{α:Type}(f:Nat->α)(i:Nat)(v:α):Nat->α:=λj=>if j=i then v else f j
theorem ml{α:Type}(f:Nat->α)(i:Nat)(v:α):LV f i v i=v:=if_pos rfl
theorem N1{α:Type}(f:Nat->α){i j:Nat}(v:α)(h:j≠i):LV f i v j=f j:=if_neg h
theorem HZ(o:Oper):cls o=0\/cls o=1\/cls o=2:=by
 unfold cls
 grind
theorem GG{n:Nat} {o:Oper} {d:DF} (h:w9 n o=some d) (t:Tm) (v:V) (i:Nat):jl (d.f t v) i=if o.dst=some i then v else jl t i:=by
 unfold w9 at h
 cases ho:o.dst with
 |none=>grind
 | some k=>
   simp only[ho]at h
   cases hk:Nat.blt k n with
   |false=>simp_all
   | true=>
     simp only[hk]at h;cases h;show jl (t.set k v) i=_
     simp_all[Kt,if_pos,if_neg]
theorem wm{n:Nat} {o:Oper} {d:DF} (h:w9 n o=some d) (t:Tm) (v:V):(d.f t v).ds=t.ds:=by
 grind[w9,Nat.blt,Tm.Wl]
theorem zZ{n:Nat} {all:List Oper} {ws:List It} {call:Call}:∀(l:List It) (k:Nat) {t:Tm} {h:Hp} {rs:List Rec} {r:Tm×Hp},(vY n all ws l k).f call t h rs=some r->r.1.ds=t.ds
 | [],_,t,h,rs,r,hv=>by
   grind[vY,gL]
 | a ::l,k,t,h,rs,r,hv=>by
   unfold vY at hv
   cases hd:w9 n a.o with
   |none=>simp_all
   | some d=>
     rw[hd]at hv;simp only at hv;split at hv
     ·simp only[Fh,fh]at hv
      obtain⟨b,_,c⟩:=hv
      cases b with
      |false=>rw[zZ l _ c,wm hd]
      | true=>
        simp only[fh]at c;obtain⟨x,_,e⟩:=c;rw[zZ l _ e,wm hd]
     ·simp only[D2,fh]at hv
      obtain⟨b,_,c⟩:=hv
      cases b with
      |false=>rw[zZ l _ c,wm hd]
      | true=>
        simp only[fh]at c;obtain⟨x,_,e⟩:=c;rw[zZ l _ e,wm hd]
     ·simp only[AA,fh,gL]at hv
      obtain⟨_,b,_,c⟩:=hv
      cases b with
      |false=>rw[zZ l _ c,wm hd]
      | true=>
        simp only[fh,gL]at c;obtain⟨x,_,_,e⟩:=c;rw[zZ l _ e,wm hd]
section
variable{n:Nat}{all:List Oper}{jB ws:List It}{call:Call}{t0:Tm}{h0:Hp}
theorem sm.cons{l:List It} {a:It} {m k k':Nat} {h h':Hp} {rs z:List Rec} {r:Tm×Hp} {d T1 T:Tc} (c:sm n all jB ws call t0 h0 l (m |||2 ^ a.i) k' h' z r T1 T)
  (C:∀i,m.testBit i=true->T1.on i=d.on i/\T1.val i=d.val i/\T1.tt i=d.tt i/\T1.ep i=d.ep i/\T1.pl i=d.pl i/\T1.ob i=d.ob i)
  (J:∀j,j<k->T1.H j=d.H j/\T1.G j=d.G j) (hk:k<=k') (e:∃D,KT n all jB ws call t0 h0 T D a)
  (f:∀r∈rs,∀j,k<=j->j<=ws.length->r.last<j\/yd (T.H j) r=true) (g:Bw h (T.H k))
  (w:∀j,k<=j->j<k'->(T.H j).next<=(T.G j).next/\Bw (T.G j) (T.H (j+1)))
  (v:cls a.o=1->T.on a.i=true->h.next<=T.pl a.i/\T.pl a.i<h'.next) (Bn:h.next<=h'.next) (A:k<=ws.length):sm n all jB ws call t0 h0 (a::l) m k h rs r d T where
 same:=λi hi=>by
  obtain⟨a1,a2,a3,K,L,M⟩:=c.same i (by simp_all)
  simp_all
 SY:=λj E=>by
  obtain⟨a1,a2⟩:=c.SY j (by omega)
  simp_all
 item:=λx b=>by
  cases b with
  |head=>exact e
  |tail _ b=>exact c.item x b
 Cl:=f
 more:=g
 chain:=λj C F=>by
  by_cases E:j<k'
  ·simp_all
  ·exact c.chain j (by omega) F
 Uv:=λx b hc I=>by
  cases b with
  |head=>simp_all
  |tail _ b=>exact Fe Bn (c.Uv x b hc I)
 SL:=λx b y u p q s t B=>by
  cases b with
  | head=>
    cases u with
    |head=>omega
    |tail _ u=>have:=(v p s).2;have:=c.Uv y u q t;omega
  | tail _ b=>
    cases u with
    |head=>have:=(v q t).2;have:=c.Uv x b p s;omega
    |tail _ u=>exact c.SL x b y u p q s t B
 last:=c.last
 nV:=c.nV
 done:=λx b=>by
  rcases c.done x b with h|h
  ·grind
  simp_all
 kle:=A
theorem trace(C:∀(k:Nat) (x:It),jB[k]? =some x->x.i=k) (R:pW jB=true):∀(l:List It) (m k:Nat) (t:Tm) (h:Hp) (rs:List Rec) (r:Tm×Hp) (s:Tc),
  (∀a∈l,a∈jB)->uc jB ws l m k=true->(vY n all ws l k).f call t h rs=some r->yW jB m.testBit->(∀d,jl t d=pP s.val m.testBit d jB (jl t0 d))->
  h0.next<=h.next->(∀j,j<k->(s.G j).next<=h.next)->k<=ws.length->∃T,sm n all jB ws call t0 h0 l m k h rs r s T
 | [],m,k,t,h,rs,r,s,Ua,c,u,hcl,ht,hn0,hG,hkl=>by
   simp only[uc,ve]at c;obtain⟨ah,hk⟩:=c;have al:k=ws.length:=zR hk;simp only[vY,gL]at u;obtain⟨Z,u⟩:=u;cases u;refine⟨{s with H:=LV s.H k h},⟨by simp_all,λj P=>⟨by grind[N1],rfl⟩,by simp_all,?_,?_,by omega,by simp_all,by simp_all,?_,?_,?_,hkl⟩⟩
   ·intro q hq j h1 h2
    have:j=k:=by omega
    simp_all[yd,LV,ml,Ah,Oj,PR,Nn]
   ·grind[Bw,LV,ml]
   ·grind[LV,ml]
   ·intro d
    rw[ht d];refine pH (λa ha _=>?_) (by simp_all) _
    simp_all
   simp_all
 | a ::l,m,k,t,h,rs,r,s,Ua,c,u,hcl,ht,hn0,hG,hkl=>by
   have ha:a∈jB:=by simp_all
   have z:∀x∈l,x∈jB:=by simp_all
   simp only[uc,ve,wBg]at c;obtain⟨D,am,c⟩:=c;have w:∀x∈jB,a.b.testBit x.i=true->m.testBit x.i=true:=by grind
   have A:yW jB (m |||2 ^ a.i).testBit:=λx hx B y hy hb=>by
     rw[Vi]at B⊢;simp only[PR,CH]at B;rcases B with B|B
     ·rw[hcl x hx B y hy hb];rfl
     grind[mm]
   simp only[vY]at u
   cases hd:w9 n a.o with
   |none=>simp_all
   | some d =>
     simp only[hd]at u
     let T1:Bool->V->Nat->O->(Nat->Hp)->(Nat->Hp)->Tc:=λb v p ob H G=>⟨LV s.on a.i b,LV s.val a.i v,LV s.tt a.i t,LV s.ep a.i k,LV s.pl a.i p,LV s.ob a.i ob,H,G⟩
     have h1:∀b v p ob H G,∀i,m.testBit i=true->(T1 b v p ob H G).on i=s.on i/\(T1 b v p ob H G).val i=s.val i/\(T1 b v p ob H G).tt i=s.tt i/\(T1 b v p ob H G).ep i=s.ep i/\
        (T1 b v p ob H G).pl i=s.pl i/\(T1 b v p ob H G).ob i=s.ob i:=by grind[N1]
     have E:∀b v p ob H G,∀d',jl (d.f t v) d' = pP (T1 b v p ob H G).val (m |||2 ^ a.i).testBit d' jB (jl t0 d'):=by grind[GG,En,Vi,jl,LV,ml]
     have self:∀{b v p ob H G l' k' h' S T},sm n all jB ws call t0 h0 l' (m |||2 ^ a.i) k' h' S r (T1 b v p ob H G) T->
        T.on a.i=b/\T.val a.i=v/\T.tt a.i=t/\T.ep a.i=k/\T.pl a.i=p/\T.ob a.i=ob/\(∀d',jl (T.tt a.i) d' = pP T.val m.testBit d' jB (jl t0 d')):=λ{b v p ob H G l' k' h' S T} g=>by
       obtain⟨a1,a2,a3,a4,a5,a6⟩:=g.same a.i (by simp_all);refine⟨a1.trans (ml _ _ _),a2.trans (ml _ _ _),a3.trans (ml _ _ _),a4.trans (ml _ _ _),a5.trans (ml _ _ _),a6.trans (ml _ _ _),λd'=>?_⟩;rw[a3.trans (ml _ _ _),ht d'];refine(pH (by simp_all) (λx hx _ aa=>?_) _).symm;rw[(g.same x.i (by simp_all)).2.1,(h1 b v p ob H G x.i aa).2.1]
     rcases HZ a.o with hc|hc|hc
     ·
       have F:Nat.beq (cls a.o) 2=false:=by rw[hc];rfl
       rw[F]at c;simp only[ve]at c;obtain⟨I,c⟩:=c;rw[hc]at u;simp only[Fh,fh]at u;obtain⟨b,hw,u⟩:=u
       cases b with
       | false=>
         obtain⟨T,g⟩:=trace C R l _ k _ h rs r (T1 false .undef 0 default s.H s.G) z c u A (E _ _ _ _ _ _) hn0 hG hkl;obtain⟨X,Q,Y,K,L,U,J⟩:=self g
         refine ⟨T,g.cons (by simp_all) (by grind) (iZ _) ⟨m.testBit,D,hcl,w,J,⟨d,hd⟩,by simp_all,λ_=>Q,by simp_all,by omega,
           by simp_all,by omega,by omega⟩ g.Cl g.more (by omega) (by omega) (iZ _) hkl⟩
       | true=>
         simp only[fh]at u;obtain⟨v,ab,u⟩:=u;obtain⟨T,g⟩:=trace C R l _ k _ h _ r (T1 true v 0 default s.H s.G) z c u A (E _ _ _ _ _ _) hn0 hG hkl;obtain⟨X,Q,Y,K,L,U,J⟩:=self g
         refine ⟨T,g.cons (by simp_all) (by grind) (iZ _) ⟨m.testBit,D,hcl,w,J,⟨d,hd⟩,by simp_all,by simp_all,by simp_all,by omega,
           λ_ _ j M N j3=>?_,by omega,by omega⟩ (λq hq=>g.Cl q (by simp[hq])) g.more (by omega) (by omega) (iZ _) hkl⟩
         rw[K]at M;rcases g.Cl _ (Xe ..) j M N with ac|hh
         ·grind
         grind[yd,V.eq_of_beq]
     ·
       have F:Nat.beq (cls a.o) 2=false:=by rw[hc];rfl
       rw[F]at c;simp only[ve]at c;obtain⟨I,c⟩:=c;rw[hc]at u;simp only[D2,fh]at u;obtain⟨b,hw,u⟩:=u
       cases b with
       | false=>
         obtain⟨T,g⟩:=trace C R l _ k _ h rs r (T1 false .undef 0 default s.H s.G) z c u A (E _ _ _ _ _ _) hn0 hG hkl;obtain⟨X,Q,Y,K,L,U,J⟩:=self g
         refine ⟨T,g.cons (by simp_all) (by grind) (iZ _) ⟨m.testBit,D,hcl,w,J,⟨d,hd⟩,by simp_all,λ_=>Q,by simp_all,by omega,
           by omega,by simp_all,by omega⟩ g.Cl g.more (by omega) (by simp_all) (iZ _) hkl⟩
       | true=>
         simp only[fh]at u;obtain⟨⟨ob,mk⟩,ab,u⟩:=u;obtain⟨T,g⟩:=trace C R l _ k _ _ _ r (T1 true (mk h.next) h.next ob s.H s.G) z c u A (E _ _ _ _ _ _) (W8 hn0) (λj P=>W8 (hG j P)) hkl;obtain⟨X,Q,Y,K,L,U,J⟩:=self g
         refine ⟨T,g.cons (by simp_all) (by grind) (iZ _) ⟨m.testBit,D,hcl,w,J,⟨d,hd⟩,by simp_all,by simp_all,by simp_all,by omega,
           by omega,λ_ _=>⟨by simp_all,λj M N=>?_,λj P=>?_,by omega⟩,by omega⟩
           (λq hq=>g.Cl q (by simp[hq])) ((Bw.new h ob).trans g.more) (by omega) (λ_ _=>by rw[L];exact⟨iZ _,MC _⟩) (Qe _) hkl⟩
         ·rw[K]at M
          rw[L,U];refine⟨?_,λj3=>?_⟩
          ·have e1:(h.new ob).next<=(T.H k).next:=g.more.1
           have e2:=Eb g.chain (j-k) j (by omega) N;have:h.next<(h.new ob).next:=MC _;omega
          ·rcases g.Cl _ (Xe ..) j M N with ac|hh
           ·grind
           grind[yd,O.eq_of_beq]
         ·rw[K]at P
          rw[L,(g.SY j P).2]
          grind
     ·
       have F:Nat.beq (cls a.o) 2=true:=by rw[hc];rfl
       rw[F]at c;simp only[ve]at c;obtain⟨I,c⟩:=c;have ae:k<ws.length:=by
        unfold Zq at I;split at I
        ·grind
        ·cases I
       rw[hc]at u;simp only[AA,gL,fh]at u;obtain⟨Z,b,hw,u⟩:=u;have ai:∀q∈rs,q.last<k\/yd h q=true:=by simp_all[Ah,Oj,PR,Nn]
       have aj:∀(b:Bool) (v:V) (h':Hp),oS n all a.o t=some b->(vY n all ws l (Nat.succ k)).f call (d.f t v) h' rs=some r->h.next<=h'.next->(b=false->v = .undef/\h' = h)->
         (b=true->(GC a.o).f call t h=some (v,h'))->∃T,sm n all jB ws call t0 h0 (a::l) m k h rs r s T:=by
         intro b v h' hw u hn ak an
         obtain ⟨T,g⟩:=trace C R l _ (k+1) _ h' rs r (T1 b v 0 default (LV s.H k h) (LV s.G k h')) z c u A (E _ _ _ _ _ _) (by omega)
           (fun j P=>by
             by_cases e:j=k
             ·subst e;show(LV s.G j h' j).next<=_;simp_all[ml,iZ]
             grind[LV,N1,Fe]) ae
         obtain⟨X,Q,Y,K,L,U,J⟩:=self g;obtain⟨g1,g2⟩:=g.SY k (MC _);have W:T.H k=h:=g1.trans (ml _ _ _);have ag:T.G k=h':=g2.trans (ml _ _ _)
         refine ⟨T,g.cons (h1 _ _ _ _ _ _) (by grind[N1]) (Qe _) ⟨m.testBit,D,hcl,w,J,⟨d,hd⟩,by grind,
           by grind,by omega,by omega,by omega,by omega,
           λ_=>⟨by grind,λho=>?_,λho=>?_⟩⟩ (λq hq j M N=>?_) (by rw[W];exact .refl h) (λj M N=>?_) (by omega) hn hkl⟩
         ·grind
         ·grind
         ·by_cases e:j=k
          ·grind
          ·exact g.Cl q hq j (by omega) N
         ·have:j=k:=by omega
          subst this;rw[W,ag];exact⟨hn,g.more⟩
       cases b with
       |false=>grind
       | true=>
         grind[fh,gL,Jd]
end
