/- Parts. -/
import Derived.Test.YtnehpeeglbgfpaaDoorM03
set_option maxHeartbeats 4000000
namespace Go.Proofs.YtnehpeeglbgfpaaDoor.Hx
def pH(call:Call):Prop:=∀(f:Nat) (args:List V) (v:V) (h h':Hp) (Δ:Env) (w:World) (fY:Array Value),call f args h=some (v,h')->WR Δ h w->fV Δ args fY.toList-> (∃x,(callFunc f fY).run P0 w = .ok (.value x) w/\tc Δ h w v h' Δ x w)\/ ((callFunc f fY).run P0 w = .ok (.enter f fY) w/\Calls P0 f fY w λe w'=>∃a x,e = .returned x/\tc Δ h w v h' a x w')
section
variable{Δ:Env}{h:Hp}{w:World}{n:Nat}{t:Tm}{a:Act}
theorem Jp{call:Call} (hc:pH call) (j:WR Δ h w) (p:TR Δ n t a) {o:Oper} {v:V} {h':Hp} (c:(za o).f call t h=some (v,h')) {K:Act->World->Prop} {Q:Exit->Act->World->Prop}
  (q:∀m x w',tc Δ h w v h' m x w'->K (a.put o.dst x) w'):o.wp P0 a w K Q:=by
 unfold za at c;split at c
 ·simp only[eE]at c;obtain⟨y,k,d⟩:=c;cases d;obtain⟨x,b,i⟩:=TU j p k;unfold Oper.wp;rw[b,Oper.upon_value];exact q Δ x w ⟨i,j,.refl _ _,.refl _ _⟩
 ·simp only[eE]at c;obtain⟨⟨ob,mk⟩,k,d⟩:=c;cases d;obtain⟨E,F,b,i⟩:=Lo p k;obtain⟨m,z,A,B,C⟩:=j.alloc i;unfold Oper.wp;rw[b w,Oper.upon_value];exact q m _ _ ⟨A,z,B,C⟩
 ·simp only[eE]at c;obtain⟨r,k,d⟩:=c;rcases QN j p k with⟨y,D,m,x,w',rfl,b,i⟩|⟨g,l,fY,rfl,b,i⟩
  ·cases d;unfold Oper.wp;rcases b with b|⟨rfl,b⟩
   ·grind[Oper.upon_value]
   grind[Oper.upon_skip]
  ·unfold Oper.wp;rw[i];rcases hc g l v h h' Δ w fY d j b with⟨x,s,u⟩|⟨s,u⟩
   ·grind[Oper.upon_value]
   ·rw[s,Oper.upon_enter];refine Calls.mono u λe w' G=>?_
    grind
theorem RO(a:Act) (d:Nat) (x:Value) (i:Nat) (hd:d<a.tmps.size):(a.put (some d) x).tmps.getD i undef=if d=i then x else a.tmps.getD i undef:=by
 simp only[Act.put,XU,Array.getElem?_setIfInBounds]
 grind
theorem put_defers(a:Act)(d:Option Tmp)(x:Value):(a.put d x).defers=a.defers:=by cases d <;> rfl
theorem Fx(b:TR Δ n t a) {o:Oper} {d:DF} (hd:qV n o=some d) {v:V} {x:Value} (e:fq Δ v x):TR Δ n (d.f t v) (a.put o.dst x):=by
 unfold qV at hd
 cases ho:o.dst with
 |none=>simp only[ho]at hd;cases hd;exact b
 | some k=>
   simp only[ho]at hd
   cases hk:Nat.blt k n with
   |false=>simp_all
   | true=>
     simp only[hk]at hd;cases hd;have c:k<a.tmps.size:=by rw[b.size,<-Lb];exact hk
     refine⟨by simp[Act.put,b.size],λi=>?_,by rw[put_defers];show DO Δ (t.set k v).ds _;rw[Tm.zI];exact b.ds⟩;rw[RO _ _ _ _ c];show fq Δ (gI (t.set k v) i) _;rw[hN];by_cases h:k=i
     ·simp_all
     ·rw[if_neg h,if_neg h];exact b.rel i
theorem FD{n:Nat} {ops:List Oper} {o:Oper} (a:jB n ops o=none) (y:Nat->Option Bool):Region.wanted o y=true:=by
 grind[jB,Region.wanted]
theorem Jl(m:TR Δ n t a) {ops:Array Oper} {o:Oper} {g:GF} (e:jB n ops.toList o=some g) {b:Bool} (h:g.f t=some b):Region.wanted o (yielded ops a.tmps)=b:=by
 unfold jB at e;unfold Region.wanted
 cases hg:o.guard with
 |none=>simp_all
 | some q =>
   obtain⟨j,r⟩:=q;simp only[hg]at e⊢;unfold yielded
   cases hj:ops.toList[j]? with
   | none=>
     grind
   | some p=>
     have l:ops[j]? =some p:=by rw[<-SI];exact hj
     simp only[hj]at e;simp only[l,Option.bind_some]
     cases hd:p.dst with
     | none=>
       grind
     | some d=>
       simp only[hd]at e;simp only[Option.bind_some]
       cases IX:Nat.blt d n with
       |false=>grind
       | true=>
         simp only[IX]at e;cases e;have i:d<a.tmps.size:=by rw[m.size,<-Lb];exact IX
         have k:=m.rel d;have s:a.tmps[d]? =some (a.tmps.getD d undef):=by simp[i]
         rw[s];generalize a.tmps.getD d undef=x at k;simp only at h;split at h
         ·rename_i u c
          cases h;rw[c]at k;cases k;cases r <;> cases u <;> rfl
         ·rename_i c
          cases h;rw[c]at k;cases k <;> grind
         ·cases h
structure tT (Δ:Env) (h:Hp) (w:World) (n:Nat) (t':Tm) (h':Hp) (a:Env) (b:Act) (w':World):Prop where
 tmps:TR a n t' b
 world:WR a h' w'
 frame:FR Δ a w w'
 grow:Gr h Δ h' a
theorem tT.start(b:TR Δ n t a)(c:WR Δ h w):tT Δ h w n t h Δ a w:=⟨b,c,.refl _ _,.refl _ _⟩
theorem tT.trans{a b:Env} {c d:Hp} {w1 w2:World} {g e:Tm} {i f:Act} (x:tT Δ h w n g c a i w1) (y:tT a c w1 n e d b f w2):tT Δ h w n e d b f w2:=
 ⟨y.tmps,y.world,x.frame.trans y.frame,x.grow.trans y.grow⟩
theorem tT.put(g:TR Δ n t a) {o:Oper} {d:DF} (b:qV n o=some d) {v:V} {h':Hp} {e:Env} {x:Value} {w':World} (c:tc Δ h w v h' e x w') :
  tT Δ h w n (d.f t v) h' e (a.put o.dst x) w':=
 ⟨Fx (g.mono c.frame.le) b c.val,c.world,c.frame,c.grow⟩
theorem Rp(r:WR Δ h w) (b:TR Δ n t a) {o:Oper} {q:QF} (hq:uQ o=some q) {t':Tm} (l:q.f t h=some t') :
  ∃d,(∀w,(execOp a.eval o).run P0 w = .ok (.defer d) w)/\TR Δ n t' {a with defers:=d::a.defers}:=by
 unfold uQ at hq;split at hq
 ·rename_i c s;split at hq
  ·rename_i f u;cases hq;simp only[eE]at l;obtain⟨B,v,args,x,j⟩:=l;have e:=jW r b v;obtain⟨xs,y⟩:∃xs,xs=c.args.map a.eval:=⟨_,rfl⟩
   have k:=xW b x;generalize z:a.eval f=xv at e;unfold Rq at j;split at j
   ·rename_i g first m
    cases j
    cases e with
    | func _ _ _ p c' A hc=>
      refine⟨{target:= .fn (.func g) c',args:=p++c.args.map a.eval},λw=>?_,⟨b.size,λi=>?_,?_⟩⟩
      ·have C:(resolve a.eval c o.type).run P0 w = .ok {target:= .fn (.func g) c',args:=p++c.args.map a.eval} w:=by
         unfold resolve;rw[u];simp only[z];rfl
       simp_all[execOp,qu,pJ]
      ·rw[Pu];exact b.rel i
      ·rw[Tm.T8]
       refine .cons _ _ _ _ _ _ ?_ b.ds;simp only[Array.toList_append,MQ,Array.toList_map];exact A.append (k.append hc)
   ·cases j
  ·cases hq
 ·cases hq
theorem TO{call:Call} (hc:pH call) {ops:Array Oper} {i:Nat} {o:Oper} (hi:ops[i]? =some o) {c:SF} {K:Act->World->Prop} {Q:Exit->Act->World->Prop}
  (m:WR Δ h w) (j:TR Δ n t a) {r:Tm×Hp} (e:(By n ops.toList o c).f call t h=some r)
  (p:∀t' h' u y w',c.f call t' h' = some r->tT Δ h w n t' h' u y w'->K y w'):wpOp P0 ops Q i K a w:=by
 unfold By at e;unfold wpOp;simp only[hi]
 cases hdst:qV n o with
 |none=>simp only[hdst]at e;cases e
 | some d=>
   simp only[hdst]at e;have A:∀x,oB ((za o).f call t h) (λr=>c.f call (d.f t r.1) r.2)=some x->x=r->o.wp P0 a w K Q:=by
     intro x z s;subst s;rw[eE]at z;obtain⟨⟨v,h'⟩,k,l⟩:=z;exact Jp hc m j k λu x w' B=>p _ _ _ _ _ l (tT.put j hdst B)
   cases hg:jB n ops.toList o with
   | none=>
     simp only[hg]at e;rw[if_pos (FD hg _)]
     cases hq:uQ o with
     |none=>grind
     | some q=>
       simp only[hq,eE]at e;obtain⟨E,k,l⟩:=e;obtain⟨F,C,D⟩:=Rp m j hq k;refine .inl ?_;unfold Oper.wp;rw[C w,Oper.upon_defer]
       exact p _ _ _ _ _ l (tT.put D hdst ⟨.undef Δ,m,.refl _ _,.refl _ _⟩)
   | some g=>
     simp only[hg,eE]at e;obtain⟨b,k,l⟩:=e;rw[Jl j hg k]
     cases b with
     |true=>simp_all
     |false=>exact p _ _ _ _ _ l (tT.put j hdst ⟨.undef Δ,m,.refl _ _,.refl _ _⟩)
theorem yV{call:Call} (hc:pH call) {ops:Array Oper} {Q:Exit->Act->World->Prop}:∀(l:List Oper) (k:Nat),l=ops.toList.drop k->∀{Δ:Env} {h:Hp} {w:World} {t:Tm} {a:Act},
  WR Δ h w->TR Δ n t a->∀{r:Tm×Hp},(km n ops.toList l).f call t h=some r->(∀e b w',tT Δ h w n r.1 r.2 e b w'->Q .normal b w')->
  wpOps P0 ops Q (List.range' k l.length) a w
 | [],k,hl,Δ,h,w,t,a,hW,hT,r,hv,hQ=>by
   cases hv
   exact hQ _ _ _ (.start hT hW)
 | o ::l,k,hl,Δ,h,w,t,a,hW,hT,r,hv,hQ=>by
   have g:ops[k]? =some o:=by
     have:(ops.toList.drop k)[0]? =some o:=by rw[<-hl];rfl
     rw[V0,SH]at this;simpa using this
   have c:l=ops.toList.drop (k+1):=by
     rw[<-TX,<-hl];rfl
   rw[MX,List.range'_succ,wpOps_cons];refine TO hc g hW hT hv λt' h' e b w' i d=>?_;exact yV hc l (k+1) c d.world d.tmps i λj m p q=>hQ _ _ _ (d.trans q)
end
def yG(c:Code) (Q:Exit->Act->World->Prop) (a:Act) (w:World):Prop:=∀(b:Frame) (k:List Item) (cs:List Frame),∃e d w',Q e d w'/\Arrives P0 (lone (b.at a (.code c:: .inLoop c::k)) cs w) b k cs e d w'
theorem yG.round{c:Code} {Q:Exit->Act->World->Prop} {a:Act} {w:World} (h:c.wp P0 (Exit.then (yG c Q) Q) a w):yG c Q a w:=by
 intro b k cs;obtain⟨e,g,i,hq,d⟩:=h b (.inLoop c::k) cs
 cases e with
 | normal=>
   obtain⟨m,n,o,j,f⟩:=hq b k cs
   exact⟨m,n,o,j,.of_steps (Steps.trans d (.one step_inLoop)) f⟩
 |exit id=>exact⟨_,g,i,hq,.pass (x:= .inLoop c) rfl (by simp_all) d⟩
 |goto l=>exact⟨_,g,i,hq,.pass (x:= .inLoop c) rfl (by simp_all) d⟩
 |ret=>exact⟨_,g,i,hq,.pass (x:= .inLoop c) rfl (by simp_all) d⟩
 |panic ch=>exact⟨_,g,i,hq,.pass (x:= .inLoop c) rfl (by simp_all) d⟩
 |outgrown=>exact⟨_,g,i,hq,.pass (x:= .inLoop c) rfl (by simp_all) d⟩
theorem yG.wp{c:Code} {Q:Exit->Act->World->Prop} {a:Act} {w:World} (h:yG c Q a w):(Code.loop c).wp P0 Q a w:=
 λb k cs=>let⟨e,a',w',q,r⟩:=h b k cs;⟨e,a',w',q,.of_steps (.one step_loop) r⟩
def X.to:X->Exit
 | .normal=> .normal
 | .exit id=> .exit id
 | .ret=> .ret
section
variable{Δ:Env}{h:Hp}{w:World}{n:Nat}{t:Tm}{a:Act}
theorem WR.same(i:WR Δ h w) {h':Hp} (m:h'.next=h.next) (k:∀l,h'.get l=h.get l):WR Δ h' w:=
 ⟨λl d j=>by rw[m];exact i.fresh l d j,i.wh,λl d j=>by rw[k];exact i.obj l d j,λl p d q o r a b c e f=>by rw[k]at e f;exact i.apart l p d q o r a b c e f,
  λg o j n=>by rw[k]at n;exact i.Cg g o j n,by rw[m];exact i.ur,i.MU⟩
theorem run_choose(q:Question) (w:World):(choose q).run P0 w=if q.forced then .ok 0 w else .ok (q.cut (w.tape w.drawn q)) {w with drawn:=w.drawn+1}:=by
 unfold choose;simp only[Sem.run]
theorem Pr(v:WR Δ h w) {r m c:Nat} {seen:List Nat} {es:List (V×V×Nat)} {Q:Value} {ty:Nat} (hi:fq Δ (.ptr r 0) Q) (R:h.get r=some (.iter (some m) c seen c)) (S:h.get m=some (.map es c)) :
  ∃x w',(Instr.next Q false ty).run P0 w = .ok x w'/\(((∀e∈es,e.2.2∈seen)/\x = .tuple #[.bool false]/\w' = w)\/
   ∃e∈es,e.2.2 ∉ seen/\tc Δ h w (.tuple [.bool true,e.1,e.2.1]) (h.put r (.iter (some m) c (seen++[e.2.2]) c)) Δ x w'):=by
 cases hi with
 | ptr _ _ d hd=>
   obtain ⟨o',T,hr⟩:=v.obj r d hd;rw[R]at T;cases T;obtain⟨a1,I,U,m',J,o,p,rfl⟩:=hr;obtain⟨iD,W,K⟩:=AX v p S;have q:=A3 v p S;have z:∀e'∈iD.toList,e'.born<c:=λe' h'=>by
     obtain⟨i,hi⟩:=mM.1 h';have A:i<es.length:=by rw[K.length];exact(jw.1 hi).1
     obtain⟨e2,H,_,_,g4⟩:=K.get (i:=i) (iH A);rw[hi]at H;cases H;rw[g4];exact q.2 _ (Cj A)
   have g:(!seen.toArray.isEmpty&&!iD.isEmpty&&iD.all (λe=>decide (e.born >= c)))=false:=by
     cases hx:iD.toList with
     |nil=>have:iD.isEmpty=true:=by rw[<-Array.isEmpty_toList,hx];rfl
           rw[this];simp
     | cons e l=>
       have h0:=z e (by rw[hx];simp);have:iD.all (λe=>decide (e.born >= c))=false:=by
         rw[<-Array.all_toList,hx,Th,OI (by omega)];rfl
       rw[this];simp
   have a:=Ia K (λn=>!seen.contains n);have s:(iD.filter λe=>!seen.toArray.contains e.born)=Array.mk (iD.toList.filter λe=>!seen.contains e.born):=by
     apply Array.ext';rw[Array.toList_filter];simp
   rw[U];generalize hL:(iD.toList.filter λe=>!seen.contains e.born)=L at a s;have B:∀e∈L,e.born<c:=λe h'=>by rw[<-hL]at h';exact z e (TD.1 h').1
   have X:(Array.mk L).filter (λx=>decide (x.born<c))=Array.mk L:=by
     apply Array.ext';rw[Array.toList_filter];exact List.filter_eq_self.2 λe h'=>Qy (B e h')
   have Y:(Array.mk L).filter (λx=>decide (x.born >= c)) = #[]:=by
     apply Array.ext';rw[Array.toList_filter];exact List.filter_eq_nil_iff.2 λe h'=>by simp;exact B e h'
   cases L with
   | nil =>
     refine⟨_,w,?_,.inl ⟨λe h'=>?_,rfl,rfl⟩⟩
     ·simp only[Instr.next,qu,lH J,pJ,run_getObj_map W,g,s,X,Y]
      simp[Question.forced]
     ·cases hleft':es.filter (λe=>!seen.contains e.2.2)with
      | nil=>
        have:=List.filter_eq_nil_iff.1 hleft' e h'
        simpa using this
      |cons x y=>rw[hleft']at a;cases a
   | cons e0 L=>
     have hj:∃j w1,(choose (.mapNext (e0::L).length)).run P0 w = .ok j w1/\j<(e0::L).length/\(w1=w\/w1 = {w with drawn:=w.drawn+1}):=by
       rw[run_choose];split
       ·exact⟨0,w,rfl,by simp,.inl rfl⟩
       ·exact⟨_,_,rfl,Nat.mod_lt _ (by simp),.inr rfl⟩
     obtain⟨j,w1,hc,M,C⟩:=hj;have D:j<(es.filter λe=>!seen.contains e.2.2).length:=by rw[a.length];exact M
     obtain⟨e',H,Z,g3,g4⟩:=a.get (i:=j) (iH D);generalize hee:(es.filter λe=>!seen.contains e.2.2)[j]=e at Z g3 g4;have N:e∈es.filter λe=>!seen.contains e.2.2:=by rw[<-hee];exact Cj D
     obtain⟨E,F⟩:=TD.1 N;have aa:=v.wh _ _ hd;have k:w1.heap=w.heap:=by rcases C with rfl|rfl <;> rfl
     have f:∀b,b≠d.b->({w1 with heap:=w.heap.setIfInBounds d.b (.mapIter (some o.b) c (seen++[e.2.2]).toArray c)}:World).heap[b]? =w.heap[b]?:=by grind
     refine⟨.tuple #[.bool true,e'.key,e'.val],{w1 with heap:=w.heap.setIfInBounds d.b (.mapIter (some o.b) c (seen++[e.2.2]).toArray c)},?_,.inr ⟨e,E,by simpa using F,?_⟩⟩
     ·have t:(((if(Array.mk (e0::L)).isEmpty then #[none] else #[])++(Array.mk (e0::L)++#[]).map some:Array (Option MapEntry)))[j]? =some (some e'):=by
        simp only[Array.isEmpty_iff,Array.append_empty];rw[if_neg (by simp)];simp only[Array.empty_append,List.map_toArray,WM,List.getElem?_map,H,Option.map_some]
      have O:((if(Array.mk (e0::L)).isEmpty then #[none] else #[])++(Array.mk (e0::L)++#[]).map some:Array (Option MapEntry)).size=(e0::L).length:=by simp
      simp only[Instr.next,qu,lH J,pJ,run_getObj_map W,g,s,X,Y];rw[if_neg (by simp),O];simp only[qu,hc,pJ,t];have G:(setObj d.b (.mapIter (some o.b) c (seen.toArray.push e'.born) c)).run P0 w1 = .ok () {w1 with heap:=w.heap.setIfInBounds d.b (.mapIter (some o.b) c (seen++[e.2.2]).toArray c)}:=by
        have P:w1.heap[d.b]? =some (.mapIter (some o.b) c seen.toArray c):=by rw[k];exact J
        have hp:seen.toArray.push e'.born=(seen++[e.2.2]).toArray:=by rw[g4];simp
        rw[hp];unfold setObj;simp only[Sem.run,P];rw[k]
      simp only[qu,G,pJ,EN]
     ·have u:w1.os=w.os/\w1.tape=w.tape/\w1.output=w.output:=by rcases C with rfl|rfl <;> exact⟨rfl,rfl,rfl⟩
      refine⟨.tuple _ #[.bool true,e'.key,e'.val] (.cons _ _ _ _ (.bool true) (.cons _ _ _ _ Z (.one g3))),?_,FR.set hd I (by simp) f u.1 u.2.1 u.2.2,.same (jn _)⟩;refine v.set hd R rfl I (λh=>h) ⟨a1,I,U,some o.b,?_,o,p,rfl⟩ (by simp) f
      simp_all
theorem JD{n:Nat} {c:Code} {F:lF} (h:uX n c=some F):∃f r0 b g r1 i r2 o1 o2 p1 p2 p3 a d e,
  c = .seq (.region f r0 false) (.seq (.cond (.tmp F.c) .skip (.exit F.x)) (.block b (.seq (.region g r1 false) (.region i r2 false))))/\
  r0.toList=[o1,o2]/\r1.toList=[p1,p2,p3]/\r2.toList=[a,d,e]/\F.ok n=true/\F.r0 o1 o2=true/\F.r1 p1 p2 p3=true/\F.r2 a d e=true:=by
 unfold uX at h;split at h
 ·split at h
  ·rename_i e0 e1 e2;split at h
   ·split at h
    ·rename_i hc;cases h;simp only[qU]at hc;obtain⟨⟨⟨⟨⟨j,k⟩,l⟩,m⟩,o⟩,p⟩:=hc;rw[<-uW o,<-uW p];exact⟨_,_,_,_,_,_,_,_,_,_,_,_,_,_,_,rfl,e0,e1,e2,j,k,l,m⟩
    ·cases h
   ·cases h
  ·cases h
 ·cases h
theorem UD{F:lF} {o1 o2:Oper} (h:F.r0 o1 o2=true):o1.op = .next (.tmp F.it) false/\o1.dst=some F.a/\o1.guard=none/\o2.op = .extract (.tmp F.a) 0/\o2.dst=some F.c/\o2.guard=none:=by
 unfold lF.r0 at h;split at h
 ·simp only[qU,Nat.beq_eq]at h
  simp_all
 ·cases h
theorem Yh{F:lF} {o1 o2 a:Oper} (h:F.r1 o1 o2 a=true):o1.op = .entry (.tmp F.it)/\o1.dst=some F.e0/\o1.guard=none/\o2.op = .extract (.tmp F.e0) 0/\o2.dst=some F.e1/\o2.guard=none/\
  a.op = .assign (.tmp F.e1)/\a.dst=some F.e2/\a.guard=none:=by
 unfold lF.r1 at h;split at h
 ·simp only[qU,Nat.beq_eq]at h
  simp_all
 ·cases h
theorem YA{F:lF} {o1 o2 a:Oper} (h:F.r2 o1 o2 a=true):o1.op = .move (.tmp F.u)/\o1.dst=some F.m0/\o1.guard=none/\o2.op = .move (.tmp F.e2)/\o2.dst=some F.m1/\o2.guard=none/\
  a.op = .mapUpdate F.ty (.tmp F.m0) (.tmp F.m1) (.const (.bool true))/\a.dst=none/\a.guard=none:=by
 unfold lF.r2 at h;split at h
 ·simp only[qU,Nat.beq_eq]at h
  simp_all
 ·cases h
theorem tw{call:Call} {all os:List Oper} {o:Oper} {d:DF} (a:o.guard=none) (hd:qV n o=some d) (hq:uQ o=none) {v:V} {h':Hp} (b:(za o).f call t h=some (v,h')) :
  (km n all (o::os)).f call t h=(km n all os).f call (d.f t v) h':=by
 show(By n all o (km n all os)).f call t h=_;have c:jB n all o=none:=by unfold jB;rw[a]
 unfold By;simp only[hd,c,hq,b];rfl
theorem wB{o:Oper} {d:Nat} (a:o.dst=some d) (hd:Nat.blt d n=true):qV n o=some ⟨λt v=>t.set d v⟩:=by
 unfold qV;simp only[a,hd]
theorem So{o:Oper} (a:o.dst=none):qV n o=some ⟨λt _=>t⟩:=by
 unfold qV;simp only[a]
theorem Jw{call:Call} {o:Oper} (hc:cls o=2) {v:V} {h':Hp} (a:(iS o).f t h=some (.val v h')):(za o).f call t h=some (v,h'):=by
 unfold za;simp only[hc,a,oB]
theorem TY{kt:Nat} (hi:zE kt=true) {k:IntKind} {us:List (V×V×Nat)} (d:Nat) (g:∀e∈us,e.2.1 = .bool true/\∃n,e.1 = .int k n) (n:Int) :
  ∃a h,BB kt none us d (.int k n) (.bool true)=some (.map a h)/\(∀e∈a,e.2.1 = .bool true/\(e.1 = .int k n\/∃e'∈us,e'.1=e.1))/\(∃e∈a,e.1 = .int k n)/\∀e∈us,∃e'∈a,e'.1=e.1:=by
 rcases DZ hi k n 0 g with⟨i,f⟩|⟨j,e,i,f,l⟩
 ·refine⟨us++[(.int k n,.bool true,d)],d+1,by unfold BB;rw[i];rfl,λe b=>?_,⟨_,List.mem_append_right _ (Ig.2 rfl),rfl⟩,λe b=>⟨e,Sv _ b,rfl⟩⟩;rcases AI.1 b with b|b
  ·exact⟨(g e b).1,.inr ⟨e,b,rfl⟩⟩
  ·simp at b;subst b;exact⟨rfl,.inl rfl⟩
 ·have m:=(jw.1 f).1;refine⟨us.set j (.int k n,.bool true,e.2.2),d,?_,λx c=>?_,⟨_,mM.2 ⟨j,G2 m⟩,rfl⟩,λx c=>?_⟩
  ·unfold BB;rw[i];simp only[oB,EM,f,l,V.A4];rfl
  ·rcases VJ c with c|rfl
   ·exact⟨(g x c).1,.inr ⟨x,c,rfl⟩⟩
   ·exact⟨rfl,.inl rfl⟩
  ·obtain⟨q,hq⟩:=mM.1 c;by_cases hqj:j=q
   ·subst hqj;rw[f]at hq;cases hq;exact⟨_,mM.2 ⟨j,G2 m⟩,l.symm⟩
   ·exact⟨x,mM.2 ⟨q,by rw[Iv hqj];exact hq⟩,rfl⟩
theorem find_born{es:List (V×V×Nat)} {e:V×V×Nat} (b:(es.map λe=>e.2.2).Nodup) (a:e∈es):(es.find? λx=>Nat.beq x.2.2 e.2.2)=some e:=by
 induction es with
 |nil=>cases a
 | cons x es c=>
   simp only[List.map_cons,List.nodup_cons]at b;rcases AJ.1 a with rfl|a
   ·simp
   ·have pe:x.2.2≠e.2.2:=λd=>b.1 (d▸Sy.2 ⟨e,a,rfl⟩)
    rw[List.find?_cons_of_neg (by simpa using pe)];exact c b.2 a
theorem MD{k:IntKind}:∀{es:List (V×V×Nat)} {ks:List Int},Gg k es=some ks->(∀e∈es,e.2.1 = .bool true/\∃n∈ks,e.1 = .int k n)/\∀n∈ks,∃e∈es,e.1 = .int k n
 |[],ks,hk=>by cases hk;simp
 | e ::es,ks,hk=>by
   simp only[Gg,eE]at hk;obtain⟨n,d,ns,i,j⟩:=hk;cases j;have f:e.2.1 = .bool true/\e.1 = .int k n:=by
     unfold VW at d;split at d
     ·rw[fX]at d
      obtain⟨l,o⟩:=d;cases o;rw[vY l];exact⟨rfl,rfl⟩
     ·cases d
   obtain⟨p,q⟩:=MD i;refine⟨λx g=>?_,λm h=>?_⟩
   ·rcases AJ.1 g with rfl|g
    ·exact⟨f.1,n,by simp,f.2⟩
    ·obtain⟨a,m,b,c⟩:=p x g
     exact⟨a,m,by simp[b],c⟩
   ·rcases AJ.1 h with rfl|h
    ·exact⟨e,by simp,f.2⟩
    ·obtain⟨x,a,b⟩:=q m h
     exact⟨x,by simp[a],b⟩
structure FI (F:lF) (r m u c:Nat) (es:List (V×V×Nat)) (h0:Hp) (t0:Tm) (seen:List Nat) (h:Hp) (t:Tm):Prop where
 next:h.next=h0.next
 eD:∀l,l≠r->l≠u->h.get l=h0.get l
 iter:h.get r=some (.iter (some m) c seen c)
 put:∃us b,h.get u=some (.map us b)/\(∀e∈us,e.2.1 = .bool true/\∃e'∈es,e'.1=e.1)/\∀e∈es,e.2.2∈seen->∃e'∈us,e'.1=e.1
 ds:t.ds=t0.ds
 sP:∀i,i ∉ F.all.drop 2->gI t i=gI t0 i
 none:es=[]->∀i,i≠F.a->i≠F.c->gI t i=gI t0 i
 some:seen≠[]->(∃n,gI t F.e0 = .tuple [.int F.k n,.bool true])/\(∃n,gI t F.e1 = .int F.k n)/\(∃n,gI t F.e2 = .int F.k n)/\gI t F.m0 = .map u/\∃n,gI t F.m1 = .int F.k n
theorem JJ:∀{l:List Nat},KQ l=true->l.Pairwise (·≠·)
 |[],_=> .nil
 | a::l,h=>by
   simp only[KQ,qU,K7]at h;exact .cons (λb c e=>by have:=h.1 b c;subst e;simp at this) (JJ h.2)
theorem Pe{call:Call} (hc:pH call) {F:lF} {au:Code} (hF:uX n au=some F) {r m u c:Nat} {es:List (V×V×Nat)} {h0:Hp} {t0:Tm} {w0:World} {Δ0:Env} {ks:List Int} (aU:Gg F.k es=some ks)
  (aa:r≠u) (aV:u≠m) (aw:r≠m) (aW:h0.get m=some (.map es c)) (ab:gI t0 F.it = .ptr r 0) (ax:gI t0 F.u = .map u) {Q:Exit->Act->World->Prop}
  (hQ:∀Δ' a' w',tT Δ0 h0 w0 n (F.t u es.isEmpty t0) ((h0.put r .gone).put u (.IP F.k ks)) Δ' a' w'->Q (.exit F.x) a' w') :
  ∀(k:Nat) (seen:List Nat) {Δ:Env} {h:Hp} {w:World} {t:Tm} {a:Act},(es.filter λe=>!seen.contains e.2.2).length<=k->tT Δ0 h0 w0 n t h Δ a w->FI F r m u c es h0 t0 seen h t->yG au Q a w:=by
 obtain ⟨i0,r0,b,i1,r1,i2,r2,⟨_,_,T,ac,ae,_⟩,⟨_,_,ag,ah,ai,_⟩,⟨_,_,ay,az,aA,_⟩,⟨_,_,aX,aY,aZ,_⟩,⟨_,_,a0,a1,a5,_⟩,⟨_,_,a6,a7,a8,_⟩,⟨_,_,a9,ba,bb,_⟩,⟨_,_,aB,aC,aD,_⟩,rfl,e0,e1,e2,aE,g0,g1,g2⟩:=JD hF;obtain⟨rfl,rfl,rfl,rfl,rfl,rfl⟩:=UD g0;obtain⟨rfl,rfl,rfl,rfl,rfl,rfl,rfl,rfl,rfl⟩:=Yh g1;obtain⟨rfl,rfl,rfl,rfl,rfl,rfl,rfl,rfl,rfl⟩:=YA g2;clear g0 g1 g2 hF;simp only[lF.ok,qU,K7]at aE;obtain⟨⟨⟨bc,bd⟩,aj⟩,aF⟩:=aE;have pe:=JJ bd;simp only[lF.all,List.pairwise_cons,AJ,WL,or_false,forall_eq_or_imp,forall_eq,false_imp_iff,implies_true,List.Pairwise.nil,and_true]at pe;have hl:∀d,d=F.a\/d=F.c\/d=F.e0\/d=F.e1\/d=F.e2\/d=F.m0\/d=F.m1->Nat.blt d n=true:=λd hd=>bc d (by simp only[lF.all,AJ];grind);obtain⟨kt,et,hu,rfl⟩:∃kt et,P0.underlying F.ty=some (.map kt et)/\kt=F.kt:=by
  split at aj
  ·rename_i kt et hu;exact⟨kt,et,hu,uW aj⟩
  ·cases aj
 have hi:zE F.kt=true/\Cd F.kt=some none:=by
  split at aF
  ·rename_i k hk;unfold zE Cd;rw[hk];exact⟨rfl,rfl⟩
  ·cases aF
 obtain ⟨hi,be⟩:=hi;have bf:List.range r0.size=[0,1]:=by
  have:r0.size=2:=by rw[<-Qf,e0];rfl
  rw[this];rfl
 have bg:r0[0]? =some ⟨some F.a,.next (.tmp F.it) false,T,ac,ae,none⟩:=by rw[<-SI,e0];rfl
 have y:=MD aU;intro k
 induction k using Nat.strongRecOn with
 |_ k ih=>
 intro seen Δ h w t a hk hG q;have ak:F.it ∉ F.all.drop 2:=by simp only[lF.all,List.drop,AJ,WL];grind
 have uT:F.u ∉ F.all.drop 2:=by simp only[lF.all,List.drop,AJ,WL];grind
 have al:h.get m=some (.map es c):=by rw[q.eD m aw.symm aV.symm];exact aW
 have am:fq Δ (.ptr r 0) (a.eval (.tmp F.it)):=by
  have:=hG.tmps.rel F.it;rw[q.sP F.it ak,ab]at this;exact this
 refine .round (wp_seq (wp_region ?_));rw[bf,wpOps_cons];unfold wpOp;simp only[bg];rw[if_pos (FD (n:=n) (ops:=r0.toList) rfl _)];refine .inl ?_;unfold Oper.wp;obtain⟨x,w1,B,an⟩:=Pr hG.world (ty:=T) am q.iter al;rw[show(execOp a.eval ⟨some F.a,.next (.tmp F.it) false,T,ac,ae,none⟩).run P0 w = .ok (.value x) w1 from kY B,Oper.upon_value];have d1:=wB (n:=n) (o:=⟨some F.a,.next (.tmp F.it) false,T,ac,ae,none⟩) rfl (hl _ (by simp));have ext:∀{h:Hp} (v:V) (vs:List V),(za ⟨some F.c,.extract (.tmp F.a) 0,ag,ah,ai,none⟩).f call (t.set F.a (.tuple (v::vs))) h=some (v,h):=λv vs=>by
  show oB (oB (some (gI (t.set F.a (.tuple (v::vs))) F.a)) λx=>match x with| .tuple vs=>DB vs 0|_=>none) _=_;rw[hN,if_pos rfl];rfl
 have aG:∀{h:Hp} (v:V) (vs:List V),(km n r0.toList [⟨some F.c,.extract (.tmp F.a) 0,ag,ah,ai,none⟩]).f call (t.set F.a (.tuple (v::vs))) h=some ((t.set F.a (.tuple (v::vs))).set F.c v,h):=λv vs=>by
  rw[tw rfl (wB rfl (hl F.c (by simp))) rfl (ext v vs)];rfl
 have I:∀{v:V} {vs:List V} {p:Hp} {Δ1:Env} {Q2:Exit->Act->World->Prop},tc Δ h w (.tuple (v::vs)) p Δ1 x w1->(∀R C w2,tT Δ0 h0 w0 n ((t.set F.a (.tuple (v::vs))).set F.c v) p R C w2->Q2 .normal C w2)->
   wpOps P0 r0 Q2 [1] (a.put (some F.a) x) w1:=λhA hK=>by
  have hP:=tT.put hG.tmps d1 hA;exact yV hc (ops:=r0) [⟨some F.c,.extract (.tmp F.a) 0,ag,ah,ai,none⟩] 1 (by rw[e0];rfl) hP.world hP.tmps (aG _ _) (λR C w2 z=>hK R C w2 ((hG.trans hP).trans z))
 rcases an with⟨aH,rfl,rfl⟩|⟨e,he,U,hA⟩
 ·
  refine I (v:= .bool false) (vs:=[]) ⟨.tuple _ #[.bool false] (.one (.bool false)),hG.world,.refl _ _,.refl _ _⟩ λR C w2 z=>?_;have ao:C.eval (.tmp F.c) = .bool false:=by
   have:=z.tmps.rel F.c;rw[hN,if_pos rfl]at this;cases B:C.eval (.tmp F.c) <;> rw[show C.tmps.getD F.c undef=_ from B]at this <;> cases this;rfl
  refine wp_seq (wp_cond_false ao (wp_exit ?_));have L:∀e∈es,e.2.2∈seen:=aH;have M:=z.tmps.rel;have bi:∃d,R r=some d:=by
   have:=M F.it;rw[hN,if_neg (by grind),hN,if_neg (by grind),q.sP F.it ak,ab]at this;generalize C.tmps.getD F.it undef=x at this;cases this with|ptr _ _ d hd=>exact⟨d,hd⟩
  have bj:∃d,R u=some d:=by
   have:=M F.u;rw[hN,if_neg (by grind),hN,if_neg (by grind),q.sP F.u uT,ax]at this;generalize C.tmps.getD F.u undef=x at this;cases this with|map _ d hd=>exact⟨d,hd⟩
  obtain⟨us,cu,p1,p2,p3⟩:=q.put;refine hQ R C w2 ⟨⟨z.tmps.size,λi=>?_,?_⟩,?_,z.frame,⟨jn _,z.grow.none⟩⟩
  ·have g:=M i;generalize C.tmps.getD i undef=x at g;simp only[hN]at g;unfold lF.t
   cases U:es.isEmpty with
   | true=>
     simp only[hN];by_cases hc1:F.c=i
     ·rw[if_pos hc1]at g⊢;exact g
     ·rw[if_neg hc1]at g⊢
      by_cases hc2:F.a=i
      ·rw[if_pos hc2]at g⊢;exact g
      ·rw[if_neg hc2]at g⊢
       rw[q.none (List.isEmpty_iff.1 U) i (Ne.symm hc2) (Ne.symm hc1)]at g
       exact g
   | false=>
     have bm:seen≠[]:=by
       cases es with
       |nil=>cases U
       |cons e es=>intro A;have:=L e (by simp);rw[A]at this;cases this
     obtain⟨⟨k0,s0⟩,⟨k1,s1⟩,⟨k2,s2⟩,s3,⟨k4,s4⟩⟩:=q.some bm;simp only[hN];by_cases hc1:F.c=i
     ·rw[if_pos hc1]at g⊢;exact g
     rw[if_neg hc1]at g⊢;by_cases hc2:F.a=i
     ·rw[if_pos hc2]at g⊢;exact g
     rw[if_neg hc2]at g⊢;by_cases hc3:F.m1=i
     ·subst hc3
      rw[if_pos rfl];rw[s4]at g;cases g;exact .anyI _ _
     rw[if_neg hc3];by_cases hc4:F.m0=i
     ·subst hc4
      rw[if_pos rfl];rw[s3]at g;exact g
     rw[if_neg hc4];by_cases hc5:F.e2=i
     ·subst hc5
      rw[if_pos rfl];rw[s2]at g;cases g;exact .anyI _ _
     rw[if_neg hc5];by_cases hc6:F.e1=i
     ·subst hc6
      rw[if_pos rfl];rw[s1]at g;cases g;exact .anyI _ _
     rw[if_neg hc6];by_cases hc7:F.e0=i
     ·subst hc7
      rw[if_pos rfl];rw[s0]at g
      cases g with
      | tuple _ mG A=>
        refine .tuple _ mG ?_;generalize mG.toList=l at A
        cases A with
        |cons _ _ _ _ p z=>cases p;exact .cons _ _ _ _ (.anyI _ _) z
     rw[if_neg hc7];rw[q.sP i (by simp only[lF.all,List.drop,AJ,WL];grind)]at g;exact g
  ·have hd:=z.tmps.ds;rw[Tm.zI,Tm.zI,q.ds]at hd;unfold lF.t;rw[Tm.zI,Tm.zI]
   cases es.isEmpty with
   |true=>exact hd
   |false=>simp only[Tm.zI];exact hd
  ·obtain ⟨dr,aI⟩:=bi;obtain⟨du,aJ⟩:=bj;have aK:WR R (h.put r .gone) w2:=by
    obtain⟨o,J,N⟩:=z.world.obj r dr aI;rw[q.iter]at J;cases J;obtain⟨b1,b2,b3,_⟩:=N;exact z.world.set aI q.iter rfl b2 (λ_=>rfl) ⟨b1,b2,b3⟩ rfl λ_ _=>rfl
   have aL:(h.put r .gone).get u=some (.map us cu):=by rw[jd _ _ (Hp.wj q.iter),if_neg aa];exact p1
   have bn:WR R ((h.put r .gone).put u (.IP F.k ks)) w2:=by
    obtain⟨o,J,N⟩:=aK.obj u du aJ;rw[aL]at J;cases J;obtain⟨b1,b2,b3,iD,b4,b5,_⟩:=N;refine aK.set aJ aL rfl b2 (λ_=>rfl) ⟨b1,b2,b3,iD,cu,b4,λe' bo=>?_,λW hn=>?_⟩ rfl λ_ _=>rfl
    ·obtain⟨j,hj⟩:=mM.1 bo;have aM:j<us.length:=by rw[b5.length];exact(jw.1 hj).1
     obtain⟨x',y1,S,y3,_⟩:=b5.get (i:=j) (iH aM);rw[hj]at y1;cases y1;obtain⟨z1,e9,z2,z3⟩:=p2 _ (Cj aM);obtain⟨_,W,z4,z5⟩:=y.1 e9 z2;rw[<-z3,z5]at S;rw[z1]at y3;refine⟨?_,W,z4,?_⟩
     ·cases B:e'.val <;> rw[B]at y3 <;> cases y3;rfl
     ·cases B:e'.key <;> rw[B]at S <;> cases S;rfl
    ·obtain⟨e9,z2,z5⟩:=y.2 W hn;obtain⟨e8,z6,z7⟩:=p3 e9 z2 (L e9 z2);obtain⟨j,hj⟩:=mM.1 z6;obtain⟨x',y1,S,y3,_⟩:=b5.get (i:=j) hj;rw[z7,z5]at S;refine⟨x',mM.2 ⟨j,y1⟩,?_⟩;cases B:x'.key <;> rw[B]at S <;> cases S;rfl
   have D:r<h0.next:=by rw[<-q.next];exact Hp.wj q.iter
   have K:u<h0.next:=by rw[<-q.next];exact Hp.wj p1
   refine bn.same (by show h0.next=h.next;exact q.next.symm) λl=>?_;rw[jd _ _ (by show u<h0.next;exact K),jd _ _ D,jd _ _ (by show u<h.next;rw[q.next];exact K),jd _ _ (by rw[q.next];exact D)];by_cases Z:u=l
   ·rw[if_pos Z,if_pos Z]
   ·rw[if_neg Z,if_neg Z];by_cases l2:r=l
    ·rw[if_pos l2,if_pos l2]
    ·rw[if_neg l2,if_neg l2,q.eD l (Ne.symm l2) (Ne.symm Z)]
 ·
  refine I (v:= .bool true) (vs:=[e.1,e.2.1]) hA λR C w2 z=>?_;have ao:C.eval (.tmp F.c) = .bool true:=by
   have:=z.tmps.rel F.c;rw[hN,if_pos rfl]at this;cases B:C.eval (.tmp F.c) <;> rw[show C.tmps.getD F.c undef=_ from B]at this <;> cases this;rfl
  refine wp_seq (wp_cond_true ao (wp_skip ?_));refine wp_block (wp_seq (wp_region ?_));have D:r<h.next:=Hp.wj q.iter;obtain⟨us,cu,p1,p2,p3⟩:=q.put;have K:u<h.next:=Hp.wj p1;have E:rr es c:=by
   obtain ⟨d,hd⟩:∃d,Δ m=some d:=by
    generalize a.eval (.tmp F.it)=x at am
    cases am with
    | ptr _ _ d hd=>
      obtain⟨o',ho,hr⟩:=hG.world.obj r d hd;rw[q.iter]at ho;cases ho;obtain⟨_,_,_,m',a4,dm,bp,_⟩:=hr;exact⟨dm,bp⟩
   exact A3 hG.world hd al
  generalize X:(t.set F.a (.tuple [.bool true,e.1,e.2.1])).set F.c (.bool true)=T2 at z;generalize G:h.put r (.iter (some m) c (seen++[e.2.2]) c)=p at z;have gr:p.get r=some (.iter (some m) c (seen++[e.2.2]) c):=by rw[<-G,jd _ _ D,if_pos rfl]
  have gm:p.get m=some (.map es c):=by rw[<-G,jd _ _ D,if_neg aw];exact al
  have gu:p.get u=some (.map us cu):=by rw[<-G,jd _ _ D,if_neg aa];exact p1
  have Y:p.next=h.next:=by rw[<-G];rfl
  have aN:gI T2 F.it = .ptr r 0:=by rw[<-X,hN,if_neg (by grind),hN,if_neg (by grind),q.sP F.it ak,ab]
  have bq:gI T2 F.u = .map u:=by rw[<-X,hN,if_neg (by grind),hN,if_neg (by grind),q.sP F.u uT,ax]
  obtain ⟨ev,W,bz,ek⟩:=y.1 e he;have aO:FT (.ptr r 0) p=some (.val (.tuple [e.1,e.2.1]) p):=by
   unfold FT;simp only[pN,Qe,bB,gr,oB,wz,gm,List.getLast?_append,List.getLast?_singleton,Option.some_or,find_born E.1 he]
  have aP:(km n r1.toList r1.toList).f call T2 p=some (((T2.set F.e0 (.tuple [e.1,e.2.1])).set F.e1 e.1).set F.e2 e.1,p):=by
   have o1:(za ⟨some F.e0,.entry (.tmp F.it),ay,az,aA,none⟩).f call T2 p=some (.tuple [e.1,e.2.1],p):=by
    have ho:(iS ⟨some F.e0,.entry (.tmp F.it),ay,az,aA,none⟩).f T2 p=FT (gI T2 F.it) p:=rfl;exact Jw rfl (by rw[ho,aN,aO])
   have o2:∀s,gI s F.e0 = .tuple [e.1,e.2.1]->(za ⟨some F.e1,.extract (.tmp F.e0) 0,aX,aY,aZ,none⟩).f call s p=some (e.1,p):=λs A=>by
    show oB (oB (some (gI s F.e0)) λx=>match x with| .tuple vs=>DB vs 0|_=>none) _=_;rw[A];rfl
   have o3:∀s,gI s F.e1=e.1->(za ⟨some F.e2,.assign (.tmp F.e1),a0,a1,a5,none⟩).f call s p=some (e.1,p):=λs A=>by
    rw[<-A];rfl
   generalize H:r1.toList=O;rw[H]at e1
   rw [congrArg (km n O) e1,tw rfl (wB rfl (hl F.e0 (by simp))) rfl o1,tw rfl (wB rfl (hl F.e1 (by simp))) rfl (o2 _ (by show gI (T2.set _ _) _=_;rw[hN,if_pos rfl])),
    tw rfl (wB rfl (hl F.e2 (by simp))) rfl (o3 _ (by show gI (Tm.set _ _ _) _=_;rw[hN,if_pos rfl]))]
   rfl
  obtain ⟨aq,ar,y1,S,y3,y4⟩:=TY hi (k:=F.k) cu (us:=us) (λe A=>⟨(p2 e A).1,by
   obtain⟨_,e',J,N⟩:=p2 e A;obtain⟨_,n',_,q3⟩:=y.1 e' J;exact⟨n',N▸q3⟩⟩) W
  have aQ:∀T5,gI T5 F.u = .map u->gI T5 F.e2=e.1->(km n r2.toList r2.toList).f call T5 p=some ((T5.set F.m0 (.map u)).set F.m1 e.1,p.put u (.map aq ar)):=λT5 k1 k2=>by
   have o1:(za ⟨some F.m0,.move (.tmp F.u),a6,a7,a8,none⟩).f call T5 p=some (.map u,p):=by
    rw[<-k1];rfl
   have o2:∀s,gI s F.e2=e.1->(za ⟨some F.m1,.move (.tmp F.e2),a9,ba,bb,none⟩).f call s p=some (e.1,p):=λs A=>by
    rw[<-A];rfl
   have o3:∀s,gI s F.m0 = .map u->gI s F.m1=e.1->(za ⟨none,.mapUpdate F.ty (.tmp F.m0) (.tmp F.m1) (.const (.bool true)),aB,aC,aD,none⟩).f call s p=some (.undef,p.put u (.map aq ar)):=λs G br=>by
    have hw:(iS ⟨none,.mapUpdate F.ty (.tmp F.m0) (.tmp F.m1) (.const (.bool true)),aB,aC,aD,none⟩).f s p=yQ F.kt none (.map u) e.1 (.bool true) p:=by
     unfold iS;simp only[hu,be];show oB (some (gI s F.m0)) (λm=>oB (some (gI s F.m1)) λk=>oB (some (.bool true)) λv=>yQ F.kt none m k v p)=_;rw[G,br];rfl
    refine Jw rfl ?_;rw[hw,ek];unfold yQ yn;simp only[CQ,bB,gu,oB,y1]
   generalize H:r2.toList=O;rw[H]at e2
   rw [congrArg (km n O) e2,tw rfl (wB rfl (hl F.m0 (by simp))) rfl o1,tw rfl (wB rfl (hl F.m1 (by simp))) rfl (o2 _ (by show gI (T5.set _ _) _=_;rw[hN,if_neg (by grind)];exact k2)),
    tw rfl (So rfl) rfl (o3 _ (by show gI (Tm.set _ _ _) _=_;rw[hN,if_neg (by grind)];show gI (T5.set _ _) _=_;rw[hN,if_pos rfl]) (by show gI (Tm.set _ _ _) _=_;rw[hN,if_pos rfl]))]
   rfl
  have aR:∀ops:Array Oper,List.range ops.size=List.range' 0 ops.toList.length:=λops=>by rw[List.range_eq_range',Qf]
  rw[aR];refine yV hc (ops:=r1) r1.toList 0 rfl z.world z.tmps aP λΔ3 a3 w3 h3=>wp_region ?_;rw[aR];refine yV hc (ops:=r2) r2.toList 0 rfl h3.world h3.tmps (aQ _ (by simp only[hN];rw[if_neg (by grind),if_neg (by grind),if_neg (by grind)];exact bq) (by rw[hN,if_pos rfl])) λΔ4 a4 w4 h4=>?_;refine ih (es.filter λx=>!(seen++[e.2.2]).contains x.2.2).length ?_ (seen++[e.2.2]) (jn _) (z.trans (h3.trans h4)) ?_
  ·have hf:(es.filter λx=>!(seen++[e.2.2]).contains x.2.2)=(es.filter λx=>!seen.contains x.2.2).filter λx=>!(x.2.2 == e.2.2):=by
    rw[List.filter_filter];congr 1;funext x;rw[Ut];simp
    grind
   have bt:e∈es.filter λx=>!seen.contains x.2.2:=TD.2 ⟨he,by simpa using U⟩;rw[hf];exact zr (List.length_filter_lt_length_iff_exists.2 ⟨e,bt,by simp⟩) hk
  ·refine ⟨Y.trans q.next,λl Z l2=>?_,?_,⟨aq,ar,by rw[jd _ _ (by rw[Y];exact K),if_pos rfl],λx B=>?_,λx B P=>?_⟩,?_,λi aS=>?_,λA=>?_,λ_=>?_⟩
   ·rw[jd _ _ (by rw[Y];exact K),if_neg (Ne.symm l2),<-G,jd _ _ D,if_neg (Ne.symm Z)];exact q.eD l Z l2
   ·rw[jd _ _ (by rw[Y];exact K),if_neg aa.symm];exact gr
   ·refine⟨(S x B).1,?_⟩;rcases(S x B).2 with A|⟨x',bu,A⟩
    ·exact⟨e,he,by rw[ek,A]⟩
    ·obtain⟨_,e',J,N⟩:=p2 x' bu;exact⟨e',J,by rw[N,A]⟩
   ·rcases AI.1 P with P|P
    ·obtain⟨e',J,N⟩:=p3 x B P;obtain⟨bv,q3,q4⟩:=y4 e' J;exact⟨bv,q3,q4.trans N⟩
    ·have bw:=find_born E.1 he;have aT:=find_born E.1 B;rw[Ig.1 P,bw]at aT;cases aT;obtain⟨e',J,N⟩:=y3;exact⟨e',J,by rw[N,ek]⟩
   ·simp only[Tm.zI];rw[<-X];simp only[Tm.zI];exact q.ds
   ·have g:=aS;simp only[lF.all,List.drop,AJ,WL,or_false,not_or]at aS;simp only[hN];rw[<-X];simp only[hN];rw[if_neg (by grind),if_neg (by grind),if_neg (by grind),if_neg (by grind),if_neg (by grind),if_neg (by grind),if_neg (by grind)];exact q.sP i g
   ·rw[A]at he;cases he
   ·simp only[hN];refine⟨⟨W,?_⟩,⟨W,?_⟩,⟨W,?_⟩,?_,⟨W,?_⟩⟩
    ·rw[if_neg (by grind),if_neg (by grind),if_neg (by grind),if_neg (by grind),if_pos trivial,ek,ev]
    ·rw[if_neg (by grind),if_neg (by grind),if_neg (by grind),if_pos trivial,ek]
    ·rw[if_neg (by grind),if_neg (by grind),if_pos trivial,ek]
    ·rw[if_neg (by grind),if_pos trivial]
    ·rw[if_pos trivial,ek]
theorem Tl{call:Call} (hc:pH call) {F:lF} {f:Code} (y:uX n f=some F) (z:WR Δ h w) (A:TR Δ n t a) {r:X×Tm×Hp} (b:Io F t h=some r) {Q:Exit->Act->World->Prop}
  (B:∀C v w',tT Δ h w n r.2.1 r.2.2 C v w'->Q r.1.to v w'):yG f Q a w:=by
 unfold Io at b;rw[ny]at b;obtain⟨x,off,g,b⟩:=b;rw[fX,eE]at b;obtain⟨h0,o,i,b⟩:=b;obtain rfl:=uW h0;split at b
 ·rename_i m since last;simp only[sj,fX,eE,qU]at b;obtain⟨es,c,j,⟨D,E⟩,ks,k,b⟩:=b;obtain rfl:=uW D;obtain rfl:=uW E;split at b
  ·rename_i u G;simp only[fX,sj]at b;obtain⟨l,us,H,d,p,b⟩:=b;cases b;obtain rfl:=List.isEmpty_iff.1 p;have q:x≠u:=λe=>by subst e;rw[i]at d;cases d
   have s:x≠m:=λe=>by subst e;rw[i]at j;cases j
   exact Pe hc y k q (λe=>by subst e;simp at l) s j g G B _ [] (jn _) (.start A z)
    ⟨rfl,λ_ _ _=>rfl,i,⟨[],H,d,by simp,by simp⟩,rfl,λ_ _=>rfl,λ_ _ _ _=>rfl,λI=>absurd rfl I⟩
  ·cases b
 ·cases b
end
def Alike(t t':Tm)(x:Operand):Prop:=(IQ x).f t=(IQ x).f t'
theorem Dr{t t':Tm} {l:List Operand} (h:∀d,d∈yu l->gI t d=gI t' d):∀x∈l,Alike t t' x:=by
 induction l with
 |nil=>simp_all
 | cons y l b=>
   intro x a
   cases a with
   | head=>
     unfold Alike
     cases y <;> grind[gI,yu,IQ]
   | tail _ a=>
     refine b (λd hd=>h d ?_) x a;cases y <;> simp[yu,hd]
section
variable{t t':Tm}{h:Hp}
theorem gf{x:Operand} (a:Alike t t' x):(pI x).f t h=(pI x).f t' h:=by
 unfold Alike at a;cases x <;> grind[pI]
theorem tC:∀{l:List Operand},(∀x∈l,Alike t t' x)->Et t l=Et t' l
 |[],_=>rfl
 | x::l,hl=>by
   have a:(IQ x).f t=(IQ x).f t':=hl x (by simp);simp only[Et,a,tC (l:=l) (by simp_all)]
theorem xY:∀{l:List (Nat×Operand)},(∀x∈l,Alike t t' x.2)->qt t l=qt t' l
 |[],_=>rfl
 | x::l,hl=>by
   have a:(IQ x.2).f t=(IQ x.2).f t':=hl x (by simp);simp only[qt,a,xY (l:=l) (by grind)]
theorem Nl{x:Option Operand} (a:∀y,x=some y->Alike t t' y):EK x t h=EK x t' h:=by
 cases x with
 |none=>rfl
 |some y=>simp only[EK,gf (a y rfl)]
theorem Lu{ty:Nat} {p:PF} (a:p.f t h=p.f t' h):(Cz ty p).f t h=(Cz ty p).f t' h:=by
 grind[Cz]
theorem Mo{a b:Nat} {p:PF} (c:p.f t h=p.f t' h):(Gp a b p).f t h=(Gp a b p).f t' h:=by
 grind[Gp]
theorem EZ{a b:Nat} {p:PF} (c:p.f t h=p.f t' h):(nE a p b).f t h=(nE a p b).f t' h:=by
 grind[nE]
theorem KO{a b:Nat} {p:PF} (c:p.f t h=p.f t' h):(Db a p b).f t h=(Db a p b).f t' h:=by
 grind[Db]
theorem Fq{a:Nat} {p q:PF} (b:p.f t h=p.f t' h) (hq:q.f t h=q.f t' h):(nY a p q).f t h=(nY a p q).f t' h:=by
 grind[nY]
theorem J6{a:Nat} {p q:PF} (b:p.f t h=p.f t' h) (hq:q.f t h=q.f t' h):(Dh a p q).f t h=(Dh a p q).f t' h:=by
 grind[Dh]
theorem KV{a:Nat} {p:PF} {lo hi:Option Operand} (b:p.f t h=p.f t' h) (c:EK lo t h=EK lo t' h) (d:EK hi t h=EK hi t' h) :
  (Fi a p lo hi).f t h=(Fi a p lo hi).f t' h:=by
 grind[Fi]
theorem I5{a:Nat} {p q:PF} {ok:Bool} (b:p.f t h=p.f t' h) (hq:q.f t h=q.f t' h):(BU a p q ok).f t h=(BU a p q ok).f t' h:=by
 grind[BU]
theorem Nv{a:Nat} {p:PF} (b:p.f t h=p.f t' h):(hlen a p).f t h=(hlen a p).f t' h:=by
 grind[hlen]
theorem IZ{a:Nat} {p:PF} {ok:Bool} (b:p.f t h=p.f t' h):(B0 p a ok).f t h=(B0 p a ok).f t' h:=by
 grind[B0]
theorem Mt{c p q:PF} (hc:c.f t h=c.f t' h) (a:p.f t h=p.f t' h) (hq:q.f t h=q.f t' h):(Gz c p q).f t h=(Gz c p q).f t' h:=by
 grind[Gz]
theorem KL{a:Nat} {ps:List (Nat×Operand)} (b:qt t ps=qt t' ps):(Dv a ps).f t h=(Dv a ps).f t' h:=by
 unfold Dv;grind
theorem CW{o:Oper} (g:∀x∈o.op.operands.toList,Alike t t' x):(il o).f t h=(il o).f t' h:=by
 obtain⟨dst,op,ty,pos,af,gd⟩:=o;cases op <;> simp only[il] <;> simp only[Op.operands]at g
 case move x=>grind[gf]
 case assign x=>grind[gf]
 case pick c a b=>exact Mt (by grind[gf]) (by grind[gf]) (by grind[gf])
 case load ty a=>grind[Lu,gf]
 case nilCheck x=>grind[wb,gf]
 case binOp op xt x y b=>grind[gf]
 case unOp op b x=>grind[gf]
 case convert s d x=>grind[Mo,gf]
 case build ty ps=>grind[KL,xY]
 case makeFunc fn first caps=>
  cases fn with
  |func f=>grind[tC]
  |_=>rfl
 case slice ty x lo hi mx=>
  cases mx with
  |none=>grind[KV,gf,Nl]
  |some _=>rfl
 case fieldAddr s x f=>grind[EZ,gf]
 case field s x f=>grind[KO,gf]
 case indexAddr ty x i=>grind[Fq,gf]
 case index ty x i=>grind[J6,gf]
 case lookup ty m k ok=>grind[I5,gf]
 case extract x i=>grind[Br,gf]
 case makeInterface ty x=>
  split
  ·grind[gf]
  ·rfl
 case typeAssert x b asserted ok=>grind[IZ,gf]
 case call c=>
  obtain⟨e,args,j⟩:=c
  cases e with
  | builtin b=>
    have l:∀x∈args.toList,Alike t t' x:=by grind[Call.operands]
    cases b <;> simp only
    case len=>
      split
      ·grind[Nv,gf]
      ·rfl
    case min=>grind[tC]
    case max=>grind[tC]
    all_goals rfl
  |_=>rfl
 all_goals rfl
theorem Jk{x:Operand}(a:Alike t t' x):(IQ x).f t=(IQ x).f t':=a
theorem Gx{o:Oper} (a:∀x∈o.op.operands.toList,Alike t t' x):(nA o).f t=(nA o).f t':=by
 obtain⟨dst,op,ty,pos,af,gd⟩:=o;cases op <;> simp only[nA] <;> simp only[Op.operands]at a
 case alloc e=>split <;> rfl
 case box e x=>grind[Jk]
 case buildSlice ty len parts=>
  (repeat' split) <;> first
   |rfl
   |grind[Bc,xY]
 case makeSlice ty n c=>
  (repeat' split) <;> first
   |rfl
   |grind[Jk]
 case makeMap ty r=>
  cases r with
  |none=>simp only;split <;> rfl
  |some _=>rfl
 all_goals rfl
theorem MG{o:Oper} (j:∀x∈o.op.operands.toList,Alike t t' x):(iS o).f t h=(iS o).f t' h:=by
 obtain⟨dst,op,ty,pos,af,gd⟩:=o;cases op <;> simp only[iS] <;> simp only[Op.operands]at j
 case store ty a x=>
  split
  ·grind[gf]
  ·rfl
 case mapUpdate ty m k x=>
  (repeat' split) <;> first
   |rfl
   |grind[gf]
 case insert ty m k x=>
  (repeat' split) <;> first
   |rfl
   |grind[gf]
 case range ty x=>
  split
  ·grind[gf]
  ·rfl
 case next x UH=>
  cases UH with
  |true=>rfl
  |false=>grind[gf]
 case entry x=>grind[gf]
 case convert s d x=>
  (repeat' split) <;> first
   |rfl
   |grind[gf]
 case call c=>
  obtain⟨g,args,l⟩:=c
  cases g with
  | builtin b=>
    have n:∀x∈args.toList,Alike t t' x:=by grind[Call.operands]
    cases b <;> simp only
    case append=>
      split
      ·rename_i s x i xT e _
       (repeat' split) <;> first
         |rfl
         |grind[gf]
      ·rfl
    case copy=>
      split
      ·rename_i s x i xT e _
       (repeat' split) <;> first
         |rfl
         |grind[gf]
      ·rfl
    case delete=>
      split
      ·rename_i s x i xT e _
       (repeat' split) <;> first
         |rfl
         |grind[gf]
      ·rfl
    all_goals rfl
  | value f=>
    grind[Alike,Call.operands,gf,tC]
  | invoke r m=>
    grind[Alike,Call.operands,gf,tC]
 all_goals rfl
theorem HH{call:Call} {o:Oper} (a:∀x∈o.op.operands.toList,Alike t t' x):(za o).f call t h=(za o).f call t' h:=by
 grind[za,CW,Gx,MG]
end
theorem zi:∀(l:List Oper) (i:Nat) (b:List Nat) (k:Nat) (a:It),(items l i b)[k]? =some a->a.i=i+k/\l[k]? =some a.o
 |[],i,b,k,a,h=>by grind[items]
 |o::os,i,b,0,a,h=>by simp[items]at h;grind
 | o::os,i,b,k+1,a,h=>by
   simp only[items,XX]at h;obtain⟨c,d⟩:=zi os (i+1) _ k a h
   grind
theorem DU:∀(l:List Oper) (i:Nat) (a:List Nat),(items l i a).length=l.length
 |[],i,a=>rfl
 |o::os,i,a=>by simp[items,DU os]
theorem yg(a:List Nat) (x:Nat):∀(es:List Edge) (m:Nat),(IA a es m).testBit x=true->m.testBit x=true\/∃e∈es,Ip e=true/\(x=e.on\/(a[e.on]?.getD 0).testBit x=true)
 |[],m,h=> .inl h
 | e ::es,m,h=>by
   simp only[IA]at h;split at h
   ·rename_i f
    rcases yg a x es _ h with b|⟨e',d,c,b⟩
    ·grind
    grind
   ·rcases yg a x es _ h with b|⟨e',d,c,b⟩
    ·simp_all
    grind
theorem Oa:∀(l:List Oper) (i:Nat) (c:List Nat) (k:Nat) (a:It),(items l i c)[k]? =some a->
  a.b=IA (c++((items l i c).take k).map (·.b)) a.o.after.toList 0
 |[],i,c,k,a,h=>by grind[items]
 |o::os,i,c,0,a,h=>by grind[items]
 | o::os,i,c,k+1,a,h=>by
   simp only[items,XX]at h;have:=Oa os (i+1) _ k a h
   grind[items,MQ]
theorem Is{l:List Oper} {k:Nat} {a:It} (h:(items l 0 [])[k]? =some a) {x:Nat} (d:a.b.testBit x=true) :
  ∃e∈a.o.after.toList,Ip e=true/\(x=e.on\/∃y,(items l 0 [])[e.on]? =some y/\y.b.testBit x=true):=by
 rw[Oa l 0 [] k a h]at d;rcases yg _ x _ _ d with c|⟨e,f,g,c⟩
 ·simp_all
 ·refine ⟨e,f,g,?_⟩;rcases c with c|c
  ·omega
  ·right;rw[LR,List.getElem?_map,List.getElem?_take]at c
   grind
theorem BW(e:Edge):Region.binds .any e=Ip e:=by
 rfl
def nN(val:Nat->V)(D:Nat->Bool)(d:Nat)(jv:List It)(b:V):V:=jv.foldl (λv a=>if D a.i=true/\a.o.dst=some d then val a.i else v) b
theorem nD{val Jc:Nat->V} {D D':Nat->Bool} {d:Nat} {jv:List It} (c:∀a∈jv,a.o.dst=some d->D a.i=D' a.i) (e:∀a∈jv,a.o.dst=some d->D a.i=true->val a.i=Jc a.i) (b:V) :
  nN val D d jv b=nN Jc D' d jv b:=by
 unfold nN
 induction jv generalizing b <;> grind
theorem Dz{val:Nat->V} {D:Nat->Bool} {d:Nat} {jv:List It} (h:∀a∈jv,a.o.dst=some d->D a.i=false) (b:V):nN val D d jv b=b:=by
 unfold nN
 induction jv generalizing b <;> grind
theorem PQ{val:Nat->V} {D:Nat->Bool} {d:Nat} {jv:List It} (e:∀(k:Nat) (x:It),jv[k]? =some x->x.i=k) {a:It} (j:a∈jv) (hd:a.o.dst=some d) (l:D a.i=true)
  (h:∀x∈jv,a.i<x.i->x.o.dst=some d->D x.i=false) (m:V):nN val D d jv m=val a.i:=by
 obtain⟨k,g⟩:=mM.1 j;have n:=e k a g;have f:k<jv.length:=by grind
 have b:jv=jv.take k++a::jv.drop (k+1):=by
  have p:jv.drop k=a::jv.drop (k+1):=by
   rw[YL f];rw[iH f]at g;cases g;rfl
  rw[<-p,Vh]
 have c:∀x∈jv.drop (k+1),x.o.dst=some d->D x.i=false:=by
  intro x r s;obtain⟨q,hq⟩:=mM.1 r;rw[V0]at hq;have:=e _ x hq;exact by grind
 unfold nN;rw[b,List.foldl_append,List.foldl_cons,if_pos ⟨l,hd⟩];exact Dz c _
def zl(h h':Hp):Prop:=h.next<=h'.next/\∀l,l<h.next->h'.get l=h.get l
theorem zl.refl(h:Hp):zl h h:=⟨jn _,λ_ _=>rfl⟩
theorem zl.trans{h h' c:Hp}(a:zl h h')(b:zl h' c):zl h c:=⟨GP a.1 b.1,λl d=>by rw[b.2 l (zr d a.1),a.2 l d]⟩
theorem zl.new(h:Hp)(o:O):zl h (h.new o):=⟨La _,by simp_all[rE,if_neg,Nat.ne_of_gt]⟩
theorem WR.Kh{Δ:Env} {h h':Hp} {w:World} (a:WR Δ h w) (b:zl h h'):WR Δ h' w where
 fresh:=λl d f=>zr (a.fresh l d f) b.1
 wh:=a.wh
 obj:=λl d f=>by rw[b.2 l (a.fresh l d f)];exact a.obj l d f
 apart:=λm i e e' p r j k pe n o=>by
  rw[b.2 m (a.fresh m e j)]at n;rw[b.2 i (a.fresh i e' k)]at o;exact a.apart m i e e' p r j k pe n o
 Cg:=λg p c q=>by
  rw[b.2 g (zr c a.ur)]at q;exact a.Cg g p c q
 ur:=GP a.ur b.1
 MU:=a.MU
theorem O.eq_of_beq{a b:O} (h:O.beq a b=true):a=b:=by
 unfold O.beq at h;split at h
 ·simp only[qU,Jg]at h;obtain⟨⟨⟨⟨rfl,rfl⟩,rfl⟩,rfl⟩,c⟩:=h
  grind[V.tB]
 ·simp_all
 ·cases h
structure Tc where
 on:Nat->Bool
 val:Nat->V
 tt:Nat->Tm
 ep:Nat->Nat
 pl:Nat->Nat
 ob:Nat->O
 H:Nat->Hp
 G:Nat->Hp
def wM(jv:List It)(D:Nat->Bool):Prop:=∀a∈jv,D a.i=true->∀x∈jv,a.b.testBit x.i=true->D x.i=true
section
variable (n:Nat)(all:List Oper)(jv ws:List It)(call:Call)(t0:Tm)(h0:Hp)
structure Hi (T:Tc) (D:Nat->Bool) (a:It):Prop where
 fresh:D a.i=false
 closed:wM jv D
 ft:∀x∈jv,a.b.testBit x.i=true->D x.i=true
 mL:∀d,gI (T.tt a.i) d=nN T.val D d jv (gI t0 d)
 dst:∃d,qV n a.o=some d
 mX:mX n all a.o (T.tt a.i)=some (T.on a.i)
 off:T.on a.i=false->T.val a.i = .undef
 Xj:cls a.o≠2->GS ws a (T.ep a.i)=true
 epl:T.ep a.i<=ws.length
 pure:cls a.o=0->T.on a.i=true->∀j,T.ep a.i<=j->j<=ws.length->j<=late ws a->(il a.o).f (T.tt a.i) (T.H j)=some (T.val a.i)
 alloc:cls a.o=1->T.on a.i=true->(∃mk,(nA a.o).f (T.tt a.i)=some (T.ob a.i,mk)/\T.val a.i=mk (T.pl a.i))/\
  (∀j,T.ep a.i<=j->j<=ws.length->T.pl a.i<(T.H j).next/\(j<=late ws a->(T.H j).get (T.pl a.i)=some (T.ob a.i)))/\
  (∀j,j<T.ep a.i->(T.G j).next<=T.pl a.i)/\h0.next<=T.pl a.i
 write:cls a.o=2->Uf ws a (T.ep a.i)=true/\(T.on a.i=true->(za a.o).f call (T.tt a.i) (T.H (T.ep a.i))=some (T.val a.i,T.G (T.ep a.i)))/\
  (T.on a.i=false->T.G (T.ep a.i)=T.H (T.ep a.i))
structure qq (l:List It) (m k:Nat) (h:Hp) (rs:List Rec) (r:Tm×Hp) (b T:Tc):Prop where
 same:∀i,m.testBit i=true->T.on i=b.on i/\T.val i=b.val i/\T.tt i=b.tt i/\T.ep i=b.ep i/\T.pl i=b.pl i/\T.ob i=b.ob i
 N5:∀j,j<k->T.H j=b.H j/\T.G j=b.G j
 item:∀a∈l,∃D,Hi n all jv ws call t0 h0 T D a
 zK:∀r∈rs,∀j,k<=j->j<=ws.length->r.last<j\/vS (T.H j) r=true
 more:zl h (T.H k)
 chain:∀j,k<=j->j<ws.length->(T.H j).next<=(T.G j).next/\zl (T.G j) (T.H (j+1))
 OV:∀a∈l,cls a.o=1->T.on a.i=true->h.next<=T.pl a.i
 Om:∀a∈l,∀c∈l,cls a.o=1->cls c.o=1->T.on a.i=true->T.on c.i=true->a.i≠c.i->T.pl a.i≠T.pl c.i
 last:r.2=T.H ws.length
 mL:∀d,gI r.1 d=nN T.val (λ_=>true) d jv (gI t0 d)
 done:∀a∈jv,m.testBit a.i=true\/a.i∈l.map (·.i)
 kle:k<=ws.length
end
theorem AK{ws:List It} {T:Tc} {k:Nat} (h:∀j,k<=j->j<ws.length->(T.H j).next<=(T.G j).next/\zl (T.G j) (T.H (j+1))):∀(m j:Nat),j=k+m->j<=ws.length->(T.H k).next<=(T.H j).next:=by
 intro m
 induction m with
 |zero=>simp_all
 | succ m b=>
   intro j g c;obtain⟨a,rfl⟩:∃a,j=a+1:=⟨j-1,by omega⟩
   have d:=b a (by omega) (by omega);obtain⟨e,f⟩:=h a (by omega) (by omega);exact GP d (GP e f.1)
theorem QP(m i x:Nat):(m |||2 ^ i).testBit x=(m.testBit x ||decide (i=x)):=by grind
theorem Gy{l:List It} (h:ou l=true):∀(i j:Nat) (a b:It),i<j->l[i]? =some a->l[j]? =some b->KI a b=true:=by
 induction l with
 |nil=>simp_all
 | cons x l d=>
   intro i j a b c e f;simp only[ou,qU]at h
   grind
theorem Jy{jv:List It} (c:∀(k:Nat) (x:It),jv[k]? =some x->x.i=k) (h:ou jv=true) {a x:It} (l:a∈jv) (m:x∈jv) {d:Nat} (hd:d∈mY a.o) (e:x.o.dst=some d) :
  (x.i<a.i->a.b.testBit x.i=true)/\(a.i<x.i->x.b.testBit a.i=true):=by
 obtain⟨i,hi⟩:=mM.1 l;obtain⟨j,f⟩:=mM.1 m;have n:=c i a hi;have p:=c j x f;have q:writes x.o (mY a.o)=true:=by simp[writes,e,hd]
 constructor
 ·intro g;have:=Gy h j i x a (by omega) f hi
  grind[KI]
 ·intro g;have:=Gy h i j a x (by omega) hi f
  grind[KI]
theorem Py{o:Oper}{d:Nat}(h:o.dst=some d):d∈mY o:=by simp[mY,h]
theorem Dj{jv:List It} (e:∀(k:Nat) (x:It),jv[k]? =some x->x.i=k) (p:ou jv=true) {a:It} (f:a∈jv) {D D':Nat->Bool} (q:wM jv D) (g:wM jv D')
  (s:∀x∈jv,a.b.testBit x.i=true->D x.i=true) (r:∀x∈jv,a.b.testBit x.i=true->D' x.i=true) (n:D a.i=false) (c:D' a.i=false) {d:Nat} (hd:d∈mY a.o) (val:Nat->V) (j:V) :
  nN val D d jv j=nN val D' d jv j:=by
 refine nD (λx l m=>?_) (by simp_all) j;obtain⟨p1,p2⟩:=Jy e p f l hd m;rcases Nat.lt_trichotomy x.i a.i with h|h|h
 ·simp_all
 ·simp_all
 ·have t:D x.i=false:=by
   cases hh:D x.i with
   |false=>rfl
   |true=>rw[q x l hh a f (p2 h)]at n;cases n
  have u:D' x.i=false:=by
   cases hh:D' x.i with
   |false=>rfl
   |true=>rw[g x l hh a f (p2 h)]at c;cases c
  simp_all
theorem B4{jv:List It} (b:∀(k:Nat) (x:It),jv[k]? =some x->x.i=k) (q:ou jv=true) {a:It} (l:a∈jv) {D D':Nat->Bool} (r:wM jv D) (p:D a.i=false)
  (f:∀i,D' i=(D i ||decide (a.i=i))) {val Jc:Nat->V} (t:∀i,D i=true->Jc i=val i) (d:Nat) (m:V) :
  nN Jc D' d jv m=if a.o.dst=some d then Jc a.i else nN val D d jv m:=by
 by_cases hd:a.o.dst=some d
 ·rw[if_pos hd];refine PQ b l hd (by simp_all) (λx g h c=>?_) m;rw[f];have pe:a.i≠x.i:=Li h;have:=(Jy b q l g (Py hd) c).2 h
  cases hh:D x.i with
  |false=>simp_all
  |true=>rw[r x g hh a l this]at p;cases p
 ·rw [if_neg hd];refine nD (λx g c=>?_) (λx g c s=>?_) m
  ·rw [f];have:a.i≠x.i:=by
    intro e;obtain⟨i,hi⟩:=mM.1 l;obtain⟨j,n⟩:=mM.1 g;have u:=b i a hi;have v:=b j x n;have:i=j:=by omega
    subst this;rw[hi]at n;cases n;exact hd c
   simp_all
  grind[mM]
def IV{α:Type}(f:Nat->α)(i:Nat)(v:α):Nat->α:=λj=>if j=i then v else f j
theorem lQ{α:Type}(f:Nat->α)(i:Nat)(v:α):IV f i v i=v:=if_pos rfl
theorem KY{α:Type}(f:Nat->α){i j:Nat}(v:α)(h:j≠i):IV f i v j=f j:=if_neg h
theorem Fa(o:Oper):cls o=0\/cls o=1\/cls o=2:=by
 unfold cls
 grind
theorem Ef{n:Nat} {o:Oper} {d:DF} (h:qV n o=some d) (t:Tm) (v:V) (i:Nat):gI (d.f t v) i=if o.dst=some i then v else gI t i:=by
 unfold qV at h
 cases ho:o.dst with
 |none=>grind
 | some k=>
   simp only[ho]at h
   cases hk:Nat.blt k n with
   |false=>simp_all
   | true=>
     simp only[hk]at h;cases h;show gI (t.set k v) i=_
     simp_all[hN,if_pos,if_neg]
theorem tK{n:Nat} {o:Oper} {d:DF} (h:qV n o=some d) (t:Tm) (v:V):(d.f t v).ds=t.ds:=by
 grind[qV,Nat.blt,Tm.zI]
theorem xO{n:Nat} {all:List Oper} {ws:List It} {call:Call}:∀(l:List It) (k:Nat) {t:Tm} {h:Hp} {rs:List Rec} {r:Tm×Hp},(tq n all ws l k).f call t h rs=some r->r.1.ds=t.ds
 | [],_,t,h,rs,r,hv=>by
   grind[tq,fX]
 | a ::l,k,t,h,rs,r,hv=>by
   unfold tq at hv
   cases hd:qV n a.o with
   |none=>simp_all
   | some d=>
     rw[hd]at hv;simp only at hv;split at hv
     ·simp only[CH,eE]at hv
      obtain⟨b,_,c⟩:=hv
      cases b with
      |false=>rw[xO l _ c,tK hd]
      | true=>
        simp only[eE]at c;obtain⟨x,_,e⟩:=c;rw[xO l _ e,tK hd]
     ·simp only[A7,eE]at hv
      obtain⟨b,_,c⟩:=hv
      cases b with
      |false=>rw[xO l _ c,tK hd]
      | true=>
        simp only[eE]at c;obtain⟨x,_,e⟩:=c;rw[xO l _ e,tK hd]
     ·simp only[yr,eE,fX]at hv
      obtain⟨_,b,_,c⟩:=hv
      cases b with
      |false=>rw[xO l _ c,tK hd]
      | true=>
        simp only[eE,fX]at c;obtain⟨x,_,_,e⟩:=c;rw[xO l _ e,tK hd]
section
variable{n:Nat}{all:List Oper}{jv ws:List It}{call:Call}{t0:Tm}{h0:Hp}
theorem qq.cons{l:List It} {a:It} {m k k':Nat} {h h':Hp} {rs A:List Rec} {r:Tm×Hp} {d e T:Tc} (c:qq n all jv ws call t0 h0 l (m |||2 ^ a.i) k' h' A r e T)
  (C:∀i,m.testBit i=true->e.on i=d.on i/\e.val i=d.val i/\e.tt i=d.tt i/\e.ep i=d.ep i/\e.pl i=d.pl i/\e.ob i=d.ob i)
  (L:∀j,j<k->e.H j=d.H j/\e.G j=d.G j) (M:k<=k') (f:∃D,Hi n all jv ws call t0 h0 T D a)
  (g:∀r∈rs,∀j,k<=j->j<=ws.length->r.last<j\/vS (T.H j) r=true) (p:zl h (T.H k))
  (z:∀j,k<=j->j<k'->(T.H j).next<=(T.G j).next/\zl (T.G j) (T.H (j+1)))
  (w:cls a.o=1->T.on a.i=true->h.next<=T.pl a.i/\T.pl a.i<h'.next) (EG:h.next<=h'.next) (B:k<=ws.length):qq n all jv ws call t0 h0 (a::l) m k h rs r d T where
 same:=λi hi=>by
  obtain⟨E,F,N,O,P,Q⟩:=c.same i (by simp_all)
  simp_all
 N5:=λj I=>by
  obtain⟨E,F⟩:=c.N5 j (by omega)
  simp_all
 item:=λx b=>by
  cases b with
  |head=>exact f
  |tail _ b=>exact c.item x b
 zK:=g
 more:=p
 chain:=λj C J=>by
  by_cases I:j<k'
  ·simp_all
  ·exact c.chain j (by omega) J
 OV:=λx b hc K=>by
  cases b with
  |head=>simp_all
  |tail _ b=>exact GP EG (c.OV x b hc K)
 Om:=λx b y v q s t u pe=>by
  cases b with
  | head=>
    cases v with
    |head=>omega
    |tail _ v=>have:=(w q t).2;have:=c.OV y v s u;omega
  | tail _ b=>
    cases v with
    |head=>have:=(w s u).2;have:=c.OV x b q t;omega
    |tail _ v=>exact c.Om x b y v q s t u pe
 last:=c.last
 mL:=c.mL
 done:=λx b=>by
  rcases c.done x b with h|h
  ·grind
  simp_all
 kle:=B
theorem trace(D:∀(k:Nat) (x:It),jv[k]? =some x->x.i=k) (U:ou jv=true):∀(l:List It) (m k:Nat) (t:Tm) (h:Hp) (rs:List Rec) (r:Tm×Hp) (s:Tc),
  (∀a∈l,a∈jv)->qX jv ws l m k=true->(tq n all ws l k).f call t h rs=some r->wM jv m.testBit->(∀d,gI t d=nN s.val m.testBit d jv (gI t0 d))->
  h0.next<=h.next->(∀j,j<k->(s.G j).next<=h.next)->k<=ws.length->∃T,qq n all jv ws call t0 h0 l m k h rs r s T
 | [],m,k,t,h,rs,r,s,hsub,c,u,hcl,ht,hn0,hG,hkl=>by
   simp only[qX,qU]at c;obtain⟨ai,hk⟩:=c;have am:k=ws.length:=uW hk;simp only[tq,fX]at u;obtain⟨aa,u⟩:=u;cases u;refine⟨{s with H:=IV s.H k h},⟨by simp_all,λj R=>⟨by grind[KY],rfl⟩,by simp_all,?_,?_,by omega,by simp_all,by simp_all,?_,?_,?_,hkl⟩⟩
   ·intro q hq j h1 h2
    have:j=k:=by omega
    simp_all[vS,IV,lQ,yb,K7,IY,Lb]
   ·grind[zl,IV,lQ]
   ·grind[IV,lQ]
   ·intro d
    rw[ht d];refine nD (λa ha _=>?_) (by simp_all) _
    simp_all
   simp_all
 | a ::l,m,k,t,h,rs,r,s,hsub,c,u,hcl,ht,hn0,hG,hkl=>by
   have ha:a∈jv:=by simp_all
   have z:∀x∈l,x∈jv:=by simp_all
   simp only[qX,qU,Vm]at c;obtain⟨E,an,c⟩:=c;have w:∀x∈jv,a.b.testBit x.i=true->m.testBit x.i=true:=by grind
   have A:wM jv (m |||2 ^ a.i).testBit:=λx hx B y hy hb=>by
     rw[QP]at B⊢;simp only[IY,IM]at B;rcases B with B|B
     ·rw[hcl x hx B y hy hb];rfl
     grind[mM]
   simp only[tq]at u
   cases hd:qV n a.o with
   |none=>simp_all
   | some d =>
     simp only[hd]at u
     let C:Bool->V->Nat->O->(Nat->Hp)->(Nat->Hp)->Tc:=λb v p ob H G=>⟨IV s.on a.i b,IV s.val a.i v,IV s.tt a.i t,IV s.ep a.i k,IV s.pl a.i p,IV s.ob a.i ob,H,G⟩
     have h1:∀b v p ob H G,∀i,m.testBit i=true->(C b v p ob H G).on i=s.on i/\(C b v p ob H G).val i=s.val i/\(C b v p ob H G).tt i=s.tt i/\(C b v p ob H G).ep i=s.ep i/\
        (C b v p ob H G).pl i=s.pl i/\(C b v p ob H G).ob i=s.ob i:=by grind[KY]
     have F:∀b v p ob H G,∀K,gI (d.f t v) K=nN (C b v p ob H G).val (m |||2 ^ a.i).testBit K jv (gI t0 K):=by grind[Ef,B4,QP,gI,IV,lQ]
     have self:∀{b v p ob H G l' k' h' W T},qq n all jv ws call t0 h0 l' (m |||2 ^ a.i) k' h' W r (C b v p ob H G) T->
        T.on a.i=b/\T.val a.i=v/\T.tt a.i=t/\T.ep a.i=k/\T.pl a.i=p/\T.ob a.i=ob/\(∀K,gI (T.tt a.i) K=nN T.val m.testBit K jv (gI t0 K)):=λ{b v p ob H G l' k' h' W T} g=>by
       obtain⟨a1,a2,a3,a4,a5,a6⟩:=g.same a.i (by simp_all);refine⟨a1.trans (lQ _ _ _),a2.trans (lQ _ _ _),a3.trans (lQ _ _ _),a4.trans (lQ _ _ _),a5.trans (lQ _ _ _),a6.trans (lQ _ _ _),λK=>?_⟩;rw[a3.trans (lQ _ _ _),ht K];refine(nD (by simp_all) (λx hx _ ab=>?_) _).symm;rw[(g.same x.i (by simp_all)).2.1,(h1 b v p ob H G x.i ab).2.1]
     rcases Fa a.o with hc|hc|hc
     ·
       have I:Nat.beq (cls a.o) 2=false:=by rw[hc];rfl
       rw[I]at c;simp only[qU]at c;obtain⟨J,c⟩:=c;rw[hc]at u;simp only[CH,eE]at u;obtain⟨b,hw,u⟩:=u
       cases b with
       | false=>
         obtain⟨T,g⟩:=trace D U l _ k _ h rs r (C false .undef 0 default s.H s.G) z c u A (F _ _ _ _ _ _) hn0 hG hkl;obtain⟨s1,S,Z,M,N,X,L⟩:=self g
         refine ⟨T,g.cons (by simp_all) (by grind) (jn _) ⟨m.testBit,E,hcl,w,L,⟨d,hd⟩,by simp_all,λ_=>S,by simp_all,by omega,
           by simp_all,by omega,by omega⟩ g.zK g.more (by omega) (by omega) (jn _) hkl⟩
       | true=>
         simp only[eE]at u;obtain⟨v,ac,u⟩:=u;obtain⟨T,g⟩:=trace D U l _ k _ h _ r (C true v 0 default s.H s.G) z c u A (F _ _ _ _ _ _) hn0 hG hkl;obtain⟨s1,S,Z,M,N,X,L⟩:=self g
         refine ⟨T,g.cons (by simp_all) (by grind) (jn _) ⟨m.testBit,E,hcl,w,L,⟨d,hd⟩,by simp_all,by simp_all,by simp_all,by omega,
           λ_ _ j P Q j3=>?_,by omega,by omega⟩ (λq hq=>g.zK q (by simp[hq])) g.more (by omega) (by omega) (jn _) hkl⟩
         rw[M]at P;rcases g.zK _ (M9 ..) j P Q with ae|hh
         ·grind
         grind[vS,V.eq_of_beq]
     ·
       have I:Nat.beq (cls a.o) 2=false:=by rw[hc];rfl
       rw[I]at c;simp only[qU]at c;obtain⟨J,c⟩:=c;rw[hc]at u;simp only[A7,eE]at u;obtain⟨b,hw,u⟩:=u
       cases b with
       | false=>
         obtain⟨T,g⟩:=trace D U l _ k _ h rs r (C false .undef 0 default s.H s.G) z c u A (F _ _ _ _ _ _) hn0 hG hkl;obtain⟨s1,S,Z,M,N,X,L⟩:=self g
         refine ⟨T,g.cons (by simp_all) (by grind) (jn _) ⟨m.testBit,E,hcl,w,L,⟨d,hd⟩,by simp_all,λ_=>S,by simp_all,by omega,
           by omega,by simp_all,by omega⟩ g.zK g.more (by omega) (by simp_all) (jn _) hkl⟩
       | true=>
         simp only[eE]at u;obtain⟨⟨ob,mk⟩,ac,u⟩:=u;obtain⟨T,g⟩:=trace D U l _ k _ _ _ r (C true (mk h.next) h.next ob s.H s.G) z c u A (F _ _ _ _ _ _) (SC hn0) (λj R=>SC (hG j R)) hkl;obtain⟨s1,S,Z,M,N,X,L⟩:=self g
         refine ⟨T,g.cons (by simp_all) (by grind) (jn _) ⟨m.testBit,E,hcl,w,L,⟨d,hd⟩,by simp_all,by simp_all,by simp_all,by omega,
           by omega,λ_ _=>⟨by simp_all,λj P Q=>?_,λj R=>?_,by omega⟩,by omega⟩
           (λq hq=>g.zK q (by simp[hq])) ((zl.new h ob).trans g.more) (by omega) (λ_ _=>by rw[N];exact⟨jn _,K8 _⟩) (La _) hkl⟩
         ·rw[M]at P
          rw[N,X];refine⟨?_,λj3=>?_⟩
          ·have e1:(h.new ob).next<=(T.H k).next:=g.more.1
           have e2:=AK g.chain (j-k) j (by omega) Q;have:h.next<(h.new ob).next:=K8 _;omega
          ·rcases g.zK _ (M9 ..) j P Q with ae|hh
           ·grind
           grind[vS,O.eq_of_beq]
         ·rw[M]at R
          rw[N,(g.N5 j R).2]
          grind
     ·
       have I:Nat.beq (cls a.o) 2=true:=by rw[hc];rfl
       rw[I]at c;simp only[qU]at c;obtain⟨J,c⟩:=c;have ag:k<ws.length:=by
        unfold Uf at J;split at J
        ·grind
        ·cases J
       rw[hc]at u;simp only[yr,fX,eE]at u;obtain⟨aa,b,hw,u⟩:=u;have aj:∀q∈rs,q.last<k\/vS h q=true:=by simp_all[yb,K7,IY,Lb]
       have ak:∀(b:Bool) (v:V) (h':Hp),mX n all a.o t=some b->(tq n all ws l (Nat.succ k)).f call (d.f t v) h' rs=some r->h.next<=h'.next->(b=false->v = .undef/\h' = h)->
         (b=true->(za a.o).f call t h=some (v,h'))->∃T,qq n all jv ws call t0 h0 (a::l) m k h rs r s T:=by
         intro b v h' hw u hn al ao
         obtain ⟨T,g⟩:=trace D U l _ (k+1) _ h' rs r (C b v 0 default (IV s.H k h) (IV s.G k h')) z c u A (F _ _ _ _ _ _) (by omega)
           (fun j R=>by
             by_cases e:j=k
             ·subst e;show(IV s.G j h' j).next<=_;simp_all[lQ,jn]
             grind[IV,KY,GP]) ag
         obtain⟨s1,S,Z,M,N,X,L⟩:=self g;obtain⟨g1,g2⟩:=g.N5 k (K8 _);have Y:T.H k=h:=g1.trans (lQ _ _ _);have ah:T.G k=h':=g2.trans (lQ _ _ _)
         refine ⟨T,g.cons (h1 _ _ _ _ _ _) (by grind[KY]) (La _) ⟨m.testBit,E,hcl,w,L,⟨d,hd⟩,by grind,
           by grind,by omega,by omega,by omega,by omega,
           λ_=>⟨by grind,λho=>?_,λho=>?_⟩⟩ (λq hq j P Q=>?_) (by rw[Y];exact .refl h) (λj P Q=>?_) (by omega) hn hkl⟩
         ·grind
         ·grind
         ·by_cases e:j=k
          ·grind
          ·exact g.zK q hq j (by omega) Q
         ·have:j=k:=by omega
          subst this;rw[Y,ah];exact⟨hn,g.more⟩
       cases b with
       |false=>grind
       | true=>
         grind[eE,fX,FY]
end
