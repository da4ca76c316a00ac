/- Parts. -/
import Derived.Test.YtcoaokdoecgcbaaGreatDoorM03
set_option maxHeartbeats 4000000
namespace Go.Proofs.YtcoaokdoecgcbaaGreatDoor.Hx
def rH(call:Call):Prop:=∀(f:Nat) (args:List V) (v:V) (h h':Hp) (Δ:Env) (w:World) (gK:Array Value),call f args h=some (v,h')->WR Δ h w->gB Δ args gK.toList-> (∃x,(callFunc f gK).run P0 w = .ok (.value x) w/\vV Δ h w v h' Δ x w)\/ ((callFunc f gK).run P0 w = .ok (.enter f gK) w/\Calls P0 f gK w λe w'=>∃a x,e = .returned x/\vV Δ h w v h' a x w')
section
variable{Δ:Env}{h:Hp}{w:World}{n:Nat}{t:Tm}{a:Act}
theorem Qb{call:Call} (hc:rH call) (i:WR Δ h w) (m:TR Δ n t a) {o:Oper} {v:V} {h':Hp} (hv:(B7 o).f call t h=some (v,h')) {K:Act->World->Prop} {Q:Exit->Act->World->Prop}
  (p:∀k x w',vV Δ h w v h' k x w'->K (a.put o.dst x) w'):o.wp P0 a w K Q:=by
 unfold B7 at hv;split at hv
 ·simp only[fk]at hv;obtain⟨u,j,c⟩:=hv;cases c;obtain⟨x,b,d⟩:=zb1 i m j;unfold Oper.wp;rw[b,Oper.upon_value];exact p Δ x w ⟨d,i,.refl _ _,.refl _ _⟩
 ·simp only[fk]at hv;obtain⟨⟨ob,mk⟩,j,c⟩:=hv;cases c;obtain⟨D,E,b,d⟩:=Td m j;obtain⟨k,y,z,A,B⟩:=i.alloc d;unfold Oper.wp;rw[b w,Oper.upon_value];exact p k _ _ ⟨z,y,A,B⟩
 ·simp only[fk]at hv;obtain⟨r,j,c⟩:=hv;rcases ZU i m j with⟨u,C,k,x,w',rfl,b,d⟩|⟨g,l,gK,rfl,b,d⟩
  ·cases c;unfold Oper.wp;rcases b with b|⟨rfl,b⟩
   ·grind[Oper.upon_value]
   grind[Oper.upon_skip]
  ·unfold Oper.wp;rw[d];rcases hc g l v h h' Δ w gK c i b with⟨x,q,s⟩|⟨q,s⟩
   ·grind[Oper.upon_value]
   ·rw[q,Oper.upon_enter];refine Calls.mono s λe w' F=>?_
    grind
theorem X4(a:Act) (d:Nat) (x:Value) (i:Nat) (hd:d<a.tmps.size):(a.put (some d) x).tmps.getD i undef=if d=i then x else a.tmps.getD i undef:=by
 simp only[Act.put,wBN,Array.getElem?_setIfInBounds]
 grind
theorem put_defers(a:Act)(d:Option Tmp)(x:Value):(a.put d x).defers=a.defers:=by cases d <;> rfl
theorem KX(b:TR Δ n t a) {o:Oper} {d:DF} (hd:tP n o=some d) {v:V} {x:Value} (hv:fF Δ v x):TR Δ n (d.f t v) (a.put o.dst x):=by
 unfold tP at hd
 cases ho:o.dst with
 |none=>simp only[ho]at hd;cases hd;exact b
 | some k=>
   simp only[ho]at hd
   cases hk:Nat.blt k n with
   |false=>simp_all
   | true=>
     simp only[hk]at hd;cases hd;have c:k<a.tmps.size:=by rw[b.size,<-RP];exact hk
     refine⟨by simp[Act.put,b.size],λi=>?_,by rw[put_defers];show JZ Δ (t.set k v).ds _;rw[Tm.DJ];exact b.ds⟩;rw[X4 _ _ _ _ c];show fF Δ (hN (t.set k v) i) _;rw[im];by_cases h:k=i
     ·simp_all
     ·rw[if_neg h,if_neg h];exact b.rel i
theorem LG{n:Nat} {ops:List Oper} {o:Oper} (a:jY n ops o=none) (y:Nat->Option Bool):Region.wanted o y=true:=by
 grind[jY,Region.wanted]
theorem PY(m:TR Δ n t a) {ops:Array Oper} {o:Oper} {g:GF} (e:jY n ops.toList o=some g) {b:Bool} (h:g.f t=some b):Region.wanted o (yielded ops a.tmps)=b:=by
 unfold jY at e;unfold Region.wanted
 cases hg:o.guard with
 |none=>simp_all
 | some q =>
   obtain⟨j,r⟩:=q;simp only[hg]at e⊢;unfold yielded
   cases hj:ops.toList[j]? with
   | none=>
     grind
   | some p=>
     have l:ops[j]? =some p:=by rw[<-wA1];exact hj
     simp only[hj]at e;simp only[l,Option.bind_some]
     cases hd:p.dst with
     | none=>
       grind
     | some d=>
       simp only[hd]at e;simp only[Option.bind_some]
       cases EO:Nat.blt d n with
       |false=>grind
       | true=>
         simp only[EO]at e;cases e;have i:d<a.tmps.size:=by rw[m.size,<-RP];exact EO
         have k:=m.rel d;have s:a.tmps[d]? =some (a.tmps.getD d undef):=by simp[i]
         rw[s];generalize a.tmps.getD d undef=x at k;simp only at h;split at h
         ·rename_i u c
          cases h;rw[c]at k;cases k;cases r <;> cases u <;> rfl
         ·rename_i c
          cases h;rw[c]at k;cases k <;> grind
         ·cases h
structure xJ (Δ:Env) (h:Hp) (w:World) (n:Nat) (t':Tm) (h':Hp) (a:Env) (b:Act) (w':World):Prop where
 tmps:TR a n t' b
 world:WR a h' w'
 frame:FR Δ a w w'
 grow:Gr h Δ h' a
theorem xJ.start(b:TR Δ n t a)(c:WR Δ h w):xJ Δ h w n t h Δ a w:=⟨b,c,.refl _ _,.refl _ _⟩
theorem xJ.trans{a b:Env} {c d:Hp} {w1 w2:World} {g e:Tm} {i f:Act} (x:xJ Δ h w n g c a i w1) (y:xJ a c w1 n e d b f w2):xJ Δ h w n e d b f w2:=
 ⟨y.tmps,y.world,x.frame.trans y.frame,x.grow.trans y.grow⟩
theorem xJ.put(g:TR Δ n t a) {o:Oper} {d:DF} (b:tP n o=some d) {v:V} {h':Hp} {e:Env} {x:Value} {w':World} (c:vV Δ h w v h' e x w') :
  xJ Δ h w n (d.f t v) h' e (a.put o.dst x) w':=
 ⟨KX (g.mono c.frame.le) b c.val,c.world,c.frame,c.grow⟩
theorem ZE(p:WR Δ h w) (b:TR Δ n t a) {o:Oper} {q:QF} (hq:yv o=some q) {t':Tm} (hv:q.f t h=some t') :
  ∃d,(∀w,(execOp a.eval o).run P0 w = .ok (.defer d) w)/\TR Δ n t' {a with defers:=d::a.defers}:=by
 unfold yv at hq;split at hq
 ·rename_i c r;split at hq
  ·rename_i f s;cases hq;simp only[fk]at hv;obtain⟨A,u,args,v,j⟩:=hv;have e:=kJ p b u;obtain⟨xs,x⟩:∃xs,xs=c.args.map a.eval:=⟨_,rfl⟩
   have k:=A6 b v;generalize y:a.eval f=xv at e;unfold Yx at j;split at j
   ·rename_i g first l
    cases j
    cases e with
    | func _ _ _ m c' z hc=>
      refine⟨{target:= .fn (.func g) c',args:=m++c.args.map a.eval},λw=>?_,⟨b.size,λi=>?_,?_⟩⟩
      ·have B:(resolve a.eval c o.type).run P0 w = .ok {target:= .fn (.func g) c',args:=m++c.args.map a.eval} w:=by
         unfold resolve;rw[s];simp only[y];rfl
       simp_all[execOp,sG,sP]
      ·rw[Xy];exact b.rel i
      ·rw[Tm.zbf]
       refine .cons _ _ _ _ _ _ ?_ b.ds;simp only[Array.toList_append,KB,Array.toList_map];exact z.append (k.append hc)
   ·cases j
  ·cases hq
 ·cases hq
theorem zbe{call:Call} (hc:rH call) {ops:Array Oper} {i:Nat} {o:Oper} (hi:ops[i]? =some o) {c:SF} {K:Act->World->Prop} {Q:Exit->Act->World->Prop}
  (l:WR Δ h w) (e:TR Δ n t a) {r:Tm×Hp} (hv:(Gj n ops.toList o c).f call t h=some r)
  (m:∀t' h' s u w',c.f call t' h' = some r->xJ Δ h w n t' h' s u w'->K u w'):wpOp P0 ops Q i K a w:=by
 unfold Gj at hv;unfold wpOp;simp only[hi]
 cases hdst:tP n o with
 |none=>simp only[hdst]at hv;cases hv
 | some d=>
   simp only[hdst]at hv;have z:∀x,oB ((B7 o).f call t h) (λr=>c.f call (d.f t r.1) r.2)=some x->x=r->o.wp P0 a w K Q:=by
     intro x y p;subst p;rw[fk]at y;obtain⟨⟨v,h'⟩,j,k⟩:=y;exact Qb hc l e j λs x w' A=>m _ _ _ _ _ k (xJ.put e hdst A)
   cases hg:jY n ops.toList o with
   | none=>
     simp only[hg]at hv;rw[if_pos (LG hg _)]
     cases hq:yv o with
     |none=>grind
     | some q=>
       simp only[hq,fk]at hv;obtain⟨D,j,k⟩:=hv;obtain⟨E,B,C⟩:=ZE l e hq j;refine .inl ?_;unfold Oper.wp;rw[B w,Oper.upon_defer]
       exact m _ _ _ _ _ k (xJ.put C hdst ⟨.undef Δ,l,.refl _ _,.refl _ _⟩)
   | some g=>
     simp only[hg,fk]at hv;obtain⟨b,j,k⟩:=hv;rw[PY e hg j]
     cases b with
     |true=>simp_all
     |false=>exact m _ _ _ _ _ k (xJ.put e hdst ⟨.undef Δ,l,.refl _ _,.refl _ _⟩)
theorem B9{call:Call} (hc:rH call) {ops:Array Oper} {Q:Exit->Act->World->Prop}:∀(l:List Oper) (k:Nat),l=ops.toList.drop k->∀{Δ:Env} {h:Hp} {w:World} {t:Tm} {a:Act},
  WR Δ h w->TR Δ n t a->∀{r:Tm×Hp},(lL n ops.toList l).f call t h=some r->(∀e b w',xJ Δ h w n r.1 r.2 e b w'->Q .normal b w')->
  wpOps P0 ops Q (List.range' k l.length) a w
 | [],k,hl,Δ,h,w,t,a,hW,hT,r,hv,hQ=>by
   cases hv
   exact hQ _ _ _ (.start hT hW)
 | o ::l,k,hl,Δ,h,w,t,a,hW,hT,r,hv,hQ=>by
   have g:ops[k]? =some o:=by
     have:(ops.toList.drop k)[0]? =some o:=by rw[<-hl];rfl
     rw[wBZ,wBx]at this;simpa using this
   have c:l=ops.toList.drop (k+1):=by
     rw[<-wBe,<-hl];rfl
   rw[Jo,List.range'_succ,wpOps_cons];refine zbe hc g hW hT hv λt' h' e b w' i d=>?_;exact B9 hc l (k+1) c d.world d.tmps i λj m p q=>hQ _ _ _ (d.trans q)
end
def Bv(c:Code) (Q:Exit->Act->World->Prop) (a:Act) (w:World):Prop:=∀(b:Frame) (k:List Item) (cs:List Frame),∃e d w',Q e d w'/\Arrives P0 (lone (b.at a (.code c:: .inLoop c::k)) cs w) b k cs e d w'
theorem Bv.round{c:Code} {Q:Exit->Act->World->Prop} {a:Act} {w:World} (h:c.wp P0 (Exit.then (Bv c Q) Q) a w):Bv c Q a w:=by
 intro b k cs;obtain⟨e,g,i,hq,d⟩:=h b (.inLoop c::k) cs
 cases e with
 | normal=>
   obtain⟨m,n,o,j,f⟩:=hq b k cs
   exact⟨m,n,o,j,.of_steps (Steps.trans d (.one step_inLoop)) f⟩
 |exit id=>exact⟨_,g,i,hq,.pass (x:= .inLoop c) rfl (by simp_all) d⟩
 |goto l=>exact⟨_,g,i,hq,.pass (x:= .inLoop c) rfl (by simp_all) d⟩
 |ret=>exact⟨_,g,i,hq,.pass (x:= .inLoop c) rfl (by simp_all) d⟩
 |panic ch=>exact⟨_,g,i,hq,.pass (x:= .inLoop c) rfl (by simp_all) d⟩
 |outgrown=>exact⟨_,g,i,hq,.pass (x:= .inLoop c) rfl (by simp_all) d⟩
theorem Bv.wp{c:Code} {Q:Exit->Act->World->Prop} {a:Act} {w:World} (h:Bv c Q a w):(Code.loop c).wp P0 Q a w:=
 λb k cs=>let⟨e,a',w',q,r⟩:=h b k cs;⟨e,a',w',q,.of_steps (.one step_loop) r⟩
def X.to:X->Exit
 | .normal=> .normal
 | .exit id=> .exit id
 | .ret=> .ret
section
variable{Δ:Env}{h:Hp}{w:World}{n:Nat}{t:Tm}{a:Act}
theorem WR.same(i:WR Δ h w) {h':Hp} (k:h'.next=h.next) (j:∀l,h'.get l=h.get l):WR Δ h' w:=
 ⟨λl d hl=>by rw[k];exact i.fresh l d hl,i.AA,λl d hl=>by rw[j];exact i.obj l d hl,λl n d p o q a b c e f=>by rw[j]at e f;exact i.apart l n d p o q a b c e f,
  λg o hl m=>by rw[j]at m;exact i.HA g o hl m,by rw[k];exact i.xC,i.Va⟩
theorem run_choose(q:Question) (w:World):(choose q).run P0 w=if q.forced then .ok 0 w else .ok (q.cut (w.tape w.drawn q)) {w with drawn:=w.drawn+1}:=by
 unfold choose;simp only[Sem.run]
theorem WV(v:WR Δ h w) {r m c:Nat} {seen:List Nat} {es:List (V×V×Nat)} {R:Value} {ty:Nat} (hi:fF Δ (.ptr r 0) R) (S:h.get r=some (.iter (some m) c seen c)) (T:h.get m=some (.map es c)) :
  ∃x w',(Instr.next R false ty).run P0 w = .ok x w'/\(((∀e∈es,e.2.2∈seen)/\x = .tuple #[.bool false]/\w' = w)\/
   ∃e∈es,e.2.2 ∉ seen/\vV Δ h w (.tuple [.bool true,e.1,e.2.1]) (h.put r (.iter (some m) c (seen++[e.2.2]) c)) Δ x w'):=by
 cases hi with
 | ptr _ _ d hd=>
   obtain ⟨o',U,hr⟩:=v.obj r d hd;rw[S]at U;cases U;obtain⟨a1,J,W,m',K,o,p,rfl⟩:=hr;obtain⟨iP,X,M⟩:=Fs v p T;have q:=FC v p T;have z:∀e'∈iP.toList,e'.born<c:=λe' h'=>by
     obtain⟨i,hi⟩:=oR.1 h';have A:i<es.length:=by rw[M.length];exact(kE.1 hi).1
     obtain⟨e2,H,_,_,I⟩:=M.get (i:=i) (iz A);rw[hi]at H;cases H;rw[I];exact q.2 _ (Dg A)
   have g:(!seen.toArray.isEmpty&&!iP.isEmpty&&iP.all (λe=>decide (e.born >= c)))=false:=by
     cases hx:iP.toList with
     |nil=>have:iP.isEmpty=true:=by rw[<-Array.isEmpty_toList,hx];rfl
           rw[this];simp
     | cons e l=>
       have h0:=z e (by rw[hx];simp);have:iP.all (λe=>decide (e.born >= c))=false:=by
         rw[<-Array.all_toList,hx,wBh,V7 (by omega)];rfl
       rw[this];simp
   have a:=ND M (λn=>!seen.contains n);have s:(iP.filter λe=>!seen.toArray.contains e.born)=Array.mk (iP.toList.filter λe=>!seen.contains e.born):=by
     apply Array.ext';rw[Array.toList_filter];simp
   rw[W];generalize hL:(iP.toList.filter λe=>!seen.contains e.born)=L at a s;have B:∀e∈L,e.born<c:=λe h'=>by rw[<-hL]at h';exact z e (Zm.1 h').1
   have Y:(Array.mk L).filter (λx=>decide (x.born<c))=Array.mk L:=by
     apply Array.ext';rw[Array.toList_filter];exact List.filter_eq_self.2 λe h'=>XJ (B e h')
   have Z:(Array.mk L).filter (λx=>decide (x.born >= c)) = #[]:=by
     apply Array.ext';rw[Array.toList_filter];exact List.filter_eq_nil_iff.2 λe h'=>by simp;exact B e h'
   cases L with
   | nil =>
     refine⟨_,w,?_,.inl ⟨λe h'=>?_,rfl,rfl⟩⟩
     ·simp only[Instr.next,sG,mJ K,sP,run_getObj_map X,g,s,Y,Z]
      simp[Question.forced]
     ·cases hleft':es.filter (λe=>!seen.contains e.2.2)with
      | nil=>
        have:=List.filter_eq_nil_iff.1 hleft' e h'
        simpa using this
      |cons x y=>rw[hleft']at a;cases a
   | cons e0 L=>
     have hj:∃j w1,(choose (.mapNext (e0::L).length)).run P0 w = .ok j w1/\j<(e0::L).length/\(w1=w\/w1 = {w with drawn:=w.drawn+1}):=by
       rw[run_choose];split
       ·exact⟨0,w,rfl,by simp,.inl rfl⟩
       ·exact⟨_,_,rfl,Nat.mod_lt _ (by simp),.inr rfl⟩
     obtain⟨j,w1,hc,N,C⟩:=hj;have D:j<(es.filter λe=>!seen.contains e.2.2).length:=by rw[a.length];exact N
     obtain⟨e',H,g2,g3,I⟩:=a.get (i:=j) (iz D);generalize hee:(es.filter λe=>!seen.contains e.2.2)[j]=e at g2 g3 I;have O:e∈es.filter λe=>!seen.contains e.2.2:=by rw[<-hee];exact Dg D
     obtain⟨E,F⟩:=Zm.1 O;have aa:=v.AA _ _ hd;have k:w1.heap=w.heap:=by rcases C with rfl|rfl <;> rfl
     have f:∀b,b≠d.b->({w1 with heap:=w.heap.setIfInBounds d.b (.mapIter (some o.b) c (seen++[e.2.2]).toArray c)}:World).heap[b]? =w.heap[b]?:=by grind
     refine⟨.tuple #[.bool true,e'.key,e'.val],{w1 with heap:=w.heap.setIfInBounds d.b (.mapIter (some o.b) c (seen++[e.2.2]).toArray c)},?_,.inr ⟨e,E,by simpa using F,?_⟩⟩
     ·have t:(((if(Array.mk (e0::L)).isEmpty then #[none] else #[])++(Array.mk (e0::L)++#[]).map some:Array (Option MapEntry)))[j]? =some (some e'):=by
        simp only[Array.isEmpty_iff,Array.append_empty];rw[if_neg (by simp)];simp only[Array.empty_append,List.map_toArray,wBX,wBn,H,Option.map_some]
      have P:((if(Array.mk (e0::L)).isEmpty then #[none] else #[])++(Array.mk (e0::L)++#[]).map some:Array (Option MapEntry)).size=(e0::L).length:=by simp
      simp only[Instr.next,sG,mJ K,sP,run_getObj_map X,g,s,Y,Z];rw[if_neg (by simp),P];simp only[sG,hc,sP,t];have G:(setObj d.b (.mapIter (some o.b) c (seen.toArray.push e'.born) c)).run P0 w1 = .ok () {w1 with heap:=w.heap.setIfInBounds d.b (.mapIter (some o.b) c (seen++[e.2.2]).toArray c)}:=by
        have Q:w1.heap[d.b]? =some (.mapIter (some o.b) c seen.toArray c):=by rw[k];exact K
        have hp:seen.toArray.push e'.born=(seen++[e.2.2]).toArray:=by rw[I];simp
        rw[hp];unfold setObj;simp only[Sem.run,Q];rw[k]
      simp only[sG,G,sP,Lg]
     ·have u:w1.os=w.os/\w1.tape=w.tape/\w1.output=w.output:=by rcases C with rfl|rfl <;> exact⟨rfl,rfl,rfl⟩
      refine⟨.tuple _ #[.bool true,e'.key,e'.val] (.cons _ _ _ _ (.bool true) (.cons _ _ _ _ g2 (.one g3))),?_,FR.set hd J (by simp) f u.1 u.2.1 u.2.2,.same (jv _)⟩;refine v.set hd S rfl J (λh=>h) ⟨a1,J,W,some o.b,?_,o,p,rfl⟩ (by simp) f
      simp_all
theorem Qk{n:Nat} {c:Code} {F:mG} (h:yo n c=some F):∃g r0 b i r1 j r2 a o2 p1 p2 p3 d e f,
  c = .seq (.region g r0 false) (.seq (.cond (.tmp F.c) .skip (.exit F.x)) (.block b (.seq (.region i r1 false) (.region j r2 false))))/\
  r0.toList=[a,o2]/\r1.toList=[p1,p2,p3]/\r2.toList=[d,e,f]/\F.ok n=true/\F.r0 a o2=true/\F.r1 p1 p2 p3=true/\F.r2 d e f=true:=by
 unfold yo at h;split at h
 ·split at h
  ·rename_i e0 e1 e2;split at h
   ·split at h
    ·rename_i hc;cases h;simp only[sJ]at hc;obtain⟨⟨⟨⟨⟨k,l⟩,m⟩,o⟩,p⟩,q⟩:=hc;rw[<-yi p,<-yi q];exact⟨_,_,_,_,_,_,_,_,_,_,_,_,_,_,_,rfl,e0,e1,e2,k,l,m,o⟩
    ·cases h
   ·cases h
  ·cases h
 ·cases h
theorem zb7{F:mG} {b o2:Oper} (h:F.r0 b o2=true):b.op = .next (.tmp F.it) false/\b.dst=some F.a/\b.guard=none/\o2.op = .extract (.tmp F.a) 0/\o2.dst=some F.c/\o2.guard=none:=by
 unfold mG.r0 at h;split at h
 ·simp only[sJ,Nat.beq_eq]at h
  simp_all
 ·cases h
theorem zfJ{F:mG} {a o2 b:Oper} (h:F.r1 a o2 b=true):a.op = .entry (.tmp F.it)/\a.dst=some F.e0/\a.guard=none/\o2.op = .extract (.tmp F.e0) 0/\o2.dst=some F.e1/\o2.guard=none/\
  b.op = .assign (.tmp F.e1)/\b.dst=some F.e2/\b.guard=none:=by
 unfold mG.r1 at h;split at h
 ·simp only[sJ,Nat.beq_eq]at h
  simp_all
 ·cases h
theorem zfL{F:mG} {a o2 b:Oper} (h:F.r2 a o2 b=true):a.op = .move (.tmp F.u)/\a.dst=some F.m0/\a.guard=none/\o2.op = .move (.tmp F.e2)/\o2.dst=some F.m1/\o2.guard=none/\
  b.op = .mapUpdate F.ty (.tmp F.m0) (.tmp F.m1) (.const (.bool true))/\b.dst=none/\b.guard=none:=by
 unfold mG.r2 at h;split at h
 ·simp only[sJ,Nat.beq_eq]at h
  simp_all
 ·cases h
theorem wF{call:Call} {all os:List Oper} {o:Oper} {d:DF} (a:o.guard=none) (hd:tP n o=some d) (hq:yv o=none) {v:V} {h':Hp} (b:(B7 o).f call t h=some (v,h')) :
  (lL n all (o::os)).f call t h=(lL n all os).f call (d.f t v) h':=by
 show(Gj n all o (lL n all os)).f call t h=_;have c:jY n all o=none:=by unfold jY;rw[a]
 unfold Gj;simp only[hd,c,hq,b];rfl
theorem Aj{o:Oper} {d:Nat} (a:o.dst=some d) (hd:Nat.blt d n=true):tP n o=some ⟨λt v=>t.set d v⟩:=by
 unfold tP;simp only[a,hd]
theorem Yz{o:Oper} (a:o.dst=none):tP n o=some ⟨λt _=>t⟩:=by
 unfold tP;simp only[a]
theorem Pf{call:Call} {o:Oper} (hc:cls o=2) {v:V} {h':Hp} (a:(jh o).f t h=some (.val v h')):(B7 o).f call t h=some (v,h'):=by
 unfold B7;simp only[hc,a,oB]
theorem zbL{kt:Nat} (hi:CZ kt=true) {k:IntKind} {us:List (V×V×Nat)} (d:Nat) (g:∀e∈us,e.2.1 = .bool true/\∃n,e.1 = .int k n) (n:Int) :
  ∃a h,zM kt none us d (.int k n) (.bool true)=some (.map a h)/\(∀e∈a,e.2.1 = .bool true/\(e.1 = .int k n\/∃e'∈us,e'.1=e.1))/\(∃e∈a,e.1 = .int k n)/\∀e∈us,∃e'∈a,e'.1=e.1:=by
 rcases Jr hi k n 0 g with⟨i,f⟩|⟨j,e,i,f,l⟩
 ·refine⟨us++[(.int k n,.bool true,d)],d+1,by unfold zM;rw[i];rfl,λe b=>?_,⟨_,wBY _ (EI.2 rfl),rfl⟩,λe b=>⟨e,XR _ b,rfl⟩⟩;rcases xU.1 b with b|b
  ·exact⟨(g e b).1,.inr ⟨e,b,rfl⟩⟩
  ·simp at b;subst b;exact⟨rfl,.inl rfl⟩
 ·have m:=(kE.1 f).1;refine⟨us.set j (.int k n,.bool true,e.2.2),d,?_,λx c=>?_,⟨_,oR.2 ⟨j,OY m⟩,rfl⟩,λx c=>?_⟩
  ·unfold zM;rw[i];simp only[oB,HP,f,l,V.BW];rfl
  ·rcases wBF c with c|rfl
   ·exact⟨(g x c).1,.inr ⟨x,c,rfl⟩⟩
   ·exact⟨rfl,.inl rfl⟩
  ·obtain⟨q,hq⟩:=oR.1 c;by_cases hqj:j=q
   ·subst hqj;rw[f]at hq;cases hq;exact⟨_,oR.2 ⟨j,OY m⟩,l.symm⟩
   ·exact⟨x,oR.2 ⟨q,by rw[QI hqj];exact hq⟩,rfl⟩
theorem find_born{es:List (V×V×Nat)} {e:V×V×Nat} (b:(es.map λe=>e.2.2).Nodup) (a:e∈es):(es.find? λx=>Nat.beq x.2.2 e.2.2)=some e:=by
 induction es with
 |nil=>cases a
 | cons x es c=>
   simp only[XY,TJ]at b;rcases wM.1 a with rfl|a
   ·simp
   ·have oS:x.2.2≠e.2.2:=λd=>b.1 (d▸Q1.2 ⟨e,a,rfl⟩)
    rw[List.find?_cons_of_neg (by simpa using oS)];exact c b.2 a
theorem SS{k:IntKind}:∀{es:List (V×V×Nat)} {ks:List Int},Mc k es=some ks->(∀e∈es,e.2.1 = .bool true/\∃n∈ks,e.1 = .int k n)/\∀n∈ks,∃e∈es,e.1 = .int k n
 |[],ks,hk=>by cases hk;simp
 | e ::es,ks,hk=>by
   simp only[Mc,fk]at hk;obtain⟨n,d,ns,i,j⟩:=hk;cases j;have f:e.2.1 = .bool true/\e.1 = .int k n:=by
     unfold zee at d;split at d
     ·rw[gG]at d
      obtain⟨l,o⟩:=d;cases o;rw[zD l];exact⟨rfl,rfl⟩
     ·cases d
   obtain⟨p,q⟩:=SS i;refine⟨λx g=>?_,λm h=>?_⟩
   ·rcases wM.1 g with rfl|g
    ·exact⟨f.1,n,by simp,f.2⟩
    ·obtain⟨a,m,b,c⟩:=p x g
     exact⟨a,m,by simp[b],c⟩
   ·rcases wM.1 h with rfl|h
    ·exact⟨e,by simp,f.2⟩
    ·obtain⟨x,a,b⟩:=q m h
     exact⟨x,by simp[a],b⟩
structure FI (F:mG) (r m u c:Nat) (es:List (V×V×Nat)) (h0:Hp) (t0:Tm) (seen:List Nat) (h:Hp) (t:Tm):Prop where
 next:h.next=h0.next
 fh:∀l,l≠r->l≠u->h.get l=h0.get l
 iter:h.get r=some (.iter (some m) c seen c)
 put:∃us b,h.get u=some (.map us b)/\(∀e∈us,e.2.1 = .bool true/\∃e'∈es,e'.1=e.1)/\∀e∈es,e.2.2∈seen->∃e'∈us,e'.1=e.1
 ds:t.ds=t0.ds
 vJ:∀i,i ∉ F.all.drop 2->hN t i=hN t0 i
 none:es=[]->∀i,i≠F.a->i≠F.c->hN t i=hN t0 i
 some:seen≠[]->(∃n,hN t F.e0 = .tuple [.int F.k n,.bool true])/\(∃n,hN t F.e1 = .int F.k n)/\(∃n,hN t F.e2 = .int F.k n)/\hN t F.m0 = .map u/\∃n,hN t F.m1 = .int F.k n
theorem PC:∀{l:List Nat},Qy l=true->l.Pairwise (·≠·)
 |[],_=> .nil
 | a::l,h=>by
   simp only[Qy,sJ,PX]at h;exact .cons (λb c e=>by have:=h.1 b c;subst e;simp at this) (PC h.2)
theorem WL{call:Call} (hc:rH call) {F:mG} {au:Code} (hF:yo n au=some F) {r m u c:Nat} {es:List (V×V×Nat)} {h0:Hp} {t0:Tm} {w0:World} {Δ0:Env} {ks:List Int} (aU:Mc F.k es=some ks)
  (aa:r≠u) (aV:u≠m) (aw:r≠m) (aW:h0.get m=some (.map es c)) (ab:hN t0 F.it = .ptr r 0) (ax:hN t0 F.u = .map u) {Q:Exit->Act->World->Prop}
  (hQ:∀Δ' a' w',xJ Δ0 h0 w0 n (F.t u es.isEmpty t0) ((h0.put r .gone).put u (.OG F.k ks)) Δ' a' w'->Q (.exit F.x) a' w') :
  ∀(k:Nat) (seen:List Nat) {Δ:Env} {h:Hp} {w:World} {t:Tm} {a:Act},(es.filter λe=>!seen.contains e.2.2).length<=k->xJ Δ0 h0 w0 n t h Δ a w->FI F r m u c es h0 t0 seen h t->Bv au Q a w:=by
 obtain ⟨i0,r0,b,i1,r1,i2,r2,⟨_,_,T,ac,ae,_⟩,⟨_,_,ag,ah,ai,_⟩,⟨_,_,ay,az,aA,_⟩,⟨_,_,aX,aY,aZ,_⟩,⟨_,_,a0,a1,a5,_⟩,⟨_,_,a6,a7,a8,_⟩,⟨_,_,a9,ba,bb,_⟩,⟨_,_,aB,aC,aD,_⟩,rfl,e0,e1,e2,aE,g0,g1,g2⟩:=Qk hF;obtain⟨rfl,rfl,rfl,rfl,rfl,rfl⟩:=zb7 g0;obtain⟨rfl,rfl,rfl,rfl,rfl,rfl,rfl,rfl,rfl⟩:=zfJ g1;obtain⟨rfl,rfl,rfl,rfl,rfl,rfl,rfl,rfl,rfl⟩:=zfL g2;clear g0 g1 g2 hF;simp only[mG.ok,sJ,PX]at aE;obtain⟨⟨⟨bc,bd⟩,aj⟩,aF⟩:=aE;have oS:=PC bd;simp only[mG.all,List.pairwise_cons,wM,wBt,or_false,forall_eq_or_imp,forall_eq,false_imp_iff,implies_true,List.Pairwise.nil,and_true]at oS;have hl:∀d,d=F.a\/d=F.c\/d=F.e0\/d=F.e1\/d=F.e2\/d=F.m0\/d=F.m1->Nat.blt d n=true:=λd hd=>bc d (by simp only[mG.all,wM];grind);obtain⟨kt,et,hu,rfl⟩:∃kt et,P0.underlying F.ty=some (.map kt et)/\kt=F.kt:=by
  split at aj
  ·rename_i kt et hu;exact⟨kt,et,hu,yi aj⟩
  ·cases aj
 have hi:CZ F.kt=true/\Ht F.kt=some none:=by
  split at aF
  ·rename_i k hk;unfold CZ Ht;rw[hk];exact⟨rfl,rfl⟩
  ·cases aF
 obtain ⟨hi,be⟩:=hi;have bf:List.range r0.size=[0,1]:=by
  have:r0.size=2:=by rw[<-XU,e0];rfl
  rw[this];rfl
 have bg:r0[0]? =some ⟨some F.a,.next (.tmp F.it) false,T,ac,ae,none⟩:=by rw[<-wA1,e0];rfl
 have y:=SS aU;intro k
 induction k using Nat.strongRecOn with
 |_ k ih=>
 intro seen Δ h w t a hk hG q;have ak:F.it ∉ F.all.drop 2:=by simp only[mG.all,List.drop,wM,wBt];grind
 have uT:F.u ∉ F.all.drop 2:=by simp only[mG.all,List.drop,wM,wBt];grind
 have al:h.get m=some (.map es c):=by rw[q.fh m aw.symm aV.symm];exact aW
 have am:fF Δ (.ptr r 0) (a.eval (.tmp F.it)):=by
  have:=hG.tmps.rel F.it;rw[q.vJ F.it ak,ab]at this;exact this
 refine .round (wp_seq (wp_region ?_));rw[bf,wpOps_cons];unfold wpOp;simp only[bg];rw[if_pos (LG (n:=n) (ops:=r0.toList) rfl _)];refine .inl ?_;unfold Oper.wp;obtain⟨x,w1,B,an⟩:=WV hG.world (ty:=T) am q.iter al;rw[show(execOp a.eval ⟨some F.a,.next (.tmp F.it) false,T,ac,ae,none⟩).run P0 w = .ok (.value x) w1 from mj B,Oper.upon_value];have d1:=Aj (n:=n) (o:=⟨some F.a,.next (.tmp F.it) false,T,ac,ae,none⟩) rfl (hl _ (by simp));have ext:∀{h:Hp} (v:V) (vs:List V),(B7 ⟨some F.c,.extract (.tmp F.a) 0,ag,ah,ai,none⟩).f call (t.set F.a (.tuple (v::vs))) h=some (v,h):=λv vs=>by
  show oB (oB (some (hN (t.set F.a (.tuple (v::vs))) F.a)) λx=>match x with| .tuple vs=>Jm vs 0|_=>none) _=_;rw[im,if_pos rfl];rfl
 have aG:∀{h:Hp} (v:V) (vs:List V),(lL n r0.toList [⟨some F.c,.extract (.tmp F.a) 0,ag,ah,ai,none⟩]).f call (t.set F.a (.tuple (v::vs))) h=some ((t.set F.a (.tuple (v::vs))).set F.c v,h):=λv vs=>by
  rw[wF rfl (Aj rfl (hl F.c (by simp))) rfl (ext v vs)];rfl
 have I:∀{v:V} {vs:List V} {p:Hp} {Δ1:Env} {Q2:Exit->Act->World->Prop},vV Δ h w (.tuple (v::vs)) p Δ1 x w1->(∀R C w2,xJ Δ0 h0 w0 n ((t.set F.a (.tuple (v::vs))).set F.c v) p R C w2->Q2 .normal C w2)->
   wpOps P0 r0 Q2 [1] (a.put (some F.a) x) w1:=λhA hK=>by
  have hP:=xJ.put hG.tmps d1 hA;exact B9 hc (ops:=r0) [⟨some F.c,.extract (.tmp F.a) 0,ag,ah,ai,none⟩] 1 (by rw[e0];rfl) hP.world hP.tmps (aG _ _) (λR C w2 z=>hK R C w2 ((hG.trans hP).trans z))
 rcases an with⟨aH,rfl,rfl⟩|⟨e,he,U,hA⟩
 ·
  refine I (v:= .bool false) (vs:=[]) ⟨.tuple _ #[.bool false] (.one (.bool false)),hG.world,.refl _ _,.refl _ _⟩ λR C w2 z=>?_;have ao:C.eval (.tmp F.c) = .bool false:=by
   have:=z.tmps.rel F.c;rw[im,if_pos rfl]at this;cases B:C.eval (.tmp F.c) <;> rw[show C.tmps.getD F.c undef=_ from B]at this <;> cases this;rfl
  refine wp_seq (wp_cond_false ao (wp_exit ?_));have L:∀e∈es,e.2.2∈seen:=aH;have M:=z.tmps.rel;have bi:∃d,R r=some d:=by
   have:=M F.it;rw[im,if_neg (by grind),im,if_neg (by grind),q.vJ F.it ak,ab]at this;generalize C.tmps.getD F.it undef=x at this;cases this with|ptr _ _ d hd=>exact⟨d,hd⟩
  have bj:∃d,R u=some d:=by
   have:=M F.u;rw[im,if_neg (by grind),im,if_neg (by grind),q.vJ F.u uT,ax]at this;generalize C.tmps.getD F.u undef=x at this;cases this with|map _ d hd=>exact⟨d,hd⟩
  obtain⟨us,cu,p1,p2,p3⟩:=q.put;refine hQ R C w2 ⟨⟨z.tmps.size,λi=>?_,?_⟩,?_,z.frame,⟨jv _,z.grow.none⟩⟩
  ·have g:=M i;generalize C.tmps.getD i undef=x at g;simp only[im]at g;unfold mG.t
   cases U:es.isEmpty with
   | true=>
     simp only[im];by_cases hc1:F.c=i
     ·rw[if_pos hc1]at g⊢;exact g
     ·rw[if_neg hc1]at g⊢
      by_cases hc2:F.a=i
      ·rw[if_pos hc2]at g⊢;exact g
      ·rw[if_neg hc2]at g⊢
       rw[q.none (List.isEmpty_iff.1 U) i (Ne.symm hc2) (Ne.symm hc1)]at g
       exact g
   | false=>
     have bm:seen≠[]:=by
       cases es with
       |nil=>cases U
       |cons e es=>intro A;have:=L e (by simp);rw[A]at this;cases this
     obtain⟨⟨k0,s0⟩,⟨k1,s1⟩,⟨k2,s2⟩,s3,⟨k4,s4⟩⟩:=q.some bm;simp only[im];by_cases hc1:F.c=i
     ·rw[if_pos hc1]at g⊢;exact g
     rw[if_neg hc1]at g⊢;by_cases hc2:F.a=i
     ·rw[if_pos hc2]at g⊢;exact g
     rw[if_neg hc2]at g⊢;by_cases hc3:F.m1=i
     ·subst hc3
      rw[if_pos rfl];rw[s4]at g;cases g;exact .anyI _ _
     rw[if_neg hc3];by_cases hc4:F.m0=i
     ·subst hc4
      rw[if_pos rfl];rw[s3]at g;exact g
     rw[if_neg hc4];by_cases hc5:F.e2=i
     ·subst hc5
      rw[if_pos rfl];rw[s2]at g;cases g;exact .anyI _ _
     rw[if_neg hc5];by_cases hc6:F.e1=i
     ·subst hc6
      rw[if_pos rfl];rw[s1]at g;cases g;exact .anyI _ _
     rw[if_neg hc6];by_cases hc7:F.e0=i
     ·subst hc7
      rw[if_pos rfl];rw[s0]at g
      cases g with
      | tuple _ oY A=>
        refine .tuple _ oY ?_;generalize oY.toList=l at A
        cases A with
        |cons _ _ _ _ p z=>cases p;exact .cons _ _ _ _ (.anyI _ _) z
     rw[if_neg hc7];rw[q.vJ i (by simp only[mG.all,List.drop,wM,wBt];grind)]at g;exact g
  ·have hd:=z.tmps.ds;rw[Tm.DJ,Tm.DJ,q.ds]at hd;unfold mG.t;rw[Tm.DJ,Tm.DJ]
   cases es.isEmpty with
   |true=>exact hd
   |false=>simp only[Tm.DJ];exact hd
  ·obtain ⟨dr,aI⟩:=bi;obtain⟨du,aJ⟩:=bj;have aK:WR R (h.put r .gone) w2:=by
    obtain⟨o,J,N⟩:=z.world.obj r dr aI;rw[q.iter]at J;cases J;obtain⟨b1,b2,b3,_⟩:=N;exact z.world.set aI q.iter rfl b2 (λ_=>rfl) ⟨b1,b2,b3⟩ rfl λ_ _=>rfl
   have aL:(h.put r .gone).get u=some (.map us cu):=by rw[jz _ _ (Hp.BP q.iter),if_neg aa];exact p1
   have bn:WR R ((h.put r .gone).put u (.OG F.k ks)) w2:=by
    obtain⟨o,J,N⟩:=aK.obj u du aJ;rw[aL]at J;cases J;obtain⟨b1,b2,b3,iP,b4,b5,_⟩:=N;refine aK.set aJ aL rfl b2 (λ_=>rfl) ⟨b1,b2,b3,iP,cu,b4,λe' bo=>?_,λW hn=>?_⟩ rfl λ_ _=>rfl
    ·obtain⟨j,hj⟩:=oR.1 bo;have aM:j<us.length:=by rw[b5.length];exact(kE.1 hj).1
     obtain⟨x',y1,S,y3,_⟩:=b5.get (i:=j) (iz aM);rw[hj]at y1;cases y1;obtain⟨z1,e9,z2,z3⟩:=p2 _ (Dg aM);obtain⟨_,W,z4,z5⟩:=y.1 e9 z2;rw[<-z3,z5]at S;rw[z1]at y3;refine⟨?_,W,z4,?_⟩
     ·cases B:e'.val <;> rw[B]at y3 <;> cases y3;rfl
     ·cases B:e'.key <;> rw[B]at S <;> cases S;rfl
    ·obtain⟨e9,z2,z5⟩:=y.2 W hn;obtain⟨e8,z6,z7⟩:=p3 e9 z2 (L e9 z2);obtain⟨j,hj⟩:=oR.1 z6;obtain⟨x',y1,S,y3,_⟩:=b5.get (i:=j) hj;rw[z7,z5]at S;refine⟨x',oR.2 ⟨j,y1⟩,?_⟩;cases B:x'.key <;> rw[B]at S <;> cases S;rfl
   have D:r<h0.next:=by rw[<-q.next];exact Hp.BP q.iter
   have K:u<h0.next:=by rw[<-q.next];exact Hp.BP p1
   refine bn.same (by show h0.next=h.next;exact q.next.symm) λl=>?_;rw[jz _ _ (by show u<h0.next;exact K),jz _ _ D,jz _ _ (by show u<h.next;rw[q.next];exact K),jz _ _ (by rw[q.next];exact D)];by_cases l1:u=l
   ·rw[if_pos l1,if_pos l1]
   ·rw[if_neg l1,if_neg l1];by_cases l2:r=l
    ·rw[if_pos l2,if_pos l2]
    ·rw[if_neg l2,if_neg l2,q.fh l (Ne.symm l2) (Ne.symm l1)]
 ·
  refine I (v:= .bool true) (vs:=[e.1,e.2.1]) hA λR C w2 z=>?_;have ao:C.eval (.tmp F.c) = .bool true:=by
   have:=z.tmps.rel F.c;rw[im,if_pos rfl]at this;cases B:C.eval (.tmp F.c) <;> rw[show C.tmps.getD F.c undef=_ from B]at this <;> cases this;rfl
  refine wp_seq (wp_cond_true ao (wp_skip ?_));refine wp_block (wp_seq (wp_region ?_));have D:r<h.next:=Hp.BP q.iter;obtain⟨us,cu,p1,p2,p3⟩:=q.put;have K:u<h.next:=Hp.BP p1;have E:uu es c:=by
   obtain ⟨d,hd⟩:∃d,Δ m=some d:=by
    generalize a.eval (.tmp F.it)=x at am
    cases am with
    | ptr _ _ d hd=>
      obtain⟨o',ho,hr⟩:=hG.world.obj r d hd;rw[q.iter]at ho;cases ho;obtain⟨_,_,_,m',a4,dm,bp,_⟩:=hr;exact⟨dm,bp⟩
   exact FC hG.world hd al
  generalize X:(t.set F.a (.tuple [.bool true,e.1,e.2.1])).set F.c (.bool true)=Z at z;generalize G:h.put r (.iter (some m) c (seen++[e.2.2]) c)=p at z;have gr:p.get r=some (.iter (some m) c (seen++[e.2.2]) c):=by rw[<-G,jz _ _ D,if_pos rfl]
  have gm:p.get m=some (.map es c):=by rw[<-G,jz _ _ D,if_neg aw];exact al
  have gu:p.get u=some (.map us cu):=by rw[<-G,jz _ _ D,if_neg aa];exact p1
  have Y:p.next=h.next:=by rw[<-G];rfl
  have aN:hN Z F.it = .ptr r 0:=by rw[<-X,im,if_neg (by grind),im,if_neg (by grind),q.vJ F.it ak,ab]
  have br:hN Z F.u = .map u:=by rw[<-X,im,if_neg (by grind),im,if_neg (by grind),q.vJ F.u uT,ax]
  obtain ⟨ev,W,bz,ek⟩:=y.1 e he;have aO:KT (.ptr r 0) p=some (.val (.tuple [e.1,e.2.1]) p):=by
   unfold KT;simp only[rA,XV,bB,gr,oB,yd,gm,List.getLast?_append,List.getLast?_singleton,Option.some_or,find_born E.1 he]
  have aP:(lL n r1.toList r1.toList).f call Z p=some (((Z.set F.e0 (.tuple [e.1,e.2.1])).set F.e1 e.1).set F.e2 e.1,p):=by
   have o1:(B7 ⟨some F.e0,.entry (.tmp F.it),ay,az,aA,none⟩).f call Z p=some (.tuple [e.1,e.2.1],p):=by
    have ho:(jh ⟨some F.e0,.entry (.tmp F.it),ay,az,aA,none⟩).f Z p=KT (hN Z F.it) p:=rfl;exact Pf rfl (by rw[ho,aN,aO])
   have o2:∀s,hN s F.e0 = .tuple [e.1,e.2.1]->(B7 ⟨some F.e1,.extract (.tmp F.e0) 0,aX,aY,aZ,none⟩).f call s p=some (e.1,p):=λs A=>by
    show oB (oB (some (hN s F.e0)) λx=>match x with| .tuple vs=>Jm vs 0|_=>none) _=_;rw[A];rfl
   have o3:∀s,hN s F.e1=e.1->(B7 ⟨some F.e2,.assign (.tmp F.e1),a0,a1,a5,none⟩).f call s p=some (e.1,p):=λs A=>by
    rw[<-A];rfl
   generalize H:r1.toList=O;rw[H]at e1
   rw [congrArg (lL n O) e1,wF rfl (Aj rfl (hl F.e0 (by simp))) rfl o1,wF rfl (Aj rfl (hl F.e1 (by simp))) rfl (o2 _ (by show hN (Z.set _ _) _=_;rw[im,if_pos rfl])),
    wF rfl (Aj rfl (hl F.e2 (by simp))) rfl (o3 _ (by show hN (Tm.set _ _ _) _=_;rw[im,if_pos rfl]))]
   rfl
  obtain ⟨aq,ar,y1,S,y3,y4⟩:=zbL hi (k:=F.k) cu (us:=us) (λe A=>⟨(p2 e A).1,by
   obtain⟨_,e',J,N⟩:=p2 e A;obtain⟨_,n',_,q3⟩:=y.1 e' J;exact⟨n',N▸q3⟩⟩) W
  have aQ:∀T5,hN T5 F.u = .map u->hN T5 F.e2=e.1->(lL n r2.toList r2.toList).f call T5 p=some ((T5.set F.m0 (.map u)).set F.m1 e.1,p.put u (.map aq ar)):=λT5 k1 k2=>by
   have o1:(B7 ⟨some F.m0,.move (.tmp F.u),a6,a7,a8,none⟩).f call T5 p=some (.map u,p):=by
    rw[<-k1];rfl
   have o2:∀s,hN s F.e2=e.1->(B7 ⟨some F.m1,.move (.tmp F.e2),a9,ba,bb,none⟩).f call s p=some (e.1,p):=λs A=>by
    rw[<-A];rfl
   have o3:∀s,hN s F.m0 = .map u->hN s F.m1=e.1->(B7 ⟨none,.mapUpdate F.ty (.tmp F.m0) (.tmp F.m1) (.const (.bool true)),aB,aC,aD,none⟩).f call s p=some (.undef,p.put u (.map aq ar)):=λs G bt=>by
    have hw:(jh ⟨none,.mapUpdate F.ty (.tmp F.m0) (.tmp F.m1) (.const (.bool true)),aB,aC,aD,none⟩).f s p=xh F.kt none (.map u) e.1 (.bool true) p:=by
     unfold jh;simp only[hu,be];show oB (some (hN s F.m0)) (λm=>oB (some (hN s F.m1)) λk=>oB (some (.bool true)) λv=>xh F.kt none m k v p)=_;rw[G,bt];rfl
    refine Pf rfl ?_;rw[hw,ek];unfold xh yq;simp only[IF,bB,gu,oB,y1]
   generalize H:r2.toList=O;rw[H]at e2
   rw [congrArg (lL n O) e2,wF rfl (Aj rfl (hl F.m0 (by simp))) rfl o1,wF rfl (Aj rfl (hl F.m1 (by simp))) rfl (o2 _ (by show hN (T5.set _ _) _=_;rw[im,if_neg (by grind)];exact k2)),
    wF rfl (Yz rfl) rfl (o3 _ (by show hN (Tm.set _ _ _) _=_;rw[im,if_neg (by grind)];show hN (T5.set _ _) _=_;rw[im,if_pos rfl]) (by show hN (Tm.set _ _ _) _=_;rw[im,if_pos rfl]))]
   rfl
  have aR:∀ops:Array Oper,List.range ops.size=List.range' 0 ops.toList.length:=λops=>by rw[List.range_eq_range',XU]
  rw[aR];refine B9 hc (ops:=r1) r1.toList 0 rfl z.world z.tmps aP λΔ3 a3 w3 h3=>wp_region ?_;rw[aR];refine B9 hc (ops:=r2) r2.toList 0 rfl h3.world h3.tmps (aQ _ (by simp only[im];rw[if_neg (by grind),if_neg (by grind),if_neg (by grind)];exact br) (by rw[im,if_pos rfl])) λΔ4 a4 w4 h4=>?_;refine ih (es.filter λx=>!(seen++[e.2.2]).contains x.2.2).length ?_ (seen++[e.2.2]) (jv _) (z.trans (h3.trans h4)) ?_
  ·have hf:(es.filter λx=>!(seen++[e.2.2]).contains x.2.2)=(es.filter λx=>!seen.contains x.2.2).filter λx=>!(x.2.2 == e.2.2):=by
    rw[List.filter_filter];congr 1;funext x;rw[Uv];simp
    grind
   have bu:e∈es.filter λx=>!seen.contains x.2.2:=Zm.2 ⟨he,by simpa using U⟩;rw[hf];exact Dy (List.length_filter_lt_length_iff_exists.2 ⟨e,bu,by simp⟩) hk
  ·refine ⟨Y.trans q.next,λl l1 l2=>?_,?_,⟨aq,ar,by rw[jz _ _ (by rw[Y];exact K),if_pos rfl],λx B=>?_,λx B P=>?_⟩,?_,λi aS=>?_,λA=>?_,λ_=>?_⟩
   ·rw[jz _ _ (by rw[Y];exact K),if_neg (Ne.symm l2),<-G,jz _ _ D,if_neg (Ne.symm l1)];exact q.fh l l1 l2
   ·rw[jz _ _ (by rw[Y];exact K),if_neg aa.symm];exact gr
   ·refine⟨(S x B).1,?_⟩;rcases(S x B).2 with A|⟨x',bv,A⟩
    ·exact⟨e,he,by rw[ek,A]⟩
    ·obtain⟨_,e',J,N⟩:=p2 x' bv;exact⟨e',J,by rw[N,A]⟩
   ·rcases xU.1 P with P|P
    ·obtain⟨e',J,N⟩:=p3 x B P;obtain⟨bw,q3,q4⟩:=y4 e' J;exact⟨bw,q3,q4.trans N⟩
    ·have bx:=find_born E.1 he;have aT:=find_born E.1 B;rw[EI.1 P,bx]at aT;cases aT;obtain⟨e',J,N⟩:=y3;exact⟨e',J,by rw[N,ek]⟩
   ·simp only[Tm.DJ];rw[<-X];simp only[Tm.DJ];exact q.ds
   ·have g:=aS;simp only[mG.all,List.drop,wM,wBt,or_false,not_or]at aS;simp only[im];rw[<-X];simp only[im];rw[if_neg (by grind),if_neg (by grind),if_neg (by grind),if_neg (by grind),if_neg (by grind),if_neg (by grind),if_neg (by grind)];exact q.vJ i g
   ·rw[A]at he;cases he
   ·simp only[im];refine⟨⟨W,?_⟩,⟨W,?_⟩,⟨W,?_⟩,?_,⟨W,?_⟩⟩
    ·rw[if_neg (by grind),if_neg (by grind),if_neg (by grind),if_neg (by grind),if_pos trivial,ek,ev]
    ·rw[if_neg (by grind),if_neg (by grind),if_neg (by grind),if_pos trivial,ek]
    ·rw[if_neg (by grind),if_neg (by grind),if_pos trivial,ek]
    ·rw[if_neg (by grind),if_pos trivial]
    ·rw[if_pos trivial,ek]
theorem zbi{call:Call} (hc:rH call) {F:mG} {d:Code} (x:yo n d=some F) (y:WR Δ h w) (z:TR Δ n t a) {r:X×Tm×Hp} (hv:NA F t h=some r) {Q:Exit->Act->World->Prop}
  (A:∀B s w',xJ Δ h w n r.2.1 r.2.2 B s w'->Q r.1.to s w'):Bv d Q a w:=by
 unfold NA at hv;rw[qj]at hv;obtain⟨v,off,f,hv⟩:=hv;rw[gG,fk]at hv;obtain⟨h0,o,g,hv⟩:=hv;obtain rfl:=yi h0;split at hv
 ·rename_i m since last;simp only[uy,gG,fk,sJ]at hv;obtain⟨es,c,i,⟨C,D⟩,ks,j,hv⟩:=hv;obtain rfl:=yi C;obtain rfl:=yi D;split at hv
  ·rename_i u E;simp only[gG,uy]at hv;obtain⟨k,us,G,b,l,hv⟩:=hv;cases hv;obtain rfl:=List.isEmpty_iff.1 l;have p:v≠u:=λe=>by subst e;rw[g]at b;cases b
   have q:v≠m:=λe=>by subst e;rw[g]at i;cases i
   exact WL hc x j p (λe=>by subst e;simp at k) q i f E A _ [] (jv _) (.start z y)
    ⟨rfl,λ_ _ _=>rfl,g,⟨[],G,b,by simp,by simp⟩,rfl,λ_ _=>rfl,λ_ _ _ _=>rfl,λH=>absurd rfl H⟩
  ·cases hv
 ·cases hv
end
def Alike(t t':Tm)(x:Operand):Prop:=(OI x).f t=(OI x).f t'
theorem IT{t t':Tm} {l:List Operand} (h:∀d,d∈BI l->hN t d=hN t' d):∀x∈l,Alike t t' x:=by
 induction l with
 |nil=>simp_all
 | cons y l b=>
   intro x a
   cases a with
   | head=>
     unfold Alike
     cases y <;> grind[hN,BI,OI]
   | tail _ a=>
     refine b (λd hd=>h d ?_) x a;cases y <;> simp[BI,hd]
section
variable{t t':Tm}{h:Hp}
theorem gM{x:Operand} (a:Alike t t' x):(rM x).f t h=(rM x).f t' h:=by
 unfold Alike at a;cases x <;> grind[rM]
theorem wA:∀{l:List Operand},(∀x∈l,Alike t t' x)->JW t l=JW t' l
 |[],_=>rfl
 | x::l,hl=>by
   have a:(OI x).f t=(OI x).f t':=hl x (by simp);simp only[JW,a,wA (l:=l) (by simp_all)]
theorem BG:∀{l:List (Nat×Operand)},(∀x∈l,Alike t t' x.2)->sD t l=sD t' l
 |[],_=>rfl
 | x::l,hl=>by
   have a:(OI x.2).f t=(OI x.2).f t':=hl x (by simp);simp only[sD,a,BG (l:=l) (by grind)]
theorem Uh{x:Option Operand} (a:∀y,x=some y->Alike t t' y):Ko x t h=Ko x t' h:=by
 cases x with
 |none=>rfl
 |some y=>simp only[Ko,gM (a y rfl)]
theorem Sc{ty:Nat} {p:PF} (a:p.f t h=p.f t' h):(Ij ty p).f t h=(Ij ty p).f t' h:=by
 grind[Ij]
theorem TI{a b:Nat} {p:PF} (c:p.f t h=p.f t' h):(LQ a b p).f t h=(LQ a b p).f t' h:=by
 grind[LQ]
theorem KY{a b:Nat} {p:PF} (c:p.f t h=p.f t' h):(qA a p b).f t h=(qA a p b).f t' h:=by
 grind[qA]
theorem RL{a b:Nat} {p:PF} (c:p.f t h=p.f t' h):(IU a p b).f t h=(IU a p b).f t' h:=by
 grind[IU]
theorem Li{a:Nat} {p q:PF} (b:p.f t h=p.f t' h) (hq:q.f t h=q.f t' h):(qp a p q).f t h=(qp a p q).f t' h:=by
 grind[qp]
theorem QW{a:Nat} {p q:PF} (b:p.f t h=p.f t' h) (hq:q.f t h=q.f t' h):(Jc a p q).f t h=(Jc a p q).f t' h:=by
 grind[Jc]
theorem QX{a:Nat} {p:PF} {lo hi:Option Operand} (b:p.f t h=p.f t' h) (hl:Ko lo t h=Ko lo t' h) (c:Ko hi t h=Ko hi t' h) :
  (Ly a p lo hi).f t h=(Ly a p lo hi).f t' h:=by
 grind[Ly]
theorem O4{a:Nat} {p q:PF} {ok:Bool} (b:p.f t h=p.f t' h) (hq:q.f t h=q.f t' h):(G9 a p q ok).f t h=(G9 a p q ok).f t' h:=by
 grind[G9]
theorem Uk{a:Nat} {p:PF} (b:p.f t h=p.f t' h):(hlen a p).f t h=(hlen a p).f t' h:=by
 grind[hlen]
theorem ON{a:Nat} {p:PF} {ok:Bool} (b:p.f t h=p.f t' h):(GR p a ok).f t h=(GR p a ok).f t' h:=by
 grind[GR]
theorem Ta{c p q:PF} (hc:c.f t h=c.f t' h) (a:p.f t h=p.f t' h) (hq:q.f t h=q.f t' h):(LR c p q).f t h=(LR c p q).f t' h:=by
 grind[LR]
theorem Qu{a:Nat} {b:List (Nat×Operand)} (c:sD t b=sD t' b):(IS a b).f t h=(IS a b).f t' h:=by
 unfold IS;grind
theorem IX{o:Oper} (g:∀x∈o.op.operands.toList,Alike t t' x):(iA o).f t h=(iA o).f t' h:=by
 obtain⟨dst,op,ty,pos,af,gd⟩:=o;cases op <;> simp only[iA] <;> simp only[Op.operands]at g
 case move x=>grind[gM]
 case assign x=>grind[gM]
 case pick c a b=>exact Ta (by grind[gM]) (by grind[gM]) (by grind[gM])
 case load ty a=>grind[Sc,gM]
 case nilCheck x=>grind[zF,gM]
 case binOp op xt x y b=>grind[gM]
 case unOp op b x=>grind[gM]
 case convert s d x=>grind[TI,gM]
 case build ty ps=>grind[Qu,BG]
 case makeFunc fn first caps=>
  cases fn with
  |func f=>grind[wA]
  |_=>rfl
 case slice ty x lo hi mx=>
  cases mx with
  |none=>grind[QX,gM,Uh]
  |some _=>rfl
 case fieldAddr s x f=>grind[KY,gM]
 case field s x f=>grind[RL,gM]
 case indexAddr ty x i=>grind[Li,gM]
 case index ty x i=>grind[QW,gM]
 case lookup ty m k ok=>grind[O4,gM]
 case extract x i=>grind[EX,gM]
 case makeInterface ty x=>
  split
  ·grind[gM]
  ·rfl
 case typeAssert x b asserted ok=>grind[ON,gM]
 case call c=>
  obtain⟨e,args,j⟩:=c
  cases e with
  | builtin b=>
    have l:∀x∈args.toList,Alike t t' x:=by grind[Call.operands]
    cases b <;> simp only
    case len=>
      split
      ·grind[Uk,gM]
      ·rfl
    case min=>grind[wA]
    case max=>grind[wA]
    all_goals rfl
  |_=>rfl
 all_goals rfl
theorem Pe{x:Operand}(a:Alike t t' x):(OI x).f t=(OI x).f t':=a
theorem L1{o:Oper} (a:∀x∈o.op.operands.toList,Alike t t' x):(p9 o).f t=(p9 o).f t':=by
 obtain⟨dst,op,ty,pos,af,gd⟩:=o;cases op <;> simp only[p9] <;> simp only[Op.operands]at a
 case alloc e=>split <;> rfl
 case box e x=>grind[Pe]
 case buildSlice ty len parts=>
  (repeat' split) <;> first
   |rfl
   |grind[EU,BG]
 case makeSlice ty n c=>
  (repeat' split) <;> first
   |rfl
   |grind[Pe]
 case makeMap ty r=>
  cases r with
  |none=>simp only;split <;> rfl
  |some _=>rfl
 all_goals rfl
theorem Tv{o:Oper} (j:∀x∈o.op.operands.toList,Alike t t' x):(jh o).f t h=(jh o).f t' h:=by
 obtain⟨dst,op,ty,pos,af,gd⟩:=o;cases op <;> simp only[jh] <;> simp only[Op.operands]at j
 case store ty a x=>
  split
  ·grind[gM]
  ·rfl
 case mapUpdate ty m k x=>
  (repeat' split) <;> first
   |rfl
   |grind[gM]
 case insert ty m k x=>
  (repeat' split) <;> first
   |rfl
   |grind[gM]
 case range ty x=>
  split
  ·grind[gM]
  ·rfl
 case next x isS=>
  cases isS with
  |true=>rfl
  |false=>grind[gM]
 case entry x=>grind[gM]
 case convert s d x=>
  (repeat' split) <;> first
   |rfl
   |grind[gM]
 case call c=>
  obtain⟨g,args,l⟩:=c
  cases g with
  | builtin b=>
    have n:∀x∈args.toList,Alike t t' x:=by grind[Call.operands]
    cases b <;> simp only
    case append=>
      split
      ·rename_i s x i xT e _
       (repeat' split) <;> first
         |rfl
         |grind[gM]
      ·rfl
    case copy=>
      split
      ·rename_i s x i xT e _
       (repeat' split) <;> first
         |rfl
         |grind[gM]
      ·rfl
    case delete=>
      split
      ·rename_i s x i xT e _
       (repeat' split) <;> first
         |rfl
         |grind[gM]
      ·rfl
    all_goals rfl
  | value f=>
    grind[Alike,Call.operands,gM,wA]
  | invoke r m=>
    grind[Alike,Call.operands,gM,wA]
 all_goals rfl
theorem NR{call:Call} {o:Oper} (a:∀x∈o.op.operands.toList,Alike t t' x):(B7 o).f call t h=(B7 o).f call t' h:=by
 grind[B7,IX,L1,Tv]
end
theorem Cc:∀l i b k a,(items l i b)[k]? =some a->a.i=i+k/\l[k]? =some a.o
 |[],i,b,k,a,h=>by grind[items]
 |o::os,i,b,0,a,h=>by simp[items]at h;grind
 | o::os,i,b,k+1,a,h=>by
   let⟨c,d⟩:=Cc os (i+1) _ k a h
   grind
theorem Kw:∀l i a,(items l i a).length=l.length
 |[],i,a=>rfl
 |o::os,i,a=>by simp[items,Kw os]
theorem BH(a:List Nat) (x:Nat):∀es m,(MX a es m).testBit x=true->m.testBit x=true\/∃e∈es,Oe e=true/\(x=e.on\/(a[e.on]?.getD 0).testBit x=true)
 |[],m,h=> .inl h
 | e ::es,m,h=>by
   simp[MX]at h;split at h
   ·rename_i f
    rcases BH a x es _ h with b|⟨e',d,c,b⟩
    ·grind
    grind
   ·rcases BH a x es _ h with b|⟨e',d,c,b⟩
    ·simp_all
    grind
theorem VO:∀l i c k a,(items l i c)[k]? =some a->
  a.b=MX (c++((items l i c).take k).map (·.b)) a.o.after.toList 0
 |[],i,c,k,a,h=>by grind[items]
 |o::os,i,c,0,a,h=>by grind[items]
 | o::os,i,c,k+1,a,h=>by
   have:=VO os (i+1) _ k a h
   grind[items,KB]
theorem Nj{l:List Oper} {k:Nat} {a:It} (h:(items l 0 [])[k]? =some a) {x:Nat} (d:a.b.testBit x=true) :
  ∃e∈a.o.after.toList,Oe e=true/\(x=e.on\/∃y,(items l 0 [])[e.on]? =some y/\y.b.testBit x=true):=by
 rw[VO l 0 [] k a h]at d;rcases BH _ x _ _ d with c|⟨e,f,g,c⟩
 ·simp_all
 ·refine ⟨e,f,g,?_⟩;rcases c with c|c
  ·omega
  ·right;rw[OJ,wBn]at c
   grind
theorem G7(e:Edge):Region.binds .any e=Oe e:=by
 rfl
def qb(val:Nat->V)(D:Nat->Bool)(d:Nat)(jQ:List It)(b:V):V:=jQ.foldl (λv a=>if D a.i=true/\a.o.dst=some d then val a.i else v) b
theorem qw{val b:Nat->V} {D D':Nat->Bool} {d:Nat} {jQ:List It} (e:∀a∈jQ,a.o.dst=some d->D a.i=D' a.i) (f:∀a∈jQ,a.o.dst=some d->D a.i=true->val a.i=b a.i) (c:V) :
  qb val D d jQ c=qb b D' d jQ c:=by
 unfold qb
 induction jQ generalizing c <;> grind
theorem ID{val:Nat->V} {D:Nat->Bool} {d:Nat} {jQ:List It} (h:∀a∈jQ,a.o.dst=some d->D a.i=false) (b:V):qb val D d jQ b=b:=by
 unfold qb
 induction jQ generalizing b <;> grind
theorem Xi{val:Nat->V} {D:Nat->Bool} {d:Nat} {jQ:List It} (f:∀k (x:It),jQ[k]? =some x->x.i=k) {a:It} (g:a∈jQ) (hd:a.o.dst=some d) (j:D a.i=true)
  (h:∀x∈jQ,a.i<x.i->x.o.dst=some d->D x.i=false) (l:V):qb val D d jQ l=val a.i:=by
 let⟨k,hk⟩:=oR.1 g
 have e:k<jQ.length:=by grind
 have b:jQ=jQ.take k++a::jQ.drop (k+1):=by
  have m:jQ.drop k=a::jQ.drop (k+1):=by
   rw[wAj e];rw[iz e]at hk;cases hk;rfl
  rw[<-m,wA3]
 have c:∀x∈jQ.drop (k+1),x.o.dst=some d->D x.i=false:=by
  intro x n p
  let⟨q,hq⟩:=oR.1 n
  rw[wBZ]at hq;have:=f _ x hq;exact by grind
 unfold qb;rw[b,List.foldl_append,List.foldl_cons,if_pos ⟨j,hd⟩];exact ID c _
def Cr(h h':Hp):Prop:=h.next<=h'.next/\∀l,l<h.next->h'.get l=h.get l
theorem Cr.refl(h:Hp):Cr h h:=⟨jv _,λ_ _=>rfl⟩
theorem Cr.trans{h h' c:Hp}(a:Cr h h')(b:Cr h' c):Cr h c:=⟨KK a.1 b.1,λl hl=>by rw[b.2 l (Dy hl a.1),a.2 l hl]⟩
theorem Cr.new(h:Hp)(o:O):Cr h (h.new o):=⟨RM _,by simp_all[ue,if_neg,Nat.ne_of_gt]⟩
theorem WR.Rq{Δ:Env} {h h':Hp} {w:World} (a:WR Δ h w) (b:Cr h h'):WR Δ h' w where
 fresh:=λl d hl=>Dy (a.fresh l d hl) b.1
 AA:=a.AA
 obj:=λl d hl=>by rw[b.2 l (a.fresh l d hl)];exact a.obj l d hl
 apart:=λm f e e' p q i j oS k n=>by
  rw[b.2 m (a.fresh m e i)]at k;rw[b.2 f (a.fresh f e' j)]at n;exact a.apart m f e e' p q i j oS k n
 HA:=λg p c o=>by
  rw[b.2 g (Dy c a.xC)]at o;exact a.HA g p c o
 xC:=KK a.xC b.1
 Va:=a.Va
theorem O.eq_of_beq{a b:O} (h:O.beq a b=true):a=b:=by
 unfold O.beq at h;split at h
 ·simp[ KC]at h;obtain⟨⟨⟨⟨rfl,rfl⟩,rfl⟩,rfl⟩,c⟩:=h
  grind[V.wj]
 ·simp_all
 ·cases h
structure Tc where
 on:Nat->Bool
 val:Nat->V
 tt:Nat->Tm
 ep:Nat->Nat
 pl:Nat->Nat
 ob:Nat->O
 H:Nat->Hp
 G:Nat->Hp
def Ag(jQ:List It)(D:Nat->Bool):Prop:=∀a∈jQ,D a.i=true->∀x∈jQ,a.b.testBit x.i=true->D x.i=true
section
variable (n:Nat)(all:List Oper)(jQ ws:List It)(call:Call)(t0:Tm)(h0:Hp)
structure Oh (T:Tc) (D:Nat->Bool) (a:It):Prop where
 fresh:D a.i=false
 closed:Ag jQ D
 fu:∀x∈jQ,a.b.testBit x.i=true->D x.i=true
 pD:∀d,hN (T.tt a.i) d=qb T.val D d jQ (hN t0 d)
 dst:∃d,tP n a.o=some d
 pQ:pQ n all a.o (T.tt a.i)=some (T.on a.i)
 off:T.on a.i=false->T.val a.i = .undef
 epw:cls a.o≠2->ME ws a (T.ep a.i)=true
 epl:T.ep a.i<=ws.length
 pure:cls a.o=0->T.on a.i=true->∀j,T.ep a.i<=j->j<=ws.length->j<=late ws a->(iA a.o).f (T.tt a.i) (T.H j)=some (T.val a.i)
 alloc:cls a.o=1->T.on a.i=true->(∃mk,(p9 a.o).f (T.tt a.i)=some (T.ob a.i,mk)/\T.val a.i=mk (T.pl a.i))/\
  (∀j,T.ep a.i<=j->j<=ws.length->T.pl a.i<(T.H j).next/\(j<=late ws a->(T.H j).get (T.pl a.i)=some (T.ob a.i)))/\
  (∀j,j<T.ep a.i->(T.G j).next<=T.pl a.i)/\h0.next<=T.pl a.i
 write:cls a.o=2->isW ws a (T.ep a.i)=true/\(T.on a.i=true->(B7 a.o).f call (T.tt a.i) (T.H (T.ep a.i))=some (T.val a.i,T.G (T.ep a.i)))/\
  (T.on a.i=false->T.G (T.ep a.i)=T.H (T.ep a.i))
structure sF (l:List It) (m k:Nat) (h:Hp) (rs:List Rec) (r:Tm×Hp) (b T:Tc):Prop where
 same:∀i,m.testBit i=true->T.on i=b.on i/\T.val i=b.val i/\T.tt i=b.tt i/\T.ep i=b.ep i/\T.pl i=b.pl i/\T.ob i=b.ob i
 VT:∀j,j<k->T.H j=b.H j/\T.G j=b.G j
 item:∀a∈l,∃D,Oh n all jQ ws call t0 h0 T D a
 DO:∀r∈rs,∀j,k<=j->j<=ws.length->r.last<j\/zw (T.H j) r=true
 more:Cr h (T.H k)
 chain:∀j,k<=j->j<ws.length->(T.H j).next<=(T.G j).next/\Cr (T.G j) (T.H (j+1))
 WC:∀a∈l,cls a.o=1->T.on a.i=true->h.next<=T.pl a.i
 V5:∀a∈l,∀c∈l,cls a.o=1->cls c.o=1->T.on a.i=true->T.on c.i=true->a.i≠c.i->T.pl a.i≠T.pl c.i
 last:r.2=T.H ws.length
 pD:∀d,hN r.1 d=qb T.val (λ_=>true) d jQ (hN t0 d)
 done:∀a∈jQ,m.testBit a.i=true\/a.i∈l.map (·.i)
 kle:k<=ws.length
end
theorem ET{ws:List It} {T:Tc} {k:Nat} (h:∀j,k<=j->j<ws.length->(T.H j).next<=(T.G j).next/\Cr (T.G j) (T.H (j+1))):∀m j,j=k+m->j<=ws.length->(T.H k).next<=(T.H j).next:=by
 intro m
 induction m with
 |zero=>simp_all
 | succ m b=>
   intro j g c;obtain⟨a,rfl⟩:∃a,j=a+1:=⟨j-1,by omega⟩
   have d:=b a (by omega) (by omega)
   let⟨e,f⟩:=h a (by omega) (by omega)
   exact KK d (KK e f.1)
theorem Zr(m i x:Nat):(m |||2 ^ i).testBit x=(m.testBit x ||decide (i=x)):=by grind
theorem LW{l:List It} (h:qS l=true):∀(i j:Nat) a b,i<j->l[i]? =some a->l[j]? =some b->RD a b=true:=by
 induction l with
 |nil=>simp_all
 | cons x l d=>
   intro i j a b c e f;simp[qS,sJ]at h
   grind
theorem PL{jQ:List It} (c:∀k (x:It),jQ[k]? =some x->x.i=k) (g:qS jQ=true) {a x:It} (h:a∈jQ) (l:x∈jQ) {d:Nat} (hd:d∈qI a.o) (e:x.o.dst=some d) :
  (x.i<a.i->a.b.testBit x.i=true)/\(a.i<x.i->x.b.testBit a.i=true):=by
 let⟨i,hi⟩:=oR.1 h
 let⟨j,hj⟩:=oR.1 l
 have m:=c i a hi;have n:=c j x hj;have p:writes x.o (qI a.o)=true:=by simp[writes,e,hd]
 constructor
 ·intro f;have:=LW g j i x a (by omega) hj hi
  grind[RD]
 ·intro f;have:=LW g i j a x (by omega) hi hj
  grind[RD]
theorem WK{o:Oper}{d:Nat}(h:o.dst=some d):d∈qI o:=by simp[qI,h]
theorem II{jQ:List It} (e:∀k (x:It),jQ[k]? =some x->x.i=k) (p:qS jQ=true) {a:It} (f:a∈jQ) {D D':Nat->Bool} (q:Ag jQ D) (g:Ag jQ D')
  (s:∀x∈jQ,a.b.testBit x.i=true->D x.i=true) (r:∀x∈jQ,a.b.testBit x.i=true->D' x.i=true) (n:D a.i=false) (c:D' a.i=false) {d:Nat} (hd:d∈qI a.o) (val:Nat->V) (j:V) :
  qb val D d jQ j=qb val D' d jQ j:=by
 refine qw (λx l m=>?_) (by simp_all) j
 let⟨p1,p2⟩:=PL e p f l hd m
 rcases Nat.lt_trichotomy x.i a.i with h|h|h
 ·simp_all
 ·simp_all
 ·have t:D x.i=false:=by
   cases hh:D x.i with
   |false=>rfl
   |true=>rw[q x l hh a f (p2 h)]at n;cases n
  have u:D' x.i=false:=by
   cases hh:D' x.i with
   |false=>rfl
   |true=>rw[g x l hh a f (p2 h)]at c;cases c
  simp_all
theorem G4{jQ:List It} (c:∀k (x:It),jQ[k]? =some x->x.i=k) (q:qS jQ=true) {a:It} (m:a∈jQ) {D D':Nat->Bool} (r:Ag jQ D) (p:D a.i=false)
  (g:∀i,D' i=(D i ||decide (a.i=i))) {val b:Nat->V} (hv:∀i,D i=true->b i=val i) (d:Nat) (n:V) :
  qb b D' d jQ n=if a.o.dst=some d then b a.i else qb val D d jQ n:=by
 by_cases hd:a.o.dst=some d
 ·rw[if_pos hd];refine Xi c m hd (by simp_all) (λx h l f=>?_) n;rw[g];have oS:=Tj l;have:=(PL c q m h (WK hd) f).2 l
  cases hh:D x.i with
  |false=>simp_all
  |true=>rw[r x h hh a m this]at p;cases p
 ·rw [if_neg hd];refine qw (λx h f=>?_) (λx h f s=>?_) n
  ·rw [g];have:a.i≠x.i:=by
    intro e
    let⟨i,hi⟩:=oR.1 m
    let⟨j,hj⟩:=oR.1 h
    have t:=c i a hi;have u:=c j x hj;have:i=j:=by omega
    subst this;rw[hi]at hj;cases hj;exact hd f
   simp_all
  grind[oR]
def KL{α:Type}(f:Nat->α)(i:Nat)(v:α):Nat->α:=λj=>if j=i then v else f j
theorem mY{α:Type}(f:Nat->α)(i:Nat)(v:α):KL f i v i=v:=if_pos rfl
theorem RI{α:Type}(f:Nat->α){i j:Nat}(v:α)(h:j≠i):KL f i v j=f j:=if_neg h
theorem Lu(o:Oper):cls o=0\/cls o=1\/cls o=2:=by
 unfold cls
 grind
theorem Kh{n:Nat} {o:Oper} {d:DF} (h:tP n o=some d) (t:Tm) (v:V) (i:Nat):hN (d.f t v) i=if o.dst=some i then v else hN t i:=by
 unfold tP at h
 cases ho:o.dst with
 |none=>grind
 | some k=>
   simp only[ho]at h
   cases hk:Nat.blt k n with
   |false=>simp_all
   | true=>
     simp only[hk]at h;cases h;show hN (t.set k v) i=_
     simp_all[im,if_pos,if_neg]
theorem wI{n:Nat} {o:Oper} {d:DF} (h:tP n o=some d) (t:Tm) (v:V):(d.f t v).ds=t.ds:=by
 grind[tP,Nat.blt,Tm.DJ]
theorem A9{n:Nat} {all:List Oper} {ws:List It} {call:Call}:∀(l:List It) (k:Nat) {t:Tm} {h:Hp} {rs:List Rec} {r:Tm×Hp},(wq n all ws l k).f call t h rs=some r->r.1.ds=t.ds
 | [],_,t,h,rs,r,hv=>by
   grind[wq,gG]
 | a ::l,k,t,h,rs,r,hv=>by
   unfold wq at hv
   cases hd:tP n a.o with
   |none=>simp_all
   | some d=>
     rw[hd]at hv;simp only at hv;split at hv
     ·simp only[Ii,fk]at hv
      obtain⟨b,_,c⟩:=hv
      cases b with
      |false=>rw[A9 l _ c,wI hd]
      | true=>
        simp only[fk]at c;obtain⟨x,_,e⟩:=c;rw[A9 l _ e,wI hd]
     ·simp only[GM,fk]at hv
      obtain⟨b,_,c⟩:=hv
      cases b with
      |false=>rw[A9 l _ c,wI hd]
      | true=>
        simp only[fk]at c;obtain⟨x,_,e⟩:=c;rw[A9 l _ e,wI hd]
     ·simp only[BM,fk,gG]at hv
      obtain⟨_,b,_,c⟩:=hv
      cases b with
      |false=>rw[A9 l _ c,wI hd]
      | true=>
        simp only[fk,gG]at c;obtain⟨x,_,_,e⟩:=c;rw[A9 l _ e,wI hd]
section
variable{n:Nat}{all:List Oper}{jQ ws:List It}{call:Call}{t0:Tm}{h0:Hp}
theorem sF.cons{l:List It} {a:It} {m k k':Nat} {h h':Hp} {rs A:List Rec} {r:Tm×Hp} {d e T:Tc} (c:sF n all jQ ws call t0 h0 l (m |||2 ^ a.i) k' h' A r e T)
  (C:∀i,m.testBit i=true->e.on i=d.on i/\e.val i=d.val i/\e.tt i=d.tt i/\e.ep i=d.ep i/\e.pl i=d.pl i/\e.ob i=d.ob i)
  (L:∀j,j<k->e.H j=d.H j/\e.G j=d.G j) (M:k<=k') (f:∃D,Oh n all jQ ws call t0 h0 T D a)
  (g:∀r∈rs,∀j,k<=j->j<=ws.length->r.last<j\/zw (T.H j) r=true) (p:Cr h (T.H k))
  (z:∀j,k<=j->j<k'->(T.H j).next<=(T.G j).next/\Cr (T.G j) (T.H (j+1)))
  (w:cls a.o=1->T.on a.i=true->h.next<=T.pl a.i/\T.pl a.i<h'.next) (JU:h.next<=h'.next) (B:k<=ws.length):sF n all jQ ws call t0 h0 (a::l) m k h rs r d T where
 same:=λi hi=>by
  obtain⟨E,F,N,O,P,Q⟩:=c.same i (by simp_all)
  simp_all
 VT:=λj I=>by
  obtain⟨E,F⟩:=c.VT j (by omega)
  simp_all
 item:=λx b=>by
  cases b with
  |head=>exact f
  |tail _ b=>exact c.item x b
 DO:=g
 more:=p
 chain:=λj C J=>by
  by_cases I:j<k'
  ·simp_all
  ·exact c.chain j (by omega) J
 WC:=λx b hc K=>by
  cases b with
  |head=>simp_all
  |tail _ b=>exact KK JU (c.WC x b hc K)
 V5:=λx b y v q s t u oS=>by
  cases b with
  | head=>
    cases v with
    |head=>omega
    |tail _ v=>have:=(w q t).2;have:=c.WC y v s u;omega
  | tail _ b=>
    cases v with
    |head=>have:=(w s u).2;have:=c.WC x b q t;omega
    |tail _ v=>exact c.V5 x b y v q s t u oS
 last:=c.last
 pD:=c.pD
 done:=λx b=>by
  rcases c.done x b with h|h
  ·grind
  simp_all
 kle:=B
theorem trace(C:∀(k:Nat) (x:It),jQ[k]? =some x->x.i=k) (S:qS jQ=true):∀(l:List It) (m k:Nat) (t:Tm) (h:Hp) (rs:List Rec) (r:Tm×Hp) (s:Tc),
  (∀a∈l,a∈jQ)->uk jQ ws l m k=true->(wq n all ws l k).f call t h rs=some r->Ag jQ m.testBit->(∀d,hN t d=qb s.val m.testBit d jQ (hN t0 d))->
  h0.next<=h.next->(∀j,j<k->(s.G j).next<=h.next)->k<=ws.length->∃T,sF n all jQ ws call t0 h0 l m k h rs r s T
 | [],m,k,t,h,rs,r,s,hsub,c,hv,hcl,ht,hn0,hG,hkl=>by
   simp only[uk,sJ]at c;obtain⟨ah,hk⟩:=c;have al:k=ws.length:=yi hk;simp only[wq,gG]at hv;obtain⟨Z,hv⟩:=hv;cases hv;refine⟨{s with H:=KL s.H k h},⟨by simp_all,λj Q=>⟨by grind[RI],rfl⟩,by simp_all,?_,?_,by omega,by simp_all,by simp_all,?_,?_,?_,hkl⟩⟩
   ·intro q hq j h1 h2
    have:j=k:=by omega
    simp_all[zw,KL,mY,Bs,PX,GY,RP]
   ·grind[Cr,KL,mY]
   ·grind[KL,mY]
   ·intro d
    rw[ht d];refine qw (λa ha _=>?_) (by simp_all) _
    simp_all
   simp_all
 | a ::l,m,k,t,h,rs,r,s,hsub,c,hv,hcl,ht,hn0,hG,hkl=>by
   have ha:a∈jQ:=by simp_all
   have w:∀x∈l,x∈jQ:=by simp_all
   simp only[uk,sJ,wBl]at c;obtain⟨D,am,c⟩:=c;have u:∀x∈jQ,a.b.testBit x.i=true->m.testBit x.i=true:=by grind
   have z:Ag jQ (m |||2 ^ a.i).testBit:=λx hx A y hy hb=>by
     rw[Zr]at A⊢;simp only[GY,AL]at A;rcases A with A|A
     ·rw[hcl x hx A y hy hb];rfl
     grind[oR]
   simp only[wq]at hv
   cases hd:tP n a.o with
   |none=>simp_all
   | some d =>
     simp only[hd]at hv
     let B:Bool->V->Nat->O->(Nat->Hp)->(Nat->Hp)->Tc:=λb v p ob H G=>⟨KL s.on a.i b,KL s.val a.i v,KL s.tt a.i t,KL s.ep a.i k,KL s.pl a.i p,KL s.ob a.i ob,H,G⟩
     have h1:∀b v p ob H G,∀i,m.testBit i=true->(B b v p ob H G).on i=s.on i/\(B b v p ob H G).val i=s.val i/\(B b v p ob H G).tt i=s.tt i/\(B b v p ob H G).ep i=s.ep i/\
        (B b v p ob H G).pl i=s.pl i/\(B b v p ob H G).ob i=s.ob i:=by grind[RI]
     have E:∀b v p ob H G,∀J,hN (d.f t v) J=qb (B b v p ob H G).val (m |||2 ^ a.i).testBit J jQ (hN t0 J):=by grind[Kh,G4,Zr,hN,KL,mY]
     have self:∀{b v p ob H G l' k' h' U T},sF n all jQ ws call t0 h0 l' (m |||2 ^ a.i) k' h' U r (B b v p ob H G) T->
        T.on a.i=b/\T.val a.i=v/\T.tt a.i=t/\T.ep a.i=k/\T.pl a.i=p/\T.ob a.i=ob/\(∀J,hN (T.tt a.i) J=qb T.val m.testBit J jQ (hN t0 J)):=λ{b v p ob H G l' k' h' U T} g=>by
       obtain⟨a1,a2,a3,a4,a5,a6⟩:=g.same a.i (by simp_all);refine⟨a1.trans (mY _ _ _),a2.trans (mY _ _ _),a3.trans (mY _ _ _),a4.trans (mY _ _ _),a5.trans (mY _ _ _),a6.trans (mY _ _ _),λJ=>?_⟩;rw[a3.trans (mY _ _ _),ht J];refine(qw (by simp_all) (λx hx _ aa=>?_) _).symm;rw[(g.same x.i (by simp_all)).2.1,(h1 b v p ob H G x.i aa).2.1]
     rcases Lu a.o with hc|hc|hc
     ·
       have F:Nat.beq (cls a.o) 2=false:=by rw[hc];rfl
       rw[F]at c;simp only[sJ]at c;obtain⟨I,c⟩:=c;rw[hc]at hv;simp only[Ii,fk]at hv;obtain⟨b,hw,hv⟩:=hv
       cases b with
       | false=>
         obtain⟨T,g⟩:=trace C S l _ k _ h rs r (B false .undef 0 default s.H s.G) w c hv z (E _ _ _ _ _ _) hn0 hG hkl;obtain⟨s1,R,Y,L,M,W,K⟩:=self g
         refine ⟨T,g.cons (by simp_all) (by grind) (jv _) ⟨m.testBit,D,hcl,u,K,⟨d,hd⟩,by simp_all,λ_=>R,by simp_all,by omega,
           by simp_all,by omega,by omega⟩ g.DO g.more (by omega) (by omega) (jv _) hkl⟩
       | true=>
         simp only[fk]at hv;obtain⟨v,ab,hv⟩:=hv;obtain⟨T,g⟩:=trace C S l _ k _ h _ r (B true v 0 default s.H s.G) w c hv z (E _ _ _ _ _ _) hn0 hG hkl;obtain⟨s1,R,Y,L,M,W,K⟩:=self g
         refine ⟨T,g.cons (by simp_all) (by grind) (jv _) ⟨m.testBit,D,hcl,u,K,⟨d,hd⟩,by simp_all,by simp_all,by simp_all,by omega,
           λ_ _ j N P j3=>?_,by omega,by omega⟩ (λq hq=>g.DO q (by simp[hq])) g.more (by omega) (by omega) (jv _) hkl⟩
         rw[L]at N;rcases g.DO _ (RN ..) j N P with ac|hh
         ·grind
         grind[zw,V.eq_of_beq]
     ·
       have F:Nat.beq (cls a.o) 2=false:=by rw[hc];rfl
       rw[F]at c;simp only[sJ]at c;obtain⟨I,c⟩:=c;rw[hc]at hv;simp only[GM,fk]at hv;obtain⟨b,hw,hv⟩:=hv
       cases b with
       | false=>
         obtain⟨T,g⟩:=trace C S l _ k _ h rs r (B false .undef 0 default s.H s.G) w c hv z (E _ _ _ _ _ _) hn0 hG hkl;obtain⟨s1,R,Y,L,M,W,K⟩:=self g
         refine ⟨T,g.cons (by simp_all) (by grind) (jv _) ⟨m.testBit,D,hcl,u,K,⟨d,hd⟩,by simp_all,λ_=>R,by simp_all,by omega,
           by omega,by simp_all,by omega⟩ g.DO g.more (by omega) (by simp_all) (jv _) hkl⟩
       | true=>
         simp only[fk]at hv;obtain⟨⟨ob,mk⟩,ab,hv⟩:=hv;obtain⟨T,g⟩:=trace C S l _ k _ _ _ r (B true (mk h.next) h.next ob s.H s.G) w c hv z (E _ _ _ _ _ _) (wBE hn0) (λj Q=>wBE (hG j Q)) hkl;obtain⟨s1,R,Y,L,M,W,K⟩:=self g
         refine ⟨T,g.cons (by simp_all) (by grind) (jv _) ⟨m.testBit,D,hcl,u,K,⟨d,hd⟩,by simp_all,by simp_all,by simp_all,by omega,
           by omega,λ_ _=>⟨by simp_all,λj N P=>?_,λj Q=>?_,by omega⟩,by omega⟩
           (λq hq=>g.DO q (by simp[hq])) ((Cr.new h ob).trans g.more) (by omega) (λ_ _=>by rw[M];exact⟨jv _,RC _⟩) (RM _) hkl⟩
         ·rw[L]at N
          rw[M,W];refine⟨?_,λj3=>?_⟩
          ·have e1:(h.new ob).next<=(T.H k).next:=g.more.1
           have e2:=ET g.chain (j-k) j (by omega) P;have:h.next<(h.new ob).next:=RC _;omega
          ·rcases g.DO _ (RN ..) j N P with ac|hh
           ·grind
           grind[zw,O.eq_of_beq]
         ·rw[L]at Q
          rw[M,(g.VT j Q).2]
          grind
     ·
       have F:Nat.beq (cls a.o) 2=true:=by rw[hc];rfl
       rw[F]at c;simp only[sJ]at c;obtain⟨I,c⟩:=c;have ae:k<ws.length:=by
        unfold isW at I;split at I
        ·grind
        ·cases I
       rw[hc]at hv;simp only[BM,gG,fk]at hv;obtain⟨Z,b,hw,hv⟩:=hv;have ai:∀q∈rs,q.last<k\/zw h q=true:=by simp_all[Bs,PX,GY,RP]
       have aj:∀(b:Bool) (v:V) (h':Hp),pQ n all a.o t=some b->(wq n all ws l (Nat.succ k)).f call (d.f t v) h' rs=some r->h.next<=h'.next->(b=false->v = .undef/\h' = h)->
         (b=true->(B7 a.o).f call t h=some (v,h'))->∃T,sF n all jQ ws call t0 h0 (a::l) m k h rs r s T:=by
         intro b v h' hw hv hn ak an
         obtain ⟨T,g⟩:=trace C S l _ (k+1) _ h' rs r (B b v 0 default (KL s.H k h) (KL s.G k h')) w c hv z (E _ _ _ _ _ _) (by omega)
           (fun j Q=>by
             by_cases e:j=k
             ·subst e;show(KL s.G j h' j).next<=_;simp_all[mY,jv]
             grind[KL,RI,KK]) ae
         obtain⟨s1,R,Y,L,M,W,K⟩:=self g;obtain⟨g1,g2⟩:=g.VT k (RC _);have X:T.H k=h:=g1.trans (mY _ _ _);have ag:T.G k=h':=g2.trans (mY _ _ _)
         refine ⟨T,g.cons (h1 _ _ _ _ _ _) (by grind[RI]) (RM _) ⟨m.testBit,D,hcl,u,K,⟨d,hd⟩,by grind,
           by grind,by omega,by omega,by omega,by omega,
           λ_=>⟨by grind,λho=>?_,λho=>?_⟩⟩ (λq hq j N P=>?_) (by rw[X];exact .refl h) (λj N P=>?_) (by omega) hn hkl⟩
         ·grind
         ·grind
         ·by_cases e:j=k
          ·grind
          ·exact g.DO q hq j (by omega) P
         ·have:j=k:=by omega
          subst this;rw[X,ag];exact⟨hn,g.more⟩
       cases b with
       |false=>grind
       | true=>
         grind[fk,gG,Iv]
end
