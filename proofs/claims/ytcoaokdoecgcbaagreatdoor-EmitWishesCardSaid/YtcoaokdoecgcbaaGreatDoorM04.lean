/- Parts. -/
import Derived.Test.YtcoaokdoecgcbaaGreatDoorM03
set_option maxHeartbeats 4000000
namespace Go.Proofs.YtcoaokdoecgcbaaGreatDoor.Hx
variable{call:Call}{kM:List It}{p:PF}{D:Nat->Bool}{d:Nat}{val:Nat->V}{b:Oper}{c:Code}{o2:Oper}{α:Type}{F:nG}{q:PF}
def wm(call:Call):Prop:=∀f args v h h' Δ w gW,call f args h=some (v,h')->WR Δ h w->gP Δ args gW.toList-> (∃x,(callFunc f gW).run P0 w = .ok (.value x) w/\FU Δ h w v h' Δ x w)\/ ((callFunc f gW).run P0 w = .ok (.enter f gW) w/\Calls P0 f gW w λe w'=>∃a x,e = .returned x/\FU Δ h w v h' a x w')
section
variable{Δ:Env}{h:Hp}{w:World}{n:Nat}{t:Tm}{a:Act}
theorem Q5 (hc:wm call) (i:WR Δ h w) (m:TR Δ n t a) {o:Oper} {v:V} {h':Hp} (hv:(Ek o).f call t h=some (v,h')) {K:Act->World->Prop} {Q:Exit->Act->World->Prop}
  (p:∀k x w',FU Δ h w v h' k x w'->K (a.put o.dst x) w'):o.wp P0 a w K Q:=by
 unfold Ek at hv;split at hv
 ·simp only[fy]at hv
  let⟨u,j,c⟩:=hv
  cases c
  let⟨x,b,d⟩:=zdF i m j
  unfold Oper.wp;rw[b,Oper.upon_value];exact p Δ x w ⟨d,i,.refl _ _,.refl _ _⟩
 ·simp only[fy]at hv
  let⟨⟨ob,mk⟩,j,c⟩:=hv
  cases c
  let⟨mo,mv,b,d⟩:=TL m j
  let⟨k,y,z,A,B⟩:=i.alloc d
  unfold Oper.wp;rw[b w,Oper.upon_value];exact p k _ _ ⟨z,y,A,B⟩
 ·simp [fy]at hv
  let⟨r,j,c⟩:=hv
  rcases zaX i m j with⟨u,C,k,x,w',rfl,b,d⟩|⟨g,l,gW,rfl,b,d⟩
  ·cases c;unfold Oper.wp;rcases b with b|⟨rfl,b⟩
   ·grind[Oper.upon_value]
   grind[Oper.upon_skip]
  ·unfold Oper.wp;rw[d];rcases hc g l v h h' Δ w gW c i b with⟨x,q,s⟩|⟨q,s⟩
   ·grind[Oper.upon_value]
   ·rw[q,Oper.upon_enter];refine Calls.mono s λe w' D=>?_
    grind
theorem za7(a:Act) (d:Nat) (x:Value) (i:Nat) (hd:d<a.tmps.size):(a.put (some d) x).tmps.getD i undef=if d=i then x else a.tmps.getD i undef:=by
 simp[Act.put,wBW]
 grind
theorem put_defers(a:Act)(d:Option Tmp)(x:Value):(a.put d x).defers=a.defers:=by cases d <;> rfl
theorem O9(b:TR Δ n t a) {o:Oper} {d:DF} (hd:xe n o=some d) {v:V} {x:Value} (hv:fU Δ v x):TR Δ n (d.f t v) (a.put o.dst x):=by
 unfold xe at hd
 cases ho:o.dst with
 |none=>simp[ho]at hd;cases hd;exact b
 | some k=>
   simp[ho]at hd
   cases hk:Nat.blt k n with
   |false=>simp_all
   | true=>
     simp[hk]at hd;cases hd;have c:k<a.tmps.size:=by rw[b.size,<-WE];exact hk
     refine⟨by simp[Act.put,b.size],λi=>?_,by rw[put_defers];show Nk Δ (t.set k v).ds _;rw[Tm.Fx];exact b.ds⟩;rw[za7 _ _ _ _ c];show fU Δ (ij (t.set k v) i) _;rw[iA];by_cases h:k=i
     ·simp_all
     ·rw[if_neg h,if_neg h];exact b.rel i
theorem ML{n:Nat} {ops:List Oper} {o:Oper} (a:kE n ops o=none) (y:Nat->Option Bool):Region.wanted o y=true:=by
 grind[kE,Region.wanted]
theorem Rk(m:TR Δ n t a) {ops:Array Oper} {o:Oper} {g:GF} (e:kE n ops.toList o=some g) {b:Bool} (h:g.f t=some b):Region.wanted o (yielded ops a.tmps)=b:=by
 unfold kE at e;unfold Region.wanted
 cases hg:o.guard with
 |none=>simp_all
 | some q =>
   let⟨j,wt⟩:=q
   simp only[hg]at e⊢;unfold yielded
   cases hj:ops.toList[j]? with
   | none=>
     grind
   | some p=>
     have l:ops[j]? =some p:=by rw[<-wBD];exact hj
     simp[hj]at e;simp[l,Option.bind_some]
     cases hd:p.dst with
     | none=>
       grind
     | some d=>
       simp[hd]at e;simp
       cases FX:Nat.blt d n with
       |false=>grind
       | true=>
         simp[FX]at e;cases e;have i:d<a.tmps.size:=by rw[m.size,<-WE];exact FX
         have k:=m.rel d;have r:a.tmps[d]? =some (a.tmps.getD d undef):=by simp[i]
         rw[r];generalize a.tmps.getD d undef=x at k;simp only at h;split at h
         ·rename_i s c
          cases h;rw[c]at k;cases k;cases wt <;> cases s <;> rfl
         ·rename_i c
          cases h;rw[c]at k;cases k <;> grind
         ·cases h
structure An (Δ:Env) (h:Hp) (w:World) (n:Nat) (t':Tm) (h':Hp) (a:Env) (b:Act) (w':World):Prop where
 tmps:TR a n t' b
 world:WR a h' w'
 frame:FR Δ a w w'
 grow:Gr h Δ h' a
theorem An.start(b:TR Δ n t a)(c:WR Δ h w):An Δ h w n t h Δ a w:=⟨b,c,.refl _ _,.refl _ _⟩
theorem An.trans{a b:Env} {c d:Hp} {w1 w2:World} {g e:Tm} {i f:Act} (x:An Δ h w n g c a i w1) (y:An a c w1 n e d b f w2):An Δ h w n e d b f w2:=
 ⟨y.tmps,y.world,x.frame.trans y.frame,x.grow.trans y.grow⟩
theorem An.put(g:TR Δ n t a) {o:Oper} {d:DF} (b:xe n o=some d) {v:V} {h':Hp} {e:Env} {x:Value} {w':World} (c:FU Δ h w v h' e x w') :
  An Δ h w n (d.f t v) h' e (a.put o.dst x) w':=
 ⟨O9 (g.mono c.frame.le) b c.val,c.world,c.frame,c.grow⟩
theorem zcj (hc:wm call) {ops:Array Oper} {i:Nat} {o:Oper} (hi:ops[i]? =some o) {c:SF} {K:Act->World->Prop} {Q:Exit->Act->World->Prop}
  (m:WR Δ h w) (e:TR Δ n t a) {r:Tm×Hp} (hv:(GP n ops.toList o c).f call t h=some r)
  (p:∀t' h' q s w',c.f call t' h' = some r->An Δ h w n t' h' q s w'->K s w'):wpOp P0 ops Q i K a w:=by
 unfold GP at hv;unfold wpOp;simp[hi]
 cases hdst:xe n o with
 |none=>simp[hdst]at hv;cases hv
 | some d=>
   simp [hdst]at hv;have y:∀x,oB ((Ek o).f call t h) (λr=>c.f call (d.f t r.1) r.2)=some x->x=r->o.wp P0 a w K Q:=by
     intro x u j;subst j;rw[fy]at u
     let⟨⟨v,h'⟩,k,l⟩:=u
     exact Q5 hc m e k λq x w' z=>p _ _ _ _ _ l (An.put e hdst z)
   cases hg:kE n ops.toList o with
   | none=>
     simp[hg]at hv;rw[if_pos (ML hg _)]
     grind
   | some g=>
     simp only[hg,fy]at hv
     let⟨b,k,l⟩:=hv
     rw[Rk e hg k]
     cases b with
     |true=>simp_all
     |false=>exact p _ _ _ _ _ l (An.put e hdst ⟨.undef Δ,m,.refl _ _,.refl _ _⟩)
theorem DU (hc:wm call) {ops:Array Oper} {Q:Exit->Act->World->Prop}:∀l k,l=ops.toList.drop k->∀{Δ:Env} {h:Hp} {w:World} {t:Tm} {a:Act},
  WR Δ h w->TR Δ n t a->∀{r:Tm×Hp},(lZ n ops.toList l).f call t h=some r->(∀e b w',An Δ h w n r.1 r.2 e b w'->Q .normal b w')->
  wpOps P0 ops Q (List.range' k l.length) a w
 | [],k,hl,Δ,h,w,t,a,hW,hT,r,hv,hQ=>by
   cases hv
   exact hQ _ _ _ (.start hT hW)
 | o ::l,k,hl,Δ,h,w,t,a,hW,hT,r,hv,hQ=>by
   have g:ops[k]? =some o:=by
     have:(ops.toList.drop k)[0]? =some o:=by rw[<-hl];rfl
     rw[wBX,Nat.add_zero]at this;simpa using this
   have c:l=ops.toList.drop (k+1):=by
     rw[<-wBl,<-hl];rfl
   rw[MZ,List.range'_succ];refine zcj hc g hW hT hv λt' h' e b w' i d=>?_;exact DU hc l (k+1) c d.world d.tmps i λj m p q=>hQ _ _ _ (d.trans q)
def Ct(c:Code) (Q:Exit->Act->World->Prop) (a:Act) (w:World):Prop:=∀b k cs,∃e d w',Q e d w'/\Arrives P0 (lone (b.at a (.code c:: .inLoop c::k)) cs w) b k cs e d w'
theorem Ct.round {Q:Exit->Act->World->Prop} {a:Act} {w:World} (h:c.wp P0 (Exit.then (Ct c Q) Q) a w):Ct c Q a w:=by
 intro b k cs
 let⟨e,a₁,w₁,hq,harr⟩:=h b (.inLoop c::k) cs
 cases e with
 | normal=>
   let⟨e₂,a₂,w₂,hq₂,harr₂⟩:=hq b k cs
   exact⟨e₂,a₂,w₂,hq₂,.of_steps (Steps.trans harr (.one step_inLoop)) harr₂⟩
 |exit id=>exact⟨_,a₁,w₁,hq,.pass rfl (by simp_all) harr⟩
 |goto l=>exact⟨_,a₁,w₁,hq,.pass rfl (by simp_all) harr⟩
 |ret=>exact⟨_,a₁,w₁,hq,.pass rfl (by simp_all) harr⟩
 |panic ch=>exact⟨_,a₁,w₁,hq,.pass rfl (by simp_all) harr⟩
 |outgrown=>exact⟨_,a₁,w₁,hq,.pass rfl (by simp_all) harr⟩
theorem Ct.wp {Q:Exit->Act->World->Prop} {a:Act} {w:World} (h:Ct c Q a w):(Code.loop c).wp P0 Q a w:=
 λb k cs=>let⟨e,a',w',q,r⟩:=h b k cs;⟨e,a',w',q,.of_steps (.one step_loop) r⟩
def X.to:X->Exit
 | .normal=> .normal
 | .exit id=> .exit id
 | .ret=> .ret
theorem WR.same(i:WR Δ h w) {h':Hp} (k:h'.next=h.next) (j:∀l,h'.get l=h.get l):WR Δ h' w:=
 ⟨λl d hl=>by rw[k];exact i.fresh l d hl,i.Bt,λl d hl=>by rw[j];exact i.obj l d hl,λl n d p o q a b c e f=>by rw[j]at e f;exact i.apart l n d p o q a b c e f,
  λg o hl m=>by rw[j]at m;exact i.Ja g o hl m,by rw[k];exact i.yB,i.WZ⟩
theorem run_choose(q:Question) (w:World):(choose q).run P0 w=if q.forced then .ok 0 w else .ok (q.cut (w.tape w.drawn q)) {w with drawn:=w.drawn+1}:=by
 unfold choose;simp[Sem.run]
theorem YU(v:WR Δ h w) {r m c:Nat} {seen:List Nat} {es:List (V×V×Nat)} {M:Value} {ty:Nat} (hi:fU Δ (.ptr r 0) M) (N:h.get r=some (.iter (some m) c seen c)) (O:h.get m=some (.map es c)) :
  ∃x w',(Instr.next M false ty).run P0 w = .ok x w'/\(((∀e∈es,e.2.2∈seen)/\x = .tuple #[.bool false]/\w' = w)\/
   ∃e∈es,e.2.2 ∉ seen/\FU Δ h w (.tuple [.bool true,e.1,e.2.1]) (h.put r (.iter (some m) c (seen++[e.2.2]) c)) Δ x w'):=by
 cases hi with
 | ptr _ _ d hd=>
   let⟨o',ho,hr⟩:=v.obj r d hd
   rw[N]at ho;cases ho;obtain⟨U,G,P,Y,H,o,p,rfl⟩:=hr
   let⟨jM,hb,he⟩:=Mx v p O
   have q:=HB v p O;have z:∀e'∈jM.toList,e'.born<c:=λe' h'=>by
     let⟨i,hi⟩:=mG.1 h'
     have A:i<es.length:=by rw[he.length];exact(j6.1 hi).1
     let⟨e2,E,_,_,F⟩:=he.get (hN A)
     rw[hi]at E;cases E;rw[F];exact q.2 _ (AQ A)
   have g:(!seen.toArray.isEmpty&&!jM.isEmpty&&jM.all (λe=>decide (e.born >= c)))=false:=by
     cases hx:jM.toList with
     |nil=>have:jM.isEmpty=true:=by rw[<-Array.isEmpty_toList,hx];rfl
           rw[this];simp
     | cons e l=>
       have h0:=z e (by rw[hx];simp);have:jM.all (λe=>decide (e.born >= c))=false:=by
         rw[<-Array.all_toList,hx,wBq,JH (by omega)];rfl
       rw[this];simp
   have a:=WX he (λn=>!seen.contains n);have s:(jM.filter λe=>!seen.toArray.contains e.born)=Array.mk (jM.toList.filter λe=>!seen.contains e.born):=by
     apply Array.ext';rw[Array.toList_filter];simp
   rw[P];generalize hL:(jM.toList.filter λe=>!seen.contains e.born)=L at a s;have B:∀e∈L,e.born<c:=λe h'=>by rw[<-hL]at h';exact z e (wBA.1 h').1
   have Q:(Array.mk L).filter (λx=>decide (x.born<c))=Array.mk L:=by
     apply Array.ext';rw[Array.toList_filter];exact List.filter_eq_self.2 λe h'=>No (B e h')
   have R:(Array.mk L).filter (λx=>decide (x.born >= c)) = #[]:=by
     apply Array.ext';rw[Array.toList_filter];exact List.filter_eq_nil_iff.2 λe h'=>by simp;exact B e h'
   cases L with
   | nil =>
     refine⟨_,w,?_,.inl ⟨λe h'=>?_,rfl,rfl⟩⟩
     ·simp only[Instr.next,CD,zd H,Gy,run_getObj_map hb,g,s,Q,R]
      simp[Question.forced]
     ·cases hleft':es.filter (λe=>!seen.contains e.2.2)with
      | nil=>
        have:=List.filter_eq_nil_iff.1 hleft' e h'
        simpa using this
      |cons x y=>rw[hleft']at a;cases a
   | cons e0 L=>
     have W:∃j w1,(choose (.mapNext (e0::L).length)).run P0 w = .ok j w1/\j<(e0::L).length/\(w1=w\/w1 = {w with drawn:=w.drawn+1}):=by
       rw[run_choose];split
       ·exact⟨0,w,rfl,by simp,.inl rfl⟩
       ·exact⟨_,_,rfl,Nat.mod_lt _ (by simp),.inr rfl⟩
     let⟨j,w1,hc,hjl,hw1⟩:=W
     have C:j<(es.filter λe=>!seen.contains e.2.2).length:=by rw[a.length];exact hjl
     let⟨e',E,S,T,F⟩:=a.get (hN C)
     generalize hee:(es.filter λe=>!seen.contains e.2.2)[j]=e at S T F;have I:e∈es.filter λe=>!seen.contains e.2.2:=by rw[<-hee];exact AQ C
     let⟨hem1,hem2⟩:=wBA.1 I
     have X:=v.Bt _ _ hd;have k:w1.heap=w.heap:=by rcases hw1 with rfl|rfl <;> rfl
     have f:∀b,b≠d.b->({w1 with heap:=w.heap.setIfInBounds d.b (.mapIter (some o.b) c (seen++[e.2.2]).toArray c)}:World).heap[b]? =w.heap[b]?:=by grind
     refine⟨.tuple #[.bool true,e'.key,e'.val],{w1 with heap:=w.heap.setIfInBounds d.b (.mapIter (some o.b) c (seen++[e.2.2]).toArray c)},?_,.inr ⟨e,hem1,by simpa using hem2,?_⟩⟩
     ·have t:(((if(Array.mk (e0::L)).isEmpty then #[none] else #[])++(Array.mk (e0::L)++#[]).map some:Array (Option MapEntry)))[j]? =some (some e'):=by
        simp only[Array.isEmpty_iff,Array.append_empty];rw[if_neg (by simp)];simp only[Array.empty_append,List.map_toArray,List.getElem?_toArray,wA8,E,Option.map_some]
      have J:((if(Array.mk (e0::L)).isEmpty then #[none] else #[])++(Array.mk (e0::L)++#[]).map some:Array (Option MapEntry)).size=(e0::L).length:=by simp
      simp only[Instr.next,CD,zd H,Gy,run_getObj_map hb,g,s,Q,R];rw[if_neg (by simp),J];simp only[CD,hc,Gy,t];have D:(setObj d.b (.mapIter (some o.b) c (seen.toArray.push e'.born) c)).run P0 w1 = .ok () {w1 with heap:=w.heap.setIfInBounds d.b (.mapIter (some o.b) c (seen++[e.2.2]).toArray c)}:=by
        have K:w1.heap[d.b]? =some (.mapIter (some o.b) c seen.toArray c):=by rw[k];exact H
        have hp:seen.toArray.push e'.born=(seen++[e.2.2]).toArray:=by rw[F];simp
        rw[hp];unfold setObj;simp[Sem.run,K];rw[k]
      simp only[CD,D,Gy,Tu]
     ·have u:w1.os=w.os/\w1.tape=w.tape/\w1.output=w.output:=by rcases hw1 with rfl|rfl <;> exact⟨rfl,rfl,rfl⟩
      refine⟨.tuple _ #[.bool true,e'.key,e'.val] (.cons _ _ _ _ (.bool true) (.cons _ _ _ _ S (.one T))),?_,FR.set hd G (by simp) f u.1 u.2.1 u.2.2,.same (jj _)⟩;refine v.set hd N rfl G (λh=>h) ⟨U,G,P,some o.b,?_,o,p,rfl⟩ (by simp) f
      simp_all
theorem QY{n:Nat}   (h:zg n c=some F):∃i0 r0 b g r1 i r2 a o2 p1 p2 p3 d e f,
  c = .seq (.region i0 r0 false) (.seq (.cond (.tmp F.c) .skip (.exit F.x)) (.block b (.seq (.region g r1 false) (.region i r2 false))))/\
  r0.toList=[a,o2]/\r1.toList=[p1,p2,p3]/\r2.toList=[d,e,f]/\F.ok n=true/\F.r0 a o2=true/\F.r1 p1 p2 p3=true/\F.r2 d e f=true:=by
 unfold zg at h;split at h
 ·split at h
  ·rename_i e0 e1 e2;split at h
   ·split at h
    ·rename_i hc;cases h;simp only[xB]at hc
     let⟨⟨⟨⟨⟨j,k⟩,l⟩,m⟩,o⟩,p⟩:=hc
     rw[<-Cj o,<-Cj p];exact⟨_,_,_,_,_,_,_,_,_,_,_,_,_,_,_,rfl,e0,e1,e2,j,k,l,m⟩
    ·cases h
   ·cases h
  ·cases h
 ·cases h
theorem zdU  (h:F.r0 b o2=true):b.op = .next (.tmp F.it) false/\b.dst=some F.a/\b.guard=none/\o2.op = .extract (.tmp F.a) 0/\o2.dst=some F.c/\o2.guard=none:=by
 unfold nG.r0 at h;split at h
 ·simp[ Nat.beq_eq]at h
  simp_all
 ·cases h
theorem zf2 {a:Oper} (h:F.r1 a o2 b=true):a.op = .entry (.tmp F.it)/\a.dst=some F.e0/\a.guard=none/\o2.op = .extract (.tmp F.e0) 0/\o2.dst=some F.e1/\o2.guard=none/\
  b.op = .assign (.tmp F.e1)/\b.dst=some F.e2/\b.guard=none:=by
 unfold nG.r1 at h;split at h
 ·simp[ Nat.beq_eq]at h
  simp_all
 ·cases h
theorem zf4 {a:Oper} (h:F.r2 a o2 b=true):a.op = .move (.tmp F.u)/\a.dst=some F.m0/\a.guard=none/\o2.op = .move (.tmp F.e2)/\o2.dst=some F.m1/\o2.guard=none/\
  b.op = .mapUpdate F.ty (.tmp F.m0) (.tmp F.m1) (.const (.bool true))/\b.dst=none/\b.guard=none:=by
 unfold nG.r2 at h;split at h
 ·simp[ Nat.beq_eq]at h
  simp_all
 ·cases h
theorem xY {all os:List Oper} {o:Oper} {d:DF} (a:o.guard=none) (hd:xe n o=some d) {v:V} {h':Hp} (b:(Ek o).f call t h=some (v,h')) :
  (lZ n all (o::os)).f call t h=(lZ n all os).f call (d.f t v) h':=by
 show(GP n all o (lZ n all os)).f call t h=_;have c:kE n all o=none:=by unfold kE;rw[a]
 unfold GP;simp[hd,c,b];rfl
theorem AK{o:Oper}  (a:o.dst=some d) (hd:Nat.blt d n=true):xe n o=some ⟨λt v=>t.set d v⟩:=by
 unfold xe;simp[a,hd]
theorem zaI{o:Oper} (a:o.dst=none):xe n o=some ⟨λt _=>t⟩:=by
 unfold xe;simp[a]
theorem Rg {o:Oper} (hc:cls o=2) {v:V} {h':Hp} (a:(j8 o).f t h=some (.val v h')):(Ek o).f call t h=some (v,h'):=by
 unfold Ek;simp[hc,a,oB]
theorem zcA{kt:Nat} (hi:He kt=true) {k:IntKind} {us:List (V×V×Nat)} (cu:Nat) (f:∀e∈us,e.2.1 = .bool true/\∃n,e.1 = .int k n) (n:Int) :
  ∃a g,Bl kt none us cu (.int k n) (.bool true)=some (.map a g)/\(∀e∈a,e.2.1 = .bool true/\(e.1 = .int k n\/∃e'∈us,e'.1=e.1))/\(∃e∈a,e.1 = .int k n)/\∀e∈us,∃e'∈a,e'.1=e.1:=by
 rcases K0 hi k n 0 f with⟨h,d⟩|⟨j,e,h,d,i⟩
 ·refine⟨us++[(.int k n,.bool true,cu)],cu+1,by unfold Bl;rw[h];rfl,λe b=>?_,⟨_,wBO _ (Et.2 rfl),rfl⟩,λe b=>⟨e,Xy _ b,rfl⟩⟩;rcases vU.1 b with b|b
  ·exact⟨(f e b).1,.inr ⟨e,b,rfl⟩⟩
  ·simp at b;subst b;exact⟨rfl,.inl rfl⟩
 ·have l:=(j6.1 d).1;refine⟨us.set j (.int k n,.bool true,e.2.2),cu,?_,λx c=>?_,⟨_,mG.2 ⟨j,Qk l⟩,rfl⟩,λx c=>?_⟩
  ·unfold Bl;rw[h];simp[oB,Gg,d,i,V.DH];rfl
  ·rcases wBJ c with c|rfl
   ·exact⟨(f x c).1,.inr ⟨x,c,rfl⟩⟩
   ·exact⟨rfl,.inl rfl⟩
  ·let⟨q,hq⟩:=mG.1 c
   by_cases hqj:j=q
   ·subst hqj;rw[d]at hq;cases hq;exact⟨_,mG.2 ⟨j,Qk l⟩,i.symm⟩
   ·exact⟨x,mG.2 ⟨q,by rw[Qp hqj];exact hq⟩,rfl⟩
theorem find_born{es:List (V×V×Nat)} {e:V×V×Nat} (b:(es.map λe=>e.2.2).Nodup) (a:e∈es):(es.find? λx=>Nat.beq x.2.2 e.2.2)=some e:=by
 induction es with
 |nil=>cases a
 | cons x es c=>
   simp only[ZO,Tz]at b;rcases yt.1 a with rfl|a
   ·simp
   ·have mD:x.2.2≠e.2.2:=λd=>b.1 (d▸Ov.2 ⟨e,a,rfl⟩)
    rw[List.find?_cons_of_neg (by simpa using mD)];exact c b.2 a
theorem TE{k:IntKind}:∀{es:List (V×V×Nat)} {ks:List Int},Nr k es=some ks->(∀e∈es,e.2.1 = .bool true/\∃n∈ks,e.1 = .int k n)/\∀n∈ks,∃e∈es,e.1 = .int k n
 |[],ks,hk=>by cases hk;simp
 | e ::es,ks,hk=>by
   simp[Nr,fy]at hk
   let⟨n,d,ns,i,j⟩:=hk
   cases j;have f:e.2.1 = .bool true/\e.1 = .int k n:=by
     unfold zet at d;split at d
     ·rw[il]at d
      let⟨l,o⟩:=d
      cases o;rw[DA l];exact⟨rfl,rfl⟩
     ·cases d
   let⟨p,q⟩:=TE i
   refine⟨λx g=>?_,λm h=>?_⟩
   ·rcases yt.1 g with rfl|g
    ·exact⟨f.1,n,by simp,f.2⟩
    ·let⟨a,m,b,c⟩:=p x g
     exact⟨a,m,by simp[b],c⟩
   ·rcases yt.1 h with rfl|h
    ·exact⟨e,by simp,f.2⟩
    ·let⟨x,a,b⟩:=q m h
     exact⟨x,by simp[a],b⟩
structure FI (F:nG) (r m u c:Nat) (es:List (V×V×Nat)) (h0:Hp) (t0:Tm) (seen:List Nat) (h:Hp) (t:Tm):Prop where
 next:h.next=h0.next
 fm:∀l,l≠r->l≠u->h.get l=h0.get l
 iter:h.get r=some (.iter (some m) c seen c)
 put:∃us cu,h.get u=some (.map us cu)/\(∀e∈us,e.2.1 = .bool true/\∃e'∈es,e'.1=e.1)/\∀e∈es,e.2.2∈seen->∃e'∈us,e'.1=e.1
 ds:t.ds=t0.ds
 yj:∀i,i ∉ F.all.drop 2->ij t i=ij t0 i
 none:es=[]->∀i,i≠F.a->i≠F.c->ij t i=ij t0 i
 some:seen≠[]->(∃n,ij t F.e0 = .tuple [.int F.k n,.bool true])/\(∃n,ij t F.e1 = .int F.k n)/\(∃n,ij t F.e2 = .int F.k n)/\ij t F.m0 = .map u/\∃n,ij t F.m1 = .int F.k n
theorem QM:∀{l:List Nat},RU l=true->l.Pairwise (·≠·)
 |[],_=> .nil
 | a::l,h=>by
   simp[RU,xB]at h;exact .cons (λb c e=>by have:=h.1 b c;subst e;simp at this) (QM h.2)
theorem Zi (hc:wm call) {F:nG} {ar:Code} (hF:zg n ar=some F) {r m u c:Nat} {es:List (V×V×Nat)} {h0:Hp} {t0:Tm} {w0:World} {Δ0:Env} {ks:List Int} (aT:Nr F.k es=some ks)
  (aa:r≠u) (aU:u≠m) (au:r≠m) (aV:h0.get m=some (.map es c)) (ab:ij t0 F.it = .ptr r 0) (aw:ij t0 F.u = .map u) {Q:Exit->Act->World->Prop}
  (hQ:∀Δ' a' w',An Δ0 h0 w0 n (F.t u es.isEmpty t0) ((h0.put r .gone).put u (.Qj F.k ks)) Δ' a' w'->Q (.exit F.x) a' w') :
  ∀(k:Nat) (seen:List Nat) {Δ:Env} {h:Hp} {w:World} {t:Tm} {a:Act},(es.filter λe=>!seen.contains e.2.2).length<=k->An Δ0 h0 w0 n t h Δ a w->FI F r m u c es h0 t0 seen h t->Ct ar Q a w:=by
 obtain ⟨i0,r0,b,i1,r1,i2,r2,⟨_,_,T,ac,ad,_⟩,⟨_,_,ae,ag,ah,_⟩,⟨_,_,ax,ay,az,_⟩,⟨_,_,aW,aX,aY,_⟩,⟨_,_,aZ,a0,a1,_⟩,⟨_,_,a5,a6,a7,_⟩,⟨_,_,a8,a9,ba,_⟩,⟨_,_,aA,aB,aC,_⟩,rfl,e0,e1,e2,aD,g0,g1,g2⟩:=QY hF;obtain⟨rfl,rfl,rfl,rfl,rfl,rfl⟩:=zdU g0;obtain⟨rfl,rfl,rfl,rfl,rfl,rfl,rfl,rfl,rfl⟩:=zf2 g1;obtain⟨rfl,rfl,rfl,rfl,rfl,rfl,rfl,rfl,rfl⟩:=zf4 g2;clear g0 g1 g2 hF;simp only[nG.ok,xB,Rh]at aD;obtain⟨⟨⟨bb,bc⟩,ai⟩,aE⟩:=aD;have mD:=QM bc;simp only[nG.all,List.pairwise_cons,yt,List.not_mem_nil,or_false,forall_eq_or_imp,forall_eq,false_imp_iff,implies_true,List.Pairwise.nil,and_true]at mD;have hl:∀d,d=F.a\/d=F.c\/d=F.e0\/d=F.e1\/d=F.e2\/d=F.m0\/d=F.m1->Nat.blt d n=true:=λd hd=>bb d (by simp only[nG.all,yt];grind);obtain⟨kt,et,hu,rfl⟩:∃kt et,P0.underlying F.ty=some (.map kt et)/\kt=F.kt:=by
  split at ai
  ·rename_i kt et hu;exact⟨kt,et,hu,Cj ai⟩
  ·cases ai
 have hi:He F.kt=true/\Ke F.kt=some none:=by
  split at aE
  ·rename_i k hk;unfold He Ke;rw[hk];exact⟨rfl,rfl⟩
  ·cases aE
 obtain ⟨hi,bd⟩:=hi;have be:List.range r0.size=[0,1]:=by
  have:r0.size=2:=by rw[<-wBG,e0];rfl
  rw[this];rfl
 have bf:r0[0]? =some ⟨some F.a,.next (.tmp F.it) false,T,ac,ad,none⟩:=by rw[<-wBD,e0];rfl
 have y:=TE aT;intro k
 induction k using Nat.strongRecOn with
 |_ k ih=>
 intro seen Δ h w t a hk hG q;have aj:F.it ∉ F.all.drop 2:=by simp only[nG.all,List.drop,yt,List.not_mem_nil];grind
 have uT:F.u ∉ F.all.drop 2:=by simp only[nG.all,List.drop,yt,List.not_mem_nil];grind
 have ak:h.get m=some (.map es c):=by rw[q.fm m au.symm aU.symm];exact aV
 have al:fU Δ (.ptr r 0) (a.eval (.tmp F.it)):=by
  have:=hG.tmps.rel F.it;rw[q.yj F.it aj,ab]at this;exact this
 refine .round (wp_seq (wp_region ?_));rw[be,wpOps_cons];unfold wpOp;simp only[bf];rw[if_pos (ML (n:=n) (ops:=r0.toList) rfl _)];refine .inl ?_;unfold Oper.wp;obtain⟨x,w1,B,am⟩:=YU hG.world (ty:=T) al q.iter ak;rw[show(execOp a.eval ⟨some F.a,.next (.tmp F.it) false,T,ac,ad,none⟩).run P0 w = .ok (.value x) w1 from qd B,Oper.upon_value];have d1:=AK (n:=n) (o:=⟨some F.a,.next (.tmp F.it) false,T,ac,ad,none⟩) rfl (hl _ (by simp));have ext:∀{h:Hp} (v:V) (vs:List V),(Ek ⟨some F.c,.extract (.tmp F.a) 0,ae,ag,ah,none⟩).f call (t.set F.a (.tuple (v::vs))) h=some (v,h):=λv vs=>by
  show oB (oB (some (ij (t.set F.a (.tuple (v::vs))) F.a)) λx=>match x with| .tuple vs=>MF vs 0|_=>none) _=_;rw[iA,if_pos rfl];rfl
 have aF:∀{h:Hp} (v:V) (vs:List V),(lZ n r0.toList [⟨some F.c,.extract (.tmp F.a) 0,ae,ag,ah,none⟩]).f call (t.set F.a (.tuple (v::vs))) h=some ((t.set F.a (.tuple (v::vs))).set F.c v,h):=λv vs=>by
  rw[xY rfl (AK rfl (hl F.c (by simp))) (ext v vs)];rfl
 have I:∀{v:V} {vs:List V} {p:Hp} {Δ1:Env} {Q2:Exit->Act->World->Prop},FU Δ h w (.tuple (v::vs)) p Δ1 x w1->(∀R C w2,An Δ0 h0 w0 n ((t.set F.a (.tuple (v::vs))).set F.c v) p R C w2->Q2 .normal C w2)->
   wpOps P0 r0 Q2 [1] (a.put (some F.a) x) w1:=λhA hK=>by
  have hP:=An.put hG.tmps d1 hA;exact DU hc (ops:=r0) [⟨some F.c,.extract (.tmp F.a) 0,ae,ag,ah,none⟩] 1 (by rw[e0];rfl) hP.world hP.tmps (aF _ _) (λR C w2 z=>hK R C w2 ((hG.trans hP).trans z))
 rcases am with⟨aG,rfl,rfl⟩|⟨e,he,U,hA⟩
 ·
  refine I (v:= .bool false) (vs:=[]) ⟨.tuple _ #[.bool false] (.one (.bool false)),hG.world,.refl _ _,.refl _ _⟩ λR C w2 z=>?_;have an:C.eval (.tmp F.c) = .bool false:=by
   have:=z.tmps.rel F.c;rw[iA,if_pos rfl]at this;cases B:C.eval (.tmp F.c) <;> rw[show C.tmps.getD F.c undef=_ from B]at this <;> cases this;rfl
  refine wp_seq (wp_cond_false an (wp_exit ?_));have L:∀e∈es,e.2.2∈seen:=aG;have M:=z.tmps.rel;have bg:∃d,R r=some d:=by
   have:=M F.it;rw[iA,if_neg (by grind),iA,if_neg (by grind),q.yj F.it aj,ab]at this;generalize C.tmps.getD F.it undef=x at this;cases this with|ptr _ _ d hd=>exact⟨d,hd⟩
  have bi:∃d,R u=some d:=by
   have:=M F.u;rw[iA,if_neg (by grind),iA,if_neg (by grind),q.yj F.u uT,aw]at this;generalize C.tmps.getD F.u undef=x at this;cases this with|map _ d hd=>exact⟨d,hd⟩
  obtain⟨us,cu,p1,p2,p3⟩:=q.put;refine hQ R C w2 ⟨⟨z.tmps.size,λi=>?_,?_⟩,?_,z.frame,⟨jj _,z.grow.none⟩⟩
  ·have g:=M i;generalize C.tmps.getD i undef=x at g;simp only[iA]at g;unfold nG.t
   cases U:es.isEmpty with
   | true=>
     simp only[iA];by_cases hc1:F.c=i
     ·rw[if_pos hc1]at g⊢;exact g
     ·rw[if_neg hc1]at g⊢
      by_cases hc2:F.a=i
      ·rw[if_pos hc2]at g⊢;exact g
      ·rw[if_neg hc2]at g⊢
       rw[q.none (List.isEmpty_iff.1 U) i (Ne.symm hc2) (Ne.symm hc1)]at g
       exact g
   | false=>
     have bj:seen≠[]:=by
       cases es with
       |nil=>cases U
       |cons e es=>intro A;have:=L e (by simp);rw[A]at this;cases this
     obtain⟨⟨k0,s0⟩,⟨k1,s1⟩,⟨k2,s2⟩,s3,⟨k4,s4⟩⟩:=q.some bj;simp only[iA];by_cases hc1:F.c=i
     ·rw[if_pos hc1]at g⊢;exact g
     rw[if_neg hc1]at g⊢;by_cases hc2:F.a=i
     ·rw[if_pos hc2]at g⊢;exact g
     rw[if_neg hc2]at g⊢;by_cases hc3:F.m1=i
     ·subst hc3
      rw[if_pos rfl];rw[s4]at g;cases g;exact .anyI _ _
     rw[if_neg hc3];by_cases hc4:F.m0=i
     ·subst hc4
      rw[if_pos rfl];rw[s3]at g;exact g
     rw[if_neg hc4];by_cases hc5:F.e2=i
     ·subst hc5
      rw[if_pos rfl];rw[s2]at g;cases g;exact .anyI _ _
     rw[if_neg hc5];by_cases hc6:F.e1=i
     ·subst hc6
      rw[if_pos rfl];rw[s1]at g;cases g;exact .anyI _ _
     rw[if_neg hc6];by_cases hc7:F.e0=i
     ·subst hc7
      rw[if_pos rfl];rw[s0]at g
      cases g with
      | tuple _ qF A=>
        refine .tuple _ qF ?_;generalize qF.toList=l at A
        cases A with
        |cons _ _ _ _ p z=>cases p;exact .cons _ _ _ _ (.anyI _ _) z
     rw[if_neg hc7];rw[q.yj i (by simp only[nG.all,List.drop,yt,List.not_mem_nil];grind)]at g;exact g
  ·have hd:=z.tmps.ds;rw[Tm.Fx,Tm.Fx,q.ds]at hd;unfold nG.t;rw[Tm.Fx,Tm.Fx]
   cases es.isEmpty with
   |true=>exact hd
   |false=>simp only[Tm.Fx];exact hd
  ·obtain ⟨dr,aH⟩:=bg;obtain⟨du,aI⟩:=bi;have aJ:WR R (h.put r .gone) w2:=by
    obtain⟨o,J,N⟩:=z.world.obj r dr aH;rw[q.iter]at J;cases J;obtain⟨b1,b2,b3,_⟩:=N;exact z.world.set aH q.iter rfl b2 (λ_=>rfl) ⟨b1,b2,b3⟩ rfl λ_ _=>rfl
   have aK:(h.put r .gone).get u=some (.map us cu):=by rw[jP _ _ (Hp.Cs q.iter),if_neg aa];exact p1
   have bm:WR R ((h.put r .gone).put u (.Qj F.k ks)) w2:=by
    obtain⟨o,J,N⟩:=aJ.obj u du aI;rw[aK]at J;cases J;obtain⟨b1,b2,b3,jM,b4,b5,_⟩:=N;refine aJ.set aI aK rfl b2 (λ_=>rfl) ⟨b1,b2,b3,jM,cu,b4,λe' bo=>?_,λW hn=>?_⟩ rfl λ_ _=>rfl
    ·obtain⟨j,hj⟩:=mG.1 bo;have aL:j<us.length:=by rw[b5.length];exact(j6.1 hj).1
     obtain⟨x',y1,S,y3,_⟩:=b5.get (i:=j) (hN aL);rw[hj]at y1;cases y1;obtain⟨z1,e9,z2,z3⟩:=p2 _ (AQ aL);obtain⟨_,W,z4,z5⟩:=y.1 e9 z2;rw[<-z3,z5]at S;rw[z1]at y3;refine⟨?_,W,z4,?_⟩
     ·cases B:e'.val <;> rw[B]at y3 <;> cases y3;rfl
     ·cases B:e'.key <;> rw[B]at S <;> cases S;rfl
    ·obtain⟨e9,z2,z5⟩:=y.2 W hn;obtain⟨e8,z6,z7⟩:=p3 e9 z2 (L e9 z2);obtain⟨j,hj⟩:=mG.1 z6;obtain⟨x',y1,S,y3,_⟩:=b5.get (i:=j) hj;rw[z7,z5]at S;refine⟨x',mG.2 ⟨j,y1⟩,?_⟩;cases B:x'.key <;> rw[B]at S <;> cases S;rfl
   have D:r<h0.next:=by rw[<-q.next];exact Hp.Cs q.iter
   have K:u<h0.next:=by rw[<-q.next];exact Hp.Cs p1
   refine bm.same (by show h0.next=h.next;exact q.next.symm) λl=>?_;rw[jP _ _ (by show u<h0.next;exact K),jP _ _ D,jP _ _ (by show u<h.next;rw[q.next];exact K),jP _ _ (by rw[q.next];exact D)];by_cases Z:u=l
   ·rw[if_pos Z,if_pos Z]
   ·rw[if_neg Z,if_neg Z];by_cases l2:r=l
    ·rw[if_pos l2,if_pos l2]
    ·rw[if_neg l2,if_neg l2,q.fm l (Ne.symm l2) (Ne.symm Z)]
 ·
  refine I (v:= .bool true) (vs:=[e.1,e.2.1]) hA λR C w2 z=>?_;have an:C.eval (.tmp F.c) = .bool true:=by
   have:=z.tmps.rel F.c;rw[iA,if_pos rfl]at this;cases B:C.eval (.tmp F.c) <;> rw[show C.tmps.getD F.c undef=_ from B]at this <;> cases this;rfl
  refine wp_seq (wp_cond_true an (wp_skip ?_));refine wp_block (wp_seq (wp_region ?_));have D:r<h.next:=Hp.Cs q.iter;obtain⟨us,cu,p1,p2,p3⟩:=q.put;have K:u<h.next:=Hp.Cs p1;have E:wB es c:=by
   obtain ⟨d,hd⟩:∃d,Δ m=some d:=by
    generalize a.eval (.tmp F.it)=x at al
    cases al with
    | ptr _ _ d hd=>
      obtain⟨o',ho,hr⟩:=hG.world.obj r d hd;rw[q.iter]at ho;cases ho;obtain⟨_,_,_,m',a4,dm,br,_⟩:=hr;exact⟨dm,br⟩
   exact HB hG.world hd ak
  generalize X:(t.set F.a (.tuple [.bool true,e.1,e.2.1])).set F.c (.bool true)=T2 at z;generalize G:h.put r (.iter (some m) c (seen++[e.2.2]) c)=p at z;have gr:p.get r=some (.iter (some m) c (seen++[e.2.2]) c):=by rw[<-G,jP _ _ D,if_pos rfl]
  have gm:p.get m=some (.map es c):=by rw[<-G,jP _ _ D,if_neg au];exact ak
  have gu:p.get u=some (.map us cu):=by rw[<-G,jP _ _ D,if_neg aa];exact p1
  have Y:p.next=h.next:=by rw[<-G];rfl
  have aM:ij T2 F.it = .ptr r 0:=by rw[<-X,iA,if_neg (by grind),iA,if_neg (by grind),q.yj F.it aj,ab]
  have bt:ij T2 F.u = .map u:=by rw[<-X,iA,if_neg (by grind),iA,if_neg (by grind),q.yj F.u uT,aw]
  obtain ⟨ev,W,bC,ek⟩:=y.1 e he;have aN:Mp (.ptr r 0) p=some (.val (.tuple [e.1,e.2.1]) p):=by
   unfold Mp;simp only[vx,wBk,bB,gr,oB,AI,gm,List.getLast?_append,List.getLast?_singleton,Option.some_or,find_born E.1 he]
  have aO:(lZ n r1.toList r1.toList).f call T2 p=some (((T2.set F.e0 (.tuple [e.1,e.2.1])).set F.e1 e.1).set F.e2 e.1,p):=by
   have o1:(Ek ⟨some F.e0,.entry (.tmp F.it),ax,ay,az,none⟩).f call T2 p=some (.tuple [e.1,e.2.1],p):=by
    have ho:(j8 ⟨some F.e0,.entry (.tmp F.it),ax,ay,az,none⟩).f T2 p=Mp (ij T2 F.it) p:=rfl;exact Rg rfl (by rw[ho,aM,aN])
   have o2:∀s,ij s F.e0 = .tuple [e.1,e.2.1]->(Ek ⟨some F.e1,.extract (.tmp F.e0) 0,aW,aX,aY,none⟩).f call s p=some (e.1,p):=λs A=>by
    show oB (oB (some (ij s F.e0)) λx=>match x with| .tuple vs=>MF vs 0|_=>none) _=_;rw[A];rfl
   have o3:∀s,ij s F.e1=e.1->(Ek ⟨some F.e2,.assign (.tmp F.e1),aZ,a0,a1,none⟩).f call s p=some (e.1,p):=λs A=>by
    rw[<-A];rfl
   generalize H:r1.toList=O;rw[H]at e1
   rw [congrArg (lZ n O) e1,xY rfl (AK rfl (hl F.e0 (by simp))) o1,xY rfl (AK rfl (hl F.e1 (by simp))) (o2 _ (by show ij (T2.set _ _) _=_;rw[iA,if_pos rfl])),
    xY rfl (AK rfl (hl F.e2 (by simp))) (o3 _ (by show ij (Tm.set _ _ _) _=_;rw[iA,if_pos rfl]))]
   rfl
  obtain ⟨ao,aq,y1,S,y3,y4⟩:=zcA hi (k:=F.k) cu (us:=us) (λe A=>⟨(p2 e A).1,by
   obtain⟨_,e',J,N⟩:=p2 e A;obtain⟨_,n',_,q3⟩:=y.1 e' J;exact⟨n',N▸q3⟩⟩) W
  have aP:∀T5,ij T5 F.u = .map u->ij T5 F.e2=e.1->(lZ n r2.toList r2.toList).f call T5 p=some ((T5.set F.m0 (.map u)).set F.m1 e.1,p.put u (.map ao aq)):=λT5 k1 k2=>by
   have o1:(Ek ⟨some F.m0,.move (.tmp F.u),a5,a6,a7,none⟩).f call T5 p=some (.map u,p):=by
    rw[<-k1];rfl
   have o2:∀s,ij s F.e2=e.1->(Ek ⟨some F.m1,.move (.tmp F.e2),a8,a9,ba,none⟩).f call s p=some (e.1,p):=λs A=>by
    rw[<-A];rfl
   have o3:∀s,ij s F.m0 = .map u->ij s F.m1=e.1->(Ek ⟨none,.mapUpdate F.ty (.tmp F.m0) (.tmp F.m1) (.const (.bool true)),aA,aB,aC,none⟩).f call s p=some (.undef,p.put u (.map ao aq)):=λs G bu=>by
    have hw:(j8 ⟨none,.mapUpdate F.ty (.tmp F.m0) (.tmp F.m1) (.const (.bool true)),aA,aB,aC,none⟩).f s p=zk F.kt none (.map u) e.1 (.bool true) p:=by
     unfold j8;simp only[hu,bd];show oB (some (ij s F.m0)) (λm=>oB (some (ij s F.m1)) λk=>oB (some (.bool true)) λv=>zk F.kt none m k v p)=_;rw[G,bu];rfl
    refine Rg rfl ?_;rw[hw,ek];unfold zk zy;simp only[Kj,bB,gu,oB,y1]
   generalize H:r2.toList=O;rw[H]at e2
   rw [congrArg (lZ n O) e2,xY rfl (AK rfl (hl F.m0 (by simp))) o1,xY rfl (AK rfl (hl F.m1 (by simp))) (o2 _ (by show ij (T5.set _ _) _=_;rw[iA,if_neg (by grind)];exact k2)),
    xY rfl (zaI rfl) (o3 _ (by show ij (Tm.set _ _ _) _=_;rw[iA,if_neg (by grind)];show ij (T5.set _ _) _=_;rw[iA,if_pos rfl]) (by show ij (Tm.set _ _ _) _=_;rw[iA,if_pos rfl]))]
   rfl
  have aQ:∀ops:Array Oper,List.range ops.size=List.range' 0 ops.toList.length:=λops=>by rw[List.range_eq_range',wBG]
  rw[aQ];refine DU hc (ops:=r1) r1.toList 0 rfl z.world z.tmps aO λΔ3 a3 w3 h3=>wp_region ?_;rw[aQ];refine DU hc (ops:=r2) r2.toList 0 rfl h3.world h3.tmps (aP _ (by simp only[iA];rw[if_neg (by grind),if_neg (by grind),if_neg (by grind)];exact bt) (by rw[iA,if_pos rfl])) λΔ4 a4 w4 h4=>?_;refine ih (es.filter λx=>!(seen++[e.2.2]).contains x.2.2).length ?_ (seen++[e.2.2]) (jj _) (z.trans (h3.trans h4)) ?_
  ·have hf:(es.filter λx=>!(seen++[e.2.2]).contains x.2.2)=(es.filter λx=>!seen.contains x.2.2).filter λx=>!(x.2.2 == e.2.2):=by
    rw[List.filter_filter];congr 1;funext x;rw[VC];simp
    grind
   have bw:e∈es.filter λx=>!seen.contains x.2.2:=wBA.2 ⟨he,by simpa using U⟩;rw[hf];exact EP (List.length_filter_lt_length_iff_exists.2 ⟨e,bw,by simp⟩) hk
  ·refine ⟨Y.trans q.next,λl Z l2=>?_,?_,⟨ao,aq,by rw[jP _ _ (by rw[Y];exact K),if_pos rfl],λx B=>?_,λx B P=>?_⟩,?_,λi aR=>?_,λA=>?_,λ_=>?_⟩
   ·rw[jP _ _ (by rw[Y];exact K),if_neg (Ne.symm l2),<-G,jP _ _ D,if_neg (Ne.symm Z)];exact q.fm l Z l2
   ·rw[jP _ _ (by rw[Y];exact K),if_neg aa.symm];exact gr
   ·refine⟨(S x B).1,?_⟩;rcases(S x B).2 with A|⟨x',bx,A⟩
    ·exact⟨e,he,by rw[ek,A]⟩
    ·obtain⟨_,e',J,N⟩:=p2 x' bx;exact⟨e',J,by rw[N,A]⟩
   ·rcases vU.1 P with P|P
    ·obtain⟨e',J,N⟩:=p3 x B P;obtain⟨bz,q3,q4⟩:=y4 e' J;exact⟨bz,q3,q4.trans N⟩
    ·have bA:=find_born E.1 he;have aS:=find_born E.1 B;rw[Et.1 P,bA]at aS;cases aS;obtain⟨e',J,N⟩:=y3;exact⟨e',J,by rw[N,ek]⟩
   ·simp only[Tm.Fx];rw[<-X];simp only[Tm.Fx];exact q.ds
   ·have g:=aR;simp only[nG.all,List.drop,yt,List.not_mem_nil,or_false,not_or]at aR;simp only[iA];rw[<-X];simp only[iA];rw[if_neg (by grind),if_neg (by grind),if_neg (by grind),if_neg (by grind),if_neg (by grind),if_neg (by grind),if_neg (by grind)];exact q.yj i g
   ·rw[A]at he;cases he
   ·simp only[iA];refine⟨⟨W,?_⟩,⟨W,?_⟩,⟨W,?_⟩,?_,⟨W,?_⟩⟩
    ·rw[if_neg (by grind),if_neg (by grind),if_neg (by grind),if_neg (by grind),if_pos trivial,ek,ev]
    ·rw[if_neg (by grind),if_neg (by grind),if_neg (by grind),if_pos trivial,ek]
    ·rw[if_neg (by grind),if_neg (by grind),if_pos trivial,ek]
    ·rw[if_neg (by grind),if_pos trivial]
    ·rw[if_pos trivial,ek]
theorem zdi (hc:wm call) {F:nG} {d:Code} (x:zg n d=some F) (y:WR Δ h w) (z:TR Δ n t a) {r:X×Tm×Hp} (hv:QW F t h=some r) {Q:Exit->Act->World->Prop}
  (A:∀B s w',An Δ h w n r.2.1 r.2.2 B s w'->Q r.1.to s w'):Ct d Q a w:=by
 unfold QW at hv;rw[uB]at hv;obtain⟨v,off,f,hv⟩:=hv;rw[il,fy]at hv;obtain⟨h0,o,g,hv⟩:=hv;obtain rfl:=Cj h0;split at hv
 ·rename_i m since last;simp only[AA,il,fy,xB]at hv;obtain⟨es,c,i,⟨C,D⟩,ks,j,hv⟩:=hv;obtain rfl:=Cj C;obtain rfl:=Cj D;split at hv
  ·rename_i u E;simp only[il,AA]at hv;obtain⟨k,us,cu,b,l,hv⟩:=hv;cases hv;obtain rfl:=List.isEmpty_iff.1 l;have p:v≠u:=λe=>by subst e;rw[g]at b;cases b
   have q:v≠m:=λe=>by subst e;rw[g]at i;cases i
   exact Zi hc x j p (λe=>by subst e;simp at k) q i f E A _ [] (jj _) (.start z y)
    ⟨rfl,λ_ _ _=>rfl,g,⟨[],cu,b,by simp,by simp⟩,rfl,λ_ _=>rfl,λ_ _ _ _=>rfl,λG=>absurd rfl G⟩
  ·cases hv
 ·cases hv
def Alike(t t':Tm)(x:Operand):Prop:=(Qn x).f t=(Qn x).f t'
theorem J6{t t':Tm} {l:List Operand} (h:∀d,d∈Ci l->ij t d=ij t' d):∀x∈l,Alike t t' x:=by
 induction l with
 |nil=>simp_all
 | cons y l b=>
   intro x a
   cases a with
   | head=>
     unfold Alike
     cases y <;> grind[Ci,Qn]
   | tail _ a=>
     refine b (λd hd=>h d ?_) x a;cases y <;> simp[Ci,hd]
variable{t':Tm}
theorem hH{x:Operand} (a:Alike t t' x):(yi x).f t h=(yi x).f t' h:=by
 unfold Alike at a;cases x <;> grind[yi]
theorem xH:∀{l:List Operand},(∀x∈l,Alike t t' x)->Mt t l=Mt t' l
 |[],_=>rfl
 | x::l,hl=>by
   have a:(Qn x).f t=(Qn x).f t':=hl x (by simp);simp[Mt,a,xH (l:=l) (by simp_all)]
theorem B8:∀{l:List (Nat×Operand)},(∀x∈l,Alike t t' x.2)->uK t l=uK t' l
 |[],_=>rfl
 | x::l,hl=>by
   have a:(Qn x.2).f t=(Qn x.2).f t':=hl x (by simp);simp[uK,a,B8 (l:=l) (by grind)]
theorem Xd{x:Option Operand} (a:∀y,x=some y->Alike t t' y):KN x t h=KN x t' h:=by
 cases x with
 |none=>rfl
 |some y=>simp[KN,hH (a y rfl)]
theorem UF{ty:Nat}  (hp:p.f t h=p.f t' h):(JD ty p).f t h=(JD ty p).f t' h:=by
 grind[JD]
theorem TA{a b:Nat}  (hp:p.f t h=p.f t' h):(OF a b p).f t h=(OF a b p).f t' h:=by
 grind[OF]
theorem MP{a b:Nat}  (hp:p.f t h=p.f t' h):(sM a p b).f t h=(sM a p b).f t' h:=by
 grind[sM]
theorem Mg{a:Nat}  (hp:p.f t h=p.f t' h) (hq:q.f t h=q.f t' h):(sW a p q).f t h=(sW a p q).f t' h:=by
 grind[sW]
theorem RX{a:Nat}  (hp:p.f t h=p.f t' h) (hq:q.f t h=q.f t' h):(Ky a p q).f t h=(Ky a p q).f t' h:=by
 grind[Ky]
theorem Sj{a:Nat}  {lo hi:Option Operand} (hp:p.f t h=p.f t' h) (hl:KN lo t h=KN lo t' h) (b:KN hi t h=KN hi t' h) :
  (M9 a p lo hi).f t h=(M9 a p lo hi).f t' h:=by
 grind[M9]
theorem QB{a:Nat}  {ok:Bool} (hp:p.f t h=p.f t' h) (hq:q.f t h=q.f t' h):(Ip a p q ok).f t h=(Ip a p q ok).f t' h:=by
 grind[Ip]
theorem Wl{a:Nat}  (hp:p.f t h=p.f t' h):(hlen a p).f t h=(hlen a p).f t' h:=by
 grind[hlen]
theorem QA{a:Nat}  {ok:Bool} (hp:p.f t h=p.f t' h):(Ix p a ok).f t h=(Ix p a ok).f t' h:=by
 unfold Ix;split <;> first|rfl|grind
theorem TU{c:PF} (hc:c.f t h=c.f t' h) (hp:p.f t h=p.f t' h) (hq:q.f t h=q.f t' h):(Nq c p q).f t h=(Nq c p q).f t' h:=by
 grind[Nq]
theorem Te{a:Nat} {b:List (Nat×Operand)} (hp:uK t b=uK t' b):(JO a b).f t h=(JO a b).f t' h:=by
 unfold JO;grind
theorem JN{o:Oper} (e:∀x∈o.op.operands.toList,Alike t t' x):(iP o).f t h=(iP o).f t' h:=by
 let⟨dst,op,ty,pos,af,gd⟩:=o
 cases op <;> simp[iP] <;> simp[Op.operands]at e
 case move x=>grind[hH]
 case assign x=>grind[hH]
 case pick c a b=>exact TU (by grind[hH]) (by grind[hH]) (by grind[hH])
 case load ty a=>grind[UF,hH]
 case nilCheck x=>grind[Aq,hH]
 case binOp op xt x y b=>grind[hH]
 case unOp op b x=>grind[hH]
 case convert s d x=>grind[TA,hH]
 case build ty ps=>grind[Te,B8]
 case makeFunc fn first caps=>
  cases fn with
  |func f=>grind[xH]
  |_=>rfl
 case slice ty x lo hi mx=>
  cases mx with
  |none=>grind[Sj,hH,Xd]
  |some _=>rfl
 case fieldAddr s x f=>grind[MP,hH]
 case indexAddr ty x i=>grind[Mg,hH]
 case index ty x i=>grind[RX,hH]
 case lookup ty m k ok=>grind[QB,hH]
 case extract x i=>grind[HF,hH]
 case makeInterface ty x=>
  split
  ·grind[hH]
  ·rfl
 case typeAssert x b asserted ok=>grind[QA,hH]
 case call c=>
  let⟨cal,args,tys⟩:=c
  cases cal with
  | builtin b=>
    have g:∀x∈args.toList,Alike t t' x:=by grind[Call.operands]
    cases b <;> simp only
    case len=>
      split
      ·grind[Wl,hH]
      ·rfl
    case min=>grind[xH]
    case max=>grind[xH]
    all_goals rfl
  |_=>rfl
 all_goals rfl
theorem QN{x:Operand}(a:Alike t t' x):(Qn x).f t=(Qn x).f t':=a
theorem NA{o:Oper} (a:∀x∈o.op.operands.toList,Alike t t' x):(sU o).f t=(sU o).f t':=by
 let⟨dst,op,ty,pos,af,gd⟩:=o
 cases op <;> simp[sU] <;> simp[Op.operands]at a
 case alloc e=>split <;> rfl
 case box e x=>grind[QN]
 case buildSlice ty len parts=>
  (repeat' split) <;> first
   |rfl
   |grind[GN,B8]
 case makeSlice ty n c=>
  (repeat' split) <;> first
   |rfl
   |grind[QN]
 case makeMap ty r=>
  cases r with
  |none=>simp only;split <;> rfl
  |some _=>rfl
 all_goals rfl
theorem UI{o:Oper} (e:∀x∈o.op.operands.toList,Alike t t' x):(j8 o).f t h=(j8 o).f t' h:=by
 let⟨dst,op,ty,pos,af,gd⟩:=o
 cases op <;> simp[j8] <;> simp[Op.operands]at e
 case store ty a x=>
  split
  ·grind[hH]
  ·rfl
 case mapUpdate ty m k x=>
  (repeat' split) <;> first
   |rfl
   |grind[hH]
 case range ty x=>
  split
  ·grind[hH]
  ·rfl
 case entry x=>grind[hH]
 case call c=>
  let⟨cal,args,tys⟩:=c
  cases cal with
  | builtin b=>
    have i:∀x∈args.toList,Alike t t' x:=by grind[Call.operands]
    cases b <;> simp only
    case append=>
      split
      ·rename_i s x g xT d _
       (repeat' split) <;> first
         |rfl
         |grind[hH]
      ·rfl
    case delete=>
      split
      ·rename_i s x g xT d _
       (repeat' split) <;> first
         |rfl
         |grind[hH]
      ·rfl
    all_goals rfl
  | value f=>
    grind[Alike,Call.operands,hH,xH]
  | invoke r m=>
    grind[Alike,Call.operands,hH,xH]
 all_goals rfl
theorem Pv {o:Oper} (a:∀x∈o.op.operands.toList,Alike t t' x):(Ek o).f call t h=(Ek o).f call t' h:=by
 grind[Ek,JN,NA,UI]
theorem DY:∀l i b k a,(items l i b)[k]? =some a->a.i=i+k/\l[k]? =some a.o
 |[],i,b,k,a,h=>by grind[items]
 |o::os,i,b,0,a,h=>by simp[items]at h;grind
 | o::os,i,b,k+1,a,h=>by
   let⟨c,d⟩:=DY os (i+1) _ k a h
   grind
theorem LV:∀l i a,(items l i a).length=l.length
 |[],i,a=>rfl
 |o::os,i,a=>by simp[items,LV os]
theorem Cr(a:List Nat) (x:Nat):∀es m,(OV a es m).testBit x=true->m.testBit x=true\/∃e∈es,OD e=true/\(x=e.on\/(a[e.on]?.getD 0).testBit x=true)
 |[],m,h=> .inl h
 | e ::es,m,h=>by
   simp[OV]at h;split at h
   ·rename_i f
    rcases Cr a x es _ h with b|⟨e',d,c,b⟩
    ·grind
    grind
   ·rcases Cr a x es _ h with b|⟨e',d,c,b⟩
    ·simp_all
    grind
theorem X9:∀l i c k a,(items l i c)[k]? =some a->
  a.b=OV (c++((items l i c).take k).map (·.b)) a.o.after.toList 0
 |[],i,c,k,a,h=>by grind[items]
 |o::os,i,c,0,a,h=>by grind[items]
 | o::os,i,c,k+1,a,h=>by
   have:=X9 os (i+1) _ k a h
   grind[items,Bo]
theorem OK{l:List Oper} {k:Nat} {a:It} (h:(items l 0 [])[k]? =some a) {x:Nat} (d:a.b.testBit x=true) :
  ∃e∈a.o.after.toList,OD e=true/\(x=e.on\/∃y,(items l 0 [])[e.on]? =some y/\y.b.testBit x=true):=by
 rw[X9 l 0 [] k a h]at d;rcases Cr _ x _ _ d with c|⟨e,f,g,c⟩
 ·simp_all
 ·refine ⟨e,f,g,?_⟩;rcases c with c|c
  ·omega
  ·right;rw[QX,wA8]at c
   grind
theorem IG(e:Edge):Region.binds .any e=OD e:=by
 rfl
def rI(val:Nat->V)(D:Nat->Bool)(d:Nat)(kM:List It)(b:V):V:=kM.foldl (λv a=>if D a.i=true/\a.o.dst=some d then val a.i else v) b
theorem rR{b:Nat->V} {D':Nat->Bool}   (e:∀a∈kM,a.o.dst=some d->D a.i=D' a.i) (f:∀a∈kM,a.o.dst=some d->D a.i=true->val a.i=b a.i) (c:V) :
  rI val D d kM c=rI b D' d kM c:=by
 unfold rI
 induction kM generalizing c <;> grind
theorem Kf    (h:∀a∈kM,a.o.dst=some d->D a.i=false) (b:V):rI val D d kM b=b:=by
 unfold rI
 induction kM generalizing b <;> grind
theorem Y2    (f:∀k (x:It),kM[k]? =some x->x.i=k) {a:It} (g:a∈kM) (hd:a.o.dst=some d) (j:D a.i=true)
  (h:∀x∈kM,a.i<x.i->x.o.dst=some d->D x.i=false) (l:V):rI val D d kM l=val a.i:=by
 let⟨k,hk⟩:=mG.1 g
 have e:k<kM.length:=by grind
 have b:kM=kM.take k++a::kM.drop (k+1):=by
  have m:kM.drop k=a::kM.drop (k+1):=by
   rw[ZH e];rw[hN e]at hk;cases hk;rfl
  rw[<-m,wA0]
 have c:∀x∈kM.drop (k+1),x.o.dst=some d->D x.i=false:=by
  intro x n p
  let⟨q,hq⟩:=mG.1 n
  rw[wBX]at hq;have:=f _ x hq;exact by grind
 unfold rI;rw[b,List.foldl_append,List.foldl_cons,if_pos ⟨j,hd⟩];exact Kf c _
def CX(h h':Hp):Prop:=h.next<=h'.next/\∀l,l<h.next->h'.get l=h.get l
theorem CX.refl(h:Hp):CX h h:=⟨jj _,λ_ _=>rfl⟩
theorem CX.trans{h h' c:Hp}(a:CX h h')(b:CX h' c):CX h c:=⟨MT a.1 b.1,λl hl=>by rw[b.2 l (EP hl a.1),a.2 l hl]⟩
theorem CX.new(h:Hp)(o:O):CX h (h.new o):=⟨Ql _,by simp_all[wq,if_neg,Nat.ne_of_gt]⟩
theorem WR.SK{Δ:Env} {h h':Hp} {w:World} (a:WR Δ h w) (b:CX h h'):WR Δ h' w where
 fresh:=λl d hl=>EP (a.fresh l d hl) b.1
 Bt:=a.Bt
 obj:=λl d hl=>by rw[b.2 l (a.fresh l d hl)];exact a.obj l d hl
 apart:=λm f e e' p o i j mD k n=>by
  rw[b.2 m (a.fresh m e i)]at k;rw[b.2 f (a.fresh f e' j)]at n;exact a.apart m f e e' p o i j mD k n
 Ja:=λg p c hp=>by
  rw[b.2 g (EP c a.yB)]at hp;exact a.Ja g p c hp
 yB:=MT a.yB b.1
 WZ:=a.WZ
theorem O.eq_of_beq{a b:O} (h:O.beq a b=true):a=b:=by
 unfold O.beq at h;split at h
 ·simp[ Gi]at h;obtain⟨⟨⟨⟨rfl,rfl⟩,rfl⟩,rfl⟩,c⟩:=h
  grind[V.yd]
 ·simp_all
 ·cases h
structure Tc where
 on:Nat->Bool
 val:Nat->V
 tt:Nat->Tm
 ep:Nat->Nat
 pl:Nat->Nat
 ob:Nat->O
 H:Nat->Hp
 G:Nat->Hp
def AU(kM:List It)(D:Nat->Bool):Prop:=∀a∈kM,D a.i=true->∀x∈kM,a.b.testBit x.i=true->D x.i=true
end
section
variable (n:Nat)(all:List Oper)(kM ws:List It)(call:Call)(t0:Tm)(h0:Hp)
structure OH (T:Tc) (D:Nat->Bool) (a:It):Prop where
 fresh:D a.i=false
 closed:AU kM D
 fj:∀x∈kM,a.b.testBit x.i=true->D x.i=true
 qK:∀d,ij (T.tt a.i) d=rI T.val D d kM (ij t0 d)
 dst:∃d,xe n a.o=some d
 rh:rh n all a.o (T.tt a.i)=some (T.on a.i)
 off:T.on a.i=false->T.val a.i = .undef
 epw:cls a.o≠2->Oa ws a (T.ep a.i)=true
 epl:T.ep a.i<=ws.length
 pure:cls a.o=0->T.on a.i=true->∀j,T.ep a.i<=j->j<=ws.length->j<=late ws a->(iP a.o).f (T.tt a.i) (T.H j)=some (T.val a.i)
 alloc:cls a.o=1->T.on a.i=true->(∃mk,(sU a.o).f (T.tt a.i)=some (T.ob a.i,mk)/\T.val a.i=mk (T.pl a.i))/\
  (∀j,T.ep a.i<=j->j<=ws.length->T.pl a.i<(T.H j).next/\(j<=late ws a->(T.H j).get (T.pl a.i)=some (T.ob a.i)))/\
  (∀j,j<T.ep a.i->(T.G j).next<=T.pl a.i)/\h0.next<=T.pl a.i
 write:cls a.o=2->isW ws a (T.ep a.i)=true/\(T.on a.i=true->(Ek a.o).f call (T.tt a.i) (T.H (T.ep a.i))=some (T.val a.i,T.G (T.ep a.i)))/\
  (T.on a.i=false->T.G (T.ep a.i)=T.H (T.ep a.i))
structure uL (l:List It) (m k:Nat) (h:Hp) (rs:List Rec) (r:Tm×Hp) (b T:Tc):Prop where
 same:∀i,m.testBit i=true->T.on i=b.on i/\T.val i=b.val i/\T.tt i=b.tt i/\T.ep i=b.ep i/\T.pl i=b.pl i/\T.ob i=b.ob i
 Xi:∀j,j<k->T.H j=b.H j/\T.G j=b.G j
 item:∀a∈l,∃D,OH n all kM ws call t0 h0 T D a
 Fo:∀r∈rs,∀j,k<=j->j<=ws.length->r.last<j\/Af (T.H j) r=true
 more:CX h (T.H k)
 chain:∀j,k<=j->j<ws.length->(T.H j).next<=(T.G j).next/\CX (T.G j) (T.H (j+1))
 YF:∀a∈l,cls a.o=1->T.on a.i=true->h.next<=T.pl a.i
 Xw:∀a∈l,∀c∈l,cls a.o=1->cls c.o=1->T.on a.i=true->T.on c.i=true->a.i≠c.i->T.pl a.i≠T.pl c.i
 last:r.2=T.H ws.length
 qK:∀d,ij r.1 d=rI T.val (λ_=>true) d kM (ij t0 d)
 done:∀a∈kM,m.testBit a.i=true\/a.i∈l.map (·.i)
 kle:k<=ws.length
end
theorem GR{ws:List It} {T:Tc} {k:Nat} (h:∀j,k<=j->j<ws.length->(T.H j).next<=(T.G j).next/\CX (T.G j) (T.H (j+1))):∀m j,j=k+m->j<=ws.length->(T.H k).next<=(T.H j).next:=by
 intro m
 induction m with
 |zero=>simp_all
 | succ m b=>
   intro j g c;obtain⟨a,rfl⟩:∃a,j=a+1:=⟨j-1,by omega⟩
   have d:=b a (by omega) (by omega)
   let⟨e,f⟩:=h a (by omega) (by omega)
   exact MT d (MT e f.1)
theorem zbH(m i x:Nat):(m |||2 ^ i).testBit x=(m.testBit x ||decide (i=x)):=by grind
theorem Nj{l:List It} (h:tf l=true):∀(i j:Nat) a b,i<j->l[i]? =some a->l[j]? =some b->RS a b=true:=by
 induction l with
 |nil=>simp_all
 | cons x l d=>
   intro i j a b c e f;simp[tf,xB]at h
   grind
theorem Q3 (c:∀k (x:It),kM[k]? =some x->x.i=k) (hp:tf kM=true) {a x:It} (g:a∈kM) (h:x∈kM) {d:Nat} (hd:d∈tA a.o) (e:x.o.dst=some d) :
  (x.i<a.i->a.b.testBit x.i=true)/\(a.i<x.i->x.b.testBit a.i=true):=by
 let⟨i,hi⟩:=mG.1 g
 let⟨j,hj⟩:=mG.1 h
 have l:=c i a hi;have m:=c j x hj;have n:writes x.o (tA a.o)=true:=by simp[writes,e,hd]
 constructor
 ·intro f;have:=Nj hp j i x a (by omega) hj hi
  grind[RS]
 ·intro f;have:=Nj hp i j a x (by omega) hi hj
  grind[RS]
theorem YR{o:Oper}(h:o.dst=some d):d∈tA o:=by simp[tA,h]
theorem J8 (e:∀k (x:It),kM[k]? =some x->x.i=k) (hp:tf kM=true) {a:It} (f:a∈kM) {D D':Nat->Bool} (p:AU kM D) (g:AU kM D')
  (r:∀x∈kM,a.b.testBit x.i=true->D x.i=true) (q:∀x∈kM,a.b.testBit x.i=true->D' x.i=true) (n:D a.i=false) (c:D' a.i=false) {d:Nat} (hd:d∈tA a.o) (val:Nat->V) (j:V) :
  rI val D d kM j=rI val D' d kM j:=by
 refine rR (λx l m=>?_) (by simp_all) j
 let⟨p1,p2⟩:=Q3 e hp f l hd m
 rcases wB0 x.i a.i with h|h|h
 ·simp_all
 ·simp_all
 ·have s:D x.i=false:=by
   cases hh:D x.i with
   |false=>rfl
   |true=>rw[p x l hh a f (p2 h)]at n;cases n
  have t:D' x.i=false:=by
   cases hh:D' x.i with
   |false=>rfl
   |true=>rw[g x l hh a f (p2 h)]at c;cases c
  simp_all
theorem Io (c:∀k (x:It),kM[k]? =some x->x.i=k) (hp:tf kM=true) {a:It} (m:a∈kM) {D D':Nat->Bool} (q:AU kM D) (p:D a.i=false)
  (g:∀i,D' i=(D i ||decide (a.i=i))) {val b:Nat->V} (hv:∀i,D i=true->b i=val i) (d:Nat) (n:V) :
  rI b D' d kM n=if a.o.dst=some d then b a.i else rI val D d kM n:=by
 by_cases hd:a.o.dst=some d
 ·rw[if_pos hd];refine Y2 c m hd (by simp_all) (λx h l f=>?_) n;rw[g];have mD:=UX l;have:=(Q3 c hp m h (YR hd) f).2 l
  cases hh:D x.i with
  |false=>simp_all
  |true=>rw[q x h hh a m this]at p;cases p
 ·rw [if_neg hd];refine rR (λx h f=>?_) (λx h f r=>?_) n
  ·rw [g];have:a.i≠x.i:=by
    intro e
    let⟨i,hi⟩:=mG.1 m
    let⟨j,hj⟩:=mG.1 h
    have s:=c i a hi;have t:=c j x hj;have:i=j:=by omega
    subst this;rw[hi]at hj;cases hj;exact hd f
   simp_all
  grind[mG]
def JU(f:Nat->α)(i:Nat)(v:α):Nat->α:=λj=>if j=i then v else f j
theorem nR(f:Nat->α)(i:Nat)(v:α):JU f i v i=v:=if_pos rfl
theorem RO(f:Nat->α){i j:Nat}(v:α)(h:j≠i):JU f i v j=f j:=if_neg h
theorem Mr(o:Oper):cls o=0\/cls o=1\/cls o=2:=by
 unfold cls
 grind
theorem Li{n:Nat} {o:Oper} {d:DF} (h:xe n o=some d) (t:Tm) (v:V) (i:Nat):ij (d.f t v) i=if o.dst=some i then v else ij t i:=by
 unfold xe at h
 cases ho:o.dst with
 |none=>grind
 | some k=>
   simp[ho]at h
   cases hk:Nat.blt k n with
   |false=>simp_all
   | true=>
     simp[hk]at h;cases h;show ij (t.set k v) i=_
     simp_all[iA,if_pos]
theorem yg{n:Nat} {o:Oper} {d:DF} (h:xe n o=some d) (t:Tm) (v:V):(d.f t v).ds=t.ds:=by
 grind[xe,Nat.blt,Tm.Fx]
theorem B3{n:Nat} {all:List Oper} {ws:List It} :∀l k {t:Tm} {h:Hp} {rs:List Rec} {r:Tm×Hp},(xG n all ws l k).f call t h rs=some r->r.1.ds=t.ds
 | [],_,t,h,rs,r,hv=>by
   grind[xG,il]
 | a ::l,k,t,h,rs,r,hv=>by
   unfold xG at hv
   cases hd:xe n a.o with
   |none=>simp_all
   | some d=>
     rw[hd]at hv;simp only at hv;split at hv
     ·simp only[Jy,fy]at hv
      let⟨b,_,c⟩:=hv
      cases b with
      |false=>rw[B3 l _ c,yg hd]
      | true=>
        simp[fy]at c
        let⟨x,_,e⟩:=c
        rw[B3 l _ e,yg hd]
     ·simp only[Ht,fy]at hv
      let⟨b,_,c⟩:=hv
      cases b with
      |false=>rw[B3 l _ c,yg hd]
      | true=>
        simp only[fy]at c
        let⟨x,_,e⟩:=c
        rw[B3 l _ e,yg hd]
     ·simp only[CL,fy,il]at hv
      let⟨_,b,_,c⟩:=hv
      cases b with
      |false=>rw[B3 l _ c,yg hd]
      | true=>
        simp only[fy,il]at c
        let⟨x,_,_,e⟩:=c
        rw[B3 l _ e,yg hd]
section
variable{n:Nat}{all:List Oper}{kM ws:List It}{call:Call}{t0:Tm}{h0:Hp}
theorem uL.cons{l:List It} {a:It} {m k k':Nat} {h h':Hp} {rs B:List Rec} {r:Tm×Hp} {d e T:Tc} (c:uL n all kM ws call t0 h0 l (m |||2 ^ a.i) k' h' B r e T)
  (E:∀i,m.testBit i=true->e.on i=d.on i/\e.val i=d.val i/\e.tt i=d.tt i/\e.ep i=d.ep i/\e.pl i=d.pl i/\e.ob i=d.ob i)
  (M:∀j,j<k->e.H j=d.H j/\e.G j=d.G j) (N:k<=k') (f:∃D,OH n all kM ws call t0 h0 T D a)
  (g:∀r∈rs,∀j,k<=j->j<=ws.length->r.last<j\/Af (T.H j) r=true) (p:CX h (T.H k))
  (A:∀j,k<=j->j<k'->(T.H j).next<=(T.G j).next/\CX (T.G j) (T.H (j+1)))
  (z:cls a.o=1->T.on a.i=true->h.next<=T.pl a.i/\T.pl a.i<h'.next) (q:h.next<=h'.next) (C:k<=ws.length):uL n all kM ws call t0 h0 (a::l) m k h rs r d T where
 same:=λi hi=>by
  let⟨F,I,O,P,Q,R⟩:=c.same i (by simp_all)
  simp_all
 Xi:=λj J=>by
  let⟨F,I⟩:=c.Xi j (by omega)
  simp_all
 item:=λx b=>by
  cases b with
  |head=>exact f
  |tail _ b=>exact c.item x b
 Fo:=g
 more:=p
 chain:=λj E K=>by
  by_cases J:j<k'
  ·simp_all
  ·exact c.chain j (by omega) K
 YF:=λx b hc L=>by
  cases b with
  |head=>simp_all
  |tail _ b=>exact MT q (c.YF x b hc L)
 Xw:=λx b y w s t u v mD=>by
  cases b with
  | head=>
    cases w with
    |head=>omega
    |tail _ w=>have:=(z s u).2;have:=c.YF y w t v;omega
  | tail _ b=>
    cases w with
    |head=>have:=(z t v).2;have:=c.YF x b s u;omega
    |tail _ w=>exact c.Xw x b y w s t u v mD
 last:=c.last
 qK:=c.qK
 done:=λx b=>by
  rcases c.done x b with h|h
  ·grind
  simp_all
 kle:=C
theorem trace(C:∀(k:Nat) (x:It),kM[k]? =some x->x.i=k) (hp:tf kM=true):∀(l:List It) (m k:Nat) (t:Tm) (h:Hp) (rs:List Rec) (r:Tm×Hp) (s:Tc),
  (∀a∈l,a∈kM)->wG kM ws l m k=true->(xG n all ws l k).f call t h rs=some r->AU kM m.testBit->(∀d,ij t d=rI s.val m.testBit d kM (ij t0 d))->
  h0.next<=h.next->(∀j,j<k->(s.G j).next<=h.next)->k<=ws.length->∃T,uL n all kM ws call t0 h0 l m k h rs r s T
 | [],m,k,t,h,rs,r,s,hsub,c,hv,hcl,ht,hn0,hG,hkl=>by
   simp only[wG,xB]at c;obtain⟨ae,hk⟩:=c;have aj:k=ws.length:=Cj hk;simp only[xG,il]at hv;obtain⟨X,hv⟩:=hv;cases hv;refine⟨{s with H:=JU s.H k h},⟨by simp_all,λj P=>⟨by grind[RO],rfl⟩,by simp_all,?_,?_,by omega,by simp_all,by simp_all,?_,?_,?_,hkl⟩⟩
   ·intro q hq j Y h2
    have:j=k:=by omega
    simp_all[Af,JU,nR,CN,Rh,Jz,WE]
   ·grind[CX,JU,nR]
   ·grind[JU,nR]
   ·intro d
    rw[ht d];refine rR (λa ha _=>?_) (by simp_all) _
    simp_all
   simp_all
 | a ::l,m,k,t,h,rs,r,s,hsub,c,hv,hcl,ht,hn0,hG,hkl=>by
   have ha:a∈kM:=by simp_all
   have w:∀x∈l,x∈kM:=by simp_all
   simp only[wG,xB,Bool.not_eq_true']at c;obtain⟨D,ak,c⟩:=c;have u:∀x∈kM,a.b.testBit x.i=true->m.testBit x.i=true:=by grind
   have z:AU kM (m |||2 ^ a.i).testBit:=λx hx A y hy hb=>by
     rw[zbH]at A⊢;simp only[Jz,xX]at A;rcases A with A|A
     ·rw[hcl x hx A y hy hb];rfl
     grind[mG]
   simp only[xG]at hv
   cases hd:xe n a.o with
   |none=>simp_all
   | some d =>
     simp only[hd]at hv
     let B:Bool->V->Nat->O->(Nat->Hp)->(Nat->Hp)->Tc:=λb v p ob H G=>⟨JU s.on a.i b,JU s.val a.i v,JU s.tt a.i t,JU s.ep a.i k,JU s.pl a.i p,JU s.ob a.i ob,H,G⟩
     have Y:∀b v p ob H G,∀i,m.testBit i=true->(B b v p ob H G).on i=s.on i/\(B b v p ob H G).val i=s.val i/\(B b v p ob H G).tt i=s.tt i/\(B b v p ob H G).ep i=s.ep i/\
        (B b v p ob H G).pl i=s.pl i/\(B b v p ob H G).ob i=s.ob i:=by grind[RO]
     have E:∀b v p ob H G,∀J,ij (d.f t v) J=rI (B b v p ob H G).val (m |||2 ^ a.i).testBit J kM (ij t0 J):=by grind[Li,Io,zbH,ij,JU,nR]
     have self:∀{b v p ob H G l' k' h' R T},uL n all kM ws call t0 h0 l' (m |||2 ^ a.i) k' h' R r (B b v p ob H G) T->
        T.on a.i=b/\T.val a.i=v/\T.tt a.i=t/\T.ep a.i=k/\T.pl a.i=p/\T.ob a.i=ob/\(∀J,ij (T.tt a.i) J=rI T.val m.testBit J kM (ij t0 J)):=λ{b v p ob H G l' k' h' R T} g=>by
       obtain⟨a1,a2,a3,a4,a5,a6⟩:=g.same a.i (by simp_all);refine⟨a1.trans (nR _ _ _),a2.trans (nR _ _ _),a3.trans (nR _ _ _),a4.trans (nR _ _ _),a5.trans (nR _ _ _),a6.trans (nR _ _ _),λJ=>?_⟩;rw[a3.trans (nR _ _ _),ht J];refine(rR (by simp_all) (λx hx _ Z=>?_) _).symm;rw[(g.same x.i (by simp_all)).2.1,(Y b v p ob H G x.i Z).2.1]
     rcases Mr a.o with hc|hc|hc
     ·
       have F:Nat.beq (cls a.o) 2=false:=by rw[hc];rfl
       rw[F]at c;simp only[xB]at c;obtain⟨I,c⟩:=c;rw[hc]at hv;simp only[Jy,fy]at hv;obtain⟨b,hw,hv⟩:=hv
       cases b with
       | false=>
         obtain⟨T,g⟩:=trace C hp l _ k _ h rs r (B false .undef 0 default s.H s.G) w c hv z (E _ _ _ _ _ _) hn0 hG hkl;obtain⟨s1,Q,W,s4,L,S,K⟩:=self g
         refine ⟨T,g.cons (by simp_all) (by grind) (jj _) ⟨m.testBit,D,hcl,u,K,⟨d,hd⟩,by simp_all,λ_=>Q,by simp_all,by omega,
           by simp_all,by omega,by omega⟩ g.Fo g.more (by omega) (by omega) (jj _) hkl⟩
       | true=>
         simp only[fy]at hv;obtain⟨v,aa,hv⟩:=hv;obtain⟨T,g⟩:=trace C hp l _ k _ h _ r (B true v 0 default s.H s.G) w c hv z (E _ _ _ _ _ _) hn0 hG hkl;obtain⟨s1,Q,W,s4,L,S,K⟩:=self g
         refine ⟨T,g.cons (by simp_all) (by grind) (jj _) ⟨m.testBit,D,hcl,u,K,⟨d,hd⟩,by simp_all,by simp_all,by simp_all,by omega,
           λ_ _ j M N j3=>?_,by omega,by omega⟩ (λq hq=>g.Fo q (by simp[hq])) g.more (by omega) (by omega) (jj _) hkl⟩
         rw[s4]at M;rcases g.Fo _ (Tx ..) j M N with ab|hh
         ·grind
         grind[Af,V.eq_of_beq]
     ·
       have F:Nat.beq (cls a.o) 2=false:=by rw[hc];rfl
       rw[F]at c;simp only[xB]at c;obtain⟨I,c⟩:=c;rw[hc]at hv;simp only[Ht,fy]at hv;obtain⟨b,hw,hv⟩:=hv
       cases b with
       | false=>
         obtain⟨T,g⟩:=trace C hp l _ k _ h rs r (B false .undef 0 default s.H s.G) w c hv z (E _ _ _ _ _ _) hn0 hG hkl;obtain⟨s1,Q,W,s4,L,S,K⟩:=self g
         refine ⟨T,g.cons (by simp_all) (by grind) (jj _) ⟨m.testBit,D,hcl,u,K,⟨d,hd⟩,by simp_all,λ_=>Q,by simp_all,by omega,
           by omega,by simp_all,by omega⟩ g.Fo g.more (by omega) (by simp_all) (jj _) hkl⟩
       | true=>
         simp only[fy]at hv;obtain⟨⟨ob,mk⟩,aa,hv⟩:=hv;obtain⟨T,g⟩:=trace C hp l _ k _ _ _ r (B true (mk h.next) h.next ob s.H s.G) w c hv z (E _ _ _ _ _ _) (wBP hn0) (λj P=>wBP (hG j P)) hkl;obtain⟨s1,Q,W,s4,L,S,K⟩:=self g
         refine ⟨T,g.cons (by simp_all) (by grind) (jj _) ⟨m.testBit,D,hcl,u,K,⟨d,hd⟩,by simp_all,by simp_all,by simp_all,by omega,
           by omega,λ_ _=>⟨by simp_all,λj M N=>?_,λj P=>?_,by omega⟩,by omega⟩
           (λq hq=>g.Fo q (by simp[hq])) ((CX.new h ob).trans g.more) (by omega) (λ_ _=>by rw[L];exact⟨jj _,Rz _⟩) (Ql _) hkl⟩
         ·rw[s4]at M
          rw[L,S];refine⟨?_,λj3=>?_⟩
          ·have e1:(h.new ob).next<=(T.H k).next:=g.more.1
           have e2:=GR g.chain (j-k) j (by omega) N;have:h.next<(h.new ob).next:=Rz _;omega
          ·rcases g.Fo _ (Tx ..) j M N with ab|hh
           ·grind
           grind[Af,O.eq_of_beq]
         ·rw[s4]at P
          rw[L,(g.Xi j P).2]
          grind
     ·
       have F:Nat.beq (cls a.o) 2=true:=by rw[hc];rfl
       rw[F]at c;simp only[xB]at c;obtain⟨I,c⟩:=c;have ac:k<ws.length:=by
        unfold isW at I;split at I
        ·grind
        ·cases I
       rw[hc]at hv;simp only[CL,il,fy]at hv;obtain⟨X,b,hw,hv⟩:=hv;have ag:∀q∈rs,q.last<k\/Af h q=true:=by simp_all[CN,Rh,Jz,WE]
       have ah:∀(b:Bool) (v:V) (h':Hp),rh n all a.o t=some b->(xG n all ws l (Nat.succ k)).f call (d.f t v) h' rs=some r->h.next<=h'.next->(b=false->v = .undef/\h' = h)->
         (b=true->(Ek a.o).f call t h=some (v,h'))->∃T,uL n all kM ws call t0 h0 (a::l) m k h rs r s T:=by
         intro b v h' hw hv hn ai al
         obtain ⟨T,g⟩:=trace C hp l _ (k+1) _ h' rs r (B b v 0 default (JU s.H k h) (JU s.G k h')) w c hv z (E _ _ _ _ _ _) (by omega)
           (fun j P=>by
             by_cases e:j=k
             ·subst e;show(JU s.G j h' j).next<=_;simp_all[nR,jj]
             grind[JU,RO,MT]) ac
         obtain⟨s1,Q,W,s4,L,S,K⟩:=self g;obtain⟨g1,g2⟩:=g.Xi k (Rz _);have U:T.H k=h:=g1.trans (nR _ _ _);have ad:T.G k=h':=g2.trans (nR _ _ _)
         refine ⟨T,g.cons (Y _ _ _ _ _ _) (by grind[RO]) (Ql _) ⟨m.testBit,D,hcl,u,K,⟨d,hd⟩,by grind,
           by grind,by omega,by omega,by omega,by omega,
           λ_=>⟨by grind,λho=>?_,λho=>?_⟩⟩ (λq hq j M N=>?_) (by rw[U];exact .refl h) (λj M N=>?_) (by omega) hn hkl⟩
         ·grind
         ·grind
         ·by_cases e:j=k
          ·grind
          ·exact g.Fo q hq j (by omega) N
         ·have:j=k:=by omega
          subst this;rw[U,ad];exact⟨hn,g.more⟩
       cases b with
       |false=>grind
       | true=>
         grind[fy,il,ND]
