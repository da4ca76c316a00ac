/- Parts. -/
import Derived.Test.YtcoaokdoecgcbaaGreatDoorM03
set_option maxHeartbeats 4000000
namespace Go.Proofs.YtcoaokdoecgcbaaGreatDoor.Hx
variable{call:Call}{kr:List It}{p:PF}{D:Nat->Bool}{d:Nat}{val:Nat->V}{b:Oper}{c:Code}{o2:Oper}{α:Type}{F:nC}{q:PF}
def xo(call:Call):Prop:=∀f args v h h' Δ w gW,call f args h=some (v,h')->WR Δ h w->gR Δ args gW.toList-> (∃x,(callFunc f gW).run P0 w = .ok (.value x) w/\GN Δ h w v h' Δ x w)\/ ((callFunc f gW).run P0 w = .ok (.enter f gW) w/\Calls P0 f gW w λe w'=>∃a x,e = .returned x/\GN Δ h w v h' a x w')
section
variable{Δ:Env}{h:Hp}{w:World}{n:Nat}{t:Tm}{a:Act}
theorem Sj (hc:xo call) (i:WR Δ h w) (m:TR Δ n t a) {o:Oper} {v:V} {h':Hp} (hv:(EV o).f call t h=some (v,h')) {K:Act->World->Prop} {Q:Exit->Act->World->Prop}
  (p:∀k x w',GN Δ h w v h' k x w'->K (a.put o.dst x) w'):o.wp P0 a w K Q:=by
 unfold EV at hv;split at hv
 ·simp only[fD]at hv
  let⟨u,j,c⟩:=hv
  cases c
  let⟨x,b,d⟩:=zdz i m j
  unfold Oper.wp;rw[b,Oper.upon_value];exact p Δ x w ⟨d,i,.refl _ _,.refl _ _⟩
 ·simp only[fD]at hv
  let⟨⟨ob,mk⟩,j,c⟩:=hv
  cases c
  let⟨mo,mv,b,d⟩:=Vu m j
  let⟨k,y,z,A,B⟩:=i.alloc d
  unfold Oper.wp;rw[b w,Oper.upon_value];exact p k _ _ ⟨z,y,A,B⟩
 ·simp [fD]at hv
  let⟨r,j,c⟩:=hv
  rcases zci i m j with⟨u,C,k,x,w',rfl,b,d⟩|⟨g,l,gW,rfl,b,d⟩
  ·cases c;unfold Oper.wp;rcases b with b|⟨rfl,b⟩
   ·grind[Oper.upon_value]
   grind[Oper.upon_skip]
  ·unfold Oper.wp;rw[d];rcases hc g l v h h' Δ w gW c i b with⟨x,q,s⟩|⟨q,s⟩
   ·grind[Oper.upon_value]
   ·rw[q,Oper.upon_enter];refine Calls.mono s λe w' D=>?_
    grind
theorem zcI(a:Act) (d:Nat) (x:Value) (i:Nat) (hd:d<a.tmps.size):(a.put (some d) x).tmps.getD i undef=if d=i then x else a.tmps.getD i undef:=by
 simp[Act.put,wBV]
 grind
theorem put_defers(a:Act)(d:Option Tmp)(x:Value):(a.put d x).defers=a.defers:=by cases d <;> rfl
theorem PN(b:TR Δ n t a) {o:Oper} {d:DF} (hd:xK n o=some d) {v:V} {x:Value} (hv:fV Δ v x):TR Δ n (d.f t v) (a.put o.dst x):=by
 unfold xK at hd
 cases ho:o.dst with
 |none=>simp[ho]at hd;cases hd;exact b
 | some k=>
   simp[ho]at hd
   cases hk:Nat.blt k n with
   |false=>simp_all
   | true=>
     simp[hk]at hd;cases hd;have c:k<a.tmps.size:=by rw[b.size,<-Yh];exact hk
     refine⟨by simp[Act.put,b.size],λi=>?_,by rw[put_defers];show OC Δ (t.set k v).ds _;rw[Tm.FD];exact b.ds⟩;rw[zcI _ _ _ _ c];show fV Δ (ij (t.set k v) i) _;rw[iz];by_cases h:k=i
     ·simp_all
     ·rw[if_neg h,if_neg h];exact b.rel i
theorem NA{n:Nat} {ops:List Oper} {o:Oper} (a:kE n ops o=none) (y:Nat->Option Bool):Region.wanted o y=true:=by
 grind[kE,Region.wanted]
theorem SM(m:TR Δ n t a) {ops:Array Oper} {o:Oper} {g:GF} (e:kE n ops.toList o=some g) {b:Bool} (h:g.f t=some b):Region.wanted o (yielded ops a.tmps)=b:=by
 unfold kE at e;unfold Region.wanted
 cases hg:o.guard with
 |none=>simp_all
 | some q =>
   let⟨j,wt⟩:=q
   simp only[hg]at e⊢;unfold yielded
   cases hj:ops.toList[j]? with
   | none=>
     grind
   | some p=>
     have l:ops[j]? =some p:=by rw[<-wBC];exact hj
     simp[hj]at e;simp[l,Option.bind_some]
     cases hd:p.dst with
     | none=>
       grind
     | some d=>
       simp[hd]at e;simp
       cases G6:Nat.blt d n with
       |false=>grind
       | true=>
         simp[G6]at e;cases e;have i:d<a.tmps.size:=by rw[m.size,<-Yh];exact G6
         have k:=m.rel d;have r:a.tmps[d]? =some (a.tmps.getD d undef):=by simp[i]
         rw[r];generalize a.tmps.getD d undef=x at k;simp only at h;split at h
         ·rename_i s c
          cases h;rw[c]at k;cases k;cases wt <;> cases s <;> rfl
         ·rename_i c
          cases h;rw[c]at k;cases k <;> grind
         ·cases h
structure AG (Δ:Env) (h:Hp) (w:World) (n:Nat) (t':Tm) (h':Hp) (a:Env) (b:Act) (w':World):Prop where
 tmps:TR a n t' b
 world:WR a h' w'
 frame:FR Δ a w w'
 grow:Gr h Δ h' a
theorem AG.start(b:TR Δ n t a)(c:WR Δ h w):AG Δ h w n t h Δ a w:=⟨b,c,.refl _ _,.refl _ _⟩
theorem AG.trans{a b:Env} {c d:Hp} {w1 w2:World} {g e:Tm} {i f:Act} (x:AG Δ h w n g c a i w1) (y:AG a c w1 n e d b f w2):AG Δ h w n e d b f w2:=
 ⟨y.tmps,y.world,x.frame.trans y.frame,x.grow.trans y.grow⟩
theorem AG.put(g:TR Δ n t a) {o:Oper} {d:DF} (b:xK n o=some d) {v:V} {h':Hp} {e:Env} {x:Value} {w':World} (c:GN Δ h w v h' e x w') :
  AG Δ h w n (d.f t v) h' e (a.put o.dst x) w':=
 ⟨PN (g.mono c.frame.le) b c.val,c.world,c.frame,c.grow⟩
theorem zd1 (hc:xo call) {ops:Array Oper} {i:Nat} {o:Oper} (hi:ops[i]? =some o) {c:SF} {K:Act->World->Prop} {Q:Exit->Act->World->Prop}
  (m:WR Δ h w) (e:TR Δ n t a) {r:Tm×Hp} (hv:(Ie n ops.toList o c).f call t h=some r)
  (p:∀t' h' q s w',c.f call t' h' = some r->AG Δ h w n t' h' q s w'->K s w'):wpOp P0 ops Q i K a w:=by
 unfold Ie at hv;unfold wpOp;simp[hi]
 cases hdst:xK n o with
 |none=>simp[hdst]at hv;cases hv
 | some d=>
   simp [hdst]at hv;have y:∀x,oB ((EV o).f call t h) (λr=>c.f call (d.f t r.1) r.2)=some x->x=r->o.wp P0 a w K Q:=by
     intro x u j;subst j;rw[fD]at u
     let⟨⟨v,h'⟩,k,l⟩:=u
     exact Sj hc m e k λq x w' z=>p _ _ _ _ _ l (AG.put e hdst z)
   cases hg:kE n ops.toList o with
   | none=>
     simp[hg]at hv;rw[if_pos (NA hg _)]
     grind
   | some g=>
     simp only[hg,fD]at hv
     let⟨b,k,l⟩:=hv
     rw[SM e hg k]
     cases b with
     |true=>simp_all
     |false=>exact p _ _ _ _ _ l (AG.put e hdst ⟨.undef Δ,m,.refl _ _,.refl _ _⟩)
theorem EU (hc:xo call) {ops:Array Oper} {Q:Exit->Act->World->Prop}:∀l k,l=ops.toList.drop k->∀{Δ:Env} {h:Hp} {w:World} {t:Tm} {a:Act},
  WR Δ h w->TR Δ n t a->∀{r:Tm×Hp},(lU n ops.toList l).f call t h=some r->(∀e b w',AG Δ h w n r.1 r.2 e b w'->Q .normal b w')->
  wpOps P0 ops Q (List.range' k l.length) a w
 | [],k,hl,Δ,h,w,t,a,hW,hT,r,hv,hQ=>by
   cases hv
   exact hQ _ _ _ (.start hT hW)
 | o ::l,k,hl,Δ,h,w,t,a,hW,hT,r,hv,hQ=>by
   have g:ops[k]? =some o:=by
     have:(ops.toList.drop k)[0]? =some o:=by rw[<-hl];rfl
     rw[wBc,Nat.add_zero]at this;simpa using this
   have c:l=ops.toList.drop (k+1):=by
     rw[<-wBi,<-hl];rfl
   rw[Re,List.range'_succ];refine zd1 hc g hW hT hv λt' h' e b w' i d=>?_;exact EU hc l (k+1) c d.world d.tmps i λj m p q=>hQ _ _ _ (d.trans q)
def CV(c:Code) (Q:Exit->Act->World->Prop) (a:Act) (w:World):Prop:=∀b k cs,∃e d w',Q e d w'/\Arrives P0 (lone (b.at a (.code c:: .inLoop c::k)) cs w) b k cs e d w'
theorem CV.round {Q:Exit->Act->World->Prop} {a:Act} {w:World} (h:c.wp P0 (Exit.then (CV c Q) Q) a w):CV c Q a w:=by
 intro b k cs
 let⟨e,a₁,w₁,hq,harr⟩:=h b (.inLoop c::k) cs
 cases e with
 | normal=>
   let⟨e₂,a₂,w₂,hq₂,harr₂⟩:=hq b k cs
   exact⟨e₂,a₂,w₂,hq₂,.of_steps (Steps.trans harr (.one step_inLoop)) harr₂⟩
 |exit id=>exact⟨_,a₁,w₁,hq,.pass rfl (by simp_all) harr⟩
 |goto l=>exact⟨_,a₁,w₁,hq,.pass rfl (by simp_all) harr⟩
 |ret=>exact⟨_,a₁,w₁,hq,.pass rfl (by simp_all) harr⟩
 |panic ch=>exact⟨_,a₁,w₁,hq,.pass rfl (by simp_all) harr⟩
 |outgrown=>exact⟨_,a₁,w₁,hq,.pass rfl (by simp_all) harr⟩
theorem CV.wp {Q:Exit->Act->World->Prop} {a:Act} {w:World} (h:CV c Q a w):(Code.loop c).wp P0 Q a w:=
 λb k cs=>let⟨e,a',w',q,r⟩:=h b k cs;⟨e,a',w',q,.of_steps (.one step_loop) r⟩
def X.to:X->Exit
 | .normal=> .normal
 | .exit id=> .exit id
 | .ret=> .ret
theorem WR.same(i:WR Δ h w) {h':Hp} (k:h'.next=h.next) (j:∀l,h'.get l=h.get l):WR Δ h' w:=
 ⟨λl d hl=>by rw[k];exact i.fresh l d hl,i.B8,λl d hl=>by rw[j];exact i.obj l d hl,λl n d p o q a b c e f=>by rw[j]at e f;exact i.apart l n d p o q a b c e f,
  λg o hl m=>by rw[j]at m;exact i.JT g o hl m,by rw[k];exact i.yQ,i.XK⟩
theorem run_choose(q:Question) (w:World):(choose q).run P0 w=if q.forced then .ok 0 w else .ok (q.cut (w.tape w.drawn q)) {w with drawn:=w.drawn+1}:=by
 unfold choose;simp[Sem.run]
theorem zal(v:WR Δ h w) {r m c:Nat} {seen:List Nat} {es:List (V×V×Nat)} {M:Value} {ty:Nat} (hi:fV Δ (.ptr r 0) M) (N:h.get r=some (.iter (some m) c seen c)) (O:h.get m=some (.map es c)) :
  ∃x w',(Instr.next M false ty).run P0 w = .ok x w'/\(((∀e∈es,e.2.2∈seen)/\x = .tuple #[.bool false]/\w' = w)\/
   ∃e∈es,e.2.2 ∉ seen/\GN Δ h w (.tuple [.bool true,e.1,e.2.1]) (h.put r (.iter (some m) c (seen++[e.2.2]) c)) Δ x w'):=by
 cases hi with
 | ptr _ _ d hd=>
   let⟨o',ho,hr⟩:=v.obj r d hd
   rw[N]at ho;cases ho;obtain⟨U,G,P,Y,H,o,p,rfl⟩:=hr
   let⟨jL,hb,he⟩:=N2 v p O
   have q:=IG v p O;have z:∀e'∈jL.toList,e'.born<c:=λe' h'=>by
     let⟨i,hi⟩:=mz.1 h'
     have A:i<es.length:=by rw[he.length];exact(ke.1 hi).1
     let⟨e2,E,_,_,F⟩:=he.get (hZ A)
     rw[hi]at E;cases E;rw[F];exact q.2 _ (AL A)
   have g:(!seen.toArray.isEmpty&&!jL.isEmpty&&jL.all (λe=>decide (e.born >= c)))=false:=by
     cases hx:jL.toList with
     |nil=>have:jL.isEmpty=true:=by rw[<-Array.isEmpty_toList,hx];rfl
           rw[this];simp
     | cons e l=>
       have h0:=z e (by rw[hx];simp);have:jL.all (λe=>decide (e.born >= c))=false:=by
         rw[<-Array.all_toList,hx,wBo,LI (by omega)];rfl
       rw[this];simp
   have a:=XC he (λn=>!seen.contains n);have s:(jL.filter λe=>!seen.toArray.contains e.born)=Array.mk (jL.toList.filter λe=>!seen.contains e.born):=by
     apply Array.ext';rw[Array.toList_filter];simp
   rw[P];generalize hL:(jL.toList.filter λe=>!seen.contains e.born)=L at a s;have B:∀e∈L,e.born<c:=λe h'=>by rw[<-hL]at h';exact z e (wA9.1 h').1
   have Q:(Array.mk L).filter (λx=>decide (x.born<c))=Array.mk L:=by
     apply Array.ext';rw[Array.toList_filter];exact List.filter_eq_self.2 λe h'=>Ov (B e h')
   have R:(Array.mk L).filter (λx=>decide (x.born >= c)) = #[]:=by
     apply Array.ext';rw[Array.toList_filter];exact List.filter_eq_nil_iff.2 λe h'=>by simp;exact B e h'
   cases L with
   | nil =>
     refine⟨_,w,?_,.inl ⟨λe h'=>?_,rfl,rfl⟩⟩
     ·simp only[Instr.next,DO,zT H,Hi,run_getObj_map hb,g,s,Q,R]
      simp[Question.forced]
     ·cases hleft':es.filter (λe=>!seen.contains e.2.2)with
      | nil=>
        have:=List.filter_eq_nil_iff.1 hleft' e h'
        simpa using this
      |cons x y=>rw[hleft']at a;cases a
   | cons e0 L=>
     have W:∃j w1,(choose (.mapNext (e0::L).length)).run P0 w = .ok j w1/\j<(e0::L).length/\(w1=w\/w1 = {w with drawn:=w.drawn+1}):=by
       rw[run_choose];split
       ·exact⟨0,w,rfl,by simp,.inl rfl⟩
       ·exact⟨_,_,rfl,Nat.mod_lt _ (by simp),.inr rfl⟩
     let⟨j,w1,hc,hjl,hw1⟩:=W
     have C:j<(es.filter λe=>!seen.contains e.2.2).length:=by rw[a.length];exact hjl
     let⟨e',E,S,T,F⟩:=a.get (hZ C)
     generalize hee:(es.filter λe=>!seen.contains e.2.2)[j]=e at S T F;have I:e∈es.filter λe=>!seen.contains e.2.2:=by rw[<-hee];exact AL C
     let⟨hem1,hem2⟩:=wA9.1 I
     have X:=v.B8 _ _ hd;have k:w1.heap=w.heap:=by rcases hw1 with rfl|rfl <;> rfl
     have f:∀b,b≠d.b->({w1 with heap:=w.heap.setIfInBounds d.b (.mapIter (some o.b) c (seen++[e.2.2]).toArray c)}:World).heap[b]? =w.heap[b]?:=by grind
     refine⟨.tuple #[.bool true,e'.key,e'.val],{w1 with heap:=w.heap.setIfInBounds d.b (.mapIter (some o.b) c (seen++[e.2.2]).toArray c)},?_,.inr ⟨e,hem1,by simpa using hem2,?_⟩⟩
     ·have t:(((if(Array.mk (e0::L)).isEmpty then #[none] else #[])++(Array.mk (e0::L)++#[]).map some:Array (Option MapEntry)))[j]? =some (some e'):=by
        simp only[Array.isEmpty_iff,Array.append_empty];rw[if_neg (by simp)];simp only[Array.empty_append,List.map_toArray,List.getElem?_toArray,wBH,E,Option.map_some]
      have J:((if(Array.mk (e0::L)).isEmpty then #[none] else #[])++(Array.mk (e0::L)++#[]).map some:Array (Option MapEntry)).size=(e0::L).length:=by simp
      simp only[Instr.next,DO,zT H,Hi,run_getObj_map hb,g,s,Q,R];rw[if_neg (by simp),J];simp only[DO,hc,Hi,t];have D:(setObj d.b (.mapIter (some o.b) c (seen.toArray.push e'.born) c)).run P0 w1 = .ok () {w1 with heap:=w.heap.setIfInBounds d.b (.mapIter (some o.b) c (seen++[e.2.2]).toArray c)}:=by
        have K:w1.heap[d.b]? =some (.mapIter (some o.b) c seen.toArray c):=by rw[k];exact H
        have hp:seen.toArray.push e'.born=(seen++[e.2.2]).toArray:=by rw[F];simp
        rw[hp];unfold setObj;simp[Sem.run,K];rw[k]
      simp only[DO,D,Hi,UE]
     ·have u:w1.os=w.os/\w1.tape=w.tape/\w1.output=w.output:=by rcases hw1 with rfl|rfl <;> exact⟨rfl,rfl,rfl⟩
      refine⟨.tuple _ #[.bool true,e'.key,e'.val] (.cons _ _ _ _ (.bool true) (.cons _ _ _ _ S (.one T))),?_,FR.set hd G (by simp) f u.1 u.2.1 u.2.2,.same (jJ _)⟩;refine v.set hd N rfl G (λh=>h) ⟨U,G,P,some o.b,?_,o,p,rfl⟩ (by simp) f
      simp_all
theorem SY{n:Nat}   (h:zG n c=some F):∃i0 r0 b g r1 i r2 a o2 p1 p2 p3 d e f,
  c = .seq (.region i0 r0 false) (.seq (.cond (.tmp F.c) .skip (.exit F.x)) (.block b (.seq (.region g r1 false) (.region i r2 false))))/\
  r0.toList=[a,o2]/\r1.toList=[p1,p2,p3]/\r2.toList=[d,e,f]/\F.ok n=true/\F.r0 a o2=true/\F.r1 p1 p2 p3=true/\F.r2 d e f=true:=by
 unfold zG at h;split at h
 ·split at h
  ·rename_i e0 e1 e2;split at h
   ·split at h
    ·rename_i hc;cases h;simp only[yF]at hc
     let⟨⟨⟨⟨⟨j,k⟩,l⟩,m⟩,o⟩,p⟩:=hc
     rw[<-DG o,<-DG p];exact⟨_,_,_,_,_,_,_,_,_,_,_,_,_,_,_,rfl,e0,e1,e2,j,k,l,m⟩
    ·cases h
   ·cases h
  ·cases h
 ·cases h
theorem zeW  (h:F.r0 b o2=true):b.op = .next (.tmp F.it) false/\b.dst=some F.a/\b.guard=none/\o2.op = .extract (.tmp F.a) 0/\o2.dst=some F.c/\o2.guard=none:=by
 unfold nC.r0 at h;split at h
 ·simp[ Nat.beq_eq]at h
  simp_all
 ·cases h
theorem zgS {a:Oper} (h:F.r1 a o2 b=true):a.op = .entry (.tmp F.it)/\a.dst=some F.e0/\a.guard=none/\o2.op = .extract (.tmp F.e0) 0/\o2.dst=some F.e1/\o2.guard=none/\
  b.op = .assign (.tmp F.e1)/\b.dst=some F.e2/\b.guard=none:=by
 unfold nC.r1 at h;split at h
 ·simp[ Nat.beq_eq]at h
  simp_all
 ·cases h
theorem zgz {a:Oper} (h:F.r2 a o2 b=true):a.op = .move (.tmp F.u)/\a.dst=some F.m0/\a.guard=none/\o2.op = .move (.tmp F.e2)/\o2.dst=some F.m1/\o2.guard=none/\
  b.op = .mapUpdate F.ty (.tmp F.m0) (.tmp F.m1) (.const (.bool true))/\b.dst=none/\b.guard=none:=by
 unfold nC.r2 at h;split at h
 ·simp[ Nat.beq_eq]at h
  simp_all
 ·cases h
theorem yu {all os:List Oper} {o:Oper} {d:DF} (a:o.guard=none) (hd:xK n o=some d) {v:V} {h':Hp} (b:(EV o).f call t h=some (v,h')) :
  (lU n all (o::os)).f call t h=(lU n all os).f call (d.f t v) h':=by
 show(Ie n all o (lU n all os)).f call t h=_;have c:kE n all o=none:=by unfold kE;rw[a]
 unfold Ie;simp[hd,c,b];rfl
theorem BN{o:Oper}  (a:o.dst=some d) (hd:Nat.blt d n=true):xK n o=some ⟨λt v=>t.set d v⟩:=by
 unfold xK;simp[a,hd]
theorem zbj{o:Oper} (a:o.dst=none):xK n o=some ⟨λt _=>t⟩:=by
 unfold xK;simp[a]
theorem Se {o:Oper} (hc:cls o=2) {v:V} {h':Hp} (a:(j5 o).f t h=some (.val v h')):(EV o).f call t h=some (v,h'):=by
 unfold EV;simp[hc,a,oB]
theorem zdE{kt:Nat} (hi:Ht kt=true) {k:IntKind} {us:List (V×V×Nat)} (cu:Nat) (f:∀e∈us,e.2.1 = .bool true/\∃n,e.1 = .int k n) (n:Int) :
  ∃a g,BG kt none us cu (.int k n) (.bool true)=some (.map a g)/\(∀e∈a,e.2.1 = .bool true/\(e.1 = .int k n\/∃e'∈us,e'.1=e.1))/\(∃e∈a,e.1 = .int k n)/\∀e∈us,∃e'∈a,e'.1=e.1:=by
 rcases L3 hi k n 0 f with⟨h,d⟩|⟨j,e,h,d,i⟩
 ·refine⟨us++[(.int k n,.bool true,cu)],cu+1,by unfold BG;rw[h];rfl,λe b=>?_,⟨_,wBL _ (Hh.2 rfl),rfl⟩,λe b=>⟨e,Zu _ b,rfl⟩⟩;rcases yX.1 b with b|b
  ·exact⟨(f e b).1,.inr ⟨e,b,rfl⟩⟩
  ·simp at b;subst b;exact⟨rfl,.inl rfl⟩
 ·have l:=(ke.1 d).1;refine⟨us.set j (.int k n,.bool true,e.2.2),cu,?_,λx c=>?_,⟨_,mz.2 ⟨j,Tt l⟩,rfl⟩,λx c=>?_⟩
  ·unfold BG;rw[h];simp[oB,Jn,d,i,V.Et];rfl
  ·rcases wBG c with c|rfl
   ·exact⟨(f x c).1,.inr ⟨x,c,rfl⟩⟩
   ·exact⟨rfl,.inl rfl⟩
  ·let⟨q,hq⟩:=mz.1 c
   by_cases hqj:j=q
   ·subst hqj;rw[d]at hq;cases hq;exact⟨_,mz.2 ⟨j,Tt l⟩,i.symm⟩
   ·exact⟨x,mz.2 ⟨q,by rw[VL hqj];exact hq⟩,rfl⟩
theorem find_born{es:List (V×V×Nat)} {e:V×V×Nat} (b:(es.map λe=>e.2.2).Nodup) (a:e∈es):(es.find? λx=>Nat.beq x.2.2 e.2.2)=some e:=by
 induction es with
 |nil=>cases a
 | cons x es c=>
   simp only[wBW,WM]at b;rcases Aw.1 a with rfl|a
   ·simp
   ·have nw:x.2.2≠e.2.2:=λd=>b.1 (d▸V7.2 ⟨e,a,rfl⟩)
    rw[List.find?_cons_of_neg (by simpa using nw)];exact c b.2 a
theorem Vv{k:IntKind}:∀{es:List (V×V×Nat)} {ks:List Int},Oe k es=some ks->(∀e∈es,e.2.1 = .bool true/\∃n∈ks,e.1 = .int k n)/\∀n∈ks,∃e∈es,e.1 = .int k n
 |[],ks,hk=>by cases hk;simp
 | e ::es,ks,hk=>by
   simp[Oe,fD]at hk
   let⟨n,d,ns,i,j⟩:=hk
   cases j;have f:e.2.1 = .bool true/\e.1 = .int k n:=by
     unfold zfv at d;split at d
     ·rw[ik]at d
      let⟨l,o⟩:=d
      cases o;rw[EF l];exact⟨rfl,rfl⟩
     ·cases d
   let⟨p,q⟩:=Vv i
   refine⟨λx g=>?_,λm h=>?_⟩
   ·rcases Aw.1 g with rfl|g
    ·exact⟨f.1,n,by simp,f.2⟩
    ·let⟨a,m,b,c⟩:=p x g
     exact⟨a,m,by simp[b],c⟩
   ·rcases Aw.1 h with rfl|h
    ·exact⟨e,by simp,f.2⟩
    ·let⟨x,a,b⟩:=q m h
     exact⟨x,by simp[a],b⟩
structure FI (F:nC) (r m u c:Nat) (es:List (V×V×Nat)) (h0:Hp) (t0:Tm) (seen:List Nat) (h:Hp) (t:Tm):Prop where
 next:h.next=h0.next
 fy:∀l,l≠r->l≠u->h.get l=h0.get l
 iter:h.get r=some (.iter (some m) c seen c)
 put:∃us cu,h.get u=some (.map us cu)/\(∀e∈us,e.2.1 = .bool true/\∃e'∈es,e'.1=e.1)/\∀e∈es,e.2.2∈seen->∃e'∈us,e'.1=e.1
 ds:t.ds=t0.ds
 yK:∀i,i ∉ F.all.drop 2->ij t i=ij t0 i
 none:es=[]->∀i,i≠F.a->i≠F.c->ij t i=ij t0 i
 some:seen≠[]->(∃n,ij t F.e0 = .tuple [.int F.k n,.bool true])/\(∃n,ij t F.e1 = .int F.k n)/\(∃n,ij t F.e2 = .int F.k n)/\ij t F.m0 = .map u/\∃n,ij t F.m1 = .int F.k n
theorem RQ:∀{l:List Nat},Uw l=true->l.Pairwise (·≠·)
 |[],_=> .nil
 | a::l,h=>by
   simp[Uw,yF]at h;exact .cons (λb c e=>by have:=h.1 b c;subst e;simp at this) (RQ h.2)
theorem zak (hc:xo call) {F:nC} {ar:Code} (hF:zG n ar=some F) {r m u c:Nat} {es:List (V×V×Nat)} {h0:Hp} {t0:Tm} {w0:World} {Δ0:Env} {ks:List Int} (aT:Oe F.k es=some ks)
  (aa:r≠u) (aU:u≠m) (au:r≠m) (aV:h0.get m=some (.map es c)) (ab:ij t0 F.it = .ptr r 0) (aw:ij t0 F.u = .map u) {Q:Exit->Act->World->Prop}
  (hQ:∀Δ' a' w',AG Δ0 h0 w0 n (F.t u es.isEmpty t0) ((h0.put r .gone).put u (.Rt F.k ks)) Δ' a' w'->Q (.exit F.x) a' w') :
  ∀(k:Nat) (seen:List Nat) {Δ:Env} {h:Hp} {w:World} {t:Tm} {a:Act},(es.filter λe=>!seen.contains e.2.2).length<=k->AG Δ0 h0 w0 n t h Δ a w->FI F r m u c es h0 t0 seen h t->CV ar Q a w:=by
 obtain ⟨i0,r0,b,i1,r1,i2,r2,⟨_,_,T,ac,ad,_⟩,⟨_,_,ae,ag,ah,_⟩,⟨_,_,ax,ay,az,_⟩,⟨_,_,aW,aX,aY,_⟩,⟨_,_,aZ,a0,a1,_⟩,⟨_,_,a5,a6,a7,_⟩,⟨_,_,a8,a9,ba,_⟩,⟨_,_,aA,aB,aC,_⟩,rfl,e0,e1,e2,aD,g0,g1,g2⟩:=SY hF;obtain⟨rfl,rfl,rfl,rfl,rfl,rfl⟩:=zeW g0;obtain⟨rfl,rfl,rfl,rfl,rfl,rfl,rfl,rfl,rfl⟩:=zgS g1;obtain⟨rfl,rfl,rfl,rfl,rfl,rfl,rfl,rfl,rfl⟩:=zgz g2;clear g0 g1 g2 hF;simp only[nC.ok,yF,Sx]at aD;obtain⟨⟨⟨bb,bc⟩,ai⟩,aE⟩:=aD;have nw:=RQ bc;simp only[nC.all,List.pairwise_cons,Aw,List.not_mem_nil,or_false,forall_eq_or_imp,forall_eq,false_imp_iff,implies_true,List.Pairwise.nil,and_true]at nw;have hl:∀d,d=F.a\/d=F.c\/d=F.e0\/d=F.e1\/d=F.e2\/d=F.m0\/d=F.m1->Nat.blt d n=true:=λd hd=>bb d (by simp only[nC.all,Aw];grind);obtain⟨kt,et,hu,rfl⟩:∃kt et,P0.underlying F.ty=some (.map kt et)/\kt=F.kt:=by
  split at ai
  ·rename_i kt et hu;exact⟨kt,et,hu,DG ai⟩
  ·cases ai
 have hi:Ht F.kt=true/\LC F.kt=some none:=by
  split at aE
  ·rename_i k hk;unfold Ht LC;rw[hk];exact⟨rfl,rfl⟩
  ·cases aE
 obtain ⟨hi,bd⟩:=hi;have be:List.range r0.size=[0,1]:=by
  have:r0.size=2:=by rw[<-wBE,e0];rfl
  rw[this];rfl
 have bf:r0[0]? =some ⟨some F.a,.next (.tmp F.it) false,T,ac,ad,none⟩:=by rw[<-wBC,e0];rfl
 have y:=Vv aT;intro k
 induction k using Nat.strongRecOn with
 |_ k ih=>
 intro seen Δ h w t a hk hG q;have aj:F.it ∉ F.all.drop 2:=by simp only[nC.all,List.drop,Aw,List.not_mem_nil];grind
 have uT:F.u ∉ F.all.drop 2:=by simp only[nC.all,List.drop,Aw,List.not_mem_nil];grind
 have ak:h.get m=some (.map es c):=by rw[q.fy m au.symm aU.symm];exact aV
 have al:fV Δ (.ptr r 0) (a.eval (.tmp F.it)):=by
  have:=hG.tmps.rel F.it;rw[q.yK F.it aj,ab]at this;exact this
 refine .round (wp_seq (wp_region ?_));rw[be,wpOps_cons];unfold wpOp;simp only[bf];rw[if_pos (NA (n:=n) (ops:=r0.toList) rfl _)];refine .inl ?_;unfold Oper.wp;obtain⟨x,w1,B,am⟩:=zal hG.world (ty:=T) al q.iter ak;rw[show(execOp a.eval ⟨some F.a,.next (.tmp F.it) false,T,ac,ad,none⟩).run P0 w = .ok (.value x) w1 from pU B,Oper.upon_value];have d1:=BN (n:=n) (o:=⟨some F.a,.next (.tmp F.it) false,T,ac,ad,none⟩) rfl (hl _ (by simp));have ext:∀{h:Hp} (v:V) (vs:List V),(EV ⟨some F.c,.extract (.tmp F.a) 0,ae,ag,ah,none⟩).f call (t.set F.a (.tuple (v::vs))) h=some (v,h):=λv vs=>by
  show oB (oB (some (ij (t.set F.a (.tuple (v::vs))) F.a)) λx=>match x with| .tuple vs=>NN vs 0|_=>none) _=_;rw[iz,if_pos rfl];rfl
 have aF:∀{h:Hp} (v:V) (vs:List V),(lU n r0.toList [⟨some F.c,.extract (.tmp F.a) 0,ae,ag,ah,none⟩]).f call (t.set F.a (.tuple (v::vs))) h=some ((t.set F.a (.tuple (v::vs))).set F.c v,h):=λv vs=>by
  rw[yu rfl (BN rfl (hl F.c (by simp))) (ext v vs)];rfl
 have I:∀{v:V} {vs:List V} {p:Hp} {Δ1:Env} {Q2:Exit->Act->World->Prop},GN Δ h w (.tuple (v::vs)) p Δ1 x w1->(∀R C w2,AG Δ0 h0 w0 n ((t.set F.a (.tuple (v::vs))).set F.c v) p R C w2->Q2 .normal C w2)->
   wpOps P0 r0 Q2 [1] (a.put (some F.a) x) w1:=λhA hK=>by
  have hP:=AG.put hG.tmps d1 hA;exact EU hc (ops:=r0) [⟨some F.c,.extract (.tmp F.a) 0,ae,ag,ah,none⟩] 1 (by rw[e0];rfl) hP.world hP.tmps (aF _ _) (λR C w2 z=>hK R C w2 ((hG.trans hP).trans z))
 rcases am with⟨aG,rfl,rfl⟩|⟨e,he,U,hA⟩
 ·
  refine I (v:= .bool false) (vs:=[]) ⟨.tuple _ #[.bool false] (.one (.bool false)),hG.world,.refl _ _,.refl _ _⟩ λR C w2 z=>?_;have an:C.eval (.tmp F.c) = .bool false:=by
   have:=z.tmps.rel F.c;rw[iz,if_pos rfl]at this;cases B:C.eval (.tmp F.c) <;> rw[show C.tmps.getD F.c undef=_ from B]at this <;> cases this;rfl
  refine wp_seq (wp_cond_false an (wp_exit ?_));have L:∀e∈es,e.2.2∈seen:=aG;have M:=z.tmps.rel;have bg:∃d,R r=some d:=by
   have:=M F.it;rw[iz,if_neg (by grind),iz,if_neg (by grind),q.yK F.it aj,ab]at this;generalize C.tmps.getD F.it undef=x at this;cases this with|ptr _ _ d hd=>exact⟨d,hd⟩
  have bi:∃d,R u=some d:=by
   have:=M F.u;rw[iz,if_neg (by grind),iz,if_neg (by grind),q.yK F.u uT,aw]at this;generalize C.tmps.getD F.u undef=x at this;cases this with|map _ d hd=>exact⟨d,hd⟩
  obtain⟨us,cu,p1,p2,p3⟩:=q.put;refine hQ R C w2 ⟨⟨z.tmps.size,λi=>?_,?_⟩,?_,z.frame,⟨jJ _,z.grow.none⟩⟩
  ·have g:=M i;generalize C.tmps.getD i undef=x at g;simp only[iz]at g;unfold nC.t
   cases U:es.isEmpty with
   | true=>
     simp only[iz];by_cases hc1:F.c=i
     ·rw[if_pos hc1]at g⊢;exact g
     ·rw[if_neg hc1]at g⊢
      by_cases hc2:F.a=i
      ·rw[if_pos hc2]at g⊢;exact g
      ·rw[if_neg hc2]at g⊢
       rw[q.none (List.isEmpty_iff.1 U) i (Ne.symm hc2) (Ne.symm hc1)]at g
       exact g
   | false=>
     have bj:seen≠[]:=by
       cases es with
       |nil=>cases U
       |cons e es=>intro A;have:=L e (by simp);rw[A]at this;cases this
     obtain⟨⟨k0,s0⟩,⟨k1,s1⟩,⟨k2,s2⟩,s3,⟨k4,s4⟩⟩:=q.some bj;simp only[iz];by_cases hc1:F.c=i
     ·rw[if_pos hc1]at g⊢;exact g
     rw[if_neg hc1]at g⊢;by_cases hc2:F.a=i
     ·rw[if_pos hc2]at g⊢;exact g
     rw[if_neg hc2]at g⊢;by_cases hc3:F.m1=i
     ·subst hc3
      rw[if_pos rfl];rw[s4]at g;cases g;exact .anyI _ _
     rw[if_neg hc3];by_cases hc4:F.m0=i
     ·subst hc4
      rw[if_pos rfl];rw[s3]at g;exact g
     rw[if_neg hc4];by_cases hc5:F.e2=i
     ·subst hc5
      rw[if_pos rfl];rw[s2]at g;cases g;exact .anyI _ _
     rw[if_neg hc5];by_cases hc6:F.e1=i
     ·subst hc6
      rw[if_pos rfl];rw[s1]at g;cases g;exact .anyI _ _
     rw[if_neg hc6];by_cases hc7:F.e0=i
     ·subst hc7
      rw[if_pos rfl];rw[s0]at g
      cases g with
      | tuple _ uD A=>
        refine .tuple _ uD ?_;generalize uD.toList=l at A
        cases A with
        |cons _ _ _ _ p z=>cases p;exact .cons _ _ _ _ (.anyI _ _) z
     rw[if_neg hc7];rw[q.yK i (by simp only[nC.all,List.drop,Aw,List.not_mem_nil];grind)]at g;exact g
  ·have hd:=z.tmps.ds;rw[Tm.FD,Tm.FD,q.ds]at hd;unfold nC.t;rw[Tm.FD,Tm.FD]
   cases es.isEmpty with
   |true=>exact hd
   |false=>simp only[Tm.FD];exact hd
  ·obtain ⟨dr,aH⟩:=bg;obtain⟨du,aI⟩:=bi;have aJ:WR R (h.put r .gone) w2:=by
    obtain⟨o,J,N⟩:=z.world.obj r dr aH;rw[q.iter]at J;cases J;obtain⟨b1,b2,b3,_⟩:=N;exact z.world.set aH q.iter rfl b2 (λ_=>rfl) ⟨b1,b2,b3⟩ rfl λ_ _=>rfl
   have aK:(h.put r .gone).get u=some (.map us cu):=by rw[jP _ _ (Hp.Dg q.iter),if_neg aa];exact p1
   have bm:WR R ((h.put r .gone).put u (.Rt F.k ks)) w2:=by
    obtain⟨o,J,N⟩:=aJ.obj u du aI;rw[aK]at J;cases J;obtain⟨b1,b2,b3,jL,b4,b5,_⟩:=N;refine aJ.set aI aK rfl b2 (λ_=>rfl) ⟨b1,b2,b3,jL,cu,b4,λe' bo=>?_,λW hn=>?_⟩ rfl λ_ _=>rfl
    ·obtain⟨j,hj⟩:=mz.1 bo;have aL:j<us.length:=by rw[b5.length];exact(ke.1 hj).1
     obtain⟨x',y1,S,y3,_⟩:=b5.get (i:=j) (hZ aL);rw[hj]at y1;cases y1;obtain⟨z1,e9,z2,z3⟩:=p2 _ (AL aL);obtain⟨_,W,z4,z5⟩:=y.1 e9 z2;rw[<-z3,z5]at S;rw[z1]at y3;refine⟨?_,W,z4,?_⟩
     ·cases B:e'.val <;> rw[B]at y3 <;> cases y3;rfl
     ·cases B:e'.key <;> rw[B]at S <;> cases S;rfl
    ·obtain⟨e9,z2,z5⟩:=y.2 W hn;obtain⟨e8,z6,z7⟩:=p3 e9 z2 (L e9 z2);obtain⟨j,hj⟩:=mz.1 z6;obtain⟨x',y1,S,y3,_⟩:=b5.get (i:=j) hj;rw[z7,z5]at S;refine⟨x',mz.2 ⟨j,y1⟩,?_⟩;cases B:x'.key <;> rw[B]at S <;> cases S;rfl
   have D:r<h0.next:=by rw[<-q.next];exact Hp.Dg q.iter
   have K:u<h0.next:=by rw[<-q.next];exact Hp.Dg p1
   refine bm.same (by show h0.next=h.next;exact q.next.symm) λl=>?_;rw[jP _ _ (by show u<h0.next;exact K),jP _ _ D,jP _ _ (by show u<h.next;rw[q.next];exact K),jP _ _ (by rw[q.next];exact D)];by_cases Z:u=l
   ·rw[if_pos Z,if_pos Z]
   ·rw[if_neg Z,if_neg Z];by_cases l2:r=l
    ·rw[if_pos l2,if_pos l2]
    ·rw[if_neg l2,if_neg l2,q.fy l (Ne.symm l2) (Ne.symm Z)]
 ·
  refine I (v:= .bool true) (vs:=[e.1,e.2.1]) hA λR C w2 z=>?_;have an:C.eval (.tmp F.c) = .bool true:=by
   have:=z.tmps.rel F.c;rw[iz,if_pos rfl]at this;cases B:C.eval (.tmp F.c) <;> rw[show C.tmps.getD F.c undef=_ from B]at this <;> cases this;rfl
  refine wp_seq (wp_cond_true an (wp_skip ?_));refine wp_block (wp_seq (wp_region ?_));have D:r<h.next:=Hp.Dg q.iter;obtain⟨us,cu,p1,p2,p3⟩:=q.put;have K:u<h.next:=Hp.Dg p1;have E:wW es c:=by
   obtain ⟨d,hd⟩:∃d,Δ m=some d:=by
    generalize a.eval (.tmp F.it)=x at al
    cases al with
    | ptr _ _ d hd=>
      obtain⟨o',ho,hr⟩:=hG.world.obj r d hd;rw[q.iter]at ho;cases ho;obtain⟨_,_,_,m',a4,dm,br,_⟩:=hr;exact⟨dm,br⟩
   exact IG hG.world hd ak
  generalize X:(t.set F.a (.tuple [.bool true,e.1,e.2.1])).set F.c (.bool true)=T2 at z;generalize G:h.put r (.iter (some m) c (seen++[e.2.2]) c)=p at z;have gr:p.get r=some (.iter (some m) c (seen++[e.2.2]) c):=by rw[<-G,jP _ _ D,if_pos rfl]
  have gm:p.get m=some (.map es c):=by rw[<-G,jP _ _ D,if_neg au];exact ak
  have gu:p.get u=some (.map us cu):=by rw[<-G,jP _ _ D,if_neg aa];exact p1
  have Y:p.next=h.next:=by rw[<-G];rfl
  have aM:ij T2 F.it = .ptr r 0:=by rw[<-X,iz,if_neg (by grind),iz,if_neg (by grind),q.yK F.it aj,ab]
  have bt:ij T2 F.u = .map u:=by rw[<-X,iz,if_neg (by grind),iz,if_neg (by grind),q.yK F.u uT,aw]
  obtain ⟨ev,W,bC,ek⟩:=y.1 e he;have aN:NJ (.ptr r 0) p=some (.val (.tuple [e.1,e.2.1]) p):=by
   unfold NJ;simp only[vZ,wBh,bB,gr,oB,BA,gm,List.getLast?_append,List.getLast?_singleton,Option.some_or,find_born E.1 he]
  have aO:(lU n r1.toList r1.toList).f call T2 p=some (((T2.set F.e0 (.tuple [e.1,e.2.1])).set F.e1 e.1).set F.e2 e.1,p):=by
   have o1:(EV ⟨some F.e0,.entry (.tmp F.it),ax,ay,az,none⟩).f call T2 p=some (.tuple [e.1,e.2.1],p):=by
    have ho:(j5 ⟨some F.e0,.entry (.tmp F.it),ax,ay,az,none⟩).f T2 p=NJ (ij T2 F.it) p:=rfl;exact Se rfl (by rw[ho,aM,aN])
   have o2:∀s,ij s F.e0 = .tuple [e.1,e.2.1]->(EV ⟨some F.e1,.extract (.tmp F.e0) 0,aW,aX,aY,none⟩).f call s p=some (e.1,p):=λs A=>by
    show oB (oB (some (ij s F.e0)) λx=>match x with| .tuple vs=>NN vs 0|_=>none) _=_;rw[A];rfl
   have o3:∀s,ij s F.e1=e.1->(EV ⟨some F.e2,.assign (.tmp F.e1),aZ,a0,a1,none⟩).f call s p=some (e.1,p):=λs A=>by
    rw[<-A];rfl
   generalize H:r1.toList=O;rw[H]at e1
   rw [congrArg (lU n O) e1,yu rfl (BN rfl (hl F.e0 (by simp))) o1,yu rfl (BN rfl (hl F.e1 (by simp))) (o2 _ (by show ij (T2.set _ _) _=_;rw[iz,if_pos rfl])),
    yu rfl (BN rfl (hl F.e2 (by simp))) (o3 _ (by show ij (Tm.set _ _ _) _=_;rw[iz,if_pos rfl]))]
   rfl
  obtain ⟨ao,aq,y1,S,y3,y4⟩:=zdE hi (k:=F.k) cu (us:=us) (λe A=>⟨(p2 e A).1,by
   obtain⟨_,e',J,N⟩:=p2 e A;obtain⟨_,n',_,q3⟩:=y.1 e' J;exact⟨n',N▸q3⟩⟩) W
  have aP:∀T5,ij T5 F.u = .map u->ij T5 F.e2=e.1->(lU n r2.toList r2.toList).f call T5 p=some ((T5.set F.m0 (.map u)).set F.m1 e.1,p.put u (.map ao aq)):=λT5 k1 k2=>by
   have o1:(EV ⟨some F.m0,.move (.tmp F.u),a5,a6,a7,none⟩).f call T5 p=some (.map u,p):=by
    rw[<-k1];rfl
   have o2:∀s,ij s F.e2=e.1->(EV ⟨some F.m1,.move (.tmp F.e2),a8,a9,ba,none⟩).f call s p=some (e.1,p):=λs A=>by
    rw[<-A];rfl
   have o3:∀s,ij s F.m0 = .map u->ij s F.m1=e.1->(EV ⟨none,.mapUpdate F.ty (.tmp F.m0) (.tmp F.m1) (.const (.bool true)),aA,aB,aC,none⟩).f call s p=some (.undef,p.put u (.map ao aq)):=λs G bu=>by
    have hw:(j5 ⟨none,.mapUpdate F.ty (.tmp F.m0) (.tmp F.m1) (.const (.bool true)),aA,aB,aC,none⟩).f s p=xN F.kt none (.map u) e.1 (.bool true) p:=by
     unfold j5;simp only[hu,bd];show oB (some (ij s F.m0)) (λm=>oB (some (ij s F.m1)) λk=>oB (some (.bool true)) λv=>xN F.kt none m k v p)=_;rw[G,bu];rfl
    refine Se rfl ?_;rw[hw,ek];unfold xN zU;simp only[KY,bB,gu,oB,y1]
   generalize H:r2.toList=O;rw[H]at e2
   rw [congrArg (lU n O) e2,yu rfl (BN rfl (hl F.m0 (by simp))) o1,yu rfl (BN rfl (hl F.m1 (by simp))) (o2 _ (by show ij (T5.set _ _) _=_;rw[iz,if_neg (by grind)];exact k2)),
    yu rfl (zbj rfl) (o3 _ (by show ij (Tm.set _ _ _) _=_;rw[iz,if_neg (by grind)];show ij (T5.set _ _) _=_;rw[iz,if_pos rfl]) (by show ij (Tm.set _ _ _) _=_;rw[iz,if_pos rfl]))]
   rfl
  have aQ:∀ops:Array Oper,List.range ops.size=List.range' 0 ops.toList.length:=λops=>by rw[List.range_eq_range',wBE]
  rw[aQ];refine EU hc (ops:=r1) r1.toList 0 rfl z.world z.tmps aO λΔ3 a3 w3 h3=>wp_region ?_;rw[aQ];refine EU hc (ops:=r2) r2.toList 0 rfl h3.world h3.tmps (aP _ (by simp only[iz];rw[if_neg (by grind),if_neg (by grind),if_neg (by grind)];exact bt) (by rw[iz,if_pos rfl])) λΔ4 a4 w4 h4=>?_;refine ih (es.filter λx=>!(seen++[e.2.2]).contains x.2.2).length ?_ (seen++[e.2.2]) (jJ _) (z.trans (h3.trans h4)) ?_
  ·have hf:(es.filter λx=>!(seen++[e.2.2]).contains x.2.2)=(es.filter λx=>!seen.contains x.2.2).filter λx=>!(x.2.2 == e.2.2):=by
    rw[List.filter_filter];congr 1;funext x;rw[WK];simp
    grind
   have bw:e∈es.filter λx=>!seen.contains x.2.2:=wA9.2 ⟨he,by simpa using U⟩;rw[hf];exact NY (List.length_filter_lt_length_iff_exists.2 ⟨e,bw,by simp⟩) hk
  ·refine ⟨Y.trans q.next,λl Z l2=>?_,?_,⟨ao,aq,by rw[jP _ _ (by rw[Y];exact K),if_pos rfl],λx B=>?_,λx B P=>?_⟩,?_,λi aR=>?_,λA=>?_,λ_=>?_⟩
   ·rw[jP _ _ (by rw[Y];exact K),if_neg (Ne.symm l2),<-G,jP _ _ D,if_neg (Ne.symm Z)];exact q.fy l Z l2
   ·rw[jP _ _ (by rw[Y];exact K),if_neg aa.symm];exact gr
   ·refine⟨(S x B).1,?_⟩;rcases(S x B).2 with A|⟨x',bx,A⟩
    ·exact⟨e,he,by rw[ek,A]⟩
    ·obtain⟨_,e',J,N⟩:=p2 x' bx;exact⟨e',J,by rw[N,A]⟩
   ·rcases yX.1 P with P|P
    ·obtain⟨e',J,N⟩:=p3 x B P;obtain⟨bz,q3,q4⟩:=y4 e' J;exact⟨bz,q3,q4.trans N⟩
    ·have bA:=find_born E.1 he;have aS:=find_born E.1 B;rw[Hh.1 P,bA]at aS;cases aS;obtain⟨e',J,N⟩:=y3;exact⟨e',J,by rw[N,ek]⟩
   ·simp only[Tm.FD];rw[<-X];simp only[Tm.FD];exact q.ds
   ·have g:=aR;simp only[nC.all,List.drop,Aw,List.not_mem_nil,or_false,not_or]at aR;simp only[iz];rw[<-X];simp only[iz];rw[if_neg (by grind),if_neg (by grind),if_neg (by grind),if_neg (by grind),if_neg (by grind),if_neg (by grind),if_neg (by grind)];exact q.yK i g
   ·rw[A]at he;cases he
   ·simp only[iz];refine⟨⟨W,?_⟩,⟨W,?_⟩,⟨W,?_⟩,?_,⟨W,?_⟩⟩
    ·rw[if_neg (by grind),if_neg (by grind),if_neg (by grind),if_neg (by grind),if_pos trivial,ek,ev]
    ·rw[if_neg (by grind),if_neg (by grind),if_neg (by grind),if_pos trivial,ek]
    ·rw[if_neg (by grind),if_neg (by grind),if_pos trivial,ek]
    ·rw[if_neg (by grind),if_pos trivial]
    ·rw[if_pos trivial,ek]
theorem zeA (hc:xo call) {F:nC} {d:Code} (x:zG n d=some F) (y:WR Δ h w) (z:TR Δ n t a) {r:X×Tm×Hp} (hv:SA F t h=some r) {Q:Exit->Act->World->Prop}
  (A:∀B s w',AG Δ h w n r.2.1 r.2.2 B s w'->Q r.1.to s w'):CV d Q a w:=by
 unfold SA at hv;rw[uJ]at hv;obtain⟨v,off,f,hv⟩:=hv;rw[ik,fD]at hv;obtain⟨h0,o,g,hv⟩:=hv;obtain rfl:=DG h0;split at hv
 ·rename_i m since last;simp only[BJ,ik,fD,yF]at hv;obtain⟨es,c,i,⟨C,D⟩,ks,j,hv⟩:=hv;obtain rfl:=DG C;obtain rfl:=DG D;split at hv
  ·rename_i u E;simp only[ik,BJ]at hv;obtain⟨k,us,cu,b,l,hv⟩:=hv;cases hv;obtain rfl:=List.isEmpty_iff.1 l;have p:v≠u:=λe=>by subst e;rw[g]at b;cases b
   have q:v≠m:=λe=>by subst e;rw[g]at i;cases i
   exact zak hc x j p (λe=>by subst e;simp at k) q i f E A _ [] (jJ _) (.start z y)
    ⟨rfl,λ_ _ _=>rfl,g,⟨[],cu,b,by simp,by simp⟩,rfl,λ_ _=>rfl,λ_ _ _ _=>rfl,λG=>absurd rfl G⟩
  ·cases hv
 ·cases hv
def Alike(t t':Tm)(x:Operand):Prop:=(Rq x).f t=(Rq x).f t'
theorem Ll{t t':Tm} {l:List Operand} (h:∀d,d∈DB l->ij t d=ij t' d):∀x∈l,Alike t t' x:=by
 induction l with
 |nil=>simp_all
 | cons y l b=>
   intro x a
   cases a with
   | head=>
     unfold Alike
     cases y <;> grind[DB,Rq]
   | tail _ a=>
     refine b (λd hd=>h d ?_) x a;cases y <;> simp[DB,hd]
variable{t':Tm}
theorem hN{x:Operand} (a:Alike t t' x):(yL x).f t h=(yL x).f t' h:=by
 unfold Alike at a;cases x <;> grind[yL]
theorem yi:∀{l:List Operand},(∀x∈l,Alike t t' x)->NX t l=NX t' l
 |[],_=>rfl
 | x::l,hl=>by
   have a:(Rq x).f t=(Rq x).f t':=hl x (by simp);simp[NX,a,yi (l:=l) (by simp_all)]
theorem C8:∀{l:List (Nat×Operand)},(∀x∈l,Alike t t' x.2)->vA t l=vA t' l
 |[],_=>rfl
 | x::l,hl=>by
   have a:(Rq x.2).f t=(Rq x.2).f t':=hl x (by simp);simp[vA,a,C8 (l:=l) (by grind)]
theorem XF{x:Option Operand} (a:∀y,x=some y->Alike t t' y):LL x t h=LL x t' h:=by
 cases x with
 |none=>rfl
 |some y=>simp[LL,hN (a y rfl)]
theorem U6{ty:Nat}  (hp:p.f t h=p.f t' h):(Kx ty p).f t h=(Kx ty p).f t' h:=by
 grind[Kx]
theorem WG{a b:Nat}  (hp:p.f t h=p.f t' h):(Qo a b p).f t h=(Qo a b p).f t' h:=by
 grind[Qo]
theorem NL{a b:Nat}  (hp:p.f t h=p.f t' h):(sr a p b).f t h=(sr a p b).f t' h:=by
 grind[sr]
theorem N5{a:Nat}  (hp:p.f t h=p.f t' h) (hq:q.f t h=q.f t' h):(sG a p q).f t h=(sG a p q).f t' h:=by
 grind[sG]
theorem TN{a:Nat}  (hp:p.f t h=p.f t' h) (hq:q.f t h=q.f t' h):(K0 a p q).f t h=(K0 a p q).f t' h:=by
 grind[K0]
theorem Uh{a:Nat}  {lo hi:Option Operand} (hp:p.f t h=p.f t' h) (hl:LL lo t h=LL lo t' h) (b:LL hi t h=LL hi t' h) :
  (NR a p lo hi).f t h=(NR a p lo hi).f t' h:=by
 grind[NR]
theorem Ru{a:Nat}  {ok:Bool} (hp:p.f t h=p.f t' h) (hq:q.f t h=q.f t' h):(Jm a p q ok).f t h=(Jm a p q ok).f t' h:=by
 grind[Jm]
theorem Ye{a:Nat}  (hp:p.f t h=p.f t' h):(hlen a p).f t h=(hlen a p).f t' h:=by
 grind[hlen]
theorem RJ{a:Nat}  {ok:Bool} (hp:p.f t h=p.f t' h):(Jq p a ok).f t h=(Jq p a ok).f t' h:=by
 unfold Jq;split <;> first|rfl|grind
theorem UJ{c:PF} (hc:c.f t h=c.f t' h) (hp:p.f t h=p.f t' h) (hq:q.f t h=q.f t' h):(OJ c p q).f t h=(OJ c p q).f t' h:=by
 grind[OJ]
theorem Tv{a:Nat} {b:List (Nat×Operand)} (hp:vA t b=vA t' b):(Lj a b).f t h=(Lj a b).f t' h:=by
 unfold Lj;grind
theorem KM{o:Oper} (e:∀x∈o.op.operands.toList,Alike t t' x):(iJ o).f t h=(iJ o).f t' h:=by
 let⟨dst,op,ty,pos,af,gd⟩:=o
 cases op <;> simp[iJ] <;> simp[Op.operands]at e
 case move x=>grind[hN]
 case assign x=>grind[hN]
 case pick c a b=>exact UJ (by grind[hN]) (by grind[hN]) (by grind[hN])
 case load ty a=>grind[U6,hN]
 case nilCheck x=>grind[AZ,hN]
 case binOp op xt x y b=>grind[hN]
 case unOp op b x=>grind[hN]
 case convert s d x=>grind[WG,hN]
 case build ty ps=>grind[Tv,C8]
 case makeFunc fn first caps=>
  cases fn with
  |func f=>grind[yi]
  |_=>rfl
 case slice ty x lo hi mx=>
  cases mx with
  |none=>grind[Uh,hN,XF]
  |some _=>rfl
 case fieldAddr s x f=>grind[NL,hN]
 case indexAddr ty x i=>grind[N5,hN]
 case index ty x i=>grind[TN,hN]
 case lookup ty m k ok=>grind[Ru,hN]
 case extract x i=>grind[Iz,hN]
 case makeInterface ty x=>
  split
  ·grind[hN]
  ·rfl
 case typeAssert x b asserted ok=>grind[RJ,hN]
 case call c=>
  let⟨cal,args,tys⟩:=c
  cases cal with
  | builtin b=>
    have g:∀x∈args.toList,Alike t t' x:=by grind[Call.operands]
    cases b <;> simp only
    case len=>
      split
      ·grind[Ye,hN]
      ·rfl
    case min=>grind[yi]
    case max=>grind[yi]
    all_goals rfl
  |_=>rfl
 all_goals rfl
theorem SP{x:Operand}(a:Alike t t' x):(Rq x).f t=(Rq x).f t':=a
theorem Oo{o:Oper} (a:∀x∈o.op.operands.toList,Alike t t' x):(sY o).f t=(sY o).f t':=by
 let⟨dst,op,ty,pos,af,gd⟩:=o
 cases op <;> simp[sY] <;> simp[Op.operands]at a
 case alloc e=>split <;> rfl
 case box e x=>grind[SP]
 case buildSlice ty len parts=>
  (repeat' split) <;> first
   |rfl
   |grind[HA,C8]
 case makeSlice ty n c=>
  (repeat' split) <;> first
   |rfl
   |grind[SP]
 case makeMap ty r=>
  cases r with
  |none=>simp only;split <;> rfl
  |some _=>rfl
 all_goals rfl
theorem VU{o:Oper} (e:∀x∈o.op.operands.toList,Alike t t' x):(j5 o).f t h=(j5 o).f t' h:=by
 let⟨dst,op,ty,pos,af,gd⟩:=o
 cases op <;> simp[j5] <;> simp[Op.operands]at e
 case store ty a x=>
  split
  ·grind[hN]
  ·rfl
 case mapUpdate ty m k x=>
  (repeat' split) <;> first
   |rfl
   |grind[hN]
 case range ty x=>
  split
  ·grind[hN]
  ·rfl
 case entry x=>grind[hN]
 case call c=>
  let⟨cal,args,tys⟩:=c
  cases cal with
  | builtin b=>
    have i:∀x∈args.toList,Alike t t' x:=by grind[Call.operands]
    cases b <;> simp only
    case append=>
      split
      ·rename_i s x g xT d _
       (repeat' split) <;> first
         |rfl
         |grind[hN]
      ·rfl
    case delete=>
      split
      ·rename_i s x g xT d _
       (repeat' split) <;> first
         |rfl
         |grind[hN]
      ·rfl
    all_goals rfl
  | value f=>
    grind[Alike,Call.operands,hN,yi]
  | invoke r m=>
    grind[Alike,Call.operands,hN,yi]
 all_goals rfl
theorem PL {o:Oper} (a:∀x∈o.op.operands.toList,Alike t t' x):(EV o).f call t h=(EV o).f call t' h:=by
 grind[EV,KM,Oo,VU]
theorem Ee:∀l i b k a,(items l i b)[k]? =some a->a.i=i+k/\l[k]? =some a.o
 |[],i,b,k,a,h=>by grind[items]
 |o::os,i,b,0,a,h=>by simp[items]at h;grind
 | o::os,i,b,k+1,a,h=>by
   let⟨c,d⟩:=Ee os (i+1) _ k a h
   grind
theorem Mg:∀l i a,(items l i a).length=l.length
 |[],i,a=>rfl
 |o::os,i,a=>by simp[items,Mg os]
theorem DN(a:List Nat) (x:Nat):∀es m,(Rk a es m).testBit x=true->m.testBit x=true\/∃e∈es,Qt e=true/\(x=e.on\/(a[e.on]?.getD 0).testBit x=true)
 |[],m,h=> .inl h
 | e ::es,m,h=>by
   simp[Rk]at h;split at h
   ·rename_i f
    rcases DN a x es _ h with b|⟨e',d,c,b⟩
    ·grind
    grind
   ·rcases DN a x es _ h with b|⟨e',d,c,b⟩
    ·simp_all
    grind
theorem ZI:∀l i c k a,(items l i c)[k]? =some a->
  a.b=Rk (c++((items l i c).take k).map (·.b)) a.o.after.toList 0
 |[],i,c,k,a,h=>by grind[items]
 |o::os,i,c,0,a,h=>by grind[items]
 | o::os,i,c,k+1,a,h=>by
   have:=ZI os (i+1) _ k a h
   grind[items,Cy]
theorem QH{l:List Oper} {k:Nat} {a:It} (h:(items l 0 [])[k]? =some a) {x:Nat} (d:a.b.testBit x=true) :
  ∃e∈a.o.after.toList,Qt e=true/\(x=e.on\/∃y,(items l 0 [])[e.on]? =some y/\y.b.testBit x=true):=by
 rw[ZI l 0 [] k a h]at d;rcases DN _ x _ _ d with c|⟨e,f,g,c⟩
 ·simp_all
 ·refine ⟨e,f,g,?_⟩;rcases c with c|c
  ·omega
  ·right;rw[RL,wBH]at c
   grind
theorem Jj(e:Edge):Region.binds .any e=Qt e:=by
 rfl
def rY(val:Nat->V)(D:Nat->Bool)(d:Nat)(kr:List It)(b:V):V:=kr.foldl (λv a=>if D a.i=true/\a.o.dst=some d then val a.i else v) b
theorem sS{b:Nat->V} {D':Nat->Bool}   (e:∀a∈kr,a.o.dst=some d->D a.i=D' a.i) (f:∀a∈kr,a.o.dst=some d->D a.i=true->val a.i=b a.i) (c:V) :
  rY val D d kr c=rY b D' d kr c:=by
 unfold rY
 induction kr generalizing c <;> grind
theorem Ld    (h:∀a∈kr,a.o.dst=some d->D a.i=false) (b:V):rY val D d kr b=b:=by
 unfold rY
 induction kr generalizing b <;> grind
theorem zac    (f:∀k (x:It),kr[k]? =some x->x.i=k) {a:It} (g:a∈kr) (hd:a.o.dst=some d) (j:D a.i=true)
  (h:∀x∈kr,a.i<x.i->x.o.dst=some d->D x.i=false) (l:V):rY val D d kr l=val a.i:=by
 let⟨k,hk⟩:=mz.1 g
 have e:k<kr.length:=by grind
 have b:kr=kr.take k++a::kr.drop (k+1):=by
  have m:kr.drop k=a::kr.drop (k+1):=by
   rw[wAb e];rw[hZ e]at hk;cases hk;rfl
  rw[<-m,wAu]
 have c:∀x∈kr.drop (k+1),x.o.dst=some d->D x.i=false:=by
  intro x n p
  let⟨q,hq⟩:=mz.1 n
  rw[wBc]at hq;have:=f _ x hq;exact by grind
 unfold rY;rw[b,List.foldl_append,List.foldl_cons,if_pos ⟨j,hd⟩];exact Ld c _
def DS(h h':Hp):Prop:=h.next<=h'.next/\∀l,l<h.next->h'.get l=h.get l
theorem DS.refl(h:Hp):DS h h:=⟨jJ _,λ_ _=>rfl⟩
theorem DS.trans{h h' c:Hp}(a:DS h h')(b:DS h' c):DS h c:=⟨OA a.1 b.1,λl hl=>by rw[b.2 l (NY hl a.1),a.2 l hl]⟩
theorem DS.new(h:Hp)(o:O):DS h (h.new o):=⟨K5 _,by simp_all[xm,if_neg,Nat.ne_of_gt]⟩
theorem WR.Tf{Δ:Env} {h h':Hp} {w:World} (a:WR Δ h w) (b:DS h h'):WR Δ h' w where
 fresh:=λl d hl=>NY (a.fresh l d hl) b.1
 B8:=a.B8
 obj:=λl d hl=>by rw[b.2 l (a.fresh l d hl)];exact a.obj l d hl
 apart:=λm f e e' p o i j nw k n=>by
  rw[b.2 m (a.fresh m e i)]at k;rw[b.2 f (a.fresh f e' j)]at n;exact a.apart m f e e' p o i j nw k n
 JT:=λg p c hp=>by
  rw[b.2 g (NY c a.yQ)]at hp;exact a.JT g p c hp
 yQ:=OA a.yQ b.1
 XK:=a.XK
theorem O.eq_of_beq{a b:O} (h:O.beq a b=true):a=b:=by
 unfold O.beq at h;split at h
 ·simp[ Ey]at h;obtain⟨⟨⟨⟨rfl,rfl⟩,rfl⟩,rfl⟩,c⟩:=h
  grind[V.yx]
 ·simp_all
 ·cases h
structure Tc where
 on:Nat->Bool
 val:Nat->V
 tt:Nat->Tm
 ep:Nat->Nat
 pl:Nat->Nat
 ob:Nat->O
 H:Nat->Hp
 G:Nat->Hp
def A6(kr:List It)(D:Nat->Bool):Prop:=∀a∈kr,D a.i=true->∀x∈kr,a.b.testBit x.i=true->D x.i=true
end
section
variable (n:Nat)(all:List Oper)(kr ws:List It)(call:Call)(t0:Tm)(h0:Hp)
structure Ro (T:Tc) (D:Nat->Bool) (a:It):Prop where
 fresh:D a.i=false
 closed:A6 kr D
 fk:∀x∈kr,a.b.testBit x.i=true->D x.i=true
 qz:∀d,ij (T.tt a.i) d=rY T.val D d kr (ij t0 d)
 dst:∃d,xK n a.o=some d
 rz:rz n all a.o (T.tt a.i)=some (T.on a.i)
 off:T.on a.i=false->T.val a.i = .undef
 epw:cls a.o≠2->Pr ws a (T.ep a.i)=true
 epl:T.ep a.i<=ws.length
 pure:cls a.o=0->T.on a.i=true->∀j,T.ep a.i<=j->j<=ws.length->j<=late ws a->(iJ a.o).f (T.tt a.i) (T.H j)=some (T.val a.i)
 alloc:cls a.o=1->T.on a.i=true->(∃mk,(sY a.o).f (T.tt a.i)=some (T.ob a.i,mk)/\T.val a.i=mk (T.pl a.i))/\
  (∀j,T.ep a.i<=j->j<=ws.length->T.pl a.i<(T.H j).next/\(j<=late ws a->(T.H j).get (T.pl a.i)=some (T.ob a.i)))/\
  (∀j,j<T.ep a.i->(T.G j).next<=T.pl a.i)/\h0.next<=T.pl a.i
 write:cls a.o=2->isW ws a (T.ep a.i)=true/\(T.on a.i=true->(EV a.o).f call (T.tt a.i) (T.H (T.ep a.i))=some (T.val a.i,T.G (T.ep a.i)))/\
  (T.on a.i=false->T.G (T.ep a.i)=T.H (T.ep a.i))
structure vt (l:List It) (m k:Nat) (h:Hp) (rs:List Rec) (r:Tm×Hp) (b T:Tc):Prop where
 same:∀i,m.testBit i=true->T.on i=b.on i/\T.val i=b.val i/\T.tt i=b.tt i/\T.ep i=b.ep i/\T.pl i=b.pl i/\T.ob i=b.ob i
 YS:∀j,j<k->T.H j=b.H j/\T.G j=b.G j
 item:∀a∈l,∃D,Ro n all kr ws call t0 h0 T D a
 Gg:∀r∈rs,∀j,k<=j->j<=ws.length->r.last<j\/AN (T.H j) r=true
 more:DS h (T.H k)
 chain:∀j,k<=j->j<ws.length->(T.H j).next<=(T.G j).next/\DS (T.G j) (T.H (j+1))
 zaJ:∀a∈l,cls a.o=1->T.on a.i=true->h.next<=T.pl a.i
 Yo:∀a∈l,∀c∈l,cls a.o=1->cls c.o=1->T.on a.i=true->T.on c.i=true->a.i≠c.i->T.pl a.i≠T.pl c.i
 last:r.2=T.H ws.length
 qz:∀d,ij r.1 d=rY T.val (λ_=>true) d kr (ij t0 d)
 done:∀a∈kr,m.testBit a.i=true\/a.i∈l.map (·.i)
 kle:k<=ws.length
end
theorem Jb{ws:List It} {T:Tc} {k:Nat} (h:∀j,k<=j->j<ws.length->(T.H j).next<=(T.G j).next/\DS (T.G j) (T.H (j+1))):∀m j,j=k+m->j<=ws.length->(T.H k).next<=(T.H j).next:=by
 intro m
 induction m with
 |zero=>simp_all
 | succ m b=>
   intro j g c;obtain⟨a,rfl⟩:∃a,j=a+1:=⟨j-1,by omega⟩
   have d:=b a (by omega) (by omega)
   let⟨e,f⟩:=h a (by omega) (by omega)
   exact OA d (OA e f.1)
theorem zc1(m i x:Nat):(m |||2 ^ i).testBit x=(m.testBit x ||decide (i=x)):=by grind
theorem Oh{l:List It} (h:tw l=true):∀(i j:Nat) a b,i<j->l[i]? =some a->l[j]? =some b->Up a b=true:=by
 induction l with
 |nil=>simp_all
 | cons x l d=>
   intro i j a b c e f;simp[tw,yF]at h
   grind
theorem Su (c:∀k (x:It),kr[k]? =some x->x.i=k) (hp:tw kr=true) {a x:It} (g:a∈kr) (h:x∈kr) {d:Nat} (hd:d∈tA a.o) (e:x.o.dst=some d) :
  (x.i<a.i->a.b.testBit x.i=true)/\(a.i<x.i->x.b.testBit a.i=true):=by
 let⟨i,hi⟩:=mz.1 g
 let⟨j,hj⟩:=mz.1 h
 have l:=c i a hi;have m:=c j x hj;have n:writes x.o (tA a.o)=true:=by simp[writes,e,hd]
 constructor
 ·intro f;have:=Oh hp j i x a (by omega) hj hi
  grind[Up]
 ·intro f;have:=Oh hp i j a x (by omega) hi hj
  grind[Up]
theorem zaW{o:Oper}(h:o.dst=some d):d∈tA o:=by simp[tA,h]
theorem LD (e:∀k (x:It),kr[k]? =some x->x.i=k) (hp:tw kr=true) {a:It} (f:a∈kr) {D D':Nat->Bool} (p:A6 kr D) (g:A6 kr D')
  (r:∀x∈kr,a.b.testBit x.i=true->D x.i=true) (q:∀x∈kr,a.b.testBit x.i=true->D' x.i=true) (n:D a.i=false) (c:D' a.i=false) {d:Nat} (hd:d∈tA a.o) (val:Nat->V) (j:V) :
  rY val D d kr j=rY val D' d kr j:=by
 refine sS (λx l m=>?_) (by simp_all) j
 let⟨p1,p2⟩:=Su e hp f l hd m
 rcases wBx x.i a.i with h|h|h
 ·simp_all
 ·simp_all
 ·have s:D x.i=false:=by
   cases hh:D x.i with
   |false=>rfl
   |true=>rw[p x l hh a f (p2 h)]at n;cases n
  have t:D' x.i=false:=by
   cases hh:D' x.i with
   |false=>rfl
   |true=>rw[g x l hh a f (p2 h)]at c;cases c
  simp_all
theorem Jv (c:∀k (x:It),kr[k]? =some x->x.i=k) (hp:tw kr=true) {a:It} (m:a∈kr) {D D':Nat->Bool} (q:A6 kr D) (p:D a.i=false)
  (g:∀i,D' i=(D i ||decide (a.i=i))) {val b:Nat->V} (hv:∀i,D i=true->b i=val i) (d:Nat) (n:V) :
  rY b D' d kr n=if a.o.dst=some d then b a.i else rY val D d kr n:=by
 by_cases hd:a.o.dst=some d
 ·rw[if_pos hd];refine zac c m hd (by simp_all) (λx h l f=>?_) n;rw[g];have nw:=Nat.ne_of_lt l;have:=(Su c hp m h (zaW hd) f).2 l
  cases hh:D x.i with
  |false=>simp_all
  |true=>rw[q x h hh a m this]at p;cases p
 ·rw [if_neg hd];refine sS (λx h f=>?_) (λx h f r=>?_) n
  ·rw [g];have:a.i≠x.i:=by
    intro e
    let⟨i,hi⟩:=mz.1 m
    let⟨j,hj⟩:=mz.1 h
    have s:=c i a hi;have t:=c j x hj;have:i=j:=by omega
    subst this;rw[hi]at hj;cases hj;exact hd f
   simp_all
  grind[mz]
def Lm(f:Nat->α)(i:Nat)(v:α):Nat->α:=λj=>if j=i then v else f j
theorem nW(f:Nat->α)(i:Nat)(v:α):Lm f i v i=v:=if_pos rfl
theorem TC(f:Nat->α){i j:Nat}(v:α)(h:j≠i):Lm f i v j=f j:=if_neg h
theorem Od(o:Oper):cls o=0\/cls o=1\/cls o=2:=by
 unfold cls
 grind
theorem LO{n:Nat} {o:Oper} {d:DF} (h:xK n o=some d) (t:Tm) (v:V) (i:Nat):ij (d.f t v) i=if o.dst=some i then v else ij t i:=by
 unfold xK at h
 cases ho:o.dst with
 |none=>grind
 | some k=>
   simp[ho]at h
   cases hk:Nat.blt k n with
   |false=>simp_all
   | true=>
     simp[hk]at h;cases h;show ij (t.set k v) i=_
     simp_all[iz,if_pos]
theorem yH{n:Nat} {o:Oper} {d:DF} (h:xK n o=some d) (t:Tm) (v:V):(d.f t v).ds=t.ds:=by
 grind[xK,Nat.blt,Tm.FD]
theorem Cj{n:Nat} {all:List Oper} {ws:List It} :∀l k {t:Tm} {h:Hp} {rs:List Rec} {r:Tm×Hp},(yA n all ws l k).f call t h rs=some r->r.1.ds=t.ds
 | [],_,t,h,rs,r,hv=>by
   grind[yA,ik]
 | a ::l,k,t,h,rs,r,hv=>by
   unfold yA at hv
   cases hd:xK n a.o with
   |none=>simp_all
   | some d=>
     rw[hd]at hv;simp only at hv;split at hv
     ·simp only[KH,fD]at hv
      let⟨b,_,c⟩:=hv
      cases b with
      |false=>rw[Cj l _ c,yH hd]
      | true=>
        simp[fD]at c
        let⟨x,_,e⟩:=c
        rw[Cj l _ e,yH hd]
     ·simp only[IB,fD]at hv
      let⟨b,_,c⟩:=hv
      cases b with
      |false=>rw[Cj l _ c,yH hd]
      | true=>
        simp only[fD]at c
        let⟨x,_,e⟩:=c
        rw[Cj l _ e,yH hd]
     ·simp only[Dc,fD,ik]at hv
      let⟨_,b,_,c⟩:=hv
      cases b with
      |false=>rw[Cj l _ c,yH hd]
      | true=>
        simp only[fD,ik]at c
        let⟨x,_,_,e⟩:=c
        rw[Cj l _ e,yH hd]
section
variable{n:Nat}{all:List Oper}{kr ws:List It}{call:Call}{t0:Tm}{h0:Hp}
theorem vt.cons{l:List It} {a:It} {m k k':Nat} {h h':Hp} {rs B:List Rec} {r:Tm×Hp} {d e T:Tc} (c:vt n all kr ws call t0 h0 l (m |||2 ^ a.i) k' h' B r e T)
  (E:∀i,m.testBit i=true->e.on i=d.on i/\e.val i=d.val i/\e.tt i=d.tt i/\e.ep i=d.ep i/\e.pl i=d.pl i/\e.ob i=d.ob i)
  (M:∀j,j<k->e.H j=d.H j/\e.G j=d.G j) (N:k<=k') (f:∃D,Ro n all kr ws call t0 h0 T D a)
  (g:∀r∈rs,∀j,k<=j->j<=ws.length->r.last<j\/AN (T.H j) r=true) (p:DS h (T.H k))
  (A:∀j,k<=j->j<k'->(T.H j).next<=(T.G j).next/\DS (T.G j) (T.H (j+1)))
  (z:cls a.o=1->T.on a.i=true->h.next<=T.pl a.i/\T.pl a.i<h'.next) (q:h.next<=h'.next) (C:k<=ws.length):vt n all kr ws call t0 h0 (a::l) m k h rs r d T where
 same:=λi hi=>by
  let⟨F,I,O,P,Q,R⟩:=c.same i (by simp_all)
  simp_all
 YS:=λj J=>by
  let⟨F,I⟩:=c.YS j (by omega)
  simp_all
 item:=λx b=>by
  cases b with
  |head=>exact f
  |tail _ b=>exact c.item x b
 Gg:=g
 more:=p
 chain:=λj E K=>by
  by_cases J:j<k'
  ·simp_all
  ·exact c.chain j (by omega) K
 zaJ:=λx b hc L=>by
  cases b with
  |head=>simp_all
  |tail _ b=>exact OA q (c.zaJ x b hc L)
 Yo:=λx b y w s t u v nw=>by
  cases b with
  | head=>
    cases w with
    |head=>omega
    |tail _ w=>have:=(z s u).2;have:=c.zaJ y w t v;omega
  | tail _ b=>
    cases w with
    |head=>have:=(z t v).2;have:=c.zaJ x b s u;omega
    |tail _ w=>exact c.Yo x b y w s t u v nw
 last:=c.last
 qz:=c.qz
 done:=λx b=>by
  rcases c.done x b with h|h
  ·grind
  simp_all
 kle:=C
theorem trace(C:∀(k:Nat) (x:It),kr[k]? =some x->x.i=k) (hp:tw kr=true):∀(l:List It) (m k:Nat) (t:Tm) (h:Hp) (rs:List Rec) (r:Tm×Hp) (s:Tc),
  (∀a∈l,a∈kr)->xy kr ws l m k=true->(yA n all ws l k).f call t h rs=some r->A6 kr m.testBit->(∀d,ij t d=rY s.val m.testBit d kr (ij t0 d))->
  h0.next<=h.next->(∀j,j<k->(s.G j).next<=h.next)->k<=ws.length->∃T,vt n all kr ws call t0 h0 l m k h rs r s T
 | [],m,k,t,h,rs,r,s,hsub,c,hv,hcl,ht,hn0,hG,hkl=>by
   simp only[xy,yF]at c;obtain⟨ae,hk⟩:=c;have aj:k=ws.length:=DG hk;simp only[yA,ik]at hv;obtain⟨X,hv⟩:=hv;cases hv;refine⟨{s with H:=Lm s.H k h},⟨by simp_all,λj P=>⟨by grind[TC],rfl⟩,by simp_all,?_,?_,by omega,by simp_all,by simp_all,?_,?_,?_,hkl⟩⟩
   ·intro q hq j Y h2
    have:j=k:=by omega
    simp_all[AN,Lm,nW,CR,Sx,JD,Yh]
   ·grind[DS,Lm,nW]
   ·grind[Lm,nW]
   ·intro d
    rw[ht d];refine sS (λa ha _=>?_) (by simp_all) _
    simp_all
   simp_all
 | a ::l,m,k,t,h,rs,r,s,hsub,c,hv,hcl,ht,hn0,hG,hkl=>by
   have ha:a∈kr:=by simp_all
   have w:∀x∈l,x∈kr:=by simp_all
   simp only[xy,yF,Bool.not_eq_true']at c;obtain⟨D,ak,c⟩:=c;have u:∀x∈kr,a.b.testBit x.i=true->m.testBit x.i=true:=by grind
   have z:A6 kr (m |||2 ^ a.i).testBit:=λx hx A y hy hb=>by
     rw[zc1]at A⊢;simp only[JD,yU]at A;rcases A with A|A
     ·rw[hcl x hx A y hy hb];rfl
     grind[mz]
   simp only[yA]at hv
   cases hd:xK n a.o with
   |none=>simp_all
   | some d =>
     simp only[hd]at hv
     let B:Bool->V->Nat->O->(Nat->Hp)->(Nat->Hp)->Tc:=λb v p ob H G=>⟨Lm s.on a.i b,Lm s.val a.i v,Lm s.tt a.i t,Lm s.ep a.i k,Lm s.pl a.i p,Lm s.ob a.i ob,H,G⟩
     have Y:∀b v p ob H G,∀i,m.testBit i=true->(B b v p ob H G).on i=s.on i/\(B b v p ob H G).val i=s.val i/\(B b v p ob H G).tt i=s.tt i/\(B b v p ob H G).ep i=s.ep i/\
        (B b v p ob H G).pl i=s.pl i/\(B b v p ob H G).ob i=s.ob i:=by grind[TC]
     have E:∀b v p ob H G,∀J,ij (d.f t v) J=rY (B b v p ob H G).val (m |||2 ^ a.i).testBit J kr (ij t0 J):=by grind[LO,Jv,zc1,ij,Lm,nW]
     have self:∀{b v p ob H G l' k' h' R T},vt n all kr ws call t0 h0 l' (m |||2 ^ a.i) k' h' R r (B b v p ob H G) T->
        T.on a.i=b/\T.val a.i=v/\T.tt a.i=t/\T.ep a.i=k/\T.pl a.i=p/\T.ob a.i=ob/\(∀J,ij (T.tt a.i) J=rY T.val m.testBit J kr (ij t0 J)):=λ{b v p ob H G l' k' h' R T} g=>by
       obtain⟨a1,a2,a3,a4,a5,a6⟩:=g.same a.i (by simp_all);refine⟨a1.trans (nW _ _ _),a2.trans (nW _ _ _),a3.trans (nW _ _ _),a4.trans (nW _ _ _),a5.trans (nW _ _ _),a6.trans (nW _ _ _),λJ=>?_⟩;rw[a3.trans (nW _ _ _),ht J];refine(sS (by simp_all) (λx hx _ Z=>?_) _).symm;rw[(g.same x.i (by simp_all)).2.1,(Y b v p ob H G x.i Z).2.1]
     rcases Od a.o with hc|hc|hc
     ·
       have F:Nat.beq (cls a.o) 2=false:=by rw[hc];rfl
       rw[F]at c;simp only[yF]at c;obtain⟨I,c⟩:=c;rw[hc]at hv;simp only[KH,fD]at hv;obtain⟨b,hw,hv⟩:=hv
       cases b with
       | false=>
         obtain⟨T,g⟩:=trace C hp l _ k _ h rs r (B false .undef 0 default s.H s.G) w c hv z (E _ _ _ _ _ _) hn0 hG hkl;obtain⟨s1,Q,W,s4,L,S,K⟩:=self g
         refine ⟨T,g.cons (by simp_all) (by grind) (jJ _) ⟨m.testBit,D,hcl,u,K,⟨d,hd⟩,by simp_all,λ_=>Q,by simp_all,by omega,
           by simp_all,by omega,by omega⟩ g.Gg g.more (by omega) (by omega) (jJ _) hkl⟩
       | true=>
         simp only[fD]at hv;obtain⟨v,aa,hv⟩:=hv;obtain⟨T,g⟩:=trace C hp l _ k _ h _ r (B true v 0 default s.H s.G) w c hv z (E _ _ _ _ _ _) hn0 hG hkl;obtain⟨s1,Q,W,s4,L,S,K⟩:=self g
         refine ⟨T,g.cons (by simp_all) (by grind) (jJ _) ⟨m.testBit,D,hcl,u,K,⟨d,hd⟩,by simp_all,by simp_all,by simp_all,by omega,
           λ_ _ j M N j3=>?_,by omega,by omega⟩ (λq hq=>g.Gg q (by simp[hq])) g.more (by omega) (by omega) (jJ _) hkl⟩
         rw[s4]at M;rcases g.Gg _ (Wh ..) j M N with ab|hh
         ·grind
         grind[AN,V.eq_of_beq]
     ·
       have F:Nat.beq (cls a.o) 2=false:=by rw[hc];rfl
       rw[F]at c;simp only[yF]at c;obtain⟨I,c⟩:=c;rw[hc]at hv;simp only[IB,fD]at hv;obtain⟨b,hw,hv⟩:=hv
       cases b with
       | false=>
         obtain⟨T,g⟩:=trace C hp l _ k _ h rs r (B false .undef 0 default s.H s.G) w c hv z (E _ _ _ _ _ _) hn0 hG hkl;obtain⟨s1,Q,W,s4,L,S,K⟩:=self g
         refine ⟨T,g.cons (by simp_all) (by grind) (jJ _) ⟨m.testBit,D,hcl,u,K,⟨d,hd⟩,by simp_all,λ_=>Q,by simp_all,by omega,
           by omega,by simp_all,by omega⟩ g.Gg g.more (by omega) (by simp_all) (jJ _) hkl⟩
       | true=>
         simp only[fD]at hv;obtain⟨⟨ob,mk⟩,aa,hv⟩:=hv;obtain⟨T,g⟩:=trace C hp l _ k _ _ _ r (B true (mk h.next) h.next ob s.H s.G) w c hv z (E _ _ _ _ _ _) (wBN hn0) (λj P=>wBN (hG j P)) hkl;obtain⟨s1,Q,W,s4,L,S,K⟩:=self g
         refine ⟨T,g.cons (by simp_all) (by grind) (jJ _) ⟨m.testBit,D,hcl,u,K,⟨d,hd⟩,by simp_all,by simp_all,by simp_all,by omega,
           by omega,λ_ _=>⟨by simp_all,λj M N=>?_,λj P=>?_,by omega⟩,by omega⟩
           (λq hq=>g.Gg q (by simp[hq])) ((DS.new h ob).trans g.more) (by omega) (λ_ _=>by rw[L];exact⟨jJ _,TU _⟩) (K5 _) hkl⟩
         ·rw[s4]at M
          rw[L,S];refine⟨?_,λj3=>?_⟩
          ·have e1:(h.new ob).next<=(T.H k).next:=g.more.1
           have e2:=Jb g.chain (j-k) j (by omega) N;have:h.next<(h.new ob).next:=TU _;omega
          ·rcases g.Gg _ (Wh ..) j M N with ab|hh
           ·grind
           grind[AN,O.eq_of_beq]
         ·rw[s4]at P
          rw[L,(g.YS j P).2]
          grind
     ·
       have F:Nat.beq (cls a.o) 2=true:=by rw[hc];rfl
       rw[F]at c;simp only[yF]at c;obtain⟨I,c⟩:=c;have ac:k<ws.length:=by
        unfold isW at I;split at I
        ·grind
        ·cases I
       rw[hc]at hv;simp only[Dc,ik,fD]at hv;obtain⟨X,b,hw,hv⟩:=hv;have ag:∀q∈rs,q.last<k\/AN h q=true:=by simp_all[CR,Sx,JD,Yh]
       have ah:∀(b:Bool) (v:V) (h':Hp),rz n all a.o t=some b->(yA n all ws l (Nat.succ k)).f call (d.f t v) h' rs=some r->h.next<=h'.next->(b=false->v = .undef/\h' = h)->
         (b=true->(EV a.o).f call t h=some (v,h'))->∃T,vt n all kr ws call t0 h0 (a::l) m k h rs r s T:=by
         intro b v h' hw hv hn ai al
         obtain ⟨T,g⟩:=trace C hp l _ (k+1) _ h' rs r (B b v 0 default (Lm s.H k h) (Lm s.G k h')) w c hv z (E _ _ _ _ _ _) (by omega)
           (fun j P=>by
             by_cases e:j=k
             ·subst e;show(Lm s.G j h' j).next<=_;simp_all[nW,jJ]
             grind[Lm,TC,OA]) ac
         obtain⟨s1,Q,W,s4,L,S,K⟩:=self g;obtain⟨g1,g2⟩:=g.YS k (TU _);have U:T.H k=h:=g1.trans (nW _ _ _);have ad:T.G k=h':=g2.trans (nW _ _ _)
         refine ⟨T,g.cons (Y _ _ _ _ _ _) (by grind[TC]) (K5 _) ⟨m.testBit,D,hcl,u,K,⟨d,hd⟩,by grind,
           by grind,by omega,by omega,by omega,by omega,
           λ_=>⟨by grind,λho=>?_,λho=>?_⟩⟩ (λq hq j M N=>?_) (by rw[U];exact .refl h) (λj M N=>?_) (by omega) hn hkl⟩
         ·grind
         ·grind
         ·by_cases e:j=k
          ·grind
          ·exact g.Gg q hq j (by omega) N
         ·have:j=k:=by omega
          subst this;rw[U,ad];exact⟨hn,g.more⟩
       cases b with
       |false=>grind
       | true=>
         grind[fD,ik,Oz]
