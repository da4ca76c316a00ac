/- Parts. -/
import Derived.Test.YtpfjdlicdljhaaaDoorM09
import Derived.ChangeArms
import Derived.Carry
set_option maxHeartbeats 4000000
namespace Go.Proofs.YtpfjdlicdljhaaaDoor.Hx
def UI(Δ:Env):Prop:=∀l d,Δ l=some d->d.ro=true
def Vz(w:World)(cs:List Value):Prop:=∀a len cap,Value.slice (some a) len cap∈cs->a.spot=none/\∃c e fr,w.heap[a.block]? =some (.cells c e fr)
structure Rd (Δ:Env) (h:Hp) (w:World):Prop where
 world:WR Δ h w
 ro:UI Δ
def HW(Δ:Env)(l:Nat)(d:D):Env:=λm=>if m=l then some d else Δ m
theorem Rd.add{Δ:Env} {h:Hp} {w:World} (f:Rd Δ h w) {b base sz ty:Nat} {c:Array Value} {e:TypeId} {fr:Nat×Nat} {cs:List V} (y:w.heap[b]? =some (.cells c e fr)) (hs:base+cs.length<=c.size)
  (hc:∀(i:Nat) (v:V),cs[i]? =some v->∃x,c[base+i]? =some x/\dj Δ v x) :
  Rd (HW Δ h.next ⟨b,base,sz,cs.length,c.size,true,0⟩) (h.new (.cells ty sz true true cs)) w/\Δ.le (HW Δ h.next ⟨b,base,sz,cs.length,c.size,true,0⟩):=by
 have j:Δ.le (HW Δ h.next ⟨b,base,sz,cs.length,c.size,true,0⟩):=by
  intro l d a;unfold HW;rw[if_neg (by have:=f.world.fresh l d a;omega)];exact a
 have k:UI (HW Δ h.next ⟨b,base,sz,cs.length,c.size,true,0⟩):=by
  intro l d a;unfold HW at a;split at a
  ·grind
  ·exact f.ro l d a
 refine⟨⟨⟨?_,?_,?_,?_,?_,?_,f.world.NK.step (by simp_all) λl d a m=>(by rw[k l d a]at m;cases m)⟩,k⟩,j⟩
 ·intro l d a;unfold HW at a;split at a
  ·simp_all
  ·exact WY (f.world.fresh l d a)
 ·intro l d a;unfold HW at a;split at a
  ·grind
  ·exact f.world.jB l d a
 ·intro l d a;unfold HW at a;split at a
  ·rename_i z;subst z;cases a;exact⟨_,dL _ _,rfl,rfl,rfl,rfl,λ_=>⟨c,e,fr,y,rfl,by simp_all,hs,λi v hi=>let⟨x,s,p⟩:=hc i v hi;⟨x,s,p.mono j⟩⟩⟩
  ·obtain⟨o,n,p⟩:=f.world.obj l d a;exact⟨o,by rw[ez _ (f.world.fresh l d a)];exact n,p.mono j⟩
 ·intro l A d d' o C a q _ _ _ _ _ s;have m:=k l d a;have t:=k A d' q
  simp_all
 ·intro g o u n;have r:g<h.next:=EP u f.world.tP;rw[ez _ r]at n;obtain⟨d,B,m,t⟩:=f.world.Cj g o u n;exact⟨d,j _ _ B,m,t⟩
 ·exact Yq f.world.tP
def Laid{α:Type} (e:oY α) (ok:α->Prop) (w:World) (Δ:Env) (h:Hp) (cs:List Value):Prop:=∃x vs a h',dS a vs cs/\e.rel (lo h'.next) h' x vs/\ok x/\Rd a h' w/\Δ.le a/\NN h h'
structure Bo {α:Type} (t:Nat) (e:oY α) (ok:α->Prop) (fl:Bool):Prop where
 cells:P0.cellsOf t=e.sz
 lay:∀{H:Type} {enc:TypeId×Value->H} {w:World} {fuel:Nat} {cs:List Value} {d:DataW H} {a:List MemPlace} {Δ:Env} {h:Hp},
  DataW.trod enc P0 w 0 (λ_=>true) true fuel t cs=some (d,a)->(fl=false->Vz w cs)->Rd Δ h w->Laid e ok w Δ h cs
theorem Bo.int{t:Nat} {k:IntKind} (b:P0.underlying t=some (.int k)) (hc:P0.cellsOf t=1):Bo t (eI k) (λ_=>True) true where
 cells:=hc
 lay:=by
  intro H enc w fuel cs d f Δ h c _ e;obtain⟨n,rfl,_,a⟩:=DataW.trod_int b c;refine⟨n,[.int k n],Δ,h,.one (.int _ _),⟨rfl,?_⟩,trivial,e,Env.le_refl _,.refl _ _⟩;simp only[Lit.wf,zv]at a;revert a;cases k <;> simp[zS,IntKind.min,IntKind.max,IntKind.signed,IntKind.bits]
structure Zo {α:Type} (fs:List Field) (off:Nat) (e:oY α) (ok:α->Prop) (fl:Bool):Prop where
 lay:∀{H:Type} {enc:TypeId×Value->H} {w:World} {fuel:Nat} {cs:List Value} {Δ:Env} {h:Hp},cs.length=off+e.sz->
  (∀f∈fs,∃x,DataW.trod enc P0 w 0 (λ_=>true) true fuel f.type ((cs.drop f.offset).take (P0.cellsOf f.type))=some x)->(fl=false->Vz w cs)->Rd Δ h w->Laid e ok w Δ h (cs.drop off)
theorem KO{w:World} {a:Addr} {n:Nat} {l:List Value} (h:w.cells? 0 a n=some l):l.length=n/\∀i,i<n->w.cell? (a.add i)=l[i]?:=by
 unfold World.cells? at h;rw[if_pos (J9 _)]at h;have c:∀(k:Nat) (b:List Nat) (l:List Value),b=List.range' k b.length->b.mapM (λi=>w.cell? (a.add i))=some l->l.length=b.length/\∀i,i<b.length->w.cell? (a.add (k+i))=l[i]?:=by
  intro k b
  induction b generalizing k with
  |nil=>simp_all
  | cons j b f=>
    intro l d h;simp only[List.mapM_cons,Option.bind_eq_bind,Yu,Option.pure_def,Option.some.injEq]at h;obtain⟨x,g,xs,e,rfl⟩:=h;rw[LU,List.range'_succ]at d
    grind
 grind[List.range,Kc,List.range_eq_range']
theorem NJ{w:World} {a:Addr} {n:Nat} {c:Array Value} {e:TypeId} {fr:Nat×Nat} (d:w.heap[a.block]? =some (.cells c e fr)) (hs:a.spot=none):w.cell? (a.add n)=c[a.off+n]?:=by
 obtain⟨b,o,s⟩:=a
 grind[oh,World.cell?]
theorem add_add(a:Addr) (n m:Nat) (hs:a.spot=none):(a.add n).add m=a.add (n+m):=by
 obtain⟨b,o,s⟩:=a
 grind[oh,Nat.add_assoc]
theorem Hf{α:Type} {t:Nat} {e:oY α} {ok:α->Prop} (q:Bo t e ok true) {H:Type} {enc:TypeId×Value->H} {w:World} {fuel:Nat} {a:Addr} {c:Array Value} {ty:TypeId} {fr:Nat×Nat}
  (F:w.heap[a.block]? =some (.cells c ty fr)) (hs:a.spot=none):∀(k f:Nat) {Δ:Env} {h:Hp},
  (∀i,f<=i->i<f+k->∃y,(w.cells? 0 (a.add (i*P0.cellsOf t)) (P0.cellsOf t)).bind (DataW.trod enc P0 w 0 (λ_=>true) true fuel t)=some y)->Rd Δ h w->
  ∃(xs:List α) (vs:List V) (r:Env) (h':Hp),xs.length=k/\vs.length=k*e.sz/\(∀(j:Nat) (v:V),vs[j]? =some v->∃x,c[a.off+f*e.sz+j]? =some x/\dj r v x)/\m7 e (lo h'.next) h' vs xs/\(∀x∈xs,ok x)/\
   Rd r h' w/\Δ.le r/\NN h h'
 |0,f,Δ,h,_,hR=>⟨[],[],Δ,h,rfl,by simp,by simp_all,trivial,(by simp_all),hR,Env.le_refl _,tm.refl _ _⟩
 | k + 1,f,Δ,h,hm,hR=>by
   obtain⟨⟨d,p⟩,s⟩:=hm f (iC _) (by omega);rw[Yu]at s;obtain⟨cs,u,L⟩:=s;obtain⟨z,hc⟩:=KO u;rw[q.cells]at z hc;obtain⟨x,o,U,M,A,m,G,B,n,C⟩:=q.lay L (by simp_all) hR;obtain⟨xs,vs,N,I,O,P,Q,D,J,E,b,g⟩:=Hf q F hs k (f+1) (λi M I=>hm i (by omega) (by omega)) B;have R:o.length=e.sz:=e.len m;refine⟨x::xs,o++vs,N,I,by simp_all,by grind,?_,⟨o,vs,rfl,?_,D⟩,?_,E,Env.le_trans n b,C.trans g⟩
   ·intro j v K
    by_cases hj:j<o.length
    ·rw[TN hj]at K
     obtain⟨y,s,S⟩:=A.get j v K;refine⟨y,?_,S.mono b⟩;have T:=hc j (by omega);rw[add_add _ _ _ hs,NJ F hs]at T
     grind
    grind
   ·exact e.mono (Nm g.next) (e.dO (λl z=>g.dO l z (λh=>h)) m)
   simp_all
theorem Bo.slice{α:Type} {t u:Nat} {e:oY α} {ok:α->Prop} (U:P0.underlying t=some (.slice u)) (hc:P0.cellsOf t=1) (K:Bo u e ok true) (hz:0<e.sz):Bo t (eL e) (λxs=>xs.length<=maxLen/\∀x∈xs,ok x) false where
 cells:=hc
 lay:=by
  intro H enc w fuel cs d ps Δ h V hs L;rcases DataW.trod_slice U V with⟨rfl,_⟩|⟨a,len,cap,s,M,n,rfl,rfl,_,_,l,N,O,m,f,_⟩
  ·exact⟨[],[.cQ],Δ,h,.one .cQ,⟨_,rfl,.nil⟩,by simp_all,L,Env.le_refl _,tm.refl _ _⟩
  ·obtain ⟨W,f⟩:=f rfl;obtain⟨g,c,ty,fr,v⟩:=hs rfl a len cap (.head _);obtain⟨xs,vs,Δ1,P,z,X,Y,A,p,B,q,C⟩:=Hf K v g len 0 (λi _ hi=>⟨s[i]'(by omega),by rw[m i (by omega),fg (by omega)]⟩) L;have j:∀i,i<cap->a.off+i*e.sz+e.sz<=c.size:=by
    intro i hi;have D:∃y,(w.cells? 0 (a.add (i*P0.cellsOf u)) (P0.cellsOf u)).bind (DataW.trod enc P0 w 0 (λ_=>true) true n u)=some y:=by
     by_cases hil:i<len
     ·simp_all
     ·have h2:=f (i-len) (by omega)
      grind
    obtain⟨y,Q⟩:=D;rw[Yu]at Q;obtain⟨ds,E,_⟩:=Q;obtain⟨Z,R⟩:=KO E;rw[K.cells]at Z R;have S:=R (e.sz-1) (by omega);rw[add_add _ _ _ g,NJ v g,fg (by omega)]at S;have:=(Sa.1 S).1;omega
   have F:cap*e.sz=(cap-1)*e.sz+e.sz\/cap=0:=by
    rcases Nat.eq_zero_or_pos cap with h|h
    ·exact .inr h
    ·left;rw[<-Nat.succ_mul];congr 1;omega
   have T:len*e.sz<=cap*e.sz:=XL _ l;have k:∃o,(o=a.off/\0<cap)\/(o=0/\cap=0):=by
    by_cases h0:0<cap
    ·simp_all
    ·simp_all
   obtain ⟨o,G⟩:=k;have I:o+vs.length<=c.size:=by
    rcases G with⟨rfl,h0⟩|⟨rfl,h0⟩
    ·have:=j (cap-1) (by omega);omega
    ·simp_all
   obtain⟨J,r⟩:=B.add (b:=a.block) (base:=o) (sz:=e.sz) (ty:=u) (cs:=vs) v I (by grind);refine⟨xs,[.slice P.next 0 len],_,_,.one ?_,⟨_,rfl,?_⟩,⟨by omega,p⟩,J,Env.le_trans q r,C.trans (tm.new _ _)⟩
   ·obtain ⟨ab,ao,sp⟩:=a;simp only at g j G⊢;subst g;refine .slice P.next 0 len cap ao ⟨ab,o,e.sz,vs.length,c.size,true,0⟩ (by unfold HW;simp_all) rfl l ?_;rcases G with⟨rfl,h0⟩|⟨rfl,h0⟩
    ·left;have:=j (cap-1) (by omega)
     grind
    simp_all
   ·rw[<-z];exact fJ.new A (iC _)
open Go.ChangeShapes Go.WideShapes Go.RowKit
theorem Rd.start(n:Nat) (a:P0.globals.size<=n) (w:World) (b:xD (λ_=>none) w):Rd (λ_=>none) {next:=n,tr:= .leaf} w:=
 ⟨WR.start n a w b,λ_ _ h=>nomatch h⟩
theorem cP.calls{C:dc} (k:ry C) {f:Nat} {args:List V} {h:Hp} {Δ:Env} {W:World} {ee:Array Value} (g:∃fn c,P0.funcs[f]? =some fn/\fn.body=some c) (n:Rd Δ h W) (q:dS Δ args ee.toList)
  (hc:cP C f args h λv _=>v = .bool true):Calls P0 f ee W λe W'=>e = .returned (.bool true)/\Kept W W':=by
 obtain⟨v,h',⟨m,d,r⟩,rfl⟩:=hc;rcases Dk k m d f args _ _ _ Δ W ee r n.world q with⟨x,y,_⟩|⟨_,s⟩
 ·exfalso;obtain⟨fn,c,o,i⟩:=g;have j:=k.named f fn o;have:(callFunc f ee).run P0 W = .ok (.enter f ee) W:=by
   simp only[callFunc,rk,run_program,qf,o,j,i,Yb,Kg,if_false];rfl
  simp_all
 ·refine Calls.mono s λe w' t=>?_;obtain⟨z,x,rfl,p⟩:=t;have u:=p.val;cases u;exact⟨rfl,p.frame.kept λb g=>(by obtain⟨l,d,w,a,_⟩:=g;rw[n.ro l d w]at a;cases a)⟩
theorem CM{H:Type} {enc:TypeId×Value->H} {W W':World} (e:laidOutB P0=true) (hk:Kept W W'):∀{a:List TypeId} {vs:List Value} {ds:List (DataW H)} {b:List MemPlace},
  (a.all λt=>P0.readableRec t&&decide (t<P0.types.size))=true->DataW.TrodAll enc P0 W 0 (λ_=>true) true a vs ds b->(∀p∈b,p.block<W.heap.size)->∀sp:Nat->Bool,(∀p∈b,sp p.block=true)->
  DataW.TrodAll enc P0 W' 0 sp true a vs ds b
 | [],_,_,_,_,h,_,_,_=>by
   obtain⟨rfl,rfl,rfl⟩:=trodAll_nil h
   exact rfl
 | t::a,_,_,_,hr,h,PL,sp,hsp=>by
   obtain⟨v,vs,d,ds,p,q,rfl,rfl,rfl,f,g⟩:=trodAll_cons h;simp only[Ul,rm,zv]at hr;refine⟨p,q,?_,CM e hk hr.2 g (by simp_all) sp (by simp_all),rfl⟩;have c:Below W.heap.size W {W' with tape:=W.tape}:=⟨hk.1,rfl,hk.2.1,hk.2.2.1,hk.2.2.2⟩
   have i:=WideElems.Trod_stays e hr.1.1 hr.1.2 f (λx j=>c.same (by simp_all)) (sp':=sp) (by simp_all);exact DataW.Trod.of_heap (w:={W' with tape:=W.tape}) (w':=W') rfl i
open Go.ChangeShapes Go.WideShapes Go.RowKit
theorem D6{w:World} {base:Nat} {u:TypeId} {v:Value} (h:Cell.okWide P0 w .any base u v) (a:Addr) (len cap:Nat) (b:v = .slice (some a) len cap):a.spot=none/\∃c e fr,w.heap[a.block]? =some (.cells c e fr):=by
 subst b;have d:w.has P0 .any base a ((match P0.underlying u with|some (.slice e)=>e|_=>0)) cap:=by
  unfold Cell.okWide at h;split at h
  case h_8=>
   unfold Cell.ok at h
   grind
  all_goals rename_i f
  all_goals cases f
 obtain⟨_,g,row,cells,i,_⟩:=d
 grind[World.shape?]
theorem Q8{w:World} {base:Nat} {t:TypeId} {v:Value} (h:Value.okWide P0 w .any base t v):Vz w v.cells.toList:=by
 intro a len cap b;unfold Value.okWide at h;have one:Cell.okWide P0 w .any base t v->a.spot=none/\∃c e fr,w.heap[a.block]? =some (.cells c e fr):=by
  intro g;by_cases hv:∃cs,v = .agg cs
  ·obtain⟨cs,rfl⟩:=hv
   simp_all[Cell.okWide,Cell.ok]
  ·have hc:v.cells = #[v]:=by
    cases v <;> first|rfl|simp_all
   rw[hc]at b;obtain rfl:=Ut.1 b;exact D6 g a len cap rfl
 split at h
 ·obtain⟨cs,rfl,_,j,_,_,d⟩:=h;obtain⟨i,hi⟩:=kh.1 b;obtain⟨u,_,f⟩:=d i _ (by simpa[Value.cells]using hi);exact D6 f a len cap rfl
 ·obtain⟨cs,rfl,_,j,_,_,d⟩:=h;obtain⟨i,hi⟩:=kh.1 b;obtain⟨u,_,f⟩:=d i _ (by simpa[Value.cells]using hi);exact D6 f a len cap rfl
 simp_all
theorem Bo.WQ{α:Type} {t:Nat} {e:oY α} {ok:α->Prop} {fl:Bool} (g:Bo t e ok fl) {H:Type} {enc:TypeId×Value->H} {w:World} {base:Nat} {v:Value} {d:DataW H} {i:List MemPlace} {Δ:Env} {h:Hp}
  (hc:v.cells = #[v]) (k:Value.okWide P0 w .any base t v) (b:DataW.Trod enc P0 w 0 (λ_=>true) true t v d i) (j:Rd Δ h w) :
  ∃x u a h',dj a u v/\e.rel (lo h'.next) h' x [u]/\ok x/\Rd a h' w/\Δ.le a/\NN h h':=by
 obtain⟨fuel,b⟩:=b;obtain⟨x,vs,a,h',f,l⟩:=g.lay b (by grind[Q8]) j;rw[hc]at f
 cases f with
 | cons u _ m _ n c=>
   cases c
   grind
