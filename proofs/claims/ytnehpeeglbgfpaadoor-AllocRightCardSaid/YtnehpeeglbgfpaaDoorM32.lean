/- Parts. -/
import Derived.Test.YtnehpeeglbgfpaaDoorM09
import Derived.ChangeArms
import Derived.Carry
set_option maxHeartbeats 4000000
namespace Go.Proofs.YtnehpeeglbgfpaaDoor.Hx
def Uy(Δ:Env):Prop:=∀l d,Δ l=some d->d.ro=true
def Nk(w:World)(cs:List Value):Prop:=∀a len cap,Value.slice (some a) len cap∈cs->a.spot=none/\∃c e fr,w.heap[a.block]? =some (.cells c e fr)
theorem Nk.sub{w:World}{cs ds:List Value}(h:Nk w cs)(b:∀x∈ds,x∈cs):Nk w ds:=λa len cap c=>h a len cap (b _ c)
structure Rd (Δ:Env) (h:Hp) (w:World):Prop where
 world:WR Δ h w
 ro:Uy Δ
def Je(Δ:Env)(l:Nat)(d:D):Env:=λm=>if m=l then some d else Δ m
theorem Rd.add{Δ:Env} {h:Hp} {w:World} (f:Rd Δ h w) {b base sz ty:Nat} {c:Array Value} {e:TypeId} {fr:Nat×Nat} {cs:List V} (y:w.heap[b]? =some (.cells c e fr)) (z:base+cs.length<=c.size)
  (hc:∀(i:Nat) (v:V),cs[i]? =some v->∃x,c[base+i]? =some x/\fq Δ v x) :
  Rd (Je Δ h.next ⟨b,base,sz,cs.length,c.size,true,0⟩) (h.new (.cells ty sz true true cs)) w/\Δ.le (Je Δ h.next ⟨b,base,sz,cs.length,c.size,true,0⟩):=by
 have j:Δ.le (Je Δ h.next ⟨b,base,sz,cs.length,c.size,true,0⟩):=by
  intro l d a;unfold Je;rw[if_neg (by have:=f.world.fresh l d a;omega)];exact a
 have k:Uy (Je Δ h.next ⟨b,base,sz,cs.length,c.size,true,0⟩):=by
  intro l d a;unfold Je at a;split at a
  ·grind
  ·exact f.ro l d a
 refine⟨⟨⟨?_,?_,?_,?_,?_,?_,f.world.MU.step (by simp_all) λl d a m=>(by rw[k l d a]at m;cases m)⟩,k⟩,j⟩
 ·intro l d a;unfold Je at a;split at a
  ·simp_all
  ·exact UT (f.world.fresh l d a)
 ·intro l d a;unfold Je at a;split at a
  ·grind
  ·exact f.world.wh l d a
 ·intro l d a;unfold Je at a;split at a
  ·rename_i e1;subst e1;cases a;exact⟨_,ez _ _,rfl,rfl,rfl,rfl,λ_=>⟨c,e,fr,y,rfl,by simp_all,z,λi v hi=>let⟨x,s,p⟩:=hc i v hi;⟨x,s,p.mono j⟩⟩⟩
  ·obtain⟨o,n,p⟩:=f.world.obj l d a;exact⟨o,by rw[eR _ (f.world.fresh l d a)];exact n,p.mono j⟩
 ·intro l A d B o C a q _ _ _ _ _ s;have m:=k l d a;have t:=k A B q
  simp_all
 ·intro g o u n;have r:g<h.next:=zr u f.world.ur;rw[eR _ r]at n;obtain⟨d,hd,m,t⟩:=f.world.Cg g o u n;exact⟨d,j _ _ hd,m,t⟩
 ·exact SC f.world.ur
def Laid{α:Type} (e:sQ α) (ok:α->Prop) (w:World) (Δ:Env) (h:Hp) (cs:List Value):Prop:=∃x vs a h',fV a vs cs/\e.rel (lo h'.next) h' x vs/\ok x/\Rd a h' w/\Δ.le a/\AO h h'
structure wY {α:Type} (t:Nat) (e:sQ α) (ok:α->Prop) (fl:Bool):Prop where
 cells:P0.cellsOf t=e.sz
 lay:∀{H:Type} {enc:TypeId×Value->H} {w:World} {fuel:Nat} {cs:List Value} {d:DataW H} {ps:List MemPlace} {Δ:Env} {h:Hp},
  DataW.trod enc P0 w 0 (λ_=>true) true fuel t cs=some (d,ps)->(fl=false->Nk w cs)->Rd Δ h w->Laid e ok w Δ h cs
theorem wY.int{t:Nat} {k:IntKind} (b:P0.underlying t=some (.int k)) (hc:P0.cellsOf t=1):wY t (eI k) (λ_=>True) true where
 cells:=hc
 lay:=by
  intro H enc w fuel cs d ps Δ h hd _ c;obtain⟨n,rfl,_,a⟩:=DataW.trod_int b hd;refine⟨n,[.int k n],Δ,h,.one (.int _ _),⟨rfl,?_⟩,trivial,c,Env.le_refl _,.refl _ _⟩;simp only[Lit.wf,IM]at a;revert a;cases k <;> simp[Fb,IntKind.min,IntKind.max,IntKind.signed,IntKind.bits]
def eU:sQ Unit where
 sz:=0
 rel _ _ _ cs:=cs=[]
 len h:=by simp_all
 one h:=by simp_all
 eD _ h:=h
 mono _ h:=h
structure CC {α:Type} (fs:List Field) (off:Nat) (e:sQ α) (ok:α->Prop) (fl:Bool):Prop where
 lay:∀{H:Type} {enc:TypeId×Value->H} {w:World} {fuel:Nat} {cs:List Value} {Δ:Env} {h:Hp},cs.length=off+e.sz->
  (∀f∈fs,∃x,DataW.trod enc P0 w 0 (λ_=>true) true fuel f.type ((cs.drop f.offset).take (P0.cellsOf f.type))=some x)->(fl=false->Nk w cs)->Rd Δ h w->Laid e ok w Δ h (cs.drop off)
theorem CC.nil(off:Nat):CC [] off eU (λ_=>True) true where
 lay:=by
  intro H enc w fuel cs Δ h a _ _ b;have:cs.drop off=[]:=List.drop_of_length_le (by rw[a];exact jn _);rw[this];exact⟨(),[],Δ,h,.nil,rfl,trivial,b,Env.le_refl _,.refl _ _⟩
theorem CC.cons{α β:Type} {f:Field} {fs:List Field} {off:Nat} {e:sQ α} {e':sQ β} {ok:α->Prop} {i:β->Prop} {fl j:Bool} (C:wY f.type e ok fl) (E:f.offset=off) (o:CC fs (off+e.sz) e' i j) :
  CC (f::fs) off (eP e e') (λx=>ok x.1/\i x.2) (fl&&j) where
 lay:=by
  intro H enc w fuel cs Δ h q D L F;have G:cs.length=off+(e.sz+e'.sz):=q;obtain⟨⟨d,p⟩,hd⟩:=D f (.head _);have r:=λg I=>D g (.tail _ I);rw[E,C.cells]at hd;obtain⟨x,vs,M,N,s,t,k,u,m,v⟩:=C.lay hd (by grind[Nk.sub,List.mem_of_mem_drop,Wn]) F;obtain⟨y,us,J,K,z,A,n,B,b,c⟩:=o.lay (by omega) r (by simp_all) u;have a:cs.drop off=(cs.drop off).take e.sz++cs.drop (off+e.sz):=by rw[<-TX,Vh]
  refine⟨(x,y),vs++us,J,K,?_,⟨vs,us,rfl,?_,A⟩,⟨k,n⟩,B,Env.le_trans m b,v.trans c⟩
  ·rw[a];exact(s.mono b).append z
  ·exact e.mono (xP c.next) (e.eD (λl q=>c.eD l q (λh=>h)) t)
theorem wY.struct{α:Type} {t:Nat} {fs:Array Field} {e:sQ α} {ok:α->Prop} {fl:Bool} (j:P0.underlying t=some (.struct fs)) (hc:P0.cellsOf t=e.sz) (k:CC fs.toList 0 e ok fl):wY t e ok fl where
 cells:=hc
 lay:=by
  intro H enc w fuel cs d ps Δ h hd l m;obtain⟨xs,n,rfl,_,o,hlen,b⟩:=DataW.trod_struct j hd;have:=k.lay (cs:=cs) (fuel:=n) (by omega) (λf c=>by
   obtain⟨i,hi⟩:=mM.1 c;have a:fs[i]? =some f:=by simpa using hi
   have g:i<xs.length:=by rw[hlen];exact(QX.1 a).1
   exact⟨xs[i],by rw[b i f a,iH g]⟩) l m
  simp_all
theorem L4{w:World} {a:Addr} {n:Nat} {l:List Value} (h:w.cells? 0 a n=some l):l.length=n/\∀i,i<n->w.cell? (a.add i)=l[i]?:=by
 unfold World.cells? at h;rw[if_pos (GM _)]at h;have c:∀(k:Nat) (b:List Nat) (l:List Value),b=List.range' k b.length->b.mapM (λi=>w.cell? (a.add i))=some l->l.length=b.length/\∀i,i<b.length->w.cell? (a.add (k+i))=l[i]?:=by
  intro k b
  induction b generalizing k with
  |nil=>simp_all
  | cons j b f=>
    intro l d h;simp only[List.mapM_cons,Option.bind_eq_bind,YD,Option.pure_def,Option.some.injEq]at h;obtain⟨x,g,xs,e,rfl⟩:=h;rw[MX,List.range'_succ]at d
    grind
 grind[List.range,YG,List.range_eq_range']
theorem OR{w:World} {a:Addr} {n:Nat} {c:Array Value} {e:TypeId} {fr:Nat×Nat} (d:w.heap[a.block]? =some (.cells c e fr)) (f:a.spot=none):w.cell? (a.add n)=c[a.off+n]?:=by
 obtain⟨b,o,s⟩:=a
 grind[p7,World.cell?]
theorem add_add(a:Addr) (n m:Nat) (c:a.spot=none):(a.add n).add m=a.add (n+m):=by
 obtain⟨b,o,s⟩:=a
 grind[p7,Nat.add_assoc]
theorem ID{α:Type} {t:Nat} {e:sQ α} {ok:α->Prop} (o:wY t e ok true) {H:Type} {enc:TypeId×Value->H} {w:World} {fuel:Nat} {a:Addr} {c:Array Value} {ty:TypeId} {fr:Nat×Nat}
  (F:w.heap[a.block]? =some (.cells c ty fr)) (q:a.spot=none):∀(k f:Nat) {Δ:Env} {h:Hp},
  (∀i,f<=i->i<f+k->∃y,(w.cells? 0 (a.add (i*P0.cellsOf t)) (P0.cellsOf t)).bind (DataW.trod enc P0 w 0 (λ_=>true) true fuel t)=some y)->Rd Δ h w->
  ∃(xs:List α) (vs:List V) (r:Env) (h':Hp),xs.length=k/\vs.length=k*e.sz/\(∀(j:Nat) (v:V),vs[j]? =some v->∃x,c[a.off+f*e.sz+j]? =some x/\fq r v x)/\mE e (lo h'.next) h' vs xs/\(∀x∈xs,ok x)/\
   Rd r h' w/\Δ.le r/\AO h h'
 |0,f,Δ,h,_,hR=>⟨[],[],Δ,h,rfl,by simp,by simp_all,trivial,(by simp_all),hR,Env.le_refl _,kX.refl _ _⟩
 | k + 1,f,Δ,h,hm,hR=>by
   obtain⟨⟨d,p⟩,s⟩:=hm f (jn _) (by omega);rw[YD]at s;obtain⟨cs,u,hd⟩:=s;obtain⟨z,hc⟩:=L4 u;rw[o.cells]at z hc;obtain⟨x,us,T,L,A,m,G,B,n,C⟩:=o.lay hd (by simp_all) hR;obtain⟨xs,vs,M,I,N,O,P,D,J,E,b,g⟩:=ID o F q k (f+1) (λi L I=>hm i (by omega) (by omega)) B;have Q:us.length=e.sz:=e.len m;refine⟨x::xs,us++vs,M,I,by simp_all,by grind,?_,⟨us,vs,rfl,?_,D⟩,?_,E,Env.le_trans n b,C.trans g⟩
   ·intro j v K
    by_cases hj:j<us.length
    ·rw[Qg hj]at K
     obtain⟨y,s,R⟩:=A.get j v K;refine⟨y,?_,R.mono b⟩;have S:=hc j (by omega);rw[add_add _ _ _ q,OR F q]at S
     grind
    grind
   ·exact e.mono (xP g.next) (e.eD (λl z=>g.eD l z (λh=>h)) m)
   simp_all
theorem wY.slice{α:Type} {t u:Nat} {e:sQ α} {ok:α->Prop} (U:P0.underlying t=some (.slice u)) (hc:P0.cellsOf t=1) (K:wY u e ok true) (hz:0<e.sz):wY t (eL e) (λxs=>xs.length<=maxLen/\∀x∈xs,ok x) false where
 cells:=hc
 lay:=by
  intro H enc w fuel cs d ps Δ h hd V L;rcases DataW.trod_slice U hd with⟨rfl,_⟩|⟨a,len,cap,s,M,n,rfl,rfl,_,_,l,N,O,m,f,_⟩
  ·exact⟨[],[.ed],Δ,h,.one .ed,⟨_,rfl,.nil⟩,by simp_all,L,Env.le_refl _,kX.refl _ _⟩
  ·obtain ⟨W,f⟩:=f rfl;obtain⟨g,c,ty,fr,v⟩:=V rfl a len cap (.head _);obtain⟨xs,vs,Δ1,P,z,X,Y,A,p,B,q,C⟩:=ID K v g len 0 (λi _ hi=>⟨s[i]'(by omega),by rw[m i (by omega),iH (by omega)]⟩) L;have j:∀i,i<cap->a.off+i*e.sz+e.sz<=c.size:=by
    intro i hi;have D:∃y,(w.cells? 0 (a.add (i*P0.cellsOf u)) (P0.cellsOf u)).bind (DataW.trod enc P0 w 0 (λ_=>true) true n u)=some y:=by
     by_cases hil:i<len
     ·simp_all
     ·have h2:=f (i-len) (by omega)
      grind
    obtain⟨y,Q⟩:=D;rw[YD]at Q;obtain⟨ds,E,_⟩:=Q;obtain⟨Z,R⟩:=L4 E;rw[K.cells]at Z R;have S:=R (e.sz-1) (by omega);rw[add_add _ _ _ g,OR v g,iH (by omega)]at S;have:=(QX.1 S).1;omega
   have F:cap*e.sz=(cap-1)*e.sz+e.sz\/cap=0:=by
    rcases Nat.eq_zero_or_pos cap with h|h
    ·exact .inr h
    ·left;rw[<-Nat.succ_mul];congr 1;omega
   have T:len*e.sz<=cap*e.sz:=Yc _ l;have k:∃o,(o=a.off/\0<cap)\/(o=0/\cap=0):=by
    by_cases h0:0<cap
    ·simp_all
    ·simp_all
   obtain ⟨o,G⟩:=k;have I:o+vs.length<=c.size:=by
    rcases G with⟨rfl,h0⟩|⟨rfl,h0⟩
    ·have:=j (cap-1) (by omega);omega
    ·simp_all
   obtain⟨J,r⟩:=B.add (b:=a.block) (base:=o) (sz:=e.sz) (ty:=u) (cs:=vs) v I (by grind);refine⟨xs,[.slice P.next 0 len],_,_,.one ?_,⟨_,rfl,?_⟩,⟨by omega,p⟩,J,Env.le_trans q r,C.trans (kX.new _ _)⟩
   ·obtain ⟨ab,ao,sp⟩:=a;simp only at g j G⊢;subst g;refine .slice P.next 0 len cap ao ⟨ab,o,e.sz,vs.length,c.size,true,0⟩ (by unfold Je;simp_all) rfl l ?_;rcases G with⟨rfl,h0⟩|⟨rfl,h0⟩
    ·left;have:=j (cap-1) (by omega)
     grind
    simp_all
   ·rw[<-z];exact iL.new A (jn _)
open Go.ChangeShapes Go.WideShapes Go.RowKit
theorem Rd.start(n:Nat) (a:P0.globals.size<=n) (w:World) (b:yY (λ_=>none) w):Rd (λ_=>none) {next:=n,tr:= .leaf} w:=
 ⟨WR.start n a w b,λ_ _ h=>nomatch h⟩
theorem cP.calls{C:fg} (k:ti C) {f:Nat} {args:List V} {h:Hp} {Δ:Env} {W:World} {fY:Array Value} (g:∃fn c,P0.funcs[f]? =some fn/\fn.body=some c) (n:Rd Δ h W) (q:fV Δ args fY.toList)
  (hc:cP C f args h λv _=>v = .bool true):Calls P0 f fY W λe W'=>e = .returned (.bool true)/\Kept W W':=by
 obtain⟨v,h',⟨m,d,r⟩,rfl⟩:=hc;rcases El k m d f args _ _ _ Δ W fY r n.world q with⟨x,y,_⟩|⟨_,s⟩
 ·exfalso;obtain⟨fn,c,o,i⟩:=g;have j:=k.named f fn o;have:(callFunc f fY).run P0 W = .ok (.enter f fY) W:=by
   simp only[callFunc,qu,run_program,pJ,o,j,i,X8,LK,if_false];rfl
  simp_all
 ·refine Calls.mono s λe w' t=>?_;obtain⟨z,x,rfl,p⟩:=t;have u:=p.val;cases u;exact⟨rfl,p.frame.kept λb g=>(by obtain⟨l,d,w,a,_⟩:=g;rw[n.ro l d w]at a;cases a)⟩
theorem ED{H:Type} {enc:TypeId×Value->H} {W W':World} (c:laidOutB P0=true) (a:Kept W W'):∀{ts:List TypeId} {vs:List Value} {ds:List (DataW H)} {ps:List MemPlace},
  (ts.all λt=>P0.readableRec t&&decide (t<P0.types.size))=true->DataW.TrodAll enc P0 W 0 (λ_=>true) true ts vs ds ps->(∀p∈ps,p.block<W.heap.size)->∀sp:Nat->Bool,(∀p∈ps,sp p.block=true)->
  DataW.TrodAll enc P0 W' 0 sp true ts vs ds ps
 | [],_,_,_,_,h,_,_,_=>by
   obtain⟨rfl,rfl,rfl⟩:=trodAll_nil h
   exact rfl
 | t::ts,_,_,_,hr,h,IX,sp,hsp=>by
   obtain⟨v,vs,d,ds,p,q,rfl,rfl,rfl,e,f⟩:=trodAll_cons h;simp only[Th,qU,IM]at hr;refine⟨p,q,?_,ED c a hr.2 f (by simp_all) sp (by simp_all),rfl⟩;have b:Below W.heap.size W {W' with tape:=W.tape}:=⟨a.1,rfl,a.2.1,a.2.2.1,a.2.2.2⟩
   have g:=WideElems.Trod_stays c hr.1.1 hr.1.2 e (λx i=>b.same (by simp_all)) (sp':=sp) (by simp_all);exact DataW.Trod.of_heap (w:={W' with tape:=W.tape}) (w':=W') rfl g
open Go.ChangeShapes Go.WideShapes Go.RowKit
theorem EY{w:World} {base:Nat} {u:TypeId} {v:Value} (h:Cell.okWide P0 w .any base u v) (a:Addr) (len cap:Nat) (b:v = .slice (some a) len cap):a.spot=none/\∃c e fr,w.heap[a.block]? =some (.cells c e fr):=by
 subst b;have d:w.has P0 .any base a ((match P0.underlying u with|some (.slice e)=>e|_=>0)) cap:=by
  unfold Cell.okWide at h;split at h
  case h_8=>
   unfold Cell.ok at h
   grind
  all_goals rename_i e2
  all_goals cases e2
 obtain⟨_,f,row,cells,g,_⟩:=d
 grind[World.shape?]
theorem Md{w:World} {base:Nat} {t:TypeId} {v:Value} (h:Value.okWide P0 w .any base t v):Nk w v.cells.toList:=by
 intro a len cap b;unfold Value.okWide at h;have one:Cell.okWide P0 w .any base t v->a.spot=none/\∃c e fr,w.heap[a.block]? =some (.cells c e fr):=by
  intro g;by_cases hv:∃cs,v = .agg cs
  ·obtain⟨cs,rfl⟩:=hv
   simp_all[Cell.okWide,Cell.ok]
  ·have hc:v.cells = #[v]:=by
    cases v <;> first|rfl|simp_all
   rw[hc]at b;obtain rfl:=Ig.1 b;exact EY g a len cap rfl
 split at h
 ·obtain⟨cs,rfl,_,ts,_,_,d⟩:=h;obtain⟨i,hi⟩:=mM.1 b;obtain⟨u,_,f⟩:=d i _ (by simpa[Value.cells]using hi);exact EY f a len cap rfl
 ·obtain⟨cs,rfl,_,ts,_,_,d⟩:=h;obtain⟨i,hi⟩:=mM.1 b;obtain⟨u,_,f⟩:=d i _ (by simpa[Value.cells]using hi);exact EY f a len cap rfl
 simp_all
theorem wY.map{α β:Type} {t:Nat} {e:sQ α} {e':sQ β} {ok:α->Prop} {a:β->Prop} {fl:Bool} (f:wY t e ok fl) (g:α->β) (i:e'.sz=e.sz) (j:∀b h x cs,e.rel b h x cs->ok x->e'.rel b h (g x) cs/\a (g x)):wY t e' a fl where
 cells:=by rw[f.cells,i]
 lay:=by
  intro H enc w fuel cs d ps Δ h hd c k;obtain⟨x,vs,l,h',m,n,o,p⟩:=f.lay hd c k;obtain⟨q,r⟩:=j _ _ _ _ n o;exact⟨g x,vs,l,h',m,q,r,p⟩
theorem wY.Zf{α:Type} {t:Nat} {fs:Array Field} {e:sQ α} {ok:α->Prop} {fl:Bool} (c:wY t e ok fl) (f:P0.underlying t=some (.struct fs)) {H:Type} {enc:TypeId×Value->H} {w:World} {base:Nat} {v:Value} {d:DataW H} {ps:List MemPlace} {Δ:Env} {h:Hp}
  (b:Value.okWide P0 w .any base t v) (hd:DataW.Trod enc P0 w 0 (λ_=>true) true t v d ps) (g:Rd Δ h w) :
  ∃x vs a h',fq a (.agg vs) v/\e.rel (lo h'.next) h' x vs/\ok x/\Rd a h' w/\Δ.le a/\AO h h':=by
 obtain⟨fuel,hd⟩:=hd;obtain⟨x,vs,a,h',i,j⟩:=c.lay hd (by grind[Md]) g;unfold Value.okWide at b;rw[f]at b;obtain⟨cs,rfl,_⟩:=b;exact⟨x,vs,a,h',.agg _ _ i,j⟩
theorem wY.V2{α:Type} {t:Nat} {e:sQ α} {ok:α->Prop} {fl:Bool} (f:wY t e ok fl) {H:Type} {enc:TypeId×Value->H} {w:World} {base:Nat} {v:Value} {d:DataW H} {ps:List MemPlace} {Δ:Env} {h:Hp}
  (hc:v.cells = #[v]) (i:Value.okWide P0 w .any base t v) (hd:DataW.Trod enc P0 w 0 (λ_=>true) true t v d ps) (g:Rd Δ h w) :
  ∃x u a h',fq a u v/\e.rel (lo h'.next) h' x [u]/\ok x/\Rd a h' w/\Δ.le a/\AO h h':=by
 obtain⟨fuel,hd⟩:=hd;obtain⟨x,vs,a,h',c,j⟩:=f.lay hd (by grind[Md]) g;rw[hc]at c
 cases c with
 | cons u _ us _ k b=>
   cases b
   grind
