/- Parts. -/
import Derived.Test.YtcoaokdoecgcbaaGreatDoorM09
import Derived.ChangeArms
import Derived.Carry
set_option maxHeartbeats 4000000
namespace Go.Proofs.YtcoaokdoecgcbaaGreatDoor.Hx
variable{α:Type}{ok:α->Prop}{e:tq α}{fl:Bool}{t:Nat}{v:Value}
def ze3(Δ:Env):Prop:=∀l d,Δ l=some d->d.ro=true
def XX(w:World)(cs:List Value):Prop:=∀a len cap,Value.slice (some a) len cap∈cs->∃(b:Nat) (c:Array Value) (e:TypeId) (fr:Nat×Nat),w.heap[b]? =some (.cells c e fr)
theorem XX.sub{w:World}{cs ds:List Value}(h:XX w cs)(hs:∀x∈ds,x∈cs):XX w ds:=λa len cap b=>h a len cap (hs _ b)
structure Rd (Δ:Env) (h:Hp) (w:World):Prop where
 world:WR Δ h w
 ro:ze3 Δ
def Q1(Δ:Env)(l:Nat)(d:D):Env:=λm=>if m=l then some d else Δ m
theorem Rd.add{Δ:Env} {h:Hp} {w:World} (a:Rd Δ h w) {b base sz ty:Nat} {c:Array Value} {e:TypeId} {fr:Nat×Nat} {cs:List V} (t:w.heap[b]? =some (.cells c e fr)) (hs:base+cs.length<=c.size)
  (hc:∀i v,cs[i]? =some v->∃x,c[base+i]? =some x/\fV Δ v x) :
  Rd (Q1 Δ h.next ⟨b,base,sz,cs.length,c.size,true,0⟩) (h.new (.cells ty sz true true cs)) w/\Δ.le (Q1 Δ h.next ⟨b,base,sz,cs.length,c.size,true,0⟩):=by
 have f:Δ.le (Q1 Δ h.next ⟨b,base,sz,cs.length,c.size,true,0⟩):=by
  intro l d hl;unfold Q1;rw[if_neg (by have:=a.world.fresh l d hl;omega)];exact hl
 have j:ze3 (Q1 Δ h.next ⟨b,base,sz,cs.length,c.size,true,0⟩):=by
  intro l d hl;unfold Q1 at hl;split at hl
  ·grind
  ·exact a.ro l d hl
 refine⟨⟨⟨?_,?_,?_,?_,?_,?_,a.world.XK.step (by simp_all) λl d hl k=>(by rw[j l d hl]at k;cases k)⟩,j⟩,f⟩
 ·intro l d hl;unfold Q1 at hl;split at hl
  ·simp_all
  ·exact wBj (a.world.fresh l d hl)
 ·intro l d hl;unfold Q1 at hl;split at hl
  ·grind
  ·exact a.world.B8 l d hl
 ·intro l d hl;unfold Q1 at hl;split at hl
  ·rename_i e1;subst e1;cases hl;exact⟨_,fh _ _,rfl,rfl,rfl,rfl,λ_=>⟨c,e,fr,t,rfl,by simp_all,hs,λi v hi=>let⟨x,q,hr⟩:=hc i v hi;⟨x,q,hr.mono f⟩⟩⟩
  ·let⟨o,m,hr⟩:=a.world.obj l d hl
   exact⟨o,by rw[fi _ (a.world.fresh l d hl)];exact m,hr.mono f⟩
 ·intro l u d y o z hl n _ _ _ _ _ q;have k:=j l d hl;have r:=j u y n
  simp_all
 ·intro g o s m;have p:=NY s a.world.yQ;rw[fi _ p]at m
  let⟨d,hd,k,r⟩:=a.world.JT g o s m
  exact⟨d,f _ _ hd,k,r⟩
 ·exact wBN a.world.yQ
def Laid (e:tq α) (ok:α->Prop) (w:World) (Δ:Env) (h:Hp) (cs:List Value):Prop:=∃x vs a h',gR a vs cs/\e.rel (lo h'.next) h' x vs/\ok x/\Rd a h' w/\Δ.le a/\SK h h'
structure vD {α:Type} (t:Nat) (e:tq α) (ok:α->Prop) (fl:Bool):Prop where
 cells:P0.cellsOf t=e.sz
 lay:∀{H:Type} {enc:TypeId×Value->H} {w:World} {fuel:Nat} {cs:List Value} {d:DataW H} {a:List MemPlace} {Δ:Env} {h:Hp},
  DataW.trod enc P0 w 0 (λ_=>true) true fuel t cs=some (d,a)->(fl=false->XX w cs)->Rd Δ h w->Laid e ok w Δ h cs
theorem vD.int {k:IntKind} (b:P0.underlying t=some (.int k)) (hc:P0.cellsOf t=1):vD t (eI k) (λ_=>True) true where
 cells:=hc
 lay:=by
  intro H enc w fuel cs d e Δ h hd _ c;obtain⟨n,rfl,_,a⟩:=DataW.trod_int b hd;refine⟨n,[.int k n],Δ,h,.one (.int _ _),⟨rfl,?_⟩,trivial,c,Env.le_refl _,.refl _ _⟩;simp[Lit.wf,yU]at a;revert a;cases k <;> simp[ml,IntKind.min,IntKind.max,IntKind.signed,IntKind.bits]
theorem vD.bool (a:P0.underlying t=some .bool) (hc:P0.cellsOf t=1):vD t eB (λ_=>True) true where
 cells:=hc
 lay:=by
  intro H enc w fuel cs d e Δ h hd _ c;obtain⟨b,rfl,_⟩:=DataW.trod_bool a hd;exact⟨b,[.bool b],Δ,h,.one (.bool _),rfl,trivial,c,Env.le_refl _,.refl _ _⟩
def eU:tq Unit where
 sz:=0
 rel _ _ _ cs:=cs=[]
 len h:=by simp_all
 one h:=by simp_all
 fy _ h:=h
 mono _ h:=h
structure KI {α:Type} (fs:List Field) (off:Nat) (e:tq α) (ok:α->Prop) (fl:Bool):Prop where
 lay:∀{H:Type} {enc:TypeId×Value->H} {w:World} {fuel:Nat} {cs:List Value} {Δ:Env} {h:Hp},cs.length=off+e.sz->
  (∀f∈fs,∃x,DataW.trod enc P0 w 0 (λ_=>true) true fuel f.type ((cs.drop f.offset).take (P0.cellsOf f.type))=some x)->(fl=false->XX w cs)->Rd Δ h w->Laid e ok w Δ h (cs.drop off)
theorem KI.nil(off:Nat):KI [] off eU (λ_=>True) true where
 lay:=by
  intro H enc w fuel cs Δ h hl _ _ a;have:cs.drop off=[]:=wBX (by rw[hl];exact jJ _);rw[this];exact⟨(),[],Δ,h,.nil,rfl,trivial,a,Env.le_refl _,.refl _ _⟩
theorem KI.cons{β:Type} {f:Field} {fs:List Field} {off:Nat}  {e':tq β}  {b:β->Prop} {c:Bool} (k:vD f.type e ok fl) (n:f.offset=off) (i:KI fs (off+e.sz) e' b c) :
  KI (f::fs) off (eP e e') (λx=>ok x.1/\b x.2) (fl&&c) where
 lay:=by
  intro H enc w fuel cs Δ h hl m hs o;have q:cs.length=off+(e.sz+e'.sz):=hl
  let⟨⟨d,p⟩,hd⟩:=m f (.head _)
  have j:=λg r=>m g (.tail _ r);rw[n,k.cells]at hd
  let⟨x,vs,Δ1,t,hr1,he1,hok1,hR1,hle1,hg1⟩:=k.lay hd (by grind[XX.sub,List.mem_of_mem_drop]) o
  let⟨y,us,Δ2,s,hr2,he2,hok2,hR2,hle2,hg2⟩:=i.lay (by omega) j (by simp_all) hR1
  have a:cs.drop off=(cs.drop off).take e.sz++cs.drop (off+e.sz):=by rw[<-wBi,wAu]
  refine⟨(x,y),vs++us,Δ2,s,?_,⟨vs,us,rfl,?_,he2⟩,⟨hok1,hok2⟩,hR2,Env.le_trans hle1 hle2,hg1.trans hg2⟩
  ·rw[a];exact(hr1.mono hle2).append hr2
  ·exact e.mono (vB hg2.next) (e.fy (λl hl=>hg2.fy l hl (λh=>h)) he1)
theorem vD.struct  {fs:Array Field}    (j:P0.underlying t=some (.struct fs)) (hc:P0.cellsOf t=e.sz) (k:KI fs.toList 0 e ok fl):vD t e ok fl where
 cells:=hc
 lay:=by
  intro H enc w fuel cs d m Δ h hd hs l;obtain⟨xs,n,rfl,_,hl,hlen,b⟩:=DataW.trod_struct j hd;have:=k.lay (by omega) (λf c=>by
   let⟨i,hi⟩:=mz.1 c
   have a:fs[i]? =some f:=by simpa using hi
   have g:i<xs.length:=by rw[hlen];exact(wAt.1 a).1
   exact⟨xs[i],by rw[b i f a,hZ g]⟩) hs l
  simp_all
theorem Rh{w:World} {a:Addr} {n:Nat} {l:List Value} (h:w.cells? 0 a n=some l):l.length=n/\∀i,i<n->w.cell? (a.add i)=l[i]?:=by
 unfold World.cells? at h;rw[if_pos (PM _)]at h;have b:∀k js l,js=List.range' k js.length->js.mapM (λi=>w.cell? (a.add i))=some l->l.length=js.length/\∀i,i<js.length->w.cell? (a.add (k+i))=l[i]?:=by
  intro k js
  induction js generalizing k with
  |nil=>simp_all
  | cons j js e=>
    intro l c h;simp[ Option.bind_eq_bind,wBf]at h;obtain⟨x,f,xs,d,rfl⟩:=h;rw[Re,List.range'_succ]at c
    grind
 grind[List.length_range,List.range_eq_range']
theorem YP{w:World} {a:Addr} {n:Nat} {c:Array Value} {e:TypeId} {fr:Nat×Nat} (d:w.heap[a.block]? =some (.cells c e fr)) (hs:a.spot=none):w.cell? (a.add n)=c[a.off+n]?:=by
 let⟨b,o,s⟩:=a
 grind[uY,World.cell?]
theorem add_add(a:Addr) (n m:Nat) (hs:a.spot=none):(a.add n).add m=a.add (n+m):=by
 let⟨b,o,s⟩:=a
 grind[uY,Zz]
theorem Qs     (b:vD t e ok fl) {H:Type} {enc:TypeId×Value->H} {w:World} {fuel:Nat} {a:Addr} {c:Array Value} {ty:TypeId} {fr:Nat×Nat}
  (f:w.heap[a.block]? =some (.cells c ty fr)) (hs:a.spot=none):∀k i0 {Δ:Env} {h:Hp},
  (∀i,i0<=i->i<i0+k->∃y,(w.cells? 0 (a.add (i*P0.cellsOf t)) (P0.cellsOf t)).bind (DataW.trod enc P0 w 0 (λ_=>true) true fuel t)=some y)->Rd Δ h w->
  ∃xs vs g h',xs.length=k/\vs.length=k*e.sz/\(∀j v,vs[j]? =some v->∃x,c[a.off+i0*e.sz+j]? =some x/\fV g v x)/\rL e (lo h'.next) h' vs xs/\(∀x∈xs,ok x)/\
   Rd g h' w/\Δ.le g/\SK h h'
 |0,i0,Δ,h,_,hR=>⟨[],[],Δ,h,rfl,by simp,by simp_all,trivial,(by simp_all),hR,Env.le_refl _,uE.refl _ _⟩
 | k + 1,i0,Δ,h,hm,hR=>by
   let⟨⟨d,p⟩,hy⟩:=hm i0 (jJ _) (by omega)
   rw[wBf]at hy
   let⟨cs,hcs,hd⟩:=hy
   let⟨hl,hc⟩:=Rh hcs
   rw[b.cells]at hl hc
   let⟨x,us,Δ1,n,hr1,he1,hok1,hR1,hle1,hg1⟩:=b.lay hd (λ_ _ _ _ _=>⟨_,_,_,_,f⟩) hR
   let⟨xs,vs,Δ2,m,hx2,hv2,hc2,hw2,hok2,hR2,hle2,hg2⟩:=Qs b f hs k (i0+1) (λi n m=>hm i (by omega) (by omega)) hR1
   have o:=e.len he1;refine⟨x::xs,us++vs,Δ2,m,by simp_all,by grind,?_,⟨us,vs,rfl,?_,hw2⟩,?_,hR2,Env.le_trans hle1 hle2,hg1.trans hg2⟩
   ·intro j v hv
    by_cases hj:j<us.length
    ·rw[UF hj]at hv
     let⟨y,hy,hr⟩:=hr1.get j v hv
     refine⟨y,?_,hr.mono hle2⟩;have q:=hc j (by omega);rw[add_add _ _ _ hs,YP f hs]at q
     grind
    grind
   ·exact e.mono (vB hg2.next) (e.fy (λl hl=>hg2.fy l hl (λh=>h)) he1)
   simp_all
theorem zaD{w:World} {a:Addr}  (h:w.cell? a=some v):a.spot=none/\∃c e fr,w.heap[a.block]? =some (.cells c e fr):=by
 unfold World.cell? at h;split at h
 ·rename_i c e fr b;split at h
  ·cases h
  ·rename_i hs;exact⟨by simpa using hs,c,e,fr,b⟩
 ·cases h
theorem vD.slice {u:Nat}    (K:P0.underlying t=some (.slice u)) (hc:P0.cellsOf t=1) (s:vD u e ok fl) (L:0<e.sz):vD t (eL e) (λxs=>xs.length<=maxLen/\∀x∈xs,ok x) false where
 cells:=hc
 lay:=by
  intro H enc w fuel cs d M Δ h hd hs v;rcases DataW.trod_slice K hd with⟨rfl,_⟩|⟨a,len,cap,j,k,n,rfl,rfl,_,_,l,D,E,g,f,_⟩
  ·exact⟨[],[.ed],Δ,h,.one .ed,⟨_,rfl,.nil⟩,by simp_all,v,Env.le_refl _,uE.refl _ _⟩
  ·let ⟨hrl,f⟩:=f rfl
   have m:∀i,i<cap->∃y,(w.cells? 0 (a.add (i*P0.cellsOf u)) (P0.cellsOf u)).bind (DataW.trod enc P0 w 0 (λ_=>true) true n u)=some y:=λi hi=>by
    by_cases hil:i<len
    ·exact⟨j[i]'(by omega),by rw[g i (by omega),hZ (by omega)]⟩
    ·have F:=f (i-len) (by omega);rw[show len+(i-len)=i by omega]at F;exact⟨k[i-len]'(by omega),by rw[F,hZ (by omega)]⟩
   rcases Nat.eq_zero_or_pos cap with rfl|z
   ·
    obtain rfl:len=0:=by omega
    let⟨b,c,ty,fr,hb⟩:=hs rfl a 0 0 (.head _)
    let⟨hR2,hle2⟩:=v.add (base:=0) (sz:=e.sz) (ty:=u) (cs:=[]) hb (by simp) (by simp)
    refine⟨[],[.slice h.next 0 0],_,_,.one ?_,⟨_,rfl,?_⟩,by simp,hR2,hle2,uE.new _ _⟩
    ·exact .wild h.next 0 a ⟨b,0,e.sz,0,c.size,true,0⟩ (by unfold Q1;simp) rfl rfl (jJ _)
    ·exact hD.new (xs:=[]) (cs:=[]) trivial (jJ _)
   have o:a.spot=none/\∃c e fr,w.heap[a.block]? =some (.cells c e fr):=by
    let⟨y,hy⟩:=m 0 z
    rw[wBf]at hy
    let⟨ds,hds,_⟩:=hy
    let⟨A,p⟩:=Rh hds
    rw[s.cells]at A p;have q:=p 0 (by omega);rw[hZ (by omega)]at q;have G:=zaD q;have e0:(a.add (0*e.sz)).add 0=a:=by simp[Addr.add]
    rw[e0]at G;exact G
   let⟨hsp,c,ty,fr,hb⟩:=o
   let⟨xs,vs,Δ1,I,hx1,hv1,hc1,hw1,hok1,hR1,hle1,hg1⟩:=Qs s hb hsp len 0 (λi _ hi=>⟨j[i]'(by omega),by rw[g i (by omega),hZ (by omega)]⟩) v
   have r:∀i,i<cap->a.off+i*e.sz+e.sz<=c.size:=by
    intro i hi
    let⟨y,hy⟩:=m i hi
    rw[wBf]at hy
    let⟨ds,hds,_⟩:=hy
    let⟨A,p⟩:=Rh hds
    rw[s.cells]at A p;have q:=p (e.sz-1) (by omega);rw[add_add _ _ _ hsp,YP hb hsp,hZ (by omega)]at q;have:=(wAt.1 q).1;omega
   have B:cap*e.sz=(cap-1)*e.sz+e.sz:=by rw[<-Nat.succ_mul];congr 1;omega
   have J:len*e.sz<=cap*e.sz:=wBJ _ l;have C:a.off+vs.length<=c.size:=by
    have:=r (cap-1) (by omega);omega
   let⟨hR2,hle2⟩:=hR1.add (sz:=e.sz) (ty:=u) hb C (by grind)
   refine⟨xs,[.slice I.next 0 len],_,_,.one ?_,⟨_,rfl,?_⟩,⟨by omega,hok1⟩,hR2,Env.le_trans hle1 hle2,hg1.trans (uE.new _ _)⟩
   ·let⟨ab,ao,sp⟩:=a
    subst hsp;refine .slice I.next 0 len cap ao ⟨ab,ao,e.sz,vs.length,c.size,true,0⟩ (by unfold Q1;simp_all) rfl l (.inl ?_);have:=r (cap-1) (by omega)
    grind
   ·rw[<-hx1];exact hD.new hw1 (jJ _)
open Go.ChangeShapes Go.WideShapes Go.RowKit
theorem Rd.start(n:Nat) (a:P0.globals.size<=n) (w:World) (b:EB (λ_=>none) w):Rd (λ_=>none) {next:=n,tr:= .leaf} w:=
 ⟨WR.start n a w b,λ_ _ h=>nomatch h⟩
theorem cP.calls{C:mh} (k:AA C) {f:Nat} {args:List V} {h:Hp} {Δ:Env} {W:World} {gW:Array Value} (g:∃fn c,P0.funcs[f]? =some fn/\fn.body=some c) (n:Rd Δ h W) (q:gR Δ args gW.toList)
  (hc:cP C f args h λv _=>v = .bool true):Calls P0 f gW W λe W'=>e = .returned (.bool true)/\Kept W W':=by
 obtain⟨v,h',⟨m,d,r⟩,rfl⟩:=hc;rcases MI k m d f args _ _ _ Δ W gW r n.world q with⟨x,w,_⟩|⟨_,s⟩
 ·exfalso;obtain⟨fn,c,o,i⟩:=g;have j:=k.named f fn o;have:(callFunc f gW).run P0 W = .ok (.enter f gW) W:=by
   simp only[callFunc,DO,run_program,Hi,o,j,i,Option.isNone_some,wBK,if_false];rfl
  simp_all
 ·refine Calls.mono s λe w' t=>?_;obtain⟨y,x,rfl,p⟩:=t;have u:=p.val;cases u;exact⟨rfl,p.frame.kept λb g=>(by obtain⟨l,d,hl,a,_⟩:=g;rw[n.ro l d hl]at a;cases a)⟩
theorem MK{H:Type} {enc:TypeId×Value->H} {W W':World} (hl:laidOutB P0=true) (a:Kept W W'):∀{ts:List TypeId} {vs:List Value} {ds:List (DataW H)} {b:List MemPlace},
  (ts.all λt=>P0.readableRec t&&decide (t<P0.types.size))=true->DataW.TrodAll enc P0 W 0 (λ_=>true) true ts vs ds b->(∀p∈b,p.block<W.heap.size)->∀sp:Nat->Bool,(∀p∈b,sp p.block=true)->
  DataW.TrodAll enc P0 W' 0 sp true ts vs ds b
 | [],_,_,_,_,h,_,_,_=>by
   obtain⟨rfl,rfl,rfl⟩:=trodAll_nil h
   exact rfl
 | t::ts,_,_,_,hr,h,G6,sp,hsp=>by
   obtain⟨v,vs,d,ds,p,q,rfl,rfl,rfl,e,f⟩:=trodAll_cons h;simp only[wBo,yF,yU]at hr;refine⟨p,q,?_,MK hl a hr.2 f (by simp_all) sp (by simp_all),rfl⟩;have c:Below W.heap.size W {W' with tape:=W.tape}:=⟨a.1,rfl,a.2.1,a.2.2.1,a.2.2.2⟩
   have g:=WideElems.Trod_stays hl hr.1.1 hr.1.2 e (λx i=>c.same (by simp_all)) (sp':=sp) (by simp_all);exact DataW.Trod.of_heap (w:={W' with tape:=W.tape}) (w':=W') rfl g
open Go.ChangeShapes Go.WideShapes Go.RowKit
theorem NT{w:World} {base:Nat} {u:TypeId}  (h:Cell.okWide P0 w .any base u v) (a:Addr) (len cap:Nat) (hv:v = .slice (some a) len cap):a.spot=none/\∃c e fr,w.heap[a.block]? =some (.cells c e fr):=by
 subst hv;have b:w.has P0 .any base a ((match P0.underlying u with|some (.slice e)=>e|_=>0)) cap:=by
  unfold Cell.okWide at h;split at h
  case h_8=>
   unfold Cell.ok at h
   grind
  all_goals rename_i e2
  all_goals cases e2
 obtain⟨_,d,row,cells,f,_⟩:=b
 grind[World.shape?]
theorem U4{w:World} {base:Nat} {t:TypeId}  (h:Value.okWide P0 w .any base t v):XX w v.cells.toList:=by
 intro a len cap b;refine⟨a.block,And.right (a:=a.spot=none) ?_⟩;unfold Value.okWide at h;have one:Cell.okWide P0 w .any base t v->a.spot=none/\∃c e fr,w.heap[a.block]? =some (.cells c e fr):=by
  intro g;by_cases hv:∃cs,v = .agg cs
  ·obtain⟨cs,rfl⟩:=hv
   simp_all[Cell.okWide,Cell.ok]
  ·have hc:v.cells = #[v]:=by
    cases v <;> first|rfl|simp_all
   rw[hc]at b;obtain rfl:=Hh.1 b;exact NT g a len cap rfl
 split at h
 ·obtain⟨cs,rfl,_,ts,_,_,d⟩:=h;obtain⟨i,hi⟩:=mz.1 b;obtain⟨u,_,f⟩:=d i _ (by simpa[Value.cells]using hi);exact NT f a len cap rfl
 ·obtain⟨cs,rfl,_,ts,_,_,d⟩:=h;obtain⟨i,hi⟩:=mz.1 b;obtain⟨u,_,f⟩:=d i _ (by simpa[Value.cells]using hi);exact NT f a len cap rfl
 simp_all
theorem vD.map{β:Type}   {e':tq β}  {a:β->Prop}  (hl:vD t e ok fl) (g:α->β) (hs:e'.sz=e.sz) (c:∀b h x cs,e.rel b h x cs->ok x->e'.rel b h (g x) cs/\a (g x)):vD t e' a fl where
 cells:=by rw[hl.cells,hs]
 lay:=by
  intro H enc w fuel cs d p Δ h hd pO f;obtain⟨x,vs,i,h',j,k,l,m⟩:=hl.lay hd pO f;obtain⟨n,o⟩:=c _ _ _ _ k l;exact⟨g x,vs,i,h',j,n,o,m⟩
theorem vD.zhQ  {fs:Array Field}    (hl:vD t e ok fl) (b:P0.underlying t=some (.struct fs)) {H:Type} {enc:TypeId×Value->H} {w:World} {base:Nat} {v:Value} {d:DataW H} {c:List MemPlace} {Δ:Env} {h:Hp}
  (hv:Value.okWide P0 w .any base t v) (hd:DataW.Trod enc P0 w 0 (λ_=>true) true t v d c) (f:Rd Δ h w) :
  ∃x vs a h',fV a (.agg vs) v/\e.rel (lo h'.next) h' x vs/\ok x/\Rd a h' w/\Δ.le a/\SK h h':=by
 obtain⟨fuel,hd⟩:=hd;obtain⟨x,vs,a,h',g,i⟩:=hl.lay hd (by grind[U4]) f;unfold Value.okWide at hv;rw[b]at hv;obtain⟨cs,rfl,_⟩:=hv;exact⟨x,vs,a,h',.agg _ _ g,i⟩
theorem vD.zem{α:Type} {t:Nat} {e:tq α} {ok:α->Prop} {fl:Bool} (hl:vD t e ok fl) {H:Type} {enc:TypeId×Value->H} {w:World} {base:Nat} {v:Value} {d:DataW H} {f:List MemPlace} {Δ:Env} {h:Hp}
  (hc:v.cells = #[v]) (hv:Value.okWide P0 w .any base t v) (hd:DataW.Trod enc P0 w 0 (λ_=>true) true t v d f) (g:Rd Δ h w) :
  ∃x u a h',fV a u v/\e.rel (lo h'.next) h' x [u]/\ok x/\Rd a h' w/\Δ.le a/\SK h h':=by
 obtain⟨fuel,hd⟩:=hd;obtain⟨x,vs,a,h',c,i⟩:=hl.lay hd (by grind[U4]) g;rw[hc]at c
 cases c with
 | cons u _ us _ j b=>
   cases b
   grind
