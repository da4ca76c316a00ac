/- Parts. -/
import Derived.Test.YtloecllhljfidaaGreatDoorM09
import Derived.ChangeArms
import Derived.Carry
set_option maxHeartbeats 4000000
namespace Go.Proofs.YtloecllhljfidaaGreatDoor.Hx
variable{α:Type}{ok:α->Prop}{e:qf α}{t:Nat}{fl:Bool}
def zcY(Δ:Env):Prop:=∀l d,Δ l=some d->d.ro=true
def UT(w:World)(cs:List Value):Prop:=∀a len b,Value.slice (some a) len b∈cs->a.spot=none/\∃c e fr,w.heap[a.block]? =some (.cells c e fr)
theorem UT.sub{w:World}{cs ds:List Value}(h:UT w cs)(hs:∀x∈ds,x∈cs):UT w ds:=λa len b c=>h a len b (hs _ c)
structure Rd (Δ:Env) (h:Hp) (w:World):Prop where
 world:WR Δ h w
 ro:zcY Δ
def Pz(Δ:Env)(l:Nat)(d:D):Env:=λm=>if m=l then some d else Δ m
theorem Rd.add{Δ:Env} {h:Hp} {w:World} (f:Rd Δ h w) {b base sz ty:Nat} {c:Array Value} {e:TypeId} {fr:Nat×Nat} {cs:List V} (hb:w.heap[b]? =some (.cells c e fr)) (hs:base+cs.length<=c.size)
  (hc:∀i v,cs[i]? =some v->∃x,c[base+i]? =some x/\fZ Δ v x) :
  Rd (Pz Δ h.next ⟨b,base,sz,cs.length,c.size,true,0⟩) (h.new (.cells ty sz true true cs)) w/\Δ.le (Pz Δ h.next ⟨b,base,sz,cs.length,c.size,true,0⟩):=by
 have j:Δ.le (Pz Δ h.next ⟨b,base,sz,cs.length,c.size,true,0⟩):=by
  intro l d a;unfold Pz;rw[if_neg (by have:=f.world.fresh l d a;omega)];exact a
 have k:zcY (Pz Δ h.next ⟨b,base,sz,cs.length,c.size,true,0⟩):=by
  intro l d a;unfold Pz at a;split at a
  ·grind
  ·exact f.ro l d a
 refine⟨⟨⟨?_,?_,?_,?_,?_,?_,f.world.V9.step (by simp_all) λl d a m=>(by rw[k l d a]at m;cases m)⟩,k⟩,j⟩
 ·intro l d a;unfold Pz at a;split at a
  ·simp_all
  ·exact wBf (f.world.fresh l d a)
 ·intro l d a;unfold Pz at a;split at a
  ·grind
  ·exact f.world.nJ l d a
 ·intro l d a;unfold Pz at a;split at a
  ·rename_i t;subst t;cases a;exact⟨_,fm _ _,rfl,rfl,rfl,rfl,λ_=>⟨c,e,fr,hb,rfl,by simp_all,hs,λi v hi=>let⟨x,hx,hr⟩:=hc i v hi;⟨x,hx,hr.mono j⟩⟩⟩
  ·let⟨o,n,hr⟩:=f.world.obj l d a
   exact⟨o,by rw[fo _ (f.world.fresh l d a)];exact n,hr.mono j⟩
 ·intro l u d d' o y a p _ _ _ _ _ hx;have m:=k l d a;have r:=k u d' p
  simp_all
 ·intro g o s n;have q:=Ep s f.world.zV;rw[fo _ q]at n
  let⟨d,hd,m,r⟩:=f.world.JN g o s n
  exact⟨d,j _ _ hd,m,r⟩
 ·exact wBK f.world.zV
def Laid (e:qf α) (ok:α->Prop) (w:World) (Δ:Env) (h:Hp) (cs:List Value):Prop:=∃x vs a h',gW a vs cs/\e.rel (lo h'.next) h' x vs/\ok x/\Rd a h' w/\Δ.le a/\Jp h h'
structure yK {α:Type} (t:Nat) (e:qf α) (ok:α->Prop) (fl:Bool):Prop where
 cells:P0.cellsOf t=e.sz
 lay:∀{H:Type} {enc:TypeId×Value->H} {w:World} {fuel:Nat} {cs:List Value} {d:DataW H} {a:List MemPlace} {Δ:Env} {h:Hp},
  DataW.trod enc P0 w 0 (λ_=>true) true fuel t cs=some (d,a)->(fl=false->UT w cs)->Rd Δ h w->Laid e ok w Δ h cs
theorem yK.int {k:IntKind} (b:P0.underlying t=some (.int k)) (hc:P0.cellsOf t=1):yK t (eI k) (λ_=>True) true where
 cells:=hc
 lay:=by
  intro H enc w fuel cs d f Δ h c _ e;obtain⟨n,rfl,_,a⟩:=DataW.trod_int b c;refine⟨n,[.int k n],Δ,h,.one (.int _ _),⟨rfl,?_⟩,trivial,e,Env.le_refl _,.refl _ _⟩;simp[Lit.wf,zX]at a;revert a;cases k <;> simp[sO,IntKind.min,IntKind.max,IntKind.signed,IntKind.bits]
def eU:qf Unit where
 sz:=0
 rel _ _ _ cs:=cs=[]
 len h:=by simp_all
 one h:=by simp_all
 fk _ h:=h
 mono _ h:=h
structure Jb {α:Type} (fs:List Field) (off:Nat) (e:qf α) (ok:α->Prop) (fl:Bool):Prop where
 lay:∀{H:Type} {enc:TypeId×Value->H} {w:World} {fuel:Nat} {cs:List Value} {Δ:Env} {h:Hp},cs.length=off+e.sz->
  (∀f∈fs,∃x,DataW.trod enc P0 w 0 (λ_=>true) true fuel f.type ((cs.drop f.offset).take (P0.cellsOf f.type))=some x)->(fl=false->UT w cs)->Rd Δ h w->Laid e ok w Δ h (cs.drop off)
theorem Jb.nil(off:Nat):Jb [] off eU (λ_=>True) true where
 lay:=by
  intro H enc w fuel cs Δ h a _ _ b;have:cs.drop off=[]:=List.drop_of_length_le (by rw[a];exact iZ _);rw[this];exact⟨(),[],Δ,h,.nil,rfl,trivial,b,Env.le_refl _,.refl _ _⟩
theorem Jb.cons{β:Type} {f:Field} {fs:List Field} {off:Nat}  {e':qf β}  {b:β->Prop} {c:Bool} (m:yK f.type e ok fl) (o:f.offset=off) (i:Jb fs (off+e.sz) e' b c) :
  Jb (f::fs) off (eP e e') (λx=>ok x.1/\b x.2) (fl&&c) where
 lay:=by
  intro H enc w fuel cs Δ h j n hs q;have r:cs.length=off+(e.sz+e'.sz):=j
  let⟨⟨d,p⟩,hd⟩:=n f (.head _)
  have k:=λg s=>n g (.tail _ s);rw[o,m.cells]at hd
  let⟨x,vs,Δ1,u,hr1,he1,hok1,hR1,hle1,hg1⟩:=m.lay hd (by grind[UT.sub,List.mem_of_mem_drop]) q
  let⟨y,us,Δ2,t,hr2,he2,hok2,hR2,hle2,hg2⟩:=i.lay (by omega) k (by simp_all) hR1
  have a:cs.drop off=(cs.drop off).take e.sz++cs.drop (off+e.sz):=by rw[<-wBr,wA1]
  refine⟨(x,y),vs++us,Δ2,t,?_,⟨vs,us,rfl,?_,he2⟩,⟨hok1,hok2⟩,hR2,Env.le_trans hle1 hle2,hg1.trans hg2⟩
  ·rw[a];exact(hr1.mono hle2).append hr2
  ·exact e.mono (vK hg2.next) (e.fk (λl j=>hg2.fk l j (λh=>h)) he1)
theorem yK.struct  {fs:Array Field}    (j:P0.underlying t=some (.struct fs)) (hc:P0.cellsOf t=e.sz) (k:Jb fs.toList 0 e ok fl):yK t e ok fl where
 cells:=hc
 lay:=by
  intro H enc w fuel cs d o Δ h l hs m;obtain⟨xs,n,rfl,_,p,hlen,b⟩:=DataW.trod_struct j l;have:=k.lay (by omega) (λf c=>by
   let⟨i,hi⟩:=mn.1 c
   have a:fs[i]? =some f:=by simpa using hi
   have g:i<xs.length:=by rw[hlen];exact(wAx.1 a).1
   exact⟨xs[i],by rw[b i f a,gN g]⟩) hs m
  simp_all
theorem Tv{w:World} {a:Addr} {n:Nat} {l:List Value} (h:w.cells? 0 a n=some l):l.length=n/\∀i,i<n->w.cell? (a.add i)=l[i]?:=by
 unfold World.cells? at h;rw[if_pos (Mr _)]at h;have c:∀k b l,b=List.range' k b.length->b.mapM (λi=>w.cell? (a.add i))=some l->l.length=b.length/\∀i,i<b.length->w.cell? (a.add (k+i))=l[i]?:=by
  intro k b
  induction b generalizing k with
  |nil=>simp_all
  | cons j b f=>
    intro l d h;simp[ Option.bind_eq_bind,wBv]at h;obtain⟨x,hx,xs,e,rfl⟩:=h;rw[VS,List.range'_succ]at d
    grind
 grind[UW,List.range_eq_range']
theorem WD{w:World} {a:Addr} {n:Nat} {c:Array Value} {e:TypeId} {fr:Nat×Nat} (hb:w.heap[a.block]? =some (.cells c e fr)) (hs:a.spot=none):w.cell? (a.add n)=c[a.off+n]?:=by
 let⟨b,o,s⟩:=a
 grind[uR,World.cell?]
theorem add_add(a:Addr) (n m:Nat) (hs:a.spot=none):(a.add n).add m=a.add (n+m):=by
 let⟨b,o,s⟩:=a
 grind[uR,Nat.add_assoc]
theorem NI    (f:yK t e ok true) {H:Type} {enc:TypeId×Value->H} {w:World} {fuel:Nat} {a:Addr} {c:Array Value} {ty:TypeId} {fr:Nat×Nat}
  (hb:w.heap[a.block]? =some (.cells c ty fr)) (hs:a.spot=none):∀k b {Δ:Env} {h:Hp},
  (∀i,b<=i->i<b+k->∃y,(w.cells? 0 (a.add (i*P0.cellsOf t)) (P0.cellsOf t)).bind (DataW.trod enc P0 w 0 (λ_=>true) true fuel t)=some y)->Rd Δ h w->
  ∃xs vs g h',xs.length=k/\vs.length=k*e.sz/\(∀j v,vs[j]? =some v->∃x,c[a.off+b*e.sz+j]? =some x/\fZ g v x)/\qX e (lo h'.next) h' vs xs/\(∀x∈xs,ok x)/\
   Rd g h' w/\Δ.le g/\Jp h h'
 |0,b,Δ,h,_,hR=>⟨[],[],Δ,h,rfl,by simp,by simp_all,trivial,(by simp_all),hR,Env.le_refl _,lP.refl _ _⟩
 | k + 1,b,Δ,h,hm,hR=>by
   let⟨⟨d,p⟩,hy⟩:=hm b (iZ _) (by omega)
   rw[wBv]at hy
   let⟨cs,hcs,hd⟩:=hy
   let⟨m,hc⟩:=Tv hcs
   rw[f.cells]at m hc
   let⟨x,us,Δ1,o,hr1,he1,hok1,hR1,hle1,hg1⟩:=f.lay hd (by simp_all) hR
   let⟨xs,vs,Δ2,n,hx2,hv2,hc2,hw2,hok2,hR2,hle2,hg2⟩:=NI f hb hs k (b+1) (λi o n=>hm i (by omega) (by omega)) hR1
   have q:=e.len he1;refine⟨x::xs,us++vs,Δ2,n,by simp_all,by grind,?_,⟨us,vs,rfl,?_,hw2⟩,?_,hR2,Env.le_trans hle1 hle2,hg1.trans hg2⟩
   ·intro j v hv
    by_cases hj:j<us.length
    ·rw[VU hj]at hv
     let⟨y,hy,hr⟩:=hr1.get j v hv
     refine⟨y,?_,hr.mono hle2⟩;have r:=hc j (by omega);rw[add_add _ _ _ hs,WD hb hs]at r
     grind
    grind
   ·exact e.mono (vK hg2.next) (e.fk (λl m=>hg2.fk l m (λh=>h)) he1)
   simp_all
theorem yK.slice {u:Nat}   (G:P0.underlying t=some (.slice u)) (hc:P0.cellsOf t=1) (s:yK u e ok true) (K:0<e.sz):yK t (eL e) (λxs=>xs.length<=maxLen/\∀x∈xs,ok x) false where
 cells:=hc
 lay:=by
  intro H enc w fuel cs d L Δ h I hs v;rcases DataW.trod_slice G I with⟨rfl,_⟩|⟨a,len,b,m,z,n,rfl,rfl,_,_,j,A,B,k,f,_⟩
  ·exact⟨[],[.ei],Δ,h,.one .ei,⟨_,rfl,.nil⟩,by simp_all,v,Env.le_refl _,lP.refl _ _⟩
  ·let ⟨hrl,f⟩:=f rfl
   let⟨hsp,c,ty,fr,hb⟩:=hs rfl a len b (.head _)
   let⟨xs,vs,Δ1,C,hx1,hv1,hc1,hw1,hok1,hR1,hle1,hg1⟩:=NI s hb hsp len 0 (λi _ hi=>⟨m[i]'(by omega),by rw[k i (by omega),gN (by omega)]⟩) v
   have l:∀i,i<b->a.off+i*e.sz+e.sz<=c.size:=by
    intro i hi;have p:∃y,(w.cells? 0 (a.add (i*P0.cellsOf u)) (P0.cellsOf u)).bind (DataW.trod enc P0 w 0 (λ_=>true) true n u)=some y:=by
     by_cases hil:i<len
     ·simp_all
     ·have M:=f (i-len) (by omega)
      grind
    let⟨y,hy⟩:=p
    rw[wBv]at hy
    let⟨ds,hds,_⟩:=hy
    let⟨J,D⟩:=Tv hds
    rw[s.cells]at J D;have E:=D (e.sz-1) (by omega);rw[add_add _ _ _ hsp,WD hb hsp,gN (by omega)]at E;have:=(wAx.1 E).1;omega
   have q:b*e.sz=(b-1)*e.sz+e.sz\/b=0:=by
    rcases Nat.eq_zero_or_pos b with h|h
    ·exact .inr h
    ·left;rw[<-Nat.succ_mul];congr 1;omega
   have F:len*e.sz<=b*e.sz:=wBs _ j;have g:∃o,(o=a.off/\0<b)\/(o=0/\b=0):=by
    by_cases h0:0<b
    ·simp_all
    ·simp_all
   let⟨o,ho⟩:=g
   have r:o+vs.length<=c.size:=by
    rcases ho with⟨rfl,h0⟩|⟨rfl,h0⟩
    ·have:=l (b-1) (by omega);omega
    ·simp_all
   let⟨hR2,hle2⟩:=hR1.add (sz:=e.sz) (ty:=u) hb r (by grind)
   refine⟨xs,[.slice C.next 0 len],_,_,.one ?_,⟨_,rfl,?_⟩,⟨by omega,hok1⟩,hR2,Env.le_trans hle1 hle2,hg1.trans (lP.new _ _)⟩
   ·let ⟨ab,ao,sp⟩:=a
    subst hsp;refine .slice C.next 0 len b ao ⟨ab,o,e.sz,vs.length,c.size,true,0⟩ (by unfold Pz;simp_all) rfl j ?_;rcases ho with⟨rfl,h0⟩|⟨rfl,h0⟩
    ·left;have:=l (b-1) (by omega)
     grind
    simp_all
   ·rw[<-hx1];exact il.new hw1 (iZ _)
open Go.ChangeShapes Go.WideShapes Go.RowKit
theorem Rd.start(n:Nat) (a:P0.globals.size<=n) (w:World) (ht:Dz (λ_=>none) w):Rd (λ_=>none) {next:=n,tr:= .leaf} w:=
 ⟨WR.start n a w ht,λ_ _ h=>nomatch h⟩
theorem cP.calls{C:kW} (j:zP C) {f:Nat} {args:List V} {h:Hp} {Δ:Env} {W:World} {ie:Array Value} (hb:∃fn c,P0.funcs[f]? =some fn/\fn.body=some c) (k:Rd Δ h W) (p:gW Δ args ie.toList)
  (hc:cP C f args h λv _=>v = .bool true):Calls P0 f ie W λe W'=>e = .returned (.bool true)/\Kept W W':=by
 obtain⟨v,h',⟨m,d,q⟩,rfl⟩:=hc;rcases Kt j m d f args _ _ _ Δ W ie q k.world p with⟨x,u,_⟩|⟨_,r⟩
 ·exfalso;obtain⟨fn,c,n,g⟩:=hb;have i:=j.named f fn n;have:(callFunc f ie).run P0 W = .ok (.enter f ie) W:=by
   simp only[callFunc,Lv,run_program,Pd,n,i,g,Option.isNone_some,wBM,if_false];rfl
  simp_all
 ·refine Calls.mono r λe w' s=>?_;obtain⟨w,x,rfl,o⟩:=s;have hx:=o.val;cases hx;exact⟨rfl,o.frame.kept λb hb=>(by obtain⟨l,d,t,a,_⟩:=hb;rw[k.ro l d t]at a;cases a)⟩
theorem Lk{H:Type} {enc:TypeId×Value->H} {W W':World} (e:laidOutB P0=true) (hk:Kept W W'):∀{a:List TypeId} {vs:List Value} {ds:List (DataW H)} {b:List MemPlace},
  (a.all λt=>P0.readableRec t&&decide (t<P0.types.size))=true->DataW.TrodAll enc P0 W 0 (λ_=>true) true a vs ds b->(∀p∈b,p.block<W.heap.size)->∀sp:Nat->Bool,(∀p∈b,sp p.block=true)->
  DataW.TrodAll enc P0 W' 0 sp true a vs ds b
 | [],_,_,_,_,h,_,_,_=>by
   obtain⟨rfl,rfl,rfl⟩:=trodAll_nil h
   exact rfl
 | t::a,_,_,_,hr,h,Nr,sp,hsp=>by
   obtain⟨v,vs,d,ds,p,q,rfl,rfl,rfl,f,g⟩:=trodAll_cons h;simp only[wBn,vU,zX]at hr;refine⟨p,q,?_,Lk e hk hr.2 g (by simp_all) sp (by simp_all),rfl⟩;have c:Below W.heap.size W {W' with tape:=W.tape}:=⟨hk.1,rfl,hk.2.1,hk.2.2.1,hk.2.2.2⟩
   have i:=WideElems.Trod_stays e hr.1.1 hr.1.2 f (λx hx=>c.same (by simp_all)) (sp':=sp) (by simp_all);exact DataW.Trod.of_heap (w:={W' with tape:=W.tape}) (w':=W') rfl i
open Go.ChangeShapes Go.WideShapes Go.RowKit
theorem LM{w:World} {base:Nat} {u:TypeId} {v:Value} (h:Cell.okWide P0 w .any base u v) (a:Addr) (len b:Nat) (hv:v = .slice (some a) len b):a.spot=none/\∃c e fr,w.heap[a.block]? =some (.cells c e fr):=by
 subst hv;have d:w.has P0 .any base a ((match P0.underlying u with|some (.slice e)=>e|_=>0)) b:=by
  unfold Cell.okWide at h;split at h
  case h_8=>
   unfold Cell.ok at h
   grind
  all_goals rename_i f
  all_goals cases f
 obtain⟨_,g,row,cells,i,_⟩:=d
 grind[World.shape?]
theorem TP{w:World} {base:Nat} {t:TypeId} {v:Value} (h:Value.okWide P0 w .any base t v):UT w v.cells.toList:=by
 intro a len b d;unfold Value.okWide at h;have one:Cell.okWide P0 w .any base t v->a.spot=none/\∃c e fr,w.heap[a.block]? =some (.cells c e fr):=by
  intro j;by_cases hv:∃cs,v = .agg cs
  ·obtain⟨cs,rfl⟩:=hv
   simp_all[Cell.okWide,Cell.ok]
  ·have hc:v.cells = #[v]:=by
    cases v <;> first|rfl|simp_all
   rw[hc]at d;obtain rfl:=Pl.1 d;exact LM j a len b rfl
 split at h
 ·obtain⟨cs,rfl,_,k,_,_,f⟩:=h;obtain⟨i,hi⟩:=mn.1 d;obtain⟨u,_,g⟩:=f i _ (by simpa[Value.cells]using hi);exact LM g a len b rfl
 ·obtain⟨cs,rfl,_,k,_,_,f⟩:=h;obtain⟨i,hi⟩:=mn.1 d;obtain⟨u,_,g⟩:=f i _ (by simpa[Value.cells]using hi);exact LM g a len b rfl
 simp_all
theorem yK.map{β:Type}   {e':qf β}  {a:β->Prop}  (c:yK t e ok fl) (g:α->β) (hs:e'.sz=e.sz) (f:∀b h x cs,e.rel b h x cs->ok x->e'.rel b h (g x) cs/\a (g x)):yK t e' a fl where
 cells:=by rw[c.cells,hs]
 lay:=by
  intro H enc w fuel cs d r Δ h i oS j;obtain⟨x,vs,k,h',l,m,n,o⟩:=c.lay i oS j;obtain⟨p,q⟩:=f _ _ _ _ m n;exact⟨g x,vs,k,h',l,p,q,o⟩
theorem yK.zgf  {fs:Array Field}    (c:yK t e ok fl) (f:P0.underlying t=some (.struct fs)) {H:Type} {enc:TypeId×Value->H} {w:World} {base:Nat} {v:Value} {d:DataW H} {g:List MemPlace} {Δ:Env} {h:Hp}
  (hv:Value.okWide P0 w .any base t v) (b:DataW.Trod enc P0 w 0 (λ_=>true) true t v d g) (i:Rd Δ h w) :
  ∃x vs a h',fZ a (.agg vs) v/\e.rel (lo h'.next) h' x vs/\ok x/\Rd a h' w/\Δ.le a/\Jp h h':=by
 obtain⟨fuel,b⟩:=b;obtain⟨x,vs,a,h',j,k⟩:=c.lay b (by grind[TP]) i;unfold Value.okWide at hv;rw[f]at hv;obtain⟨cs,rfl,_⟩:=hv;exact⟨x,vs,a,h',.agg _ _ j,k⟩
theorem yK.zbl{α:Type} {t:Nat} {e:qf α} {ok:α->Prop} {fl:Bool} (g:yK t e ok fl) {H:Type} {enc:TypeId×Value->H} {w:World} {base:Nat} {v:Value} {d:DataW H} {i:List MemPlace} {Δ:Env} {h:Hp}
  (hc:v.cells = #[v]) (hv:Value.okWide P0 w .any base t v) (b:DataW.Trod enc P0 w 0 (λ_=>true) true t v d i) (j:Rd Δ h w) :
  ∃x u a h',fZ a u v/\e.rel (lo h'.next) h' x [u]/\ok x/\Rd a h' w/\Δ.le a/\Jp h h':=by
 obtain⟨fuel,b⟩:=b;obtain⟨x,vs,a,h',f,k⟩:=g.lay b (by grind[TP]) j;rw[hc]at f
 cases f with
 | cons u _ l _ m c=>
   cases c
   grind
