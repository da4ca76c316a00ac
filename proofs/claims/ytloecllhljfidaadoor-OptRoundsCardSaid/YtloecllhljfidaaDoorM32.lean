/- Parts. -/
import Derived.Test.YtloecllhljfidaaDoorM09
import Derived.ChangeArms
import Derived.Carry
set_option maxHeartbeats 4000000
namespace Go.Proofs.YtloecllhljfidaaDoor.Hx
def zae(Δ:Env):Prop:=∀l d,Δ l=some d->d.ro=true
def RI(w:World)(cs:List Value):Prop:=∀a len cap,Value.slice (some a) len cap∈cs->a.spot=none/\∃c e fr,w.heap[a.block]? =some (.cells c e fr)
theorem RI.sub{w:World}{cs ds:List Value}(h:RI w cs)(hs:∀x∈ds,x∈cs):RI w ds:=λa len cap b=>h a len cap (hs _ b)
structure Rd (Δ:Env) (h:Hp) (w:World):Prop where
 world:WR Δ h w
 ro:zae Δ
def Mr(Δ:Env)(l:Nat)(d:D):Env:=λm=>if m=l then some d else Δ m
theorem Rd.add{Δ:Env} {h:Hp} {w:World} (f:Rd Δ h w) {b base sz ty:Nat} {c:Array Value} {e:TypeId} {fr:Nat×Nat} {cs:List V} (hb:w.heap[b]? =some (.cells c e fr)) (hs:base+cs.length<=c.size)
  (hc:∀(i:Nat) (v:V),cs[i]? =some v->∃x,c[base+i]? =some x/\fG Δ v x) :
  Rd (Mr Δ h.next ⟨b,base,sz,cs.length,c.size,true,0⟩) (h.new (.cells ty sz true true cs)) w/\Δ.le (Mr Δ h.next ⟨b,base,sz,cs.length,c.size,true,0⟩):=by
 have j:Δ.le (Mr Δ h.next ⟨b,base,sz,cs.length,c.size,true,0⟩):=by
  intro l d a;unfold Mr;rw[if_neg (by have:=f.world.fresh l d a;omega)];exact a
 have k:zae (Mr Δ h.next ⟨b,base,sz,cs.length,c.size,true,0⟩):=by
  intro l d a;unfold Mr at a;split at a
  ·grind
  ·exact f.ro l d a
 refine⟨⟨⟨?_,?_,?_,?_,?_,?_,f.world.Tz.step (by simp_all) λl d a m=>(by rw[k l d a]at m;cases m)⟩,k⟩,j⟩
 ·intro l d a;unfold Mr at a;split at a
  ·simp_all
  ·exact wBi (f.world.fresh l d a)
 ·intro l d a;unfold Mr at a;split at a
  ·grind
  ·exact f.world.vf l d a
 ·intro l d a;unfold Mr at a;split at a
  ·rename_i u;subst u;cases a;exact⟨_,fi _ _,rfl,rfl,rfl,rfl,λ_=>⟨c,e,fr,hb,rfl,by simp_all,hs,λi v hi=>let⟨x,hx,p⟩:=hc i v hi;⟨x,hx,p.mono j⟩⟩⟩
  ·obtain⟨o,n,p⟩:=f.world.obj l d a;exact⟨o,by rw[fh _ (f.world.fresh l d a)];exact n,p.mono j⟩
 ·intro l y d d' o A a q _ _ _ _ _ hx;have m:=k l d a;have s:=k y d' q
  simp_all
 ·intro g o t n;have r:g<h.next:=BF t f.world.xd;rw[fh _ r]at n;obtain⟨d,z,m,s⟩:=f.world.GI g o t n;exact⟨d,j _ _ z,m,s⟩
 ·exact X8 f.world.xd
def Laid{α:Type} (e:o0 α) (ok:α->Prop) (w:World) (Δ:Env) (h:Hp) (cs:List Value):Prop:=∃x vs a h',gj a vs cs/\e.rel (lo h'.next) h' x vs/\ok x/\Rd a h' w/\Δ.le a/\E7 h h'
structure yr {α:Type} (t:Nat) (e:o0 α) (ok:α->Prop) (fl:Bool):Prop where
 cells:P0.cellsOf t=e.sz
 lay:∀{H:Type} {enc:TypeId×Value->H} {w:World} {fuel:Nat} {cs:List Value} {d:DataW H} {ps:List MemPlace} {Δ:Env} {h:Hp},
  DataW.trod enc P0 w 0 (λ_=>true) true fuel t cs=some (d,ps)->(fl=false->RI w cs)->Rd Δ h w->Laid e ok w Δ h cs
theorem yr.int{t:Nat} {k:IntKind} (b:P0.underlying t=some (.int k)) (hc:P0.cellsOf t=1):yr t (eI k) (λ_=>True) true where
 cells:=hc
 lay:=by
  intro H enc w fuel cs d ps Δ h c _ e;obtain⟨n,rfl,_,a⟩:=DataW.trod_int b c;refine⟨n,[.int k n],Δ,h,.one (.int _ _),⟨rfl,?_⟩,trivial,e,Env.le_refl _,.refl _ _⟩;simp only[Lit.wf,D1]at a;revert a;cases k <;> simp[Fx,IntKind.min,IntKind.max,IntKind.signed,IntKind.bits]
def eU:o0 Unit where
 sz:=0
 rel _ _ _ cs:=cs=[]
 len h:=by simp_all
 one h:=by simp_all
 fe _ h:=h
 mono _ h:=h
structure E9 {α:Type} (fs:List Field) (off:Nat) (e:o0 α) (ok:α->Prop) (fl:Bool):Prop where
 lay:∀{H:Type} {enc:TypeId×Value->H} {w:World} {fuel:Nat} {cs:List Value} {Δ:Env} {h:Hp},cs.length=off+e.sz->
  (∀f∈fs,∃x,DataW.trod enc P0 w 0 (λ_=>true) true fuel f.type ((cs.drop f.offset).take (P0.cellsOf f.type))=some x)->(fl=false->RI w cs)->Rd Δ h w->Laid e ok w Δ h (cs.drop off)
theorem E9.nil(off:Nat):E9 [] off eU (λ_=>True) true where
 lay:=by
  intro H enc w fuel cs Δ h a _ _ b;have:cs.drop off=[]:=List.drop_of_length_le (by rw[a];exact jb _);rw[this];exact⟨(),[],Δ,h,.nil,rfl,trivial,b,Env.le_refl _,.refl _ _⟩
theorem E9.cons{α β:Type} {f:Field} {fs:List Field} {off:Nat} {e:o0 α} {e':o0 β} {ok:α->Prop} {i:β->Prop} {fl j:Bool} (C:yr f.type e ok fl) (G:f.offset=off) (o:E9 fs (off+e.sz) e' i j) :
  E9 (f::fs) off (eP e e') (λx=>ok x.1/\i x.2) (fl&&j) where
 lay:=by
  intro H enc w fuel cs Δ h q D hs I;have J:cs.length=off+(e.sz+e'.sz):=q;obtain⟨⟨d,p⟩,E⟩:=D f (.head _);have r:=λg K=>D g (.tail _ K);rw[G,C.cells]at E;obtain⟨x,vs,N,O,s,t,k,u,m,v⟩:=C.lay E (by grind[RI.sub,List.mem_of_mem_drop,wBx]) I;obtain⟨y,F,L,M,z,A,n,B,b,c⟩:=o.lay (by omega) r (by simp_all) u;have a:cs.drop off=(cs.drop off).take e.sz++cs.drop (off+e.sz):=by rw[<-wBv,VY]
  refine⟨(x,y),vs++F,L,M,?_,⟨vs,F,rfl,?_,A⟩,⟨k,n⟩,B,Env.le_trans m b,v.trans c⟩
  ·rw[a];exact(s.mono b).append z
  ·exact e.mono (Oa c.next) (e.fe (λl q=>c.fe l q (λh=>h)) t)
theorem yr.struct{α:Type} {t:Nat} {fs:Array Field} {e:o0 α} {ok:α->Prop} {fl:Bool} (j:P0.underlying t=some (.struct fs)) (hc:P0.cellsOf t=e.sz) (k:E9 fs.toList 0 e ok fl):yr t e ok fl where
 cells:=hc
 lay:=by
  intro H enc w fuel cs d ps Δ h l hs m;obtain⟨xs,n,rfl,_,o,hlen,b⟩:=DataW.trod_struct j l;have:=k.lay (cs:=cs) (fuel:=n) (by omega) (λf c=>by
   obtain⟨i,hi⟩:=mr.1 c;have a:fs[i]? =some f:=by simpa using hi
   have g:i<xs.length:=by rw[hlen];exact(Wt.1 a).1
   exact⟨xs[i],by rw[b i f a,g0 g]⟩) hs m
  simp_all
theorem QL{w:World} {a:Addr} {n:Nat} {l:List Value} (h:w.cells? 0 a n=some l):l.length=n/\∀i,i<n->w.cell? (a.add i)=l[i]?:=by
 unfold World.cells? at h;rw[if_pos (Jw _)]at h;have c:∀(k:Nat) (b:List Nat) (l:List Value),b=List.range' k b.length->b.mapM (λi=>w.cell? (a.add i))=some l->l.length=b.length/\∀i,i<b.length->w.cell? (a.add (k+i))=l[i]?:=by
  intro k b
  induction b generalizing k with
  |nil=>simp_all
  | cons j b f=>
    intro l d h;simp only[List.mapM_cons,Option.bind_eq_bind,wB1,Option.pure_def,Option.some.injEq]at h;obtain⟨x,hx,xs,e,rfl⟩:=h;rw[Pb,List.range'_succ]at d
    grind
 grind[List.range,SB,List.range_eq_range']
theorem TJ{w:World} {a:Addr} {n:Nat} {c:Array Value} {e:TypeId} {fr:Nat×Nat} (hb:w.heap[a.block]? =some (.cells c e fr)) (hs:a.spot=none):w.cell? (a.add n)=c[a.off+n]?:=by
 obtain⟨b,o,s⟩:=a
 grind[rl,World.cell?]
theorem add_add(a:Addr) (n m:Nat) (hs:a.spot=none):(a.add n).add m=a.add (n+m):=by
 obtain⟨b,o,s⟩:=a
 grind[rl,Nat.add_assoc]
theorem L6{α:Type} {t:Nat} {e:o0 α} {ok:α->Prop} (q:yr t e ok true) {H:Type} {enc:TypeId×Value->H} {w:World} {fuel:Nat} {a:Addr} {c:Array Value} {ty:TypeId} {fr:Nat×Nat}
  (hb:w.heap[a.block]? =some (.cells c ty fr)) (hs:a.spot=none):∀(k f:Nat) {Δ:Env} {h:Hp},
  (∀i,f<=i->i<f+k->∃y,(w.cells? 0 (a.add (i*P0.cellsOf t)) (P0.cellsOf t)).bind (DataW.trod enc P0 w 0 (λ_=>true) true fuel t)=some y)->Rd Δ h w->
  ∃(xs:List α) (vs:List V) (r:Env) (h':Hp),xs.length=k/\vs.length=k*e.sz/\(∀(j:Nat) (v:V),vs[j]? =some v->∃x,c[a.off+f*e.sz+j]? =some x/\fG r v x)/\pd e (lo h'.next) h' vs xs/\(∀x∈xs,ok x)/\
   Rd r h' w/\Δ.le r/\E7 h h'
 |0,f,Δ,h,_,hR=>⟨[],[],Δ,h,rfl,by simp,by simp_all,trivial,(by simp_all),hR,Env.le_refl _,lO.refl _ _⟩
 | k + 1,f,Δ,h,hm,hR=>by
   obtain⟨⟨d,p⟩,s⟩:=hm f (jb _) (by omega);rw[wB1]at s;obtain⟨cs,u,J⟩:=s;obtain⟨z,hc⟩:=QL u;rw[q.cells]at z hc;obtain⟨x,o,S,K,A,m,F,B,n,C⟩:=q.lay J (by simp_all) hR;obtain⟨xs,vs,L,G,M,N,O,D,I,E,b,g⟩:=L6 q hb hs k (f+1) (λi K G=>hm i (by omega) (by omega)) B;have P:o.length=e.sz:=e.len m;refine⟨x::xs,o++vs,L,G,by simp_all,by grind,?_,⟨o,vs,rfl,?_,D⟩,?_,E,Env.le_trans n b,C.trans g⟩
   ·intro j v hv
    by_cases hj:j<o.length
    ·rw[Vb hj]at hv
     obtain⟨y,s,Q⟩:=A.get j v hv;refine⟨y,?_,Q.mono b⟩;have R:=hc j (by omega);rw[add_add _ _ _ hs,TJ hb hs]at R
     grind
    grind
   ·exact e.mono (Oa g.next) (e.fe (λl z=>g.fe l z (λh=>h)) m)
   simp_all
theorem yr.slice{α:Type} {t u:Nat} {e:o0 α} {ok:α->Prop} (T:P0.underlying t=some (.slice u)) (hc:P0.cellsOf t=1) (J:yr u e ok true) (hz:0<e.sz):yr t (eL e) (λxs=>xs.length<=maxLen/\∀x∈xs,ok x) false where
 cells:=hc
 lay:=by
  intro H enc w fuel cs d ps Δ h U hs K;rcases DataW.trod_slice T U with⟨rfl,_⟩|⟨a,len,cap,s,L,n,rfl,rfl,_,_,l,M,N,m,f,_⟩
  ·exact⟨[],[.ee],Δ,h,.one .ee,⟨_,rfl,.nil⟩,by simp_all,K,Env.le_refl _,lO.refl _ _⟩
  ·obtain ⟨V,f⟩:=f rfl;obtain⟨g,c,ty,fr,hb⟩:=hs rfl a len cap (.head _);obtain⟨xs,vs,Δ1,O,v,W,X,z,p,A,q,B⟩:=L6 J hb g len 0 (λi _ hi=>⟨s[i]'(by omega),by rw[m i (by omega),g0 (by omega)]⟩) K;have j:∀i,i<cap->a.off+i*e.sz+e.sz<=c.size:=by
    intro i hi;have C:∃y,(w.cells? 0 (a.add (i*P0.cellsOf u)) (P0.cellsOf u)).bind (DataW.trod enc P0 w 0 (λ_=>true) true n u)=some y:=by
     by_cases hil:i<len
     ·simp_all
     ·have h2:=f (i-len) (by omega)
      grind
    obtain⟨y,P⟩:=C;rw[wB1]at P;obtain⟨ds,D,_⟩:=P;obtain⟨Y,Q⟩:=QL D;rw[J.cells]at Y Q;have R:=Q (e.sz-1) (by omega);rw[add_add _ _ _ g,TJ hb g,g0 (by omega)]at R;have:=(Wt.1 R).1;omega
   have E:cap*e.sz=(cap-1)*e.sz+e.sz\/cap=0:=by
    rcases Nat.eq_zero_or_pos cap with h|h
    ·exact .inr h
    ·left;rw[<-Nat.succ_mul];congr 1;omega
   have S:len*e.sz<=cap*e.sz:=wBw _ l;have k:∃o,(o=a.off/\0<cap)\/(o=0/\cap=0):=by
    by_cases h0:0<cap
    ·simp_all
    ·simp_all
   obtain ⟨o,F⟩:=k;have G:o+vs.length<=c.size:=by
    rcases F with⟨rfl,h0⟩|⟨rfl,h0⟩
    ·have:=j (cap-1) (by omega);omega
    ·simp_all
   obtain⟨I,r⟩:=A.add (b:=a.block) (base:=o) (sz:=e.sz) (ty:=u) (cs:=vs) hb G (by grind);refine⟨xs,[.slice O.next 0 len],_,_,.one ?_,⟨_,rfl,?_⟩,⟨by omega,p⟩,I,Env.le_trans q r,B.trans (lO.new _ _)⟩
   ·obtain ⟨Z,ao,sp⟩:=a;simp only at g j F⊢;subst g;refine .slice O.next 0 len cap ao ⟨Z,o,e.sz,vs.length,c.size,true,0⟩ (by unfold Mr;simp_all) rfl l ?_;rcases F with⟨rfl,h0⟩|⟨rfl,h0⟩
    ·left;have:=j (cap-1) (by omega)
     grind
    simp_all
   ·rw[<-v];exact iG.new z (jb _)
open Go.ChangeShapes Go.WideShapes Go.RowKit
theorem Rd.start(n:Nat) (a:P0.globals.size<=n) (w:World) (ht:An (λ_=>none) w):Rd (λ_=>none) {next:=n,tr:= .leaf} w:=
 ⟨WR.start n a w ht,λ_ _ h=>nomatch h⟩
theorem cP.calls{C:fm} (j:uY C) {f:Nat} {args:List V} {h:Hp} {Δ:Env} {W:World} {gB:Array Value} (hb:∃fn c,P0.funcs[f]? =some fn/\fn.body=some c) (k:Rd Δ h W) (p:gj Δ args gB.toList)
  (hc:cP C f args h λv _=>v = .bool true):Calls P0 f gB W λe W'=>e = .returned (.bool true)/\Kept W W':=by
 obtain⟨v,h',⟨m,d,q⟩,rfl⟩:=hc;rcases HR j m d f args _ _ _ Δ W gB q k.world p with⟨x,u,_⟩|⟨_,r⟩
 ·exfalso;obtain⟨fn,c,n,g⟩:=hb;have i:=j.named f fn n;have:(callFunc f gB).run P0 W = .ok (.enter f gB) W:=by
   simp only[callFunc,uG,run_program,tn,n,i,g,wB6,O8,if_false];rfl
  simp_all
 ·refine Calls.mono r λe w' s=>?_;obtain⟨w,x,rfl,o⟩:=s;have hx:=o.val;cases hx;exact⟨rfl,o.frame.kept λb hb=>(by obtain⟨l,d,t,a,_⟩:=hb;rw[k.ro l d t]at a;cases a)⟩
theorem GZ{H:Type} {enc:TypeId×Value->H} {W W':World} (c:laidOutB P0=true) (hk:Kept W W'):∀{a:List TypeId} {vs:List Value} {ds:List (DataW H)} {ps:List MemPlace},
  (a.all λt=>P0.readableRec t&&decide (t<P0.types.size))=true->DataW.TrodAll enc P0 W 0 (λ_=>true) true a vs ds ps->(∀p∈ps,p.block<W.heap.size)->∀sp:Nat->Bool,(∀p∈ps,sp p.block=true)->
  DataW.TrodAll enc P0 W' 0 sp true a vs ds ps
 | [],_,_,_,_,h,_,_,_=>by
   obtain⟨rfl,rfl,rfl⟩:=trodAll_nil h
   exact rfl
 | t::a,_,_,_,hr,h,Mw,sp,hsp=>by
   obtain⟨v,vs,d,ds,p,q,rfl,rfl,rfl,e,f⟩:=trodAll_cons h;simp only[Y9,uF,D1]at hr;refine⟨p,q,?_,GZ c hk hr.2 f (by simp_all) sp (by simp_all),rfl⟩;have b:Below W.heap.size W {W' with tape:=W.tape}:=⟨hk.1,rfl,hk.2.1,hk.2.2.1,hk.2.2.2⟩
   have g:=WideElems.Trod_stays c hr.1.1 hr.1.2 e (λx hx=>b.same (by simp_all)) (sp':=sp) (by simp_all);exact DataW.Trod.of_heap (w:={W' with tape:=W.tape}) (w':=W') rfl g
open Go.ChangeShapes Go.WideShapes Go.RowKit
theorem Iy{w:World} {base:Nat} {u:TypeId} {v:Value} (h:Cell.okWide P0 w .any base u v) (a:Addr) (len cap:Nat) (hv:v = .slice (some a) len cap):a.spot=none/\∃c e fr,w.heap[a.block]? =some (.cells c e fr):=by
 subst hv;have b:w.has P0 .any base a ((match P0.underlying u with|some (.slice e)=>e|_=>0)) cap:=by
  unfold Cell.okWide at h;split at h
  case h_8=>
   unfold Cell.ok at h
   grind
  all_goals rename_i d
  all_goals cases d
 obtain⟨_,f,row,cells,g,_⟩:=b
 grind[World.shape?]
theorem Q2{w:World} {base:Nat} {t:TypeId} {v:Value} (h:Value.okWide P0 w .any base t v):RI w v.cells.toList:=by
 intro a len cap b;unfold Value.okWide at h;have one:Cell.okWide P0 w .any base t v->a.spot=none/\∃c e fr,w.heap[a.block]? =some (.cells c e fr):=by
  intro g;by_cases hv:∃cs,v = .agg cs
  ·obtain⟨cs,rfl⟩:=hv
   simp_all[Cell.okWide,Cell.ok]
  ·have hc:v.cells = #[v]:=by
    cases v <;> first|rfl|simp_all
   rw[hc]at b;obtain rfl:=Me.1 b;exact Iy g a len cap rfl
 split at h
 ·obtain⟨cs,rfl,_,j,_,_,d⟩:=h;obtain⟨i,hi⟩:=mr.1 b;obtain⟨u,_,f⟩:=d i _ (by simpa[Value.cells]using hi);exact Iy f a len cap rfl
 ·obtain⟨cs,rfl,_,j,_,_,d⟩:=h;obtain⟨i,hi⟩:=mr.1 b;obtain⟨u,_,f⟩:=d i _ (by simpa[Value.cells]using hi);exact Iy f a len cap rfl
 simp_all
theorem yr.map{α β:Type} {t:Nat} {e:o0 α} {e':o0 β} {ok:α->Prop} {a:β->Prop} {fl:Bool} (f:yr t e ok fl) (g:α->β) (hs:e'.sz=e.sz) (i:∀b h x cs,e.rel b h x cs->ok x->e'.rel b h (g x) cs/\a (g x)):yr t e' a fl where
 cells:=by rw[f.cells,hs]
 lay:=by
  intro H enc w fuel cs d ps Δ h j c k;obtain⟨x,vs,l,h',m,n,o,p⟩:=f.lay j c k;obtain⟨q,r⟩:=i _ _ _ _ n o;exact⟨g x,vs,l,h',m,q,r,p⟩
theorem yr.zda{α:Type} {t:Nat} {fs:Array Field} {e:o0 α} {ok:α->Prop} {fl:Bool} (c:yr t e ok fl) (f:P0.underlying t=some (.struct fs)) {H:Type} {enc:TypeId×Value->H} {w:World} {base:Nat} {v:Value} {d:DataW H} {ps:List MemPlace} {Δ:Env} {h:Hp}
  (hv:Value.okWide P0 w .any base t v) (b:DataW.Trod enc P0 w 0 (λ_=>true) true t v d ps) (g:Rd Δ h w) :
  ∃x vs a h',fG a (.agg vs) v/\e.rel (lo h'.next) h' x vs/\ok x/\Rd a h' w/\Δ.le a/\E7 h h':=by
 obtain⟨fuel,b⟩:=b;obtain⟨x,vs,a,h',i,j⟩:=c.lay b (by grind[Q2]) g;unfold Value.okWide at hv;rw[f]at hv;obtain⟨cs,rfl,_⟩:=hv;exact⟨x,vs,a,h',.agg _ _ i,j⟩
theorem yr.zcX{α:Type} {t:Nat} {e:o0 α} {ok:α->Prop} {fl:Bool} (g:yr t e ok fl) {H:Type} {enc:TypeId×Value->H} {w:World} {base:Nat} {v:Value} {d:DataW H} {ps:List MemPlace} {Δ:Env} {h:Hp}
  (hc:v.cells = #[v]) (hv:Value.okWide P0 w .any base t v) (b:DataW.Trod enc P0 w 0 (λ_=>true) true t v d ps) (i:Rd Δ h w) :
  ∃x u a h',fG a u v/\e.rel (lo h'.next) h' x [u]/\ok x/\Rd a h' w/\Δ.le a/\E7 h h':=by
 obtain⟨fuel,b⟩:=b;obtain⟨x,vs,a,h',f,j⟩:=g.lay b (by grind[Q2]) i;rw[hc]at f
 cases f with
 | cons u _ k _ l c=>
   cases c
   grind
