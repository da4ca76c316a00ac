/- Parts. -/
import Derived.Test.YtpnddokajmjpbaaDoorM09
import Derived.ChangeArms
import Derived.Carry
namespace Go.Proofs.YtpnddokajmjpbaaDoor.Hx
def AllRo (Δ:Env):Prop:=∀l d,Δ l=some d->d.ro=true
def SlOk (w:World)(cs:List Value):Prop:=∀a len cap,Value.slice (some a) len cap∈cs->a.spot=none/\∃c e fr,w.heap[a.block]? =some (.cells c e fr)
theorem SlOk.sub{w:World}{cs ds:List Value}(h:SlOk w cs)(hs:∀x∈ds,x∈cs):SlOk w ds:=λa len cap b=>h a len cap (hs _ b)
structure Rd (Δ:Env) (h:Hp) (w:World):Prop where
 world:WR Δ h w
 ro:AllRo Δ
def addE (Δ:Env)(l:Nat)(d:D):Env:=λm=>if m=l then some d else Δ m
theorem Rd.add {Δ:Env} {h:Hp} {w:World} (f:Rd Δ h w) {b base sz ty:Nat} {c:Array Value} {e:TypeId} {fr:Nat×Nat} {cs:List V} (y:w.heap[b]? =some (.cells c e fr)) (hs:base+cs.length<=c.size)
  (hc:∀(i:Nat) (v:V),cs[i]? =some v->∃x,c[base+i]? =some x/\VRel Δ v x) :
  Rd (addE Δ h.next ⟨b,base,sz,cs.length,c.size,true,0⟩) (h.new (.cells ty sz true true cs)) w/\Δ.le (addE Δ h.next ⟨b,base,sz,cs.length,c.size,true,0⟩):=by
 have j:Δ.le (addE Δ h.next ⟨b,base,sz,cs.length,c.size,true,0⟩):=by
  intro l d a;unfold addE;rw[if_neg (by have:=f.world.fresh l d a;omega)];exact a
 have k:AllRo (addE Δ h.next ⟨b,base,sz,cs.length,c.size,true,0⟩):=by
  intro l d a;unfold addE at a;split at a
  ·cases a;rfl
  ·exact f.ro l d a
 refine⟨⟨⟨?_,?_,?_,?_,?_,?_,f.world.tab.step (λ_ _ _=>rfl) λl d a n=>(by rw[k l d a]at n;cases n)⟩,k⟩,j⟩
 ·intro l d a;unfold addE at a;split at a
  ·rename_i e;subst e;exact wAk _
  ·exact wB6 (f.world.fresh l d a)
 ·intro l d a;unfold addE at a;split at a
  ·cases a;exact(wAm.1 y).1
  ·exact f.world.blk l d a
 ·intro l d a;unfold addE at a;split at a
  ·rename_i q;subst q;cases a;exact⟨_,ef _ _,rfl,rfl,rfl,rfl,λ_=>⟨c,e,fr,y,rfl,λq=>(by cases q),hs,λi v hi=>let⟨x,m,r⟩:=hc i v hi;⟨x,m,r.mono j⟩⟩⟩
  ·obtain⟨o,p,r⟩:=f.world.obj l d a;exact⟨o,by rw[er _ (f.world.fresh l d a)];exact p,r.mono j⟩
 ·intro l A d B o D a s _ _ _ _ _ m;have n:=k l d a;have t:=k A B s;rcases m with m|m
  ·rw[n]at m;cases m
  ·rw[t]at m;cases m
 ·intro g o z p;have u:g<h.next:=wAO z f.world.gnext;rw[er _ u]at p;obtain⟨d,C,n,t⟩:=f.world.glob g o z p;exact⟨d,j _ _ C,n,t⟩
 ·exact wBX f.world.gnext
def Laid {α:Type} (e:Enc α) (ok:α->Prop) (w:World) (Δ:Env) (h:Hp) (cs:List Value):Prop:=
 ∃x vs a h',VsRel a vs cs/\e.rel (lo h'.next) h' x vs/\ok x/\Rd a h' w/\Δ.le a/\Grows h h'
structure Lays {α:Type} (t:Nat) (e:Enc α) (ok:α->Prop) (fl:Bool):Prop where
 cells:P0.cellsOf t=e.sz
 lay:∀{H:Type} {enc:TypeId×Value->H} {w:World} {fuel:Nat} {cs:List Value} {d:DataW H} {ps:List MemPlace} {Δ:Env} {h:Hp},
  DataW.trod enc P0 w 0 (λ_=>true) true fuel t cs=some (d,ps)->(fl=false->SlOk w cs)->Rd Δ h w->Laid e ok w Δ h cs
theorem Lays.int {t:Nat} {k:IntKind} (b:P0.underlying t=some (.int k)) (hc:P0.cellsOf t=1):Lays t (eI k) (λ_=>True) true where
 cells:=hc
 lay:=by
  intro H enc w fuel cs d ps Δ h c _ e;obtain⟨n,rfl,_,a⟩:=DataW.trod_int b c;refine⟨n,[.int k n],Δ,h,.one (.int _ _),⟨rfl,?_⟩,trivial,e,Env.le_refl _,.refl _ _⟩;simp only[Lit.wf,wAe]at a;revert a;cases k <;> simp[inK,IntKind.min,IntKind.max,IntKind.signed,IntKind.bits]
theorem Lays.bool {t:Nat} (a:P0.underlying t=some .bool) (hc:P0.cellsOf t=1):Lays t eB (λ_=>True) true where
 cells:=hc
 lay:=by
  intro H enc w fuel cs d ps Δ h c _ e;obtain⟨b,rfl,_⟩:=DataW.trod_bool a c;exact⟨b,[.bool b],Δ,h,.one (.bool _),rfl,trivial,e,Env.le_refl _,.refl _ _⟩
theorem Lays.str {t:Nat} (a:P0.underlying t=some .string) (hc:P0.cellsOf t=1):Lays t eS (λs=>s.length<=maxLen) true where
 cells:=hc
 lay:=by
  intro H enc w fuel cs d ps Δ h b _ c;obtain⟨s,rfl,_,hs⟩:=DataW.trod_string a b;exact⟨s.data.toList,[.str s.data.toList],Δ,h,.one (.str _),rfl,by simpa using hs,c,Env.le_refl _,.refl _ _⟩
def eU:Enc Unit where
 sz:=0
 rel _ _ _ cs:=cs=[]
 len h:=by rw[h];rfl
 one h:=by rw[h];rfl
 keep _ h:=h
 mono _ h:=h
structure LaysF {α:Type} (fs:List Field) (off:Nat) (e:Enc α) (ok:α->Prop) (fl:Bool):Prop where
 lay:∀{H:Type} {enc:TypeId×Value->H} {w:World} {fuel:Nat} {cs:List Value} {Δ:Env} {h:Hp},cs.length=off+e.sz->
  (∀f∈fs,∃x,DataW.trod enc P0 w 0 (λ_=>true) true fuel f.type ((cs.drop f.offset).take (P0.cellsOf f.type))=some x)->(fl=false->SlOk w cs)->Rd Δ h w->Laid e ok w Δ h (cs.drop off)
theorem LaysF.nil (off:Nat):LaysF [] off eU (λ_=>True) true where
 lay:=by
  intro H enc w fuel cs Δ h a _ _ b;have:cs.drop off=[]:=List.drop_of_length_le (by rw[a];exact wAF _);rw[this];exact⟨(),[],Δ,h,.nil,rfl,trivial,b,Env.le_refl _,.refl _ _⟩
theorem LaysF.cons {α β:Type} {f:Field} {fs:List Field} {off:Nat} {e:Enc α} {o:Enc β} {ok:α->Prop} {i:β->Prop} {fl j:Bool} (F:Lays f.type e ok fl) (K:f.offset=off) (q:LaysF fs (off+e.sz) o i j) :
  LaysF (f::fs) off (eP e o) (λx=>ok x.1/\i x.2) (fl&&j) where
 lay:=by
  intro H enc w fuel cs Δ h r G hs L;have s:cs.length=off+(e.sz+o.sz):=r;obtain⟨⟨d,p⟩,I⟩:=G f (.head _);have t:=λg M=>G g (.tail _ M);rw[K,F.cells]at I;obtain⟨x,vs,Q,R,u,v,k,z,m,A⟩:=F.lay I (λB=>SlOk.sub (hs (by rw[B];rfl)) λy N=>List.mem_of_mem_drop (wB4 N)) L;obtain⟨y,J,O,P,C,D,n,E,b,c⟩:=q.lay (by rw[s];omega) t (λB=>hs (by rw[B,Bool.and_false])) z;have a:cs.drop off=(cs.drop off).take e.sz++cs.drop (off+e.sz):=by rw[<-wBp,wA8]
  refine⟨(x,y),vs++J,O,P,?_,⟨vs,J,rfl,?_,D⟩,⟨k,n⟩,E,Env.le_trans m b,A.trans c⟩
  ·rw[a];exact(u.mono b).append C
  ·exact e.mono (Fu c.next) (e.keep (λl r=>c.keep l r (λh=>h)) v)
theorem Lays.struct {α:Type} {t:Nat} {fs:Array Field} {e:Enc α} {ok:α->Prop} {fl:Bool} (j:P0.underlying t=some (.struct fs)) (hc:P0.cellsOf t=e.sz) (k:LaysF fs.toList 0 e ok fl):Lays t e ok fl where
 cells:=hc
 lay:=by
  intro H enc w fuel cs d ps Δ h l hs m;obtain⟨xs,n,rfl,_,o,hlen,b⟩:=DataW.trod_struct j l;have:=k.lay (cs:=cs) (fuel:=n) (by rw[o,hc];omega) (λf c=>by
   obtain⟨i,hi⟩:=wAD.1 c;have a:fs[i]? =some f:=by simpa using hi
   have g:i<xs.length:=by rw[hlen];exact(wAm.1 a).1
   exact⟨xs[i],by rw[b i f a,wAA g]⟩) hs m
  rwa [wBT]at this
theorem DE {w:World} {a:Addr} {n:Nat} {l:List Value} (h:w.cells? 0 a n=some l):l.length=n/\∀i,i<n->w.cell? (a.add i)=l[i]?:=by
 unfold World.cells? at h;rw[if_pos (wA5 _)]at h;have c:∀(k:Nat) (b:List Nat) (l:List Value),b=List.range' k b.length->b.mapM (λi=>w.cell? (a.add i))=some l->l.length=b.length/\∀i,i<b.length->w.cell? (a.add (k+i))=l[i]?:=by
  intro k b
  induction b generalizing k with
  |nil=>intro l _ h;simp at h;subst h;exact⟨rfl,λi hi=>absurd hi (Nat.not_lt_zero _)⟩
  | cons j b g=>
    intro l f h;simp only[List.mapM_cons,Option.bind_eq_bind,wCB,Option.pure_def,Option.some.injEq]at h;obtain⟨x,m,xs,d,rfl⟩:=h;rw[wAX,List.range'_succ]at f;obtain⟨rfl,e⟩:=List.cons.inj f;obtain⟨o,p⟩:=g (j+1) xs e d;refine⟨by simp[o],λi hi=>?_⟩
    cases i with
    |zero=>simpa using m
    | succ i=>
      have:=p i (by simpa using hi);rw[show j+(i+1)=j+1+i by omega,this,wAj]
 have:=c 0 (List.range n) l (by rw[wBY,List.range_eq_range']) h;simpa using this
theorem Fv {w:World} {a:Addr} {n:Nat} {c:Array Value} {e:TypeId} {fr:Nat×Nat} (d:w.heap[a.block]? =some (.cells c e fr)) (hs:a.spot=none):w.cell? (a.add n)=c[a.off+n]?:=by
 obtain⟨b,o,s⟩:=a;simp only at hs d;subst hs;rw[jY];unfold World.cell?;simp only[d];rfl
theorem Fw (a:Addr) (n m:Nat) (hs:a.spot=none):(a.add n).add m=a.add (n+m):=by
 obtain⟨b,o,s⟩:=a;simp only at hs;subst hs;rw[jY,jY,jY,wBz]
theorem AZ {α:Type} {t:Nat} {e:Enc α} {ok:α->Prop} (z:Lays t e ok true) {H:Type} {enc:TypeId×Value->H} {w:World} {fuel:Nat} {a:Addr} {c:Array Value} {ty:TypeId} {fr:Nat×Nat}
  (O:w.heap[a.block]? =some (.cells c ty fr)) (hs:a.spot=none):∀(k g:Nat) {Δ:Env} {h:Hp},
  (∀i,g<=i->i<g+k->∃y,(w.cells? 0 (a.add (i*P0.cellsOf t)) (P0.cellsOf t)).bind (DataW.trod enc P0 w 0 (λ_=>true) true fuel t)=some y)->Rd Δ h w->
  ∃(xs:List α) (vs:List V) (A:Env) (h':Hp),xs.length=k/\vs.length=k*e.sz/\(∀(j:Nat) (v:V),vs[j]? =some v->∃x,c[a.off+g*e.sz+j]? =some x/\VRel A v x)/\Win e (lo h'.next) h' vs xs/\(∀x∈xs,ok x)/\
   Rd A h' w/\Δ.le A/\Grows h h'
 |0,g,Δ,h,_,hR=>⟨[],[],Δ,h,rfl,by simp,λj v n=>by simp at n,trivial,(λx R=>nomatch R),hR,Env.le_refl _,Chg.refl _ _⟩
 | k + 1,g,Δ,h,hm,hR=>by
   obtain⟨⟨d,p⟩,b⟩:=hm g (wAF _) (by omega);rw[wCB]at b;obtain⟨cs,B,S⟩:=b;obtain⟨C,hc⟩:=DE B;rw[z.cells]at C hc;obtain⟨x,u,X,T,D,o,q,E,r,F⟩:=z.lay S (λU=>by cases U) hR;obtain⟨xs,vs,W,P,G,I,J,K,s,L,f,m⟩:=AZ z O hs k (g+1) (λi T P=>hm i (by omega) (by omega)) E;have M:u.length=e.sz:=e.len o;refine⟨x::xs,u++vs,W,P,by simp[G],by simp[M,I,wBB];omega,?_,⟨u,vs,rfl,?_,K⟩,?_,L,Env.le_trans r f,F.trans m⟩
   ·intro j v n
    by_cases hj:j<u.length
    ·rw[wAd hj]at n
     obtain⟨y,b,N⟩:=D.get j v n;refine⟨y,?_,N.mono f⟩;have Q:=hc j (by omega);rw[Fw _ _ _ hs,Fv O hs]at Q;rw[wBz,Q];exact b
    ·rw[wAn (by omega)]at n
     obtain⟨y,b,N⟩:=J _ v n;refine⟨y,?_,N⟩;rw[<-b];congr 1;rw[wBB];omega
   ·exact e.mono (Fu m.next) (e.keep (λl C=>m.keep l C (λh=>h)) o)
   ·intro y b
    cases b with
    |head=>exact q
    |tail _ b=>exact s y b
theorem Lays.slice {α:Type} {t u:Nat} {e:Enc α} {ok:α->Prop} (Z:P0.underlying t=some (.slice u)) (hc:P0.cellsOf t=1) (O:Lays u e ok true) (hz:0<e.sz):Lays t (eL e) (λxs=>xs.length<=maxLen/\∀x∈xs,ok x) false where
 cells:=hc
 lay:=by
  intro H enc w fuel cs d ps Δ h hd hs P;rcases DataW.trod_slice Z hd with⟨rfl,_⟩|⟨a,len,cap,p,Q,n,rfl,rfl,_,_,q,R,S,k,f,_⟩
  ·exact⟨[],[.nilSlice],Δ,h,.one .nilSlice,⟨_,rfl,.nil⟩,⟨wA5 _,λx hx=>by cases hx⟩,P,Env.le_refl _,Chg.refl _ _⟩
  ·obtain ⟨aa,f⟩:=f rfl;obtain⟨g,c,ty,fr,B⟩:=hs rfl a len cap (.head _);obtain⟨xs,vs,Δ1,T,C,j,D,E,r,F,s,G⟩:=AZ O B g len 0 (λi _ hi=>⟨p[i]'(by omega),by rw[k i (by omega),wAA (by omega)]⟩) P;have l:∀i,i<cap->a.off+i*e.sz+e.sz<=c.size:=by
    intro i hi;have I:∃y,(w.cells? 0 (a.add (i*P0.cellsOf u)) (P0.cellsOf u)).bind (DataW.trod enc P0 w 0 (λ_=>true) true n u)=some y:=by
     by_cases hil:i<len
     ·exact⟨p[i]'(by omega),by rw[k i hil,wAA (by omega)]⟩
     ·have U:=f (i-len) (by omega);rw[show len+(i-len)=i by omega,wAA (by omega)]at U;exact⟨_,U⟩
    obtain⟨y,V⟩:=I;rw[wCB]at V;obtain⟨ds,J,_⟩:=V;obtain⟨h3,W⟩:=DE J;rw[O.cells]at h3 W;have X:=W (e.sz-1) (by omega);rw[Fw _ _ _ g,Fv B g,wAA (by omega)]at X;have:=(wAm.1 X).1;omega
   have K:cap*e.sz=(cap-1)*e.sz+e.sz\/cap=0:=by
    rcases Nat.eq_zero_or_pos cap with h|h
    ·exact .inr h
    ·left;rw[<-Nat.succ_mul];congr 1;omega
   have Y:len*e.sz<=cap*e.sz:=wB3 _ q;have m:∃o,(o=a.off/\0<cap)\/(o=0/\cap=0):=by
    by_cases h0:0<cap
    ·exact⟨a.off,.inl ⟨rfl,h0⟩⟩
    ·exact⟨0,.inr ⟨rfl,by omega⟩⟩
   obtain ⟨o,A⟩:=m;have L:o+vs.length<=c.size:=by
    rcases A with⟨rfl,h0⟩|⟨rfl,h0⟩
    ·have:=l (cap-1) (by omega);omega
    ·have:len=0:=by omega
     subst this;rw[j];omega
   obtain ⟨M,z⟩:=F.add (b:=a.block) (base:=o) (sz:=e.sz) (ty:=u) (cs:=vs) B L (λi v hi=>by
    rcases A with⟨rfl,h0⟩|⟨rfl,h0⟩
    ·have:=D i v hi;simpa using this
    ·have N:len=0:=by omega
     rw[N,Nat.zero_mul]at j;have:vs=[]:=wAf j;subst this;simp at hi)
   refine⟨xs,[.slice T.next 0 len],_,_,.one ?_,⟨_,rfl,?_⟩,⟨by omega,r⟩,M,Env.le_trans s z,G.trans (Chg.new _ _)⟩
   ·obtain ⟨ab,ao,sp⟩:=a;simp only at g l A⊢;subst g;refine .slice T.next 0 len cap ao ⟨ab,o,e.sz,vs.length,c.size,true,0⟩ (by unfold addE;rw[if_pos rfl]) rfl q ?_;rcases A with⟨rfl,h0⟩|⟨rfl,h0⟩
    ·left;have:=l (cap-1) (by omega);refine⟨rfl,?_,?_⟩
     ·simp only[wAY];omega
     ·simp only[wB0];omega
    ·right;refine⟨h0,?_⟩;have:len=0:=by omega
     subst this;simp only[j];omega
   ·rw[<-C];exact SlR.new E (wAF _)
open Go.ChangeShapes Go.WideShapes Go.RowKit
theorem Rd.start (n:Nat) (a:P0.globals.size<=n) (w:World) (b:TabOk (λ_=>none) w):Rd (λ_=>none) {next:=n,tr:= .leaf} w:=
 ⟨WR.start n a w b,λ_ _ h=>nomatch h⟩
theorem cP.calls {C:Cfg} (k:Facts C) {f:Nat} {args:List V} {h:Hp} {Δ:Env} {W:World} {args':Array Value} (g:∃fn c,P0.funcs[f]? =some fn/\fn.body=some c) (n:Rd Δ h W) (r:VsRel Δ args args'.toList)
  (hc:cP C f args h λv _=>v = .bool true):Calls P0 f args' W λe W'=>e = .returned (.bool true)/\Kept W W':=by
 obtain⟨v,h',⟨m,d,s⟩,rfl⟩:=hc;rcases zi k m d f args _ _ _ Δ W args' s n.world r with⟨x,o,_⟩|⟨_,t⟩
 ·exfalso;obtain⟨fn,c,p,i⟩:=g;have j:=k.named f fn p;have:(callFunc f args').run P0 W = .ok (.enter f args') W:=by
   simp only[callFunc,wAP,run_program,wAH,p,j,i,wCG,wAo,if_false];rfl
  rw[this]at o;cases o
 ·refine Calls.mono t λe w' u=>?_;obtain⟨z,x,rfl,q⟩:=u;have w:=q.val;cases w;exact⟨rfl,q.frame.kept λb g=>(by obtain⟨l,d,y,a,_⟩:=g;rw[n.ro l d y]at a;cases a)⟩
theorem zv {H:Type} {enc:TypeId×Value->H} {W W':World} (e:laidOutB P0=true) (b:Kept W W'):∀{ts:List TypeId} {vs:List Value} {ds:List (DataW H)} {ps:List MemPlace},
  (ts.all λt=>P0.readableRec t&&decide (t<P0.types.size))=true->DataW.TrodAll enc P0 W 0 (λ_=>true) true ts vs ds ps->(∀p∈ps,p.block<W.heap.size)->∀sp:Nat->Bool,(∀p∈ps,sp p.block=true)->
  DataW.TrodAll enc P0 W' 0 sp true ts vs ds ps
 | [],_,_,_,_,h,_,_,_=>by
   obtain⟨rfl,rfl,rfl⟩:=trodAll_nil h
   exact rfl
 | t::ts,_,_,_,hr,h,hlt,sp,hsp=>by
   obtain⟨v,vs,d,ds,p,q,rfl,rfl,rfl,f,g⟩:=trodAll_cons h;simp only[wCD,wAJ,wAe]at hr;refine⟨p,q,?_,zv e b hr.2 g (λx a=>hlt x (by simp[a])) sp (λx a=>hsp x (by simp[a])),rfl⟩;have c:Below W.heap.size W {W' with tape:=W.tape}:=⟨b.1,rfl,b.2.1,b.2.2.1,b.2.2.2⟩
   have i:=WideElems.Trod_stays e hr.1.1 hr.1.2 f (λx a=>c.same (hlt x (by simp[a]))) (sp':=sp) (λx a=>hsp x (by simp[a]));exact DataW.Trod.of_heap (w:={W' with tape:=W.tape}) (w':=W') rfl i
open Go.ChangeShapes Go.WideShapes Go.RowKit
theorem zW {w:World} {base:Nat} {u:TypeId} {v:Value} (h:Cell.okWide P0 w .any base u v) (a:Addr) (len cap:Nat) (f:v = .slice (some a) len cap):a.spot=none/\∃c e fr,w.heap[a.block]? =some (.cells c e fr):=by
 subst f;have g:w.has P0 .any base a ((match P0.underlying u with|some (.slice e)=>e|_=>0)) cap:=by
  unfold Cell.okWide at h;split at h
  case h_8=>
   unfold Cell.ok at h;split at h
   all_goals first
    |(exfalso;exact h)
    |skip
   all_goals rename_i i b
   all_goals first
    |(cases b;done)
    |skip
   all_goals (cases b;rw[i];exact h.2.2)
  all_goals rename_i b
  all_goals cases b
 obtain⟨_,j,row,cells,d,_⟩:=g;refine⟨j,?_⟩;unfold World.shape? at d;split at d
 ·rename_i c e fr k;exact⟨c,e,fr,k⟩
 ·cases d
theorem Ie {w:World} {base:Nat} {t:TypeId} {v:Value} (h:Value.okWide P0 w .any base t v):SlOk w v.cells.toList:=by
 intro a len cap d;unfold Value.okWide at h;have one:Cell.okWide P0 w .any base t v->a.spot=none/\∃c e fr,w.heap[a.block]? =some (.cells c e fr):=by
  intro b;by_cases hv:∃cs,v = .agg cs
  ·obtain ⟨cs,rfl⟩:=hv;exfalso;unfold Cell.okWide at b;split at b
   case h_8=>
    unfold Cell.ok at b;split at b
    all_goals first
     |(exact b)
     |(rename_i k f;cases f)
   all_goals (rename_i k f;cases f)
  ·have hc:v.cells = #[v]:=by
    cases v <;> first|rfl|(exact absurd ⟨_,rfl⟩ hv)
   rw[hc]at d;obtain rfl:=wAW.1 d;exact zW b a len cap rfl
 split at h
 ·obtain⟨cs,rfl,_,ts,_,_,g⟩:=h;obtain⟨i,hi⟩:=wAD.1 d;obtain⟨u,_,j⟩:=g i _ (by simpa[Value.cells]using hi);exact zW j a len cap rfl
 ·obtain⟨cs,rfl,_,ts,_,_,g⟩:=h;obtain⟨i,hi⟩:=wAD.1 d;obtain⟨u,_,j⟩:=g i _ (by simpa[Value.cells]using hi);exact zW j a len cap rfl
 ·exact one h
theorem Lays.map {α β:Type} {t:Nat} {e:Enc α} {c:Enc β} {ok:α->Prop} {a:β->Prop} {fl:Bool} (i:Lays t e ok fl) (g:α->β) (hs:c.sz=e.sz) (j:∀b h x cs,e.rel b h x cs->ok x->c.rel b h (g x) cs/\a (g x)):Lays t c a fl where
 cells:=by rw[i.cells,hs]
 lay:=by
  intro H enc w fuel cs d ps Δ h k f l;obtain⟨x,vs,m,h',n,o,p,q⟩:=i.lay k f l;obtain⟨r,s⟩:=j _ _ _ _ o p;exact⟨g x,vs,m,h',n,r,s,q⟩
theorem Lays.argS {α:Type} {t:Nat} {fs:Array Field} {e:Enc α} {ok:α->Prop} {fl:Bool} (f:Lays t e ok fl) (g:P0.underlying t=some (.struct fs)) {H:Type} {enc:TypeId×Value->H} {w:World} {base:Nat} {v:Value} {d:DataW H} {ps:List MemPlace} {Δ:Env} {h:Hp}
  (b:Value.okWide P0 w .any base t v) (c:DataW.Trod enc P0 w 0 (λ_=>true) true t v d ps) (i:Rd Δ h w) :
  ∃x vs a h',VRel a (.agg vs) v/\e.rel (lo h'.next) h' x vs/\ok x/\Rd a h' w/\Δ.le a/\Grows h h':=by
 obtain⟨fuel,c⟩:=c;obtain⟨x,vs,a,h',j,k⟩:=f.lay c (λ_=>Ie b) i;unfold Value.okWide at b;rw[g]at b;obtain⟨cs,rfl,_⟩:=b;exact⟨x,vs,a,h',.agg _ _ j,k⟩
