/- Parts. -/
import Derived.Test.YtpnddokajmjpbaaDoorM09
import Derived.ChangeArms
import Derived.Carry
namespace Go.Proofs.YtpnddokajmjpbaaDoor.Hx
def XW (Δ:Env):Prop:=∀l d,Δ l=some d->d.ro=true
def PC (w:World)(cs:List Value):Prop:=∀a len cap,Value.slice (some a) len cap∈cs->a.spot=none/\∃c e fr,w.heap[a.block]? =some (.cells c e fr)
theorem PC.sub{w:World}{cs ds:List Value}(h:PC w cs)(hs:∀x∈ds,x∈cs):PC w ds:=λa len cap b=>h a len cap (hs _ b)
structure Rd (Δ:Env) (h:Hp) (w:World):Prop where
 world:WR Δ h w
 ro:XW Δ
def Ll (Δ:Env)(l:Nat)(d:D):Env:=λm=>if m=l then some d else Δ m
theorem Rd.add {Δ:Env} {h:Hp} {w:World} (f:Rd Δ h w) {b base sz ty:Nat} {c:Array Value} {e:TypeId} {fr:Nat×Nat} {cs:List V} (hb:w.heap[b]? =some (.cells c e fr)) (hs:base+cs.length<=c.size)
  (hc:∀(i:Nat) (v:V),cs[i]? =some v->∃x,c[base+i]? =some x/\fI Δ v x) :
  Rd (Ll Δ h.next ⟨b,base,sz,cs.length,c.size,true,0⟩) (h.new (.cells ty sz true true cs)) w/\Δ.le (Ll Δ h.next ⟨b,base,sz,cs.length,c.size,true,0⟩):=by
 have j:Δ.le (Ll Δ h.next ⟨b,base,sz,cs.length,c.size,true,0⟩):=by
  intro l d a;unfold Ll;rw[if_neg (by have:=f.world.fresh l d a;omega)];exact a
 have k:XW (Ll Δ h.next ⟨b,base,sz,cs.length,c.size,true,0⟩):=by
  intro l d a;unfold Ll at a;split at a
  ·cases a;rfl
  ·exact f.ro l d a
 refine⟨⟨⟨?_,?_,?_,?_,?_,?_,f.world.Rg.step (λ_ _ _=>rfl) λl d a m=>(by rw[k l d a]at m;cases m)⟩,k⟩,j⟩
 ·intro l d a;unfold Ll at a;split at a
  ·rename_i e;subst e;exact IS _
  ·exact YZ (f.world.fresh l d a)
 ·intro l d a;unfold Ll at a;split at a
  ·cases a;exact(Rl.1 hb).1
  ·exact f.world.mS l d a
 ·intro l d a;unfold Ll at a;split at a
  ·rename_i p;subst p;cases a;exact⟨_,fg _ _,rfl,rfl,rfl,rfl,λ_=>⟨c,e,fr,hb,rfl,λp=>(by cases p),hs,λi v hi=>let⟨x,hx,q⟩:=hc i v hi;⟨x,hx,q.mono j⟩⟩⟩
  ·obtain⟨o,n,q⟩:=f.world.obj l d a;exact⟨o,by rw[fk _ (f.world.fresh l d a)];exact n,q.mono j⟩
 ·intro l y d z o B a r _ _ _ _ _ hx;have m:=k l d a;have s:=k y z r;rcases hx with hx|hx
  ·rw[m]at hx;cases hx
  ·rw[s]at hx;cases hx
 ·intro g o u n;have t:g<h.next:=Ac u f.world.xu;rw[fk _ t]at n;obtain⟨d,A,m,s⟩:=f.world.Fo g o u n;exact⟨d,j _ _ A,m,s⟩
 ·exact VL f.world.xu
def Laid {α:Type} (e:nQ α) (ok:α->Prop) (w:World) (Δ:Env) (h:Hp) (cs:List Value):Prop:=
 ∃x vs a h',gh a vs cs/\e.rel (lo h'.next) h' x vs/\ok x/\Rd a h' w/\Δ.le a/\Cq h h'
structure xd {α:Type} (t:Nat) (e:nQ α) (ok:α->Prop) (fl:Bool):Prop where
 cells:P0.cellsOf t=e.sz
 lay:∀{H:Type} {enc:TypeId×Value->H} {w:World} {fuel:Nat} {cs:List Value} {d:DataW H} {ps:List MemPlace} {Δ:Env} {h:Hp},
  DataW.trod enc P0 w 0 (λ_=>true) true fuel t cs=some (d,ps)->(fl=false->PC w cs)->Rd Δ h w->Laid e ok w Δ h cs
theorem xd.int {t:Nat} {k:IntKind} (b:P0.underlying t=some (.int k)) (hc:P0.cellsOf t=1):xd t (eI k) (λ_=>True) true where
 cells:=hc
 lay:=by
  intro H enc w fuel cs d ps Δ h c _ e;obtain⟨n,rfl,_,a⟩:=DataW.trod_int b c;refine⟨n,[.int k n],Δ,h,.one (.int _ _),⟨rfl,?_⟩,trivial,e,Env.le_refl _,.refl _ _⟩;simp only[Lit.wf,DY]at a;revert a;cases k <;> simp[Ux,IntKind.min,IntKind.max,IntKind.signed,IntKind.bits]
theorem xd.bool {t:Nat} (a:P0.underlying t=some .bool) (hc:P0.cellsOf t=1):xd t eB (λ_=>True) true where
 cells:=hc
 lay:=by
  intro H enc w fuel cs d ps Δ h c _ e;obtain⟨b,rfl,_⟩:=DataW.trod_bool a c;exact⟨b,[.bool b],Δ,h,.one (.bool _),rfl,trivial,e,Env.le_refl _,.refl _ _⟩
theorem xd.str {t:Nat} (a:P0.underlying t=some .string) (hc:P0.cellsOf t=1):xd t eS (λs=>s.length<=maxLen) true where
 cells:=hc
 lay:=by
  intro H enc w fuel cs d ps Δ h b _ c;obtain⟨s,rfl,_,hs⟩:=DataW.trod_string a b;exact⟨s.data.toList,[.str s.data.toList],Δ,h,.one (.str _),rfl,by simpa using hs,c,Env.le_refl _,.refl _ _⟩
def eU:nQ Unit where
 sz:=0
 rel _ _ _ cs:=cs=[]
 len h:=by rw[h];rfl
 one h:=by rw[h];rfl
 fc _ h:=h
 mono _ h:=h
structure ES {α:Type} (fs:List Field) (off:Nat) (e:nQ α) (ok:α->Prop) (fl:Bool):Prop where
 lay:∀{H:Type} {enc:TypeId×Value->H} {w:World} {fuel:Nat} {cs:List Value} {Δ:Env} {h:Hp},cs.length=off+e.sz->
  (∀f∈fs,∃x,DataW.trod enc P0 w 0 (λ_=>true) true fuel f.type ((cs.drop f.offset).take (P0.cellsOf f.type))=some x)->(fl=false->PC w cs)->Rd Δ h w->Laid e ok w Δ h (cs.drop off)
theorem ES.nil (off:Nat):ES [] off eU (λ_=>True) true where
 lay:=by
  intro H enc w fuel cs Δ h a _ _ b;have:cs.drop off=[]:=List.drop_of_length_le (by rw[a];exact iW _);rw[this];exact⟨(),[],Δ,h,.nil,rfl,trivial,b,Env.le_refl _,.refl _ _⟩
theorem ES.cons {α β:Type} {f:Field} {fs:List Field} {off:Nat} {e:nQ α} {o:nQ β} {ok:α->Prop} {i:β->Prop} {fl j:Bool} (F:xd f.type e ok fl) (K:f.offset=off) (q:ES fs (off+e.sz) o i j) :
  ES (f::fs) off (eP e o) (λx=>ok x.1/\i x.2) (fl&&j) where
 lay:=by
  intro H enc w fuel cs Δ h r G hs L;have s:cs.length=off+(e.sz+o.sz):=r;obtain⟨⟨d,p⟩,I⟩:=G f (.head _);have t:=λg M=>G g (.tail _ M);rw[K,F.cells]at I;obtain⟨x,vs,Q,R,u,v,k,z,m,A⟩:=F.lay I (λB=>PC.sub (hs (by rw[B];rfl)) λy N=>List.mem_of_mem_drop (ZX N)) L;obtain⟨y,J,O,P,C,D,n,E,b,c⟩:=q.lay (by rw[s];omega) t (λB=>hs (by rw[B,Bool.and_false])) z;have a:cs.drop off=(cs.drop off).take e.sz++cs.drop (off+e.sz):=by rw[<-V7,VM]
  refine⟨(x,y),vs++J,O,P,?_,⟨vs,J,rfl,?_,D⟩,⟨k,n⟩,E,Env.le_trans m b,A.trans c⟩
  ·rw[a];exact(u.mono b).append C
  ·exact e.mono (Q5 c.next) (e.fc (λl r=>c.fc l r (λh=>h)) v)
theorem xd.struct {α:Type} {t:Nat} {fs:Array Field} {e:nQ α} {ok:α->Prop} {fl:Bool} (j:P0.underlying t=some (.struct fs)) (hc:P0.cellsOf t=e.sz) (k:ES fs.toList 0 e ok fl):xd t e ok fl where
 cells:=hc
 lay:=by
  intro H enc w fuel cs d ps Δ h l hs m;obtain⟨xs,n,rfl,_,o,hlen,b⟩:=DataW.trod_struct j l;have:=k.lay (cs:=cs) (fuel:=n) (by rw[o,hc];omega) (λf c=>by
   obtain⟨i,hi⟩:=mA.1 c;have a:fs[i]? =some f:=by simpa using hi
   have g:i<xs.length:=by rw[hlen];exact(Rl.1 a).1
   exact⟨xs[i],by rw[b i f a,gQ g]⟩) hs m
  rwa [Ss]at this
theorem OQ {w:World} {a:Addr} {n:Nat} {l:List Value} (h:w.cells? 0 a n=some l):l.length=n/\∀i,i<n->w.cell? (a.add i)=l[i]?:=by
 unfold World.cells? at h;rw[if_pos (Gl _)]at h;have c:∀(k:Nat) (b:List Nat) (l:List Value),b=List.range' k b.length->b.mapM (λi=>w.cell? (a.add i))=some l->l.length=b.length/\∀i,i<b.length->w.cell? (a.add (k+i))=l[i]?:=by
  intro k b
  induction b generalizing k with
  |nil=>intro l _ h;simp at h;subst h;exact⟨rfl,λi hi=>absurd hi (Y5 _)⟩
  | cons j b g=>
    intro l f h;simp only[List.mapM_cons,Option.bind_eq_bind,wCD,Option.pure_def,Option.some.injEq]at h;obtain⟨x,hx,xs,d,rfl⟩:=h;rw[CM,List.range'_succ]at f;obtain⟨rfl,e⟩:=List.cons.inj f;obtain⟨m,o⟩:=g (j+1) xs e d;refine⟨by simp[m],λi hi=>?_⟩
    cases i with
    |zero=>simpa using hx
    | succ i=>
      have:=o i (by simpa using hi);rw[show j+(i+1)=j+1+i by omega,this,O8]
 have:=c 0 (List.range n) l (by rw[VO,List.range_eq_range']) h;simpa using this
theorem Q8 {w:World} {a:Addr} {n:Nat} {c:Array Value} {e:TypeId} {fr:Nat×Nat} (hb:w.heap[a.block]? =some (.cells c e fr)) (hs:a.spot=none):w.cell? (a.add n)=c[a.off+n]?:=by
 obtain⟨b,o,s⟩:=a;simp only at hs hb;subst hs;rw[nY];unfold World.cell?;simp only[hb];rfl
theorem add_add (a:Addr) (n m:Nat) (hs:a.spot=none):(a.add n).add m=a.add (n+m):=by
 obtain⟨b,o,s⟩:=a;simp only at hs;subst hs;rw[nY,nY,nY,Xy]
theorem KH {α:Type} {t:Nat} {e:nQ α} {ok:α->Prop} (u:xd t e ok true) {H:Type} {enc:TypeId×Value->H} {w:World} {fuel:Nat} {a:Addr} {c:Array Value} {ty:TypeId} {fr:Nat×Nat}
  (hb:w.heap[a.block]? =some (.cells c ty fr)) (hs:a.spot=none):∀(k g:Nat) {Δ:Env} {h:Hp},
  (∀i,g<=i->i<g+k->∃y,(w.cells? 0 (a.add (i*P0.cellsOf t)) (P0.cellsOf t)).bind (DataW.trod enc P0 w 0 (λ_=>true) true fuel t)=some y)->Rd Δ h w->
  ∃(xs:List α) (vs:List V) (z:Env) (h':Hp),xs.length=k/\vs.length=k*e.sz/\(∀(j:Nat) (v:V),vs[j]? =some v->∃x,c[a.off+g*e.sz+j]? =some x/\fI z v x)/\oU e (lo h'.next) h' vs xs/\(∀x∈xs,ok x)/\
   Rd z h' w/\Δ.le z/\Cq h h'
 |0,g,Δ,h,_,hR=>⟨[],[],Δ,h,rfl,by simp,λj v hv=>by simp at hv,trivial,(λx hx=>nomatch hx),hR,Env.le_refl _,jZ.refl _ _⟩
 | k + 1,g,Δ,h,hm,hR=>by
   obtain⟨⟨d,p⟩,b⟩:=hm g (iW _) (by omega);rw[wCD]at b;obtain⟨cs,A,P⟩:=b;obtain⟨B,hc⟩:=OQ A;rw[u.cells]at B hc;obtain⟨x,s,T,Q,C,n,o,D,q,E⟩:=u.lay P (λR=>by cases R) hR;obtain⟨xs,vs,S,N,F,G,I,J,r,K,f,m⟩:=KH u hb hs k (g+1) (λi Q N=>hm i (by omega) (by omega)) D;have L:s.length=e.sz:=e.len n;refine⟨x::xs,s++vs,S,N,by simp[F],by simp[L,G,JJ];omega,?_,⟨s,vs,rfl,?_,J⟩,?_,K,Env.le_trans q f,E.trans m⟩
   ·intro j v hv
    by_cases hj:j<s.length
    ·rw[Ns hj]at hv
     obtain⟨y,b,M⟩:=C.get j v hv;refine⟨y,?_,M.mono f⟩;have O:=hc j (by omega);rw[add_add _ _ _ hs,Q8 hb hs]at O;rw[Xy,O];exact b
    ·rw[Rr (by omega)]at hv
     obtain⟨y,b,M⟩:=I _ v hv;refine⟨y,?_,M⟩;rw[<-b];congr 1;rw[JJ];omega
   ·exact e.mono (Q5 m.next) (e.fc (λl B=>m.fc l B (λh=>h)) n)
   ·intro y b
    cases b with
    |head=>exact o
    |tail _ b=>exact r y b
theorem xd.slice {α:Type} {t u:Nat} {e:nQ α} {ok:α->Prop} (Y:P0.underlying t=some (.slice u)) (hc:P0.cellsOf t=1) (N:xd u e ok true) (hz:0<e.sz):xd t (eL e) (λxs=>xs.length<=maxLen/\∀x∈xs,ok x) false where
 cells:=hc
 lay:=by
  intro H enc w fuel cs d ps Δ h Z hs O;rcases DataW.trod_slice Y Z with⟨rfl,_⟩|⟨a,len,cap,p,P,n,rfl,rfl,_,_,q,Q,R,k,f,_⟩
  ·exact⟨[],[.ec],Δ,h,.one .ec,⟨_,rfl,.nil⟩,⟨Gl _,λx hx=>by cases hx⟩,O,Env.le_refl _,jZ.refl _ _⟩
  ·obtain ⟨aa,f⟩:=f rfl;obtain⟨g,c,ty,fr,hb⟩:=hs rfl a len cap (.head _);obtain⟨xs,vs,Δ1,S,B,j,C,D,r,E,s,F⟩:=KH N hb g len 0 (λi _ hi=>⟨p[i]'(by omega),by rw[k i (by omega),gQ (by omega)]⟩) O;have l:∀i,i<cap->a.off+i*e.sz+e.sz<=c.size:=by
    intro i hi;have G:∃y,(w.cells? 0 (a.add (i*P0.cellsOf u)) (P0.cellsOf u)).bind (DataW.trod enc P0 w 0 (λ_=>true) true n u)=some y:=by
     by_cases hil:i<len
     ·exact⟨p[i]'(by omega),by rw[k i hil,gQ (by omega)]⟩
     ·have T:=f (i-len) (by omega);rw[show len+(i-len)=i by omega,gQ (by omega)]at T;exact⟨_,T⟩
    obtain⟨y,U⟩:=G;rw[wCD]at U;obtain⟨ds,I,_⟩:=U;obtain⟨h3,V⟩:=OQ I;rw[N.cells]at h3 V;have W:=V (e.sz-1) (by omega);rw[add_add _ _ _ g,Q8 hb g,gQ (by omega)]at W;have:=(Rl.1 W).1;omega
   have J:cap*e.sz=(cap-1)*e.sz+e.sz\/cap=0:=by
    rcases Nat.eq_zero_or_pos cap with h|h
    ·exact .inr h
    ·left;rw[<-Nat.succ_mul];congr 1;omega
   have X:len*e.sz<=cap*e.sz:=wB6 _ q;have m:∃o,(o=a.off/\0<cap)\/(o=0/\cap=0):=by
    by_cases h0:0<cap
    ·exact⟨a.off,.inl ⟨rfl,h0⟩⟩
    ·exact⟨0,.inr ⟨rfl,by omega⟩⟩
   obtain ⟨o,A⟩:=m;have K:o+vs.length<=c.size:=by
    rcases A with⟨rfl,h0⟩|⟨rfl,h0⟩
    ·have:=l (cap-1) (by omega);omega
    ·have:len=0:=by omega
     subst this;rw[j];omega
   obtain ⟨L,z⟩:=E.add (b:=a.block) (base:=o) (sz:=e.sz) (ty:=u) (cs:=vs) hb K (λi v hi=>by
    rcases A with⟨rfl,h0⟩|⟨rfl,h0⟩
    ·have:=C i v hi;simpa using this
    ·have M:len=0:=by omega
     rw[M,Nat.zero_mul]at j;have:vs=[]:=Rf j;subst this;simp at hi)
   refine⟨xs,[.slice S.next 0 len],_,_,.one ?_,⟨_,rfl,?_⟩,⟨by omega,r⟩,L,Env.le_trans s z,F.trans (jZ.new _ _)⟩
   ·obtain ⟨ab,ao,sp⟩:=a;simp only at g l A⊢;subst g;refine .slice S.next 0 len cap ao ⟨ab,o,e.sz,vs.length,c.size,true,0⟩ (by unfold Ll;rw[if_pos rfl]) rfl q ?_;rcases A with⟨rfl,h0⟩|⟨rfl,h0⟩
    ·left;have:=l (cap-1) (by omega);refine⟨rfl,?_,?_⟩
     ·simp only[vI];omega
     ·simp only[VP];omega
    ·right;refine⟨h0,?_⟩;have:len=0:=by omega
     subst this;simp only[j];omega
   ·rw[<-B];exact ik.new D (iW _)
open Go.ChangeShapes Go.WideShapes Go.RowKit
theorem Rd.start (n:Nat) (a:P0.globals.size<=n) (w:World) (ht:AQ (λ_=>none) w):Rd (λ_=>none) {next:=n,tr:= .leaf} w:=
 ⟨WR.start n a w ht,λ_ _ h=>nomatch h⟩
theorem cP.calls {C:fu} (j:vt C) {f:Nat} {args:List V} {h:Hp} {Δ:Env} {W:World} {gq:Array Value} (hb:∃fn c,P0.funcs[f]? =some fn/\fn.body=some c) (k:Rd Δ h W) (q:gh Δ args gq.toList)
  (hc:cP C f args h λv _=>v = .bool true):Calls P0 f gq W λe W'=>e = .returned (.bool true)/\Kept W W':=by
 obtain⟨v,h',⟨m,d,r⟩,rfl⟩:=hc;rcases Gd j m d f args _ _ _ Δ W gq r k.world q with⟨x,n,_⟩|⟨_,s⟩
 ·exfalso;obtain⟨fn,c,o,g⟩:=hb;have i:=j.named f fn o;have:(callFunc f gq).run P0 W = .ok (.enter f gq) W:=by
   simp only[callFunc,pB,run_program,oD,o,i,g,wCI,Li,if_false];rfl
  rw[this]at n;cases n
 ·refine Calls.mono s λe w' t=>?_;obtain⟨w,x,rfl,p⟩:=t;have hx:=p.val;cases hx;exact⟨rfl,p.frame.kept λb hb=>(by obtain⟨l,d,u,a,_⟩:=hb;rw[k.ro l d u]at a;cases a)⟩
theorem G2 {H:Type} {enc:TypeId×Value->H} {W W':World} (c:laidOutB P0=true) (a:Kept W W'):∀{ts:List TypeId} {vs:List Value} {ds:List (DataW H)} {ps:List MemPlace},
  (ts.all λt=>P0.readableRec t&&decide (t<P0.types.size))=true->DataW.TrodAll enc P0 W 0 (λ_=>true) true ts vs ds ps->(∀p∈ps,p.block<W.heap.size)->∀sp:Nat->Bool,(∀p∈ps,sp p.block=true)->
  DataW.TrodAll enc P0 W' 0 sp true ts vs ds ps
 | [],_,_,_,_,h,_,_,_=>by
   obtain⟨rfl,rfl,rfl⟩:=trodAll_nil h
   exact rfl
 | t::ts,_,_,_,hr,h,IH,sp,hsp=>by
   obtain⟨v,vs,d,ds,p,q,rfl,rfl,rfl,e,f⟩:=trodAll_cons h;simp only[W7,tN,DY]at hr;refine⟨p,q,?_,G2 c a hr.2 f (λx hx=>IH x (by simp[hx])) sp (λx hx=>hsp x (by simp[hx])),rfl⟩;have b:Below W.heap.size W {W' with tape:=W.tape}:=⟨a.1,rfl,a.2.1,a.2.2.1,a.2.2.2⟩
   have g:=WideElems.Trod_stays c hr.1.1 hr.1.2 e (λx hx=>b.same (IH x (by simp[hx]))) (sp':=sp) (λx hx=>hsp x (by simp[hx]));exact DataW.Trod.of_heap (w:={W' with tape:=W.tape}) (w':=W') rfl g
open Go.ChangeShapes Go.WideShapes Go.RowKit
theorem Hc {w:World} {base:Nat} {u:TypeId} {v:Value} (h:Cell.okWide P0 w .any base u v) (a:Addr) (len cap:Nat) (hv:v = .slice (some a) len cap):a.spot=none/\∃c e fr,w.heap[a.block]? =some (.cells c e fr):=by
 subst hv;have f:w.has P0 .any base a ((match P0.underlying u with|some (.slice e)=>e|_=>0)) cap:=by
  unfold Cell.okWide at h;split at h
  case h_8=>
   unfold Cell.ok at h;split at h
   all_goals first
    |(exfalso;exact h)
    |skip
   all_goals rename_i g b
   all_goals first
    |(cases b;done)
    |skip
   all_goals (cases b;rw[g];exact h.2.2)
  all_goals rename_i b
  all_goals cases b
 obtain⟨_,i,row,cells,d,_⟩:=f;refine⟨i,?_⟩;unfold World.shape? at d;split at d
 ·rename_i c e fr j;exact⟨c,e,fr,j⟩
 ·cases d
theorem Vx {w:World} {base:Nat} {t:TypeId} {v:Value} (h:Value.okWide P0 w .any base t v):PC w v.cells.toList:=by
 intro a len cap d;unfold Value.okWide at h;have one:Cell.okWide P0 w .any base t v->a.spot=none/\∃c e fr,w.heap[a.block]? =some (.cells c e fr):=by
  intro b;by_cases hv:∃cs,v = .agg cs
  ·obtain ⟨cs,rfl⟩:=hv;exfalso;unfold Cell.okWide at b;split at b
   case h_8=>
    unfold Cell.ok at b;split at b
    all_goals first
     |(exact b)
     |(rename_i k f;cases f)
   all_goals (rename_i k f;cases f)
  ·have hc:v.cells = #[v]:=by
    cases v <;> first|rfl|(exact absurd ⟨_,rfl⟩ hv)
   rw[hc]at d;obtain rfl:=EB.1 d;exact Hc b a len cap rfl
 split at h
 ·obtain⟨cs,rfl,_,ts,_,_,g⟩:=h;obtain⟨i,hi⟩:=mA.1 d;obtain⟨u,_,j⟩:=g i _ (by simpa[Value.cells]using hi);exact Hc j a len cap rfl
 ·obtain⟨cs,rfl,_,ts,_,_,g⟩:=h;obtain⟨i,hi⟩:=mA.1 d;obtain⟨u,_,j⟩:=g i _ (by simpa[Value.cells]using hi);exact Hc j a len cap rfl
 ·exact one h
theorem xd.map {α β:Type} {t:Nat} {e:nQ α} {c:nQ β} {ok:α->Prop} {a:β->Prop} {fl:Bool} (i:xd t e ok fl) (g:α->β) (hs:c.sz=e.sz) (j:∀b h x cs,e.rel b h x cs->ok x->c.rel b h (g x) cs/\a (g x)):xd t c a fl where
 cells:=by rw[i.cells,hs]
 lay:=by
  intro H enc w fuel cs d ps Δ h k f l;obtain⟨x,vs,m,h',n,o,p,q⟩:=i.lay k f l;obtain⟨r,s⟩:=j _ _ _ _ o p;exact⟨g x,vs,m,h',n,r,s,q⟩
theorem xd.zbi {α:Type} {t:Nat} {fs:Array Field} {e:nQ α} {ok:α->Prop} {fl:Bool} (c:xd t e ok fl) (f:P0.underlying t=some (.struct fs)) {H:Type} {enc:TypeId×Value->H} {w:World} {base:Nat} {v:Value} {d:DataW H} {ps:List MemPlace} {Δ:Env} {h:Hp}
  (hv:Value.okWide P0 w .any base t v) (b:DataW.Trod enc P0 w 0 (λ_=>true) true t v d ps) (g:Rd Δ h w) :
  ∃x vs a h',fI a (.agg vs) v/\e.rel (lo h'.next) h' x vs/\ok x/\Rd a h' w/\Δ.le a/\Cq h h':=by
 obtain⟨fuel,b⟩:=b;obtain⟨x,vs,a,h',i,j⟩:=c.lay b (λ_=>Vx hv) g;unfold Value.okWide at hv;rw[f]at hv;obtain⟨cs,rfl,_⟩:=hv;exact⟨x,vs,a,h',.agg _ _ i,j⟩
