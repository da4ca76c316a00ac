/- Parts. -/
import Derived.Test.YtjgjgngfjopaaaaDoorM09
import Derived.ChangeArms
import Derived.Carry
namespace Go.Proofs.YtjgjgngfjopaaaaDoor.Hx
def zat(Δ:Env):Prop:=∀l d,Δ l=some d->d.ro=true
def RU(w:World)(cs:List Value):Prop:=∀a len cap,Value.slice (some a) len cap∈cs->a.spot=none/\∃c e fr,w.heap[a.block]? =some (.cells c e fr)
theorem RU.sub{w:World}{cs ds:List Value}(h:RU w cs)(hs:∀x∈ds,x∈cs):RU w ds:=λa len cap b=>h a len cap (hs _ b)
structure Rd (Δ:Env) (h:Hp) (w:World):Prop where
 world:WR Δ h w
 ro:zat Δ
def Nj(Δ:Env)(l:Nat)(d:D):Env:=λm=>if m=l then some d else Δ m
theorem Rd.add{Δ:Env} {h:Hp} {w:World} (f:Rd Δ h w) {b base sz ty:Nat} {c:Array Value} {e:TypeId} {fr:Nat×Nat} {cs:List V} (y:w.heap[b]? =some (.cells c e fr)) (hs:base+cs.length<=c.size)
  (hc:∀(i:Nat) (v:V),cs[i]? =some v->∃x,c[base+i]? =some x/\fM Δ v x) :
  Rd (Nj Δ h.next ⟨b,base,sz,cs.length,c.size,true,0⟩) (h.new (.cells ty sz true true cs)) w/\Δ.le (Nj Δ h.next ⟨b,base,sz,cs.length,c.size,true,0⟩):=by
 have j:Δ.le (Nj Δ h.next ⟨b,base,sz,cs.length,c.size,true,0⟩):=by
  intro l d a;unfold Nj;rw[if_neg (by have:=f.world.fresh l d a;omega)];exact a
 have k:zat (Nj Δ h.next ⟨b,base,sz,cs.length,c.size,true,0⟩):=by
  intro l d a;unfold Nj at a;split at a
  ·cases a;rfl
  ·exact f.ro l d a
 refine⟨⟨⟨?_,?_,?_,?_,?_,?_,f.world.Ts.step (λ_ _ _=>rfl) λl d a n=>(by rw[k l d a]at n;cases n)⟩,k⟩,j⟩
 ·intro l d a;unfold Nj at a;split at a
  ·rename_i e;subst e;exact KX _
  ·exact wCB (f.world.fresh l d a)
 ·intro l d a;unfold Nj at a;split at a
  ·cases a;exact(SR.1 y).1
  ·exact f.world.nW l d a
 ·intro l d a;unfold Nj at a;split at a
  ·rename_i q;subst q;cases a;exact⟨_,fi _ _,rfl,rfl,rfl,rfl,λ_=>⟨c,e,fr,y,rfl,λq=>(by cases q),hs,λi v hi=>let⟨x,m,r⟩:=hc i v hi;⟨x,m,r.mono j⟩⟩⟩
  ·obtain⟨o,p,r⟩:=f.world.obj l d a;exact⟨o,by rw[fo _ (f.world.fresh l d a)];exact p,r.mono j⟩
 ·intro l A d B o D a s _ _ _ _ _ m;have n:=k l d a;have t:=k A B s;rcases m with m|m
  ·rw[n]at m;cases m
  ·rw[t]at m;cases m
 ·intro g o z p;have u:g<h.next:=BL z f.world.yJ;rw[fo _ u]at p;obtain⟨d,C,n,t⟩:=f.world.HL g o z p;exact⟨d,j _ _ C,n,t⟩
 ·exact X6 f.world.yJ
def Laid{α:Type} (e:qA α) (ok:α->Prop) (w:World) (Δ:Env) (h:Hp) (cs:List Value):Prop:=∃x vs a h',gM a vs cs/\e.rel (lo h'.next) h' x vs/\ok x/\Rd a h' w/\Δ.le a/\GP h h'
structure xD {α:Type} (t:Nat) (e:qA α) (ok:α->Prop) (fl:Bool):Prop where
 cells:P0.cellsOf t=e.sz
 lay:∀{H:Type} {enc:TypeId×Value->H} {w:World} {fuel:Nat} {cs:List Value} {d:DataW H} {ps:List MemPlace} {Δ:Env} {h:Hp},
  DataW.trod enc P0 w 0 (λ_=>true) true fuel t cs=some (d,ps)->(fl=false->RU w cs)->Rd Δ h w->Laid e ok w Δ h cs
theorem xD.int{t:Nat} {k:IntKind} (b:P0.underlying t=some (.int k)) (hc:P0.cellsOf t=1):xD t (eI k) (λ_=>True) true where
 cells:=hc
 lay:=by
  intro H enc w fuel cs d ps Δ h c _ e;obtain⟨n,rfl,_,a⟩:=DataW.trod_int b c;refine⟨n,[.int k n],Δ,h,.one (.int _ _),⟨rfl,?_⟩,trivial,e,Env.le_refl _,.refl _ _⟩;simp only[Lit.wf,AW]at a;revert a;cases k <;> simp[tH,IntKind.min,IntKind.max,IntKind.signed,IntKind.bits]
def eU:qA Unit where
 sz:=0
 rel _ _ _ cs:=cs=[]
 len h:=by rw[h];rfl
 one h:=by rw[h];rfl
 fk _ h:=h
 mono _ h:=h
structure Hb {α:Type} (fs:List Field) (off:Nat) (e:qA α) (ok:α->Prop) (fl:Bool):Prop where
 lay:∀{H:Type} {enc:TypeId×Value->H} {w:World} {fuel:Nat} {cs:List Value} {Δ:Env} {h:Hp},cs.length=off+e.sz->
  (∀f∈fs,∃x,DataW.trod enc P0 w 0 (λ_=>true) true fuel f.type ((cs.drop f.offset).take (P0.cellsOf f.type))=some x)->(fl=false->RU w cs)->Rd Δ h w->Laid e ok w Δ h (cs.drop off)
theorem Hb.nil(off:Nat):Hb [] off eU (λ_=>True) true where
 lay:=by
  intro H enc w fuel cs Δ h a _ _ b;have:cs.drop off=[]:=List.drop_of_length_le (by rw[a];exact jj _);rw[this];exact⟨(),[],Δ,h,.nil,rfl,trivial,b,Env.le_refl _,.refl _ _⟩
theorem Hb.cons{α β:Type} {f:Field} {fs:List Field} {off:Nat} {e:qA α} {o:qA β} {ok:α->Prop} {i:β->Prop} {fl j:Bool} (F:xD f.type e ok fl) (K:f.offset=off) (q:Hb fs (off+e.sz) o i j) :
  Hb (f::fs) off (eP e o) (λx=>ok x.1/\i x.2) (fl&&j) where
 lay:=by
  intro H enc w fuel cs Δ h r G hs L;have s:cs.length=off+(e.sz+o.sz):=r;obtain⟨⟨d,p⟩,I⟩:=G f (.head _);have t:=λg M=>G g (.tail _ M);rw[K,F.cells]at I;obtain⟨x,vs,Q,R,u,v,k,z,m,A⟩:=F.lay I (λB=>RU.sub (hs (by rw[B];rfl)) λy N=>List.mem_of_mem_drop (wB9 N)) L;obtain⟨y,J,O,P,C,D,n,E,b,c⟩:=q.lay (by rw[s];omega) t (λB=>hs (by rw[B,Bool.and_false])) z;have a:cs.drop off=(cs.drop off).take e.sz++cs.drop (off+e.sz):=by rw[<-ZQ,X5]
  refine⟨(x,y),vs++J,O,P,?_,⟨vs,J,rfl,?_,D⟩,⟨k,n⟩,E,Env.le_trans m b,A.trans c⟩
  ·rw[a];exact(u.mono b).append C
  ·exact e.mono (Bc c.next) (e.fk (λl r=>c.fk l r (λh=>h)) v)
theorem xD.struct{α:Type} {t:Nat} {fs:Array Field} {e:qA α} {ok:α->Prop} {fl:Bool} (j:P0.underlying t=some (.struct fs)) (hc:P0.cellsOf t=e.sz) (k:Hb fs.toList 0 e ok fl):xD t e ok fl where
 cells:=hc
 lay:=by
  intro H enc w fuel cs d ps Δ h l hs m;obtain⟨xs,n,rfl,_,o,hlen,b⟩:=DataW.trod_struct j l;have:=k.lay (cs:=cs) (fuel:=n) (by rw[o,hc];omega) (λf c=>by
   obtain⟨i,hi⟩:=mK.1 c;have a:fs[i]? =some f:=by simpa using hi
   have g:i<xs.length:=by rw[hlen];exact(SR.1 a).1
   exact⟨xs[i],by rw[b i f a,gP g]⟩) hs m
  rwa [Vt]at this
theorem PA{w:World} {a:Addr} {n:Nat} {l:List Value} (h:w.cells? 0 a n=some l):l.length=n/\∀i,i<n->w.cell? (a.add i)=l[i]?:=by
 unfold World.cells? at h;rw[if_pos (Kl _)]at h;have c:∀(k:Nat) (b:List Nat) (l:List Value),b=List.range' k b.length->b.mapM (λi=>w.cell? (a.add i))=some l->l.length=b.length/\∀i,i<b.length->w.cell? (a.add (k+i))=l[i]?:=by
  intro k b
  induction b generalizing k with
  |nil=>intro l _ h;simp at h;subst h;exact⟨rfl,λi hi=>absurd hi (Nat.not_lt_zero _)⟩
  | cons j b g=>
    intro l f h;simp only[List.mapM_cons,Option.bind_eq_bind,wCF,Option.pure_def,Option.some.injEq]at h;obtain⟨x,m,xs,d,rfl⟩:=h;rw[Dz,List.range'_succ]at f;obtain⟨rfl,e⟩:=List.cons.inj f;obtain⟨o,p⟩:=g (j+1) xs e d;refine⟨by simp[o],λi hi=>?_⟩
    cases i with
    |zero=>simpa using m
    | succ i=>
      have:=p i (by simpa using hi);rw[show j+(i+1)=j+1+i by omega,this,QB]
 have:=c 0 (List.range n) l (by rw[Xe,List.range_eq_range']) h;simpa using this
theorem TO{w:World} {a:Addr} {n:Nat} {c:Array Value} {e:TypeId} {fr:Nat×Nat} (d:w.heap[a.block]? =some (.cells c e fr)) (hs:a.spot=none):w.cell? (a.add n)=c[a.off+n]?:=by
 obtain⟨b,o,s⟩:=a;simp only at hs d;subst hs;rw[pb];unfold World.cell?;simp only[d];rfl
theorem add_add(a:Addr) (n m:Nat) (hs:a.spot=none):(a.add n).add m=a.add (n+m):=by
 obtain⟨b,o,s⟩:=a;simp only at hs;subst hs;rw[pb,pb,pb,YE]
theorem L0{α:Type} {t:Nat} {e:qA α} {ok:α->Prop} (u:xD t e ok true) {H:Type} {enc:TypeId×Value->H} {w:World} {fuel:Nat} {a:Addr} {c:Array Value} {ty:TypeId} {fr:Nat×Nat}
  (N:w.heap[a.block]? =some (.cells c ty fr)) (hs:a.spot=none):∀(k g:Nat) {Δ:Env} {h:Hp},
  (∀i,g<=i->i<g+k->∃y,(w.cells? 0 (a.add (i*P0.cellsOf t)) (P0.cellsOf t)).bind (DataW.trod enc P0 w 0 (λ_=>true) true fuel t)=some y)->Rd Δ h w->
  ∃(xs:List α) (vs:List V) (z:Env) (h':Hp),xs.length=k/\vs.length=k*e.sz/\(∀(j:Nat) (v:V),vs[j]? =some v->∃x,c[a.off+g*e.sz+j]? =some x/\fM z v x)/\pR e (lo h'.next) h' vs xs/\(∀x∈xs,ok x)/\
   Rd z h' w/\Δ.le z/\GP h h'
 |0,g,Δ,h,_,hR=>⟨[],[],Δ,h,rfl,by simp,λj v hv=>by simp at hv,trivial,(λx Q=>nomatch Q),hR,Env.le_refl _,lV.refl _ _⟩
 | k + 1,g,Δ,h,hm,hR=>by
   obtain⟨⟨d,p⟩,b⟩:=hm g (jj _) (by omega);rw[wCF]at b;obtain⟨cs,A,R⟩:=b;obtain⟨B,hc⟩:=PA A;rw[u.cells]at B hc;obtain⟨x,s,W,S,C,n,o,D,q,E⟩:=u.lay R (λT=>by cases T) hR;obtain⟨xs,vs,U,O,F,G,I,J,r,K,f,m⟩:=L0 u N hs k (g+1) (λi S O=>hm i (by omega) (by omega)) D;have L:s.length=e.sz:=e.len n;refine⟨x::xs,s++vs,U,O,by simp[F],by simp[L,G,Nl];omega,?_,⟨s,vs,rfl,?_,J⟩,?_,K,Env.le_trans q f,E.trans m⟩
   ·intro j v hv
    by_cases hj:j<s.length
    ·rw[Ot hj]at hv
     obtain⟨y,b,M⟩:=C.get j v hv;refine⟨y,?_,M.mono f⟩;have P:=hc j (by omega);rw[add_add _ _ _ hs,TO N hs]at P;rw[YE,P];exact b
    ·rw[Rf (by omega)]at hv
     obtain⟨y,b,M⟩:=I _ v hv;refine⟨y,?_,M⟩;rw[<-b];congr 1;rw[Nl];omega
   ·exact e.mono (Bc m.next) (e.fk (λl B=>m.fk l B (λh=>h)) n)
   ·intro y b
    cases b with
    |head=>exact o
    |tail _ b=>exact r y b
theorem xD.slice{α:Type} {t u:Nat} {e:qA α} {ok:α->Prop} (Z:P0.underlying t=some (.slice u)) (hc:P0.cellsOf t=1) (O:xD u e ok true) (hz:0<e.sz):xD t (eL e) (λxs=>xs.length<=maxLen/\∀x∈xs,ok x) false where
 cells:=hc
 lay:=by
  intro H enc w fuel cs d ps Δ h hd hs P;rcases DataW.trod_slice Z hd with⟨rfl,_⟩|⟨a,len,cap,p,Q,n,rfl,rfl,_,_,q,R,S,k,f,_⟩
  ·exact⟨[],[.ee],Δ,h,.one .ee,⟨_,rfl,.nil⟩,⟨Kl _,λx hx=>by cases hx⟩,P,Env.le_refl _,lV.refl _ _⟩
  ·obtain ⟨aa,f⟩:=f rfl;obtain⟨g,c,ty,fr,B⟩:=hs rfl a len cap (.head _);obtain⟨xs,vs,Δ1,T,C,j,D,E,r,F,s,G⟩:=L0 O B g len 0 (λi _ hi=>⟨p[i]'(by omega),by rw[k i (by omega),gP (by omega)]⟩) P;have l:∀i,i<cap->a.off+i*e.sz+e.sz<=c.size:=by
    intro i hi;have I:∃y,(w.cells? 0 (a.add (i*P0.cellsOf u)) (P0.cellsOf u)).bind (DataW.trod enc P0 w 0 (λ_=>true) true n u)=some y:=by
     by_cases hil:i<len
     ·exact⟨p[i]'(by omega),by rw[k i hil,gP (by omega)]⟩
     ·have U:=f (i-len) (by omega);rw[show len+(i-len)=i by omega,gP (by omega)]at U;exact⟨_,U⟩
    obtain⟨y,V⟩:=I;rw[wCF]at V;obtain⟨ds,J,_⟩:=V;obtain⟨h3,W⟩:=PA J;rw[O.cells]at h3 W;have X:=W (e.sz-1) (by omega);rw[add_add _ _ _ g,TO B g,gP (by omega)]at X;have:=(SR.1 X).1;omega
   have K:cap*e.sz=(cap-1)*e.sz+e.sz\/cap=0:=by
    rcases Nat.eq_zero_or_pos cap with h|h
    ·exact .inr h
    ·left;rw[<-Nat.succ_mul];congr 1;omega
   have Y:len*e.sz<=cap*e.sz:=wB8 _ q;have m:∃o,(o=a.off/\0<cap)\/(o=0/\cap=0):=by
    by_cases h0:0<cap
    ·exact⟨a.off,.inl ⟨rfl,h0⟩⟩
    ·exact⟨0,.inr ⟨rfl,by omega⟩⟩
   obtain ⟨o,A⟩:=m;have L:o+vs.length<=c.size:=by
    rcases A with⟨rfl,h0⟩|⟨rfl,h0⟩
    ·have:=l (cap-1) (by omega);omega
    ·have:len=0:=by omega
     subst this;rw[j];omega
   obtain ⟨M,z⟩:=F.add (b:=a.block) (base:=o) (sz:=e.sz) (ty:=u) (cs:=vs) B L (λi v hi=>by
    rcases A with⟨rfl,h0⟩|⟨rfl,h0⟩
    ·have:=D i v hi;simpa using this
    ·have N:len=0:=by omega
     rw[N,Nat.zero_mul]at j;have:vs=[]:=UZ j;subst this;simp at hi)
   refine⟨xs,[.slice T.next 0 len],_,_,.one ?_,⟨_,rfl,?_⟩,⟨by omega,r⟩,M,Env.le_trans s z,G.trans (lV.new _ _)⟩
   ·obtain ⟨ab,ao,sp⟩:=a;simp only at g l A⊢;subst g;refine .slice T.next 0 len cap ao ⟨ab,o,e.sz,vs.length,c.size,true,0⟩ (by unfold Nj;rw[if_pos rfl]) rfl q ?_;rcases A with⟨rfl,h0⟩|⟨rfl,h0⟩
    ·left;have:=l (cap-1) (by omega);refine⟨rfl,?_,?_⟩
     ·simp only[yC];omega
     ·simp only[X8];omega
    ·right;refine⟨h0,?_⟩;have:len=0:=by omega
     subst this;simp only[j];omega
   ·rw[<-C];exact iC.new E (jj _)
open Go.ChangeShapes Go.WideShapes Go.RowKit
theorem Rd.start(n:Nat) (a:P0.globals.size<=n) (w:World) (b:Cd (λ_=>none) w):Rd (λ_=>none) {next:=n,tr:= .leaf} w:=
 ⟨WR.start n a w b,λ_ _ h=>nomatch h⟩
theorem cP.calls{C:fu} (k:xd C) {f:Nat} {args:List V} {h:Hp} {Δ:Env} {W:World} {gN:Array Value} (g:∃fn c,P0.funcs[f]? =some fn/\fn.body=some c) (n:Rd Δ h W) (r:gM Δ args gN.toList)
  (hc:cP C f args h λv _=>v = .bool true):Calls P0 f gN W λe W'=>e = .returned (.bool true)/\Kept W W':=by
 obtain⟨v,h',⟨m,d,s⟩,rfl⟩:=hc;rcases IH k m d f args _ _ _ Δ W gN s n.world r with⟨x,o,_⟩|⟨_,t⟩
 ·exfalso;obtain⟨fn,c,p,i⟩:=g;have j:=k.named f fn p;have:(callFunc f gN).run P0 W = .ok (.enter f gN) W:=by
   simp only[callFunc,qh,run_program,py,p,j,i,wCK,MR,if_false];rfl
  rw[this]at o;cases o
 ·refine Calls.mono t λe w' u=>?_;obtain⟨z,x,rfl,q⟩:=u;have w:=q.val;cases w;exact⟨rfl,q.frame.kept λb g=>(by obtain⟨l,d,y,a,_⟩:=g;rw[n.ro l d y]at a;cases a)⟩
theorem Iv{H:Type} {enc:TypeId×Value->H} {W W':World} (f:laidOutB P0=true) (b:Kept W W'):∀{c:List TypeId} {vs:List Value} {ds:List (DataW H)} {ps:List MemPlace},
  (c.all λt=>P0.readableRec t&&decide (t<P0.types.size))=true->DataW.TrodAll enc P0 W 0 (λ_=>true) true c vs ds ps->(∀p∈ps,p.block<W.heap.size)->∀sp:Nat->Bool,(∀p∈ps,sp p.block=true)->
  DataW.TrodAll enc P0 W' 0 sp true c vs ds ps
 | [],_,_,_,_,h,_,_,_=>by
   obtain⟨rfl,rfl,rfl⟩:=trodAll_nil h
   exact rfl
 | t::c,_,_,_,hr,h,Kh,sp,hsp=>by
   obtain⟨v,vs,d,ds,p,q,rfl,rfl,rfl,g,i⟩:=trodAll_cons h;simp only[wCH,uZ,AW]at hr;refine⟨p,q,?_,Iv f b hr.2 i (λx a=>Kh x (by simp[a])) sp (λx a=>hsp x (by simp[a])),rfl⟩;have e:Below W.heap.size W {W' with tape:=W.tape}:=⟨b.1,rfl,b.2.1,b.2.2.1,b.2.2.2⟩
   have j:=WideElems.Trod_stays f hr.1.1 hr.1.2 g (λx a=>e.same (Kh x (by simp[a]))) (sp':=sp) (λx a=>hsp x (by simp[a]));exact DataW.Trod.of_heap (w:={W' with tape:=W.tape}) (w':=W') rfl j
open Go.ChangeShapes Go.WideShapes Go.RowKit
theorem JO{w:World} {base:Nat} {u:TypeId} {v:Value} (h:Cell.okWide P0 w .any base u v) (a:Addr) (len cap:Nat) (hv:v = .slice (some a) len cap):a.spot=none/\∃c e fr,w.heap[a.block]? =some (.cells c e fr):=by
 subst hv;have f:w.has P0 .any base a ((match P0.underlying u with|some (.slice e)=>e|_=>0)) cap:=by
  unfold Cell.okWide at h;split at h
  case h_8=>
   unfold Cell.ok at h;split at h
   all_goals first
    |(exfalso;exact h)
    |skip
   all_goals rename_i g b
   all_goals first
    |(cases b;done)
    |skip
   all_goals (cases b;rw[g];exact h.2.2)
  all_goals rename_i b
  all_goals cases b
 obtain⟨_,i,row,cells,d,_⟩:=f;refine⟨i,?_⟩;unfold World.shape? at d;split at d
 ·rename_i c e fr j;exact⟨c,e,fr,j⟩
 ·cases d
theorem Qp{w:World} {base:Nat} {t:TypeId} {v:Value} (h:Value.okWide P0 w .any base t v):RU w v.cells.toList:=by
 intro a len cap d;unfold Value.okWide at h;have one:Cell.okWide P0 w .any base t v->a.spot=none/\∃c e fr,w.heap[a.block]? =some (.cells c e fr):=by
  intro b;by_cases hv:∃cs,v = .agg cs
  ·obtain ⟨cs,rfl⟩:=hv;exfalso;unfold Cell.okWide at b;split at b
   case h_8=>
    unfold Cell.ok at b;split at b
    all_goals first
     |(exact b)
     |(rename_i k f;cases f)
   all_goals (rename_i k f;cases f)
  ·have hc:v.cells = #[v]:=by
    cases v <;> first|rfl|(exact absurd ⟨_,rfl⟩ hv)
   rw[hc]at d;obtain rfl:=Jd.1 d;exact JO b a len cap rfl
 split at h
 ·obtain⟨cs,rfl,_,l,_,_,g⟩:=h;obtain⟨i,hi⟩:=mK.1 d;obtain⟨u,_,j⟩:=g i _ (by simpa[Value.cells]using hi);exact JO j a len cap rfl
 ·obtain⟨cs,rfl,_,l,_,_,g⟩:=h;obtain⟨i,hi⟩:=mK.1 d;obtain⟨u,_,j⟩:=g i _ (by simpa[Value.cells]using hi);exact JO j a len cap rfl
 ·exact one h
theorem xD.map{α β:Type} {t:Nat} {e:qA α} {c:qA β} {ok:α->Prop} {a:β->Prop} {fl:Bool} (f:xD t e ok fl) (g:α->β) (hs:c.sz=e.sz) (i:∀b h x cs,e.rel b h x cs->ok x->c.rel b h (g x) cs/\a (g x)):xD t c a fl where
 cells:=by rw[f.cells,hs]
 lay:=by
  intro H enc w fuel cs d ps Δ h j lT k;obtain⟨x,vs,l,h',m,n,o,p⟩:=f.lay j lT k;obtain⟨q,r⟩:=i _ _ _ _ n o;exact⟨g x,vs,l,h',m,q,r,p⟩
theorem xD.zdA{α:Type} {t:Nat} {fs:Array Field} {e:qA α} {ok:α->Prop} {fl:Bool} (c:xD t e ok fl) (f:P0.underlying t=some (.struct fs)) {H:Type} {enc:TypeId×Value->H} {w:World} {base:Nat} {v:Value} {d:DataW H} {ps:List MemPlace} {Δ:Env} {h:Hp}
  (hv:Value.okWide P0 w .any base t v) (b:DataW.Trod enc P0 w 0 (λ_=>true) true t v d ps) (g:Rd Δ h w) :
  ∃x vs a h',fM a (.agg vs) v/\e.rel (lo h'.next) h' x vs/\ok x/\Rd a h' w/\Δ.le a/\GP h h':=by
 obtain⟨fuel,b⟩:=b;obtain⟨x,vs,a,h',i,j⟩:=c.lay b (λ_=>Qp hv) g;unfold Value.okWide at hv;rw[f]at hv;obtain⟨cs,rfl,_⟩:=hv;exact⟨x,vs,a,h',.agg _ _ i,j⟩
theorem xD.zbm{α:Type} {t:Nat} {e:qA α} {ok:α->Prop} {fl:Bool} (g:xD t e ok fl) {H:Type} {enc:TypeId×Value->H} {w:World} {base:Nat} {v:Value} {d:DataW H} {ps:List MemPlace} {Δ:Env} {h:Hp}
  (hc:v.cells = #[v]) (hv:Value.okWide P0 w .any base t v) (b:DataW.Trod enc P0 w 0 (λ_=>true) true t v d ps) (i:Rd Δ h w) :
  ∃x u a h',fM a u v/\e.rel (lo h'.next) h' x [u]/\ok x/\Rd a h' w/\Δ.le a/\GP h h':=by
 obtain⟨fuel,b⟩:=b;obtain⟨x,vs,a,h',f,j⟩:=g.lay b (λ_=>Qp hv) i;rw[hc]at f
 cases f with
 | cons u _ l _ k c=>
   cases c;exact⟨x,u,a,h',k,j⟩
