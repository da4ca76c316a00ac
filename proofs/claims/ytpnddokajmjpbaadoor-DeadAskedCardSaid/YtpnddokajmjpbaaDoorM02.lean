/- Parts. -/
import Derived.Test.YtpnddokajmjpbaaDoorM01
import Derived.Laws.Pointers
import Derived.Laws.StructEq
import Derived.Laws.Strings2
import Derived.Laws.IdiomStrings
namespace Go.Proofs.YtpnddokajmjpbaaDoor.Hx
inductive ERel (Δ:Env):List (V×V×Nat)->List MapEntry->Prop
 |nil:ERel Δ [] []
 | cons (k v:V) (n:Nat) (e:MapEntry) (b:List (V×V×Nat)) (a:List MapEntry) (c:VRel Δ k e.key) (d:VRel Δ v e.val) (f:e.born=n)
   (hs:ERel Δ b a):ERel Δ ((k,v,n)::b) (e::a)
theorem ERel.mono {Δ d:Env} (b:Δ.le d) {c:List (V×V×Nat)} {a:List MapEntry} (h:ERel Δ c a):ERel d c a:=by
 induction h with
 |nil=>exact .nil
 |cons k v n e c a f g i _ j=>exact .cons k v n e c a (f.mono b) (g.mono b) i j
def CellsOk (Δ:Env) (d:D) (cs:List V) (ob:Option Obj):Prop:=
 ∃c e fr,ob=some (.cells c e fr)/\c.size=d.asz/\(d.ro=false->fr.1=fr.2\/d.asz<=fr.1)/\d.base+cs.length<=d.asz/\
  ∀(i:Nat) (v:V),cs[i]? =some v->∃x,c[d.base+i]? =some x/\VRel Δ v x
def ORel (Δ:Env) (d:D) (o:O) (ob:Option Obj):Prop:=match o with
 | .cells _ sz live ro cs=>d.kind=0/\d.sz=sz/\d.n=cs.length/\d.ro=ro/\(live=true->CellsOk Δ d cs ob)
 | .map g a=>d.kind=1/\d.ro=false/\d.base=0/\∃c,ob=some (.map c a)/\ERel Δ g c.toList
 | .iter m since seen last=>d.kind=2/\d.ro=false/\d.base=0/\∃e,ob=some (.mapIter e since seen.toArray last)/\
   (match m with
    |none=>e=none
    |some l=>∃f,Δ l=some f/\e=some f.b)
def O.live:O->Bool
 | .cells _ _ live _ _=>live
 |_=>true
def TabOk (Δ:Env)(w:World):Prop:=∀g c,(g,c)∈tabs->(∃e fr,w.heap[g]? =some (.cells c e fr))/\∀l d,Δ l=some d->d.ro=false->d.b≠g
structure WR (Δ:Env) (h:Hp) (w:World):Prop where
 fresh:∀l d,Δ l=some d->l<h.next
 blk:∀l d,Δ l=some d->d.b<w.heap.size
 obj:∀l d,Δ l=some d->∃o,h.get l=some o/\ORel Δ d o w.heap[d.b]?
 apart:∀l a d c o e,Δ l=some d->Δ a=some c->l≠a->h.get l=some o->h.get a=some e->o.live=true->e.live=true->
  (d.ro=false\/c.ro=false)->d.b≠c.b
 glob:∀g o,g<P0.globals.size->h.get g=some o->∃d,Δ g=some d/\d.b=g/\d.base=0
 gnext:P0.globals.size<=h.next
 tab:TabOk Δ w
inductive DsRel (Δ:Env):List (Nat×List V)->List Deferred->Prop
 |nil:DsRel Δ [] []
 | cons (g:Nat) (args:List V) (cap args':Array Value) (l:List (Nat×List V)) (a:List Deferred) (b:VsRel Δ args (args'++cap).toList) (c:DsRel Δ l a) :
   DsRel Δ ((g,args)::l) ({target:= .fn (.func g) cap,args:=args'}::a)
theorem DsRel.mono {Δ c:Env} (b:Δ.le c) {l:List (Nat×List V)} {a:List Deferred} (h:DsRel Δ l a):DsRel c l a:=by
 induction h with
 |nil=>exact .nil
 |cons g args cap args' l a d _ e=>exact .cons g args cap args' l a (d.mono b) e
structure TR (Δ:Env) (n:Nat) (t:Tm) (a:Act):Prop where
 size:a.tmps.size=n
 rel:∀i,VRel Δ (tget t i) (a.tmps.getD i undef)
 ds:DsRel Δ t.ds a.defers
theorem frFree{fr:Nat×Nat}{n:Nat}(h:fr.1=fr.2\/n<=fr.1):∀i,i<n->¬(fr.1<=i/\i<fr.2):=λi hi hc=>by omega
theorem CellsOk.mono {Δ b:Env} (a:Δ.le b) {d:D} {cs:List V} {ob:Option Obj} (h:CellsOk Δ d cs ob):CellsOk b d cs ob:=by
 obtain⟨c,e,fr,f,g,j,k,l⟩:=h;exact⟨c,e,fr,f,g,j,k,λi v hi=>let⟨x,hx,hr⟩:=l i v hi;⟨x,hx,hr.mono a⟩⟩
theorem ORel.mono {Δ n:Env} (a:Δ.le n) {d:D} {o:O} {ob:Option Obj} (h:ORel Δ d o ob):ORel n d o ob:=by
 cases o with
 | cells e sz live ro cs=>
   obtain⟨c,f,g,i,b⟩:=h
   exact⟨c,f,g,i,λp=>(b p).mono a⟩
 | map u j=>
   obtain⟨c,f,g,k,i,b⟩:=h
   exact⟨c,f,g,k,i,b.mono a⟩
 | iter m since seen last=>
   obtain⟨c,f,g,q,i,b⟩:=h;refine⟨c,f,g,q,i,?_⟩
   cases m with
   |none=>exact b
   |some l=>obtain⟨r,s,t⟩:=b;exact⟨r,a _ _ s,t⟩
theorem TR.mono{Δ c:Env}(b:Δ.le c){n:Nat}{t:Tm}{a:Act}(h:TR Δ n t a):TR c n t a:=⟨h.size,λi=>(h.rel i).mono b,h.ds.mono b⟩
theorem ey{t:Nat}{d:TypeDesc}{w:World}(h:P0.underlying t=some d):(underlying t).run P0 w = .ok d w:=by simp[underlying,h]
theorem vh {t n:Nat} (h:szOf t=some n):∃i,P0.info? t=some i/\i.size=n:=by
 unfold szOf at h;rw[ei]at h;obtain⟨i,hi,h⟩:=h;exact⟨i,hi,by simpa using h⟩
theorem pI {t n:Nat} {w:World} (h:szOf t=some n):(sizeOf t).run P0 w = .ok n w:=by
 obtain⟨i,hi,rfl⟩:=vh h;simp[sizeOf,typeInfo,hi]
theorem xz {t:Nat} {b:Bool} {w:World} (h:aggT t=some b):(isAgg t).run P0 w = .ok b w:=by
 unfold aggT at h;split at h
 ·rename_i a;cases h;simp[isAgg,ey a]
 ·rename_i a;cases h;simp[isAgg,ey a]
 ·rename_i d c e a;cases h;simp only[isAgg,wAP,ey a,wAH];rfl
 ·cases h
theorem sB {t:Nat} {z:V} (h:zeroV t=some z):∃a,(∀w,(zeroValue t).run P0 w = .ok a w)/\(∀Δ,VRel Δ z a)/\∃i,P0.info? t=some i/\i.zero=some a:=by
 unfold zeroV at h;simp only[ei]at h;obtain⟨i,hi,a,b,c⟩:=h;exact⟨a,λw=>by simp[zeroValue,typeInfo,hi,b],λΔ=>xE Δ 8 a z c,i,hi,b⟩
theorem jY (b o n:Nat):(⟨b,o,none⟩:Addr).add n=⟨b,o+n,none⟩:=by
 unfold Addr.add;split
 ·rename_i h;subst h;rfl
 ·rfl
section
variable{Δ:Env}{h:Hp}{w:World}{n:Nat}{t:Tm}{a:Act}
theorem xe (d:TR Δ n t a) {x:Operand} {v:V} (b:(evN x).f t=some v):VRel Δ v (a.eval x):=by
 cases x with
 |tmp i=>simp only[evN]at b;cases b;exact d.rel i
 | const c=>
   simp only[evN]at b;split at b
   ·rename_i y e;cases b;exact xE Δ 8 c _ e
   ·cases b
 |global g=>simp[evN]at b
 |func f=>simp only[evN]at b;cases b;exact .func f [] [] #[] #[] .nil .nil
theorem gW (k:WR Δ h w) (e:TR Δ n t a) {x:Operand} {v:V} (b:(evO x).f t h=some v):VRel Δ v (a.eval x):=by
 cases x with
 | global g=>
   unfold evO at b
   cases hlt:Nat.blt g P0.globals.size with
   | true=>
     simp only[hlt,ei]at b;obtain⟨o,l,b⟩:=b;cases b;have m:g<P0.globals.size:=by rw[<-wBV];exact hlt
     obtain⟨d,p,q,j⟩:=k.glob g o m l;have:=VRel.ptr (Δ:=Δ) g 0 d p;rw[q,j]at this
     exact this
   |false=>simp[hlt]at b
 |tmp i=>exact xe e b
 |const c=>exact xe e b
 |func f=>exact xe e b
theorem tP (b:TR Δ n t a):∀{l:List Operand} {vs:List V},evNs t l=some vs->VsRel Δ vs (l.map a.eval)
 |[],vs,hv=>by simp[evNs]at hv;subst hv;exact .nil
 | x::l,vs,hv=>by
   simp only[evNs,ei]at hv;obtain⟨v,c,d,e,f⟩:=hv;cases f;exact .cons _ _ _ _ (xe b c) (tP b e)
inductive PRel (Δ:Env):List (Nat×V)->List (Nat×Value)->Prop
 |nil:PRel Δ [] []
 |cons (i:Nat) (v:V) (a:Value) (l:List (Nat×V)) (b:List (Nat×Value)) (c:VRel Δ v a) (hs:PRel Δ l b):PRel Δ ((i,v)::l) ((i,a)::b)
theorem vT (b:TR Δ n t a):∀{l:List (Nat×Operand)} {vs:List (Nat×V)},evParts t l=some vs->PRel Δ vs (l.map λx=>(x.1,a.eval x.2))
 |[],vs,hv=>by simp[evParts]at hv;subst hv;exact .nil
 | x::l,vs,hv=>by
   simp only[evParts,ei]at hv;obtain⟨v,c,d,e,f⟩:=hv;cases f;exact .cons _ _ _ _ _ (xe b c) (vT b e)
theorem FP (g:WR Δ h w) {l:Nat} {d:D} (j:Δ l=some d) {e sz:Nat} {ro:Bool} {cs:List V} (k:h.get l=some (.cells e sz true ro cs))
  {i:Nat} {v:V} (hi:cs[i]? =some v):∃x,w.cell? ⟨d.b,d.base+i,none⟩=some x/\VRel Δ v x:=by
 obtain⟨o,f,a⟩:=g.obj l d j;rw[k]at f;cases f;obtain⟨_,_,_,_,hc⟩:=a;obtain⟨c,q,fr,m,_,_,_,n⟩:=hc rfl;obtain⟨x,p,a⟩:=n i v hi;exact⟨x,by simp[World.cell?,m,p],a⟩
theorem za (u:WR Δ h w) {l:Nat} {d:D} (y:Δ l=some d) {off m:Nat} {cs:List V} (a:ldAt h l off m=some cs) :
  ∃c,(loadCells ⟨d.b,d.base+off,none⟩ m).run P0 w = .ok c w/\VsRel Δ cs c.toList:=by
 unfold ldAt at a;rw[gU]at a;obtain⟨e,sz,live,ro,all,z,a⟩:=a;rw[fm]at a;obtain⟨rfl,a⟩:=a;obtain⟨hlen,f⟩:=Dn a;have g:∀j,j<m->∃x v,w.cell? ⟨d.b,d.base+off+j,none⟩=some x/\cs[j]? =some v/\VRel Δ v x:=λj p=>by
  have q:j<cs.length:=by omega
  have s:cs[j]? =some cs[j]:=wAA q;have t:=f j p;rw[s]at t;obtain⟨x,k,r⟩:=FP u y z t.symm;exact⟨x,_,by rw[wBz];exact k,s,r⟩
 refine⟨_,run_loadCells w ⟨d.b,d.base+off,none⟩ m (λj=>(w.cell? ⟨d.b,d.base+off+j,none⟩).getD undef) (λj p=>?_),?_⟩
 ·obtain⟨x,v,k,_,_⟩:=g j p;rw[jY,k];rfl
 ·refine VsRel.of_get (by simp[hlen]) λi v hi=>?_;have n:i<m:=by
   have:=(wAB.1 hi).1;omega
  obtain⟨x,A,k,o,r⟩:=g i n;rw[hi]at o;cases o;exact⟨x,by simp[n,k],r⟩
theorem Ik (c:WR Δ h w) {l:Nat} {d:D} (f:Δ l=some d) {off:Nat} {v:V} (a:ld1 h l off=some v) :
  ∃x,w.cell? ⟨d.b,d.base+off,none⟩=some x/\VRel Δ v x:=by
 unfold ld1 at a;rw[gU]at a;obtain⟨e,sz,live,ro,all,g,a⟩:=a;rw[fm]at a;obtain⟨rfl,a⟩:=a;exact FP c f g (Bp a)
theorem Bt (k:WR Δ h w) {ty:Nat} {p:PF} {xv:Value} (n:∀v,p.f t h=some v->VRel Δ v xv) {v:V} (b:(hload ty p).f t h=some v) :
  ∃x,(Instr.loadAt ty xv).run P0 w = .ok x w/\VRel Δ v x:=by
 unfold hload at b;split at b
 ·rename_i c;split at b
  ·rename_i m o;simp only[ei,pm]at b;obtain⟨av,e,l,off,rfl,cs,g,q⟩:=b;cases q
   cases n _ e with
   | ptr _ _ d i=>
     obtain⟨j,r,a⟩:=za k i g;exact⟨.agg j,by simp[Instr.loadAt,Instr.sureAddr,loadVar,xz c,pI o,r],.agg _ _ a⟩
  ·cases b
 ·rename_i c;simp only[ei,pm]at b;obtain⟨av,e,l,off,rfl,g⟩:=b
  cases n _ e with
  | ptr _ _ d i=>
    obtain⟨x,s,a⟩:=Ik k i g;exact⟨x,by simp[Instr.loadAt,Instr.sureAddr,loadVar,xz c,s],a⟩
 ·cases b
theorem Aq:∀(fs:List Field) (pl:List (Nat×Nat)),placesOf fs=some pl->fs.mapM (λf=>(P0.info? f.type).map λi=>(f.offset,i.size))=some pl
 |[],pl,h=>by simp[placesOf]at h;subst h;simp
 | f::fs,pl,h=>by
   simp only[placesOf,ei]at h;obtain⟨m,a,l,b,c⟩:=h;cases c;obtain⟨i,hi,rfl⟩:=vh a;simp[List.mapM_cons,hi,Aq fs l b]
theorem CL:∀(xs:List Value) (k off:Nat) (c:Array Value),off+k+xs.length<=c.size->
  ∀i,((xs.zipIdx k).foldl (λcs (p:Value×Nat)=>cs.setIfInBounds (off+p.2) p.1) c)[i]? =if off+k<=i/\i<off+k+xs.length then xs[i-(off+k)]? else c[i]?
 | [],k,off,c,_,i=>by
   rw[if_neg (by simp only[wBe];omega)]
   rfl
 | x ::xs,k,off,c,hle,i=>by
   simp only[List.zipIdx_cons,List.foldl_cons];simp only[wAX]at hle;rw[CL xs (k+1) off _ (by simp;omega)];by_cases b:off+(k+1)<=i/\i<off+(k+1)+xs.length
   ·rw[if_pos b,if_pos (by simp only[wAX];omega)]
    have:i-(off+k)=(i-(off+(k+1)))+1:=by omega
    rw[this,wAj]
   ·rw[if_neg b]
    by_cases d:i=off+k
    ·subst d
     rw[if_pos (by simp only[wAX];omega)];have a:off+k<c.size:=by omega
     simp[a]
    ·rw[if_neg (by simp only[wAX];omega)]
     rw[wBk (λe=>d e.symm)]
theorem AQ {place:Nat->Option (Nat×Nat)}:∀{ps:List (Nat×V)} {ps':List (Nat×Value)} {cells cs:List V} {a:Array Value},PRel Δ ps ps'->VsRel Δ cells a.toList->
  fillV place cells ps=some cs->∃cs',Instr.fill place a ps' = some cs'/\VsRel Δ cs cs'.toList
 |_,_,cells,cs,a,.nil,hc,hf=>by simp[fillV]at hf;subst hf;exact⟨a,rfl,hc⟩
 | _,_,cells,cs,a,.cons i v v' l l' hv hs,hc,hf=>by
   simp only[fillV,ei,fm]at hf;obtain⟨⟨off,size⟩,z,A,q,B,C⟩:=hf;obtain⟨J,D,k⟩:=zJ B;have d:=hv.cells;have r:v'.cells.size=size:=by
     have:=d.length;rw[wAG A]at this;simpa using this.symm
   have s:=hc.length;simp only[wA2]at s;have E:v.cells.length=v'.cells.size:=by simpa using d.length
   have t:¬(v'.cells.size≠size\/off+v'.cells.size>a.size):=by
     rintro(h|h)
     ·exact h r
     ·omega
   have m:VsRel Δ q (v'.cells.zipIdx.foldl (λcs (c,j)=>cs.setIfInBounds (off+j) c) a).toList:=by
     have b:=CL v'.cells.toList 0 off a (by simp;omega);have e:(v'.cells.zipIdx.foldl (λcs (c,j)=>cs.setIfInBounds (off+j) c) a)=((v'.cells.toList.zipIdx 0).foldl (λcs (p:Value×Nat)=>cs.setIfInBounds (off+p.2) p.1) a):=by
       rw[<-Array.foldl_toList];simp
     rw[e];generalize hF:((v'.cells.toList.zipIdx 0).foldl (λcs (p:Value×Nat)=>cs.setIfInBounds (off+p.2) p.1) a)=F at b;have G:F.size=a.size:=by
      apply Nat.le_antisymm
      ·rcases wBK a.size F.size with f|g
       ·have:=b a.size
        rw[if_neg (by simp;omega)]at this;simp[f]at this
       ·exact g
      ·rcases wBK F.size a.size with f|g
       ·have:=b F.size
        by_cases hin:off+0<=F.size/\F.size<off+0+v'.cells.toList.length
        ·rw[if_pos hin]at this
         have H:F.size-(off+0)<v'.cells.toList.length:=by omega
         rw[wAA H]at this;simp at this
        ·rw[if_neg hin]at this
         simp[f]at this
       ·exact g
     refine VsRel.of_get (by simp only[wA2];omega) λj x n=>?_;rw[k j]at n;have o:=b j;simp only[wB0,wA2]at o;rw[wAv,o];by_cases hin:off<=j/\j<off+v.cells.length
     ·rw[if_pos hin]at n
      rw[if_pos (by omega)];exact d.get _ _ n
     ·rw[if_neg hin]at n
      rw[if_neg (by omega)];obtain⟨y,I,u⟩:=hc.get _ _ n;exact⟨y,by simpa using I,u⟩
   obtain⟨cs',w,u⟩:=AQ hs m C;refine⟨cs',?_,u⟩;simp only[Instr.fill,z];rw[if_neg (by simpa using t)];exact w
theorem GL (s:TR Δ n t a) {ty:Nat} {parts:List (Nat×Operand)} {v:V} (b:(hbuild ty parts).f t h=some v) :
  ∃x,(Instr.build ty (parts.map λx=>(x.1,a.eval x.2)).toArray).run P0 w = .ok x w/\VRel Δ v x:=by
 unfold hbuild at b;split at b
 ·rename_i z y;obtain⟨B,_,j,i,hi,c⟩:=sB y;have d:=(j Δ).cells;split at b
  ·rename_i e k;split at b
   ·rename_i g A;simp only[ei]at b;obtain⟨ps,l,cs,m,o⟩:=b;cases o;obtain⟨cs',p,q⟩:=AQ (vT s l) d m;refine⟨.agg cs',?_,.agg _ _ q⟩;refine run_build w ty _ cs' ?_;unfold Program.built;simp only[hi,k,c,Aq _ _ A];simpa using p
   ·cases b
  ·rename_i len u k;split at b
   ·rename_i size hs;obtain⟨C,r,rfl⟩:=vh hs;simp only[ei]at b;obtain⟨ps,l,cs,m,o⟩:=b;cases o;obtain⟨cs',p,q⟩:=AQ (vT s l) d m;refine⟨.agg cs',?_,.agg _ _ q⟩;refine run_build w ty _ cs' ?_;unfold Program.built;simp only[hi,k,c,r];simpa using p
   ·cases b
  ·cases b
 ·cases b
end
theorem sY (k:IntKind) (n:Int):wrapF k n=k.wrap n:=by
 unfold wrapF
 cases n with
 |negSucc m=>rfl
 | ofNat m=>
   simp only;split
   ·rename_i a
    rw[wBV]at a;have e:(Int.ofNat m)=(m:Int):=rfl;rw[e];cases k <;> simp[IntKind.wrap,IntKind.bits,IntKind.signed]at a⊢ <;> omega
   ·rfl
section
variable{Δ:Env}{h:Hp}{w:World}{n:Nat}{t:Tm}{a:Act}
theorem iK{s:Sem Value}{x:Value}{w w':World}(h:s.run P0 w = .ok x w'):(do pure (Next.value (<-s)):Sem Next).run P0 w = .ok (.value x) w':=by simp[h]
theorem z9{k k':IntKind}(h:kindEq k k' = true):k=k':=by cases k <;> cases k' <;> first|rfl|cases h
theorem Jp {op:BinOp} {k:IntKind} {x y:Int} {v:V} (ty:Nat) (w:World) (hs:isShift op=false) (a:hint op k x y=some v) :
  ∃r,(binOp op ty (.int k x) (.int k y)).run P0 w = .ok r w/\∀Δ,VRel Δ v r:=by
 cases op with
 |shl=>cases hs
 |shr=>cases hs
 |add=>simp only[hint]at a;cases a;rw[sY];exact⟨_,by simp[binOp,Op.intArith],λΔ=> .int _ _⟩
 |sub=>simp only[hint]at a;cases a;rw[sY];exact⟨_,by simp[binOp,Op.intArith],λΔ=> .int _ _⟩
 |mul=>simp only[hint]at a;cases a;rw[sY];exact⟨_,by simp[binOp,Op.intArith],λΔ=> .int _ _⟩
 | quo=>
   have c:y≠0:=by rintro rfl;simp[hint]at a
   have b:some (V.int k (wrapF k (x.tdiv y)))=some v:=by
     rw[<-a];unfold hint;simp only;split
     ·exact absurd rfl c
     ·rfl
   cases b;rw[sY];exact⟨_,by simp[binOp,Op.intDiv,c],λΔ=> .int _ _⟩
 | rem=>
   have c:y≠0:=by rintro rfl;simp[hint]at a
   have b:some (V.int k (x.tmod y))=some v:=by
     rw[<-a];unfold hint;simp only;split
     ·exact absurd rfl c
     ·rfl
   cases b;exact⟨_,by simp[binOp,Op.intDiv,c],λΔ=> .int _ _⟩
 |and=>simp only[hint]at a;cases a;exact⟨_,by simp[binOp,Op.intBits],λΔ=> .int _ _⟩
 |or=>simp only[hint]at a;cases a;exact⟨_,by simp[binOp,Op.intBits],λΔ=> .int _ _⟩
 |xor=>simp only[hint]at a;cases a;exact⟨_,by simp[binOp,Op.intBits],λΔ=> .int _ _⟩
 |andNot=>simp only[hint]at a;cases a;exact⟨_,by simp[binOp,Op.intBits],λΔ=> .int _ _⟩
 |eql=>simp only[hint]at a;cases a;exact⟨_,by simp[binOp,Op.intCmp],λΔ=> .bool _⟩
 |neq=>simp only[hint]at a;cases a;exact⟨_,by simp[binOp,Op.intCmp],λΔ=> .bool _⟩
 |lss=>simp only[hint]at a;cases a;exact⟨_,by simp[binOp,Op.intCmp],λΔ=> .bool _⟩
 |leq=>simp only[hint]at a;cases a;exact⟨_,by simp[binOp,Op.intCmp],λΔ=> .bool _⟩
 |gtr=>simp only[hint]at a;cases a;exact⟨_,by simp[binOp,Op.intCmp],λΔ=> .bool _⟩
 |geq=>simp only[hint]at a;cases a;exact⟨_,by simp[binOp,Op.intCmp],λΔ=> .bool _⟩
theorem GD {op:BinOp} {k k':IntKind} {x y:Int} {v:V} (ty:Nat) (w:World) (a:hshift op k x y=some v) :
  ∃r,(binOp op ty (.int k x) (.int k' y)).run P0 w = .ok r w/\∀Δ,VRel Δ v r:=by
 unfold hshift at a;split at a
 ·cases a
 ·rename_i m;have b:¬((Int.ofNat m)<0):=by simp
  split at a
  ·cases a;exact⟨_,by simp only[binOp,Op.shift];rw[if_neg b];rfl,λΔ=> .int _ _⟩
  ·cases a;exact⟨_,by simp only[binOp,Op.shift];rw[if_neg b];rfl,λΔ=> .int _ _⟩
  ·cases a
theorem Iv {op:BinOp} {x y:ByteArray} {v:V} (ty:Nat) (w:World) (a:hstr op x.data.toList y.data.toList=some v) :
  ∃r,(binOp op ty (.string x) (.string y)).run P0 w = .ok r w/\∀Δ,VRel Δ v r:=by
 have f:(binOp op ty (.string x) (.string y))=Op.stringOp op x y:=by cases op <;> rfl
 rw[f];have g:x.toList=x.data.toList:=ByteArray.toList_eq x;have h:y.toList=y.data.toList:=ByteArray.toList_eq y;cases op <;> simp only[hstr]at a <;> try (cases a;done)
 case add=>
  split at a
  ·rename_i c;cases a;have b:=wAZ c;have d:¬(((x.size+y.size:Nat):Int)>IntKind.i64.max):=by
    have i:x.data.toList.length=x.size:=rfl;have j:y.data.toList.length=y.size:=rfl;rw[i,j]at b;simp only[IntKind.max,IntKind.signed,IntKind.bits,if_true];omega
   have e:x.data.toList++y.data.toList=(x++y).data.toList:=by simp
   rw[e];exact⟨_,by simp only[Op.stringOp];rw[if_neg d];rfl,λΔ=> .str _⟩
  ·cases a
 all_goals
  cases a;refine⟨_,by simp only[Op.stringOp,g,h];rfl,λΔ=> .bool _⟩
theorem yB {op:BinOp} {ty:Nat} {X Y:Operand} {x y:Value} (w:World) (a:x≠ .nilIface) (b:∀c,x≠ .agg c) :
  (eqGuard op ty X Y x y).run P0 w = .ok () w:=by
 cases op <;> unfold eqGuard <;> dsimp only <;> simp only[wCC,wBd,wAo,if_true,if_false] <;> first
  |rfl
  |(split
    ·exact absurd rfl a
    ·exact absurd rfl (b _)
    ·rfl)
theorem GE {d:TypeDesc} {ty:Nat} {x y:V} {xv c:Value} {b:Bool} (w:World) (e:Nat) (f:P0.underlying ty=some d) (g:VRel Δ x xv) (h:VRel Δ y c)
  (a:hnil d x y=some b):(Op.equalIn (e+1) ty xv c).run P0 w = .ok b w:=by
 unfold hnil at a;split at a <;> first|(cases a;done)|skip
 all_goals
  first
   |cases a
   |(rw[fm]at a;obtain⟨_,a⟩:=a;cases a)
  cases g;cases h;simp only[Op.equalIn,wAP,ey f,wAH];rfl
theorem Gi {a:Array (String×TypeId)} {ty:Nat} (w:World) (b:Nat) (c:P0.underlying ty=some (.interface a)) (d:a.isEmpty=true):(Op.eqGuardIn (b+1) ty .nilIface .nilIface).run P0 w = .ok false w:=by
 simp only[Op.eqGuardIn,wAP,ey c,wAH,d];rfl
theorem Iz {d:TypeDesc} {ty:Nat} {x y:V} {xv a:Value} {b:Bool} (w:World) (i:P0.underlying ty=some d) (j:VRel Δ x xv) (k:VRel Δ y a)
  (f:hnil d x y=some b):(Op.equal ty xv a).run P0 w = .ok b w/\(∀op X Y,(eqGuard op ty X Y xv a).run P0 w = .ok () w)/\
   (binOp .eql ty xv a)=(do pure (.bool (<-Op.equal ty xv a)))/\(binOp .neq ty xv a)=(do pure (.bool (!(<-Op.equal ty xv a)))):=by
 refine⟨GE w 9999 i j k f,?_⟩;unfold hnil at f;split at f <;> first|(cases f;done)|skip
 all_goals
  cases j;cases k
 all_goals refine⟨?_,rfl,rfl⟩
 all_goals intro op X Y
 any_goals (refine yB w ?_ ?_ <;> first|(intro e;cases e;done)|(intro c e;cases e;done))
 ·rename_i m;rw[fm]at f;have l:=f.1;have h:=Gi w 9999 i l
  cases op <;> unfold eqGuard <;> dsimp only <;> simp only[wCC,wBd,wAo,if_true,if_false] <;> first
   |rfl
   |(split
     ·rfl
     ·split
      ·rfl
      ·have g:Sem.run P0 (Op.eqGuardIn Op.maxDepth ty .nilIface .nilIface) w = .ok false w:=h
       rw[if_neg (by decide)];simp only[wAP,g,wAH];rfl)
 ·cases op <;> rfl
theorem JK {ty:Nat} {x y:V} {xv g:Value} {b:Bool} (w:World) (i:Nat) (d:VRel Δ x xv) (f:VRel Δ y g) (a:eq1 (P0.underlying ty) x y=some b) :
  (Op.equalIn (i+1) ty xv g).run P0 w = .ok b w/\aggT ty=some false:=by
 unfold eq1 at a;split at a
 ·rename_i c;cases d;cases f;cases a;refine⟨?_,by unfold aggT;rw[c]⟩;simp only[Op.equalIn,wAP,ey c,wAH];rfl
 ·rename_i c;cases d;cases f;rw[fm]at a;obtain⟨j,a⟩:=a;obtain rfl:=z9 j;cases a;refine⟨?_,by unfold aggT;rw[c]⟩;simp only[Op.equalIn,wAP,ey c,wAH,if_true];rfl
 ·rename_i c;cases d with|str xs=>cases f with|str ys=>
  cases a;refine⟨?_,by unfold aggT;rw[c]⟩;simp only[Op.equalIn,wAP,ey c,wAH];have e:(xs.data.toList == ys.data.toList)=(xs == ys):=by
   rw[show(xs == ys)=(xs.data == ys.data) from rfl,wBn,wAt,wAt];exact⟨λh=>Array.ext' h,λh=>by rw[h]⟩
  rw[e];rfl
 ·cases a
theorem BC {xs ys:List V} {a d:Array Value} (w:World) (k:Nat) (q:VsRel Δ xs a.toList) (r:VsRel Δ ys d.toList):∀{fs:List Field} {b:Bool},eqCells fs xs ys=some b->
  ((do
    for f in fs do
      if f.name≠ "_" then
        if !(<-Op.equalIn (k+1) f.type (<-part f.type a f.offset) (<-part f.type d f.offset)) then return false
    pure true:Sem Bool)).run P0 w = .ok b w
 |[],b,h=>by cases h;rfl
 | f ::fs,b,h=>by
   simp only[eqCells,fm,ei,wBl,wAz]at h;obtain⟨s,x,A,y,B,c,C,t⟩:=h;obtain⟨xv,l,m⟩:=q.get _ _ (Bp A);obtain⟨u,n,o⟩:=r.get _ _ (Bp B);obtain⟨v,z⟩:=JK w k m o C;have e:(part f.type a f.offset).run P0 w = .ok xv w:=by
     have g:a[f.offset]? =some xv:=by simpa using l
     simp only[part,wAP,xz z,wAH,wAo,if_false];simp[g]
   have i:(part f.type d f.offset).run P0 w = .ok u w:=by
     have j:d[f.offset]? =some u:=by simpa using n
     simp only[part,wAP,xz z,wAH,wAo,if_false];simp[j]
   have D:=λ{b}=>BC w k q r (fs:=fs) (b:=b)
   cases c with
   | false=>
     cases t
     simp only[List.forIn_cons,wAP,ne_eq,s,not_false_iff,if_true,e,i,v,wAH,wBd,wAp]
   | true=>
     have p:eqCells fs xs ys=some b:=t;have:=D p;simp only[List.forIn_cons,wAP,ne_eq,s,not_false_iff,if_true,e,i,v,wAH,wCC,wAo,if_false,wAp]at this⊢;exact this
theorem JX {ty:Nat} {xs ys:List V} {xv a:Value} {b:Bool} (w:World) (d:VRel Δ (.agg xs) xv) (e:VRel Δ (.agg ys) a) (c:aggEq ty xs ys=some b) :
  (Op.equal ty xv a).run P0 w = .ok b w/\(∀op X Y,(eqGuard op ty X Y xv a).run P0 w = .ok () w)/\
   (binOp .eql ty xv a)=(do pure (.bool (<-Op.equal ty xv a)))/\(binOp .neq ty xv a)=(do pure (.bool (!(<-Op.equal ty xv a)))):=by
 cases d with|agg _ xs' d=>cases e with|agg _ ys' e=>
 unfold aggEq at c;split at c
 ·rename_i fs g;simp only[fm,wBl]at c;obtain⟨hs,h,c⟩:=c;refine⟨?_,λop X Y=>?_,rfl,rfl⟩
  ·have f:=BC w 9998 d e c;show(Op.equalIn (9999+1) ty (.agg xs') (.agg ys')).run P0 w=_;rw[Op.equalIn];simp only[wAP,ey g,wAH,run_program,hs,wAo,if_false,wAp,<-Array.forIn_toList]at f⊢;exact f
  ·cases op <;> unfold eqGuard <;> dsimp only <;> simp only[wCC,wBd,wAo,if_true,if_false] <;> first
    |rfl
    |(simp only[wAP,run_program,wAH,h,wBd,if_true];rfl)
 ·cases c
theorem Is {op:BinOp} {ty:Nat} {X Y:Operand} {x y v:V} {xv f:Value} (w:World) (t:VRel Δ x xv) (u:VRel Δ y f) (c:hbin op ty x y=some v) :
  ∃r,(do eqGuard op ty X Y xv f;binOp op ty xv f:Sem Value).run P0 w = .ok r w/\VRel Δ v r:=by
 unfold hbin at c;split at c
 ·rename_i k p k' q;cases t;cases u;have g:=yB (op:=op) (ty:=ty) (X:=X) (Y:=Y) (y:= .int k' q) w (x:= .int k p) (by simp) (by simp);split at c
  ·obtain⟨r,m,a⟩:=GD (k':=k') ty w c;exact⟨r,by simp only[wAP,g,wAH,m],a Δ⟩
  ·rename_i hs;rw[fm]at c;obtain⟨z,c⟩:=c;obtain rfl:=z9 z;obtain⟨r,m,a⟩:=Jp ty w hs c;exact⟨r,by simp only[wAP,g,wAH,m],a Δ⟩
 ·cases t with|str xs=>cases u with|str ys=>
  have g:=yB (op:=op) (ty:=ty) (X:=X) (Y:=Y) (y:= .string ys) w (x:= .string xs) (by simp) (by simp);obtain⟨r,m,a⟩:=Iv ty w c;exact⟨r,by simp only[wAP,g,wAH,m],a Δ⟩
 ·have n:∀h,heql ty h x y=some v->∃b,(Op.equal ty xv f).run P0 w = .ok b w/\(∀op X Y,(eqGuard op ty X Y xv f).run P0 w = .ok () w)/\
    (binOp .eql ty xv f)=(do pure (.bool (<-Op.equal ty xv f)))/\(binOp .neq ty xv f)=(do pure (.bool (!(<-Op.equal ty xv f))))/\v = .bool (Bool.rec (motive:=λ_=>Bool) b (!b) h):=by
   clear c;intro h e;unfold heql heqT at e;rw[ei]at e;obtain⟨b,l,e⟩:=e;split at l
   ·obtain⟨i,j,o,s⟩:=JX w t u l;cases e;exact⟨b,i,j,o,s,rfl⟩
   unfold hnilT at l;split at l
   ·rename_i d A;obtain⟨i,j,o,s⟩:=Iz w A t u l;cases e;exact⟨b,i,j,o,s,rfl⟩
   ·cases l
  split at c
  ·obtain⟨b,i,j,o,_,rfl⟩:=n false c;have g:=j .eql X Y;exact⟨.bool b,by rw[o];simp only[wAP,g,wAH,i,wAp],.bool b⟩
  ·obtain⟨b,i,j,_,s,rfl⟩:=n true c;have g:=j .neq X Y;exact⟨.bool (!b),by rw[s];simp only[wAP,g,wAH,i,wAp],.bool _⟩
  ·cases c
theorem JY {op:UnOp} {x v:V} {xv:Value} (w:World) (b:VRel Δ x xv) (a:hun op x=some v):∃r,(Op.unary op xv).run P0 w = .ok r w/\VRel Δ v r:=by
 unfold hun at a;split at a
 ·cases a;cases b;rw[sY];exact⟨_,rfl,.int _ _⟩
 ·cases a;cases b;exact⟨_,rfl,.bool _⟩
 ·simp only[hint]at a;cases a;cases b;exact⟨_,rfl,.int _ _⟩
 ·cases a
theorem Hg {src dst:Nat} {p:PF} {xv:Value} {v:V} (w:World) (j:¬∃e,P0.underlying src=some (.slice e)/\P0.underlying dst=some .string) (i:∀v,p.f t h=some v->VRel Δ v xv) (a:(hconv src dst p).f t h=some v) :
  ∃r,(convert src dst xv).run P0 w = .ok r w/\VRel Δ v r:=by
 unfold hconv at a;split at a
 ·rename_i k' k hs c;rw[ei]at a;obtain⟨x,d,b⟩:=a;have g:=i _ d;split at b
  ·cases b;cases g;rw[sY];exact⟨_,by simp[convert,ey hs,ey c,Conv.intToInt],.int _ _⟩
  ·cases b
 ·rename_i hs c;rw[ei]at a;obtain⟨x,d,b⟩:=a;have g:=i _ d;split at b
  ·cases b;cases g;exact⟨_,by simp[convert,ey hs,ey c],.str _⟩
  ·cases b
 ·rename_i e hs c;exact absurd ⟨e,hs,c⟩ j
 ·cases a
theorem BL {ty:Nat} {cs:List V} {cs':Array Value} {off:Nat} {v:V} (w:World) (hc:VsRel Δ cs cs'.toList) (c:hpart ty cs off=some v) :
  ∃r,(part ty cs' off).run P0 w = .ok r w/\VRel Δ v r:=by
 unfold hpart at c
 cases ha:aggT ty with
 |none=>simp[ha]at c
 |some b=>cases b with
 | true =>
   simp only[ha]at c
   cases hm:szOf ty with
   |none=>simp[hm]at c
   | some m=>
     simp only[hm,ei]at c;obtain⟨l,j,k⟩:=c;cases k;obtain⟨n,h⟩:=Dn j;refine⟨.agg (cs'.extract off (off+m)),by simp[part,xz ha,pI hm],.agg _ _ (VsRel.of_get ?_ ?_)⟩
     ·have d:=hc.length
      have:∀i,i<m->off+i<cs.length:=λi hi=>by
        have:=h i hi;rw[wAA (by omega)]at this;exact(wAB.1 this.symm).1
      simp only[wA2]at d;simp only[wA2,Array.size_extract,n];rcases Nat.eq_zero_or_pos m with h0|h0
      ·omega
      ·have:=this (m-1) (by omega)
       omega
     ·intro i v hi
      have e:i<m:=by have:=(wAB.1 hi).1;omega
      rw[h i e]at hi;obtain⟨x,f,g⟩:=hc.get _ _ hi;refine⟨x,?_,g⟩;have a:cs'[off+i]? =some x:=by simpa using f
      have o:off+i<cs'.size:=(wAm.1 a).1;rw[wAv,Array.getElem?_extract];rw[if_pos (by omega)]
      exact a
 | false=>
   simp only[ha]at c;obtain⟨x,f,g⟩:=hc.get _ _ (Bp c);have a:cs'[off]? =some x:=by simpa using f
   exact⟨x,by simp[part,xz ha,a],g⟩
theorem A2 {s f:Nat} {a:Field} (h:fieldOf s f=some a):∃fs,P0.underlying s=some (.struct fs)/\fs[f]? =some a:=by
 unfold fieldOf at h;split at h
 ·rename_i fs b;exact⟨fs,b,by simpa using h⟩
 ·cases h
theorem BZ {s f:Nat} {p:PF} {xv:Value} {v:V} (w:World) (c:∀v,p.f t h=some v->VRel Δ v xv) (a:(hfieldAddr s p f).f t h=some v) :
  ∃r,(Instr.fieldAt s xv f).run P0 w = .ok r w/\VRel Δ v r:=by
 unfold hfieldAddr at a;split at a
 ·rename_i e g;obtain⟨fs,i,b⟩:=A2 g;split at a
  ·rename_i m j;simp only[ei,pm]at a;obtain⟨x,k,l,off,rfl,n⟩:=a;cases n
   cases c _ k with
   | ptr _ _ d o=>
     refine⟨_,by simp[Instr.fieldAt,ey i,b,Instr.sureAddr,fieldPlace,pI j,jY];rfl,?_⟩;have:=VRel.ptr (Δ:=Δ) l (off+e.offset) d o;rw[<-wBz]at this;exact this
  ·cases a
 ·cases a
theorem Gm {s f:Nat} {p:PF} {xv:Value} {v:V} (w:World) (g:∀v,p.f t h=some v->VRel Δ v xv) (a:(hfield s p f).f t h=some v) :
  ∃r,(Instr.field s xv f).run P0 w = .ok r w/\VRel Δ v r:=by
 unfold hfield at a;split at a
 ·rename_i l i;obtain⟨fs,j,c⟩:=A2 i;rw[ei]at a;obtain⟨x,k,d⟩:=a;have e:=g _ k;split at d
  ·cases e with
   | agg _ cs' hc=>
     obtain⟨r,e,b⟩:=BL w hc d;exact⟨r,by simp[Instr.field,ey j,c,asAgg,e],b⟩
  ·cases d
 ·cases a
theorem B8 {ty:Nat} {p q:PF} {xv y:Value} {v:V} (w:World) (z:∀v,p.f t h=some v->VRel Δ v xv) (hq:∀v,q.f t h=some v->VRel Δ v y)
  (a:(hindexAddr ty p q).f t h=some v):∃r,(Instr.indexAt ty xv y).run P0 w = .ok r w/\VRel Δ v r:=by
 unfold hindexAddr at a;split at a
 ·rename_i e g;split at a
  ·rename_i m j;simp only[ei,zg]at a;obtain⟨x,k,i,n,kd,s,rfl,c⟩:=a;have A:=z _ k;cases hq _ n;split at c
   ·rename_i l off len;rw[fm]at c;obtain⟨b,c⟩:=c;cases c;rw[wBV]at b
    cases A with
    | slice _ _ _ cap o d u C D B=>
      rcases B with⟨rfl,_,_⟩|⟨hc,_⟩
      ·refine⟨_,by simp[Instr.indexAt,asIntOf,ey g,pI j,b,jY];rfl,?_⟩
       have:=VRel.ptr (Δ:=Δ) l (off+s*m) d u;rw[<-wBz]at this;exact this
      ·omega
   ·cases c
  ·cases a
 ·rename_i len e g;split at a
  ·rename_i m j;simp only[ei,zg,pm,fm]at a;obtain⟨x,k,i,n,kd,s,rfl,l,off,rfl,b,c⟩:=a;cases c;rw[wBV]at b;cases hq _ n
   cases z _ k with
   | ptr _ _ d u=>
     refine⟨_,by simp[Instr.indexAt,asIntOf,ey g,pI j,b,jY,Instr.sureAddr];rfl,?_⟩;have:=VRel.ptr (Δ:=Δ) l (off+s*m) d u;rw[<-wBz]at this;exact this
  ·cases a
 ·cases a
theorem GU {ty:Nat} {p q:PF} {xv y:Value} {v:V} (w:World) (z:∀v,p.f t h=some v->VRel Δ v xv) (hq:∀v,q.f t h=some v->VRel Δ v y)
  (c:(hindex ty p q).f t h=some v):∃r,(Instr.index ty xv y).run P0 w = .ok r w/\VRel Δ v r:=by
 unfold hindex at c;split at c
 ·rename_i len A k;split at c
  ·rename_i m C;simp only[ei,zg]at c;obtain⟨x,l,i,n,kd,g,rfl,a⟩:=c;have o:=z _ l;cases hq _ n;split at a
   ·rw[fm]at a;obtain⟨d,a⟩:=a;rw[wBV]at d
    cases o with
    | agg _ cs' hc=>
      obtain⟨r,B,j⟩:=BL w hc a;refine⟨r,?_,j⟩;have e:(Nat.mul g m)=g*m:=rfl;rw[e]at B;simp[Instr.index,asIntOf,ey k,pI C,d,B]
   ·cases a
  ·cases c
 ·rename_i k;simp only[ei,zg]at c;obtain⟨x,l,i,n,kd,g,rfl,a⟩:=c;have o:=z _ l;cases hq _ n;split at a
  ·rw[ei]at a;obtain⟨b,u,a⟩:=a;cases a
   cases o with
   | str s=>
     rw[List.head?_drop]at u;have d:g<s.size:=(wAB.1 u).1;have hs:s[g]? =some b:=by
       rw[getElem?_pos s g d];have:=(wAB.1 u).2;simp only[Array.getElem_toList]at this;rw[<-this];rfl
     exact⟨.int .u8 b.toNat,by simp[Instr.index,asIntOf,ey k,hs],.int _ _⟩
  ·cases a
 ·cases c
end
section
variable{Δ:Env}{h:Hp}{w:World}{n:Nat}{t:Tm}{a:Act}
inductive OptRel (Δ:Env):Option V->Option Value->Prop
 |none:OptRel Δ none none
 |some (v:V) (a:Value) (h:VRel Δ v a):OptRel Δ (some v) (some a)
theorem AH (c:WR Δ h w) (d:TR Δ n t a) {x:Option Operand} {v:Option V} (b:optF x t h=some v):OptRel Δ v (x.map a.eval):=by
 cases x with
 |none=>simp only[optF]at b;cases b;exact .none
 | some x=>
   simp only[optF,ei]at b;obtain⟨y,e,f⟩:=b;cases f;exact .some _ _ (gW c d e)
theorem wX {d m:Nat} {lo:Option V} (a:hbound d lo=some m):(lo=none/\m=d)\/∃k,lo=some (.int k (.ofNat m)):=by
 unfold hbound at a;split at a
 ·cases a;exact .inl ⟨rfl,rfl⟩
 ·cases a;exact .inr ⟨_,rfl⟩
 ·cases a
theorem zl {k:IntKind} {m y:Nat} {c:BoundsCode} (w:World) (a:m<=y):(Instr.sliceBound (.int k (.ofNat m)) y c).run P0 w = .ok m w:=by
 have b:(0:Int)<=Int.ofNat m/\(Int.ofNat m)<=(y:Int):=⟨Int.natCast_nonneg m,by simp;exact a⟩
 simp only[Instr.sliceBound,asIntOf,wAP,wAp,wAH];rw[if_pos b];rfl
theorem zH {isS:Bool} {len cap l u:Nat} {lo hi:Option V} {b c:Option Value} (w:World) (d:OptRel Δ lo b) (a:OptRel Δ hi c)
  (h:hbound 0 lo=some l) (g:hbound len hi=some u) (e:l<=u) (f:u<=cap):(Instr.sliceBounds isS len cap b c none).run P0 w = .ok (l,u,cap) w:=by
 rcases wX h with⟨rfl,rfl⟩|⟨k,rfl⟩
 ·cases d;rcases wX g with⟨rfl,rfl⟩|⟨k,rfl⟩
  ·cases a;rfl
  ·cases a with|some _ _ hr=>
   cases hr;simp only[Instr.sliceBounds,wAP,wAp,wAH,zl w f]
 ·cases d with|some _ _ hr=>
  cases hr;rcases wX g with⟨rfl,rfl⟩|⟨k,rfl⟩
  ·cases a;simp only[Instr.sliceBounds,wAP,wAp,wAH,zl w e]
  ·cases a with|some _ _ hr=>
   cases hr;simp only[Instr.sliceBounds,wAP,wAp,wAH,zl w f,zl w e]
theorem EP (S:WR Δ h w) {ty i size:Nat} {x v:V} {xv:Value} {lo hi:Option V} {p q:Option Value} (N:VRel Δ x xv) (s:OptRel Δ lo p) (t:OptRel Δ hi q)
  (O:P0.underlying ty=some (.slice i)) (hs:szOf i=some (size+1)) (a:hsliceV (Nat.succ size) x lo hi h=some v) :
  ∃r,(Instr.sliceAt ty xv p q none).run P0 w = .ok r w/\VRel Δ v r:=by
 unfold hsliceV at a;split at a
 ·rename_i lc off len;rw[gU]at a;obtain⟨e,sz,live,ro,cs,T,a⟩:=a;simp only[fm,ei]at a;obtain⟨D,l,E,u,F,G,c,a⟩:=a;cases a;have j:=wAG D;have k:=wAZ G
  cases N with
  | slice _ _ _ cap o d H P I C=>
    obtain ⟨ob,y,U⟩:=S.obj lc d H;rw[T]at y;cases y;obtain⟨_,m,W,_,_⟩:=U;have z:u<=cap:=by
      rw[wAw]at c;rcases c with c|c
      ·exact wAq (wAZ c) I
      ·have Q:off+u*(size+1)<=cs.length:=wAZ c
       rcases C with⟨_,g,_⟩|⟨hc,g⟩
       ·rw[m,<-j]at g
        have:u*(size+1)<=cap*(size+1):=by have e:Nat.succ size=size+1:=rfl;rw[e]at g;omega
        exact Nat.le_of_mul_le_mul_right this (by omega)
       ·have:u*(size+1)=0:=by omega
        rcases Nat.mul_eq_zero.1 this with h0|h0 <;> omega
    have f:=zH (isS:=true) (len:=len) (cap:=cap) w s t E F k z;have X:l<=cap:=wAq k z;refine⟨.slice (if cap=l then some ⟨d.b,o,none⟩ else some ⟨d.b,o+l*(size+1),none⟩) (u-l) (cap-l),?_,?_⟩
    ·simp only[Instr.sliceAt,wAP,ey O,wAH,Instr.slice,f,pI hs]
     split <;> simp[jY, *]
    ·have A:cap*d.sz=l*d.sz+(cap-l)*d.sz:=by rw[<-wBB];congr 1;omega
     have R:d.sz=size+1:=by rw[m,<-j]
     split
     ·rename_i B
      refine .slice lc (Nat.add off (Nat.mul l (Nat.succ size))) (Nat.sub u l) (cap-l) o d H P ?_ (.inr ⟨by omega,?_⟩)
      ·show u-l<=cap-l;omega
      ·show d.n<=off+l*(size+1)
       rcases C with⟨_,g,_⟩|⟨hc,g⟩
       ·rw[B,R]at g;exact g
       ·omega
     ·rename_i B
      refine .slice lc (Nat.add off (Nat.mul l (Nat.succ size))) (Nat.sub u l) (cap-l) (o+l*(size+1)) d H P ?_ (.inl ?_)
      ·show u-l<=cap-l;omega
      ·show o+l*(size+1)=d.base+(off+l*(size+1))/\d.n<=off+l*(size+1)+(cap-l)*d.sz/\d.base+(off+l*(size+1))+(cap-l)*d.sz<=d.asz
       rcases C with⟨C,g,J⟩|⟨hc,g⟩
       ·rw[R]at A g J⊢
        omega
       ·omega
 ·simp only[fm,ei]at a;obtain⟨l,E,u,F,I,K,a⟩:=a;cases a;have L:=wAG I;have M:=wAG K;subst L;subst M;cases N;have f:=zH (isS:=true) (len:=0) (cap:=0) w s t E F (wAF _) (wAF _);exact⟨.slice none 0 0,by simp[Instr.sliceAt,ey O,Instr.slice,f,pI hs],.nilSlice⟩
 ·cases a
theorem zd (s:ByteArray) (p q:Nat):(s.extract p q).data.toList=(s.data.toList.drop p).take (q-p):=by
 obtain⟨⟨l⟩⟩:=s;rw[ByteArray.extract_mk]
theorem E5 {ty:Nat} {x v:V} {xv:Value} {lo hi:Option V} {b c:Option Value} (w:World) (i:VRel Δ x xv) (e:OptRel Δ lo b) (f:OptRel Δ hi c)
  (j:P0.underlying ty=some .string) (a:hsliceS x lo hi=some v):∃r,(Instr.sliceAt ty xv b c none).run P0 w = .ok r w/\VRel Δ v r:=by
 unfold hsliceS at a;split at a
 ·simp only[fm,ei]at a;obtain⟨l,k,u,m,g,h,a⟩:=a;cases a
  cases i with
  | str s=>
    have d:=zH (isS:=false) (len:=s.size) (cap:=s.size) w e f k m (wAZ g) (wAZ h);refine⟨.string (s.extract l u),by simp[Instr.sliceAt,ey j,Instr.slice,d],?_⟩;have:=VRel.str (Δ:=Δ) (s.extract l u);rw[zd]at this;exact this
 ·cases a
theorem Gf (c:WR Δ h w) (d:TR Δ n t a) {ty:Nat} {p:PF} {xv:Value} {lo hi:Option Operand} {v:V} (o:∀v,p.f t h=some v->VRel Δ v xv)
  (b:(hslice ty p lo hi).f t h=some v):∃r,(Instr.sliceAt ty xv (lo.map a.eval) (hi.map a.eval) none).run P0 w = .ok r w/\VRel Δ v r:=by
 unfold hslice at b;split at b
 ·rename_i e;simp only[ei]at b;obtain⟨x,g,l,i,u,j,k⟩:=b;exact E5 w (o _ g) (AH c d i) (AH c d j) e k
 ·rename_i q e;split at b
  ·rename_i m s;simp only[ei]at b;obtain⟨x,g,l,i,u,j,k⟩:=b;exact EP c (o _ g) (AH c d i) (AH c d j) e s k
  ·cases b
 ·cases b
theorem zP {ty:Nat} {x y:V} {xv g:Value} {b:Bool} (h:VRel Δ x xv) (i:VRel Δ y g) (a:flatEq ty x y=some b) :
  (∀f w,(Op.equalIn (f+1) ty xv g).run P0 w = .ok b w)/\(∀d,P0.underlying ty=some d->Instr.sameNow d xv g=some b):=by
 unfold flatEq at a;split at a
 ·rename_i c;split at a
  ·rw[fm]at a;obtain⟨j,a⟩:=a;cases a;obtain rfl:=z9 j;cases h;cases i;exact⟨λf w=>run_equalIn_int w f ty _ _ _ _ c,λd e=>by rw[c]at e;cases e;simp[Instr.sameNow]⟩
  ·cases a
 ·rename_i c;split at a
  ·cases a;cases h with|str xs=>cases i with|str ys=>
   refine⟨λf w=>?_,λd e=>?_⟩
   ·rw[run_equalIn_string w f ty _ _ c,ByteArray.toList_eq,ByteArray.toList_eq]
   ·rw[c]at e;cases e;simp only[Instr.sameNow];rw[beq_toListBytes,ByteArray.toList_eq,ByteArray.toList_eq]
  ·cases a
 ·rename_i c;split at a
  ·cases a;cases h;cases i;exact⟨λf w=>run_equalIn_bool' w f ty _ _ c,λd e=>by rw[c]at e;cases e;simp[Instr.sameNow]⟩
  ·cases a
 ·cases a
theorem Gq {ty:Nat} (a:flatT ty=true):aggT ty=some false:=by
 unfold flatT at a;unfold aggT;split at a <;> simp_all
theorem z8 {ty:Nat} {cs:List V} {cs':Array Value} {off:Nat} {v:V} (w:World) (a:flatT ty=true) (hc:VsRel Δ cs cs'.toList) (b:at1 cs off=some v) :
  ∃x,(part ty cs' off).run P0 w = .ok x w/\VRel Δ v x:=
 BL w hc (by unfold hpart;rw[Gq a];exact b)
theorem DO:∀{fs:List Field} {x y:List V} {xs ys:Array Value} {b:Bool},(∀f∈fs,flatT f.type=true/\f.name≠ "_")->VsRel Δ x xs.toList->VsRel Δ y ys.toList->
  rowEq fs x y=some b->∀a w,(Op.eqFields (a+1) xs ys fs).run P0 w = .ok b w
 |[],x,y,xs,ys,b,_,_,_,hv,a,w=>by simp[rowEq]at hv;subst hv;rfl
 | f::fs,x,y,xs,ys,b,hf,hx,hy,hv,a,w=>by
   simp only[rowEq,ei]at hv;obtain⟨p,j,q,k,e,l,i⟩:=hv;obtain⟨c,d⟩:=hf f (by simp);obtain⟨r,m,g⟩:=z8 w c hx j;obtain⟨s,hq,h⟩:=z8 w c hy k;have n:=(zP g h l).1 a w;simp only[Op.eqFields];rw[if_pos d];simp only[wAP,m,hq,n,wAH]
   cases e with
   |false=>cases i;rfl
   |true=>exact DO (λf o=>hf f (by simp[o])) hx hy i a w
theorem Ca {ty:Nat} (a:keyD ty=some none):flatT ty=true:=by
 unfold keyD at a;unfold flatT;split at a <;> first|(split at a <;> cases a)|simp_all
theorem BG {ty:Nat} {fs:List Field} (a:keyD ty=some (some fs)):∃b,P0.underlying ty=some (.struct b)/\b.toList=fs/\P0.stoodInHeld ty=false/\∀f∈fs,flatT f.type=true/\f.name≠ "_" :=by
 unfold keyD at a;split at a
 ·cases a
 ·cases a
 ·cases a
 ·rename_i b d;split at a
  ·rename_i c;cases a;simp only[wAJ,wBl,wAs,wCJ,ne_eq]at c;exact⟨b,d,rfl,c.1,c.2⟩
  ·cases a
 ·cases a
theorem Ib {ty:Nat} {d:Option (List Field)} {x y:V} {xv i:Value} {b:Bool} (k:keyD ty=some d) (f:VRel Δ x xv) (g:VRel Δ y i) (a:keyEq ty d x y=some b) (w:World) :
  (Op.equal ty xv i).run P0 w = .ok b w:=by
 cases d with
 |none=>exact(zP f g a).1 9999 w
 | some fs=>
   obtain⟨h,j,c,hs,l⟩:=BG k;simp only[keyEq]at a;split at a
   ·cases f with|agg _ xs f=>cases g with|agg _ ys g=>
    have e:P0.fieldsOf ty=h:=by simp[Program.fieldsOf,j]
    have:=run_equalIn_struct (P:=P0) w 9999 ty xs ys (by rw[e];exact j) hs;rw[e,c]at this;exact this.trans (DO l f g a 9998 w)
   ·cases a
def FRel (Δ:Env):Option (Nat×V)->Option (Nat×Value)->Prop
 |none,none=>True
 |some (i,v),some (i',v')=>i=i'/\VRel Δ v v'
 |_,_=>False
theorem yg {ty:Nat} {d:Option (List Field)} {k:V} {f:Value} (g:keyD ty=some d) (h:VRel Δ k f) (w:World):∀{c:List (V×V×Nat)} {a:List MapEntry} {i:Nat} {r:Option (Nat×V)},
  ERel Δ c a->findV ty d k c i=some r->∃r',(Instr.findAsking ty f a i).run P0 w = .ok r' w/\FRel Δ r r'
 |_,_,i,r,.nil,hv=>by simp[findV]at hv;subst hv;exact⟨none,rfl,trivial⟩
 | _,_,i,r,.cons k' v n e c a hk' hv' hb hs,hv=>by
   simp only[findV,ei]at hv;obtain⟨b,l,j⟩:=hv;have m:=Ib g h hk' l w;simp only[Instr.findAsking,wAP,m,wAH]
   cases b with
   |true=>cases j;exact⟨some (i,e.val),rfl,rfl,hv'⟩
   |false=>exact yg g h w hs j
theorem Bs {ty:Nat} {k:V} {d:Value} {ds:TypeDesc} (f:P0.underlying ty=some ds) (g:VRel Δ k d):∀{c:List (V×V×Nat)} {a:List MapEntry} {i:Nat} {r:Option (Nat×V)},
  ERel Δ c a->findV ty none k c i=some r->∃r',Instr.findNow ds d a i=some r'/\FRel Δ r r'
 |_,_,i,r,.nil,hv=>by simp[findV]at hv;subst hv;exact⟨none,rfl,trivial⟩
 | _,_,i,r,.cons k' v n e c a hk' hv' hb hs,hv=>by
   simp only[findV,ei]at hv;obtain⟨b,j,h⟩:=hv;have l:=(zP g hk' j).2 ds f;simp only[Instr.findNow,l]
   cases b with
   |true=>cases h;exact⟨some (i,e.val),rfl,rfl,hv'⟩
   |false=>exact Bs f g hs h
theorem vS {ty:Nat} {d:Option (List Field)} {k:V} {c:Value} (i:keyD ty=some d) (q:VRel Δ k c) (w:World) {g:List (V×V×Nat)} {a:List MapEntry} {r:Option (Nat×V)}
  (s:ERel Δ g a) (h:findV ty d k g 0=some r):∃r',(Instr.findKey ty c a).run P0 w = .ok r' w/\FRel Δ r r':=by
 cases d with
 | none=>
   have t:=Ca i;unfold flatT at t
   cases b:P0.underlying ty with
   |none=>simp[b]at t
   | some ds=>
     obtain⟨r',j,l⟩:=Bs b q s h
     exact⟨r',by simp[Instr.findKey,ey b,j],l⟩
 | some fs=>
   obtain⟨f,b,_,_,_⟩:=BG i
   cases s with
   | nil=>
     simp[findV]at h;subst h
     exact⟨none,by simp[Instr.findKey,ey b,Instr.findNow],trivial⟩
   | cons k' v n e g a m o u hs=>
     obtain ⟨r',j,l⟩:=yg i q w (.cons k' v n e g a m o u hs) h;refine⟨r',?_,l⟩;have p:Instr.findNow (.struct f) c (e::a) 0=none:=by
       simp only[Instr.findNow];have:Instr.sameNow (.struct f) c e.key=none:=by cases c <;> rfl
       rw[this]
     simp only[Instr.findKey,wAP,ey b,wAH,p];exact j
theorem w5 {em:Bool} {q:Nat} {cs:List V} {cs':Array Value} (w:World) (hq:0<q) (hc:VsRel Δ cs cs'.toList):∀(fs:List Field),(∀f∈fs,flatT f.type=true/\f.name≠ "_")->
  (fs.all λf=>(at1 cs f.offset).isSome)=true->
  (forIn fs PUnit.unit (λf _=>if f.name≠ "_" then do
    let x <-part f.type cs' f.offset
    Instr.checkKey em q f.type x
    pure (ForInStep.yield PUnit.unit)
   else pure (ForInStep.yield PUnit.unit):Field->PUnit->Sem (ForInStep PUnit))).run P0 w = .ok PUnit.unit w
 |[],_,_=>rfl
 | f ::fs,hf,hh=>by
   obtain⟨m,rfl⟩:∃m,q=m+1:=⟨q-1,by omega⟩
   obtain ⟨a,c⟩:=hf f (by simp);simp only[wCD,wAJ]at hh;obtain⟨v,e⟩:=Option.isSome_iff_exists.1 hh.1;obtain⟨x,g,j⟩:=z8 w a hc e;have d:(Instr.checkKey em (m+1) f.type x).run P0 w = .ok () w:=by
     unfold flatT at a;split at a
     ·rename_i b;simp[Instr.checkKey,ey b]
     ·rename_i b;simp[Instr.checkKey,ey b]
     ·rename_i b;simp[Instr.checkKey,ey b]
     ·cases a
   have h:=w5 (em:=em) (q:=m+1) w hq hc fs (λf i=>hf f (by simp[i])) hh.2;rw[List.forIn_cons];rw[if_pos c];simp only[wAP,g,d,wAH,wAp];exact h
theorem qA {ty:Nat} {d:Option (List Field)} {k:V} {f:Value} (em:Bool) (q:Nat) (hq:0<q) (w:World) (g:keyD ty=some d) (h:VRel Δ k f) (e:keyHas d k=true) :
  (Instr.checkKey em (q+1) ty f).run P0 w = .ok () w:=by
 cases d with
 | none=>
   have a:=Ca g;unfold flatT at a;split at a
   ·rename_i b;simp[Instr.checkKey,ey b]
   ·rename_i b;simp[Instr.checkKey,ey b]
   ·rename_i b;simp[Instr.checkKey,ey b]
   ·cases a
 | some fs=>
   obtain⟨i,b,c,_,j⟩:=BG g;simp only[keyHas]at e;split at e
   ·cases h with
    | agg cs cs' hc=>
      have:=w5 (em:=em) (q:=q) w hq hc fs j e;rw[<-c,Array.forIn_toList]at this;simp only[Instr.checkKey,wAP,ey b,wAH,this];rfl
   ·cases e
end
section
variable{Δ:Env}{h:Hp}{w:World}{n:Nat}{t:Tm}{a:Act}
theorem yF (g:WR Δ h w) {l:Nat} {d:D} (i:Δ l=some d) {e:List (V×V×Nat)} {c:Nat} (j:h.get l=some (.map e c)) :
  ∃a,w.heap[d.b]? =some (.map a c)/\ERel Δ e a.toList:=by
 obtain⟨o,f,k⟩:=g.obj l d i;rw[j]at f;cases f;obtain⟨_,_,_,a,m,n⟩:=k;exact⟨a,m,n⟩
theorem gf{r:Nat}{a:Array MapEntry}{c:Nat}(b:w.heap[r]? =some (.map a c)):(getObj r).run P0 w = .ok (.map a c) w:=by simp[getObj,Sem.run,b]
theorem Em {z:V} {a:Value} {ok:Bool} {r:Option (Nat×V)} {r':Option (Nat×Value)} (c:VRel Δ z a) (b:FRel Δ r r') :
  VRel Δ (found z ok r) (match r' with
   |some (_,v)=>if ok then .tuple #[v,.bool true] else v
   |none=>if ok then .tuple #[a,.bool false] else a):=by
 cases r with
 | none=>cases r' with
   |none=>cases ok
          ·exact c
          ·exact .tuple _ _ (.cons _ _ _ _ c (.one (.bool false)))
   |some _=>cases b
 | some x=>cases r' with
   |none=>cases b
   | some e=>
     obtain⟨_,d⟩:=b;cases ok
     ·exact d
     ·exact .tuple _ _ (.cons _ _ _ _ d (.one (.bool true)))
theorem EN (F:WR Δ h w) {A:Nat} {p q:PF} {ok:Bool} {mv B:Value} {v:V} (G:∀v,p.f t h=some v->VRel Δ v mv) (hq:∀v,q.f t h=some v->VRel Δ v B)
  (a:(hlookup A p q ok).f t h=some v):∃r,(Instr.lookup A mv B ok).run P0 w = .ok r w/\VRel Δ v r:=by
 unfold hlookup at a;split at a
 ·rename_i O P C;split at a
  ·rename_i d z n H;obtain⟨Q,i,j,_⟩:=sB H;simp only[ei,fm]at a;obtain⟨m,I,k,J,D,b⟩:=a;have E:=G _ I;have o:=hq _ J;split at b
   ·cases b;cases E;have e:=qA true 9999 (by omega) w n o D;have g:=vS n o w ERel.nil (r:=none) (by simp[findV]);obtain⟨r',g,s⟩:=g;have u:r' = none:=by cases r' <;> first|rfl|cases s
    subst u;refine⟨_,?_,Em (ok:=ok) (r:=none) (r':=none) (j Δ) trivial⟩;simp only[Instr.lookup,wAP,ey C,wAH,wAp];rw[show(#[]:Array MapEntry).isEmpty=true from rfl,e];simp only[wAH];rw[g];simp only[wAH,wAP,i,wAp]
   ·simp only[sN,ei]at b;obtain⟨R,c,K,r,g,b⟩:=b;cases b
    cases E with
    | map l S L=>
      obtain⟨y,M,N⟩:=yF F L K;obtain⟨r',g,s⟩:=vS n o w N g;have e:=qA y.isEmpty 9999 (by omega) w n o D;refine⟨_,?_,Em (ok:=ok) (j Δ) s⟩;simp only[Instr.lookup,wAP,ey C,wAH,wAp,gf M,e,g]
      cases r' with
      |none=>simp only[wAP,i,wAH,wAp]
      |some x=>rfl
   ·cases b
  ·cases a
 ·cases a
theorem IA (A:WR Δ h w) {ty:Nat} {u:Array Nat} (i:u[0]? =some ty) {rt:Nat} {p:PF} {xv:Value} {v:V} (z:∀v,p.f t h=some v->VRel Δ v xv)
  (j:(hlen ty p).f t h=some v):∃r,(Builtin.len_ u rt #[xv]).run P0 w = .ok r w/\VRel Δ v r:=by
 unfold hlen at j;split at j
 ·rename_i n;rw[ei]at j;obtain⟨x,q,g⟩:=j;have o:=z _ q;split at g
  ·cases g
   cases o with
   |str s=>exact⟨goInt s.size,by simp[Builtin.len_,i,ey n],.int _ _⟩
  ·cases g
 ·rename_i e n;rw[ei]at j;obtain⟨x,q,g⟩:=j;have o:=z _ q;split at g
  ·rename_i lc off m;cases g;cases o;exact⟨goInt m,by simp[Builtin.len_,i,ey n],.int _ _⟩
  ·cases g;cases o;exact⟨goInt 0,by simp[Builtin.len_,i,ey n],.int _ _⟩
  ·cases g
 ·rename_i m e n;rw[ei]at j;obtain⟨x,q,g⟩:=j;cases g;exact⟨goInt m,by simp[Builtin.len_,i,ey n],.int _ _⟩
 ·rename_i k e n;rw[ei]at j;obtain⟨x,q,g⟩:=j;have o:=z _ q;split at g
  ·cases g;cases o;exact⟨goInt 0,by simp[Builtin.len_,i,ey n],.int _ _⟩
  ·rw[sN]at g;obtain⟨B,c,C,g⟩:=g;cases g
   cases o with
   | map l d D=>
     obtain ⟨y,E,F⟩:=yF A D C;have hlen:B.length=y.size:=by
       have:∀{a:List (V×V×Nat)} {b:List MapEntry},ERel Δ a b->a.length=b.length:=λh=>by induction h <;> simp_all
       simpa using this F
     refine⟨goInt y.size,by simp[Builtin.len_,i,ey n,gf E],?_⟩;rw[hlen];exact .int _ _
  ·cases g
 ·cases j
theorem C0 {c:Bool} (w:World):∀{l:List V} {d:List Value} {x:V} {a:Value} {v:V},VRel Δ x a->VsRel Δ l d->hmin c x l=some v->
  ∃r,(d.foldlM (if c then Builtin.max2 else Builtin.min2) a).run P0 w = .ok r w/\VRel Δ v r
 |[],_,x,a,v,hx,hl,hv=>by simp[hmin]at hv;subst hv;cases hl;exact⟨a,rfl,hx⟩
 | y ::l,_,x,a,v,hx,hl,hv=>by
   cases hl with
   | cons _ j _ d g hs=>
     unfold hmin at hv;split at hv
     ·rename_i e;cases e
     ·rename_i k p k' q r h
      cases h;cases hx;cases g;obtain⟨f,b,i⟩:=C0 w (.int k _) hs hv;refine⟨f,?_,i⟩;rw[List.foldlM_cons];simp only[wAP];cases c
      ·simp only[wAo,if_false,Builtin.min2,wAp,wAH]at b⊢;exact b
      ·simp only[if_true,Builtin.max2,wAp,wAH]at b⊢;exact b
     ·cases hv
theorem BW {ty:Nat} (hi:isIface ty=some false):∃d,P0.underlying ty=some d/\∀m,d≠ .interface m:=by
 unfold isIface at hi;split at hi
 ·cases hi
 ·rename_i d a b;exact⟨d,b,λm e=>a m (by rw[e])⟩
 ·cases hi
theorem EO {p:PF} {a xT:Nat} {ok:Bool} {xv:Value} {v:V} (w:World) (s:∀v,p.f t h=some v->VRel Δ v xv)
  (c:(hassert p a ok).f t h=some v):∃r,(Instr.typeAssert xv xT a ok).run P0 w = .ok r w/\VRel Δ v r:=by
 unfold hassert at c;split at c
 ·rename_i z hi A;obtain⟨q,g,i,_⟩:=sB A;obtain⟨d,j,k⟩:=BW hi;rw[ei]at c;obtain⟨x,B,b⟩:=c;have l:=s _ B;split at b
  ·rename_i u y;cases b
   cases l with
   | iface _ _ m n=>
     rw[FG];by_cases e:u=a
     ·have o:Nat.beq u a=true:=by rw[e];exact wBG _
      rw[if_pos o];refine⟨.tuple #[m,.bool true],?_,.tuple _ _ (.cons _ _ _ _ n (.one (.bool true)))⟩;simp only[Instr.typeAssert,wAP,ey j,wAH];cases d <;> first|exact absurd rfl (k _)|(rw[if_pos e];rfl)
     ·have o:¬Nat.beq u a=true:=λh=>e (wAG h)
      rw[if_neg o];refine⟨.tuple #[q,.bool false],?_,.tuple _ _ (.cons _ _ _ _ (i Δ) (.one (.bool false)))⟩;simp only[Instr.typeAssert,wAP,ey j,wAH];cases d <;> first|exact absurd rfl (k _)|(rw[if_neg e];simp[g])
  ·rename_i u y;rw[fm]at b;obtain⟨e,b⟩:=b;cases b;have e:=wAG e
   cases l with
   | iface _ _ m n=>
     refine⟨m,?_,n⟩;simp only[Instr.typeAssert,wAP,ey j,wAH];cases d <;> first|exact absurd rfl (k _)|(rw[if_pos e];rfl)
  ·cases b;cases l;refine⟨.tuple #[q,.bool false],?_,.tuple _ _ (.cons _ _ _ _ (i Δ) (.one (.bool false)))⟩;simp only[Instr.typeAssert,wAP,ey j,wAH];cases d <;> first|exact absurd rfl (k _)|simp[g]
  ·cases b
 ·cases c
theorem HL {c p q:PF} {g pv d:Value} {v:V} (w:World) (hc:∀v,c.f t h=some v->VRel Δ v g) (i:∀v,p.f t h=some v->VRel Δ v pv) (hq:∀v,q.f t h=some v->VRel Δ v d)
  (e:(hpick c p q).f t h=some v):∃r,(do pure (Next.value (if <-asBool g then pv else d)):Sem Next).run P0 w = .ok (.value r) w/\VRel Δ v r:=by
 unfold hpick at e;simp only[ei]at e;obtain⟨x,j,a⟩:=e;have k:=hc _ j;split at a
 ·rename_i b;cases k;cases b
  ·exact⟨d,by simp[asBool],hq _ a⟩
  ·exact⟨pv,by simp[asBool],i _ a⟩
 ·cases a
theorem CW {p:PF} {x:Operand} {v:V} (w:World) (i:∀v,p.f t h=some v->VRel Δ v (a.eval x)) (c:(hnilCheck p).f t h=some v) {dst ty pos af gd} :
  (execOp a.eval {dst:=dst,op:= .nilCheck x,type:=ty,pos:=pos,after:=af,guard:=gd}).run P0 w = .ok (.value (a.eval x)) w/\VRel Δ v (a.eval x):=by
 unfold hnilCheck at c;rw[ei]at c;obtain⟨y,g,b⟩:=c;have e:=i _ g;simp only[execOp];generalize a.eval x=xv at e⊢;split at b
 ·cases b;cases e with|ptr _ _ d hd=>exact⟨rfl,.ptr _ _ d hd⟩
 ·cases b;cases e with|func _ _ _ p' q' g b=>exact⟨rfl,.func _ _ _ p' q' g b⟩
 ·cases b;cases e with|iface _ _ v' c=>exact⟨rfl,.iface _ _ v' c⟩
 ·cases b
theorem DN {p:PF} {i:Nat} {xv:Value} {v:V} (w:World) (g:∀v,p.f t h=some v->VRel Δ v xv) (a:(hextract p i).f t h=some v) :
  ∃r,(Instr.extract xv i).run P0 w = .ok r w/\VRel Δ v r:=by
 unfold hextract at a;rw[ei]at a;obtain⟨y,j,b⟩:=a;have k:=g _ j;split at b
 ·cases k with
  | tuple vs c d=>
    obtain⟨x,l,m⟩:=d.get _ _ (Bp b);have e:c[i]? =some x:=by simpa using l
    exact⟨x,by simp[Instr.extract,e],m⟩
 ·cases b
theorem Ex {cs:List V} {xs:List Value} {s:List UInt8} (f:VsRel Δ cs xs) (d:bytesOf cs=some s):xs=(s.map λb=>(b.toNat:Int)).map (Value.int .u8):=by
 induction cs generalizing xs s with
 |nil=>cases f;simp[bytesOf]at d;subst d;rfl
 | cons c cs h=>
   simp only[bytesOf,ei]at d;obtain⟨b,a,l,i,j⟩:=d;cases j
   cases f with
   | cons _ x _ xs k e=>
     rw[h e i];unfold byteOf at a;split at a
     ·rename_i m
      rw[fm]at a;obtain⟨g,n⟩:=a;cases n;cases k;have o:m<256:=by rw[wBV]at g;exact g
      have:(UInt8.ofNat m).toNat=m:=by simp;omega
      simp only[wBO,this];rfl
     ·cases a
theorem EE (l:List UInt8):∀(r:ByteArray),((l.map λb=>(b.toNat:Int)).foldl (λr n=>r.push (UInt8.ofNat n.toNat)) r).data.toList=r.data.toList++l:=by
 induction l with
 |nil=>intro r;simp
 | cons b l a=>
   intro r;simp only[wBO,List.foldl_cons];rw[a];simp[ByteArray.push]
theorem Bn {src dst e:Nat} (hs:P0.underlying src=some (.slice e)) (c:P0.underlying dst=some .string) (d:P0.underlying e=some (.int .u8)) {ad:Option Addr} {len cap:Nat} {cs:List V} {s:List UInt8}
  (h:bytesOf cs=some s) (hc:∀b,ad=some b->∃xs,(loadCells b len).run P0 w = .ok (Array.mk xs) w/\VsRel Δ cs xs) (i:ad=none->s=[]) :
  ∃x,(convert src dst (.slice ad len cap)).run P0 w = .ok x w/\VRel Δ (.str s) x:=by
 cases ad with
 | none=>
   cases i rfl
   exact⟨.string .empty,by simp[convert,ey hs,ey c,ey d,Conv.bytesToString],.str ByteArray.empty⟩
 | some b=>
   obtain⟨xs,f,j⟩:=hc b rfl;rw[Ex j h]at f;have g:=run_bytesToString (P:=P0) w b len cap _ f;generalize hB:(List.foldl (λr n=>ByteArray.push r (UInt8.ofNat n.toNat)) ByteArray.empty (List.map (λb=>(b.toNat:Int)) s))=B at g;have a:B.data.toList=s:=by rw[<-hB,EE];rfl
   refine⟨.string B,?_,by rw[<-a];exact .str B⟩;simp only[convert,wAP,ey hs,ey c,wAH,ey d,g]
theorem pg (c:WR Δ h w) {l:Nat} {d:D} (e:Δ l=some d) {off m:Nat} {cs:List V} (f:ldAt h l off m=some cs) :
  ∃xs,(loadCells ⟨d.b,d.base+off,none⟩ m).run P0 w = .ok (Array.mk xs) w/\VsRel Δ cs xs:=by
 obtain⟨a,g,i⟩:=za c e f;exact⟨a.toList,by simpa using g,i⟩
theorem Ee {l off m:Nat} {cs:List V} (a:ldAt h l off m=some cs):cs.length=m:=by
 unfold ldAt at a;rw[gU]at a;obtain⟨e,sz,live,ro,all,b,a⟩:=a;rw[fm]at a;exact(Dn a.2).1
theorem Ge (y:WR Δ h w) {src dst e:Nat} {p:PF} {xv:Value} {v:V} (hs:P0.underlying src=some (.slice e)) (g:P0.underlying dst=some .string) (z:∀v,p.f t h=some v->VRel Δ v xv) (a:(hconv src dst p).f t h=some v) :
  ∃r,(convert src dst xv).run P0 w = .ok r w/\VRel Δ v r:=by
 unfold hconv at a;rw[hs,g]at a;simp only at a;split at a
 ·rename_i n;simp only[ei]at a;obtain⟨x,A,c⟩:=a;have q:=z _ A;split at c
  ·cases c;cases q;exact Bn (Δ:=Δ) (w:=w) (src:=src) (dst:=dst) (e:=e) (ad:=none) (len:=0) (cap:=0) (cs:=[]) (s:=[]) hs g n rfl (λb i=>by cases i) (λ_=>rfl)
  ·rename_i l off len;simp only[ei]at c;obtain⟨cs,u,s,B,C⟩:=c;cases C
   cases q with
   | slice _ _ _ cap o d j G D E=>
     have k:∃xs,(loadCells ⟨d.b,o,none⟩ len).run P0 w = .ok (Array.mk xs) w/\VsRel Δ cs xs:=by
       rcases E with⟨rfl,_,_⟩|⟨rfl,_⟩
       ·exact pg y j u
       ·have:len=0:=by omega
        subst this;have m:cs=[]:=wAf (Ee u);subst m;exact⟨[],by simp[loadCells,loadCellsFrom],.nil⟩
     exact Bn (Δ:=Δ) (w:=w) (src:=src) (dst:=dst) (e:=e) (ad:=some ⟨d.b,o,none⟩) (len:=len) (cap:=cap) hs g n B (λb i=>by cases i;exact k) (λF=>by cases F)
  ·cases c
 ·cases a
theorem VsRel.toArray{l:List Operand}{vs:List V}(h:VsRel Δ vs (l.map a.eval)):VsRel Δ vs (l.toArray.map a.eval).toList:=by simpa using h
theorem Jt (J:WR Δ h w) (G:TR Δ n t a) {o:Oper} {v:V} (g:(pureC o).f t h=some v):∃x,(execOp a.eval o).run P0 w = .ok (.value x) w/\VRel Δ v x:=by
 obtain⟨dst,op,ty,pos,af,gd⟩:=o;have z:∀(x:Operand) v,(evO x).f t h=some v->VRel Δ v (a.eval x):=λx v L=>gW J G L
 cases op with
 |move x=>exact⟨_,rfl,z x v g⟩
 |assign x=>exact⟨_,rfl,z x v g⟩
 |pick c p q=>exact HL w (z c) (z p) (z q) g
 | load ty U=>
   obtain⟨x,D,B⟩:=Bt J (z U) g
   exact⟨x,iK D,B⟩
 | nilCheck x=>
   obtain⟨D,B⟩:=CW w (z x) g (dst:=dst) (ty:=ty) (pos:=pos) (af:=af) (gd:=gd)
   exact⟨_,D,B⟩
 | binOp op W x y yt=>
   simp only[pureC,ei]at g;obtain⟨p,D,q,B,H⟩:=g;obtain⟨r,u,A⟩:=Is (X:=x) (Y:=y) w (z x _ D) (z y _ B) H
   exact⟨r,iK u,A⟩
 | unOp op W x=>
   simp only[pureC,ei]at g;obtain⟨p,D,B⟩:=g;obtain⟨r,u,A⟩:=JY w (z x _ D) B
   exact⟨r,iK u,A⟩
 | convert src d x=>
   have M:∃r,(convert src d (a.eval x)).run P0 w = .ok r w/\VRel Δ v r:=by
     by_cases hsl:∃e,P0.underlying src=some (.slice e)/\P0.underlying d=some .string
     ·obtain⟨e,D,B⟩:=hsl
      exact Ge J D B (z x) g
     ·exact Hg w hsl (z x) g
   obtain⟨r,u,A⟩:=M
   exact⟨r,iK u,A⟩
 | build ty parts=>
   obtain⟨r,u,A⟩:=GL G g;refine⟨r,iK ?_,A⟩;rw[<-u];congr 2;apply Array.ext'
   simp
 | makeFunc fn first T=>
   cases fn with
   | func f=>
     simp only[pureC,ei]at g;obtain⟨p,D,q,B,H⟩:=g;cases H;refine⟨_,rfl,.func f p q _ _ ?_ ?_⟩
     ·have:=tP G D;simpa using this
     ·have:=tP G B;simpa using this
   |_=>cases g
 | slice ty x lo hi Z=>
   cases Z with
   | none=>
     obtain⟨r,u,A⟩:=Gf J G (z x) g
     exact⟨r,iK u,A⟩
   |some _=>cases g
 | fieldAddr s x f=>
   obtain⟨r,u,A⟩:=BZ w (z x) g
   exact⟨r,iK u,A⟩
 | field s x f=>
   obtain⟨r,u,A⟩:=Gm w (z x) g
   exact⟨r,iK u,A⟩
 | indexAddr ty x i=>
   obtain⟨r,u,A⟩:=B8 w (z x) (z i) g
   exact⟨r,iK u,A⟩
 | index ty x i=>
   obtain⟨r,u,A⟩:=GU w (z x) (z i) g
   exact⟨r,iK u,A⟩
 | lookup ty m k ok=>
   obtain⟨r,u,A⟩:=EN J (z m) (z k) g
   exact⟨r,iK u,A⟩
 | extract x i=>
   obtain⟨r,u,A⟩:=DN w (z x) g
   exact⟨r,iK u,A⟩
 | makeInterface ty x=>
   simp only[pureC]at g;split at g
   ·rename_i hi
    obtain⟨d,hu,hd⟩:=BW hi;simp only[ei]at g;obtain⟨p,D,B⟩:=g;cases B;refine⟨.iface ty (a.eval x),iK ?_,.iface _ _ _ (z x _ D)⟩;simp only[Instr.makeInterface,wAP,ey hu,wAH];cases d <;> first|exact absurd rfl (hd _)|rfl
   ·cases g
 | typeAssert x xT K ok=>
   obtain⟨r,u,A⟩:=EO (xT:=xT) w (z x) g
   exact⟨r,iK u,A⟩
 | call c =>
   obtain⟨F,args,E⟩:=c;simp only[pureC]at g
   cases F with
   | builtin b=>
     cases b <;> try (cases g;done)
     case len=>
       simp only at g;split at g
       ·rename_i x P aa j N
        have Q:E[0]? =some P:=by rw[<-wAv,N];rfl
        obtain⟨r,u,A⟩:=IA J (rt:=ty) Q (z x) g;refine⟨r,?_,A⟩;have O:args.map a.eval = #[a.eval x]:=by apply Array.ext';simp[j]
        simp only[execOp,resolve,O];exact iK u
       ·cases g
     case min=>
       simp only[ei]at g;obtain⟨l,D,B⟩:=g;split at B
       ·rename_i x r
        have C:=tP G D
        cases j:args.toList.map a.eval with
        |nil=>rw[j]at C;cases C
        | cons R r'=>
          rw[j]at C
          cases C with
          | cons _ _ _ _ L S=>
            obtain⟨I,H,u⟩:=C0 w L S B;refine⟨I,?_,u⟩;have O:(args.map a.eval).toList=R::r':=by simpa using j
            simp only[execOp,resolve];refine iK ?_;simp only[Builtin.min_,O];simpa using H
       ·cases B
     case max=>
       simp only[ei]at g;obtain⟨l,D,B⟩:=g;split at B
       ·rename_i x r
        have C:=tP G D
        cases j:args.toList.map a.eval with
        |nil=>rw[j]at C;cases C
        | cons R r'=>
          rw[j]at C
          cases C with
          | cons _ _ _ _ L S=>
            obtain⟨I,H,u⟩:=C0 w L S B;refine⟨I,?_,u⟩;have O:(args.map a.eval).toList=R::r':=by simpa using j
            simp only[execOp,resolve];refine iK ?_;simp only[Builtin.max_,O];simpa using H
       ·cases B
   |value f=>cases g
   |invoke r m=>cases g
 |_=>cases g
end
def RW (Δ:Env)(b:Nat):Prop:=∃l d,Δ l=some d/\d.ro=false/\d.b=b
structure FR (Δ a:Env) (w w':World):Prop where
 le:Δ.le a
 size:w.heap.size<=w'.heap.size
 os:w'.os=w.os
 tape:w'.tape=w.tape
 output:w'.output=w.output
 keep:∀b,b<w.heap.size->¬RW Δ b->w'.heap[b]? =w.heap[b]?
 new:∀l d,a l=some d->Δ l=some d\/w.heap.size<=d.b\/RW Δ d.b
theorem FR.refl (Δ:Env)(w:World):FR Δ Δ w w:=⟨Env.le_refl _,wAF _,rfl,rfl,rfl,λ_ _ _=>rfl,λ_ _ h=> .inl h⟩
theorem FR.trans {Δ n e:Env} {w w' f:World} (h:FR Δ n w w') (h':FR n e w' f):FR Δ e w f where
 le:=Env.le_trans h.le h'.le
 size:=wAq h.size h'.size
 os:=h'.os.trans h.os
 tape:=h'.tape.trans h.tape
 output:=h'.output.trans h.output
 keep:=λb o i=>by
  rw[h'.keep b (wAO o h.size) ?_,h.keep b o i];rintro⟨l,d,j,r,rfl⟩;rcases h.new l d j with a|a|a
  ·exact i ⟨l,d,a,r,rfl⟩
  ·omega
  ·exact i a
 new:=λl d j=>by
  rcases h'.new l d j with a|a|⟨p,q,k,m,c⟩
  ·exact h.new l d a
  ·exact .inr (.inl (wAq h.size a))
  ·rcases h.new p q k with g|g|g
   ·exact .inr (.inr ⟨p,q,g,m,c⟩)
   ·exact .inr (.inl (by rw[<-c];exact g))
   ·exact .inr (.inr (by rw[<-c];exact g))
theorem pQ (h:Hp) (o:O) (l:Nat):(h.new o).get l=if h.next=l then some o else h.get l:=by
 rw[Hp.get_eq,Hp.get_eq];unfold Hp.new;simp only[Tr.get_set];by_cases a:h.next=l
 ·subst a;simp
 ·simp only[a,if_false];by_cases b:l<h.next
  ·rw[if_pos (by omega),if_pos b]
  ·rw[if_neg (by omega),if_neg b]
theorem kw {h:Hp} {l:Nat} (o:O) (m:Nat) (b:l<h.next):(h.put l o).get m=if l=m then some o else h.get m:=by
 rw[Hp.get_eq,Hp.get_eq];unfold Hp.put;simp only[Tr.get_set];by_cases a:l=m
 ·subst a;simp[b]
 ·simp only[a,if_false]
def Env.set (Δ:Env)(l:Nat)(d:D):Env:=λm=>if m=l then some d else Δ m
theorem Env.le_set {Δ:Env} {l:Nat} {d:D} (h:Δ l=none):Δ.le (Δ.set l d):=λm e a=>by
 unfold Env.set;by_cases he:m=l
 ·subst he;rw[h]at a;cases a
 ·rw[if_neg he];exact a
theorem Env.set_self (Δ:Env)(l:Nat)(d:D):(Δ.set l d) l=some d:=if_pos rfl
theorem Env.set_other {Δ:Env} {l m:Nat} {d e:D} (h:(Δ.set l d) m=some e):(m=l/\e=d)\/(m≠l/\Δ m=some e):=by
 unfold Env.set at h;by_cases he:m=l
 ·rw[if_pos he]at h;cases h;exact .inl ⟨he,rfl⟩
 ·rw[if_neg he]at h;exact .inr ⟨he,h⟩
theorem WR.none_next {Δ:Env} {h:Hp} {w:World} (a:WR Δ h w):Δ h.next=none:=by
 cases hd:Δ h.next with
 |none=>rfl
 |some d=>exact absurd (a.fresh _ _ hd) (wBW _)
theorem vD (w:World) (ob:Obj) (b:Nat):(w.alloc ob).heap[b]? =if b=w.heap.size then some ob else w.heap[b]?:=by
 unfold World.alloc;simp only[Array.getElem?_push]
theorem TabOk.step {Δ n:Env} {w w':World} (h:TabOk Δ w) (q:∀b,b<w.heap.size->¬RW Δ b->w'.heap[b]? =w.heap[b]?) (r:∀l d,n l=some d->d.ro=false->Δ l=some d\/w.heap.size<=d.b\/RW Δ d.b):TabOk n w':=by
 intro g c s;obtain⟨⟨e,fr,o⟩,p⟩:=h g c s;have k:=(wAm.1 o).1;have f:¬RW Δ g:=λ⟨l,d,m,a,j⟩=>p l d m a j;refine⟨⟨e,fr,by rw[q g k f];exact o⟩,λl d m a j=>?_⟩;rcases r l d m a with i|i|i
 ·exact p l d i a j
 ·omega
 ·rw[j]at i;exact f i
theorem WR.lay {Δ:Env} {h:Hp} {w:World} (c:WR Δ h w) {l:Nat} {o:O} {d:D} {ob:Obj} (y:Δ l=none) (B:l<h.next) (C:h.get l=some o) (E:d.b=w.heap.size)
  (F:ORel (Δ.set l d) d o (some ob)):WR (Δ.set l d) h (w.alloc ob) where
 fresh:=λm e a=>by
  rcases Env.set_other a with⟨rfl,rfl⟩|⟨_,a⟩
  ·exact B
  ·exact c.fresh m e a
 blk:=λm e a=>by
  simp only[World.size_alloc];rcases Env.set_other a with⟨rfl,rfl⟩|⟨_,a⟩
  ·omega
  ·have:=c.blk m e a;omega
 obj:=λm e a=>by
  rcases Env.set_other a with⟨rfl,rfl⟩|⟨_,a⟩
  ·refine⟨o,C,?_⟩;rw[vD,if_pos E];exact F
  ·obtain⟨G,f,i⟩:=c.obj m e a;refine⟨G,f,?_⟩;rw[vD,if_neg (wBN (c.blk m e a))];exact i.mono (Env.le_set y)
 apart:=λm z e A p H a q j r s t k u=>by
  rcases Env.set_other a with⟨f,i⟩|⟨_,f⟩ <;> rcases Env.set_other q with⟨n,I⟩|⟨_,n⟩
  ·exact absurd (f.trans n.symm) j
  ·have:=c.blk z A n;rw[i];omega
  ·have:=c.blk m e f;rw[I];omega
  ·exact c.apart m z e A p H f n j r s t k u
 glob:=λg p v r=>by
  obtain⟨e,f,i⟩:=c.glob g p v r;exact⟨e,Env.le_set y _ _ f,i⟩
 gnext:=c.gnext
 tab:=c.tab.step (λb x _=>by rw[vD,if_neg (wBN x)]) λm e a _=>by
  rcases Env.set_other a with⟨rfl,rfl⟩|⟨_,a⟩
  ·exact .inr (.inl (by omega))
  ·exact .inl a
theorem WR.more {Δ:Env} {h:Hp} {w:World} (a:WR Δ h w) (o:O):WR Δ (h.new o) w where
 fresh:=λl d i=>wB6 (a.fresh l d i)
 blk:=a.blk
 obj:=λl d i=>by
  obtain⟨q,r,s⟩:=a.obj l d i;refine⟨q,?_,s⟩;rw[pQ,if_neg (Nat.ne_of_gt (a.fresh l d i))];exact r
 apart:=λm t e u p v n b j c f=>by
  rw[pQ,if_neg (Nat.ne_of_gt (a.fresh _ _ n))]at c;rw[pQ,if_neg (Nat.ne_of_gt (a.fresh _ _ b))]at f;exact a.apart m t e u p v n b j c f
 glob:=λg p k c=>by
  rw[pQ,if_neg (by have:=a.gnext;omega)]at c;exact a.glob g p k c
 gnext:=wBX a.gnext
 tab:=a.tab
theorem FR.lay {Δ:Env} {w:World} {l:Nat} {d:D} {ob:Obj} (f:Δ l=none) (g:d.b=w.heap.size):FR Δ (Δ.set l d) w (w.alloc ob) where
 le:=Env.le_set f
 size:=by simp
 os:=rfl
 tape:=rfl
 output:=rfl
 keep:=λb a _=>by rw[vD,if_neg (wBN a)]
 new:=λm e c=>by
  rcases Env.set_other c with⟨rfl,rfl⟩|⟨_,c⟩
  ·exact .inr (.inl (by omega))
  ·exact .inl c
def Made (Δ:Env) (ob:O) (mk:Nat->V) (a:Obj) (mv:Nat->Value):Prop:=
 ∀l b,Δ l=none->∃d,d.b=b/\ORel (Δ.set l d) d ob (some a)/\VRel (Δ.set l d) (mk l) (mv b)
theorem tL {Δ:Env} {d:D} {cs:List V} {c:Array Value} {e:Nat} (hs:c.size=d.asz) (a:d.base=0) (b:cs.length<=d.asz) (hc:∀(i:Nat) (v:V),cs[i]? =some v->∃x,c[i]? =some x/\VRel Δ v x) :
  CellsOk Δ d cs (some (.cells c e (0,0))):=
 ⟨c,e,(0,0),rfl,hs,λ_=> .inl rfl,by omega,λi v hi=>by rw[a,wAY];exact hc i v hi⟩
theorem Fp {Δ:Env} {e:Nat} {v:V} {xv:Value} {ob:O} {mk:Nat->V} (c:VRel Δ v xv) (a:hbox e v=some (ob,mk)) :
  Made Δ ob mk (.cells xv.cells e) (λb=> .pointer (some ⟨b,0,none⟩)):=by
 unfold hbox at a;rw[fm]at a;obtain⟨_,a⟩:=a;cases a;intro l b h;have hc:=c.cells;have f:=Env.le_set (d:=⟨b,0,1,v.cells.length,xv.cells.size,false,0⟩) h;refine⟨⟨b,0,1,v.cells.length,xv.cells.size,false,0⟩,rfl,⟨rfl,rfl,rfl,rfl,λ_=>?_⟩,?_⟩
 ·refine tL rfl rfl (wB1 (by first|(simpa using hc.length)|(simpa using g.length))) λi u hi=>?_;obtain⟨x,c,g⟩:=hc.get i u hi;exact⟨x,by simpa using c,g.mono f⟩
 ·exact VRel.ptr l 0 ⟨b,0,1,v.cells.length,xv.cells.size,false,0⟩ (Env.set_self _ _ _)
theorem xu {a size by_:Nat} {z:V} (h:elemOf a=some (size,by_,z)) :
  szOf a=some size/\byOf a=some by_/\zeroV a=some z/\0<size/\z.cells.length=size/\allOne z.cells=true:=by
 unfold elemOf at h;simp only[ei,fm]at h;obtain⟨s,d,b,e,k,f,c,g,i,j⟩:=h;cases j;rw[wBV]at c;exact⟨d,e,f,c,wAG g,i⟩
theorem sx {t e:Nat} (h:sliceOf t=some e):P0.underlying t=some (.slice e):=by
 unfold sliceOf at h;split at h
 ·rename_i b a;cases h;exact a
 ·cases h
theorem En (z:List V):∀(m i:Nat),(repl m z)[i]? =if i<m*z.length then z[i % z.length]? else none
 |0,i=>by simp[repl]
 | m + 1,i=>by
   simp only[repl,List.getElem?_append];by_cases a:i<z.length
   ·rw[if_pos a,if_pos (by rw[wBB];omega),Nat.mod_eq_of_lt a]
   ·rw[if_neg a,En z m]
    have e:i % z.length=(i-z.length) % z.length:=by
      rw[Nat.mod_eq_sub_mod (by omega)]
    rw[e];by_cases b:i-z.length<m*z.length
    ·rw[if_pos b,if_pos (by rw[wBB];omega)]
    ·rw[if_neg b,if_neg (by rw[wBB];omega)]
theorem tW (z:List V):∀m,(repl m z).length=m*z.length
 |0=>by simp[repl]
 |m+1=>by simp[repl,tW z m,wBB,Nat.add_comm]
theorem Ei {Δ:Env} {z:List V} {b:Array Value} (c:VsRel Δ z b.toList) (h0:0<z.length) (m:Nat):VsRel Δ (repl m z) ((Array.range (m*z.length)).map λi=>b[i % b.size]!).toList:=by
 have hlen:=c.length;simp only[wA2]at hlen;refine VsRel.of_get (by simp[tW]) λi v hi=>?_;rw[En]at hi;by_cases h:i<m*z.length
 ·rw[if_pos h]at hi;obtain⟨x,d,e⟩:=c.get _ _ hi;refine⟨x,?_,e⟩;have a:b[i % z.length]? =some x:=by simpa using d
  rw[hlen]at a;rw[wAv];simp[h,getElem!_def,a]
 ·rw[if_neg h]at hi;cases hi
section
variable{Δ:Env}{h:Hp}{w:World}{n:Nat}{t:Tm}{a:Act}
theorem El (Y : TR Δ n t a) {o:Oper} {ob:O} {mk:Nat->V} (g:(allocC o).f t=some (ob,mk)) :
    ∃mo mv,(∀w,(execOp a.eval o).run P0 w = .ok (.value (mv w.heap.size)) (w.alloc mo))/\Made Δ ob mk mo mv:=by
  obtain⟨dst,op,ty,pos,af,gd⟩:=o
  cases op with
  | alloc e=>
    simp only[allocC]at g;split at g
    ·rename_i z R
     obtain⟨A,B,D,_⟩:=sB R;refine⟨_,_,λw=>iK (x:= .pointer (some ⟨w.heap.size,0,none⟩)) ?_,Fp (D Δ) g⟩;simp[Instr.alloc,B,newVar,newRow]
    ·cases g
  | box e x=>
    simp only[allocC,ei]at g;obtain⟨v,S,Q⟩:=g;refine⟨_,_,λw=>iK (x:= .pointer (some ⟨w.heap.size,0,none⟩)) ?_,Fp (xe Y S) Q⟩
    simp[Instr.box,newVar,newRow]
  | buildSlice T len parts=>
    simp only[allocC]at g;split at g
    ·rename_i y J
     have hu:=sx J;split at g
     ·rename_i size by_ z he
      obtain⟨hs,_,R,U,E,_⟩:=xu he;obtain⟨A,B,D,_⟩:=sB R;split at g
      ·rename_i F
       have aj:len*size<=16777216:=wAZ F;simp only[hbuildSlice,ei,fm]at g;obtain⟨ps,S,cs,Q,_,K⟩:=g;cases K;have G:=(D Δ).cells;have j:=Ei G (by omega) len;have al:A.cells.size=size:=by have:=G.length;simp only[wA2]at this;omega
       have s:VsRel Δ (repl len z.cells) ((Array.range (len*size)).map λi=>(if len*size=0 then(#[]:Array Value) else A.cells)[i % (if len*size=0 then(#[]:Array Value) else A.cells).size]!).toList:=by
         by_cases h0:len*size=0
         ·rw[if_pos h0,h0]
          have:len=0:=by rcases Nat.mul_eq_zero.1 h0 with h|h <;> omega
          subst this;simp[repl];exact .nil
         ·rw[if_neg h0];rw[E]at j;exact j
       obtain⟨cs',Z,hr⟩:=AQ (vT Y S) s Q;refine⟨.cells cs' y,λb=> .slice (some ⟨b,0,none⟩) len len,λw=>iK (w:=w) (x:= .slice (some ⟨w.heap.size,0,none⟩) len len) ?_,?_⟩
       ·have C:(parts.map λ(x:Nat×Operand)=>(x.1,a.eval x.2)).toList=parts.toList.map λx=>(x.1,a.eval x.2):=by simp
        have aa:¬(len*size>2 ^ 24):=by omega
        have W:(if len*size=0 then(pure #[]:Sem (Array Value)) else do pure (<-zeroValue y).cells).run P0 w = .ok (if len*size=0 then(#[]:Array Value) else A.cells) w:=by
          by_cases h0:len*size=0
          ·rw[if_pos h0,if_pos h0];rfl
          ·rw[if_neg h0,if_neg h0];simp[B]
        simp only[Instr.buildSlice,wAP,ey hu,pI hs,wAH,Sem.run_ite];rw[if_neg aa];simp only[wAp,wAH,wAP];clear s W;by_cases h0:len*size=0
        ·simp only[if_pos h0]at Z⊢
         rw[C];have L:Instr.fill (λi=>some (i*size,size)) (Array.map (λx=>(#[]:Array Value)[x % (#[]:Array Value).size]!) (Array.range (len*size))) (List.map (λx=>(x.1,a.eval x.2)) parts.toList)=some cs':=Z;rw[L];rfl
        ·simp only[if_neg h0,B,wAH]at Z⊢
         rw[C];have L:Instr.fill (λi=>some (i*size,size)) (Array.map (λx=>A.cells[x % A.cells.size]!) (Array.range (len*size))) (List.map (λx=>(x.1,a.eval x.2)) parts.toList)=some cs':=Z;rw[L];rfl
       ·intro l b hn
        have M:=hr.length;simp only[wA2]at M;have am:cs.length=len*size:=by
          have h5:∀{place:Nat->Option (Nat×Nat)} {ps:List (Nat×V)} {c c':List V},fillV place c ps=some c'->c'.length=c.length:=by
            intro place ps
            induction ps with
            |nil=>intro c c' h;simp[fillV]at h;rw[h]
            | cons p ps ih=>
              intro c c' h;simp only[fillV,ei,fm]at h;obtain⟨q,_,_,an,h6,h7⟩:=h;rw[ih h7,(zJ h6).1]
          rw[h5 Q,tW,E]
        have F:=Env.le_set (d:=⟨b,0,size,cs.length,cs'.size,false,0⟩) hn;refine⟨⟨b,0,size,cs.length,cs'.size,false,0⟩,rfl,⟨rfl,rfl,rfl,rfl,λ_=>?_⟩,?_⟩
        ·refine tL rfl rfl (wB1 (by first|(simpa using hc.length)|(simpa using hr.length))) λi u hi=>?_
         obtain⟨x,hx,N⟩:=hr.get i u hi;exact⟨x,by simpa using hx,N.mono F⟩
        ·refine VRel.slice l 0 len len 0 ⟨b,0,size,cs.length,cs'.size,false,0⟩ (Env.set_self _ _ _) rfl (wAF _) (.inl ⟨rfl,?_,?_⟩)
         ·show cs.length<=0+len*size;omega
         ·show 0+0+len*size<=cs'.size;omega
      ·cases g
     ·cases g
    ·cases g
  | makeSlice T m c=>
    simp only[allocC]at g;split at g
    ·rename_i y J
     have hu:=sx J;split at g
     ·rename_i size by_ z he
      obtain⟨hs,P,R,U,E,_⟩:=xu he;obtain⟨A,B,D,i,hi,ao⟩:=sB R;simp only[ei]at g;obtain⟨mv,S,cv,Q,K⟩:=g;have hm:=xe Y S;have hc:=xe Y Q;unfold hmakeSlice at K;split at K
      ·rename_i H c'
       simp only[fm]at K;obtain⟨h4,h5,h6,h7⟩:=K;cases h7;have ab:H<=c':=wAZ h4;have ap:c'*by_<=281474976710656:=wAZ h5;have ac:c'<=1099511627776:=wAZ h6;have ae:i.bytes=by_:=by
         unfold byOf at P;rw[ei]at P;obtain⟨i',X,hb⟩:=P;rw[hi]at X;cases X;simpa using hb
       have G:=(D Δ).cells;have j:=Ei G (by omega) c';rw[E]at j;have ag:a.eval m = .int .i64 (H:Int):=by
         generalize a.eval m=x at hm;cases hm;rfl
       have ah:a.eval c = .int .i64 (c':Int):=by
         generalize a.eval c=x at hc;cases hc;rfl
       have wr:∀k:Nat,k<=1099511627776->IntKind.i64.wrap (k:Int)=k:=λk hk=>by
         simp[IntKind.wrap,IntKind.bits,IntKind.signed];omega
       refine⟨.cells ((Array.range (c'*size)).map λi=>A.cells[i % A.cells.size]!) y,λb=> .slice (some ⟨b,0,none⟩) H c',λw=>iK (w:=w) (x:= .slice (some ⟨w.heap.size,0,none⟩) H c') ?_,?_⟩
       ·rw[ag,ah]
        have e1:((i.bytes:Int)*(c':Int)>2 ^ 48)=False:=by
          rw[ae];have:(by_:Int)*(c':Int)=((c'*by_:Nat):Int):=by rw[Nat.mul_comm];simp
          rw[this];simp;omega
        have s:(if c'*size=0 then(pure #[]:Sem (Array Value)) else do pure (<-zeroValue y).cells).run P0 w = .ok (if c'*size=0 then(#[]:Array Value) else A.cells) w:=by
          by_cases h0:c'*size=0
          ·rw[if_pos h0,if_pos h0];rfl
          ·rw[if_neg h0,if_neg h0];simp[B]
        have I:((Array.range (c'*size)).map λi=>(if c'*size=0 then(#[]:Array Value) else A.cells)[i % (if c'*size=0 then(#[]:Array Value) else A.cells).size]!)=((Array.range (c'*size)).map λi=>A.cells[i % A.cells.size]!):=by
          by_cases h0:c'*size=0
          ·rw[h0];simp
          ·rw[if_neg h0]
        have c1:¬((c':Int)<0):=by omega
        have c2:¬((H:Int)<0):=by omega
        have c3:¬((H:Int)>(c':Int)):=by omega
        simp only[Instr.makeSlice,wAP,ey hu,wAH,asInt,asIntOf,wAp,typeInfo,run_program,hi,wr H (by omega),wr c' ac,e1,c1,c2,c3,decide_false,Bool.or_false,wAo,if_false,run_askRoom,pI hs,Int.toNat_natCast];clear s;by_cases h0:c'*size=0
        ·simp only[if_pos h0,newRow,run_newObj,wAP,wAp,wAH]at I⊢
         rw[I];rfl
        ·simp only[if_neg h0,B,newRow,run_newObj,wAP,wAp,wAH]
         rfl
       ·intro l b hn
        have M:=j.length;simp only[wA2]at M;have ai:(repl c' z.cells).length=c'*size:=by rw[tW,E]
        have F:=Env.le_set (d:=⟨b,0,size,(repl c' z.cells).length,c'*size,false,0⟩) hn;refine⟨⟨b,0,size,(repl c' z.cells).length,c'*size,false,0⟩,rfl,⟨rfl,rfl,rfl,rfl,λ_=>?_⟩,?_⟩
        ·refine tL (by simp) rfl (wB1 ai) λi u hi=>?_
         obtain⟨x,hx,N⟩:=j.get i u hi;exact⟨x,by rw[wAv]at hx;exact hx,N.mono F⟩
        ·refine VRel.slice l 0 H c' 0 ⟨b,0,size,(repl c' z.cells).length,c'*size,false,0⟩ (Env.set_self _ _ _) rfl ab (.inl ⟨rfl,?_,?_⟩)
         ·show(repl c' z.cells).length<=0+c'*size;omega
         ·show 0+0+c'*size<=c'*size;omega
      ·cases K
     ·cases g
    ·cases g
  | makeMap T r=>
    cases r with
    | none=>
      simp only[allocC]at g;split at g
      ·cases g
       refine⟨.map #[] 0,λb=> .map (some b),λw=>iK (x:= .map (some w.heap.size)) (by simp[Instr.makeMap]),?_⟩;intro l b hn;exact⟨⟨b,0,0,0,0,false,1⟩,rfl,⟨rfl,rfl,rfl,#[],rfl,.nil⟩,VRel.map l ⟨b,0,0,0,0,false,1⟩ (Env.set_self _ _ _)⟩
      ·cases g
    |some _=>cases g
  |_=>cases g
end
