/- Parts. -/
import Derived.Test.YtkpicojjjifmgabGreatDoorM01
import Derived.Laws.Pointers
import Derived.Laws.StructEq
import Derived.Laws.Strings2
import Derived.Laws.IdiomStrings
set_option maxHeartbeats 4000000
namespace Go.Proofs.YtkpicojjjifmgabGreatDoor.Hx
inductive vm (Δ:Env):List (V×V×Nat)->List MapEntry->Prop
 |nil:vm Δ [] []
 | cons (k v:V) (n:Nat) (e:MapEntry) (b:List (V×V×Nat)) (a:List MapEntry) (c:fR Δ k e.key) (hv:fR Δ v e.val) (hb:e.born=n)
   (hs:vm Δ b a):vm Δ ((k,v,n)::b) (e::a)
theorem vm.mono{Δ d:Env} (b:Δ.le d) {c:List (V×V×Nat)} {a:List MapEntry} (h:vm Δ c a):vm d c a:=by
 induction h with
 |nil=>exact .nil
 |cons k v n e c a f hv hb _ g=>exact .cons k v n e c a (f.mono b) (hv.mono b) hb g
def Hv(Δ:Env) (d:D) (cs:List V) (ob:Option Obj):Prop:=∃c e fr,ob=some (.cells c e fr)/\c.size=d.Wl/\(d.ro=false->fr.1=fr.2\/d.Wl<=fr.1)/\d.base+cs.length<=d.Wl/\∀(i:Nat) (v:V),cs[i]? =some v->∃x,c[d.base+i]? =some x/\fR Δ v x
def Tg(Δ:Env) (d:D) (o:O) (ob:Option Obj):Prop:=match o with
 | .cells _ sz live ro cs=>d.kind=0/\d.sz=sz/\d.n=cs.length/\d.ro=ro/\(live=true->Hv Δ d cs ob)
 | .map g a=>d.kind=1/\d.ro=false/\d.base=0/\∃c,ob=some (.map c a)/\vm Δ g c.toList
 | .iter m since seen last=>d.kind=2/\d.ro=false/\d.base=0/\∃e,ob=some (.mapIter e since seen.toArray last)/\
   (match m with
    |none=>e=none
    |some l=>∃f,Δ l=some f/\e=some f.b)
def O.live:O->Bool
 | .cells _ _ live _ _=>live
 |_=>true
def Dz(Δ:Env)(w:World):Prop:=∀g c,(g,c)∈zes->(∃e fr,w.heap[g]? =some (.cells c e fr))/\∀l d,Δ l=some d->d.ro=false->d.b≠g
structure WR (Δ:Env) (h:Hp) (w:World):Prop where
 fresh:∀l d,Δ l=some d->l<h.next
 pE:∀l d,Δ l=some d->d.b<w.heap.size
 obj:∀l d,Δ l=some d->∃o,h.get l=some o/\Tg Δ d o w.heap[d.b]?
 apart:∀l a d c o e,Δ l=some d->Δ a=some c->l≠a->h.get l=some o->h.get a=some e->o.live=true->e.live=true->
  (d.ro=false\/c.ro=false)->d.b≠c.b
 JJ:∀g o,g<P0.globals.size->h.get g=some o->∃d,Δ g=some d/\d.b=g/\d.base=0
 Ae:P0.globals.size<=h.next
 VM:Dz Δ w
inductive J8 (Δ:Env):List (Nat×List V)->List Deferred->Prop
 |nil:J8 Δ [] []
 | cons (g:Nat) (args:List V) (cap gW:Array Value) (l:List (Nat×List V)) (a:List Deferred) (b:gQ Δ args (gW++cap).toList) (c:J8 Δ l a) :
   J8 Δ ((g,args)::l) ({target:= .fn (.func g) cap,args:=gW}::a)
theorem J8.mono{Δ c:Env} (b:Δ.le c) {l:List (Nat×List V)} {a:List Deferred} (h:J8 Δ l a):J8 c l a:=by
 induction h with
 |nil=>exact .nil
 |cons g args cap gW l a d _ e=>exact .cons g args cap gW l a (d.mono b) e
structure TR (Δ:Env) (n:Nat) (t:Tm) (a:Act):Prop where
 size:a.tmps.size=n
 rel:∀i,fR Δ (kj t i) (a.tmps.getD i undef)
 ds:J8 Δ t.ds a.defers
theorem Hv.mono{Δ b:Env} (a:Δ.le b) {d:D} {cs:List V} {ob:Option Obj} (h:Hv Δ d cs ob):Hv b d cs ob:=by
 obtain⟨c,e,fr,f,g,j,k,l⟩:=h;exact⟨c,e,fr,f,g,j,k,λi v hi=>let⟨x,hx,hr⟩:=l i v hi;⟨x,hx,hr.mono a⟩⟩
theorem Tg.mono{Δ n:Env} (a:Δ.le n) {d:D} {o:O} {ob:Option Obj} (h:Tg Δ d o ob):Tg n d o ob:=by
 cases o with
 | cells e sz live ro cs=>
   obtain⟨c,f,g,i,b⟩:=h
   exact⟨c,f,g,i,λp=>(b p).mono a⟩
 | map u j=>
   obtain⟨c,f,g,k,i,b⟩:=h
   exact⟨c,f,g,k,i,b.mono a⟩
 | iter m since seen last=>
   obtain⟨c,f,g,q,i,b⟩:=h;refine⟨c,f,g,q,i,?_⟩
   cases m with
   |none=>exact b
   |some l=>obtain⟨r,s,t⟩:=b;exact⟨r,a _ _ s,t⟩
theorem TR.mono{Δ c:Env}(b:Δ.le c){n:Nat}{t:Tm}{a:Act}(h:TR Δ n t a):TR c n t a:=⟨h.size,λi=>(h.rel i).mono b,h.ds.mono b⟩
theorem gg{t:Nat}{d:TypeDesc}{w:World}(h:P0.underlying t=some d):(underlying t).run P0 w = .ok d w:=by simp[underlying,h]
theorem FA{t n:Nat} (h:zR t=some n):∃i,P0.info? t=some i/\i.size=n:=by
 grind[zR,fy]
theorem xL{t n:Nat} {w:World} (h:zR t=some n):(sizeOf t).run P0 w = .ok n w:=by
 obtain⟨i,hi,rfl⟩:=FA h
 simp_all[sizeOf,typeInfo]
theorem Ht{t:Nat} {b:Bool} {w:World} (h:Oq t=some b):(isAgg t).run P0 w = .ok b w:=by
 unfold Oq at h;split at h
 ·simp_all[isAgg,gg]
 ·simp_all[isAgg,gg]
 ·simp_all[isAgg,yo,gg,wX]
 ·cases h
theorem Bj{t:Nat} {z:V} (h:zeroV t=some z):∃a,(∀w,(zeroValue t).run P0 w = .ok a w)/\(∀Δ,fR Δ z a)/\∃i,P0.info? t=some i/\i.zero=some a:=by
 unfold zeroV at h;simp only[fy]at h;obtain⟨i,hi,a,b,hv⟩:=h;exact⟨a,by simp_all[zeroValue,typeInfo],by grind[HR],i,hi,b⟩
theorem uV(b o n:Nat):(⟨b,o,none⟩:Addr).add n=⟨b,o+n,none⟩:=by
 grind[Addr.add]
section
variable{Δ:Env}{h:Hp}{w:World}{n:Nat}{t:Tm}{a:Act}
theorem GZ(b:TR Δ n t a) {x:Operand} {v:V} (hv:(OD x).f t=some v):fR Δ v (a.eval x):=by
 cases x with
 |tmp i=>simp only[OD]at hv;cases hv;exact b.rel i
 | const c=>
   simp only[OD]at hv;split at hv
   ·rename_i y d;cases hv;exact HR Δ 8 c _ d
   ·cases hv
 |global g=>grind[OD]
 |func f=>simp only[OD]at hv;cases hv;exact .func f [] [] #[] #[] .nil .nil
theorem lU(j:WR Δ h w) (b:TR Δ n t a) {x:Operand} {v:V} (hv:(ud x).f t h=some v):fR Δ v (a.eval x):=by
 cases x with
 | global g=>
   unfold ud at hv
   cases OY:Nat.blt g P0.globals.size with
   | true=>
     simp only[OY,fy]at hv;obtain⟨o,k,hv⟩:=hv;cases hv;have l:g<P0.globals.size:=by rw[<-Qq];exact OY
     obtain⟨d,m,hb,e⟩:=j.JJ g o l k;have:=fR.ptr (Δ:=Δ) g 0 d m;rw[hb,e]at this
     exact this
   |false=>simp_all
 |tmp i=>exact GZ b hv
 |const c=>exact GZ b hv
 |func f=>exact GZ b hv
theorem Cu(b:TR Δ n t a):∀{l:List Operand} {vs:List V},J0 t l=some vs->gQ Δ vs (l.map a.eval)
 |[],vs,hv=>by simp[J0]at hv;subst hv;exact .nil
 | x::l,vs,hv=>by
   simp only[J0,fy]at hv;obtain⟨v,c,d,e,f⟩:=hv;cases f;exact .cons _ _ _ _ (GZ b c) (Cu b e)
inductive XV (Δ:Env):List (Nat×V)->List (Nat×Value)->Prop
 |nil:XV Δ [] []
 |cons (i:Nat) (v:V) (a:Value) (l:List (Nat×V)) (b:List (Nat×Value)) (hv:fR Δ v a) (hs:XV Δ l b):XV Δ ((i,v)::l) ((i,a)::b)
theorem E4(b:TR Δ n t a):∀{l:List (Nat×Operand)} {vs:List (Nat×V)},vg t l=some vs->XV Δ vs (l.map λx=>(x.1,a.eval x.2))
 |[],vs,hv=>by simp[vg]at hv;subst hv;exact .nil
 | x::l,vs,hv=>by
   simp only[vg,fy]at hv;obtain⟨v,c,d,e,f⟩:=hv;cases f;exact .cons _ _ _ _ _ (GZ b c) (E4 b e)
theorem VD(f:WR Δ h w) {l:Nat} {d:D} (g:Δ l=some d) {e sz:Nat} {ro:Bool} {cs:List V} (j:h.get l=some (.cells e sz true ro cs))
  {i:Nat} {v:V} (hi:cs[i]? =some v):∃x,w.cell? ⟨d.b,d.base+i,none⟩=some x/\fR Δ v x:=by
 obtain⟨o,a,k⟩:=f.obj l d g;rw[j]at a;cases a;obtain⟨_,_,_,_,hc⟩:=k;obtain⟨c,m,fr,n,_,_,_,p⟩:=hc rfl
 grind[World.cell?]
theorem KK(g:WR Δ h w) {l:Nat} {d:D} (i:Δ l=some d) {off m:Nat} {cs:List V} (hv:Ip h l off m=some cs) :
  ∃a,(loadCells ⟨d.b,d.base+off,none⟩ m).run P0 w = .ok a w/\gQ Δ cs a.toList:=by
 unfold Ip at hv;rw[lT]at hv;obtain⟨e,sz,live,ro,all,k,hv⟩:=hv;rw[ie]at hv;obtain⟨rfl,hv⟩:=hv;obtain⟨hlen,c⟩:=sub_eq hv;have f:∀j,j<m->∃x v,w.cell? ⟨d.b,d.base+off+j,none⟩=some x/\cs[j]? =some v/\fR Δ v x:=by grind[iy,VD,Nat.add_assoc]
 refine⟨_,run_loadCells w ⟨d.b,d.base+off,none⟩ m (λj=>(w.cell? ⟨d.b,d.base+off+j,none⟩).getD undef) (λj n=>?_),?_⟩
 ·grind[uV]
 grind[gQ.QX,ki]
theorem Yv(a:WR Δ h w) {l:Nat} {d:D} (c:Δ l=some d) {off:Nat} {v:V} (hv:ld1 h l off=some v) :
  ∃x,w.cell? ⟨d.b,d.base+off,none⟩=some x/\fR Δ v x:=by
 unfold ld1 at hv;rw[lT]at hv;obtain⟨e,sz,live,ro,all,f,hv⟩:=hv;rw[ie]at hv;obtain⟨rfl,hv⟩:=hv;exact VD a c f (NQ hv)
theorem Of(i:WR Δ h w) {ty:Nat} {p:PF} {xv:Value} (hp:∀v,p.f t h=some v->fR Δ v xv) {v:V} (hv:(Mb ty p).f t h=some v) :
  ∃x,(Instr.loadAt ty xv).run P0 w = .ok x w/\fR Δ v x:=by
 unfold Mb at hv;split at hv
 ·rename_i j;split at hv
  ·rename_i m n;simp only[fy,yg]at hv;obtain⟨av,b,l,off,rfl,cs,c,k⟩:=hv;cases k
   cases hp _ b with
   | ptr _ _ d e=>
     obtain⟨g,o,a⟩:=KK i e c;exact⟨.agg g,by simp_all[Instr.loadAt,Instr.sureAddr,loadVar,Ht,xL],.agg _ _ a⟩
  ·cases hv
 ·rename_i j;simp only[fy,yg]at hv;obtain⟨av,b,l,off,rfl,c⟩:=hv
  cases hp _ b with
  | ptr _ _ d e=>
    obtain⟨x,hx,a⟩:=Yv i e c
    simp_all[Instr.loadAt,Instr.sureAddr,loadVar,Ht]
 ·cases hv
theorem L7:∀(fs:List Field) (pl:List (Nat×Nat)),placesOf fs=some pl->fs.mapM (λf=>(P0.info? f.type).map λi=>(f.offset,i.size))=some pl
 |[],pl,h=>by grind[placesOf]
 | f::fs,pl,h=>by
   simp only[placesOf,fy]at h;obtain⟨m,a,l,b,c⟩:=h;cases c;obtain⟨i,hi,rfl⟩:=FA a;simp[List.mapM_cons,hi,L7 fs l b]
theorem Pj:∀(xs:List Value) (k off:Nat) (c:Array Value),off+k+xs.length<=c.size->
  ∀i,((xs.zipIdx k).foldl (λcs (p:Value×Nat)=>cs.setIfInBounds (off+p.2) p.1) c)[i]? =if off+k<=i/\i<off+k+xs.length then xs[i-(off+k)]? else c[i]?
 | [],k,off,c,_,i=>by
   simp_all[if_neg,wBk]
 | x::xs,k,off,c,hle,i=>by
   simp only[List.zipIdx_cons,List.foldl_cons];simp only[Rt]at hle;rw[Pj xs (k+1) off _ (by simp;omega)]
   grind
theorem Mx{place:Nat->Option (Nat×Nat)}:∀{ps:List (Nat×V)} {ps':List (Nat×Value)} {cells cs:List V} {a:Array Value},XV Δ ps ps'->gQ Δ cells a.toList->
  DS place cells ps=some cs->∃ql,Instr.fill place a ps' = some ql/\gQ Δ cs ql.toList
 |_,_,cells,cs,a,.nil,hc,hf=>by simp[DS]at hf;subst hf;exact⟨a,rfl,hc⟩
 | _,_,cells,cs,a,.cons i v v' l l' hv hs,hc,hf=>by
   simp only[DS,fy,ie]at hf;obtain⟨⟨off,size⟩,E,r,m,s,t⟩:=hf;obtain⟨G,u,f⟩:=Lr s;have d:=hv.cells;have w:v'.cells.size=size:=by
     have:=d.length;rw[Cr r]at this;simpa using this.symm
   have n:=hc.length;simp only[ZN]at n;have z:v.cells.length=v'.cells.size:=by simpa using d.length
   have A:¬(v'.cells.size≠size\/off+v'.cells.size>a.size):=by
     rintro(h|h)
     ·omega
     ·omega
   have g:gQ Δ m (v'.cells.zipIdx.foldl (λcs (c,j)=>cs.setIfInBounds (off+j) c) a).toList:=by
     have b:=Pj v'.cells.toList 0 off a (by simp;omega);have e:(v'.cells.zipIdx.foldl (λcs (c,j)=>cs.setIfInBounds (off+j) c) a)=((v'.cells.toList.zipIdx 0).foldl (λcs (p:Value×Nat)=>cs.setIfInBounds (off+p.2) p.1) a):=by
       rw[<-Array.foldl_toList];simp
     rw[e];generalize hF:((v'.cells.toList.zipIdx 0).foldl (λcs (p:Value×Nat)=>cs.setIfInBounds (off+p.2) p.1) a)=F at b;have B:F.size=a.size:=by
      apply Nat.le_antisymm
      ·rcases Tj a.size F.size with o|q
       ·have:=b a.size
        grind
       omega
      ·rcases Tj F.size a.size with o|q
       ·have:=b F.size
        grind
       omega
     refine gQ.QX (by simp_all) λj x hx=>?_;rw[f j]at hx;have k:=b j;simp only[wBu,ZN]at k;rw[wBD,k];by_cases hin:off<=j/\j<off+v.cells.length
     ·rw[if_pos hin]at hx
      rw[if_pos (by omega)];exact d.get _ _ hx
     ·rw[if_neg hin]at hx
      rw[if_neg (by omega)];obtain⟨y,H,C⟩:=hc.get _ _ hx
      simp_all
   obtain⟨ql,D,C⟩:=Mx hs g t
   simp_all[Instr.fill,if_neg]
theorem V8(m:TR Δ n t a) {ty:Nat} {parts:List (Nat×Operand)} {v:V} (hv:(I8 ty parts).f t h=some v) :
  ∃x,(Instr.build ty (parts.map λx=>(x.1,a.eval x.2)).toArray).run P0 w = .ok x w/\fR Δ v x:=by
 unfold I8 at hv;split at hv
 ·rename_i z p;obtain⟨y,_,e,i,hi,q⟩:=Bj p;have b:=(e Δ).cells;split at hv
  ·rename_i c r;split at hv
   ·rename_i d hp;simp only[fy]at hv;obtain⟨ps,g,cs,j,k⟩:=hv;cases k;obtain⟨ql,s,l⟩:=Mx (E4 m g) b j;refine⟨.agg ql,?_,.agg _ _ l⟩
    simp_all[run_build,Program.built,L7]
   ·cases hv
  ·rename_i len o r;split at hv
   ·rename_i size hs;obtain⟨A,u,rfl⟩:=FA hs;simp only[fy]at hv;obtain⟨ps,g,cs,j,k⟩:=hv;cases k;obtain⟨ql,s,l⟩:=Mx (E4 m g) b j;refine⟨.agg ql,?_,.agg _ _ l⟩
    simp_all[run_build,Program.built]
   ·cases hv
  ·cases hv
 ·cases hv
end
theorem uh(k:IntKind) (n:Int):mI k n=k.wrap n:=by
 unfold mI
 cases n with
 |negSucc m=>rfl
 | ofNat m=>
   simp only;split
   ·rename_i hb
    rw[Qq]at hb;have e:(Int.ofNat m)=(m:Int):=rfl
    grind[IntKind.wrap,IntKind.bits,IntKind.signed]
   ·rfl
section
variable{Δ:Env}{h:Hp}{w:World}{n:Nat}{t:Tm}{a:Act}
theorem nK{s:Sem Value}{x:Value}{w w':World}(h:s.run P0 w = .ok x w'):(do pure (Next.value (<-s)):Sem Next).run P0 w = .ok (.value x) w':=by simp[h]
theorem LI{k k':IntKind}(h:Q2 k k' = true):k=k':=by cases k <;> cases k' <;> first|rfl|cases h
theorem Z1{op:BinOp} {k:IntKind} {x y:Int} {v:V} (ty:Nat) (w:World) (hs:Vc op=false) (hv:hint op k x y=some v) :
  ∃r,(binOp op ty (.int k x) (.int k y)).run P0 w = .ok r w/\∀Δ,fR Δ v r:=by
 cases op with
 |shl=>cases hs
 |shr=>cases hs
 |add=>simp only[hint]at hv;cases hv;rw[uh];exact⟨_,by simp[binOp,Op.intArith],λΔ=> .int _ _⟩
 |sub=>simp only[hint]at hv;cases hv;rw[uh];exact⟨_,by simp[binOp,Op.intArith],λΔ=> .int _ _⟩
 |mul=>simp only[hint]at hv;cases hv;rw[uh];exact⟨_,by simp[binOp,Op.intArith],λΔ=> .int _ _⟩
 | quo=>
   have b:y≠0:=by rintro rfl;simp[hint]at hv
   have a:some (V.int k (mI k (x.tdiv y)))=some v:=by
     rw[<-hv];unfold hint;simp only;split
     ·simp_all
     ·rfl
   cases a;rw[uh];exact⟨_,by simp_all[binOp,Op.intDiv],λΔ=> .int _ _⟩
 | rem=>
   have b:y≠0:=by rintro rfl;simp[hint]at hv
   have a:some (V.int k (x.tmod y))=some v:=by
     rw[<-hv];unfold hint;simp only;split
     ·simp_all
     ·rfl
   cases a;exact⟨_,by simp_all[binOp,Op.intDiv],λΔ=> .int _ _⟩
 |and=>simp only[hint]at hv;cases hv;exact⟨_,by simp[binOp,Op.intBits],λΔ=> .int _ _⟩
 |or=>simp only[hint]at hv;cases hv;exact⟨_,by simp[binOp,Op.intBits],λΔ=> .int _ _⟩
 |xor=>simp only[hint]at hv;cases hv;exact⟨_,by simp[binOp,Op.intBits],λΔ=> .int _ _⟩
 |andNot=>simp only[hint]at hv;cases hv;exact⟨_,by simp[binOp,Op.intBits],λΔ=> .int _ _⟩
 |eql=>simp only[hint]at hv;cases hv;exact⟨_,by simp[binOp,Op.intCmp],λΔ=> .bool _⟩
 |neq=>simp only[hint]at hv;cases hv;exact⟨_,by simp[binOp,Op.intCmp],λΔ=> .bool _⟩
 |lss=>simp only[hint]at hv;cases hv;exact⟨_,by simp[binOp,Op.intCmp],λΔ=> .bool _⟩
 |leq=>simp only[hint]at hv;cases hv;exact⟨_,by simp[binOp,Op.intCmp],λΔ=> .bool _⟩
 |gtr=>simp only[hint]at hv;cases hv;exact⟨_,by simp[binOp,Op.intCmp],λΔ=> .bool _⟩
 |geq=>simp only[hint]at hv;cases hv;exact⟨_,by simp[binOp,Op.intCmp],λΔ=> .bool _⟩
theorem V5{op:BinOp} {k k':IntKind} {x y:Int} {v:V} (ty:Nat) (w:World) (hv:TS op k x y=some v) :
  ∃r,(binOp op ty (.int k x) (.int k' y)).run P0 w = .ok r w/\∀Δ,fR Δ v r:=by
 unfold TS at hv;split at hv
 ·cases hv
 ·rename_i m;have a:¬((Int.ofNat m)<0):=by simp
  split at hv
  ·cases hv;exact⟨_,by rfl,λΔ=> .int _ _⟩
  ·cases hv;exact⟨_,by rfl,λΔ=> .int _ _⟩
  ·cases hv
theorem Z4{op:BinOp} {x y:ByteArray} {v:V} (ty:Nat) (w:World) (hv:zcH op x.data.toList y.data.toList=some v) :
  ∃r,(binOp op ty (.string x) (.string y)).run P0 w = .ok r w/\∀Δ,fR Δ v r:=by
 have hb:(binOp op ty (.string x) (.string y))=Op.stringOp op x y:=by cases op <;> rfl
 rw[hb];have g:x.toList=x.data.toList:=ByteArray.toList_eq x;have h:y.toList=y.data.toList:=ByteArray.toList_eq y;cases op <;> simp only[zcH]at hv <;> try (cases hv;done)
 case add=>
  split at hv
  ·rename_i b;cases hv;have a:=KS b;have c:¬(((x.size+y.size:Nat):Int)>IntKind.i64.max):=by
    have d:x.data.toList.length=x.size:=rfl;have f:y.data.toList.length=y.size:=rfl;rw[d,f]at a;simp only[IntKind.max,IntKind.signed,IntKind.bits,if_true];omega
   have e:x.data.toList++y.data.toList=(x++y).data.toList:=by simp
   rw[e];exact⟨_,by simp_all[Op.stringOp,if_neg],λΔ=> .str _⟩
  ·cases hv
 all_goals
  cases hv;refine⟨_,by simp_all[Op.stringOp],λΔ=> .bool _⟩
theorem I2{op:BinOp} {ty:Nat} {X Y:Operand} {x y:Value} (w:World) (a:x≠ .nilIface) (b:∀c,x≠ .agg c) :
  (eqGuard op ty X Y x y).run P0 w = .ok () w:=by
 cases op <;> unfold eqGuard <;> dsimp only <;> simp only[wB3,wBe,Rq,if_true,if_false] <;> first
  |rfl
  |simp_all
theorem WN{d:TypeDesc} {ty:Nat} {x y:V} {xv a:Value} {b:Bool} (w:World) (c:Nat) (e:P0.underlying ty=some d) (hx:fR Δ x xv) (f:fR Δ y a)
  (hv:Y1 d x y=some b):(Op.equalIn (c+1) ty xv a).run P0 w = .ok b w:=by
 unfold Y1 at hv;split at hv <;> first|(cases hv;done)|skip
 all_goals
  first
   |cases hv
   |(rw[ie]at hv;obtain⟨_,hv⟩:=hv;cases hv)
  cases hx;cases f;simp only[Op.equalIn,yo,gg e,wX];rfl
theorem W1{a:Array (String×TypeId)} {ty:Nat} (w:World) (b:Nat) (c:P0.underlying ty=some (.interface a)) (d:a.isEmpty=true):(Op.eqGuardIn (b+1) ty .nilIface .nilIface).run P0 w = .ok false w:=by
 simp_all[Op.eqGuardIn,yo,gg,wX]
theorem zbe{d:TypeDesc} {ty:Nat} {x y:V} {xv a:Value} {b:Bool} (w:World) (g:P0.underlying ty=some d) (hx:fR Δ x xv) (h:fR Δ y a)
  (hv:Y1 d x y=some b):(Op.equal ty xv a).run P0 w = .ok b w/\(∀op X Y,(eqGuard op ty X Y xv a).run P0 w = .ok () w)/\
   (binOp .eql ty xv a)=(do pure (.bool (<-Op.equal ty xv a)))/\(binOp .neq ty xv a)=(do pure (.bool (!(<-Op.equal ty xv a)))):=by
 refine⟨WN w 9999 g hx h hv,?_⟩;unfold Y1 at hv;split at hv <;> first|(cases hv;done)|skip
 all_goals
  cases hx;cases h
 all_goals refine⟨?_,rfl,rfl⟩
 all_goals intro op X Y
 any_goals (refine I2 w ?_ ?_ <;> first|(intro e;cases e;done)|(intro c e;simp_all))
 ·rename_i k;rw[ie]at hv;have j:=hv.1;have f:=W1 w 9999 g j
  cases op <;> unfold eqGuard <;> dsimp only <;> simp only[wB3,wBe,Rq,if_true,if_false] <;> first
   |rfl
   |(split
     ·rfl
     ·split
      ·rfl
      ·have i:Sem.run P0 (Op.eqGuardIn Op.maxDepth ty .nilIface .nilIface) w = .ok false w:=f
       simp_all)
 ·cases op <;> rfl
theorem zcJ{ty:Nat} {x y:V} {xv d:Value} {b:Bool} (w:World) (f:Nat) (hx:fR Δ x xv) (c:fR Δ y d) (hv:eq1 (P0.underlying ty) x y=some b) :
  (Op.equalIn (f+1) ty xv d).run P0 w = .ok b w/\Oq ty=some false:=by
 unfold eq1 at hv;split at hv
 ·rename_i a;cases hx;cases c;cases hv;refine⟨?_,by grind[Oq]⟩;simp only[Op.equalIn,yo,gg a,wX];rfl
 ·rename_i a;cases hx;cases c;rw[ie]at hv;obtain⟨g,hv⟩:=hv;obtain rfl:=LI g;cases hv;refine⟨?_,by grind[Oq]⟩;simp only[Op.equalIn,yo,gg a,wX,if_true];rfl
 ·rename_i a;cases hx with|str xs=>cases c with|str ys=>
  cases hv;refine⟨?_,by grind[Oq]⟩;simp only[Op.equalIn,yo,gg a,wX];have e:(xs.data.toList == ys.data.toList)=(xs == ys):=by
   rw[show(xs == ys)=(xs.data == ys.data) from rfl,Xz,Cw,Cw];exact by simp_all
  simp_all
 ·cases hv
theorem Nb{xs ys:List V} {a Xt:Array Value} (w:World) (g:Nat) (hx:gQ Δ xs a.toList) (m:gQ Δ ys Xt.toList):∀{fs:List Field} {b:Bool},MO fs xs ys=some b->
  ((do
    for f in fs do
      if f.name≠ "_" then
        if !(<-Op.equalIn (g+1) f.type (<-part f.type a f.offset) (<-part f.type Xt f.offset)) then return false
    pure true:Sem Bool)).run P0 w = .ok b w
 |[],b,h=>by cases h;rfl
 | f ::fs,b,h=>by
   simp only[MO,ie,fy,wBg,Wc]at h;obtain⟨u,x,p,y,q,c,r,v⟩:=h;obtain⟨xv,i,j⟩:=hx.get _ _ (NQ p);obtain⟨n,k,l⟩:=m.get _ _ (NQ q);obtain⟨z,o⟩:=zcJ w g j l r;have s:(part f.type a f.offset).run P0 w = .ok xv w:=by
     have d:a[f.offset]? =some xv:=by simpa using i
     simp only[part,yo,Ht o,wX,Rq,if_false];simp[d]
   have t:(part f.type Xt f.offset).run P0 w = .ok n w:=by
     have e:Xt[f.offset]? =some n:=by simpa using k
     simp only[part,yo,Ht o,wX,Rq,if_false];simp[e]
   have A:=λ{b}=>Nb w g hx m (fs:=fs) (b:=b);cases c <;> simp_all
theorem zcL{ty:Nat} {xs ys:List V} {xv a:Value} {b:Bool} (w:World) (hx:fR Δ (.agg xs) xv) (c:fR Δ (.agg ys) a) (hv:Ys ty xs ys=some b) :
  (Op.equal ty xv a).run P0 w = .ok b w/\(∀op X Y,(eqGuard op ty X Y xv a).run P0 w = .ok () w)/\
   (binOp .eql ty xv a)=(do pure (.bool (<-Op.equal ty xv a)))/\(binOp .neq ty xv a)=(do pure (.bool (!(<-Op.equal ty xv a)))):=by
 cases hx with|agg _ xs' hx=>cases c with|agg _ Xt c=>
 unfold Ys at hv;split at hv
 ·rename_i fs e;simp only[ie,wBg]at hv;obtain⟨hs,f,hv⟩:=hv;refine⟨?_,λop X Y=>?_,rfl,rfl⟩
  ·have d:=Nb w 9998 hx c hv;show(Op.equalIn (9999+1) ty (.agg xs') (.agg Xt)).run P0 w=_;rw[Op.equalIn];simp only[yo,gg e,wX,run_program,hs,Rq,if_false,Me,<-Array.forIn_toList]at d⊢;exact d
  ·cases op <;> unfold eqGuard <;> dsimp only <;> simp only[wB3,wBe,Rq,if_true,if_false] <;> first
    |rfl
    |simp_all
 ·cases hv
theorem zbc{op:BinOp} {ty:Nat} {X Y:Operand} {x y v:V} {xv a:Value} (w:World) (hx:fR Δ x xv) (i:fR Δ y a) (hv:ez op ty x y=some v) :
  ∃r,(do eqGuard op ty X Y xv a;binOp op ty xv a:Sem Value).run P0 w = .ok r w/\fR Δ v r:=by
 unfold ez at hv;split at hv
 ·rename_i k p k' q;cases hx;cases i;have j:=I2 (op:=op) (ty:=ty) (X:=X) (Y:=Y) (y:= .int k' q) w (x:= .int k p) (by simp) (by simp);split at hv
  ·obtain⟨r,m,e⟩:=V5 (k':=k') ty w hv
   simp_all
  ·rename_i hs;rw[ie]at hv;obtain⟨s,hv⟩:=hv;obtain rfl:=LI s;obtain⟨r,m,e⟩:=Z1 ty w hs hv
   simp_all
 ·cases hx with|str xs=>cases i with|str ys=>
  have j:=I2 (op:=op) (ty:=ty) (X:=X) (Y:=Y) (y:= .string ys) w (x:= .string xs) (by simp) (by simp);obtain⟨r,m,e⟩:=Z4 ty w hv
  simp_all
 ·have g:∀f,Wk ty f x y=some v->∃b,(Op.equal ty xv a).run P0 w = .ok b w/\(∀op X Y,(eqGuard op ty X Y xv a).run P0 w = .ok () w)/\
    (binOp .eql ty xv a)=(do pure (.bool (<-Op.equal ty xv a)))/\(binOp .neq ty xv a)=(do pure (.bool (!(<-Op.equal ty xv a))))/\v = .bool (Bool.rec (motive:=λ_=>Bool) b (!b) f):=by
   clear hv;intro f c;unfold Wk zda at c;rw[fy]at c;obtain⟨b,hb,c⟩:=c;split at hb
   ·obtain⟨l,h,n,o⟩:=zcL w hx i hb
    simp_all
   unfold Zz at hb;split at hb
   ·rename_i d t;obtain⟨l,h,n,o⟩:=zbe w t hx i hb
    simp_all
   ·cases hb
  split at hv
  ·obtain⟨b,l,h,n,_,rfl⟩:=g false hv;have j:=h .eql X Y;exact⟨.bool b,by simp_all,.bool b⟩
  ·obtain⟨b,l,h,_,o,rfl⟩:=g true hv;have j:=h .neq X Y;exact⟨.bool (!b),by simp_all,.bool _⟩
  ·cases hv
theorem zdf{op:UnOp} {x v:V} {xv:Value} (w:World) (hx:fR Δ x xv) (hv:qf op x=some v):∃r,(Op.unary op xv).run P0 w = .ok r w/\fR Δ v r:=by
 unfold qf at hv;split at hv
 ·cases hv;cases hx;rw[uh];exact⟨_,rfl,.int _ _⟩
 ·cases hv;cases hx;exact⟨_,rfl,.bool _⟩
 ·simp only[hint]at hv;cases hv;cases hx;exact⟨_,rfl,.int _ _⟩
 ·cases hv
theorem X9{src dst:Nat} {p:PF} {xv:Value} {v:V} (w:World) (g:¬∃e,P0.underlying src=some (.slice e)/\P0.underlying dst=some .string) (hp:∀v,p.f t h=some v->fR Δ v xv) (hv:(L2 src dst p).f t h=some v) :
  ∃r,(convert src dst xv).run P0 w = .ok r w/\fR Δ v r:=by
 unfold L2 at hv;split at hv
 ·rename_i k' k hs d;rw[fy]at hv;obtain⟨x,b,a⟩:=hv;have c:=hp _ b;split at a
  ·cases a;cases c;rw[uh];exact⟨_,by simp_all[convert,gg,Conv.intToInt],.int _ _⟩
  ·cases a
 ·rename_i hs d;rw[fy]at hv;obtain⟨x,b,a⟩:=hv;have c:=hp _ b;split at a
  ·cases a;cases c
   simp_all[convert,gg]
  ·cases a
 ·simp_all
 ·cases hv
theorem Nk{ty:Nat} {cs:List V} {ql:Array Value} {off:Nat} {v:V} (w:World) (hc:gQ Δ cs ql.toList) (hv:RT ty cs off=some v) :
  ∃r,(part ty ql off).run P0 w = .ok r w/\fR Δ v r:=by
 unfold RT at hv
 cases ha:Oq ty with
 |none=>simp_all
 |some b=>cases b with
 | true =>
   simp only[ha]at hv
   cases hm:zR ty with
   |none=>simp_all
   | some m=>
     simp only[hm,fy]at hv;obtain⟨l,d,e⟩:=hv;cases e;obtain⟨f,g⟩:=sub_eq d;refine⟨.agg (ql.extract off (off+m)),by simp_all[part,Ht,xL],.agg _ _ (gQ.QX ?_ ?_)⟩
     ·have a:=hc.length
      have:∀i,i<m->off+i<cs.length:=by grind
      simp only[ZN]at a;simp only[ZN,Array.size_extract,f];rcases Nat.eq_zero_or_pos m with h0|h0
      ·omega
      ·have:=this (m-1) (by omega)
       omega
     ·intro i v hi
      have c:i<m:=by have:=(ki.1 hi).1;omega
      rw[g i c]at hi;obtain⟨x,hx,h⟩:=hc.get _ _ hi
      simp_all
 | false=>
   simp only[ha]at hv;obtain⟨x,hx,h⟩:=hc.get _ _ (NQ hv)
   simp_all[part,Ht]
theorem MY{s f:Nat} {a:Field} (h:MP s f=some a):∃fs,P0.underlying s=some (.struct fs)/\fs[f]? =some a:=by
 grind[MP]
theorem OZ{s f:Nat} {p:PF} {xv:Value} {v:V} (w:World) (hp:∀v,p.f t h=some v->fR Δ v xv) (hv:(qR s p f).f t h=some v) :
  ∃r,(Instr.fieldAt s xv f).run P0 w = .ok r w/\fR Δ v r:=by
 unfold qR at hv;split at hv
 ·rename_i b c;obtain⟨fs,e,a⟩:=MY c;split at hv
  ·rename_i m g;simp only[fy,yg]at hv;obtain⟨x,i,l,off,rfl,j⟩:=hv;cases j
   cases hp _ i with
   | ptr _ _ d k=>
     refine⟨_,by simp[Instr.fieldAt,gg e,a,Instr.sureAddr,fieldPlace,xL g,uV];rfl,?_⟩;have:=fR.ptr (Δ:=Δ) l (off+b.offset) d k
     grind
  ·cases hv
 ·cases hv
theorem Ww{s f:Nat} {p:PF} {xv:Value} {v:V} (w:World) (hp:∀v,p.f t h=some v->fR Δ v xv) (hv:(Jx s p f).f t h=some v) :
  ∃r,(Instr.field s xv f).run P0 w = .ok r w/\fR Δ v r:=by
 unfold Jx at hv;split at hv
 ·rename_i i d;obtain⟨fs,j,e⟩:=MY d;rw[fy]at hv;obtain⟨x,g,a⟩:=hv;have b:=hp _ g;split at a
  ·cases b with
   | agg _ ql hc=>
     obtain⟨r,b,c⟩:=Nk w hc a
     simp_all[Instr.field,gg,asAgg]
  ·cases a
 ·cases hv
theorem OH{ty:Nat} {p q:PF} {xv u:Value} {v:V} (w:World) (hp:∀v,p.f t h=some v->fR Δ v xv) (hq:∀v,q.f t h=some v->fR Δ v u)
  (hv:(ry ty p q).f t h=some v):∃r,(Instr.indexAt ty xv u).run P0 w = .ok r w/\fR Δ v r:=by
 unfold ry at hv;split at hv
 ·rename_i c e;split at hv
  ·rename_i m g;simp only[fy,JT]at hv;obtain⟨x,j,i,k,kd,n,rfl,b⟩:=hv;have hx:=hp _ j;cases hq _ k;split at b
   ·rename_i l off len;rw[ie]at b;obtain⟨a,b⟩:=b;cases b;rw[Qq]at a
    cases hx with
    | slice _ _ _ cap o d s z A y=>
      rcases y with⟨rfl,_,_⟩|⟨hc,_⟩
      ·refine⟨_,by simp[Instr.indexAt,asIntOf,gg e,xL g,a,uV];rfl,?_⟩
       have:=fR.ptr (Δ:=Δ) l (off+n*m) d s
       grind
      ·omega
   ·cases b
  ·cases hv
 ·rename_i len c e;split at hv
  ·rename_i m g;simp only[fy,JT,yg,ie]at hv;obtain⟨x,j,i,k,kd,n,rfl,l,off,rfl,a,b⟩:=hv;cases b;rw[Qq]at a;cases hq _ k
   cases hp _ j with
   | ptr _ _ d s=>
     refine⟨_,by simp[Instr.indexAt,asIntOf,gg e,xL g,a,uV,Instr.sureAddr];rfl,?_⟩;have:=fR.ptr (Δ:=Δ) l (off+n*m) d s
     grind
  ·cases hv
 ·cases hv
theorem WQ{ty:Nat} {p q:PF} {xv l:Value} {v:V} (w:World) (hp:∀v,p.f t h=some v->fR Δ v xv) (hq:∀v,q.f t h=some v->fR Δ v l)
  (hv:(JD ty p q).f t h=some v):∃r,(Instr.index ty xv l).run P0 w = .ok r w/\fR Δ v r:=by
 unfold JD at hv;split at hv
 ·rename_i len n o;split at hv
  ·rename_i m u;simp only[fy,JT]at hv;obtain⟨x,j,i,k,kd,d,rfl,a⟩:=hv;have hx:=hp _ j;cases hq _ k;split at a
   ·rw[ie]at a;obtain⟨c,a⟩:=a;rw[Qq]at c
    cases hx with
    | agg _ ql hc=>
      obtain⟨r,y,g⟩:=Nk w hc a;refine⟨r,?_,g⟩;have e:(Nat.mul d m)=d*m:=rfl
      simp_all[Instr.index,asIntOf,gg,xL]
   ·cases a
  ·cases hv
 ·rename_i o;simp only[fy,JT]at hv;obtain⟨x,j,i,k,kd,d,rfl,a⟩:=hv;have hx:=hp _ j;cases hq _ k;split at a
  ·rw[fy]at a;obtain⟨b,hb,a⟩:=a;cases a
   cases hx with
   | str s=>
     rw[List.head?_drop]at hb;have c:d<s.size:=(ki.1 hb).1;have hs:s[d]? =some b:=by
       rw[getElem?_pos s d c];have:=(ki.1 hb).2;simp only[Array.getElem_toList]at this;rw[<-this];rfl
     exact⟨.int .u8 b.toNat,by simp_all[Instr.index,asIntOf,gg],.int _ _⟩
  ·cases a
 ·cases hv
end
section
variable{Δ:Env}{h:Hp}{w:World}{n:Nat}{t:Tm}{a:Act}
inductive Fa (Δ:Env):Option V->Option Value->Prop
 |none:Fa Δ none none
 |some (v:V) (a:Value) (h:fR Δ v a):Fa Δ (some v) (some a)
theorem MC(b:WR Δ h w) (c:TR Δ n t a) {x:Option Operand} {v:Option V} (hv:Kf x t h=some v):Fa Δ v (x.map a.eval):=by
 cases x with
 |none=>simp only[Kf]at hv;cases hv;exact .none
 | some x=>
   simp only[Kf,fy]at hv;obtain⟨y,d,e⟩:=hv;cases e;exact .some _ _ (lU b c d)
theorem GU{d m:Nat} {lo:Option V} (hv:hbound d lo=some m):(lo=none/\m=d)\/∃k,lo=some (.int k (.ofNat m)):=by
 unfold hbound at hv;split at hv
 ·simp_all
 ·simp_all
 ·cases hv
theorem KB{k:IntKind} {m y:Nat} {c:BoundsCode} (w:World) (a:m<=y):(Instr.sliceBound (.int k (.ofNat m)) y c).run P0 w = .ok m w:=by
 have b:(0:Int)<=Int.ofNat m/\(Int.ofNat m)<=(y:Int):=by simp_all
 simp_all[Instr.sliceBound,asIntOf,yo,Me,wX,if_pos]
theorem LG{isS:Bool} {len cap l u:Nat} {lo hi:Option V} {b c:Option Value} (w:World) (d:Fa Δ lo b) (a:Fa Δ hi c)
  (h:hbound 0 lo=some l) (g:hbound len hi=some u) (e:l<=u) (f:u<=cap):(Instr.sliceBounds isS len cap b c none).run P0 w = .ok (l,u,cap) w:=by
 rcases GU h with⟨rfl,rfl⟩|⟨k,rfl⟩
 ·cases d;rcases GU g with⟨rfl,rfl⟩|⟨k,rfl⟩
  ·cases a;rfl
  ·cases a with|some _ _ hr=>
   cases hr
   grind[Instr.sliceBounds,yo,Me,wX,KB]
 ·cases d with|some _ _ hr=>
  cases hr;rcases GU g with⟨rfl,rfl⟩|⟨k,rfl⟩
  ·cases a
   grind[Instr.sliceBounds,yo,Me,wX,KB]
  ·cases a with|some _ _ hr=>
   cases hr;simp only[Instr.sliceBounds,yo,Me,wX,KB w f,KB w e]
theorem UJ(N:WR Δ h w) {ty c size:Nat} {x v:V} {xv:Value} {lo hi:Option V} {i j:Option Value} (hx:fR Δ x xv) (k:Fa Δ lo i) (m:Fa Δ hi j)
  (T:P0.underlying ty=some (.slice c)) (hs:zR c=some (size+1)) (hv:jA (Nat.succ size) x lo hi h=some v) :
  ∃r,(Instr.sliceAt ty xv i j none).run P0 w = .ok r w/\fR Δ v r:=by
 unfold jA at hv;split at hv
 ·rename_i lc off len;rw[lT]at hv;obtain⟨e,sz,live,ro,cs,O,hv⟩:=hv;simp only[ie,fy]at hv;obtain⟨y,l,z,u,A,B,a,hv⟩:=hv;cases hv;have f:=Cr y;have p:=KS B
  cases hx with
  | slice _ _ _ cap o d C L D E=>
    obtain ⟨ob,q,P⟩:=N.obj lc d C;rw[O]at q;cases q;obtain⟨_,g,Q,_,_⟩:=P;have F:u<=cap:=by
      rw[KO]at a;rcases a with a|a
      ·exact KG (KS a) D
      ·have M:off+u*(size+1)<=cs.length:=KS a
       rcases E with⟨_,hb,_⟩|⟨hc,hb⟩
       ·rw[g,<-f]at hb
        have:u*(size+1)<=cap*(size+1):=by have e:Nat.succ size=size+1:=rfl;rw[e]at hb;omega
        exact Nat.le_of_mul_le_mul_right this (by omega)
       grind
    have s:=LG (isS:=true) (len:=len) (cap:=cap) w k m z A p F;have R:l<=cap:=by omega
    refine⟨.slice (if cap=l then some ⟨d.b,o,none⟩ else some ⟨d.b,o+l*(size+1),none⟩) (u-l) (cap-l),?_,?_⟩
    ·simp_all[Instr.sliceAt,yo,gg,wX,Instr.slice,xL,uV]
    ·have t:cap*d.sz=l*d.sz+(cap-l)*d.sz:=by rw[<-Xo];congr 1;omega
     have S:d.sz=size+1:=by rw[g,<-f]
     split
     ·rename_i G
      refine .slice lc (Nat.add off (Nat.mul l (Nat.succ size))) (Nat.sub u l) (cap-l) o d C L ?_ (.inr ⟨by omega,?_⟩)
      ·simp_all
      grind
     ·rename_i G
      refine .slice lc (Nat.add off (Nat.mul l (Nat.succ size))) (Nat.sub u l) (cap-l) (o+l*(size+1)) d C L ?_ (.inl ?_)
      ·simp_all
      ·show o+l*(size+1)=d.base+(off+l*(size+1))/\d.n<=off+l*(size+1)+(cap-l)*d.sz/\d.base+(off+l*(size+1))+(cap-l)*d.sz<=d.Wl
       rcases E with⟨E,hb,H⟩|⟨hc,hb⟩
       ·rw[S]at t hb H⊢
        omega
       ·omega
 ·simp only[ie,fy]at hv;obtain⟨l,z,u,A,D,I,hv⟩:=hv;cases hv;have J:=Cr D;have K:=Cr I;subst J;subst K;cases hx;have s:=LG (isS:=true) (len:=0) (cap:=0) w k m z A (jO _) (jO _);exact⟨.slice none 0 0,by simp_all[Instr.sliceAt,gg,Instr.slice,xL],.ei⟩
 ·cases hv
theorem UO{ty:Nat} {x v:V} {xv:Value} {lo hi:Option V} {a b:Option Value} (w:World) (hx:fR Δ x xv) (c:Fa Δ lo a) (d:Fa Δ hi b)
  (j:P0.underlying ty=some .string) (hv:QH x lo hi=some v):∃r,(Instr.sliceAt ty xv a b none).run P0 w = .ok r w/\fR Δ v r:=by
 unfold QH at hv;split at hv
 ·simp only[ie,fy]at hv;obtain⟨l,h,u,i,e,f,hv⟩:=hv;cases hv
  cases hx with
  | str s=>
    have g:=LG (isS:=false) (len:=s.size) (cap:=s.size) w c d h i (KS e) (KS f);refine⟨.string (s.extract l u),by simp_all[Instr.sliceAt,gg,Instr.slice],?_⟩;have:=fR.str (Δ:=Δ) (s.extract l u)
    simp_all
 ·cases hv
theorem Xi(b:WR Δ h w) (c:TR Δ n t a) {ty:Nat} {p:PF} {xv:Value} {lo hi:Option Operand} {v:V} (hp:∀v,p.f t h=some v->fR Δ v xv)
  (hv:(Lg ty p lo hi).f t h=some v):∃r,(Instr.sliceAt ty xv (lo.map a.eval) (hi.map a.eval) none).run P0 w = .ok r w/\fR Δ v r:=by
 unfold Lg at hv;split at hv
 ·rename_i d;simp only[fy]at hv;obtain⟨x,e,l,g,u,i,j⟩:=hv;exact UO w (hp _ e) (MC b c g) (MC b c i) d j
 ·rename_i k d;split at hv
  ·rename_i m o;simp only[fy]at hv;obtain⟨x,e,l,g,u,i,j⟩:=hv;exact UJ b (hp _ e) (MC b c g) (MC b c i) d o j
  ·cases hv
 ·cases hv
theorem K8{ty:Nat} {x y:V} {xv a:Value} {b:Bool} (hx:fR Δ x xv) (c:fR Δ y a) (hv:E8 ty x y=some b) :
  (∀f w,(Op.equalIn (f+1) ty xv a).run P0 w = .ok b w)/\(∀d,P0.underlying ty=some d->Instr.sameNow d xv a=some b):=by
 unfold E8 at hv;split at hv
 ·rename_i e;split at hv
  ·rw[ie]at hv;obtain⟨g,hv⟩:=hv;cases hv;obtain rfl:=LI g;cases hx;cases c
   grind[run_equalIn_int,Instr.sameNow]
  ·cases hv
 ·rename_i e;split at hv
  ·cases hv;cases hx with|str xs=>cases c <;> grind[run_equalIn_string,ByteArray.toList_eq,Instr.sameNow,beq_toListBytes]
  ·cases hv
 ·rename_i e;split at hv
  ·cases hv;cases hx;cases c
   grind[run_equalIn_bool',Instr.sameNow]
  ·cases hv
 ·cases hv
theorem Wx{ty:Nat} (a:FI ty=true):Oq ty=some false:=by
 grind[FI,Oq]
theorem KU{ty:Nat} {cs:List V} {ql:Array Value} {off:Nat} {v:V} (w:World) (a:FI ty=true) (hc:gQ Δ cs ql.toList) (hv:Ef cs off=some v) :
  ∃x,(part ty ql off).run P0 w = .ok x w/\fR Δ v x:=
 Nk w hc (by grind[RT,Wx])
theorem Te:∀{fs:List Field} {x y:List V} {xs ys:Array Value} {b:Bool},(∀f∈fs,FI f.type=true/\f.name≠ "_")->gQ Δ x xs.toList->gQ Δ y ys.toList->
  Mi fs x y=some b->∀a w,(Op.eqFields (a+1) xs ys fs).run P0 w = .ok b w
 |[],x,y,xs,ys,b,_,_,_,hv,a,w=>by simp[Mi]at hv;subst hv;rfl
 | f::fs,x,y,xs,ys,b,hf,hx,hy,hv,a,w=>by
   simp only[Mi,fy]at hv;obtain⟨p,i,q,j,e,k,l⟩:=hv;obtain⟨c,d⟩:=hf f (by simp);obtain⟨n,hp,g⟩:=KU w c hx i;obtain⟨o,hq,h⟩:=KU w c hy j;have m:=(K8 g h k).1 a w;simp only[Op.eqFields];rw[if_pos d];simp only[yo,hp,hq,m,wX]
   cases e with
   |false=>simp_all
   |true=>exact Te (by simp_all) hx hy l a w
theorem PR{ty:Nat} (a:Jm ty=some none):FI ty=true:=by
 grind[Jm,FI]
theorem Na{ty:Nat} {fs:List Field} (a:Jm ty=some (some fs)):∃b,P0.underlying ty=some (.struct b)/\b.toList=fs/\P0.stoodInHeld ty=false/\∀f∈fs,FI f.type=true/\f.name≠ "_" :=by
 unfold Jm at a;split at a
 ·cases a
 ·cases a
 ·cases a
 ·rename_i b c;split at a
  ·grind
  ·cases a
 ·cases a
theorem Zo{ty:Nat} {d:Option (List Field)} {x y:V} {xv g:Value} {b:Bool} (i:Jm ty=some d) (hx:fR Δ x xv) (e:fR Δ y g) (hv:Ny ty d x y=some b) (w:World) :
  (Op.equal ty xv g).run P0 w = .ok b w:=by
 cases d with
 |none=>exact(K8 hx e hv).1 9999 w
 | some fs=>
   obtain⟨f,h,a,hs,j⟩:=Na i;simp only[Ny]at hv;split at hv
   ·cases hx with|agg _ xs hx=>cases e with|agg _ ys e=>
    have c:P0.fieldsOf ty=f:=by simp[Program.fieldsOf,h]
    have:=run_equalIn_struct (P:=P0) w 9999 ty xs ys (by rw[c];exact h) hs;rw[c,a]at this;exact this.trans (Te j hx e hv 9998 w)
   ·cases hv
def zaL(Δ:Env):Option (Nat×V)->Option (Nat×Value)->Prop
 |none,none=>True
 |some (i,v),some (i',v')=>i=i'/\fR Δ v v'
 |_,_=>False
theorem IP{ty:Nat} {d:Option (List Field)} {k:V} {kv:Value} (f:Jm ty=some d) (g:fR Δ k kv) (w:World):∀{c:List (V×V×Nat)} {a:List MapEntry} {i:Nat} {r:Option (Nat×V)},
  vm Δ c a->rQ ty d k c i=some r->∃r',(Instr.findAsking ty kv a i).run P0 w = .ok r' w/\zaL Δ r r'
 |_,_,i,r,.nil,hv=>by simp[rQ]at hv;subst hv;exact⟨none,rfl,trivial⟩
 | _,_,i,r,.cons k' v n e c a hk' hv' hb hs,hv=>by
   simp only[rQ,fy]at hv;obtain⟨b,j,h⟩:=hv;have l:=Zo f g hk' j w;simp only[Instr.findAsking,yo,l,wX]
   cases b with
   |true=>cases h;exact⟨some (i,e.val),rfl,rfl,hv'⟩
   |false=>exact IP f g w hs h
theorem Oc{ty:Nat} {k:V} {kv:Value} {ds:TypeDesc} (d:P0.underlying ty=some ds) (f:fR Δ k kv):∀{c:List (V×V×Nat)} {a:List MapEntry} {i:Nat} {r:Option (Nat×V)},
  vm Δ c a->rQ ty none k c i=some r->∃r',Instr.findNow ds kv a i=some r'/\zaL Δ r r'
 |_,_,i,r,.nil,hv=>by simp[rQ]at hv;subst hv;exact⟨none,rfl,trivial⟩
 | _,_,i,r,.cons k' v n e c a hk' hv' hb hs,hv=>by
   simp only[rQ,fy]at hv;obtain⟨b,h,g⟩:=hv;have j:=(K8 f hk' h).2 ds d;simp only[Instr.findNow,j]
   cases b with
   |true=>cases g;exact⟨some (i,e.val),rfl,rfl,hv'⟩
   |false=>exact Oc d f hs g
theorem E6{ty:Nat} {d:Option (List Field)} {k:V} {kv:Value} (c:Jm ty=some d) (h:fR Δ k kv) (w:World) {b:List (V×V×Nat)} {a:List MapEntry} {r:Option (Nat×V)}
  (i:vm Δ b a) (hv:rQ ty d k b 0=some r):∃r',(Instr.findKey ty kv a).run P0 w = .ok r' w/\zaL Δ r r':=by
 cases d with
 | none=>
   have l:=PR c;unfold FI at l
   cases j:P0.underlying ty with
   |none=>simp_all
   | some ds=>
     obtain⟨r',m,o⟩:=Oc j h i hv
     simp_all[Instr.findKey,gg]
 | some fs=>
   obtain⟨p,j,_,_,_⟩:=Na c
   cases i with
   | nil=>
     simp[rQ]at hv;subst hv
     exact⟨none,by simp_all[Instr.findKey,gg,Instr.findNow],trivial⟩
   | cons k' v n e b a f g hb hs=>
     obtain⟨r',m,o⟩:=IP c h w (.cons k' v n e b a f g hb hs) hv
     simp_all[Instr.findNow,Instr.sameNow,Instr.findKey,yo,gg,wX]
theorem G2{em:Bool} {q:Nat} {cs:List V} {ql:Array Value} (w:World) (hq:0<q) (hc:gQ Δ cs ql.toList):∀(fs:List Field),(∀f∈fs,FI f.type=true/\f.name≠ "_")->
  (fs.all λf=>(Ef cs f.offset).isSome)=true->
  (forIn fs PUnit.unit (λf _=>if f.name≠ "_" then do
    let x <-part f.type ql f.offset
    Instr.checkKey em q f.type x
    pure (ForInStep.yield PUnit.unit)
   else pure (ForInStep.yield PUnit.unit):Field->PUnit->Sem (ForInStep PUnit))).run P0 w = .ok PUnit.unit w
 |[],_,_=>rfl
 | f ::fs,hf,hh=>by
   obtain⟨m,rfl⟩:∃m,q=m+1:=by simp_all
   obtain ⟨a,b⟩:=hf f (by simp);simp only[wBp,vH]at hh;obtain⟨v,hv⟩:=Option.isSome_iff_exists.1 hh.1;obtain⟨x,hx,d⟩:=KU w a hc hv;have c:(Instr.checkKey em (m+1) f.type x).run P0 w = .ok () w:=by
     unfold FI at a;split at a
     ·simp_all[Instr.checkKey,gg]
     ·simp_all[Instr.checkKey,gg]
     ·simp_all[Instr.checkKey,gg]
     ·cases a
   have e:=G2 (em:=em) (q:=m+1) w hq hc fs (by simp_all) hh.2
   simp_all
theorem zu{ty:Nat} {d:Option (List Field)} {k:V} {kv:Value} (em:Bool) (q:Nat) (hq:0<q) (w:World) (e:Jm ty=some d) (f:fR Δ k kv) (c:Jf d k=true) :
  (Instr.checkKey em (q+1) ty kv).run P0 w = .ok () w:=by
 cases d with
 | none=>
   have a:=PR e;unfold FI at a;split at a
   ·simp_all[Instr.checkKey,gg]
   ·simp_all[Instr.checkKey,gg]
   ·simp_all[Instr.checkKey,gg]
   simp_all
 | some fs=>
   obtain⟨g,i,b,_,h⟩:=Na e;simp only[Jf]at c;split at c
   ·cases f with
    | agg cs ql hc=>
      have:=G2 (em:=em) (q:=q) w hq hc fs h c;rw[<-b,Array.forIn_toList]at this
      simp_all[Instr.checkKey,yo,gg,wX]
   ·cases c
end
section
variable{Δ:Env}{h:Hp}{w:World}{n:Nat}{t:Tm}{a:Act}
theorem JH(g:WR Δ h w) {l:Nat} {d:D} (i:Δ l=some d) {e:List (V×V×Nat)} {c:Nat} (j:h.get l=some (.map e c)) :
  ∃a,w.heap[d.b]? =some (.map a c)/\vm Δ e a.toList:=by
 obtain⟨o,f,k⟩:=g.obj l d i;rw[j]at f;cases f;obtain⟨_,_,_,a,m,n⟩:=k
 simp_all
theorem run_getObj_map{r:Nat}{a:Array MapEntry}{c:Nat}(b:w.heap[r]? =some (.map a c)):(getObj r).run P0 w = .ok (.map a c) w:=by grind[getObj,Sem.run]
theorem Ts{z:V} {a:Value} {ok:Bool} {r:Option (Nat×V)} {r':Option (Nat×Value)} (c:fR Δ z a) (b:zaL Δ r r') :
  fR Δ (found z ok r) (match r' with
   |some (_,v)=>if ok then .tuple #[v,.bool true] else v
   |none=>if ok then .tuple #[a,.bool false] else a):=by
 cases r with
 | none=>cases r' with
   |none=>cases ok
          ·exact c
          ·exact .tuple _ _ (.cons _ _ _ _ c (.one (.bool false)))
   |some _=>cases b
 | some x=>cases r' with
   |none=>cases b
   | some d=>
     obtain⟨_,hv⟩:=b;cases ok
     ·exact hv
     ·exact .tuple _ _ (.cons _ _ _ _ hv (.one (.bool true)))
theorem T6(C:WR Δ h w) {u:Nat} {p q:PF} {ok:Bool} {x kv:Value} {v:V} (hp:∀v,p.f t h=some v->fR Δ v x) (hq:∀v,q.f t h=some v->fR Δ v kv)
  (hv:(Ho u p q ok).f t h=some v):∃r,(Instr.lookup u x kv ok).run P0 w = .ok r w/\fR Δ v r:=by
 unfold Ho at hv;split at hv
 ·rename_i K L y;split at hv
  ·rename_i d z i D;obtain⟨M,E,e,_⟩:=Bj D;simp only[fy,ie]at hv;obtain⟨m,F,k,G,A,a⟩:=hv;have B:=hp _ F;have j:=hq _ G;split at a
   ·cases a;cases B;have g:=zu true 9999 (by omega) w i j A;have b:=E6 i j w vm.nil (r:=none) (by rfl);obtain⟨r',b,n⟩:=b;have o:r' = none:=by cases r' <;> first|rfl|cases n
    subst o;refine⟨_,?_,Ts (ok:=ok) (r:=none) (r':=none) (e Δ) trivial⟩;simp only[Instr.lookup,yo,gg y,wX,Me]
    simp_all
   ·simp only[A2,fy]at a;obtain⟨N,c,H,r,b,a⟩:=a;cases a
    cases B with
    | map l O I=>
      obtain⟨s,hb,J⟩:=JH C I H;obtain⟨r',b,n⟩:=E6 i j w J b;have g:=zu s.isEmpty 9999 (by omega) w i j A;refine⟨_,?_,Ts (ok:=ok) (e Δ) n⟩;simp only[Instr.lookup,yo,gg y,wX,Me,run_getObj_map hb,g,b]
      grind[yo,wX,Me]
   ·cases a
  ·cases hv
 ·cases hv
theorem zan(u:WR Δ h w) {ty:Nat} {j:Array Nat} (q:j[0]? =some ty) {rt:Nat} {p:PF} {xv:Value} {v:V} (hp:∀v,p.f t h=some v->fR Δ v xv)
  (hv:(hlen ty p).f t h=some v):∃r,(Builtin.len_ j rt #[xv]).run P0 w = .ok r w/\fR Δ v r:=by
 unfold hlen at hv;split at hv
 ·rename_i o;rw[fy]at hv;obtain⟨x,i,g⟩:=hv;have hx:=hp _ i;split at g
  ·cases g
   cases hx with
   |str s=>exact⟨goInt s.size,by simp_all[Builtin.len_,gg],.int _ _⟩
  ·cases g
 ·rename_i e o;rw[fy]at hv;obtain⟨x,i,g⟩:=hv;have hx:=hp _ i;split at g
  ·rename_i lc off m;cases g;cases hx;exact⟨goInt m,by simp_all[Builtin.len_,gg],.int _ _⟩
  ·cases g;cases hx;exact⟨goInt 0,by simp_all[Builtin.len_,gg],.int _ _⟩
  ·cases g
 ·rename_i m e o;rw[fy]at hv;obtain⟨x,i,g⟩:=hv;cases g;exact⟨goInt m,by simp_all[Builtin.len_,gg],.int _ _⟩
 ·rename_i k e o;rw[fy]at hv;obtain⟨x,i,g⟩:=hv;have hx:=hp _ i;split at g
  ·cases g;cases hx;exact⟨goInt 0,by simp_all[Builtin.len_,gg],.int _ _⟩
  ·rw[A2]at g;obtain⟨y,c,z,g⟩:=g;cases g
   cases hx with
   | map l d A=>
     obtain ⟨n,hb,B⟩:=JH u A z;have hlen:y.length=n.size:=by
       have:∀{a:List (V×V×Nat)} {b:List MapEntry},vm Δ a b->a.length=b.length:=λh=>by induction h <;> simp_all
       simpa using this B
     refine⟨goInt n.size,by simp[Builtin.len_,q,gg o,run_getObj_map hb],?_⟩;rw[hlen];exact .int _ _
  ·cases g
 ·cases hv
theorem Qg{b:Bool} (w:World):∀{l:List V} {c:List Value} {x:V} {a:Value} {v:V},fR Δ x a->gQ Δ l c->TA b x l=some v->
  ∃r,(c.foldlM (if b then Builtin.max2 else Builtin.min2) a).run P0 w = .ok r w/\fR Δ v r
 |[],_,x,a,v,hx,hl,hv=>by simp[TA]at hv;subst hv;cases hl;simp_all
 | y ::l,_,x,a,v,hx,hl,hv=>by
   cases hl with
   | cons _ h _ c e hs=>
     unfold TA at hv;split at hv
     ·simp_all
     ·rename_i k p k' q r f
      cases f;cases hx;cases e;obtain⟨d,i,g⟩:=Qg w (.int k _) hs hv;refine⟨d,?_,g⟩;rw[List.foldlM_cons];simp only[yo];cases b
      ·simp_all[Rq,if_false,Builtin.min2,Me,wX]
      simp_all[if_true,Builtin.max2,Me,wX]
     ·cases hv
theorem NN{ty:Nat} (hi:isIface ty=some false):∃d,P0.underlying ty=some d/\∀m,d≠ .interface m:=by
 grind[isIface]
theorem TM{p:PF} {a xT:Nat} {ok:Bool} {xv:Value} {v:V} (w:World) (hp:∀v,p.f t h=some v->fR Δ v xv)
  (hv:(HY p a ok).f t h=some v):∃r,(Instr.typeAssert xv xT a ok).run P0 w = .ok r w/\fR Δ v r:=by
 unfold HY at hv;split at hv
 ·rename_i z hi m;obtain⟨l,n,c,_⟩:=Bj m;obtain⟨d,g,q⟩:=NN hi;rw[fy]at hv;obtain⟨x,o,b⟩:=hv;have hx:=hp _ o;split at b
  ·rename_i u y;cases b
   cases hx with
   | iface _ _ i j=>
     rw[VE];by_cases e:u=a
     ·have k:Nat.beq u a=true:=by rw[e];exact W8 _
      rw[if_pos k];refine⟨.tuple #[i,.bool true],?_,.tuple _ _ (.cons _ _ _ _ j (.one (.bool true)))⟩;simp only[Instr.typeAssert,yo,gg g,wX]
      simp_all
     ·have k:¬Nat.beq u a=true:=by simp_all
      rw[if_neg k];refine⟨.tuple #[l,.bool false],?_,.tuple _ _ (.cons _ _ _ _ (c Δ) (.one (.bool false)))⟩;simp only[Instr.typeAssert,yo,gg g,wX]
      simp_all
  ·rename_i u y;rw[ie]at b;obtain⟨e,b⟩:=b;cases b;have e:=Cr e
   cases hx with
   | iface _ _ i j=>
     refine⟨i,?_,j⟩;simp only[Instr.typeAssert,yo,gg g,wX]
     simp_all
  ·cases b;cases hx;refine⟨.tuple #[l,.bool false],?_,.tuple _ _ (.cons _ _ _ _ (c Δ) (.one (.bool false)))⟩;simp only[Instr.typeAssert,yo,gg g,wX]
   simp_all
  ·cases b
 ·cases hv
theorem XD{c p q:PF} {a pv d:Value} {v:V} (w:World) (hc:∀v,c.f t h=some v->fR Δ v a) (hp:∀v,p.f t h=some v->fR Δ v pv) (hq:∀v,q.f t h=some v->fR Δ v d)
  (hv:(LO c p q).f t h=some v):∃r,(do pure (Next.value (if <-asBool a then pv else d)):Sem Next).run P0 w = .ok (.value r) w/\fR Δ v r:=by
 unfold LO at hv;simp only[fy]at hv;obtain⟨x,g,e⟩:=hv;have hx:=hc _ g;split at e
 ·rename_i b;cases hx;cases b
  ·simp_all[asBool]
  simp_all[asBool]
 ·cases e
theorem PY{p:PF} {x:Operand} {v:V} (w:World) (hp:∀v,p.f t h=some v->fR Δ v (a.eval x)) (hv:(AJ p).f t h=some v) {dst ty pos af gd} :
  (execOp a.eval {dst:=dst,op:= .nilCheck x,type:=ty,pos:=pos,after:=af,guard:=gd}).run P0 w = .ok (.value (a.eval x)) w/\fR Δ v (a.eval x):=by
 unfold AJ at hv;rw[fy]at hv;obtain⟨y,e,b⟩:=hv;have c:=hp _ e;simp only[execOp];generalize a.eval x=xv at c⊢;split at b
 ·cases b;cases c with|ptr _ _ d hd=>exact⟨rfl,.ptr _ _ d hd⟩
 ·cases b;cases c with|func _ _ _ p' q' e b=>exact⟨rfl,.func _ _ _ p' q' e b⟩
 ·cases b;cases c with|iface _ _ v' hv=>exact⟨rfl,.iface _ _ v' hv⟩
 ·cases b
theorem Tq{p:PF} {i:Nat} {xv:Value} {v:V} (w:World) (hp:∀v,p.f t h=some v->fR Δ v xv) (hv:(GW p i).f t h=some v) :
  ∃r,(Instr.extract xv i).run P0 w = .ok r w/\fR Δ v r:=by
 unfold GW at hv;rw[fy]at hv;obtain⟨y,c,a⟩:=hv;have d:=hp _ c;split at a
 ·cases d with
  | tuple vs e b=>
    obtain⟨x,hx,g⟩:=b.get _ _ (NQ a)
    simp_all[Instr.extract]
 ·cases a
theorem Ul{cs:List V} {xs:List Value} {s:List UInt8} (e:gQ Δ cs xs) (hv:bytesOf cs=some s):xs=(s.map λb=>(b.toNat:Int)).map (Value.int .u8):=by
 induction cs generalizing xs s with
 |nil=>cases e;grind[bytesOf]
 | cons c cs g=>
   simp only[bytesOf,fy]at hv;obtain⟨b,a,l,h,i⟩:=hv;cases i
   cases e with
   | cons _ x _ xs hx d=>
     rw[g d h];unfold byteOf at a;split at a
     ·rename_i m
      rw[ie]at a;obtain⟨f,j⟩:=a;cases j;cases hx;have k:m<256:=by rw[Qq]at f;exact f
      have:(UInt8.ofNat m).toNat=m:=by simp;omega
      grind
     ·cases a
theorem UK(l:List UInt8):∀(r:ByteArray),((l.map λb=>(b.toNat:Int)).foldl (λr n=>r.push (UInt8.ofNat n.toNat)) r).data.toList=r.data.toList++l:=by
 induction l <;> simp_all
theorem Ol{src dst e:Nat} (hs:P0.underlying src=some (.slice e)) (h:P0.underlying dst=some .string) (i:P0.underlying e=some (.int .u8)) {ad:Option Addr} {len cap:Nat} {cs:List V} {s:List UInt8}
  (hb:bytesOf cs=some s) (hc:∀b,ad=some b->∃xs,(loadCells b len).run P0 w = .ok (Array.mk xs) w/\gQ Δ cs xs) (d:ad=none->s=[]) :
  ∃x,(convert src dst (.slice ad len cap)).run P0 w = .ok x w/\fR Δ (.str s) x:=by
 cases ad with
 | none=>
   cases d rfl
   exact⟨.string .empty,by simp_all[convert,gg,Conv.bytesToString],.str ByteArray.empty⟩
 | some b=>
   obtain⟨xs,c,f⟩:=hc b rfl;rw[Ul f hb]at c;have g:=run_bytesToString (P:=P0) w b len cap _ c;generalize hB:(List.foldl (λr n=>ByteArray.push r (UInt8.ofNat n.toNat)) ByteArray.empty (List.map (λb=>(b.toNat:Int)) s))=B at g;have a:B.data.toList=s:=by rw[<-hB,UK];rfl
   refine⟨.string B,?_,by rw[<-a];exact .str B⟩
   simp_all[convert,yo,gg,wX]
theorem yh(c:WR Δ h w) {l:Nat} {d:D} (e:Δ l=some d) {off m:Nat} {cs:List V} (hv:Ip h l off m=some cs) :
  ∃xs,(loadCells ⟨d.b,d.base+off,none⟩ m).run P0 w = .ok (Array.mk xs) w/\gQ Δ cs xs:=by
 obtain⟨a,g,f⟩:=KK c e hv;exact⟨a.toList,by omega,f⟩
theorem SM{l off m:Nat} {cs:List V} (hv:Ip h l off m=some cs):cs.length=m:=by
 grind[Ip,lT,ie,sub_eq]
theorem WX(A:WR Δ h w) {src dst e:Nat} {p:PF} {xv:Value} {v:V} (hs:P0.underlying src=some (.slice e)) (c:P0.underlying dst=some .string) (hp:∀v,p.f t h=some v->fR Δ v xv) (hv:(L2 src dst p).f t h=some v) :
  ∃r,(convert src dst xv).run P0 w = .ok r w/\fR Δ v r:=by
 unfold L2 at hv;rw[hs,c]at hv;simp only at hv;split at hv
 ·rename_i i;simp only[fy]at hv;obtain⟨x,j,a⟩:=hv;have hx:=hp _ j;split at a
  ·cases a;cases hx;exact Ol (Δ:=Δ) (w:=w) (src:=src) (dst:=dst) (e:=e) (ad:=none) (len:=0) (cap:=0) (cs:=[]) (s:=[]) hs c i rfl (by simp_all) (by simp_all)
  ·rename_i l off len;simp only[fy]at a;obtain⟨cs,k,s,m,n⟩:=a;cases n
   cases hx with
   | slice _ _ _ cap o d q B u y=>
     have z:∃xs,(loadCells ⟨d.b,o,none⟩ len).run P0 w = .ok (Array.mk xs) w/\gQ Δ cs xs:=by
       rcases y with⟨rfl,_,_⟩|⟨rfl,_⟩
       ·grind[yh]
       ·have:len=0:=by omega
        subst this;have g:cs=[]:=wAs (SM k);subst g;exact⟨[],by rfl,.nil⟩
     exact Ol (Δ:=Δ) (w:=w) (src:=src) (dst:=dst) (e:=e) (ad:=some ⟨d.b,o,none⟩) (len:=len) (cap:=cap) hs c i m (by simp_all) (by simp_all)
  ·cases a
 ·cases hv
theorem zbr(I:WR Δ h w) (G:TR Δ n t a) {o:Oper} {v:V} (hv:(jb o).f t h=some v):∃x,(execOp a.eval o).run P0 w = .ok (.value x) w/\fR Δ v x:=by
 obtain⟨dst,op,ty,pos,af,gd⟩:=o;have z:∀(x:Operand) v,(ud x).f t h=some v->fR Δ v (a.eval x):=by grind[lU]
 cases op with
 |move x=>exact⟨_,rfl,z x v hv⟩
 |assign x=>exact⟨_,rfl,z x v hv⟩
 |pick c p q=>exact XD w (z c) (z p) (z q) hv
 | load ty S=>
   obtain⟨x,C,A⟩:=Of I (z S) hv
   exact⟨x,nK C,A⟩
 | nilCheck x=>
   obtain⟨C,A⟩:=PY w (z x) hv (dst:=dst) (ty:=ty) (pos:=pos) (af:=af) (gd:=gd)
   simp_all
 | binOp op T x y yt=>
   simp only[jb,fy]at hv;obtain⟨p,C,q,A,J⟩:=hv;obtain⟨r,j,u⟩:=zbc (X:=x) (Y:=y) w (z x _ C) (z y _ A) J
   exact⟨r,nK j,u⟩
 | unOp op T x=>
   simp only[jb,fy]at hv;obtain⟨p,C,A⟩:=hv;obtain⟨r,j,u⟩:=zdf w (z x _ C) A
   exact⟨r,nK j,u⟩
 | convert src d x=>
   have K:∃r,(convert src d (a.eval x)).run P0 w = .ok r w/\fR Δ v r:=by
     by_cases oh:∃e,P0.underlying src=some (.slice e)/\P0.underlying d=some .string
     ·obtain⟨e,C,A⟩:=oh
      exact WX I C A (z x) hv
     ·exact X9 w oh (z x) hv
   obtain⟨r,j,u⟩:=K
   exact⟨r,nK j,u⟩
 | build ty parts=>
   obtain⟨r,j,u⟩:=V8 G hv;refine⟨r,nK ?_,u⟩;rw[<-j];congr 2
   grind
 | makeFunc fn first R=>
   cases fn with
   | func f=>
     simp only[jb,fy]at hv;obtain⟨p,C,q,A,J⟩:=hv;cases J;refine⟨_,rfl,.func f p q _ _ ?_ ?_⟩
     ·have:=Cu G C;simp_all
     ·have:=Cu G A;simp_all
   |_=>cases hv
 | slice ty x lo hi U=>
   cases U with
   | none=>
     obtain⟨r,j,u⟩:=Xi I G (z x) hv
     exact⟨r,nK j,u⟩
   |some _=>cases hv
 | fieldAddr s x f=>
   obtain⟨r,j,u⟩:=OZ w (z x) hv
   exact⟨r,nK j,u⟩
 | field s x f=>
   obtain⟨r,j,u⟩:=Ww w (z x) hv
   exact⟨r,nK j,u⟩
 | indexAddr ty x i=>
   obtain⟨r,j,u⟩:=OH w (z x) (z i) hv
   exact⟨r,nK j,u⟩
 | index ty x i=>
   obtain⟨r,j,u⟩:=WQ w (z x) (z i) hv
   exact⟨r,nK j,u⟩
 | lookup ty m k ok=>
   obtain⟨r,j,u⟩:=T6 I (z m) (z k) hv
   exact⟨r,nK j,u⟩
 | extract x i=>
   obtain⟨r,j,u⟩:=Tq w (z x) hv
   exact⟨r,nK j,u⟩
 | makeInterface ty x=>
   simp only[jb]at hv;split at hv
   ·rename_i hi
    obtain⟨d,W,hd⟩:=NN hi;simp only[fy]at hv;obtain⟨p,C,A⟩:=hv;cases A;refine⟨.iface ty (a.eval x),nK ?_,.iface _ _ _ (by simp_all)⟩;simp only[Instr.makeInterface,yo,gg W,wX];rfl
   ·cases hv
 | typeAssert x xT H ok=>
   obtain⟨r,j,u⟩:=TM (xT:=xT) w (z x) hv
   exact⟨r,nK j,u⟩
 | call c =>
   obtain⟨E,args,D⟩:=c;simp only[jb]at hv
   cases E with
   | builtin b=>
     cases b <;> try (cases hv;done)
     case len=>
       simp only at hv;split at hv
       ·rename_i x M Z g L
        have N:D[0]? =some M:=by rw[<-wBD,L];rfl
        obtain⟨r,j,u⟩:=zan I (rt:=ty) N (z x) hv;refine⟨r,?_,u⟩;have O:args.map a.eval = #[a.eval x]:=by apply Array.ext';simp[g]
        simp only[execOp,resolve,O];exact nK j
       ·cases hv
     case min=>
       simp only[fy]at hv;obtain⟨l,C,A⟩:=hv;split at A
       ·rename_i x r
        have B:=Cu G C
        cases g:args.toList.map a.eval with
        |nil=>rw[g]at B;cases B
        | cons P r'=>
          rw[g]at B
          cases B with
          | cons _ _ _ _ hx Q=>
            obtain⟨F,J,j⟩:=Qg w hx Q A;refine⟨F,?_,j⟩;have O:(args.map a.eval).toList=P::r':=by simpa using g
            simp only[execOp,resolve];refine nK ?_
            grind[Builtin.min_]
       ·cases A
     case max=>
       simp only[fy]at hv;obtain⟨l,C,A⟩:=hv;split at A
       ·rename_i x r
        have B:=Cu G C
        cases g:args.toList.map a.eval with
        |nil=>rw[g]at B;cases B
        | cons P r'=>
          rw[g]at B
          cases B with
          | cons _ _ _ _ hx Q=>
            obtain⟨F,J,j⟩:=Qg w hx Q A;refine⟨F,?_,j⟩;have O:(args.map a.eval).toList=P::r':=by simpa using g
            simp only[execOp,resolve];refine nK ?_
            grind[Builtin.max_]
       ·cases A
   |value f=>cases hv
   |invoke r m=>cases hv
 |_=>cases hv
end
def RW(Δ:Env)(b:Nat):Prop:=∃l d,Δ l=some d/\d.ro=false/\d.b=b
structure FR (Δ a:Env) (w w':World):Prop where
 le:Δ.le a
 size:w.heap.size<=w'.heap.size
 os:w'.os=w.os
 tape:w'.tape=w.tape
 output:w'.output=w.output
 fj:∀b,b<w.heap.size->¬RW Δ b->w'.heap[b]? =w.heap[b]?
 new:∀l d,a l=some d->Δ l=some d\/w.heap.size<=d.b\/RW Δ d.b
theorem FR.refl(Δ:Env)(w:World):FR Δ Δ w w:=⟨Env.le_refl _,jO _,rfl,rfl,rfl,by simp_all,by simp_all⟩
theorem FR.trans{Δ m c:Env} {w w' e:World} (h:FR Δ m w w') (h':FR m c w' e):FR Δ c w e where
 le:=Env.le_trans h.le h'.le
 size:=KG h.size h'.size
 os:=h'.os.trans h.os
 tape:=h'.tape.trans h.tape
 output:=h'.output.trans h.output
 fj:=λb hb n=>by
  rw[h'.fj b (EK hb h.size) ?_,h.fj b hb n];rintro⟨l,d,f,q,rfl⟩;rcases h.new l d f with a|a|a
  ·exact n ⟨l,d,a,q,rfl⟩
  ·omega
  simp_all
 new:=λl d f=>by
  rcases h'.new l d f with a|a|⟨o,p,g,i,j⟩
  ·exact h.new l d a
  ·exact .inr (.inl (KG h.size a))
  ·rcases h.new o p g with k|k|k
   ·exact .inr (.inr ⟨o,p,k,i,j⟩)
   ·omega
   simp_all
theorem yk(h:Hp) (o:O) (l:Nat):(h.new o).get l=if h.next=l then some o else h.get l:=by
 rw[Hp.get_eq,Hp.get_eq];unfold Hp.new;simp only[Tr.Kl]
 grind
theorem qL{h:Hp} {l:Nat} (o:O) (m:Nat) (a:l<h.next):(h.put l o).get m=if l=m then some o else h.get m:=by
 rw[Hp.get_eq,Hp.get_eq];unfold Hp.put;simp only[Tr.Kl]
 grind
def Env.set(Δ:Env)(l:Nat)(d:D):Env:=λm=>if m=l then some d else Δ m
theorem Env.zM{Δ:Env} {l:Nat} {d:D} (h:Δ l=none):Δ.le (Δ.set l d):=λm e a=>by
 unfold Env.set
 grind
theorem Env.xy(Δ:Env)(l:Nat)(d:D):(Δ.set l d) l=some d:=if_pos rfl
theorem Env.mJ{Δ:Env} {l m:Nat} {d e:D} (h:(Δ.set l d) m=some e):(m=l/\e=d)\/(m≠l/\Δ m=some e):=by
 unfold Env.set at h
 grind
theorem WR.HT{Δ:Env} {h:Hp} {w:World} (a:WR Δ h w):Δ h.next=none:=by
 cases hd:Δ h.next with
 |none=>rfl
 |some d=>exact absurd (a.fresh _ _ hd) (ZS _)
theorem heap_alloc(w:World) (ob:Obj) (b:Nat):(w.alloc ob).heap[b]? =if b=w.heap.size then some ob else w.heap[b]?:=by
 grind[World.alloc]
theorem Dz.step{Δ a:Env} {w w':World} (h:Dz Δ w) (i:∀b,b<w.heap.size->¬RW Δ b->w'.heap[b]? =w.heap[b]?) (j:∀l d,a l=some d->d.ro=false->Δ l=some d\/w.heap.size<=d.b\/RW Δ d.b):Dz a w':=by
 intro g c f;obtain⟨⟨e,fr,k⟩,m⟩:=h g c f
 grind[X1,RW]
theorem WR.lay{Δ:Env} {h:Hp} {w:World} (c:WR Δ h w) {l:Nat} {o:O} {d:D} {ob:Obj} (v:Δ l=none) (z:l<h.next) (A:h.get l=some o) (hb:d.b=w.heap.size)
  (B:Tg (Δ.set l d) d o (some ob)):WR (Δ.set l d) h (w.alloc ob) where
 fresh:=λm e a=>by
  rcases Env.mJ a with⟨rfl,rfl⟩|⟨_,a⟩
  ·exact z
  ·exact c.fresh m e a
 pE:=λm e a=>by
  simp only[World.size_alloc];rcases Env.mJ a with⟨rfl,rfl⟩|⟨_,a⟩
  ·omega
  ·have:=c.pE m e a;omega
 obj:=λm e a=>by
  rcases Env.mJ a with⟨rfl,rfl⟩|⟨_,a⟩
  ·refine⟨o,A,?_⟩;rw[heap_alloc,if_pos hb];exact B
  ·obtain⟨C,f,j⟩:=c.obj m e a;refine⟨C,f,?_⟩;rw[heap_alloc,if_neg (Tv (c.pE m e a))];exact j.mono (Env.zM v)
 apart:=λm x e y p E a k n hp q r i s=>by
  rcases Env.mJ a with⟨f,j⟩|⟨_,f⟩ <;> rcases Env.mJ k with⟨t,F⟩|⟨_,t⟩
  ·omega
  ·have:=c.pE x y t;grind
  ·have:=c.pE m e f;grind
  ·exact c.apart m x e y p E f t n hp q r i s
 JJ:=λg p u hp=>by
  obtain⟨e,f,j⟩:=c.JJ g p u hp;exact⟨e,Env.zM v _ _ f,j⟩
 Ae:=c.Ae
 VM:=c.VM.step (by simp_all[heap_alloc,if_neg,Tv]) λm e a _=>by
  rcases Env.mJ a with⟨rfl,rfl⟩|⟨_,a⟩
  ·omega
  simp_all
theorem WR.more{Δ:Env} {h:Hp} {w:World} (a:WR Δ h w) (o:O):WR Δ (h.new o) w where
 fresh:=λl d f=>wBh (a.fresh l d f)
 pE:=a.pE
 obj:=λl d f=>by
  obtain⟨n,q,r⟩:=a.obj l d f;refine⟨n,?_,r⟩;rw[yk,if_neg (Nat.ne_of_gt (a.fresh l d f))];exact q
 apart:=λm s e t p u k b i hp c=>by
  rw[yk,if_neg (Nat.ne_of_gt (a.fresh _ _ k))]at hp;rw[yk,if_neg (Nat.ne_of_gt (a.fresh _ _ b))]at c;exact a.apart m s e t p u k b i hp c
 JJ:=λg p j hp=>by
  rw[yk,if_neg (by have:=a.Ae;omega)]at hp;exact a.JJ g p j hp
 Ae:=ZM a.Ae
 VM:=a.VM
theorem FR.lay{Δ:Env} {w:World} {l:Nat} {d:D} {ob:Obj} (c:Δ l=none) (hb:d.b=w.heap.size):FR Δ (Δ.set l d) w (w.alloc ob) where
 le:=Env.zM c
 size:=by simp
 os:=rfl
 tape:=rfl
 output:=rfl
 fj:=by simp_all[heap_alloc,if_neg,Tv]
 new:=λm e a=>by
  rcases Env.mJ a with⟨rfl,rfl⟩|⟨_,a⟩
  ·omega
  simp_all
def Made(Δ:Env) (ob:O) (mk:Nat->V) (a:Obj) (c:Nat->Value):Prop:=∀l b,Δ l=none->∃d,d.b=b/\Tg (Δ.set l d) d ob (some a)/\fR (Δ.set l d) (mk l) (c b)
theorem CB{Δ:Env} {d:D} {cs:List V} {c:Array Value} {e:Nat} (hs:c.size=d.Wl) (hb:d.base=0) (a:cs.length<=d.Wl) (hc:∀(i:Nat) (v:V),cs[i]? =some v->∃x,c[i]? =some x/\fR Δ v x) :
  Hv Δ d cs (some (.cells c e (0,0))):=
 ⟨c,e,(0,0),rfl,hs,λ_=> .inl rfl,by omega,λi v hi=>by rw[hb,zO];exact hc i v hi⟩
theorem Vo{Δ:Env} {e:Nat} {v:V} {xv:Value} {ob:O} {mk:Nat->V} (hx:fR Δ v xv) (hv:lR e v=some (ob,mk)) :
  Made Δ ob mk (.cells xv.cells e) (λb=> .pointer (some ⟨b,0,none⟩)):=by
 unfold lR at hv;rw[ie]at hv;obtain⟨_,hv⟩:=hv;cases hv;intro l b f;have hc:=hx.cells;have a:=Env.zM (d:=⟨b,0,1,v.cells.length,xv.cells.size,false,0⟩) f;refine⟨⟨b,0,1,v.cells.length,xv.cells.size,false,0⟩,rfl,⟨rfl,rfl,rfl,rfl,λ_=>?_⟩,?_⟩
 ·refine CB rfl rfl (wB5 (by first|(simpa using hc.length)|(simpa using c.length))) λi u hi=>?_;obtain⟨x,hx,c⟩:=hc.get i u hi;exact⟨x,by simp_all,c.mono a⟩
 ·exact fR.ptr l 0 ⟨b,0,1,v.cells.length,xv.cells.size,false,0⟩ (Env.xy _ _ _)
theorem Hl{a size jP:Nat} {z:V} (h:elemOf a=some (size,jP,z)) :
  zR a=some size/\zax a=some jP/\zeroV a=some z/\0<size/\z.cells.length=size/\gw z.cells=true:=by
 grind[elemOf,fy,ie,Qq,Cr]
theorem Bf{t e:Nat} (h:HC t=some e):P0.underlying t=some (.slice e):=by
 grind[HC]
theorem Sb(z:List V):∀(m i:Nat),(CT m z)[i]? =if i<m*z.length then z[i % z.length]? else none
 |0,i=>by simp[CT]
 | m + 1,i=>by
   simp only[CT,List.getElem?_append];by_cases a:i<z.length
   ·rw[if_pos a,if_pos (by grind),Nat.mod_eq_of_lt a]
   ·rw[if_neg a,Sb z m]
    have e:i % z.length=(i-z.length) % z.length:=by
      rw[Nat.mod_eq_sub_mod (by omega)]
    grind
theorem Cy(z:List V):∀m,(CT m z).length=m*z.length
 |0=>by simp[CT]
 |m+1=>by simp[CT,Cy z m,Xo,Nat.add_comm]
theorem Sf{Δ:Env} {z:List V} {a:Array Value} (b:gQ Δ z a.toList) (h0:0<z.length) (m:Nat):gQ Δ (CT m z) ((Array.range (m*z.length)).map λi=>a[i % a.size]!).toList:=by
 have hlen:=b.length;simp only[ZN]at hlen;refine gQ.QX (by simp[Cy]) λi v hi=>?_;rw[Sb]at hi;by_cases h:i<m*z.length
 ·rw[if_pos h]at hi;obtain⟨x,hx,c⟩:=b.get _ _ hi
  grind
 simp_all
section
variable{Δ:Env}{h:Hp}{w:World}{n:Nat}{t:Tm}{a:Act}
theorem Sh(X : TR Δ n t a) {o:Oper} {ob:O} {mk:Nat->V} (hv:(rj o).f t=some (ob,mk)) :
    ∃mo mv,(∀w,(execOp a.eval o).run P0 w = .ok (.value (mv w.heap.size)) (w.alloc mo))/\Made Δ ob mk mo mv:=by
  obtain⟨dst,op,ty,pos,af,gd⟩:=o
  cases op with
  | alloc e=>
    simp only[rj]at hv;split at hv
    ·rename_i z Q
     obtain⟨s,H,B,_⟩:=Bj Q;refine⟨_,_,λw=>nK (x:= .pointer (some ⟨w.heap.size,0,none⟩)) ?_,Vo (B Δ) hv⟩
     simp_all[Instr.alloc,newVar,newRow]
    ·cases hv
  | box e x=>
    simp only[rj,fy]at hv;obtain⟨v,R,P⟩:=hv;refine⟨_,_,λw=>nK (x:= .pointer (some ⟨w.heap.size,0,none⟩)) ?_,Vo (GZ X R) P⟩
    rfl
  | buildSlice S len parts=>
    simp only[rj]at hv;split at hv
    ·rename_i j I
     have hu:=Bf I;split at hv
     ·rename_i size jP z he
      obtain⟨hs,_,Q,T,D,_⟩:=Hl he;obtain⟨s,H,B,_⟩:=Bj Q;split at hv
      ·rename_i C
       have aj:len*size<=16777216:=KS C;simp only[Gl,fy,ie]at hv;obtain⟨ps,R,cs,P,_,J⟩:=hv;cases J;have E:=(B Δ).cells;have y:=Sf E (by omega) len;have ak:s.cells.size=size:=by have:=E.length;simp only[ZN]at this;omega
       have g:gQ Δ (CT len z.cells) ((Array.range (len*size)).map λi=>(if len*size=0 then(#[]:Array Value) else s.cells)[i % (if len*size=0 then(#[]:Array Value) else s.cells).size]!).toList:=by
         by_cases h0:len*size=0
         ·simp_all
         ·simp_all
       obtain⟨ql,Y,hr⟩:=Mx (E4 X R) g P;refine⟨.cells ql j,λb=> .slice (some ⟨b,0,none⟩) len len,λw=>nK (w:=w) (x:= .slice (some ⟨w.heap.size,0,none⟩) len len) ?_,?_⟩
       ·have A:(parts.map λ(x:Nat×Operand)=>(x.1,a.eval x.2)).toList=parts.toList.map λx=>(x.1,a.eval x.2):=by simp
        have aa:¬(len*size>2 ^ 24):=by omega
        have U:(if len*size=0 then(pure #[]:Sem (Array Value)) else do pure (<-zeroValue j).cells).run P0 w = .ok (if len*size=0 then(#[]:Array Value) else s.cells) w:=by
          by_cases h0:len*size=0
          ·simp_all
          ·simp_all
        simp only[Instr.buildSlice,yo,gg hu,xL hs,wX,Sem.run_ite];rw[if_neg aa];simp only[Me,wX,yo];clear g U;by_cases h0:len*size=0
        ·simp only[if_pos h0]at Y⊢
         rw[A];have K:Instr.fill (λi=>some (i*size,size)) (Array.map (λx=>(#[]:Array Value)[x % (#[]:Array Value).size]!) (Array.range (len*size))) (List.map (λx=>(x.1,a.eval x.2)) parts.toList)=some ql:=Y;rw[K];rfl
        ·simp only[if_neg h0,H,wX]at Y⊢
         rw[A];have K:Instr.fill (λi=>some (i*size,size)) (Array.map (λx=>s.cells[x % s.cells.size]!) (Array.range (len*size))) (List.map (λx=>(x.1,a.eval x.2)) parts.toList)=some ql:=Y;rw[K];rfl
       ·intro l b Z
        have L:=hr.length;simp only[ZN]at L;have al:cs.length=len*size:=by
          have h5:∀{place:Nat->Option (Nat×Nat)} {ps:List (Nat×V)} {c c':List V},DS place c ps=some c'->c'.length=c.length:=by
            intro place ps
            induction ps with
            |nil=>grind[DS]
            | cons p ps ih=>
              intro c c' h;simp only[DS,fy,ie]at h;obtain⟨q,_,_,am,h6,h7⟩:=h;rw[ih h7,(Lr h6).1]
          rw[h5 P,Cy,D]
        have C:=Env.zM (d:=⟨b,0,size,cs.length,ql.size,false,0⟩) Z;refine⟨⟨b,0,size,cs.length,ql.size,false,0⟩,rfl,⟨rfl,rfl,rfl,rfl,λ_=>?_⟩,?_⟩
        ·refine CB rfl rfl (by simp_all) λi u hi=>?_
         obtain⟨x,hx,M⟩:=hr.get i u hi;exact⟨x,by simp_all,M.mono C⟩
        ·refine fR.slice l 0 len len 0 ⟨b,0,size,cs.length,ql.size,false,0⟩ (Env.xy _ _ _) rfl (jO _) (.inl ⟨rfl,?_,?_⟩)
         ·simp_all
         simp_all
      ·cases hv
     ·cases hv
    ·cases hv
  | makeSlice S m c=>
    simp only[rj]at hv;split at hv
    ·rename_i j I
     have hu:=Bf I;split at hv
     ·rename_i size jP z he
      obtain⟨hs,N,Q,T,D,_⟩:=Hl he;obtain⟨s,H,B,i,hi,an⟩:=Bj Q;simp only[fy]at hv;obtain⟨mv,R,cv,P,J⟩:=hv;have hm:=GZ X R;have hc:=GZ X P;unfold iz at J;split at J
      ·rename_i F c'
       simp only[ie]at J;obtain⟨h4,h5,h6,h7⟩:=J;cases h7;have ab:F<=c':=KS h4;have ao:c'*jP<=281474976710656:=KS h5;have ac:c'<=1099511627776:=KS h6;have ae:i.bytes=jP:=by
         unfold zax at N;rw[fy]at N;obtain⟨i',W,hb⟩:=N;rw[hi]at W;cases W;simpa using hb
       have E:=(B Δ).cells;have y:=Sf E (by omega) c';rw[D]at y;have ag:a.eval m = .int .i64 (F:Int):=by
         generalize a.eval m=x at hm;cases hm;rfl
       have ah:a.eval c = .int .i64 (c':Int):=by
         generalize a.eval c=x at hc;cases hc;rfl
       have wr:∀k:Nat,k<=1099511627776->IntKind.i64.wrap (k:Int)=k:=by grind[IntKind.wrap,IntKind.bits,IntKind.signed]
       refine⟨.cells ((Array.range (c'*size)).map λi=>s.cells[i % s.cells.size]!) j,λb=> .slice (some ⟨b,0,none⟩) F c',λw=>nK (w:=w) (x:= .slice (some ⟨w.heap.size,0,none⟩) F c') ?_,?_⟩
       ·rw[ag,ah]
        have e1:((i.bytes:Int)*(c':Int)>2 ^ 48)=False:=by
          rw[ae];have:(jP:Int)*(c':Int)=((c'*jP:Nat):Int):=by rw[Nat.mul_comm];simp
          rw[this];simp;omega
        have g:(if c'*size=0 then(pure #[]:Sem (Array Value)) else do pure (<-zeroValue j).cells).run P0 w = .ok (if c'*size=0 then(#[]:Array Value) else s.cells) w:=by
          by_cases h0:c'*size=0
          ·simp_all
          ·simp_all
        have G:((Array.range (c'*size)).map λi=>(if c'*size=0 then(#[]:Array Value) else s.cells)[i % (if c'*size=0 then(#[]:Array Value) else s.cells).size]!)=((Array.range (c'*size)).map λi=>s.cells[i % s.cells.size]!):=by
          by_cases h0:c'*size=0
          ·simp_all
          ·simp_all
        have c1:¬((c':Int)<0):=by omega
        have c2:¬((F:Int)<0):=by omega
        have c3:¬((F:Int)>(c':Int)):=by omega
        simp only[Instr.makeSlice,yo,gg hu,wX,asInt,asIntOf,Me,typeInfo,run_program,hi,wr F (by omega),wr c' ac,e1,c1,c2,c3,decide_false,Bool.or_false,Rq,if_false,run_askRoom,xL hs,Int.toNat_natCast];clear g;by_cases h0:c'*size=0
        ·simp only[if_pos h0,newRow,run_newObj,yo,Me,wX]at G⊢
         rw[G];rfl
        simp_all[if_neg,newRow,run_newObj,yo,Me,wX]
       ·intro l b Z
        have L:=y.length;simp only[ZN]at L;have ai:(CT c' z.cells).length=c'*size:=by rw[Cy,D]
        have C:=Env.zM (d:=⟨b,0,size,(CT c' z.cells).length,c'*size,false,0⟩) Z;refine⟨⟨b,0,size,(CT c' z.cells).length,c'*size,false,0⟩,rfl,⟨rfl,rfl,rfl,rfl,λ_=>?_⟩,?_⟩
        ·refine CB (by simp) rfl (wB5 ai) λi u hi=>?_
         obtain⟨x,hx,M⟩:=y.get i u hi;exact⟨x,by grind,M.mono C⟩
        ·refine fR.slice l 0 F c' 0 ⟨b,0,size,(CT c' z.cells).length,c'*size,false,0⟩ (Env.xy _ _ _) rfl ab (.inl ⟨rfl,?_,?_⟩)
         ·simp_all
         simp_all
      ·cases J
     ·cases hv
    ·cases hv
  | makeMap S r=>
    cases r with
    | none=>
      simp only[rj]at hv;split at hv
      ·cases hv
       refine⟨.map #[] 0,λb=> .map (some b),λw=>nK (x:= .map (some w.heap.size)) (by simp[Instr.makeMap]),?_⟩;intro l b Z;exact⟨⟨b,0,0,0,0,false,1⟩,rfl,⟨rfl,rfl,rfl,#[],rfl,.nil⟩,fR.map l ⟨b,0,0,0,0,false,1⟩ (Env.xy _ _ _)⟩
      ·cases hv
    |some _=>cases hv
  |_=>cases hv
end
