/- Parts. -/
import Derived.Test.YtkpicojjjifmgaaGreatDoorM01
import Derived.Laws.Pointers
import Derived.Laws.StructEq
import Derived.Laws.Strings2
import Derived.Laws.IdiomStrings
namespace Go.Proofs.YtkpicojjjifmgaaGreatDoor.Hx
inductive uF (Δ:Env):List (V×V×Nat)->List MapEntry->Prop
 |nil:uF Δ [] []
 | cons (k v:V) (n:Nat) (e:MapEntry) (b:List (V×V×Nat)) (a:List MapEntry) (c:fP Δ k e.key) (hv:fP Δ v e.val) (d:e.born=n)
   (hs:uF Δ b a):uF Δ ((k,v,n)::b) (e::a)
theorem uF.mono{Δ d:Env} (b:Δ.le d) {c:List (V×V×Nat)} {a:List MapEntry} (h:uF Δ c a):uF d c a:=by
 induction h with
 |nil=>exact .nil
 |cons k v n e c a f hv g _ i=>exact .cons k v n e c a (f.mono b) (hv.mono b) g i
def Gn(Δ:Env) (d:D) (cs:List V) (ob:Option Obj):Prop:=∃c e fr,ob=some (.cells c e fr)/\c.size=d.VG/\(d.ro=false->fr.1=fr.2\/d.VG<=fr.1)/\d.base+cs.length<=d.VG/\∀(i:Nat) (v:V),cs[i]? =some v->∃x,c[d.base+i]? =some x/\fP Δ v x
def Ry(Δ:Env) (d:D) (o:O) (ob:Option Obj):Prop:=match o with
 | .cells _ sz live ro cs=>d.kind=0/\d.sz=sz/\d.n=cs.length/\d.ro=ro/\(live=true->Gn Δ d cs ob)
 | .map g a=>d.kind=1/\d.ro=false/\d.base=0/\∃c,ob=some (.map c a)/\uF Δ g c.toList
 | .iter m since seen last=>d.kind=2/\d.ro=false/\d.base=0/\∃e,ob=some (.mapIter e since seen.toArray last)/\
   (match m with
    |none=>e=none
    |some l=>∃f,Δ l=some f/\e=some f.b)
def O.live:O->Bool
 | .cells _ _ live _ _=>live
 |_=>true
def CH(Δ:Env)(w:World):Prop:=∀g c,(g,c)∈zc6->(∃e fr,w.heap[g]? =some (.cells c e fr))/\∀l d,Δ l=some d->d.ro=false->d.b≠g
structure WR (Δ:Env) (h:Hp) (w:World):Prop where
 fresh:∀l d,Δ l=some d->l<h.next
 oW:∀l d,Δ l=some d->d.b<w.heap.size
 obj:∀l d,Δ l=some d->∃o,h.get l=some o/\Ry Δ d o w.heap[d.b]?
 apart:∀l a d c o e,Δ l=some d->Δ a=some c->l≠a->h.get l=some o->h.get a=some e->o.live=true->e.live=true->
  (d.ro=false\/c.ro=false)->d.b≠c.b
 Iu:∀g o,g<P0.globals.size->h.get g=some o->∃d,Δ g=some d/\d.b=g/\d.base=0
 zb:P0.globals.size<=h.next
 TL:CH Δ w
inductive IM (Δ:Env):List (Nat×List V)->List Deferred->Prop
 |nil:IM Δ [] []
 | cons (g:Nat) (args:List V) (cap gQ:Array Value) (l:List (Nat×List V)) (a:List Deferred) (b:gP Δ args (gQ++cap).toList) (c:IM Δ l a) :
   IM Δ ((g,args)::l) ({target:= .fn (.func g) cap,args:=gQ}::a)
theorem IM.mono{Δ c:Env} (b:Δ.le c) {l:List (Nat×List V)} {a:List Deferred} (h:IM Δ l a):IM c l a:=by
 induction h with
 |nil=>exact .nil
 |cons g args cap gQ l a d _ e=>exact .cons g args cap gQ l a (d.mono b) e
structure TR (Δ:Env) (n:Nat) (t:Tm) (a:Act):Prop where
 size:a.tmps.size=n
 rel:∀i,fP Δ (j6 t i) (a.tmps.getD i undef)
 ds:IM Δ t.ds a.defers
theorem Gn.mono{Δ b:Env} (a:Δ.le b) {d:D} {cs:List V} {ob:Option Obj} (h:Gn Δ d cs ob):Gn b d cs ob:=by
 obtain⟨c,e,fr,f,g,j,k,l⟩:=h;exact⟨c,e,fr,f,g,j,k,λi v hi=>let⟨x,hx,hr⟩:=l i v hi;⟨x,hx,hr.mono a⟩⟩
theorem Ry.mono{Δ n:Env} (a:Δ.le n) {d:D} {o:O} {ob:Option Obj} (h:Ry Δ d o ob):Ry n d o ob:=by
 cases o with
 | cells e sz live ro cs=>
   obtain⟨c,f,g,i,b⟩:=h
   exact⟨c,f,g,i,λp=>(b p).mono a⟩
 | map u j=>
   obtain⟨c,f,g,k,i,b⟩:=h
   exact⟨c,f,g,k,i,b.mono a⟩
 | iter m since seen last=>
   obtain⟨c,f,g,q,i,b⟩:=h;refine⟨c,f,g,q,i,?_⟩
   cases m with
   |none=>exact b
   |some l=>obtain⟨r,s,t⟩:=b;exact⟨r,a _ _ s,t⟩
theorem TR.mono{Δ c:Env}(b:Δ.le c){n:Nat}{t:Tm}{a:Act}(h:TR Δ n t a):TR c n t a:=⟨h.size,λi=>(h.rel i).mono b,h.ds.mono b⟩
theorem fX{t:Nat}{d:TypeDesc}{w:World}(h:P0.underlying t=some d):(underlying t).run P0 w = .ok d w:=by simp[underlying,h]
theorem Dv{t n:Nat} (h:y0 t=some n):∃i,P0.info? t=some i/\i.size=n:=by
 grind[y0,fx]
theorem wm{t n:Nat} {w:World} (h:y0 t=some n):(sizeOf t).run P0 w = .ok n w:=by
 obtain⟨i,hi,rfl⟩:=Dv h
 simp_all[sizeOf,typeInfo]
theorem Gu{t:Nat} {b:Bool} {w:World} (h:Mn t=some b):(isAgg t).run P0 w = .ok b w:=by
 unfold Mn at h;split at h
 ·simp_all[isAgg,fX]
 ·simp_all[isAgg,fX]
 ·simp_all[isAgg,xk,fX,vQ]
 ·cases h
theorem z7{t:Nat} {z:V} (h:zeroV t=some z):∃a,(∀w,(zeroValue t).run P0 w = .ok a w)/\(∀Δ,fP Δ z a)/\∃i,P0.info? t=some i/\i.zero=some a:=by
 unfold zeroV at h;simp only[fx]at h;obtain⟨i,hi,a,b,hv⟩:=h;exact⟨a,by simp_all[zeroValue,typeInfo],by grind[GK],i,hi,b⟩
theorem tS(b o n:Nat):(⟨b,o,none⟩:Addr).add n=⟨b,o+n,none⟩:=by
 grind[Addr.add]
section
variable{Δ:Env}{h:Hp}{w:World}{n:Nat}{t:Tm}{a:Act}
theorem Fg(b:TR Δ n t a) {x:Operand} {v:V} (hv:(Ni x).f t=some v):fP Δ v (a.eval x):=by
 cases x with
 |tmp i=>simp only[Ni]at hv;cases hv;exact b.rel i
 | const c=>
   simp only[Ni]at hv;split at hv
   ·rename_i y d;cases hv;exact GK Δ 8 c _ d
   ·cases hv
 |global g=>grind[Ni]
 |func f=>simp only[Ni]at hv;cases hv;exact .func f [] [] #[] #[] .nil .nil
theorem lH(j:WR Δ h w) (b:TR Δ n t a) {x:Operand} {v:V} (hv:(tx x).f t h=some v):fP Δ v (a.eval x):=by
 cases x with
 | global g=>
   unfold tx at hv
   cases Nr:Nat.blt g P0.globals.size with
   | true=>
     simp only[Nr,fx]at hv;obtain⟨o,k,hv⟩:=hv;cases hv;have l:g<P0.globals.size:=by rw[<-PM];exact Nr
     obtain⟨d,m,p,e⟩:=j.Iu g o l k;have:=fP.ptr (Δ:=Δ) g 0 d m;rw[p,e]at this
     exact this
   |false=>simp_all
 |tmp i=>exact Fg b hv
 |const c=>exact Fg b hv
 |func f=>exact Fg b hv
theorem Bv(b:TR Δ n t a):∀{l:List Operand} {vs:List V},Je t l=some vs->gP Δ vs (l.map a.eval)
 |[],vs,hv=>by simp[Je]at hv;subst hv;exact .nil
 | x::l,vs,hv=>by
   simp only[Je,fx]at hv;obtain⟨v,c,d,e,f⟩:=hv;cases f;exact .cons _ _ _ _ (Fg b c) (Bv b e)
inductive X9 (Δ:Env):List (Nat×V)->List (Nat×Value)->Prop
 |nil:X9 Δ [] []
 |cons (i:Nat) (v:V) (a:Value) (l:List (Nat×V)) (b:List (Nat×Value)) (hv:fP Δ v a) (hs:X9 Δ l b):X9 Δ ((i,v)::l) ((i,a)::b)
theorem DB(b:TR Δ n t a):∀{l:List (Nat×Operand)} {vs:List (Nat×V)},uu t l=some vs->X9 Δ vs (l.map λx=>(x.1,a.eval x.2))
 |[],vs,hv=>by simp[uu]at hv;subst hv;exact .nil
 | x::l,vs,hv=>by
   simp only[uu,fx]at hv;obtain⟨v,c,d,e,f⟩:=hv;cases f;exact .cons _ _ _ _ _ (Fg b c) (DB b e)
theorem Uc(f:WR Δ h w) {l:Nat} {d:D} (g:Δ l=some d) {e sz:Nat} {ro:Bool} {cs:List V} (j:h.get l=some (.cells e sz true ro cs))
  {i:Nat} {v:V} (hi:cs[i]? =some v):∃x,w.cell? ⟨d.b,d.base+i,none⟩=some x/\fP Δ v x:=by
 obtain⟨o,a,k⟩:=f.obj l d g;rw[j]at a;cases a;obtain⟨_,_,_,_,hc⟩:=k;obtain⟨c,m,fr,n,_,_,_,p⟩:=hc rfl
 grind[World.cell?]
theorem IN(g:WR Δ h w) {l:Nat} {d:D} (i:Δ l=some d) {off m:Nat} {cs:List V} (hv:GN h l off m=some cs) :
  ∃a,(loadCells ⟨d.b,d.base+off,none⟩ m).run P0 w = .ok a w/\gP Δ cs a.toList:=by
 unfold GN at hv;rw[lE]at hv;obtain⟨e,sz,live,ro,all,k,hv⟩:=hv;rw[hY]at hv;obtain⟨rfl,hv⟩:=hv;obtain⟨hlen,c⟩:=sub_eq hv;have f:∀j,j<m->∃x v,w.cell? ⟨d.b,d.base+off+j,none⟩=some x/\cs[j]? =some v/\fP Δ v x:=by grind[hO,Uc,Nat.add_assoc]
 refine⟨_,run_loadCells w ⟨d.b,d.base+off,none⟩ m (λj=>(w.cell? ⟨d.b,d.base+off+j,none⟩).getD undef) (λj n=>?_),?_⟩
 ·grind[tS]
 grind[gP.PD,jR]
theorem Ww(a:WR Δ h w) {l:Nat} {d:D} (c:Δ l=some d) {off:Nat} {v:V} (hv:ld1 h l off=some v) :
  ∃x,w.cell? ⟨d.b,d.base+off,none⟩=some x/\fP Δ v x:=by
 unfold ld1 at hv;rw[lE]at hv;obtain⟨e,sz,live,ro,all,f,hv⟩:=hv;rw[hY]at hv;obtain⟨rfl,hv⟩:=hv;exact Uc a c f (Md hv)
theorem MI(i:WR Δ h w) {ty:Nat} {p:PF} {xv:Value} (hp:∀v,p.f t h=some v->fP Δ v xv) {v:V} (hv:(Ku ty p).f t h=some v) :
  ∃x,(Instr.loadAt ty xv).run P0 w = .ok x w/\fP Δ v x:=by
 unfold Ku at hv;split at hv
 ·rename_i j;split at hv
  ·rename_i m n;simp only[fx,wO]at hv;obtain⟨av,b,l,off,rfl,cs,c,k⟩:=hv;cases k
   cases hp _ b with
   | ptr _ _ d e=>
     obtain⟨g,o,a⟩:=IN i e c;exact⟨.agg g,by simp_all[Instr.loadAt,Instr.sureAddr,loadVar,Gu,wm],.agg _ _ a⟩
  ·cases hv
 ·rename_i j;simp only[fx,wO]at hv;obtain⟨av,b,l,off,rfl,c⟩:=hv
  cases hp _ b with
  | ptr _ _ d e=>
    obtain⟨x,q,a⟩:=Ww i e c
    simp_all[Instr.loadAt,Instr.sureAddr,loadVar,Gu]
 ·cases hv
theorem KN:∀(fs:List Field) (pl:List (Nat×Nat)),placesOf fs=some pl->fs.mapM (λf=>(P0.info? f.type).map λi=>(f.offset,i.size))=some pl
 |[],pl,h=>by grind[placesOf]
 | f::fs,pl,h=>by
   simp only[placesOf,fx]at h;obtain⟨m,a,l,b,c⟩:=h;cases c;obtain⟨i,hi,rfl⟩:=Dv a;simp[List.mapM_cons,hi,KN fs l b]
theorem N2:∀(xs:List Value) (k off:Nat) (c:Array Value),off+k+xs.length<=c.size->
  ∀i,((xs.zipIdx k).foldl (λcs (p:Value×Nat)=>cs.setIfInBounds (off+p.2) p.1) c)[i]? =if off+k<=i/\i<off+k+xs.length then xs[i-(off+k)]? else c[i]?
 | [],k,off,c,_,i=>by
   simp_all[if_neg,Zi]
 | x::xs,k,off,c,hle,i=>by
   simp only[List.zipIdx_cons,List.foldl_cons];simp only[KB]at hle;rw[N2 xs (k+1) off _ (by simp;omega)]
   grind
theorem Lj{place:Nat->Option (Nat×Nat)}:∀{ps:List (Nat×V)} {YS:List (Nat×Value)} {cells cs:List V} {a:Array Value},X9 Δ ps YS->gP Δ cells a.toList->
  Cl place cells ps=some cs->∃pD,Instr.fill place a YS=some pD/\gP Δ cs pD.toList
 |_,_,cells,cs,a,.nil,hc,hf=>by simp[Cl]at hf;subst hf;exact⟨a,rfl,hc⟩
 | _,_,cells,cs,a,.cons i v v' l l' hv hs,hc,hf=>by
   simp only[Cl,fx,hY]at hf;obtain⟨⟨off,size⟩,G,s,n,t,u⟩:=hf;obtain⟨H,w,f⟩:=Kc t;have d:=hv.cells;have z:v'.cells.size=size:=by
     have:=d.length;rw[AG s]at this;simpa using this.symm
   have o:=hc.length;simp only[Yw]at o;have A:v.cells.length=v'.cells.size:=by simpa using d.length
   have B:¬(v'.cells.size≠size\/off+v'.cells.size>a.size):=by
     rintro(h|h)
     ·omega
     ·omega
   have g:gP Δ n (v'.cells.zipIdx.foldl (λcs (c,j)=>cs.setIfInBounds (off+j) c) a).toList:=by
     have b:=N2 v'.cells.toList 0 off a (by simp;omega);have e:(v'.cells.zipIdx.foldl (λcs (c,j)=>cs.setIfInBounds (off+j) c) a)=((v'.cells.toList.zipIdx 0).foldl (λcs (p:Value×Nat)=>cs.setIfInBounds (off+p.2) p.1) a):=by
       rw[<-Array.foldl_toList];simp
     rw[e];generalize hF:((v'.cells.toList.zipIdx 0).foldl (λcs (p:Value×Nat)=>cs.setIfInBounds (off+p.2) p.1) a)=F at b;have C:F.size=a.size:=by
      apply Nat.le_antisymm
      ·rcases P9 a.size F.size with q|r
       ·have:=b a.size
        grind
       omega
      ·rcases P9 F.size a.size with q|r
       ·have:=b F.size
        grind
       omega
     refine gP.PD (by simp_all) λj x k=>?_;rw[f j]at k;have m:=b j;simp only[YZ,Yw]at m;rw[Wy,m];by_cases hin:off<=j/\j<off+v.cells.length
     ·rw[if_pos hin]at k
      rw[if_pos (by omega)];exact d.get _ _ k
     ·rw[if_neg hin]at k
      rw[if_neg (by omega)];obtain⟨y,I,D⟩:=hc.get _ _ k
      simp_all
   obtain⟨pD,E,D⟩:=Lj hs g u
   simp_all[Instr.fill,if_neg]
theorem U3(m:TR Δ n t a) {ty:Nat} {parts:List (Nat×Operand)} {v:V} (hv:(HH ty parts).f t h=some v) :
  ∃x,(Instr.build ty (parts.map λx=>(x.1,a.eval x.2)).toArray).run P0 w = .ok x w/\fP Δ v x:=by
 unfold HH at hv;split at hv
 ·rename_i z p;obtain⟨y,_,e,i,hi,q⟩:=z7 p;have b:=(e Δ).cells;split at hv
  ·rename_i c r;split at hv
   ·rename_i d hp;simp only[fx]at hv;obtain⟨ps,g,cs,j,k⟩:=hv;cases k;obtain⟨pD,s,l⟩:=Lj (DB m g) b j;refine⟨.agg pD,?_,.agg _ _ l⟩
    simp_all[run_build,Program.built,KN]
   ·cases hv
  ·rename_i len o r;split at hv
   ·rename_i size hs;obtain⟨A,u,rfl⟩:=Dv hs;simp only[fx]at hv;obtain⟨ps,g,cs,j,k⟩:=hv;cases k;obtain⟨pD,s,l⟩:=Lj (DB m g) b j;refine⟨.agg pD,?_,.agg _ _ l⟩
    simp_all[run_build,Program.built]
   ·cases hv
  ·cases hv
 ·cases hv
end
theorem uf(k:IntKind) (n:Int):mb k n=k.wrap n:=by
 unfold mb
 cases n with
 |negSucc m=>rfl
 | ofNat m=>
   simp only;split
   ·rename_i a
    rw[PM]at a;have e:(Int.ofNat m)=(m:Int):=rfl
    grind[IntKind.wrap,IntKind.bits,IntKind.signed]
   ·rfl
section
variable{Δ:Env}{h:Hp}{w:World}{n:Nat}{t:Tm}{a:Act}
theorem mW{s:Sem Value}{x:Value}{w w':World}(h:s.run P0 w = .ok x w'):(do pure (Next.value (<-s)):Sem Next).run P0 w = .ok (.value x) w':=by simp[h]
theorem JT{k k':IntKind}(h:Ph k k' = true):k=k':=by cases k <;> cases k' <;> first|rfl|cases h
theorem Zv{op:BinOp} {k:IntKind} {x y:Int} {v:V} (ty:Nat) (w:World) (hs:Ul op=false) (hv:hint op k x y=some v) :
  ∃r,(binOp op ty (.int k x) (.int k y)).run P0 w = .ok r w/\∀Δ,fP Δ v r:=by
 cases op with
 |shl=>cases hs
 |shr=>cases hs
 |add=>simp only[hint]at hv;cases hv;rw[uf];exact⟨_,by simp[binOp,Op.intArith],λΔ=> .int _ _⟩
 |sub=>simp only[hint]at hv;cases hv;rw[uf];exact⟨_,by simp[binOp,Op.intArith],λΔ=> .int _ _⟩
 |mul=>simp only[hint]at hv;cases hv;rw[uf];exact⟨_,by simp[binOp,Op.intArith],λΔ=> .int _ _⟩
 | quo=>
   have b:y≠0:=by rintro rfl;simp[hint]at hv
   have a:some (V.int k (mb k (x.tdiv y)))=some v:=by
     rw[<-hv];unfold hint;simp only;split
     ·simp_all
     ·rfl
   cases a;rw[uf];exact⟨_,by simp_all[binOp,Op.intDiv],λΔ=> .int _ _⟩
 | rem=>
   have b:y≠0:=by rintro rfl;simp[hint]at hv
   have a:some (V.int k (x.tmod y))=some v:=by
     rw[<-hv];unfold hint;simp only;split
     ·simp_all
     ·rfl
   cases a;exact⟨_,by simp_all[binOp,Op.intDiv],λΔ=> .int _ _⟩
 |and=>simp only[hint]at hv;cases hv;exact⟨_,by simp[binOp,Op.intBits],λΔ=> .int _ _⟩
 |or=>simp only[hint]at hv;cases hv;exact⟨_,by simp[binOp,Op.intBits],λΔ=> .int _ _⟩
 |xor=>simp only[hint]at hv;cases hv;exact⟨_,by simp[binOp,Op.intBits],λΔ=> .int _ _⟩
 |andNot=>simp only[hint]at hv;cases hv;exact⟨_,by simp[binOp,Op.intBits],λΔ=> .int _ _⟩
 |eql=>simp only[hint]at hv;cases hv;exact⟨_,by simp[binOp,Op.intCmp],λΔ=> .bool _⟩
 |neq=>simp only[hint]at hv;cases hv;exact⟨_,by simp[binOp,Op.intCmp],λΔ=> .bool _⟩
 |lss=>simp only[hint]at hv;cases hv;exact⟨_,by simp[binOp,Op.intCmp],λΔ=> .bool _⟩
 |leq=>simp only[hint]at hv;cases hv;exact⟨_,by simp[binOp,Op.intCmp],λΔ=> .bool _⟩
 |gtr=>simp only[hint]at hv;cases hv;exact⟨_,by simp[binOp,Op.intCmp],λΔ=> .bool _⟩
 |geq=>simp only[hint]at hv;cases hv;exact⟨_,by simp[binOp,Op.intCmp],λΔ=> .bool _⟩
theorem VB{op:BinOp} {k k':IntKind} {x y:Int} {v:V} (ty:Nat) (w:World) (hv:Tz op k x y=some v) :
  ∃r,(binOp op ty (.int k x) (.int k' y)).run P0 w = .ok r w/\∀Δ,fP Δ v r:=by
 unfold Tz at hv;split at hv
 ·cases hv
 ·rename_i m;have a:¬((Int.ofNat m)<0):=by simp
  split at hv
  ·cases hv;exact⟨_,by rfl,λΔ=> .int _ _⟩
  ·cases hv;exact⟨_,by rfl,λΔ=> .int _ _⟩
  ·cases hv
theorem YJ{op:BinOp} {x y:ByteArray} {v:V} (ty:Nat) (w:World) (hv:zbM op x.data.toList y.data.toList=some v) :
  ∃r,(binOp op ty (.string x) (.string y)).run P0 w = .ok r w/\∀Δ,fP Δ v r:=by
 have c:(binOp op ty (.string x) (.string y))=Op.stringOp op x y:=by cases op <;> rfl
 rw[c];have h:x.toList=x.data.toList:=ByteArray.toList_eq x;have i:y.toList=y.data.toList:=ByteArray.toList_eq y;cases op <;> simp only[zbM]at hv <;> try (cases hv;done)
 case add=>
  split at hv
  ·rename_i b;cases hv;have a:=JE b;have d:¬(((x.size+y.size:Nat):Int)>IntKind.i64.max):=by
    have f:x.data.toList.length=x.size:=rfl;have g:y.data.toList.length=y.size:=rfl;rw[f,g]at a;simp only[IntKind.max,IntKind.signed,IntKind.bits,if_true];omega
   have e:x.data.toList++y.data.toList=(x++y).data.toList:=by simp
   rw[e];exact⟨_,by simp_all[Op.stringOp,if_neg],λΔ=> .str _⟩
  ·cases hv
 all_goals
  cases hv;refine⟨_,by simp_all[Op.stringOp],λΔ=> .bool _⟩
theorem Ir{op:BinOp} {ty:Nat} {X Y:Operand} {x y:Value} (w:World) (a:x≠ .nilIface) (b:∀c,x≠ .agg c) :
  (eqGuard op ty X Y x y).run P0 w = .ok () w:=by
 cases op <;> unfold eqGuard <;> dsimp only <;> simp only[wCB,wBf,PT,if_true,if_false] <;> first
  |rfl
  |simp_all
theorem VU{d:TypeDesc} {ty:Nat} {x y:V} {xv a:Value} {b:Bool} (w:World) (c:Nat) (e:P0.underlying ty=some d) (f:fP Δ x xv) (g:fP Δ y a)
  (hv:XJ d x y=some b):(Op.equalIn (c+1) ty xv a).run P0 w = .ok b w:=by
 unfold XJ at hv;split at hv <;> first|(cases hv;done)|skip
 all_goals
  first
   |cases hv
   |(rw[hY]at hv;obtain⟨_,hv⟩:=hv;cases hv)
  cases f;cases g;simp only[Op.equalIn,xk,fX e,vQ];rfl
theorem VI{a:Array (String×TypeId)} {ty:Nat} (w:World) (b:Nat) (c:P0.underlying ty=some (.interface a)) (d:a.isEmpty=true):(Op.eqGuardIn (b+1) ty .nilIface .nilIface).run P0 w = .ok false w:=by
 simp_all[Op.eqGuardIn,xk,fX,vQ]
theorem Y3{d:TypeDesc} {ty:Nat} {x y:V} {xv a:Value} {b:Bool} (w:World) (g:P0.underlying ty=some d) (h:fP Δ x xv) (i:fP Δ y a)
  (hv:XJ d x y=some b):(Op.equal ty xv a).run P0 w = .ok b w/\(∀op X Y,(eqGuard op ty X Y xv a).run P0 w = .ok () w)/\
   (binOp .eql ty xv a)=(do pure (.bool (<-Op.equal ty xv a)))/\(binOp .neq ty xv a)=(do pure (.bool (!(<-Op.equal ty xv a)))):=by
 refine⟨VU w 9999 g h i hv,?_⟩;unfold XJ at hv;split at hv <;> first|(cases hv;done)|skip
 all_goals
  cases h;cases i
 all_goals refine⟨?_,rfl,rfl⟩
 all_goals intro op X Y
 any_goals (refine Ir w ?_ ?_ <;> first|(intro e;cases e;done)|(intro c e;simp_all))
 ·rename_i l;rw[hY]at hv;have k:=hv.1;have f:=VI w 9999 g k
  cases op <;> unfold eqGuard <;> dsimp only <;> simp only[wCB,wBf,PT,if_true,if_false] <;> first
   |rfl
   |(split
     ·rfl
     ·split
      ·rfl
      ·have j:Sem.run P0 (Op.eqGuardIn Op.maxDepth ty .nilIface .nilIface) w = .ok false w:=f
       simp_all)
 ·cases op <;> rfl
theorem zbS{ty:Nat} {x y:V} {xv f:Value} {b:Bool} (w:World) (g:Nat) (c:fP Δ x xv) (d:fP Δ y f) (hv:eq1 (P0.underlying ty) x y=some b) :
  (Op.equalIn (g+1) ty xv f).run P0 w = .ok b w/\Mn ty=some false:=by
 unfold eq1 at hv;split at hv
 ·rename_i a;cases c;cases d;cases hv;refine⟨?_,by grind[Mn]⟩;simp only[Op.equalIn,xk,fX a,vQ];rfl
 ·rename_i a;cases c;cases d;rw[hY]at hv;obtain⟨h,hv⟩:=hv;obtain rfl:=JT h;cases hv;refine⟨?_,by grind[Mn]⟩;simp only[Op.equalIn,xk,fX a,vQ,if_true];rfl
 ·rename_i a;cases c with|str xs=>cases d with|str ys=>
  cases hv;refine⟨?_,by grind[Mn]⟩;simp only[Op.equalIn,xk,fX a,vQ];have e:(xs.data.toList == ys.data.toList)=(xs == ys):=by
   rw[show(xs == ys)=(xs.data == ys.data) from rfl,V4,C9,C9];exact by simp_all
  simp_all
 ·cases hv
theorem M5{xs ys:List V} {a d:Array Value} (w:World) (i:Nat) (n:gP Δ xs a.toList) (o:gP Δ ys d.toList):∀{fs:List Field} {b:Bool},Li fs xs ys=some b->
  ((do
    for f in fs do
      if f.name≠ "_" then
        if !(<-Op.equalIn (i+1) f.type (<-part f.type a f.offset) (<-part f.type d f.offset)) then return false
    pure true:Sem Bool)).run P0 w = .ok b w
 |[],b,h=>by cases h;rfl
 | f ::fs,b,h=>by
   simp only[Li,hY,fx,wBh,Nj]at h;obtain⟨z,x,r,y,s,c,t,A⟩:=h;obtain⟨xv,j,k⟩:=n.get _ _ (Md r);obtain⟨p,l,m⟩:=o.get _ _ (Md s);obtain⟨B,q⟩:=zbS w i k m t;have u:(part f.type a f.offset).run P0 w = .ok xv w:=by
     have e:a[f.offset]? =some xv:=by simpa using j
     simp only[part,xk,Gu q,vQ,PT,if_false];simp[e]
   have v:(part f.type d f.offset).run P0 w = .ok p w:=by
     have g:d[f.offset]? =some p:=by simpa using l
     simp only[part,xk,Gu q,vQ,PT,if_false];simp[g]
   have C:=λ{b}=>M5 w i n o (fs:=fs) (b:=b);cases c <;> simp_all
theorem zbm{ty:Nat} {xs ys:List V} {xv a:Value} {b:Bool} (w:World) (c:fP Δ (.agg xs) xv) (d:fP Δ (.agg ys) a) (hv:WE ty xs ys=some b) :
  (Op.equal ty xv a).run P0 w = .ok b w/\(∀op X Y,(eqGuard op ty X Y xv a).run P0 w = .ok () w)/\
   (binOp .eql ty xv a)=(do pure (.bool (<-Op.equal ty xv a)))/\(binOp .neq ty xv a)=(do pure (.bool (!(<-Op.equal ty xv a)))):=by
 cases c with|agg _ xs' c=>cases d with|agg _ ys' d=>
 unfold WE at hv;split at hv
 ·rename_i fs f;simp only[hY,wBh]at hv;obtain⟨hs,g,hv⟩:=hv;refine⟨?_,λop X Y=>?_,rfl,rfl⟩
  ·have e:=M5 w 9998 c d hv;show(Op.equalIn (9999+1) ty (.agg xs') (.agg ys')).run P0 w=_;rw[Op.equalIn];simp only[xk,fX f,vQ,run_program,hs,PT,if_false,KL,<-Array.forIn_toList]at e⊢;exact e
  ·cases op <;> unfold eqGuard <;> dsimp only <;> simp only[wCB,wBf,PT,if_true,if_false] <;> first
    |rfl
    |simp_all
 ·cases hv
theorem ZV{op:BinOp} {ty:Nat} {X Y:Operand} {x y v:V} {xv a:Value} (w:World) (j:fP Δ x xv) (l:fP Δ y a) (hv:ev op ty x y=some v) :
  ∃r,(do eqGuard op ty X Y xv a;binOp op ty xv a:Sem Value).run P0 w = .ok r w/\fP Δ v r:=by
 unfold ev at hv;split at hv
 ·rename_i k p k' q;cases j;cases l;have m:=Ir (op:=op) (ty:=ty) (X:=X) (Y:=Y) (y:= .int k' q) w (x:= .int k p) (by simp) (by simp);split at hv
  ·obtain⟨r,o,e⟩:=VB (k':=k') ty w hv
   simp_all
  ·rename_i hs;rw[hY]at hv;obtain⟨u,hv⟩:=hv;obtain rfl:=JT u;obtain⟨r,o,e⟩:=Zv ty w hs hv
   simp_all
 ·cases j with|str xs=>cases l with|str ys=>
  have m:=Ir (op:=op) (ty:=ty) (X:=X) (Y:=Y) (y:= .string ys) w (x:= .string xs) (by simp) (by simp);obtain⟨r,o,e⟩:=YJ ty w hv
  simp_all
 ·have h:∀f,VN ty f x y=some v->∃b,(Op.equal ty xv a).run P0 w = .ok b w/\(∀op X Y,(eqGuard op ty X Y xv a).run P0 w = .ok () w)/\
    (binOp .eql ty xv a)=(do pure (.bool (<-Op.equal ty xv a)))/\(binOp .neq ty xv a)=(do pure (.bool (!(<-Op.equal ty xv a))))/\v = .bool (Bool.rec (motive:=λ_=>Bool) b (!b) f):=by
   clear hv;intro f c;unfold VN zb2 at c;rw[fx]at c;obtain⟨b,g,c⟩:=c;split at g
   ·obtain⟨n,i,s,t⟩:=zbm w j l g
    simp_all
   unfold Wz at g;split at g
   ·rename_i d z;obtain⟨n,i,s,t⟩:=Y3 w z j l g
    simp_all
   ·cases g
  split at hv
  ·obtain⟨b,n,i,s,_,rfl⟩:=h false hv;have m:=i .eql X Y;exact⟨.bool b,by simp_all,.bool b⟩
  ·obtain⟨b,n,i,_,t,rfl⟩:=h true hv;have m:=i .neq X Y;exact⟨.bool (!b),by simp_all,.bool _⟩
  ·cases hv
theorem zbA{op:UnOp} {x v:V} {xv:Value} (w:World) (a:fP Δ x xv) (hv:pI op x=some v):∃r,(Op.unary op xv).run P0 w = .ok r w/\fP Δ v r:=by
 unfold pI at hv;split at hv
 ·cases hv;cases a;rw[uf];exact⟨_,rfl,.int _ _⟩
 ·cases hv;cases a;exact⟨_,rfl,.bool _⟩
 ·simp only[hint]at hv;cases hv;cases a;exact⟨_,rfl,.int _ _⟩
 ·cases hv
theorem WZ{src dst:Nat} {p:PF} {xv:Value} {v:V} (w:World) (g:¬∃e,P0.underlying src=some (.slice e)/\P0.underlying dst=some .string) (hp:∀v,p.f t h=some v->fP Δ v xv) (hv:(KI src dst p).f t h=some v) :
  ∃r,(convert src dst xv).run P0 w = .ok r w/\fP Δ v r:=by
 unfold KI at hv;split at hv
 ·rename_i k' k hs d;rw[fx]at hv;obtain⟨x,b,a⟩:=hv;have c:=hp _ b;split at a
  ·cases a;cases c;rw[uf];exact⟨_,by simp_all[convert,fX,Conv.intToInt],.int _ _⟩
  ·cases a
 ·rename_i hs d;rw[fx]at hv;obtain⟨x,b,a⟩:=hv;have c:=hp _ b;split at a
  ·cases a;cases c
   simp_all[convert,fX]
  ·cases a
 ·simp_all
 ·cases hv
theorem MX{ty:Nat} {cs:List V} {pD:Array Value} {off:Nat} {v:V} (w:World) (hc:gP Δ cs pD.toList) (hv:RJ ty cs off=some v) :
  ∃r,(part ty pD off).run P0 w = .ok r w/\fP Δ v r:=by
 unfold RJ at hv
 cases ha:Mn ty with
 |none=>simp_all
 |some b=>cases b with
 | true =>
   simp only[ha]at hv
   cases hm:y0 ty with
   |none=>simp_all
   | some m=>
     simp only[hm,fx]at hv;obtain⟨l,d,e⟩:=hv;cases e;obtain⟨f,g⟩:=sub_eq d;refine⟨.agg (pD.extract off (off+m)),by simp_all[part,Gu,wm],.agg _ _ (gP.PD ?_ ?_)⟩
     ·have a:=hc.length
      have:∀i,i<m->off+i<cs.length:=by grind
      simp only[Yw]at a;simp only[Yw,Array.size_extract,f];rcases Nat.eq_zero_or_pos m with h0|h0
      ·omega
      ·have:=this (m-1) (by omega)
       omega
     ·intro i v hi
      have c:i<m:=by have:=(jR.1 hi).1;omega
      rw[g i c]at hi;obtain⟨x,h,j⟩:=hc.get _ _ hi
      simp_all
 | false=>
   simp only[ha]at hv;obtain⟨x,h,j⟩:=hc.get _ _ (Md hv)
   simp_all[part,Gu]
theorem L4{s f:Nat} {a:Field} (h:Ld s f=some a):∃fs,P0.underlying s=some (.struct fs)/\fs[f]? =some a:=by
 grind[Ld]
theorem Nk{s f:Nat} {p:PF} {xv:Value} {v:V} (w:World) (hp:∀v,p.f t h=some v->fP Δ v xv) (hv:(ot s p f).f t h=some v) :
  ∃r,(Instr.fieldAt s xv f).run P0 w = .ok r w/\fP Δ v r:=by
 unfold ot at hv;split at hv
 ·rename_i b c;obtain⟨fs,e,a⟩:=L4 c;split at hv
  ·rename_i m g;simp only[fx,wO]at hv;obtain⟨x,i,l,off,rfl,j⟩:=hv;cases j
   cases hp _ i with
   | ptr _ _ d k=>
     refine⟨_,by simp[Instr.fieldAt,fX e,a,Instr.sureAddr,fieldPlace,wm g,tS];rfl,?_⟩;have:=fP.ptr (Δ:=Δ) l (off+b.offset) d k
     grind
  ·cases hv
 ·cases hv
theorem UQ{s f:Nat} {p:PF} {xv:Value} {v:V} (w:World) (hp:∀v,p.f t h=some v->fP Δ v xv) (hv:(HZ s p f).f t h=some v) :
  ∃r,(Instr.field s xv f).run P0 w = .ok r w/\fP Δ v r:=by
 unfold HZ at hv;split at hv
 ·rename_i i d;obtain⟨fs,j,e⟩:=L4 d;rw[fx]at hv;obtain⟨x,g,a⟩:=hv;have b:=hp _ g;split at a
  ·cases b with
   | agg _ pD hc=>
     obtain⟨r,b,c⟩:=MX w hc a
     simp_all[Instr.field,fX,asAgg]
  ·cases a
 ·cases hv
theorem NC{ty:Nat} {p q:PF} {xv u:Value} {v:V} (w:World) (hp:∀v,p.f t h=some v->fP Δ v xv) (hq:∀v,q.f t h=some v->fP Δ v u)
  (hv:(oH ty p q).f t h=some v):∃r,(Instr.indexAt ty xv u).run P0 w = .ok r w/\fP Δ v r:=by
 unfold oH at hv;split at hv
 ·rename_i c e;split at hv
  ·rename_i m g;simp only[fx,Jg]at hv;obtain⟨x,j,i,k,kd,n,rfl,b⟩:=hv;have y:=hp _ j;cases hq _ k;split at b
   ·rename_i l off len;rw[hY]at b;obtain⟨a,b⟩:=b;cases b;rw[PM]at a
    cases y with
    | slice _ _ _ cap o d s A B z=>
      rcases z with⟨rfl,_,_⟩|⟨hc,_⟩
      ·refine⟨_,by simp[Instr.indexAt,asIntOf,fX e,wm g,a,tS];rfl,?_⟩
       have:=fP.ptr (Δ:=Δ) l (off+n*m) d s
       grind
      ·omega
   ·cases b
  ·cases hv
 ·rename_i len c e;split at hv
  ·rename_i m g;simp only[fx,Jg,wO,hY]at hv;obtain⟨x,j,i,k,kd,n,rfl,l,off,rfl,a,b⟩:=hv;cases b;rw[PM]at a;cases hq _ k
   cases hp _ j with
   | ptr _ _ d s=>
     refine⟨_,by simp[Instr.indexAt,asIntOf,fX e,wm g,a,tS,Instr.sureAddr];rfl,?_⟩;have:=fP.ptr (Δ:=Δ) l (off+n*m) d s
     grind
  ·cases hv
 ·cases hv
theorem VJ{ty:Nat} {p q:PF} {xv o:Value} {v:V} (w:World) (hp:∀v,p.f t h=some v->fP Δ v xv) (hq:∀v,q.f t h=some v->fP Δ v o)
  (hv:(HR ty p q).f t h=some v):∃r,(Instr.index ty xv o).run P0 w = .ok r w/\fP Δ v r:=by
 unfold HR at hv;split at hv
 ·rename_i len u y;split at hv
  ·rename_i m z;simp only[fx,Jg]at hv;obtain⟨x,j,i,k,kd,d,rfl,a⟩:=hv;have l:=hp _ j;cases hq _ k;split at a
   ·rw[hY]at a;obtain⟨c,a⟩:=a;rw[PM]at c
    cases l with
    | agg _ pD hc=>
      obtain⟨r,A,g⟩:=MX w hc a;refine⟨r,?_,g⟩;have e:(Nat.mul d m)=d*m:=rfl
      simp_all[Instr.index,asIntOf,fX,wm]
   ·cases a
  ·cases hv
 ·rename_i y;simp only[fx,Jg]at hv;obtain⟨x,j,i,k,kd,d,rfl,a⟩:=hv;have l:=hp _ j;cases hq _ k;split at a
  ·rw[fx]at a;obtain⟨b,n,a⟩:=a;cases a
   cases l with
   | str s=>
     rw[List.head?_drop]at n;have c:d<s.size:=(jR.1 n).1;have hs:s[d]? =some b:=by
       rw[getElem?_pos s d c];have:=(jR.1 n).2;simp only[Array.getElem_toList]at this;rw[<-this];rfl
     exact⟨.int .u8 b.toNat,by simp_all[Instr.index,asIntOf,fX],.int _ _⟩
  ·cases a
 ·cases hv
end
section
variable{Δ:Env}{h:Hp}{w:World}{n:Nat}{t:Tm}{a:Act}
inductive D1 (Δ:Env):Option V->Option Value->Prop
 |none:D1 Δ none none
 |some (v:V) (a:Value) (h:fP Δ v a):D1 Δ (some v) (some a)
theorem Ll(b:WR Δ h w) (c:TR Δ n t a) {x:Option Operand} {v:Option V} (hv:IU x t h=some v):D1 Δ v (x.map a.eval):=by
 cases x with
 |none=>simp only[IU]at hv;cases hv;exact .none
 | some x=>
   simp only[IU,fx]at hv;obtain⟨y,d,e⟩:=hv;cases e;exact .some _ _ (lH b c d)
theorem ET{d m:Nat} {lo:Option V} (hv:hbound d lo=some m):(lo=none/\m=d)\/∃k,lo=some (.int k (.ofNat m)):=by
 unfold hbound at hv;split at hv
 ·simp_all
 ·simp_all
 ·cases hv
theorem Jz{k:IntKind} {m y:Nat} {c:BoundsCode} (w:World) (a:m<=y):(Instr.sliceBound (.int k (.ofNat m)) y c).run P0 w = .ok m w:=by
 have b:(0:Int)<=Int.ofNat m/\(Int.ofNat m)<=(y:Int):=by simp_all
 simp_all[Instr.sliceBound,asIntOf,xk,KL,vQ,if_pos]
theorem JI{isS:Bool} {len cap l u:Nat} {lo hi:Option V} {b c:Option Value} (w:World) (d:D1 Δ lo b) (a:D1 Δ hi c)
  (h:hbound 0 lo=some l) (g:hbound len hi=some u) (e:l<=u) (f:u<=cap):(Instr.sliceBounds isS len cap b c none).run P0 w = .ok (l,u,cap) w:=by
 rcases ET h with⟨rfl,rfl⟩|⟨k,rfl⟩
 ·cases d;rcases ET g with⟨rfl,rfl⟩|⟨k,rfl⟩
  ·cases a;rfl
  ·cases a with|some _ _ hr=>
   cases hr
   grind[Instr.sliceBounds,xk,KL,vQ,Jz]
 ·cases d with|some _ _ hr=>
  cases hr;rcases ET g with⟨rfl,rfl⟩|⟨k,rfl⟩
  ·cases a
   grind[Instr.sliceBounds,xk,KL,vQ,Jz]
  ·cases a with|some _ _ hr=>
   cases hr;simp only[Instr.sliceBounds,xk,KL,vQ,Jz w f,Jz w e]
theorem Su(P:WR Δ h w) {ty c size:Nat} {x v:V} {xv:Value} {lo hi:Option V} {j k:Option Value} (M:fP Δ x xv) (m:D1 Δ lo j) (p:D1 Δ hi k)
  (W:P0.underlying ty=some (.slice c)) (hs:y0 c=some (size+1)) (hv:jy (Nat.succ size) x lo hi h=some v) :
  ∃r,(Instr.sliceAt ty xv j k none).run P0 w = .ok r w/\fP Δ v r:=by
 unfold jy at hv;split at hv
 ·rename_i lc off len;rw[lE]at hv;obtain⟨e,sz,live,ro,cs,Q,hv⟩:=hv;simp only[hY,fx]at hv;obtain⟨z,l,A,u,B,C,a,hv⟩:=hv;cases hv;have f:=AG z;have q:=JE C
  cases M with
  | slice _ _ _ cap o d D N E F=>
    obtain ⟨ob,s,R⟩:=P.obj lc d D;rw[Q]at s;cases s;obtain⟨_,g,S,_,_⟩:=R;have G:u<=cap:=by
      rw[Nc]at a;rcases a with a|a
      ·exact II (JE a) E
      ·have O:off+u*(size+1)<=cs.length:=JE a
       rcases F with⟨_,i,_⟩|⟨hc,i⟩
       ·rw[g,<-f]at i
        have:u*(size+1)<=cap*(size+1):=by have e:Nat.succ size=size+1:=rfl;rw[e]at i;omega
        exact Nat.le_of_mul_le_mul_right this (by omega)
       grind
    have t:=JI (isS:=true) (len:=len) (cap:=cap) w m p A B q G;have T:l<=cap:=by omega
    refine⟨.slice (if cap=l then some ⟨d.b,o,none⟩ else some ⟨d.b,o+l*(size+1),none⟩) (u-l) (cap-l),?_,?_⟩
    ·simp_all[Instr.sliceAt,xk,fX,vQ,Instr.slice,wm,tS]
    ·have y:cap*d.sz=l*d.sz+(cap-l)*d.sz:=by rw[<-Vx];congr 1;omega
     have U:d.sz=size+1:=by rw[g,<-f]
     split
     ·rename_i H
      refine .slice lc (Nat.add off (Nat.mul l (Nat.succ size))) (Nat.sub u l) (cap-l) o d D N ?_ (.inr ⟨by omega,?_⟩)
      ·simp_all
      grind
     ·rename_i H
      refine .slice lc (Nat.add off (Nat.mul l (Nat.succ size))) (Nat.sub u l) (cap-l) (o+l*(size+1)) d D N ?_ (.inl ?_)
      ·simp_all
      ·show o+l*(size+1)=d.base+(off+l*(size+1))/\d.n<=off+l*(size+1)+(cap-l)*d.sz/\d.base+(off+l*(size+1))+(cap-l)*d.sz<=d.VG
       rcases F with⟨F,i,I⟩|⟨hc,i⟩
       ·rw[U]at y i I⊢
        omega
       ·omega
 ·simp only[hY,fx]at hv;obtain⟨l,A,u,B,E,J,hv⟩:=hv;cases hv;have K:=AG E;have L:=AG J;subst K;subst L;cases M;have t:=JI (isS:=true) (len:=0) (cap:=0) w m p A B (jK _) (jK _);exact⟨.slice none 0 0,by simp_all[Instr.sliceAt,fX,Instr.slice,wm],.ef⟩
 ·cases hv
theorem Sg{ty:Nat} {x v:V} {xv:Value} {lo hi:Option V} {a b:Option Value} (w:World) (h:fP Δ x xv) (c:D1 Δ lo a) (d:D1 Δ hi b)
  (k:P0.underlying ty=some .string) (hv:O5 x lo hi=some v):∃r,(Instr.sliceAt ty xv a b none).run P0 w = .ok r w/\fP Δ v r:=by
 unfold O5 at hv;split at hv
 ·simp only[hY,fx]at hv;obtain⟨l,i,u,j,e,f,hv⟩:=hv;cases hv
  cases h with
  | str s=>
    have g:=JI (isS:=false) (len:=s.size) (cap:=s.size) w c d i j (JE e) (JE f);refine⟨.string (s.extract l u),by simp_all[Instr.sliceAt,fX,Instr.slice],?_⟩;have:=fP.str (Δ:=Δ) (s.extract l u)
    simp_all
 ·cases hv
theorem Va(b:WR Δ h w) (c:TR Δ n t a) {ty:Nat} {p:PF} {xv:Value} {lo hi:Option Operand} {v:V} (hp:∀v,p.f t h=some v->fP Δ v xv)
  (hv:(J5 ty p lo hi).f t h=some v):∃r,(Instr.sliceAt ty xv (lo.map a.eval) (hi.map a.eval) none).run P0 w = .ok r w/\fP Δ v r:=by
 unfold J5 at hv;split at hv
 ·rename_i d;simp only[fx]at hv;obtain⟨x,e,l,g,u,i,j⟩:=hv;exact Sg w (hp _ e) (Ll b c g) (Ll b c i) d j
 ·rename_i k d;split at hv
  ·rename_i m o;simp only[fx]at hv;obtain⟨x,e,l,g,u,i,j⟩:=hv;exact Su b (hp _ e) (Ll b c g) (Ll b c i) d o j
  ·cases hv
 ·cases hv
theorem JH{ty:Nat} {x y:V} {xv a:Value} {b:Bool} (c:fP Δ x xv) (e:fP Δ y a) (hv:J8 ty x y=some b) :
  (∀g w,(Op.equalIn (g+1) ty xv a).run P0 w = .ok b w)/\(∀d,P0.underlying ty=some d->Instr.sameNow d xv a=some b):=by
 unfold J8 at hv;split at hv
 ·rename_i f;split at hv
  ·rw[hY]at hv;obtain⟨h,hv⟩:=hv;cases hv;obtain rfl:=JT h;cases c;cases e
   grind[run_equalIn_int,Instr.sameNow]
  ·cases hv
 ·rename_i f;split at hv
  ·cases hv;cases c with|str xs=>cases e <;> grind[run_equalIn_string,ByteArray.toList_eq,Instr.sameNow,beq_toListBytes]
  ·cases hv
 ·rename_i f;split at hv
  ·cases hv;cases c;cases e
   grind[run_equalIn_bool',Instr.sameNow]
  ·cases hv
 ·cases hv
theorem UP{ty:Nat} (a:Es ty=true):Mn ty=some false:=by
 grind[Es,Mn]
theorem JU{ty:Nat} {cs:List V} {pD:Array Value} {off:Nat} {v:V} (w:World) (a:Es ty=true) (hc:gP Δ cs pD.toList) (hv:Iw cs off=some v) :
  ∃x,(part ty pD off).run P0 w = .ok x w/\fP Δ v x:=
 MX w hc (by grind[RJ,UP])
theorem Ru:∀{fs:List Field} {x y:List V} {xs ys:Array Value} {b:Bool},(∀f∈fs,Es f.type=true/\f.name≠ "_")->gP Δ x xs.toList->gP Δ y ys.toList->
  Qd fs x y=some b->∀a w,(Op.eqFields (a+1) xs ys fs).run P0 w = .ok b w
 |[],x,y,xs,ys,b,_,_,_,hv,a,w=>by simp[Qd]at hv;subst hv;rfl
 | f::fs,x,y,xs,ys,b,hf,hx,hy,hv,a,w=>by
   simp only[Qd,fx]at hv;obtain⟨p,i,q,j,e,k,l⟩:=hv;obtain⟨c,d⟩:=hf f (by simp);obtain⟨n,hp,g⟩:=JU w c hx i;obtain⟨o,hq,h⟩:=JU w c hy j;have m:=(JH g h k).1 a w;simp only[Op.eqFields];rw[if_pos d];simp only[xk,hp,hq,m,vQ]
   cases e with
   |false=>simp_all
   |true=>exact Ru (by simp_all) hx hy l a w
theorem NQ{ty:Nat} (a:IZ ty=some none):Es ty=true:=by
 grind[IZ,Es]
theorem LZ{ty:Nat} {fs:List Field} (a:IZ ty=some (some fs)):∃b,P0.underlying ty=some (.struct b)/\b.toList=fs/\P0.stoodInHeld ty=false/\∀f∈fs,Es f.type=true/\f.name≠ "_" :=by
 unfold IZ at a;split at a
 ·cases a
 ·cases a
 ·cases a
 ·rename_i b c;split at a
  ·grind
  ·cases a
 ·cases a
theorem Wd{ty:Nat} {d:Option (List Field)} {x y:V} {xv h:Value} {b:Bool} (j:IZ ty=some d) (e:fP Δ x xv) (f:fP Δ y h) (hv:Rf ty d x y=some b) (w:World) :
  (Op.equal ty xv h).run P0 w = .ok b w:=by
 cases d with
 |none=>exact(JH e f hv).1 9999 w
 | some fs=>
   obtain⟨g,i,a,hs,k⟩:=LZ j;simp only[Rf]at hv;split at hv
   ·cases e with|agg _ xs e=>cases f with|agg _ ys f=>
    have c:P0.fieldsOf ty=g:=by simp[Program.fieldsOf,i]
    have:=run_equalIn_struct (P:=P0) w 9999 ty xs ys (by rw[c];exact i) hs;rw[c,a]at this;exact this.trans (Ru k e f hv 9998 w)
   ·cases hv
def Z8(Δ:Env):Option (Nat×V)->Option (Nat×Value)->Prop
 |none,none=>True
 |some (i,v),some (i',v')=>i=i'/\fP Δ v v'
 |_,_=>False
theorem G6{ty:Nat} {d:Option (List Field)} {k:V} {f:Value} (g:IZ ty=some d) (h:fP Δ k f) (w:World):∀{c:List (V×V×Nat)} {a:List MapEntry} {i:Nat} {r:Option (Nat×V)},
  uF Δ c a->xI ty d k c i=some r->∃r',(Instr.findAsking ty f a i).run P0 w = .ok r' w/\Z8 Δ r r'
 |_,_,i,r,.nil,hv=>by simp[xI]at hv;subst hv;exact⟨none,rfl,trivial⟩
 | _,_,i,r,.cons k' v n e c a hk' hv' hb hs,hv=>by
   simp only[xI,fx]at hv;obtain⟨b,l,j⟩:=hv;have m:=Wd g h hk' l w;simp only[Instr.findAsking,xk,m,vQ]
   cases b with
   |true=>cases j;exact⟨some (i,e.val),rfl,rfl,hv'⟩
   |false=>exact G6 g h w hs j
theorem MY{ty:Nat} {k:V} {d:Value} {ds:TypeDesc} (f:P0.underlying ty=some ds) (g:fP Δ k d):∀{c:List (V×V×Nat)} {a:List MapEntry} {i:Nat} {r:Option (Nat×V)},
  uF Δ c a->xI ty none k c i=some r->∃r',Instr.findNow ds d a i=some r'/\Z8 Δ r r'
 |_,_,i,r,.nil,hv=>by simp[xI]at hv;subst hv;exact⟨none,rfl,trivial⟩
 | _,_,i,r,.cons k' v n e c a hk' hv' hb hs,hv=>by
   simp only[xI,fx]at hv;obtain⟨b,j,h⟩:=hv;have l:=(JH g hk' j).2 ds f;simp only[Instr.findNow,l]
   cases b with
   |true=>cases h;exact⟨some (i,e.val),rfl,rfl,hv'⟩
   |false=>exact MY f g hs h
theorem DM{ty:Nat} {d:Option (List Field)} {k:V} {h:Value} (c:IZ ty=some d) (i:fP Δ k h) (w:World) {b:List (V×V×Nat)} {a:List MapEntry} {r:Option (Nat×V)}
  (j:uF Δ b a) (hv:xI ty d k b 0=some r):∃r',(Instr.findKey ty h a).run P0 w = .ok r' w/\Z8 Δ r r':=by
 cases d with
 | none=>
   have m:=NQ c;unfold Es at m
   cases l:P0.underlying ty with
   |none=>simp_all
   | some ds=>
     obtain⟨r',o,p⟩:=MY l i j hv
     simp_all[Instr.findKey,fX]
 | some fs=>
   obtain⟨q,l,_,_,_⟩:=LZ c
   cases j with
   | nil=>
     simp[xI]at hv;subst hv
     exact⟨none,by simp_all[Instr.findKey,fX,Instr.findNow],trivial⟩
   | cons k' v n e b a f g s hs=>
     obtain⟨r',o,p⟩:=G6 c i w (.cons k' v n e b a f g s hs) hv
     simp_all[Instr.findNow,Instr.sameNow,Instr.findKey,xk,fX,vQ]
theorem Fb{em:Bool} {q:Nat} {cs:List V} {pD:Array Value} (w:World) (hq:0<q) (hc:gP Δ cs pD.toList):∀(fs:List Field),(∀f∈fs,Es f.type=true/\f.name≠ "_")->
  (fs.all λf=>(Iw cs f.offset).isSome)=true->
  (forIn fs PUnit.unit (λf _=>if f.name≠ "_" then do
    let x <-part f.type pD f.offset
    Instr.checkKey em q f.type x
    pure (ForInStep.yield PUnit.unit)
   else pure (ForInStep.yield PUnit.unit):Field->PUnit->Sem (ForInStep PUnit))).run P0 w = .ok PUnit.unit w
 |[],_,_=>rfl
 | f ::fs,hf,hh=>by
   obtain⟨m,rfl⟩:∃m,q=m+1:=by simp_all
   obtain ⟨a,b⟩:=hf f (by simp);simp only[wB6,vR]at hh;obtain⟨v,hv⟩:=Option.isSome_iff_exists.1 hh.1;obtain⟨x,d,e⟩:=JU w a hc hv;have c:(Instr.checkKey em (m+1) f.type x).run P0 w = .ok () w:=by
     unfold Es at a;split at a
     ·simp_all[Instr.checkKey,fX]
     ·simp_all[Instr.checkKey,fX]
     ·simp_all[Instr.checkKey,fX]
     ·cases a
   have g:=Fb (em:=em) (q:=m+1) w hq hc fs (by simp_all) hh.2
   simp_all
theorem yu{ty:Nat} {d:Option (List Field)} {k:V} {e:Value} (em:Bool) (q:Nat) (hq:0<q) (w:World) (f:IZ ty=some d) (g:fP Δ k e) (c:JM d k=true) :
  (Instr.checkKey em (q+1) ty e).run P0 w = .ok () w:=by
 cases d with
 | none=>
   have a:=NQ f;unfold Es at a;split at a
   ·simp_all[Instr.checkKey,fX]
   ·simp_all[Instr.checkKey,fX]
   ·simp_all[Instr.checkKey,fX]
   simp_all
 | some fs=>
   obtain⟨h,j,b,_,i⟩:=LZ f;simp only[JM]at c;split at c
   ·cases g with
    | agg cs pD hc=>
      have:=Fb (em:=em) (q:=q) w hq hc fs i c;rw[<-b,Array.forIn_toList]at this
      simp_all[Instr.checkKey,xk,fX,vQ]
   ·cases c
end
section
variable{Δ:Env}{h:Hp}{w:World}{n:Nat}{t:Tm}{a:Act}
theorem Ia(g:WR Δ h w) {l:Nat} {d:D} (i:Δ l=some d) {e:List (V×V×Nat)} {c:Nat} (j:h.get l=some (.map e c)) :
  ∃a,w.heap[d.b]? =some (.map a c)/\uF Δ e a.toList:=by
 obtain⟨o,f,k⟩:=g.obj l d i;rw[j]at f;cases f;obtain⟨_,_,_,a,m,n⟩:=k
 simp_all
theorem run_getObj_map{r:Nat}{a:Array MapEntry}{c:Nat}(b:w.heap[r]? =some (.map a c)):(getObj r).run P0 w = .ok (.map a c) w:=by grind[getObj,Sem.run]
theorem RQ{z:V} {a:Value} {ok:Bool} {r:Option (Nat×V)} {r':Option (Nat×Value)} (c:fP Δ z a) (b:Z8 Δ r r') :
  fP Δ (found z ok r) (match r' with
   |some (_,v)=>if ok then .tuple #[v,.bool true] else v
   |none=>if ok then .tuple #[a,.bool false] else a):=by
 cases r with
 | none=>cases r' with
   |none=>cases ok
          ·exact c
          ·exact .tuple _ _ (.cons _ _ _ _ c (.one (.bool false)))
   |some _=>cases b
 | some x=>cases r' with
   |none=>cases b
   | some d=>
     obtain⟨_,hv⟩:=b;cases ok
     ·exact hv
     ·exact .tuple _ _ (.cons _ _ _ _ hv (.one (.bool true)))
theorem Tg(C:WR Δ h w) {u:Nat} {p q:PF} {ok:Bool} {mv x:Value} {v:V} (hp:∀v,p.f t h=some v->fP Δ v mv) (hq:∀v,q.f t h=some v->fP Δ v x)
  (hv:(Gq u p q ok).f t h=some v):∃r,(Instr.lookup u mv x ok).run P0 w = .ok r w/\fP Δ v r:=by
 unfold Gq at hv;split at hv
 ·rename_i L M y;split at hv
  ·rename_i d z i D;obtain⟨N,E,e,_⟩:=z7 D;simp only[fx,hY]at hv;obtain⟨m,F,k,G,A,a⟩:=hv;have B:=hp _ F;have j:=hq _ G;split at a
   ·cases a;cases B;have g:=yu true 9999 (by omega) w i j A;have b:=DM i j w uF.nil (r:=none) (by rfl);obtain⟨r',b,n⟩:=b;have o:r' = none:=by cases r' <;> first|rfl|cases n
    subst o;refine⟨_,?_,RQ (ok:=ok) (r:=none) (r':=none) (e Δ) trivial⟩;simp only[Instr.lookup,xk,fX y,vQ,KL]
    simp_all
   ·simp only[Aq,fx]at a;obtain⟨O,c,H,r,b,a⟩:=a;cases a
    cases B with
    | map l P I=>
      obtain⟨s,J,K⟩:=Ia C I H;obtain⟨r',b,n⟩:=DM i j w K b;have g:=yu s.isEmpty 9999 (by omega) w i j A;refine⟨_,?_,RQ (ok:=ok) (e Δ) n⟩;simp only[Instr.lookup,xk,fX y,vQ,KL,run_getObj_map J,g,b]
      grind[xk,vQ,KL]
   ·cases a
  ·cases hv
 ·cases hv
theorem ZA(y:WR Δ h w) {ty:Nat} {n:Array Nat} (u:n[0]? =some ty) {rt:Nat} {p:PF} {xv:Value} {v:V} (hp:∀v,p.f t h=some v->fP Δ v xv)
  (hv:(hlen ty p).f t h=some v):∃r,(Builtin.len_ n rt #[xv]).run P0 w = .ok r w/\fP Δ v r:=by
 unfold hlen at hv;split at hv
 ·rename_i q;rw[fx]at hv;obtain⟨x,j,g⟩:=hv;have i:=hp _ j;split at g
  ·cases g
   cases i with
   |str s=>exact⟨goInt s.size,by simp_all[Builtin.len_,fX],.int _ _⟩
  ·cases g
 ·rename_i e q;rw[fx]at hv;obtain⟨x,j,g⟩:=hv;have i:=hp _ j;split at g
  ·rename_i lc off m;cases g;cases i;exact⟨goInt m,by simp_all[Builtin.len_,fX],.int _ _⟩
  ·cases g;cases i;exact⟨goInt 0,by simp_all[Builtin.len_,fX],.int _ _⟩
  ·cases g
 ·rename_i m e q;rw[fx]at hv;obtain⟨x,j,g⟩:=hv;cases g;exact⟨goInt m,by simp_all[Builtin.len_,fX],.int _ _⟩
 ·rename_i k e q;rw[fx]at hv;obtain⟨x,j,g⟩:=hv;have i:=hp _ j;split at g
  ·cases g;cases i;exact⟨goInt 0,by simp_all[Builtin.len_,fX],.int _ _⟩
  ·rw[Aq]at g;obtain⟨z,c,A,g⟩:=g;cases g
   cases i with
   | map l d B=>
     obtain ⟨o,C,D⟩:=Ia y B A;have hlen:z.length=o.size:=by
       have:∀{a:List (V×V×Nat)} {b:List MapEntry},uF Δ a b->a.length=b.length:=λh=>by induction h <;> simp_all
       simpa using this D
     refine⟨goInt o.size,by simp[Builtin.len_,u,fX q,run_getObj_map C],?_⟩;rw[hlen];exact .int _ _
  ·cases g
 ·cases hv
theorem OM{b:Bool} (w:World):∀{l:List V} {c:List Value} {x:V} {a:Value} {v:V},fP Δ x a->gP Δ l c->Qt b x l=some v->
  ∃r,(c.foldlM (if b then Builtin.max2 else Builtin.min2) a).run P0 w = .ok r w/\fP Δ v r
 |[],_,x,a,v,hx,hl,hv=>by simp[Qt]at hv;subst hv;cases hl;simp_all
 | y ::l,_,x,a,v,hx,hl,hv=>by
   cases hl with
   | cons _ h _ c e hs=>
     unfold Qt at hv;split at hv
     ·simp_all
     ·rename_i k p k' q r f
      cases f;cases hx;cases e;obtain⟨d,i,g⟩:=OM w (.int k _) hs hv;refine⟨d,?_,g⟩;rw[List.foldlM_cons];simp only[xk];cases b
      ·simp_all[PT,if_false,Builtin.min2,KL,vQ]
      simp_all[if_true,Builtin.max2,KL,vQ]
     ·cases hv
theorem Mr{ty:Nat} (hi:isIface ty=some false):∃d,P0.underlying ty=some d/\∀m,d≠ .interface m:=by
 grind[isIface]
theorem Sy{p:PF} {a xT:Nat} {ok:Bool} {xv:Value} {v:V} (w:World) (hp:∀v,p.f t h=some v->fP Δ v xv)
  (hv:(GI p a ok).f t h=some v):∃r,(Instr.typeAssert xv xT a ok).run P0 w = .ok r w/\fP Δ v r:=by
 unfold GI at hv;split at hv
 ·rename_i z hi n;obtain⟨m,o,c,_⟩:=z7 n;obtain⟨d,g,s⟩:=Mr hi;rw[fx]at hv;obtain⟨x,q,b⟩:=hv;have i:=hp _ q;split at b
  ·rename_i u y;cases b
   cases i with
   | iface _ _ j k=>
     rw[Ur];by_cases e:u=a
     ·have l:Nat.beq u a=true:=by rw[e];exact Tn _
      rw[if_pos l];refine⟨.tuple #[j,.bool true],?_,.tuple _ _ (.cons _ _ _ _ k (.one (.bool true)))⟩;simp only[Instr.typeAssert,xk,fX g,vQ]
      simp_all
     ·have l:¬Nat.beq u a=true:=by simp_all
      rw[if_neg l];refine⟨.tuple #[m,.bool false],?_,.tuple _ _ (.cons _ _ _ _ (c Δ) (.one (.bool false)))⟩;simp only[Instr.typeAssert,xk,fX g,vQ]
      simp_all
  ·rename_i u y;rw[hY]at b;obtain⟨e,b⟩:=b;cases b;have e:=AG e
   cases i with
   | iface _ _ j k=>
     refine⟨j,?_,k⟩;simp only[Instr.typeAssert,xk,fX g,vQ]
     simp_all
  ·cases b;cases i;refine⟨.tuple #[m,.bool false],?_,.tuple _ _ (.cons _ _ _ _ (c Δ) (.one (.bool false)))⟩;simp only[Instr.typeAssert,xk,fX g,vQ]
   simp_all
  ·cases b
 ·cases hv
theorem Wa{c p q:PF} {a pv d:Value} {v:V} (w:World) (hc:∀v,c.f t h=some v->fP Δ v a) (hp:∀v,p.f t h=some v->fP Δ v pv) (hq:∀v,q.f t h=some v->fP Δ v d)
  (hv:(KU c p q).f t h=some v):∃r,(do pure (Next.value (if <-asBool a then pv else d)):Sem Next).run P0 w = .ok (.value r) w/\fP Δ v r:=by
 unfold KU at hv;simp only[fx]at hv;obtain⟨x,g,e⟩:=hv;have i:=hc _ g;split at e
 ·rename_i b;cases i;cases b
  ·simp_all[asBool]
  simp_all[asBool]
 ·cases e
theorem Pd{p:PF} {x:Operand} {v:V} (w:World) (hp:∀v,p.f t h=some v->fP Δ v (a.eval x)) (hv:(uS p).f t h=some v) {dst ty pos af gd} :
  (execOp a.eval {dst:=dst,op:= .nilCheck x,type:=ty,pos:=pos,after:=af,guard:=gd}).run P0 w = .ok (.value (a.eval x)) w/\fP Δ v (a.eval x):=by
 unfold uS at hv;rw[fx]at hv;obtain⟨y,e,b⟩:=hv;have c:=hp _ e;simp only[execOp];generalize a.eval x=xv at c⊢;split at b
 ·cases b;cases c with|ptr _ _ d hd=>exact⟨rfl,.ptr _ _ d hd⟩
 ·cases b;cases c with|func _ _ _ p' q' e b=>exact⟨rfl,.func _ _ _ p' q' e b⟩
 ·cases b;cases c with|iface _ _ v' hv=>exact⟨rfl,.iface _ _ v' hv⟩
 ·cases b
theorem Qa{p:PF} {i:Nat} {xv:Value} {v:V} (w:World) (hp:∀v,p.f t h=some v->fP Δ v xv) (hv:(Fa p i).f t h=some v) :
  ∃r,(Instr.extract xv i).run P0 w = .ok r w/\fP Δ v r:=by
 unfold Fa at hv;rw[fx]at hv;obtain⟨y,c,a⟩:=hv;have d:=hp _ c;split at a
 ·cases d with
  | tuple vs e b=>
    obtain⟨x,g,j⟩:=b.get _ _ (Md a)
    simp_all[Instr.extract]
 ·cases a
theorem Sr{cs:List V} {xs:List Value} {s:List UInt8} (e:gP Δ cs xs) (hv:bytesOf cs=some s):xs=(s.map λb=>(b.toNat:Int)).map (Value.int .u8):=by
 induction cs generalizing xs s with
 |nil=>cases e;grind[bytesOf]
 | cons c cs g=>
   simp only[bytesOf,fx]at hv;obtain⟨b,a,l,h,i⟩:=hv;cases i
   cases e with
   | cons _ x _ xs j d=>
     rw[g d h];unfold byteOf at a;split at a
     ·rename_i m
      rw[hY]at a;obtain⟨f,k⟩:=a;cases k;cases j;have n:m<256:=by rw[PM]at f;exact f
      have:(UInt8.ofNat m).toNat=m:=by simp;omega
      grind
     ·cases a
theorem RZ(l:List UInt8):∀(r:ByteArray),((l.map λb=>(b.toNat:Int)).foldl (λr n=>r.push (UInt8.ofNat n.toNat)) r).data.toList=r.data.toList++l:=by
 induction l <;> simp_all
theorem MC{src dst e:Nat} (hs:P0.underlying src=some (.slice e)) (i:P0.underlying dst=some .string) (j:P0.underlying e=some (.int .u8)) {ad:Option Addr} {len cap:Nat} {cs:List V} {s:List UInt8}
  (d:bytesOf cs=some s) (hc:∀b,ad=some b->∃xs,(loadCells b len).run P0 w = .ok (Array.mk xs) w/\gP Δ cs xs) (f:ad=none->s=[]) :
  ∃x,(convert src dst (.slice ad len cap)).run P0 w = .ok x w/\fP Δ (.str s) x:=by
 cases ad with
 | none=>
   cases f rfl
   exact⟨.string .empty,by simp_all[convert,fX,Conv.bytesToString],.str ByteArray.empty⟩
 | some b=>
   obtain⟨xs,c,g⟩:=hc b rfl;rw[Sr g d]at c;have h:=run_bytesToString (P:=P0) w b len cap _ c;generalize hB:(List.foldl (λr n=>ByteArray.push r (UInt8.ofNat n.toNat)) ByteArray.empty (List.map (λb=>(b.toNat:Int)) s))=B at h;have a:B.data.toList=s:=by rw[<-hB,RZ];rfl
   refine⟨.string B,?_,by rw[<-a];exact .str B⟩
   simp_all[convert,xk,fX,vQ]
theorem vS(c:WR Δ h w) {l:Nat} {d:D} (e:Δ l=some d) {off m:Nat} {cs:List V} (hv:GN h l off m=some cs) :
  ∃xs,(loadCells ⟨d.b,d.base+off,none⟩ m).run P0 w = .ok (Array.mk xs) w/\gP Δ cs xs:=by
 obtain⟨a,g,f⟩:=IN c e hv;exact⟨a.toList,by omega,f⟩
theorem Qi{l off m:Nat} {cs:List V} (hv:GN h l off m=some cs):cs.length=m:=by
 grind[GN,lE,hY,sub_eq]
theorem U7(B:WR Δ h w) {src dst e:Nat} {p:PF} {xv:Value} {v:V} (hs:P0.underlying src=some (.slice e)) (c:P0.underlying dst=some .string) (hp:∀v,p.f t h=some v->fP Δ v xv) (hv:(KI src dst p).f t h=some v) :
  ∃r,(convert src dst xv).run P0 w = .ok r w/\fP Δ v r:=by
 unfold KI at hv;rw[hs,c]at hv;simp only at hv;split at hv
 ·rename_i i;simp only[fx]at hv;obtain⟨x,k,a⟩:=hv;have j:=hp _ k;split at a
  ·cases a;cases j;exact MC (Δ:=Δ) (w:=w) (src:=src) (dst:=dst) (e:=e) (ad:=none) (len:=0) (cap:=0) (cs:=[]) (s:=[]) hs c i rfl (by simp_all) (by simp_all)
  ·rename_i l off len;simp only[fx]at a;obtain⟨cs,m,s,n,q⟩:=a;cases q
   cases j with
   | slice _ _ _ cap o d u C y z=>
     have A:∃xs,(loadCells ⟨d.b,o,none⟩ len).run P0 w = .ok (Array.mk xs) w/\gP Δ cs xs:=by
       rcases z with⟨rfl,_,_⟩|⟨rfl,_⟩
       ·grind[vS]
       ·have:len=0:=by omega
        subst this;have g:cs=[]:=Wi (Qi m);subst g;exact⟨[],by rfl,.nil⟩
     exact MC (Δ:=Δ) (w:=w) (src:=src) (dst:=dst) (e:=e) (ad:=some ⟨d.b,o,none⟩) (len:=len) (cap:=cap) hs c i n (by simp_all) (by simp_all)
  ·cases a
 ·cases hv
theorem Zq(I:WR Δ h w) (G:TR Δ n t a) {o:Oper} {v:V} (hv:(iV o).f t h=some v):∃x,(execOp a.eval o).run P0 w = .ok (.value x) w/\fP Δ v x:=by
 obtain⟨dst,op,ty,pos,af,gd⟩:=o;have z:∀(x:Operand) v,(tx x).f t h=some v->fP Δ v (a.eval x):=by grind[lH]
 cases op with
 |move x=>exact⟨_,rfl,z x v hv⟩
 |assign x=>exact⟨_,rfl,z x v hv⟩
 |pick c p q=>exact Wa w (z c) (z p) (z q) hv
 | load ty T=>
   obtain⟨x,C,A⟩:=MI I (z T) hv
   exact⟨x,mW C,A⟩
 | nilCheck x=>
   obtain⟨C,A⟩:=Pd w (z x) hv (dst:=dst) (ty:=ty) (pos:=pos) (af:=af) (gd:=gd)
   simp_all
 | binOp op U x y yt=>
   simp only[iV,fx]at hv;obtain⟨p,C,q,A,J⟩:=hv;obtain⟨r,j,u⟩:=ZV (X:=x) (Y:=y) w (z x _ C) (z y _ A) J
   exact⟨r,mW j,u⟩
 | unOp op U x=>
   simp only[iV,fx]at hv;obtain⟨p,C,A⟩:=hv;obtain⟨r,j,u⟩:=zbA w (z x _ C) A
   exact⟨r,mW j,u⟩
 | convert src d x=>
   have K:∃r,(convert src d (a.eval x)).run P0 w = .ok r w/\fP Δ v r:=by
     by_cases mM:∃e,P0.underlying src=some (.slice e)/\P0.underlying d=some .string
     ·obtain⟨e,C,A⟩:=mM
      exact U7 I C A (z x) hv
     ·exact WZ w mM (z x) hv
   obtain⟨r,j,u⟩:=K
   exact⟨r,mW j,u⟩
 | build ty parts=>
   obtain⟨r,j,u⟩:=U3 G hv;refine⟨r,mW ?_,u⟩;rw[<-j];congr 2
   grind
 | makeFunc fn first S=>
   cases fn with
   | func f=>
     simp only[iV,fx]at hv;obtain⟨p,C,q,A,J⟩:=hv;cases J;refine⟨_,rfl,.func f p q _ _ ?_ ?_⟩
     ·have:=Bv G C;simp_all
     ·have:=Bv G A;simp_all
   |_=>cases hv
 | slice ty x lo hi W=>
   cases W with
   | none=>
     obtain⟨r,j,u⟩:=Va I G (z x) hv
     exact⟨r,mW j,u⟩
   |some _=>cases hv
 | fieldAddr s x f=>
   obtain⟨r,j,u⟩:=Nk w (z x) hv
   exact⟨r,mW j,u⟩
 | field s x f=>
   obtain⟨r,j,u⟩:=UQ w (z x) hv
   exact⟨r,mW j,u⟩
 | indexAddr ty x i=>
   obtain⟨r,j,u⟩:=NC w (z x) (z i) hv
   exact⟨r,mW j,u⟩
 | index ty x i=>
   obtain⟨r,j,u⟩:=VJ w (z x) (z i) hv
   exact⟨r,mW j,u⟩
 | lookup ty m k ok=>
   obtain⟨r,j,u⟩:=Tg I (z m) (z k) hv
   exact⟨r,mW j,u⟩
 | extract x i=>
   obtain⟨r,j,u⟩:=Qa w (z x) hv
   exact⟨r,mW j,u⟩
 | makeInterface ty x=>
   simp only[iV]at hv;split at hv
   ·rename_i hi
    obtain⟨d,Z,hd⟩:=Mr hi;simp only[fx]at hv;obtain⟨p,C,A⟩:=hv;cases A;refine⟨.iface ty (a.eval x),mW ?_,.iface _ _ _ (by simp_all)⟩;simp only[Instr.makeInterface,xk,fX Z,vQ];rfl
   ·cases hv
 | typeAssert x xT H ok=>
   obtain⟨r,j,u⟩:=Sy (xT:=xT) w (z x) hv
   exact⟨r,mW j,u⟩
 | call c =>
   obtain⟨E,args,D⟩:=c;simp only[iV]at hv
   cases E with
   | builtin b=>
     cases b <;> try (cases hv;done)
     case len=>
       simp only at hv;split at hv
       ·rename_i x M aa g L
        have N:D[0]? =some M:=by rw[<-Wy,L];rfl
        obtain⟨r,j,u⟩:=ZA I (rt:=ty) N (z x) hv;refine⟨r,?_,u⟩;have O:args.map a.eval = #[a.eval x]:=by apply Array.ext';simp[g]
        simp only[execOp,resolve,O];exact mW j
       ·cases hv
     case min=>
       simp only[fx]at hv;obtain⟨l,C,A⟩:=hv;split at A
       ·rename_i x r
        have B:=Bv G C
        cases g:args.toList.map a.eval with
        |nil=>rw[g]at B;cases B
        | cons P r'=>
          rw[g]at B
          cases B with
          | cons _ _ _ _ Q R=>
            obtain⟨F,J,j⟩:=OM w Q R A;refine⟨F,?_,j⟩;have O:(args.map a.eval).toList=P::r':=by simpa using g
            simp only[execOp,resolve];refine mW ?_
            grind[Builtin.min_]
       ·cases A
     case max=>
       simp only[fx]at hv;obtain⟨l,C,A⟩:=hv;split at A
       ·rename_i x r
        have B:=Bv G C
        cases g:args.toList.map a.eval with
        |nil=>rw[g]at B;cases B
        | cons P r'=>
          rw[g]at B
          cases B with
          | cons _ _ _ _ Q R=>
            obtain⟨F,J,j⟩:=OM w Q R A;refine⟨F,?_,j⟩;have O:(args.map a.eval).toList=P::r':=by simpa using g
            simp only[execOp,resolve];refine mW ?_
            grind[Builtin.max_]
       ·cases A
   |value f=>cases hv
   |invoke r m=>cases hv
 |_=>cases hv
end
def RW(Δ:Env)(b:Nat):Prop:=∃l d,Δ l=some d/\d.ro=false/\d.b=b
structure FR (Δ a:Env) (w w':World):Prop where
 le:Δ.le a
 size:w.heap.size<=w'.heap.size
 os:w'.os=w.os
 tape:w'.tape=w.tape
 output:w'.output=w.output
 fm:∀b,b<w.heap.size->¬RW Δ b->w'.heap[b]? =w.heap[b]?
 new:∀l d,a l=some d->Δ l=some d\/w.heap.size<=d.b\/RW Δ d.b
theorem FR.refl(Δ:Env)(w:World):FR Δ Δ w w:=⟨Env.le_refl _,jK _,rfl,rfl,rfl,by simp_all,by simp_all⟩
theorem FR.trans{Δ m c:Env} {w w' e:World} (h:FR Δ m w w') (h':FR m c w' e):FR Δ c w e where
 le:=Env.le_trans h.le h'.le
 size:=II h.size h'.size
 os:=h'.os.trans h.os
 tape:=h'.tape.trans h.tape
 output:=h'.output.trans h.output
 fm:=λb n o=>by
  rw[h'.fm b (Cb n h.size) ?_,h.fm b n o];rintro⟨l,d,f,r,rfl⟩;rcases h.new l d f with a|a|a
  ·exact o ⟨l,d,a,r,rfl⟩
  ·omega
  simp_all
 new:=λl d f=>by
  rcases h'.new l d f with a|a|⟨p,q,g,i,j⟩
  ·exact h.new l d a
  ·exact .inr (.inl (II h.size a))
  ·rcases h.new p q g with k|k|k
   ·exact .inr (.inr ⟨p,q,k,i,j⟩)
   ·omega
   simp_all
theorem wC(h:Hp) (o:O) (l:Nat):(h.new o).get l=if h.next=l then some o else h.get l:=by
 rw[Hp.get_eq,Hp.get_eq];unfold Hp.new;simp only[Tr.Jf]
 grind
theorem qn{h:Hp} {l:Nat} (o:O) (m:Nat) (a:l<h.next):(h.put l o).get m=if l=m then some o else h.get m:=by
 rw[Hp.get_eq,Hp.get_eq];unfold Hp.put;simp only[Tr.Jf]
 grind
def Env.set(Δ:Env)(l:Nat)(d:D):Env:=λm=>if m=l then some d else Δ m
theorem Env.yV{Δ:Env} {l:Nat} {d:D} (h:Δ l=none):Δ.le (Δ.set l d):=λm e a=>by
 unfold Env.set
 grind
theorem Env.w5(Δ:Env)(l:Nat)(d:D):(Δ.set l d) l=some d:=if_pos rfl
theorem Env.ml{Δ:Env} {l m:Nat} {d e:D} (h:(Δ.set l d) m=some e):(m=l/\e=d)\/(m≠l/\Δ m=some e):=by
 unfold Env.set at h
 grind
theorem WR.Gp{Δ:Env} {h:Hp} {w:World} (a:WR Δ h w):Δ h.next=none:=by
 cases hd:Δ h.next with
 |none=>rfl
 |some d=>exact absurd (a.fresh _ _ hd) (Yt _)
theorem heap_alloc(w:World) (ob:Obj) (b:Nat):(w.alloc ob).heap[b]? =if b=w.heap.size then some ob else w.heap[b]?:=by
 grind[World.alloc]
theorem CH.step{Δ a:Env} {w w':World} (h:CH Δ w) (i:∀b,b<w.heap.size->¬RW Δ b->w'.heap[b]? =w.heap[b]?) (j:∀l d,a l=some d->d.ro=false->Δ l=some d\/w.heap.size<=d.b\/RW Δ d.b):CH a w':=by
 intro g c f;obtain⟨⟨e,fr,k⟩,m⟩:=h g c f
 grind[V3,RW]
theorem WR.lay{Δ:Env} {h:Hp} {w:World} (c:WR Δ h w) {l:Nat} {o:O} {d:D} {ob:Obj} (v:Δ l=none) (z:l<h.next) (A:h.get l=some o) (B:d.b=w.heap.size)
  (C:Ry (Δ.set l d) d o (some ob)):WR (Δ.set l d) h (w.alloc ob) where
 fresh:=λm e a=>by
  rcases Env.ml a with⟨rfl,rfl⟩|⟨_,a⟩
  ·exact z
  ·exact c.fresh m e a
 oW:=λm e a=>by
  simp only[World.size_alloc];rcases Env.ml a with⟨rfl,rfl⟩|⟨_,a⟩
  ·omega
  ·have:=c.oW m e a;omega
 obj:=λm e a=>by
  rcases Env.ml a with⟨rfl,rfl⟩|⟨_,a⟩
  ·refine⟨o,A,?_⟩;rw[heap_alloc,if_pos B];exact C
  ·obtain⟨E,f,j⟩:=c.obj m e a;refine⟨E,f,?_⟩;rw[heap_alloc,if_neg (RB (c.oW m e a))];exact j.mono (Env.yV v)
 apart:=λm x e y p F a k n hp q r i s=>by
  rcases Env.ml a with⟨f,j⟩|⟨_,f⟩ <;> rcases Env.ml k with⟨t,G⟩|⟨_,t⟩
  ·omega
  ·have:=c.oW x y t;grind
  ·have:=c.oW m e f;grind
  ·exact c.apart m x e y p F f t n hp q r i s
 Iu:=λg p u hp=>by
  obtain⟨e,f,j⟩:=c.Iu g p u hp;exact⟨e,Env.yV v _ _ f,j⟩
 zb:=c.zb
 TL:=c.TL.step (by simp_all[heap_alloc,if_neg,RB]) λm e a _=>by
  rcases Env.ml a with⟨rfl,rfl⟩|⟨_,a⟩
  ·omega
  simp_all
theorem WR.more{Δ:Env} {h:Hp} {w:World} (a:WR Δ h w) (o:O):WR Δ (h.new o) w where
 fresh:=λl d f=>wBz (a.fresh l d f)
 oW:=a.oW
 obj:=λl d f=>by
  obtain⟨n,q,r⟩:=a.obj l d f;refine⟨n,?_,r⟩;rw[wC,if_neg (Nat.ne_of_gt (a.fresh l d f))];exact q
 apart:=λm s e t p u k b i hp c=>by
  rw[wC,if_neg (Nat.ne_of_gt (a.fresh _ _ k))]at hp;rw[wC,if_neg (Nat.ne_of_gt (a.fresh _ _ b))]at c;exact a.apart m s e t p u k b i hp c
 Iu:=λg p j hp=>by
  rw[wC,if_neg (by have:=a.zb;omega)]at hp;exact a.Iu g p j hp
 zb:=Yn a.zb
 TL:=a.TL
theorem FR.lay{Δ:Env} {w:World} {l:Nat} {d:D} {ob:Obj} (c:Δ l=none) (f:d.b=w.heap.size):FR Δ (Δ.set l d) w (w.alloc ob) where
 le:=Env.yV c
 size:=by simp
 os:=rfl
 tape:=rfl
 output:=rfl
 fm:=by simp_all[heap_alloc,if_neg,RB]
 new:=λm e a=>by
  rcases Env.ml a with⟨rfl,rfl⟩|⟨_,a⟩
  ·omega
  simp_all
def Made(Δ:Env) (ob:O) (mk:Nat->V) (a:Obj) (mv:Nat->Value):Prop:=∀l b,Δ l=none->∃d,d.b=b/\Ry (Δ.set l d) d ob (some a)/\fP (Δ.set l d) (mk l) (mv b)
theorem By{Δ:Env} {d:D} {cs:List V} {c:Array Value} {e:Nat} (hs:c.size=d.VG) (a:d.base=0) (b:cs.length<=d.VG) (hc:∀(i:Nat) (v:V),cs[i]? =some v->∃x,c[i]? =some x/\fP Δ v x) :
  Gn Δ d cs (some (.cells c e (0,0))):=
 ⟨c,e,(0,0),rfl,hs,λ_=> .inl rfl,by omega,λi v hi=>by rw[a,zA];exact hc i v hi⟩
theorem TP{Δ:Env} {e:Nat} {v:V} {xv:Value} {ob:O} {mk:Nat->V} (c:fP Δ v xv) (hv:lX e v=some (ob,mk)) :
  Made Δ ob mk (.cells xv.cells e) (λb=> .pointer (some ⟨b,0,none⟩)):=by
 unfold lX at hv;rw[hY]at hv;obtain⟨_,hv⟩:=hv;cases hv;intro l b g;have hc:=c.cells;have a:=Env.yV (d:=⟨b,0,1,v.cells.length,xv.cells.size,false,0⟩) g;refine⟨⟨b,0,1,v.cells.length,xv.cells.size,false,0⟩,rfl,⟨rfl,rfl,rfl,rfl,λ_=>?_⟩,?_⟩
 ·refine By rfl rfl (YO (by first|(simpa using hc.length)|(simpa using f.length))) λi u hi=>?_;obtain⟨x,c,f⟩:=hc.get i u hi;exact⟨x,by simp_all,f.mono a⟩
 ·exact fP.ptr l 0 ⟨b,0,1,v.cells.length,xv.cells.size,false,0⟩ (Env.w5 _ _ _)
theorem Gi{a size j7:Nat} {z:V} (h:elemOf a=some (size,j7,z)) :
  y0 a=some size/\ZH a=some j7/\zeroV a=some z/\0<size/\z.cells.length=size/\gG z.cells=true:=by
 grind[elemOf,fx,hY,PM,AG]
theorem zX{t e:Nat} (h:Gz t=some e):P0.underlying t=some (.slice e):=by
 grind[Gz]
theorem Rm(z:List V):∀(m i:Nat),(BO m z)[i]? =if i<m*z.length then z[i % z.length]? else none
 |0,i=>by simp[BO]
 | m + 1,i=>by
   simp only[BO,List.getElem?_append];by_cases a:i<z.length
   ·rw[if_pos a,if_pos (by grind),Nat.mod_eq_of_lt a]
   ·rw[if_neg a,Rm z m]
    have e:i % z.length=(i-z.length) % z.length:=by
      rw[Nat.mod_eq_sub_mod (by omega)]
    grind
theorem Bx(z:List V):∀m,(BO m z).length=m*z.length
 |0=>by simp[BO]
 |m+1=>by simp[BO,Bx z m,Vx,Nat.add_comm]
theorem QR{Δ:Env} {z:List V} {a:Array Value} (b:gP Δ z a.toList) (h0:0<z.length) (m:Nat):gP Δ (BO m z) ((Array.range (m*z.length)).map λi=>a[i % a.size]!).toList:=by
 have hlen:=b.length;simp only[Yw]at hlen;refine gP.PD (by simp[Bx]) λi v hi=>?_;rw[Rm]at hi;by_cases h:i<m*z.length
 ·rw[if_pos h]at hi;obtain⟨x,c,d⟩:=b.get _ _ hi
  grind
 simp_all
section
variable{Δ:Env}{h:Hp}{w:World}{n:Nat}{t:Tm}{a:Act}
theorem QW(X : TR Δ n t a) {o:Oper} {ob:O} {mk:Nat->V} (hv:(qy o).f t=some (ob,mk)) :
    ∃mo mv,(∀w,(execOp a.eval o).run P0 w = .ok (.value (mv w.heap.size)) (w.alloc mo))/\Made Δ ob mk mo mv:=by
  obtain⟨dst,op,ty,pos,af,gd⟩:=o
  cases op with
  | alloc e=>
    simp only[qy]at hv;split at hv
    ·rename_i z Q
     obtain⟨s,H,B,_⟩:=z7 Q;refine⟨_,_,λw=>mW (x:= .pointer (some ⟨w.heap.size,0,none⟩)) ?_,TP (B Δ) hv⟩
     simp_all[Instr.alloc,newVar,newRow]
    ·cases hv
  | box e x=>
    simp only[qy,fx]at hv;obtain⟨v,R,P⟩:=hv;refine⟨_,_,λw=>mW (x:= .pointer (some ⟨w.heap.size,0,none⟩)) ?_,TP (Fg X R) P⟩
    rfl
  | buildSlice S len parts=>
    simp only[qy]at hv;split at hv
    ·rename_i j I
     have hu:=zX I;split at hv
     ·rename_i size j7 z he
      obtain⟨hs,_,Q,T,D,_⟩:=Gi he;obtain⟨s,H,B,_⟩:=z7 Q;split at hv
      ·rename_i C
       have aj:len*size<=16777216:=JE C;simp only[Fu,fx,hY]at hv;obtain⟨ps,R,cs,P,_,J⟩:=hv;cases J;have E:=(B Δ).cells;have y:=QR E (by omega) len;have ak:s.cells.size=size:=by have:=E.length;simp only[Yw]at this;omega
       have g:gP Δ (BO len z.cells) ((Array.range (len*size)).map λi=>(if len*size=0 then(#[]:Array Value) else s.cells)[i % (if len*size=0 then(#[]:Array Value) else s.cells).size]!).toList:=by
         by_cases h0:len*size=0
         ·simp_all
         ·simp_all
       obtain⟨pD,Y,hr⟩:=Lj (DB X R) g P;refine⟨.cells pD j,λb=> .slice (some ⟨b,0,none⟩) len len,λw=>mW (w:=w) (x:= .slice (some ⟨w.heap.size,0,none⟩) len len) ?_,?_⟩
       ·have A:(parts.map λ(x:Nat×Operand)=>(x.1,a.eval x.2)).toList=parts.toList.map λx=>(x.1,a.eval x.2):=by simp
        have aa:¬(len*size>2 ^ 24):=by omega
        have U:(if len*size=0 then(pure #[]:Sem (Array Value)) else do pure (<-zeroValue j).cells).run P0 w = .ok (if len*size=0 then(#[]:Array Value) else s.cells) w:=by
          by_cases h0:len*size=0
          ·simp_all
          ·simp_all
        simp only[Instr.buildSlice,xk,fX hu,wm hs,vQ,Sem.run_ite];rw[if_neg aa];simp only[KL,vQ,xk];clear g U;by_cases h0:len*size=0
        ·simp only[if_pos h0]at Y⊢
         rw[A];have K:Instr.fill (λi=>some (i*size,size)) (Array.map (λx=>(#[]:Array Value)[x % (#[]:Array Value).size]!) (Array.range (len*size))) (List.map (λx=>(x.1,a.eval x.2)) parts.toList)=some pD:=Y;rw[K];rfl
        ·simp only[if_neg h0,H,vQ]at Y⊢
         rw[A];have K:Instr.fill (λi=>some (i*size,size)) (Array.map (λx=>s.cells[x % s.cells.size]!) (Array.range (len*size))) (List.map (λx=>(x.1,a.eval x.2)) parts.toList)=some pD:=Y;rw[K];rfl
       ·intro l b Z
        have L:=hr.length;simp only[Yw]at L;have al:cs.length=len*size:=by
          have h5:∀{place:Nat->Option (Nat×Nat)} {ps:List (Nat×V)} {c c':List V},Cl place c ps=some c'->c'.length=c.length:=by
            intro place ps
            induction ps with
            |nil=>grind[Cl]
            | cons p ps ih=>
              intro c c' h;simp only[Cl,fx,hY]at h;obtain⟨q,_,_,am,h6,h7⟩:=h;rw[ih h7,(Kc h6).1]
          rw[h5 P,Bx,D]
        have C:=Env.yV (d:=⟨b,0,size,cs.length,pD.size,false,0⟩) Z;refine⟨⟨b,0,size,cs.length,pD.size,false,0⟩,rfl,⟨rfl,rfl,rfl,rfl,λ_=>?_⟩,?_⟩
        ·refine By rfl rfl (by simp_all) λi u hi=>?_
         obtain⟨x,hx,M⟩:=hr.get i u hi;exact⟨x,by simp_all,M.mono C⟩
        ·refine fP.slice l 0 len len 0 ⟨b,0,size,cs.length,pD.size,false,0⟩ (Env.w5 _ _ _) rfl (jK _) (.inl ⟨rfl,?_,?_⟩)
         ·simp_all
         simp_all
      ·cases hv
     ·cases hv
    ·cases hv
  | makeSlice S m c=>
    simp only[qy]at hv;split at hv
    ·rename_i j I
     have hu:=zX I;split at hv
     ·rename_i size j7 z he
      obtain⟨hs,N,Q,T,D,_⟩:=Gi he;obtain⟨s,H,B,i,hi,an⟩:=z7 Q;simp only[fx]at hv;obtain⟨mv,R,cv,P,J⟩:=hv;have hm:=Fg X R;have hc:=Fg X P;unfold iu at J;split at J
      ·rename_i F c'
       simp only[hY]at J;obtain⟨h4,h5,h6,h7⟩:=J;cases h7;have ab:F<=c':=JE h4;have ao:c'*j7<=281474976710656:=JE h5;have ac:c'<=1099511627776:=JE h6;have ae:i.bytes=j7:=by
         unfold ZH at N;rw[fx]at N;obtain⟨i',W,hb⟩:=N;rw[hi]at W;cases W;simpa using hb
       have E:=(B Δ).cells;have y:=QR E (by omega) c';rw[D]at y;have ag:a.eval m = .int .i64 (F:Int):=by
         generalize a.eval m=x at hm;cases hm;rfl
       have ah:a.eval c = .int .i64 (c':Int):=by
         generalize a.eval c=x at hc;cases hc;rfl
       have wr:∀k:Nat,k<=1099511627776->IntKind.i64.wrap (k:Int)=k:=by grind[IntKind.wrap,IntKind.bits,IntKind.signed]
       refine⟨.cells ((Array.range (c'*size)).map λi=>s.cells[i % s.cells.size]!) j,λb=> .slice (some ⟨b,0,none⟩) F c',λw=>mW (w:=w) (x:= .slice (some ⟨w.heap.size,0,none⟩) F c') ?_,?_⟩
       ·rw[ag,ah]
        have e1:((i.bytes:Int)*(c':Int)>2 ^ 48)=False:=by
          rw[ae];have:(j7:Int)*(c':Int)=((c'*j7:Nat):Int):=by rw[Nat.mul_comm];simp
          rw[this];simp;omega
        have g:(if c'*size=0 then(pure #[]:Sem (Array Value)) else do pure (<-zeroValue j).cells).run P0 w = .ok (if c'*size=0 then(#[]:Array Value) else s.cells) w:=by
          by_cases h0:c'*size=0
          ·simp_all
          ·simp_all
        have G:((Array.range (c'*size)).map λi=>(if c'*size=0 then(#[]:Array Value) else s.cells)[i % (if c'*size=0 then(#[]:Array Value) else s.cells).size]!)=((Array.range (c'*size)).map λi=>s.cells[i % s.cells.size]!):=by
          by_cases h0:c'*size=0
          ·simp_all
          ·simp_all
        have c1:¬((c':Int)<0):=by omega
        have c2:¬((F:Int)<0):=by omega
        have c3:¬((F:Int)>(c':Int)):=by omega
        simp only[Instr.makeSlice,xk,fX hu,vQ,asInt,asIntOf,KL,typeInfo,run_program,hi,wr F (by omega),wr c' ac,e1,c1,c2,c3,decide_false,Bool.or_false,PT,if_false,run_askRoom,wm hs,Int.toNat_natCast];clear g;by_cases h0:c'*size=0
        ·simp only[if_pos h0,newRow,run_newObj,xk,KL,vQ]at G⊢
         rw[G];rfl
        simp_all[if_neg,newRow,run_newObj,xk,KL,vQ]
       ·intro l b Z
        have L:=y.length;simp only[Yw]at L;have ai:(BO c' z.cells).length=c'*size:=by rw[Bx,D]
        have C:=Env.yV (d:=⟨b,0,size,(BO c' z.cells).length,c'*size,false,0⟩) Z;refine⟨⟨b,0,size,(BO c' z.cells).length,c'*size,false,0⟩,rfl,⟨rfl,rfl,rfl,rfl,λ_=>?_⟩,?_⟩
        ·refine By (by simp) rfl (YO ai) λi u hi=>?_
         obtain⟨x,hx,M⟩:=y.get i u hi;exact⟨x,by grind,M.mono C⟩
        ·refine fP.slice l 0 F c' 0 ⟨b,0,size,(BO c' z.cells).length,c'*size,false,0⟩ (Env.w5 _ _ _) rfl ab (.inl ⟨rfl,?_,?_⟩)
         ·simp_all
         simp_all
      ·cases J
     ·cases hv
    ·cases hv
  | makeMap S r=>
    cases r with
    | none=>
      simp only[qy]at hv;split at hv
      ·cases hv
       refine⟨.map #[] 0,λb=> .map (some b),λw=>mW (x:= .map (some w.heap.size)) (by simp[Instr.makeMap]),?_⟩;intro l b Z;exact⟨⟨b,0,0,0,0,false,1⟩,rfl,⟨rfl,rfl,rfl,#[],rfl,.nil⟩,fP.map l ⟨b,0,0,0,0,false,1⟩ (Env.w5 _ _ _)⟩
      ·cases hv
    |some _=>cases hv
  |_=>cases hv
end
