/- Parts. -/
import Derived.Test.YtcoaokdoecgcbaaGreatDoorM01
import Derived.Laws.Pointers
import Derived.Laws.StructEq
import Derived.Laws.Strings2
import Derived.Laws.IdiomStrings
set_option maxHeartbeats 4000000
namespace Go.Proofs.YtcoaokdoecgcbaaGreatDoor.Hx
inductive qE (Δ:Env):List (V×V×Nat)->List MapEntry->Prop
 |nil:qE Δ [] []
 | cons (k v:V) (n:Nat) (e:MapEntry) (es:List (V×V×Nat)) (iP:List MapEntry) (a:fF Δ k e.key) (hv:fF Δ v e.val) (b:e.born=n)
   (hs:qE Δ es iP):qE Δ ((k,v,n)::es) (e::iP)
theorem qE.mono{Δ b:Env} (a:Δ.le b) {es:List (V×V×Nat)} {iP:List MapEntry} (h:qE Δ es iP):qE b es iP:=by
 induction h with
 |nil=>exact .nil
 |cons k v n e es iP c hv d _ f=>exact .cons k v n e es iP (c.mono a) (hv.mono a) d f
def G5(Δ:Env) (d:D) (cs:List V) (ob:Option Obj):Prop:=∃c e fr,ob=some (.cells c e fr)/\c.size=d.XH/\(d.ro=false->fr.1=fr.2\/d.XH<=fr.1)/\d.base+cs.length<=d.XH/\∀(i:Nat) (v:V),cs[i]? =some v->∃x,c[d.base+i]? =some x/\fF Δ v x
def uu(es:List (V×V×Nat))(c:Nat):Prop:=(es.map λe=>e.2.2).Nodup/\∀e∈es,e.2.2<c
def zeD(k:IntKind)(ks:List Int)(iP:List MapEntry):Prop:=(∀e∈iP,e.val = .bool true/\∃n∈ks,e.key = .int k n)/\∀n∈ks,∃e∈iP,e.key = .int k n
def SX(Δ:Env) (d:D) (o:O) (ob:Option Obj):Prop:=match o with
 | .cells _ sz live ro cs=>d.kind=0/\d.sz=sz/\d.n=cs.length/\d.ro=ro/\(live=true->G5 Δ d cs ob)
 | .map es a=>d.kind=1/\d.ro=false/\d.base=0/\∃iP,ob=some (.map iP a)/\qE Δ es iP.toList/\uu es a
 | .OG k ks=>d.kind=1/\d.ro=false/\d.base=0/\∃iP a,ob=some (.map iP a)/\zeD k ks iP.toList
 | .gone=>d.kind=2/\d.ro=false/\d.base=0
 | .iter m since seen last=>d.kind=2/\d.ro=false/\d.base=0/\∃c,ob=some (.mapIter c since seen.toArray last)/\
   (match m with
    |none=>c=none
    |some l=>∃e,Δ l=some e/\c=some e.b)
def O.live:O->Bool
 | .cells _ _ live _ _=>live
 |_=>true
def Cp(Δ:Env)(w:World):Prop:=∀g c,(g,c)∈zfO->(∃e fr,w.heap[g]? =some (.cells c e fr))/\∀l d,Δ l=some d->d.ro=false->d.b≠g
structure WR (Δ:Env) (h:Hp) (w:World):Prop where
 fresh:∀l d,Δ l=some d->l<h.next
 AA:∀l d,Δ l=some d->d.b<w.heap.size
 obj:∀l d,Δ l=some d->∃o,h.get l=some o/\SX Δ d o w.heap[d.b]?
 apart:∀l a d c o e,Δ l=some d->Δ a=some c->l≠a->h.get l=some o->h.get a=some e->o.live=true->e.live=true->
  (d.ro=false\/c.ro=false)->d.b≠c.b
 HA:∀g o,g<P0.globals.size->h.get g=some o->∃d,Δ g=some d/\d.b=g/\d.base=0
 xC:P0.globals.size<=h.next
 Va:Cp Δ w
inductive JZ (Δ:Env):List (Nat×List V)->List Deferred->Prop
 |nil:JZ Δ [] []
 | cons (g:Nat) (args:List V) (cap gK:Array Value) (l:List (Nat×List V)) (a:List Deferred) (b:gB Δ args (gK++cap).toList) (hl:JZ Δ l a) :
   JZ Δ ((g,args)::l) ({target:= .fn (.func g) cap,args:=gK}::a)
theorem JZ.mono{Δ c:Env} (b:Δ.le c) {l:List (Nat×List V)} {a:List Deferred} (h:JZ Δ l a):JZ c l a:=by
 induction h with
 |nil=>exact .nil
 |cons g args cap gK l a d _ e=>exact .cons g args cap gK l a (d.mono b) e
structure TR (Δ:Env) (n:Nat) (t:Tm) (a:Act):Prop where
 size:a.tmps.size=n
 rel:∀i,fF Δ (hN t i) (a.tmps.getD i undef)
 ds:JZ Δ t.ds a.defers
theorem G5.mono{Δ b:Env} (a:Δ.le b) {d:D} {cs:List V} {ob:Option Obj} (h:G5 Δ d cs ob):G5 b d cs ob:=by
 obtain⟨c,e,fr,f,g,j,k,l⟩:=h;exact⟨c,e,fr,f,g,j,k,λi v hi=>let⟨x,hx,hr⟩:=l i v hi;⟨x,hx,hr.mono a⟩⟩
theorem SX.mono{Δ n:Env} (a:Δ.le n) {d:D} {o:O} {ob:Option Obj} (h:SX Δ d o ob):SX n d o ob:=by
 cases o with
 | cells e sz live ro cs=>
   obtain⟨c,f,g,i,b⟩:=h
   exact⟨c,f,g,i,λhl=>(b hl).mono a⟩
 | map es j=>
   obtain⟨c,f,g,iP,i,b,p⟩:=h
   exact⟨c,f,g,iP,i,b.mono a,p⟩
 |OG k ks=>exact h
 |gone=>exact h
 | iter m since seen last=>
   obtain⟨c,f,g,q,i,b⟩:=h;refine⟨c,f,g,q,i,?_⟩
   cases m with
   |none=>exact b
   |some l=>obtain⟨r,hd,s⟩:=b;exact⟨r,a _ _ hd,s⟩
theorem TR.mono{Δ c:Env}(b:Δ.le c){n:Nat}{t:Tm}{a:Act}(h:TR Δ n t a):TR c n t a:=⟨h.size,λi=>(h.rel i).mono b,h.ds.mono b⟩
theorem fR{t:Nat}{d:TypeDesc}{w:World}(h:P0.underlying t=some d):(underlying t).run P0 w = .ok d w:=by simp[underlying,h]
theorem C8{t n:Nat} (h:ym t=some n):∃i,P0.info? t=some i/\i.size=n:=by
 grind[ym,fk]
theorem sR{t n:Nat} {w:World} (h:ym t=some n):(sizeOf t).run P0 w = .ok n w:=by
 obtain⟨i,hi,rfl⟩:=C8 h
 simp_all[sizeOf,typeInfo]
theorem G3{t:Nat} {b:Bool} {w:World} (h:Mp t=some b):(isAgg t).run P0 w = .ok b w:=by
 unfold Mp at h;split at h
 ·simp_all[isAgg,fR]
 ·simp_all[isAgg,fR]
 ·simp_all[isAgg,sG,fR,sP]
 ·cases h
theorem Au{t:Nat} {z:V} (h:zeroV t=some z):∃a,(∀w,(zeroValue t).run P0 w = .ok a w)/\(∀Δ,fF Δ z a)/\∃i,P0.info? t=some i/\i.zero=some a:=by
 unfold zeroV at h;simp only[fk]at h;obtain⟨i,hi,a,b,hv⟩:=h;exact⟨a,by simp_all[zeroValue,typeInfo],by grind[GO],i,hi,b⟩
theorem rU(b o n:Nat):(⟨b,o,none⟩:Addr).add n=⟨b,o+n,none⟩:=by
 grind[Addr.add]
section
variable{Δ:Env}{h:Hp}{w:World}{n:Nat}{t:Tm}{a:Act}
theorem EW(b:TR Δ n t a) {x:Operand} {v:V} (hv:(OI x).f t=some v):fF Δ v (a.eval x):=by
 cases x with
 |tmp i=>simp only[OI]at hv;cases hv;exact b.rel i
 | const c=>
   simp only[OI]at hv;split at hv
   ·rename_i y d;cases hv;exact GO Δ 8 c _ d
   ·cases hv
 |global g=>grind[OI]
 |func f=>simp only[OI]at hv;cases hv;exact .func f [] [] #[] #[] .nil .nil
theorem kJ(j:WR Δ h w) (b:TR Δ n t a) {x:Operand} {v:V} (hv:(rM x).f t h=some v):fF Δ v (a.eval x):=by
 cases x with
 | global g=>
   unfold rM at hv
   cases EO:Nat.blt g P0.globals.size with
   | true=>
     simp only[EO,fk]at hv;obtain⟨o,k,hv⟩:=hv;cases hv;have l:g<P0.globals.size:=by rw[<-RP];exact EO
     obtain⟨d,hd,m,e⟩:=j.HA g o l k;have:=fF.ptr (Δ:=Δ) g 0 d hd;rw[m,e]at this
     exact this
   |false=>simp_all
 |tmp i=>exact EW b hv
 |const c=>exact EW b hv
 |func f=>exact EW b hv
theorem A6(b:TR Δ n t a):∀{l:List Operand} {vs:List V},JW t l=some vs->gB Δ vs (l.map a.eval)
 |[],vs,hv=>by simp[JW]at hv;subst hv;exact .nil
 | x::l,vs,hv=>by
   simp only[JW,fk]at hv;obtain⟨v,c,d,e,f⟩:=hv;cases f;exact .cons _ _ _ _ (EW b c) (A6 b e)
inductive zay (Δ:Env):List (Nat×V)->List (Nat×Value)->Prop
 |nil:zay Δ [] []
 |cons (i:Nat) (v:V) (a:Value) (l:List (Nat×V)) (b:List (Nat×Value)) (hv:fF Δ v a) (hs:zay Δ l b):zay Δ ((i,v)::l) ((i,a)::b)
theorem DT(b:TR Δ n t a):∀{l:List (Nat×Operand)} {vs:List (Nat×V)},sD t l=some vs->zay Δ vs (l.map λx=>(x.1,a.eval x.2))
 |[],vs,hv=>by simp[sD]at hv;subst hv;exact .nil
 | x::l,vs,hv=>by
   simp only[sD,fk]at hv;obtain⟨v,c,d,e,f⟩:=hv;cases f;exact .cons _ _ _ _ _ (EW b c) (DT b e)
theorem VU(f:WR Δ h w) {l:Nat} {d:D} (hl:Δ l=some d) {e sz:Nat} {ro:Bool} {cs:List V} (g:h.get l=some (.cells e sz true ro cs))
  {i:Nat} {v:V} (hi:cs[i]? =some v):∃x,w.cell? ⟨d.b,d.base+i,none⟩=some x/\fF Δ v x:=by
 obtain⟨o,a,j⟩:=f.obj l d hl;rw[g]at a;cases a;obtain⟨_,_,_,_,hc⟩:=j;obtain⟨c,e',fr,k,_,_,_,m⟩:=hc rfl
 grind[World.cell?]
theorem JJ(g:WR Δ h w) {l:Nat} {d:D} (hl:Δ l=some d) {off m:Nat} {cs:List V} (hv:Hj h l off m=some cs) :
  ∃a,(loadCells ⟨d.b,d.base+off,none⟩ m).run P0 w = .ok a w/\gB Δ cs a.toList:=by
 unfold Hj at hv;rw[kI]at hv;obtain⟨e,sz,live,ro,all,i,hv⟩:=hv;rw[gG]at hv;obtain⟨rfl,hv⟩:=hv;obtain⟨hlen,c⟩:=sub_eq hv;have f:∀j,j<m->∃x v,w.cell? ⟨d.b,d.base+off+j,none⟩=some x/\cs[j]? =some v/\fF Δ v x:=by grind[iz,VU,X8]
 refine⟨_,run_loadCells w ⟨d.b,d.base+off,none⟩ m (λj=>(w.cell? ⟨d.b,d.base+off+j,none⟩).getD undef) (λj k=>?_),?_⟩
 ·grind[rU]
 grind[gB.RJ,kE]
theorem YR(a:WR Δ h w) {l:Nat} {d:D} (hl:Δ l=some d) {off:Nat} {v:V} (hv:ld1 h l off=some v) :
  ∃x,w.cell? ⟨d.b,d.base+off,none⟩=some x/\fF Δ v x:=by
 unfold ld1 at hv;rw[kI]at hv;obtain⟨e,sz,live,ro,all,c,hv⟩:=hv;rw[gG]at hv;obtain⟨rfl,hv⟩:=hv;exact VU a hl c (Nn hv)
theorem NI(g:WR Δ h w) {ty:Nat} {p:PF} {xv:Value} (i:∀v,p.f t h=some v->fF Δ v xv) {v:V} (hv:(Ij ty p).f t h=some v) :
  ∃x,(Instr.loadAt ty xv).run P0 w = .ok x w/\fF Δ v x:=by
 unfold Ij at hv;split at hv
 ·rename_i j;split at hv
  ·rename_i m n;simp only[fk,qj]at hv;obtain⟨av,b,l,off,rfl,cs,c,k⟩:=hv;cases k
   cases i _ b with
   | ptr _ _ d hd=>
     obtain⟨e,o,a⟩:=JJ g hd c;exact⟨.agg e,by simp_all[Instr.loadAt,Instr.sureAddr,loadVar,G3,sR],.agg _ _ a⟩
  ·cases hv
 ·rename_i j;simp only[fk,qj]at hv;obtain⟨av,b,l,off,rfl,c⟩:=hv
  cases i _ b with
  | ptr _ _ d hd=>
    obtain⟨x,q,a⟩:=YR g hd c
    simp_all[Instr.loadAt,Instr.sureAddr,loadVar,G3]
 ·cases hv
theorem LV:∀(fs:List Field) (pl:List (Nat×Nat)),placesOf fs=some pl->fs.mapM (λf=>(P0.info? f.type).map λi=>(f.offset,i.size))=some pl
 |[],pl,h=>by grind[placesOf]
 | f::fs,pl,h=>by
   simp only[placesOf,fk]at h;obtain⟨m,a,l,b,c⟩:=h;cases c;obtain⟨i,hi,rfl⟩:=C8 a;simp[List.mapM_cons,hi,LV fs l b]
theorem PE:∀(xs:List Value) (k off:Nat) (c:Array Value),off+k+xs.length<=c.size->
  ∀i,((xs.zipIdx k).foldl (λcs (p:Value×Nat)=>cs.setIfInBounds (off+p.2) p.1) c)[i]? =if off+k<=i/\i<off+k+xs.length then xs[i-(off+k)]? else c[i]?
 | [],k,off,c,_,i=>by
   simp_all[if_neg,wBw]
 | x::xs,k,off,c,hle,i=>by
   simp only[List.zipIdx_cons,List.foldl_cons];simp only[Jo]at hle;rw[PE xs (k+1) off _ (by simp;omega)]
   grind
theorem MF{place:Nat->Option (Nat×Nat)}:∀{t:List (Nat×V)} {f:List (Nat×Value)} {cells cs:List V} {a:Array Value},zay Δ t f->gB Δ cells a.toList->
  xE place cells t=some cs->∃oY,Instr.fill place a f=some oY/\gB Δ cs oY.toList
 |_,_,cells,cs,a,.nil,hc,hf=>by simp[xE]at hf;subst hf;exact⟨a,rfl,hc⟩
 | _,_,cells,cs,a,.cons i v v' l l' hv hs,hc,hf=>by
   simp only[xE,fk,gG]at hf;obtain⟨⟨off,size⟩,I,u,o,w,z⟩:=hf;obtain⟨hl,A,g⟩:=Lb w;have d:=hv.cells;have B:v'.cells.size=size:=by
     have:=d.length;rw[yi u]at this;simpa using this.symm
   have q:=hc.length;simp only[XU]at q;have C:v.cells.length=v'.cells.size:=by simpa using d.length
   have D:¬(v'.cells.size≠size\/off+v'.cells.size>a.size):=by
     rintro(h|h)
     ·omega
     ·omega
   have k:gB Δ o (v'.cells.zipIdx.foldl (λcs (c,j)=>cs.setIfInBounds (off+j) c) a).toList:=by
     have b:=PE v'.cells.toList 0 off a (by simp;omega);have e:(v'.cells.zipIdx.foldl (λcs (c,j)=>cs.setIfInBounds (off+j) c) a)=((v'.cells.toList.zipIdx 0).foldl (λcs (p:Value×Nat)=>cs.setIfInBounds (off+p.2) p.1) a):=by
       rw[<-Array.foldl_toList];simp
     rw[e];generalize hF:((v'.cells.toList.zipIdx 0).foldl (λcs (p:Value×Nat)=>cs.setIfInBounds (off+p.2) p.1) a)=F at b;have E:F.size=a.size:=by
      apply Nat.le_antisymm
      ·rcases Tu a.size F.size with r|s
       ·have:=b a.size
        grind
       omega
      ·rcases Tu F.size a.size with r|s
       ·have:=b F.size
        grind
       omega
     refine gB.RJ (by simp_all) λj x m=>?_;rw[g j]at m;have n:=b j;simp only[wBx,XU]at n;rw[wA1,n];by_cases hin:off<=j/\j<off+v.cells.length
     ·rw[if_pos hin]at m
      rw[if_pos (by omega)];exact d.get _ _ m
     ·rw[if_neg hin]at m
      rw[if_neg (by omega)];obtain⟨y,J,G⟩:=hc.get _ _ m
      simp_all
   obtain⟨oY,H,G⟩:=MF hs k z
   simp_all[Instr.fill,if_neg]
theorem W4(o:TR Δ n t a) {ty:Nat} {b:List (Nat×Operand)} {v:V} (hv:(IS ty b).f t h=some v) :
  ∃x,(Instr.build ty (b.map λx=>(x.1,a.eval x.2)).toArray).run P0 w = .ok x w/\fF Δ v x:=by
 unfold IS at hv;split at hv
 ·rename_i z q;obtain⟨B,_,g,i,hi,r⟩:=Au q;have c:=(g Δ).cells;split at hv
  ·rename_i d s;split at hv
   ·rename_i e C;simp only[fk]at hv;obtain⟨u,j,cs,k,l⟩:=hv;cases l;obtain⟨oY,y,m⟩:=MF (DT o j) c k;refine⟨.agg oY,?_,.agg _ _ m⟩
    simp_all[run_build,Program.built,LV]
   ·cases hv
  ·rename_i len p s;split at hv
   ·rename_i size hs;obtain⟨D,A,rfl⟩:=C8 hs;simp only[fk]at hv;obtain⟨u,j,cs,k,l⟩:=hv;cases l;obtain⟨oY,y,m⟩:=MF (DT o j) c k;refine⟨.agg oY,?_,.agg _ _ m⟩
    simp_all[run_build,Program.built]
   ·cases hv
  ·cases hv
 ·cases hv
end
theorem pA(k:IntKind) (n:Int):iy k n=k.wrap n:=by
 unfold iy
 cases n with
 |negSucc m=>rfl
 | ofNat m=>
   simp only;split
   ·rename_i a
    rw[RP]at a;have e:(Int.ofNat m)=(m:Int):=rfl
    grind[IntKind.wrap,IntKind.bits,IntKind.signed]
   ·rfl
section
variable{Δ:Env}{h:Hp}{w:World}{n:Nat}{t:Tm}{a:Act}
theorem mj{s:Sem Value}{x:Value}{w w':World}(h:s.run P0 w = .ok x w'):(do pure (Next.value (<-s)):Sem Next).run P0 w = .ok (.value x) w':=by simp[h]
theorem zD{k k':IntKind}(h:Fe k k' = true):k=k':=by cases k <;> cases k' <;> first|rfl|cases h
theorem zb3{op:BinOp} {k:IntKind} {x y:Int} {v:V} (ty:Nat) (w:World) (hs:Vt op=false) (hv:hint op k x y=some v) :
  ∃r,(binOp op ty (.int k x) (.int k y)).run P0 w = .ok r w/\∀Δ,fF Δ v r:=by
 cases op with
 |shl=>cases hs
 |shr=>cases hs
 |add=>simp only[hint]at hv;cases hv;rw[pA];exact⟨_,by simp[binOp,Op.intArith],λΔ=> .int _ _⟩
 |sub=>simp only[hint]at hv;cases hv;rw[pA];exact⟨_,by simp[binOp,Op.intArith],λΔ=> .int _ _⟩
 |mul=>simp only[hint]at hv;cases hv;rw[pA];exact⟨_,by simp[binOp,Op.intArith],λΔ=> .int _ _⟩
 | quo=>
   have b:y≠0:=by rintro rfl;simp[hint]at hv
   have a:some (V.int k (iy k (x.tdiv y)))=some v:=by
     rw[<-hv];unfold hint;simp only;split
     ·simp_all
     ·rfl
   cases a;rw[pA];exact⟨_,by simp_all[binOp,Op.intDiv],λΔ=> .int _ _⟩
 | rem=>
   have b:y≠0:=by rintro rfl;simp[hint]at hv
   have a:some (V.int k (x.tmod y))=some v:=by
     rw[<-hv];unfold hint;simp only;split
     ·simp_all
     ·rfl
   cases a;exact⟨_,by simp_all[binOp,Op.intDiv],λΔ=> .int _ _⟩
 |and=>simp only[hint]at hv;cases hv;exact⟨_,by simp[binOp,Op.intBits],λΔ=> .int _ _⟩
 |or=>simp only[hint]at hv;cases hv;exact⟨_,by simp[binOp,Op.intBits],λΔ=> .int _ _⟩
 |xor=>simp only[hint]at hv;cases hv;exact⟨_,by simp[binOp,Op.intBits],λΔ=> .int _ _⟩
 |andNot=>simp only[hint]at hv;cases hv;exact⟨_,by simp[binOp,Op.intBits],λΔ=> .int _ _⟩
 |eql=>simp only[hint]at hv;cases hv;exact⟨_,by simp[binOp,Op.intCmp],λΔ=> .bool _⟩
 |neq=>simp only[hint]at hv;cases hv;exact⟨_,by simp[binOp,Op.intCmp],λΔ=> .bool _⟩
 |lss=>simp only[hint]at hv;cases hv;exact⟨_,by simp[binOp,Op.intCmp],λΔ=> .bool _⟩
 |leq=>simp only[hint]at hv;cases hv;exact⟨_,by simp[binOp,Op.intCmp],λΔ=> .bool _⟩
 |gtr=>simp only[hint]at hv;cases hv;exact⟨_,by simp[binOp,Op.intCmp],λΔ=> .bool _⟩
 |geq=>simp only[hint]at hv;cases hv;exact⟨_,by simp[binOp,Op.intCmp],λΔ=> .bool _⟩
theorem W5{op:BinOp} {k k':IntKind} {x y:Int} {v:V} (ty:Nat) (w:World) (hv:Ut op k x y=some v) :
  ∃r,(binOp op ty (.int k x) (.int k' y)).run P0 w = .ok r w/\∀Δ,fF Δ v r:=by
 unfold Ut at hv;split at hv
 ·cases hv
 ·rename_i m;have a:¬((Int.ofNat m)<0):=by simp
  split at hv
  ·cases hv;exact⟨_,by rfl,λΔ=> .int _ _⟩
  ·cases hv;exact⟨_,by rfl,λΔ=> .int _ _⟩
  ·cases hv
theorem zb2{op:BinOp} {x y:ByteArray} {v:V} (ty:Nat) (w:World) (hv:zd8 op x.data.toList y.data.toList=some v) :
  ∃r,(binOp op ty (.string x) (.string y)).run P0 w = .ok r w/\∀Δ,fF Δ v r:=by
 have c:(binOp op ty (.string x) (.string y))=Op.stringOp op x y:=by cases op <;> rfl
 rw[c];have ex:x.toList=x.data.toList:=ByteArray.toList_eq x;have f:y.toList=y.data.toList:=ByteArray.toList_eq y;cases op <;> simp only[zd8]at hv <;> try (cases hv;done)
 case add=>
  split at hv
  ·rename_i b;cases hv;have a:=Iv b;have d:¬(((x.size+y.size:Nat):Int)>IntKind.i64.max):=by
    have e1:x.data.toList.length=x.size:=rfl;have e2:y.data.toList.length=y.size:=rfl;rw[e1,e2]at a;simp only[IntKind.max,IntKind.signed,IntKind.bits,if_true];omega
   have e:x.data.toList++y.data.toList=(x++y).data.toList:=by simp
   rw[e];exact⟨_,by simp_all[Op.stringOp,if_neg],λΔ=> .str _⟩
  ·cases hv
 all_goals
  cases hv;refine⟨_,by simp_all[Op.stringOp],λΔ=> .bool _⟩
theorem Jg{op:BinOp} {ty:Nat} {X Y:Operand} {x y:Value} (w:World) (a:x≠ .nilIface) (b:∀c,x≠ .agg c) :
  (eqGuard op ty X Y x y).run P0 w = .ok () w:=by
 cases op <;> unfold eqGuard <;> dsimp only <;> simp only[wBc,Bool.not_false,PM,if_true,if_false] <;> first
  |rfl
  |simp_all
theorem XB{d:TypeDesc} {ty:Nat} {x y:V} {xv a:Value} {b:Bool} (w:World) (c:Nat) (e:P0.underlying ty=some d) (f:fF Δ x xv) (g:fF Δ y a)
  (hv:YH d x y=some b):(Op.equalIn (c+1) ty xv a).run P0 w = .ok b w:=by
 unfold YH at hv;split at hv <;> first|(cases hv;done)|skip
 all_goals
  first
   |cases hv
   |(rw[gG]at hv;obtain⟨_,hv⟩:=hv;cases hv)
  cases f <;> cases g <;> (simp only[Op.equalIn,sG,fR e,sP];rfl)
theorem WU{a:Array (String×TypeId)} {ty:Nat} (w:World) (b:Nat) (c:P0.underlying ty=some (.interface a)) (d:a.isEmpty=true):(Op.eqGuardIn (b+1) ty .nilIface .nilIface).run P0 w = .ok false w:=by
 simp_all[Op.eqGuardIn,sG,fR,sP]
theorem zbz{d:TypeDesc} {ty:Nat} {x y:V} {xv a:Value} {b:Bool} (w:World) (g:P0.underlying ty=some d) (h:fF Δ x xv) (i:fF Δ y a)
  (hv:YH d x y=some b):(Op.equal ty xv a).run P0 w = .ok b w/\(∀op X Y,(eqGuard op ty X Y xv a).run P0 w = .ok () w)/\
   (binOp .eql ty xv a)=(do pure (.bool (<-Op.equal ty xv a)))/\(binOp .neq ty xv a)=(do pure (.bool (!(<-Op.equal ty xv a)))):=by
 refine⟨XB w 9999 g h i hv,?_⟩;unfold YH at hv;split at hv <;> first|(cases hv;done)|skip
 all_goals cases h <;> cases i
 all_goals refine⟨?_,rfl,rfl⟩
 all_goals intro op X Y
 any_goals (refine Jg w ?_ ?_ <;> first|(intro e;cases e;done)|(intro c e;simp_all))
 ·rename_i l;rw[gG]at hv;have k:=hv.1;have f:=WU w 9999 g k
  cases op <;> unfold eqGuard <;> dsimp only <;> simp only[wBc,Bool.not_false,PM,if_true,if_false] <;> first
   |rfl
   |(split
     ·rfl
     ·split
      ·rfl
      ·have j:Sem.run P0 (Op.eqGuardIn Op.maxDepth ty .nilIface .nilIface) w = .ok false w:=f
       simp_all)
 ·cases op <;> rfl
theorem zdt{ty:Nat} {x y:V} {xv f:Value} {b:Bool} (w:World) (g:Nat) (c:fF Δ x xv) (d:fF Δ y f) (hv:eq1 (P0.underlying ty) x y=some b) :
  (Op.equalIn (g+1) ty xv f).run P0 w = .ok b w/\Mp ty=some false:=by
 unfold eq1 at hv;split at hv
 ·rename_i a;cases c;cases d;cases hv;refine⟨?_,by grind[Mp]⟩;simp only[Op.equalIn,sG,fR a,sP];rfl
 ·rename_i a;cases c;cases d;rw[gG]at hv;obtain⟨h,hv⟩:=hv;obtain rfl:=zD h;cases hv;refine⟨?_,by grind[Mp]⟩;simp only[Op.equalIn,sG,fR a,sP,if_true];rfl
 ·rename_i a;cases c with|str xs=>cases d with|str ys=>
  cases hv;refine⟨?_,by grind[Mp]⟩;simp only[Op.equalIn,sG,fR a,sP];have e:(xs.data.toList == ys.data.toList)=(xs == ys):=by
   rw[show(xs == ys)=(xs.data == ys.data) from rfl,Uv,KC,KC];exact by simp_all
  simp_all
 ·cases hv
theorem MZ{xs ys:List V} {a d:Array Value} (w:World) (i:Nat) (n:gB Δ xs a.toList) (o:gB Δ ys d.toList):∀{fs:List Field} {b:Bool},MG fs xs ys=some b->
  ((do
    for f in fs do
      if f.name≠ "_" then
        if !(<-Op.equalIn (i+1) f.type (<-part f.type a f.offset) (<-part f.type d f.offset)) then return false
    pure true:Sem Bool)).run P0 w = .ok b w
 |[],b,h=>by cases h;rfl
 | f ::fs,b,h=>by
   simp only[MG,gG,fk,wBl,wBA]at h;obtain⟨z,x,r,y,s,c,t,A⟩:=h;obtain⟨xv,j,k⟩:=n.get _ _ (Nn r);obtain⟨p,l,m⟩:=o.get _ _ (Nn s);obtain⟨B,q⟩:=zdt w i k m t;have u:(part f.type a f.offset).run P0 w = .ok xv w:=by
     have e:a[f.offset]? =some xv:=by simpa using j
     simp only[part,sG,G3 q,sP,PM,if_false];simp[e]
   have v:(part f.type d f.offset).run P0 w = .ok p w:=by
     have g:d[f.offset]? =some p:=by simpa using l
     simp only[part,sG,G3 q,sP,PM,if_false];simp[g]
   have C:=λ{b}=>MZ w i n o (fs:=fs) (b:=b);cases c <;> simp_all
theorem zdk{ty:Nat} {xs ys:List V} {xv a:Value} {b:Bool} (w:World) (c:fF Δ (.agg xs) xv) (d:fF Δ (.agg ys) a) (hv:zal ty xs ys=some b) :
  (Op.equal ty xv a).run P0 w = .ok b w/\(∀op X Y,(eqGuard op ty X Y xv a).run P0 w = .ok () w)/\
   (binOp .eql ty xv a)=(do pure (.bool (<-Op.equal ty xv a)))/\(binOp .neq ty xv a)=(do pure (.bool (!(<-Op.equal ty xv a)))):=by
 cases c with|agg _ xs' c=>cases d with|agg _ ys' d=>
 unfold zal at hv;split at hv
 ·rename_i fs f;simp only[gG,wBl]at hv;obtain⟨hs,g,hv⟩:=hv;refine⟨?_,λop X Y=>?_,rfl,rfl⟩
  ·have e:=MZ w 9998 c d hv;show(Op.equalIn (9999+1) ty (.agg xs') (.agg ys')).run P0 w=_;rw[Op.equalIn];simp only[sG,fR f,sP,run_program,hs,PM,if_false,Lg,<-Array.forIn_toList]at e⊢;exact e
  ·cases op <;> unfold eqGuard <;> dsimp only <;> simp only[wBc,Bool.not_false,PM,if_true,if_false] <;> first
    |rfl
    |simp_all
 ·cases hv
theorem zbX{op:BinOp} {ty:Nat} {X Y:Operand} {x y v:V} {xv a:Value} (w:World) (j:fF Δ x xv) (l:fF Δ y a) (hv:ef op ty x y=some v) :
  ∃r,(do eqGuard op ty X Y xv a;binOp op ty xv a:Sem Value).run P0 w = .ok r w/\fF Δ v r:=by
 unfold ef at hv;split at hv
 ·rename_i k p k' q;cases j;cases l;have m:=Jg (op:=op) (ty:=ty) (X:=X) (Y:=Y) (y:= .int k' q) w (x:= .int k p) (by simp) (by simp);split at hv
  ·obtain⟨r,o,e⟩:=W5 (k':=k') ty w hv
   simp_all
  ·rename_i hs;rw[gG]at hv;obtain⟨u,hv⟩:=hv;obtain rfl:=zD u;obtain⟨r,o,e⟩:=zb3 ty w hs hv
   simp_all
 ·cases j with|str xs=>cases l with|str ys=>
  have m:=Jg (op:=op) (ty:=ty) (X:=X) (Y:=Y) (y:= .string ys) w (x:= .string xs) (by simp) (by simp);obtain⟨r,o,e⟩:=zb2 ty w hv
  simp_all
 ·have h:∀f,Xs ty f x y=some v->∃b,(Op.equal ty xv a).run P0 w = .ok b w/\(∀op X Y,(eqGuard op ty X Y xv a).run P0 w = .ok () w)/\
    (binOp .eql ty xv a)=(do pure (.bool (<-Op.equal ty xv a)))/\(binOp .neq ty xv a)=(do pure (.bool (!(<-Op.equal ty xv a))))/\v = .bool (Bool.rec (motive:=λ_=>Bool) b (!b) f):=by
   clear hv;intro f c;unfold Xs X9 at c;rw[fk]at c;obtain⟨b,g,c⟩:=c;split at g
   ·obtain⟨n,i,s,t⟩:=zdk w j l g
    simp_all
   unfold VQ at g;split at g
   ·rename_i d z;obtain⟨n,i,s,t⟩:=zbz w z j l g
    simp_all
   ·cases g
  split at hv
  ·obtain⟨b,n,i,s,_,rfl⟩:=h false hv;have m:=i .eql X Y;exact⟨.bool b,by simp_all,.bool b⟩
  ·obtain⟨b,n,i,_,t,rfl⟩:=h true hv;have m:=i .neq X Y;exact⟨.bool (!b),by simp_all,.bool _⟩
  ·cases hv
theorem zdJ{op:UnOp} {x v:V} {xv:Value} (w:World) (a:fF Δ x xv) (hv:qH op x=some v):∃r,(Op.unary op xv).run P0 w = .ok r w/\fF Δ v r:=by
 unfold qH at hv;split at hv
 ·cases hv;cases a;rw[pA];exact⟨_,rfl,.int _ _⟩
 ·cases hv;cases a;exact⟨_,rfl,.bool _⟩
 ·simp only[hint]at hv;cases hv;cases a;exact⟨_,rfl,.int _ _⟩
 ·cases hv
theorem Y9{src dst:Nat} {p:PF} {xv:Value} {v:V} (w:World) (g:¬∃e,P0.underlying src=some (.slice e)/\P0.underlying dst=some .string) (d:∀v,p.f t h=some v->fF Δ v xv) (hv:(LQ src dst p).f t h=some v) :
  ∃r,(convert src dst xv).run P0 w = .ok r w/\fF Δ v r:=by
 unfold LQ at hv;split at hv
 ·rename_i k' k hs hd;rw[fk]at hv;obtain⟨x,b,a⟩:=hv;have c:=d _ b;split at a
  ·cases a;cases c;rw[pA];exact⟨_,by simp_all[convert,fR,Conv.intToInt],.int _ _⟩
  ·cases a
 ·rename_i hs hd;rw[fk]at hv;obtain⟨x,b,a⟩:=hv;have c:=d _ b;split at a
  ·cases a;cases c
   simp_all[convert,fR]
  ·cases a
 ·simp_all
 ·cases hv
theorem OB{ty:Nat} {cs:List V} {oY:Array Value} {off:Nat} {v:V} (w:World) (hc:gB Δ cs oY.toList) (hv:RU ty cs off=some v) :
  ∃r,(part ty oY off).run P0 w = .ok r w/\fF Δ v r:=by
 unfold RU at hv
 cases ha:Mp ty with
 |none=>simp_all
 |some b=>cases b with
 | true =>
   simp only[ha]at hv
   cases hm:ym ty with
   |none=>simp_all
   | some m=>
     simp only[hm,fk]at hv;obtain⟨l,d,e⟩:=hv;cases e;obtain⟨hl,f⟩:=sub_eq d;refine⟨.agg (oY.extract off (off+m)),by simp_all[part,G3,sR],.agg _ _ (gB.RJ ?_ ?_)⟩
     ·have a:=hc.length
      have:∀i,i<m->off+i<cs.length:=by grind
      simp only[XU]at a;simp only[XU,Array.size_extract,hl];rcases Nat.eq_zero_or_pos m with h0|h0
      ·omega
      ·have:=this (m-1) (by omega)
       omega
     ·intro i v hi
      have c:i<m:=by have:=(kE.1 hi).1;omega
      rw[f i c]at hi;obtain⟨x,g,h⟩:=hc.get _ _ hi
      simp_all
 | false=>
   simp only[ha]at hv;obtain⟨x,g,h⟩:=hc.get _ _ (Nn hv)
   simp_all[part,G3]
theorem NW{s f:Nat} {a:Field} (h:Mz s f=some a):∃fs,P0.underlying s=some (.struct fs)/\fs[f]? =some a:=by
 grind[Mz]
theorem OL{s f:Nat} {p:PF} {xv:Value} {v:V} (w:World) (b:∀v,p.f t h=some v->fF Δ v xv) (hv:(qA s p f).f t h=some v) :
  ∃r,(Instr.fieldAt s xv f).run P0 w = .ok r w/\fF Δ v r:=by
 unfold qA at hv;split at hv
 ·rename_i c e;obtain⟨fs,g,a⟩:=NW e;split at hv
  ·rename_i m i;simp only[fk,qj]at hv;obtain⟨x,j,l,off,rfl,k⟩:=hv;cases k
   cases b _ j with
   | ptr _ _ d hd=>
     refine⟨_,by simp[Instr.fieldAt,fR g,a,Instr.sureAddr,fieldPlace,sR i,rU];rfl,?_⟩;have:=fF.ptr (Δ:=Δ) l (off+c.offset) d hd
     grind
  ·cases hv
 ·cases hv
theorem Xm{s f:Nat} {p:PF} {xv:Value} {v:V} (w:World) (d:∀v,p.f t h=some v->fF Δ v xv) (hv:(IU s p f).f t h=some v) :
  ∃r,(Instr.field s xv f).run P0 w = .ok r w/\fF Δ v r:=by
 unfold IU at hv;split at hv
 ·rename_i j e;obtain⟨fs,k,g⟩:=NW e;rw[fk]at hv;obtain⟨x,i,a⟩:=hv;have b:=d _ i;split at a
  ·cases b with
   | agg _ oY hc=>
     obtain⟨r,b,c⟩:=OB w hc a
     simp_all[Instr.field,fR,asAgg]
  ·cases a
 ·cases hv
theorem OP{ty:Nat} {p q:PF} {xv s:Value} {v:V} (w:World) (u:∀v,p.f t h=some v->fF Δ v xv) (hq:∀v,q.f t h=some v->fF Δ v s)
  (hv:(qp ty p q).f t h=some v):∃r,(Instr.indexAt ty xv s).run P0 w = .ok r w/\fF Δ v r:=by
 unfold qp at hv;split at hv
 ·rename_i c e;split at hv
  ·rename_i m g;simp only[fk,KF]at hv;obtain⟨x,j,i,k,y,n,rfl,b⟩:=hv;have z:=u _ j;cases hq _ k;split at b
   ·rename_i l off len;rw[gG]at b;obtain⟨a,b⟩:=b;cases b;rw[RP]at a
    cases z with
    | slice _ _ _ cap o d hd B hl A=>
      rcases A with⟨rfl,_,_⟩|⟨hc,_⟩
      ·refine⟨_,by simp[Instr.indexAt,asIntOf,fR e,sR g,a,rU];rfl,?_⟩
       have:=fF.ptr (Δ:=Δ) l (off+n*m) d hd
       grind
      ·omega
    |wild=>omega
   ·cases b
  ·cases hv
 ·rename_i len c e;split at hv
  ·rename_i m g;simp only[fk,KF,qj,gG]at hv;obtain⟨x,j,i,k,y,n,rfl,l,off,rfl,a,b⟩:=hv;cases b;rw[RP]at a;cases hq _ k
   cases u _ j with
   | ptr _ _ d hd=>
     refine⟨_,by simp[Instr.indexAt,asIntOf,fR e,sR g,a,rU,Instr.sureAddr];rfl,?_⟩;have:=fF.ptr (Δ:=Δ) l (off+n*m) d hd
     grind
  ·cases hv
 ·cases hv
theorem W8{ty:Nat} {p q:PF} {xv o:Value} {v:V} (w:World) (u:∀v,p.f t h=some v->fF Δ v xv) (hq:∀v,q.f t h=some v->fF Δ v o)
  (hv:(Jc ty p q).f t h=some v):∃r,(Instr.index ty xv o).run P0 w = .ok r w/\fF Δ v r:=by
 unfold Jc at hv;split at hv
 ·rename_i len y z;split at hv
  ·rename_i m B;simp only[fk,KF]at hv;obtain⟨x,j,i,k,A,d,rfl,a⟩:=hv;have l:=u _ j;cases hq _ k;split at a
   ·rw[gG]at a;obtain⟨c,a⟩:=a;rw[RP]at c
    cases l with
    | agg _ oY hc=>
      obtain⟨r,C,g⟩:=OB w hc a;refine⟨r,?_,g⟩;have e:(Nat.mul d m)=d*m:=rfl
      simp_all[Instr.index,asIntOf,fR,sR]
   ·cases a
  ·cases hv
 ·rename_i z;simp only[fk,KF]at hv;obtain⟨x,j,i,k,A,d,rfl,a⟩:=hv;have l:=u _ j;cases hq _ k;split at a
  ·rw[fk]at a;obtain⟨b,n,a⟩:=a;cases a
   cases l with
   | str s=>
     rw[List.head?_drop]at n;have c:d<s.size:=(kE.1 n).1;have hs:s[d]? =some b:=by
       rw[getElem?_pos s d c];have:=(kE.1 n).2;simp only[Array.getElem_toList]at this;rw[<-this];rfl
     exact⟨.int .u8 b.toNat,by simp_all[Instr.index,asIntOf,fR],.int _ _⟩
  ·cases a
 ·cases hv
end
section
variable{Δ:Env}{h:Hp}{w:World}{n:Nat}{t:Tm}{a:Act}
inductive DD (Δ:Env):Option V->Option Value->Prop
 |none:DD Δ none none
 |some (v:V) (a:Value) (h:fF Δ v a):DD Δ (some v) (some a)
theorem MD(b:WR Δ h w) (c:TR Δ n t a) {x:Option Operand} {v:Option V} (hv:Ko x t h=some v):DD Δ v (x.map a.eval):=by
 cases x with
 |none=>simp[Ko]at hv;cases hv;exact .none
 | some x=>
   simp[Ko,fk]at hv
   let⟨y,d,e⟩:=hv
   cases e;exact .some _ _ (kJ b c d)
theorem Fp{d m:Nat} {lo:Option V} (hv:hbound d lo=some m):(lo=none/\m=d)\/∃k,lo=some (.int k (.ofNat m)):=by
 unfold hbound at hv;split at hv
 ·simp_all
 ·simp_all
 ·cases hv
theorem Kf{k:IntKind} {m y:Nat} {c:BoundsCode} (w:World) (a:m<=y):(Instr.sliceBound (.int k (.ofNat m)) y c).run P0 w = .ok m w:=by
 simp_all[Instr.sliceBound,asIntOf]
theorem GU{isS:Bool} {len cap l u:Nat} {lo hi:Option V} {b c:Option Value} (w:World) (d:DD Δ lo b) (a:DD Δ hi c)
  (h:hbound 0 lo=some l) (g:hbound len hi=some u) (e:l<=u) (f:u<=cap):(Instr.sliceBounds isS len cap b c none).run P0 w = .ok (l,u,cap) w:=by
 rcases Fp h with⟨rfl,rfl⟩|⟨k,rfl⟩
 ·cases d;rcases Fp g with⟨rfl,rfl⟩|⟨k,rfl⟩
  ·cases a;rfl
  ·cases a with|some _ _ hr=>
   cases hr
   grind[Instr.sliceBounds,sG,Lg,sP,Kf]
 ·cases d with|some _ _ hr=>
  cases hr;rcases Fp g with⟨rfl,rfl⟩|⟨k,rfl⟩
  ·cases a
   grind[Instr.sliceBounds,sG,Lg,sP,Kf]
  ·cases a with|some _ _ hr=>
   cases hr;simp only[Instr.sliceBounds,sG,Lg,sP,Kf w f,Kf w e]
theorem UU(J:WR Δ h w) {ty f size:Nat} {x v:V} {xv:Value} {lo hi:Option V} {s t:Option Value} (K:fF Δ x xv) (k:DD Δ lo s) (m:DD Δ hi t)
  (M:P0.underlying ty=some (.slice f)) (hs:ym f=some (size+1)) (hv:iL (Nat.succ size) x lo hi h=some v) :
  ∃r,(Instr.sliceAt ty xv s t none).run P0 w = .ok r w/\fF Δ v r:=by
 unfold iL at hv;split at hv
 ·rename_i lc off len;rw[kI]at hv
  let⟨e,sz,live,ro,cs,hg,hv⟩:=hv
  simp only[gG,fk]at hv
  let⟨hsz,l,A,u,B,hlu,c,hv⟩:=hv
  cases hv;have g:=yi hsz;have i:=Iv hlu
  cases K with
  | wild _ _ a d hd C D N=>
    let⟨ob,hob,hr'⟩:=J.obj lc d hd
    rw[hg]at hob;cases hob
    let⟨_,hdsz,hdn,_,_⟩:=hr'
    have p:u=0:=by
      rw[GY]at c;rcases c with c|c
      ·exact Nat.le_zero.1 (Iv c)
      ·have y:off+u*(size+1)<=cs.length:=Iv c
       rcases Nat.eq_zero_or_pos u with h|h
       ·exact h
       ·have:0<u*(size+1):=Nat.mul_pos h (by omega)
        omega
    subst p;obtain rfl:l=0:=by omega
    have j:=GU (isS:=true) (cap:=0) w k m A B i (jv _);refine⟨.slice (some a) 0 0,?_,?_⟩
    ·simp_all[Instr.sliceAt,sG,fR,Instr.slice,sR]
    ·exact .wild lc _ a d hd C D (by show d.n<=off+0*_;omega)
  | slice _ _ _ cap o d hd C hl E=>
    let⟨ob,hob,D⟩:=J.obj lc d hd
    rw[hg]at hob;cases hob
    let⟨_,hdsz,hdn,_,_⟩:=D
    have F:u<=cap:=by
      rw[GY]at c;rcases c with c|c
      ·exact KK (Iv c) hl
      ·have y:off+u*(size+1)<=cs.length:=Iv c
       rcases E with⟨_,q,_⟩|⟨hc,q⟩
       ·rw[hdsz,<-g]at q
        have:u*(size+1)<=cap*(size+1):=by have e:Nat.succ size=size+1:=rfl;rw[e]at q;omega
        exact Nat.le_of_mul_le_mul_right this (by omega)
       grind
    have j:=GU (isS:=true) w k m A B i F;have L:l<=cap:=by omega
    refine⟨.slice (if cap=l then some ⟨d.b,o,none⟩ else some ⟨d.b,o+l*(size+1),none⟩) (u-l) (cap-l),?_,?_⟩
    ·simp_all[Instr.sliceAt,sG,fR,Instr.slice,sR,rU]
    ·have z:cap*d.sz=l*d.sz+(cap-l)*d.sz:=by rw[<-XA];congr 1;omega
     have e2:d.sz=size+1:=by rw[hdsz,<-g]
     split
     ·rename_i G
      refine .slice lc (Nat.add off (Nat.mul l (Nat.succ size))) (Nat.sub u l) (cap-l) o d hd C ?_ (.inr ⟨by omega,?_⟩)
      ·simp_all
      grind
     ·rename_i G
      refine .slice lc (Nat.add off (Nat.mul l (Nat.succ size))) (Nat.sub u l) (cap-l) (o+l*(size+1)) d hd C ?_ (.inl ?_)
      ·simp_all
      ·show o+l*(size+1)=d.base+(off+l*(size+1))/\d.n<=off+l*(size+1)+(cap-l)*d.sz/\d.base+(off+l*(size+1))+(cap-l)*d.sz<=d.XH
       rcases E with⟨E,q,H⟩|⟨hc,q⟩
       ·rw[e2]at z q H⊢
        omega
       ·omega
 ·simp only[gG,fk]at hv
  let⟨l,A,u,B,hl,hu',hv⟩:=hv
  cases hv;have I:=yi hl;have p:=yi hu';subst I;subst p;cases K;have j:=GU (isS:=true) w k m A B (jv _) (jv _);exact⟨.slice none 0 0,by simp_all[Instr.sliceAt,fR,Instr.slice,sR],.ed⟩
 ·cases hv
theorem U2{ty:Nat} {x v:V} {xv:Value} {lo hi:Option V} {a b:Option Value} (w:World) (f:fF Δ x xv) (c:DD Δ lo a) (d:DD Δ hi b)
  (i:P0.underlying ty=some .string) (hv:Q8 x lo hi=some v):∃r,(Instr.sliceAt ty xv a b none).run P0 w = .ok r w/\fF Δ v r:=by
 unfold Q8 at hv;split at hv
 ·simp only[gG,fk]at hv
  let⟨l,g,u,h,hlu,hus,hv⟩:=hv
  cases hv
  cases f with
  | str s=>
    have e:=GU (isS:=false) w c d g h (Iv hlu) (Iv hus);refine⟨.string (s.extract l u),by simp_all[Instr.sliceAt,fR,Instr.slice],?_⟩;have:=fF.str (Δ:=Δ) (s.extract l u)
    simp_all
 ·cases hv
theorem Xl(b:WR Δ h w) (c:TR Δ n t a) {ty:Nat} {p:PF} {xv:Value} {lo hi:Option Operand} {v:V} (k:∀v,p.f t h=some v->fF Δ v xv)
  (hv:(Ly ty p lo hi).f t h=some v):∃r,(Instr.sliceAt ty xv (lo.map a.eval) (hi.map a.eval) none).run P0 w = .ok r w/\fF Δ v r:=by
 unfold Ly at hv;split at hv
 ·rename_i d;simp[fk]at hv
  let⟨x,e,l,g,u,i,j⟩:=hv
  exact U2 w (k _ e) (MD b c g) (MD b c i) d j
 ·rename_i o d;split at hv
  ·rename_i m q;simp[fk]at hv
   let⟨x,e,l,g,u,i,j⟩:=hv
   exact UU b (k _ e) (MD b c g) (MD b c i) d q j
  ·cases hv
 ·cases hv
theorem LC{ty:Nat} {x y:V} {xv a:Value} {b:Bool} (c:fF Δ x xv) (e:fF Δ y a) (hv:Fa ty x y=some b) :
  (∀g w,(Op.equalIn (g+1) ty xv a).run P0 w = .ok b w)/\(∀d,P0.underlying ty=some d->Instr.sameNow d xv a=some b):=by
 unfold Fa at hv;split at hv
 ·rename_i f;split at hv
  ·rw[gG]at hv
   let⟨hk,hv⟩:=hv
   cases hv;obtain rfl:=zD hk;cases c;cases e
   grind[run_equalIn_int,Instr.sameNow]
  ·cases hv
 ·rename_i f;split at hv
  ·cases hv;cases c with|str xs=>cases e <;> grind[run_equalIn_string,ByteArray.toList_eq,Instr.sameNow,beq_toListBytes]
  ·cases hv
 ·rename_i f;split at hv
  ·cases hv;cases c;cases e
   grind[run_equalIn_bool',Instr.sameNow]
  ·cases hv
 ·cases hv
theorem W3{ty:Nat} (a:DY ty=true):Mp ty=some false:=by
 grind[DY,Mp]
theorem Lt{ty:Nat} {cs:List V} {oY:Array Value} {off:Nat} {v:V} (w:World) (a:DY ty=true) (hc:gB Δ cs oY.toList) (hv:Jm cs off=some v) :
  ∃x,(part ty oY off).run P0 w = .ok x w/\fF Δ v x:=
 OB w hc (by grind[RU,W3])
theorem SB:∀{fs:List Field} {x y:List V} {xs ys:Array Value} {b:Bool},(∀f∈fs,DY f.type=true/\f.name≠ "_")->gB Δ x xs.toList->gB Δ y ys.toList->
  SC fs x y=some b->∀a w,(Op.eqFields (a+1) xs ys fs).run P0 w = .ok b w
 |[],x,y,xs,ys,b,_,_,_,hv,a,w=>by simp[SC]at hv;subst hv;rfl
 | f::fs,x,y,xs,ys,b,hf,hx,hy,hv,a,w=>by
   simp only[SC,fk]at hv
   let⟨p,c,q,d,e,g,h⟩:=hv
   let⟨hft,hfn⟩:=hf f (by simp)
   let⟨p',hp,hpr⟩:=Lt w hft hx c
   let⟨q',hq,hqr⟩:=Lt w hft hy d
   have i:=(LC hpr hqr g).1 a w;simp only[Op.eqFields];rw[if_pos hfn];simp[sG,hp,hq,i,sP]
   cases e with
   |false=>simp_all
   |true=>exact SB (by simp_all) hx hy h a w
theorem P1{ty:Nat} (hd:Ht ty=some none):DY ty=true:=by
 grind[Ht,DY]
theorem NK{ty:Nat} {fs:List Field} (hd:Ht ty=some (some fs)):∃a,P0.underlying ty=some (.struct a)/\a.toList=fs/\P0.stoodInHeld ty=false/\∀f∈fs,DY f.type=true/\f.name≠ "_" :=by
 unfold Ht at hd;split at hd
 ·cases hd
 ·cases hd
 ·cases hd
 ·rename_i a b;split at hd
  ·grind
  ·cases hd
 ·cases hd
theorem YV{ty:Nat} {d:Option (List Field)} {x y:V} {xv f:Value} {b:Bool} (hd:Ht ty=some d) (c:fF Δ x xv) (e:fF Δ y f) (hv:Ku ty d x y=some b) (w:World) :
  (Op.equal ty xv f).run P0 w = .ok b w:=by
 cases d with
 |none=>exact(LC c e hv).1 9999 w
 | some fs=>
   let⟨arr,hu,harr,hs,hf⟩:=NK hd
   simp[Ku]at hv;split at hv
   ·cases c with|agg _ xs c=>cases e with|agg _ ys e=>
    have a:P0.fieldsOf ty=arr:=by simp[Program.fieldsOf,hu]
    have:=run_equalIn_struct w 9999 ty xs ys (by rw[a];exact hu) hs;rw[a,harr]at this;exact this.trans (SB hf c e hv 9998 w)
   ·cases hv
def zbF(Δ:Env):Option (Nat×V)->Option (Nat×Value)->Prop
 |none,none=>True
 |some (i,v),some (i',v')=>i=i'/\fF Δ v v'
 |_,_=>False
theorem Im{ty:Nat} {d:Option (List Field)} {k:V} {a:Value} (hd:Ht ty=some d) (c:fF Δ k a) (w:World):∀{es:List (V×V×Nat)} {iP:List MapEntry} {i:Nat} {r:Option (Nat×V)},
  qE Δ es iP->nI ty d k es i=some r->∃r',(Instr.findAsking ty a iP i).run P0 w = .ok r' w/\zbF Δ r r'
 |_,_,i,r,.nil,hv=>by simp[nI]at hv;subst hv;exact⟨none,rfl,trivial⟩
 | _,_,i,r,.cons k' v n e es iP hk' hv' hb hs,hv=>by
   simp only[nI,fk]at hv
   let⟨b,g,f⟩:=hv
   have h:=YV hd c hk' g w;simp[Instr.findAsking,sG,h]
   cases b with
   |true=>cases f;exact⟨some (i,e.val),rfl,rfl,hv'⟩
   |false=>exact Im hd c w hs f
theorem Oc{ty:Nat} {k:V} {a:Value} {ds:TypeDesc} (c:P0.underlying ty=some ds) (d:fF Δ k a):∀{es:List (V×V×Nat)} {iP:List MapEntry} {i:Nat} {r:Option (Nat×V)},
  qE Δ es iP->nI ty none k es i=some r->∃r',Instr.findNow ds a iP i=some r'/\zbF Δ r r'
 |_,_,i,r,.nil,hv=>by simp[nI]at hv;subst hv;exact⟨none,rfl,trivial⟩
 | _,_,i,r,.cons k' v n e es iP hk' hv' hb hs,hv=>by
   simp only[nI,fk]at hv
   let⟨b,g,f⟩:=hv
   have h:=(LC d hk' g).2 ds c;simp[Instr.findNow,h]
   cases b with
   |true=>cases f;exact⟨some (i,e.val),rfl,rfl,hv'⟩
   |false=>exact Oc c d hs f
theorem wk{ty:Nat} {d:Option (List Field)} {k:V} {c:Value} (hd:Ht ty=some d) (f:fF Δ k c) (w:World) {es:List (V×V×Nat)} {iP:List MapEntry} {r:Option (Nat×V)}
  (g:qE Δ es iP) (hv:nI ty d k es 0=some r):∃r',(Instr.findKey ty c iP).run P0 w = .ok r' w/\zbF Δ r r':=by
 cases d with
 | none=>
   have h:=P1 hd;unfold DY at h
   cases hu:P0.underlying ty with
   |none=>simp_all
   | some ds=>
     let⟨r',i,j⟩:=Oc hu f g hv
     simp_all[Instr.findKey,fR]
 | some fs=>
   let⟨arr,hu,_,_,_⟩:=NK hd
   cases g with
   | nil=>
     simp[nI]at hv;subst hv
     exact⟨none,by simp_all[Instr.findKey,fR,Instr.findNow],trivial⟩
   | cons k' v n e es iP a b l hs=>
     let⟨r',i,j⟩:=Im hd f w (.cons k' v n e es iP a b l hs) hv
     simp_all[Instr.findNow,Instr.sameNow,Instr.findKey,sG,fR,sP]
theorem Fc{em:Bool} {q:Nat} {cs:List V} {oY:Array Value} (w:World) (hq:0<q) (hc:gB Δ cs oY.toList):∀(fs:List Field),(∀f∈fs,DY f.type=true/\f.name≠ "_")->
  (fs.all λf=>(Jm cs f.offset).isSome)=true->
  (forIn fs PUnit.unit (λf _=>if f.name≠ "_" then do
    let x <-part f.type oY f.offset
    Instr.checkKey em q f.type x
    pure (ForInStep.yield PUnit.unit)
   else pure (ForInStep.yield PUnit.unit):Field->PUnit->Sem (ForInStep PUnit))).run P0 w = .ok PUnit.unit w
 |[],_,_=>rfl
 | f ::fs,hf,hh=>by
   obtain⟨m,rfl⟩:∃m,q=m+1:=by simp_all
   let⟨hft,hfn⟩:=hf f (by simp)
   simp only[wBh,sJ]at hh
   let⟨v,hv⟩:=Option.isSome_iff_exists.1 hh.1
   let⟨x,hx,hr⟩:=Lt w hft hc hv
   have a:(Instr.checkKey em (m+1) f.type x).run P0 w = .ok () w:=by
     unfold DY at hft;split at hft
     ·simp_all[Instr.checkKey,fR]
     ·simp_all[Instr.checkKey,fR]
     ·simp_all[Instr.checkKey,fR]
     ·cases hft
   have b:=Fc (em:=em) w hq hc fs (by simp_all) hh.2
   simp_all
theorem sX{ty:Nat} {d:Option (List Field)} {k:V} {c:Value} (em:Bool) (q:Nat) (hq:0<q) (w:World) (hd:Ht ty=some d) (e:fF Δ k c) (b:IF d k=true) :
  (Instr.checkKey em (q+1) ty c).run P0 w = .ok () w:=by
 cases d with
 | none=>
   have a:=P1 hd;unfold DY at a;split at a
   ·simp_all[Instr.checkKey,fR]
   ·simp_all[Instr.checkKey,fR]
   ·simp_all[Instr.checkKey,fR]
   simp_all
 | some fs=>
   let⟨arr,hu,harr,_,hf⟩:=NK hd
   simp[IF]at b;split at b
   ·cases e with
    | agg cs oY hc=>
      have:=Fc (em:=em) w hq hc fs hf b;rw[<-harr,Array.forIn_toList]at this
      simp_all[Instr.checkKey,sG,fR,sP]
   ·cases b
end
section
variable{Δ:Env}{h:Hp}{w:World}{n:Nat}{t:Tm}{a:Act}
theorem Fs(e:WR Δ h w) {l:Nat} {d:D} (hl:Δ l=some d) {es:List (V×V×Nat)} {c:Nat} (f:h.get l=some (.map es c)) :
  ∃iP,w.heap[d.b]? =some (.map iP c)/\qE Δ es iP.toList:=by
 obtain⟨o,a,g⟩:=e.obj l d hl;rw[f]at a;cases a;obtain⟨_,_,_,iP,i,j,_⟩:=g;exact⟨iP,i,j⟩
theorem FC(b:WR Δ h w) {l:Nat} {d:D} (hl:Δ l=some d) {es:List (V×V×Nat)} {c:Nat} (e:h.get l=some (.map es c)):uu es c:=by
 obtain⟨o,a,f⟩:=b.obj l d hl;rw[e]at a;cases a;obtain⟨_,_,_,_,_,_,g⟩:=f;exact g
def zgx(k:IntKind)(ks:List Int)(es:List (V×V×Nat)):Prop:=(∀e∈es,e.2.1 = .bool true/\∃n∈ks,e.1 = .int k n)/\∀n∈ks,∃e∈es,e.1 = .int k n
theorem Wj{k:IntKind}:∀{iP:List MapEntry},(∀e∈iP,e.val = .bool true/\∃n,e.key = .int k n)->
  ∃es,qE Δ es iP/\(∀e∈es,e.2.1 = .bool true/\∃e'∈iP,∃n,e.1 = .int k n/\e'.key = .int k n)/\∀e'∈iP,∀n,e'.key = .int k n->∃e∈es,e.1 = .int k n
 |[],_=>⟨[],.nil,by simp,by simp⟩
 | e' :: iP,hh=>by
   obtain⟨h,n,f⟩:=hh e' (by simp);obtain⟨es,i,j,l⟩:=Wj (iP:=iP) λe d=>hh e (by simp[d]);refine⟨(.int k n,.bool true,e'.born)::es,.cons _ _ _ _ _ _ (by rw[f];exact .int k n) (by rw[h];exact .bool true) rfl i,λe d=>?_,λe d m g=>?_⟩
   ·rcases wM.1 d with rfl|d
    ·exact⟨rfl,e',by simp,n,rfl,f⟩
    ·obtain⟨a,x,b,c⟩:=j e d
     exact⟨a,x,by simp[b],c⟩
   ·rcases wM.1 d with rfl|d
    ·rw[f]at g;cases g;exact⟨(.int k n,.bool true,e.born),by simp,rfl⟩
    ·obtain⟨x,a,b⟩:=l e d m g
     exact⟨x,by simp[a],b⟩
theorem Sf(q:WR Δ h w) {l:Nat} {d:D} (hl:Δ l=some d) {k:IntKind} {ks:List Int} (r:h.get l=some (.OG k ks)) :
  ∃es iP c,w.heap[d.b]? =some (.map iP c)/\qE Δ es iP.toList/\zgx k ks es:=by
 obtain⟨o,i,s⟩:=q.obj l d hl;rw[r]at i;cases i;obtain⟨_,_,_,iP,c,t,g,u⟩:=s;obtain⟨es,v,j,x⟩:=Wj (Δ:=Δ) (k:=k) (iP:=iP.toList) λe f=>⟨(g e f).1,let⟨n,_,h⟩:=(g e f).2;⟨n,h⟩⟩
 refine⟨es,iP,c,t,v,λe f=>⟨(j e f).1,?_⟩,λn y=>?_⟩
 ·obtain⟨_,e',a,n,b,c⟩:=j e f;obtain⟨_,m,z,p⟩:=g e' a;rw[c]at p;cases p;exact⟨n,z,b⟩
 ·obtain⟨e',a,b⟩:=u n y;exact x e' a n b
theorem IW{ks:List Int}{n:Int}:GG ks n=true↔n∈ks:=by simp[GG]
theorem Jr{kt:Nat} (hi:CZ kt=true) (k:IntKind) (n:Int):∀{es:List (V×V×Nat)} (i:Nat),(∀e∈es,e.2.1 = .bool true/\∃n,e.1 = .int k n)->
  (nI kt none (.int k n) es i=some none/\∀e∈es,e.1≠ .int k n)\/∃j e,nI kt none (.int k n) es i=some (some (i+j,.bool true))/\es[j]? =some e/\e.1 = .int k n
 |[],i,_=> .inl ⟨rfl,by simp⟩
 | e ::es,i,c=>by
   obtain ⟨h,m,d⟩:=c e (by simp);have a:nI kt none (.int k n) (e::es) i=if n=m then some (some (i,e.2.1)) else nI kt none (.int k n) es (i+1):=by
     show oB (Ku kt none (.int k n) e.1) _=_;have l:Ku kt none (.int k n) (.int k m)=some (n == m):=by
       unfold CZ at hi;show Fa kt (.int k n) (.int k m)=some (n == m);unfold Fa;split at hi
       ·rename_i o
        rw[o];cases k <;> rfl
       ·cases hi
     rw[d,l];by_cases hn:n=m
     ·rw[if_pos hn,KC.2 hn];rfl
     ·rw[if_neg hn,wBA.2 hn];rfl
   by_cases hn:n=m
   ·subst hn
    rw[if_pos rfl,h]at a;exact .inr ⟨0,e,a,rfl,d⟩
   ·rw[if_neg hn]at a
    rcases Jr hi k n (es:=es) (i+1) λe b=>c e (by simp[b])with⟨f,g⟩|⟨j,e',f,g,p⟩
    ·refine .inl ⟨a.trans f,λe' b=>?_⟩
     rcases wM.1 b with rfl|b
     ·rw[d];intro c;cases c;exact hn rfl
     ·exact g e' b
    ·exact .inr ⟨j+1,e',by rw[a,f];congr 3;omega,g,p⟩
theorem run_getObj_map{r:Nat}{es:Array MapEntry}{c:Nat}(a:w.heap[r]? =some (.map es c)):(getObj r).run P0 w = .ok (.map es c) w:=by grind[getObj,Sem.run]
theorem TV{z:V} {a:Value} {ok:Bool} {r:Option (Nat×V)} {r':Option (Nat×Value)} (c:fF Δ z a) (b:zbF Δ r r') :
  fF Δ (found z ok r) (match r' with
   |some (_,v)=>if ok then .tuple #[v,.bool true] else v
   |none=>if ok then .tuple #[a,.bool false] else a):=by
 cases r with
 | none=>cases r' with
   |none=>cases ok
          ·exact c
          ·exact .tuple _ _ (.cons _ _ _ _ c (.one (.bool false)))
   |some _=>cases b
 | some x=>cases r' with
   |none=>cases b
   | some d=>
     obtain⟨_,hv⟩:=b;cases ok
     ·exact hv
     ·exact .tuple _ _ (.cons _ _ _ _ hv (.one (.bool true)))
theorem U8(K : WR Δ h w) {L:Nat} {p q:PF} {ok:Bool} {M N:Value} {v:V} (Q:∀v,p.f t h=some v->fF Δ v M) (hq:∀v,q.f t h=some v->fF Δ v N)
    (hv:(G9 L p q ok).f t h=some v):∃r,(Instr.lookup L M N ok).run P0 w = .ok r w/\fF Δ v r:=by
  unfold G9 at hv;split at hv
  ·rename_i kt Y O
   split at hv
   ·rename_i d z hd R
    obtain⟨Z,S,y,_⟩:=Au R;simp only[fk,gG]at hv;obtain⟨m,T,k,U,P,a⟩:=hv;have B:=Q _ T;have i:=hq _ U;split at a
    ·cases a;cases B
     have A:=sX true 9999 (by omega) w hd i P;have o:=wk hd i w qE.nil (r:=none) (by rfl);obtain⟨r',o,C⟩:=o;have D:r' = none:=by cases r' <;> first|rfl|cases C
     subst D;refine⟨_,?_,TV (ok:=ok) (r:=none) (r':=none) (y Δ) trivial⟩;simp only[Instr.lookup,sG,fR O,sP,Lg]
     simp_all
    ·simp only [PK]at a
     cases B with
     | map l W hl =>
       have E:∃es iP c r,w.heap[W.b]? =some (.map iP c)/\qE Δ es iP.toList/\nI kt d k es 0=some r/\v=found z ok r:=by
         rcases a with⟨es,c,F,a⟩|⟨kd,ks,F,a⟩
         ·rw[fk]at a
          obtain⟨r,o,a⟩:=a;cases a;obtain⟨iP,x,g⟩:=Fs K hl F;exact⟨es,iP,c,r,x,g,o,rfl⟩
         ·obtain ⟨es,iP,c,x,g,s,G⟩:=Sf K hl F
          unfold MI at a;split at a
          ·rename_i k' n
           simp only[gG]at a;obtain⟨hi,H,a⟩:=a;obtain rfl:=zD H;cases a;rcases Jr hi k' n (es:=es) 0 λe g=>⟨(s e g).1,let⟨n,_,h⟩:=(s e g).2;⟨n,h⟩⟩ with⟨I,J⟩|⟨j,e,I,J,X⟩
           ·have u:GG ks n=false:=by
              cases hx:GG ks n with
              |false=>rfl
              | true=>
                obtain⟨e,g,i⟩:=G n (IW.1 hx);exact absurd i (J e g)
            exact⟨es,iP,c,none,x,g,I,by rw[u]⟩
           ·have u:GG ks n=true:=by
              obtain⟨_,m,B,i⟩:=s e (zQ J);rw[X]at i;cases i;exact IW.2 B
            exact⟨es,iP,c,_,x,g,I,by rw[u];cases ok <;> rfl⟩
          ·cases a
       obtain⟨es,iP,c,r,x,g,o,rfl⟩:=E;obtain⟨r',o,C⟩:=wk hd i w g o;have A:=sX iP.isEmpty 9999 (by omega) w hd i P;refine⟨_,?_,TV (ok:=ok) (y Δ) C⟩;simp only[Instr.lookup,sG,fR O,sP,Lg,run_getObj_map x,A,o]
       grind[sG,sP,Lg]
    ·cases a
   ·cases hv
  ·cases hv
theorem zbB(y:WR Δ h w) {ty:Nat} {n:Array Nat} (q:n[0]? =some ty) {rt:Nat} {p:PF} {xv:Value} {v:V} (u:∀v,p.f t h=some v->fF Δ v xv)
  (hv:(hlen ty p).f t h=some v):∃r,(Builtin.len_ n rt #[xv]).run P0 w = .ok r w/\fF Δ v r:=by
 unfold hlen at hv;split at hv
 ·rename_i o;rw[fk]at hv;obtain⟨x,j,g⟩:=hv;have i:=u _ j;split at g
  ·cases g
   cases i with
   |str s=>exact⟨goInt s.size,by simp_all[Builtin.len_,fR],.int _ _⟩
  ·cases g
 ·rename_i e o;rw[fk]at hv;obtain⟨x,j,g⟩:=hv;have i:=u _ j;split at g
  ·rename_i lc off m;cases g;cases i <;> exact⟨goInt _,by simp_all[Builtin.len_,fR],.int _ _⟩
  ·cases g;cases i;exact⟨goInt 0,by simp_all[Builtin.len_,fR],.int _ _⟩
  ·cases g
 ·rename_i m e o;rw[fk]at hv;obtain⟨x,j,g⟩:=hv;cases g;exact⟨goInt m,by simp_all[Builtin.len_,fR],.int _ _⟩
 ·rename_i k e o;rw[fk]at hv;obtain⟨x,j,g⟩:=hv;have i:=u _ j;split at g
  ·cases g;cases i;exact⟨goInt 0,by simp_all[Builtin.len_,fR],.int _ _⟩
  ·rw[uy]at g;obtain⟨es,c,z,g⟩:=g;cases g
   cases i with
   | map l d hl=>
     obtain ⟨iP,A,B⟩:=Fs y hl z;have hlen:es.length=iP.size:=by
       have:∀{a:List (V×V×Nat)} {b:List MapEntry},qE Δ a b->a.length=b.length:=λh=>by induction h <;> simp_all
       simpa using this B
     refine⟨goInt iP.size,by simp[Builtin.len_,q,fR o,run_getObj_map A],?_⟩;rw[hlen];exact .int _ _
  ·cases g
 ·cases hv
theorem Q3{b:Bool} (w:World):∀{l:List V} {c:List Value} {x:V} {a:Value} {v:V},fF Δ x a->gB Δ l c->Rz b x l=some v->
  ∃r,(c.foldlM (if b then Builtin.max2 else Builtin.min2) a).run P0 w = .ok r w/\fF Δ v r
 |[],_,x,a,v,hx,hl,hv=>by simp[Rz]at hv;subst hv;cases hl;simp_all
 | y ::l,_,x,a,v,hx,hl,hv=>by
   cases hl with
   | cons _ g _ c e hs=>
     unfold Rz at hv;split at hv
     ·simp_all
     ·rename_i k p k' q r e1
      cases e1;cases hx;cases e;obtain⟨d,h,f⟩:=Q3 w (.int k _) hs hv;refine⟨d,?_,f⟩;rw[List.foldlM_cons];simp only[sG];cases b
      ·simp_all[PM,if_false,Builtin.min2,Lg,sP]
      simp_all[if_true,Builtin.max2,Lg,sP]
     ·cases hv
theorem Nw{ty:Nat} (hi:isIface ty=some false):∃d,P0.underlying ty=some d/\∀m,d≠ .interface m:=by
 grind[isIface]
theorem T3{p:PF} {a xT:Nat} {ok:Bool} {xv:Value} {v:V} (w:World) (m:∀v,p.f t h=some v->fF Δ v xv)
  (hv:(GR p a ok).f t h=some v):∃r,(Instr.typeAssert xv xT a ok).run P0 w = .ok r w/\fF Δ v r:=by
 unfold GR at hv;split at hv
 ·rename_i z hi n;obtain⟨l,o,c,_⟩:=Au n;obtain⟨d,g,hd⟩:=Nw hi;rw[fk]at hv;obtain⟨x,q,b⟩:=hv;have i:=m _ q;split at b
  ·rename_i u y;cases b
   cases i with
   | iface _ _ j k=>
     rw[Vw];by_cases e:u=a
     ·have e':Nat.beq u a=true:=by rw[e];exact XV _
      rw[if_pos e'];refine⟨.tuple #[j,.bool true],?_,.tuple _ _ (.cons _ _ _ _ k (.one (.bool true)))⟩;simp only[Instr.typeAssert,sG,fR g,sP]
      simp_all
     ·have e':¬Nat.beq u a=true:=by simp_all
      rw[if_neg e'];refine⟨.tuple #[l,.bool false],?_,.tuple _ _ (.cons _ _ _ _ (c Δ) (.one (.bool false)))⟩;simp only[Instr.typeAssert,sG,fR g,sP]
      simp_all
  ·rename_i u y;rw[gG]at b;obtain⟨e,b⟩:=b;cases b;have e:=yi e
   cases i with
   | iface _ _ j k=>
     refine⟨j,?_,k⟩;simp only[Instr.typeAssert,sG,fR g,sP]
     simp_all
  ·cases b;cases i;refine⟨.tuple #[l,.bool false],?_,.tuple _ _ (.cons _ _ _ _ (c Δ) (.one (.bool false)))⟩;simp only[Instr.typeAssert,sG,fR g,sP]
   simp_all
  ·cases b
 ·cases hv
theorem Yp{c p q:PF} {a pv d:Value} {v:V} (w:World) (hc:∀v,c.f t h=some v->fF Δ v a) (j:∀v,p.f t h=some v->fF Δ v pv) (hq:∀v,q.f t h=some v->fF Δ v d)
  (hv:(LR c p q).f t h=some v):∃r,(do pure (Next.value (if <-asBool a then pv else d)):Sem Next).run P0 w = .ok (.value r) w/\fF Δ v r:=by
 unfold LR at hv;simp only[fk]at hv;obtain⟨x,g,e⟩:=hv;have i:=hc _ g;split at e
 ·rename_i b;cases i;cases b
  ·simp_all[asBool]
  simp_all[asBool]
 ·cases e
theorem Rs{p:PF} {x:Operand} {v:V} (w:World) (g:∀v,p.f t h=some v->fF Δ v (a.eval x)) (hv:(zF p).f t h=some v) {dst ty pos af gd} :
  (execOp a.eval {dst:=dst,op:= .nilCheck x,type:=ty,pos:=pos,after:=af,guard:=gd}).run P0 w = .ok (.value (a.eval x)) w/\fF Δ v (a.eval x):=by
 unfold zF at hv;rw[fk]at hv;obtain⟨y,e,b⟩:=hv;have c:=g _ e;simp only[execOp];generalize a.eval x=xv at c⊢;split at b
 ·cases b;cases c with|ptr _ _ d hd=>exact⟨rfl,.ptr _ _ d hd⟩
 ·cases b;cases c with|func _ _ _ p' q' e b=>exact⟨rfl,.func _ _ _ p' q' e b⟩
 ·cases b;cases c with|iface _ _ v' hv=>exact⟨rfl,.iface _ _ v' hv⟩
 ·cases b
theorem TL{p:PF} {i:Nat} {xv:Value} {v:V} (w:World) (c:∀v,p.f t h=some v->fF Δ v xv) (hv:(EX p i).f t h=some v) :
  ∃r,(Instr.extract xv i).run P0 w = .ok r w/\fF Δ v r:=by
 unfold EX at hv;rw[fk]at hv;obtain⟨y,d,a⟩:=hv;have e:=c _ d;split at a
 ·cases e with
  | tuple vs g b=>
    obtain⟨x,j,k⟩:=b.get _ _ (Nn a)
    simp_all[Instr.extract]
 ·cases a
theorem UD{cs:List V} {xs:List Value} {s:List UInt8} (e:gB Δ cs xs) (hv:bytesOf cs=some s):xs=(s.map λb=>(b.toNat:Int)).map (Value.int .u8):=by
 induction cs generalizing xs s with
 |nil=>cases e;grind[bytesOf]
 | cons c cs g=>
   simp only[bytesOf,fk]at hv;obtain⟨b,a,l,h,i⟩:=hv;cases i
   cases e with
   | cons _ x _ xs j d=>
     rw[g d h];unfold byteOf at a;split at a
     ·rename_i m
      rw[gG]at a;obtain⟨f,k⟩:=a;cases k;cases j;have n:m<256:=by rw[RP]at f;exact f
      have:(UInt8.ofNat m).toNat=m:=by simp;omega
      grind
     ·cases a
theorem UJ(l:List UInt8):∀(r:ByteArray),((l.map λb=>(b.toNat:Int)).foldl (λr n=>r.push (UInt8.ofNat n.toNat)) r).data.toList=r.data.toList++l:=by
 induction l <;> simp_all
theorem Ja{src dst e:Nat} (hs:P0.underlying src=some (.slice e)) (hd:P0.underlying dst=some .string) (i:P0.underlying e=some (.int .u8)) {ad:Option Addr} {len cap:Nat} {cs:List V} {s:List UInt8}
  (d:bytesOf cs=some s) (hc:∀b,ad=some b->∃xs,(loadCells b len).run P0 w = .ok (Array.mk xs) w/\gB Δ cs xs) (f:ad=none->s=[]) :
  ∃x,(convert src dst (.slice ad len cap)).run P0 w = .ok x w/\fF Δ (.str s) x:=by
 cases ad with
 | none=>
   cases f rfl
   exact⟨.string .empty,by simp_all[convert,fR,Conv.bytesToString],.str ByteArray.empty⟩
 | some b=>
   obtain⟨xs,c,g⟩:=hc b rfl;rw[UD g d]at c;have h:=run_bytesToString (P:=P0) w b len cap _ c;generalize hB:(List.foldl (λr n=>ByteArray.push r (UInt8.ofNat n.toNat)) ByteArray.empty (List.map (λb=>(b.toNat:Int)) s))=B at h;have a:B.data.toList=s:=by rw[<-hB,UJ];rfl
   refine⟨.string B,?_,by rw[<-a];exact .str B⟩
   simp_all[convert,sG,fR,sP]
theorem uh(c:WR Δ h w) {l:Nat} {d:D} (hl:Δ l=some d) {off m:Nat} {cs:List V} (hv:Hj h l off m=some cs) :
  ∃xs,(loadCells ⟨d.b,d.base+off,none⟩ m).run P0 w = .ok (Array.mk xs) w/\gB Δ cs xs:=by
 obtain⟨a,f,e⟩:=JJ c hl hv;exact⟨a.toList,by omega,e⟩
theorem Oo{l off m:Nat} {cs:List V} (hv:Hj h l off m=some cs):cs.length=m:=by
 grind[Hj,kI,gG,sub_eq]
theorem Wr(B:WR Δ h w) {src dst e:Nat} {p:PF} {xv:Value} {v:V} (hs:P0.underlying src=some (.slice e)) (hd:P0.underlying dst=some .string) (m:∀v,p.f t h=some v->fF Δ v xv) (hv:(LQ src dst p).f t h=some v) :
  ∃r,(convert src dst xv).run P0 w = .ok r w/\fF Δ v r:=by
 unfold LQ at hv;rw[hs,hd]at hv;simp only at hv;split at hv
 ·rename_i g;simp only[fk]at hv;obtain⟨x,n,c⟩:=hv;have i:=m _ n;split at c
  ·cases c;cases i;exact Ja (Δ:=Δ) (w:=w) (src:=src) (dst:=dst) (e:=e) (ad:=none) (len:=0) (cap:=0) (cs:=[]) (s:=[]) hs hd g rfl (by simp_all) (by simp_all)
  ·rename_i l off len;simp only[fk]at c;obtain⟨cs,j,s,k,q⟩:=c;cases q
   cases i with
   | slice _ _ _ cap o d u C y z=>
     have A:∃xs,(loadCells ⟨d.b,o,none⟩ len).run P0 w = .ok (Array.mk xs) w/\gB Δ cs xs:=by
       rcases z with⟨rfl,_,_⟩|⟨rfl,_⟩
       ·grind[uh]
       ·have:len=0:=by omega
        subst this;have a:cs=[]:=wAz (Oo j);subst a;exact⟨[],by rfl,.nil⟩
     exact Ja (Δ:=Δ) (w:=w) (src:=src) (dst:=dst) (e:=e) (ad:=some ⟨d.b,o,none⟩) (len:=len) (cap:=cap) hs hd g k (by simp_all) (by simp_all)
   | wild=>
     have a:cs=[]:=wAz (Oo j);subst a;exact Ja (Δ:=Δ) (w:=w) (src:=src) (dst:=dst) (e:=e) (len:=0) (cap:=0) hs hd g k (λ_ _=>⟨[],rfl,.nil⟩) (by simp_all)
  ·cases c
 ·cases hv
theorem zb1(I:WR Δ h w) (G:TR Δ n t a) {o:Oper} {v:V} (hv:(iA o).f t h=some v):∃x,(execOp a.eval o).run P0 w = .ok (.value x) w/\fF Δ v x:=by
 obtain⟨dst,op,ty,pos,af,gd⟩:=o;have z:∀(x:Operand) v,(rM x).f t h=some v->fF Δ v (a.eval x):=by grind[kJ]
 cases op with
 |move x=>exact⟨_,rfl,z x v hv⟩
 |assign x=>exact⟨_,rfl,z x v hv⟩
 |pick c p q=>exact Yp w (z c) (z p) (z q) hv
 | load ty U=>
   obtain⟨x,C,A⟩:=NI I (z U) hv
   exact⟨x,mj C,A⟩
 | nilCheck x=>
   obtain⟨C,A⟩:=Rs w (z x) hv (dst:=dst) (ty:=ty) (pos:=pos) (af:=af) (gd:=gd)
   simp_all
 | binOp op W x y yt=>
   simp only[iA,fk]at hv;obtain⟨p,C,q,A,J⟩:=hv;obtain⟨r,j,u⟩:=zbX (X:=x) (Y:=y) w (z x _ C) (z y _ A) J
   exact⟨r,mj j,u⟩
 | unOp op W x=>
   simp only[iA,fk]at hv;obtain⟨p,C,A⟩:=hv;obtain⟨r,j,u⟩:=zdJ w (z x _ C) A
   exact⟨r,mj j,u⟩
 | convert src d x=>
   have K:∃r,(convert src d (a.eval x)).run P0 w = .ok r w/\fF Δ v r:=by
     by_cases hsl:∃e,P0.underlying src=some (.slice e)/\P0.underlying d=some .string
     ·obtain⟨e,C,A⟩:=hsl
      exact Wr I C A (z x) hv
     ·exact Y9 w hsl (z x) hv
   obtain⟨r,j,u⟩:=K
   exact⟨r,mj j,u⟩
 | build ty M=>
   obtain⟨r,j,u⟩:=W4 G hv;refine⟨r,mj ?_,u⟩;rw[<-j];congr 2
   grind
 | makeFunc fn first T=>
   cases fn with
   | func f=>
     simp only[iA,fk]at hv;obtain⟨p,C,q,A,J⟩:=hv;cases J;refine⟨_,rfl,.func f p q _ _ ?_ ?_⟩
     ·have:=A6 G C;simp_all
     ·have:=A6 G A;simp_all
   |_=>cases hv
 | slice ty x lo hi Z=>
   cases Z with
   | none=>
     obtain⟨r,j,u⟩:=Xl I G (z x) hv
     exact⟨r,mj j,u⟩
   |some _=>cases hv
 | fieldAddr s x f=>
   obtain⟨r,j,u⟩:=OL w (z x) hv
   exact⟨r,mj j,u⟩
 | field s x f=>
   obtain⟨r,j,u⟩:=Xm w (z x) hv
   exact⟨r,mj j,u⟩
 | indexAddr ty x i=>
   obtain⟨r,j,u⟩:=OP w (z x) (z i) hv
   exact⟨r,mj j,u⟩
 | index ty x i=>
   obtain⟨r,j,u⟩:=W8 w (z x) (z i) hv
   exact⟨r,mj j,u⟩
 | lookup ty m k ok=>
   obtain⟨r,j,u⟩:=U8 I (z m) (z k) hv
   exact⟨r,mj j,u⟩
 | extract x i=>
   obtain⟨r,j,u⟩:=TL w (z x) hv
   exact⟨r,mj j,u⟩
 | makeInterface ty x=>
   simp only[iA]at hv;split at hv
   ·rename_i hi
    obtain⟨d,hu,hd⟩:=Nw hi;simp only[fk]at hv;obtain⟨p,C,A⟩:=hv;cases A;refine⟨.iface ty (a.eval x),mj ?_,.iface _ _ _ (by simp_all)⟩;simp only[Instr.makeInterface,sG,fR hu,sP];rfl
   ·cases hv
 | typeAssert x xT H ok=>
   obtain⟨r,j,u⟩:=T3 (xT:=xT) w (z x) hv
   exact⟨r,mj j,u⟩
 | call c =>
   obtain⟨E,args,D⟩:=c;simp only[iA]at hv
   cases E with
   | builtin b=>
     cases b <;> try (cases hv;done)
     case len=>
       simp only at hv;split at hv
       ·rename_i x N aa g L
        have O:D[0]? =some N:=by rw[<-wA1,L];rfl
        obtain⟨r,j,u⟩:=zbB I (rt:=ty) O (z x) hv;refine⟨r,?_,u⟩;have P:args.map a.eval = #[a.eval x]:=by apply Array.ext';simp[g]
        simp only[execOp,resolve,P];exact mj j
       ·cases hv
     case min=>
       simp only[fk]at hv;obtain⟨l,C,A⟩:=hv;split at A
       ·rename_i x r
        have B:=A6 G C
        cases g:args.toList.map a.eval with
        |nil=>rw[g]at B;cases B
        | cons Q r'=>
          rw[g]at B
          cases B with
          | cons _ _ _ _ R S=>
            obtain⟨F,J,j⟩:=Q3 w R S A;refine⟨F,?_,j⟩;have P:(args.map a.eval).toList=Q::r':=by simpa using g
            simp only[execOp,resolve];refine mj ?_
            grind[Builtin.min_]
       ·cases A
     case max=>
       simp only[fk]at hv;obtain⟨l,C,A⟩:=hv;split at A
       ·rename_i x r
        have B:=A6 G C
        cases g:args.toList.map a.eval with
        |nil=>rw[g]at B;cases B
        | cons Q r'=>
          rw[g]at B
          cases B with
          | cons _ _ _ _ R S=>
            obtain⟨F,J,j⟩:=Q3 w R S A;refine⟨F,?_,j⟩;have P:(args.map a.eval).toList=Q::r':=by simpa using g
            simp only[execOp,resolve];refine mj ?_
            grind[Builtin.max_]
       ·cases A
   |value f=>cases hv
   |invoke r m=>cases hv
 |_=>cases hv
end
def RW(Δ:Env)(b:Nat):Prop:=∃l d,Δ l=some d/\d.ro=false/\d.b=b
structure FR (Δ a:Env) (w w':World):Prop where
 le:Δ.le a
 size:w.heap.size<=w'.heap.size
 os:w'.os=w.os
 tape:w'.tape=w.tape
 output:w'.output=w.output
 fh:∀b,b<w.heap.size->¬RW Δ b->w'.heap[b]? =w.heap[b]?
 new:∀l d,a l=some d->Δ l=some d\/w.heap.size<=d.b\/RW Δ d.b
theorem FR.refl(Δ:Env)(w:World):FR Δ Δ w w:=⟨Env.le_refl _,jv _,rfl,rfl,rfl,by simp_all,by simp_all⟩
theorem FR.trans{Δ k c:Env} {w w' e:World} (h:FR Δ k w w') (h':FR k c w' e):FR Δ c w e where
 le:=Env.le_trans h.le h'.le
 size:=KK h.size h'.size
 os:=h'.os.trans h.os
 tape:=h'.tape.trans h.tape
 output:=h'.output.trans h.output
 fh:=λb m n=>by
  rw[h'.fh b (Dy m h.size) ?_,h.fh b m n];rintro⟨l,d,hl,q,rfl⟩;rcases h.new l d hl with a|a|a
  ·exact n ⟨l,d,a,q,rfl⟩
  ·omega
  simp_all
 new:=λl d hl=>by
  rcases h'.new l d hl with a|a|⟨o,p,f,g,i⟩
  ·exact h.new l d a
  ·exact .inr (.inl (KK h.size a))
  ·rcases h.new o p f with j|j|j
   ·exact .inr (.inr ⟨o,p,j,g,i⟩)
   ·omega
   simp_all
theorem ue(h:Hp) (o:O) (l:Nat):(h.new o).get l=if h.next=l then some o else h.get l:=by
 rw[Hp.get_eq,Hp.get_eq];unfold Hp.new;simp only[Tr.JQ]
 grind
theorem jz{h:Hp} {l:Nat} (o:O) (m:Nat) (hl:l<h.next):(h.put l o).get m=if l=m then some o else h.get m:=by
 rw[Hp.get_eq,Hp.get_eq];unfold Hp.put;simp only[Tr.JQ]
 grind
def Env.set(Δ:Env)(l:Nat)(d:D):Env:=λm=>if m=l then some d else Δ m
theorem Env.yr{Δ:Env} {l:Nat} {d:D} (h:Δ l=none):Δ.le (Δ.set l d):=λm e a=>by
 unfold Env.set
 grind
theorem Env.uX(Δ:Env)(l:Nat)(d:D):(Δ.set l d) l=some d:=if_pos rfl
theorem Env.lJ{Δ:Env} {l m:Nat} {d e:D} (h:(Δ.set l d) m=some e):(m=l/\e=d)\/(m≠l/\Δ m=some e):=by
 unfold Env.set at h
 grind
theorem WR.G6{Δ:Env} {h:Hp} {w:World} (a:WR Δ h w):Δ h.next=none:=by
 cases hd:Δ h.next with
 |none=>rfl
 |some d=>exact absurd (a.fresh _ _ hd) (wBz _)
theorem heap_alloc(w:World) (ob:Obj) (b:Nat):(w.alloc ob).heap[b]? =if b=w.heap.size then some ob else w.heap[b]?:=by
 grind[World.alloc]
theorem Cp.step{Δ a:Env} {w w':World} (h:Cp Δ w) (i:∀b,b<w.heap.size->¬RW Δ b->w'.heap[b]? =w.heap[b]?) (j:∀l d,a l=some d->d.ro=false->Δ l=some d\/w.heap.size<=d.b\/RW Δ d.b):Cp a w':=by
 intro g c f;obtain⟨⟨e,fr,k⟩,m⟩:=h g c f
 grind[Zy,RW]
theorem WR.lay{Δ:Env} {h:Hp} {w:World} (c:WR Δ h w) {l:Nat} {o:O} {d:D} {ob:Obj} (v:Δ l=none) (hl:l<h.next) (y:h.get l=some o) (z:d.b=w.heap.size)
  (A:SX (Δ.set l d) d o (some ob)):WR (Δ.set l d) h (w.alloc ob) where
 fresh:=λm e a=>by
  rcases Env.lJ a with⟨rfl,rfl⟩|⟨_,a⟩
  ·exact hl
  ·exact c.fresh m e a
 AA:=λm e a=>by
  simp only[World.size_alloc];rcases Env.lJ a with⟨rfl,rfl⟩|⟨_,a⟩
  ·omega
  ·have:=c.AA m e a;omega
 obj:=λm e a=>by
  rcases Env.lJ a with⟨rfl,rfl⟩|⟨_,a⟩
  ·refine⟨o,y,?_⟩;rw[heap_alloc,if_pos z];exact A
  ·obtain⟨B,f,j⟩:=c.obj m e a;refine⟨B,f,?_⟩;rw[heap_alloc,if_neg (Tj (c.AA m e a))];exact j.mono (Env.yr v)
 apart:=λm x e e' p C a k oS n q r i s=>by
  rcases Env.lJ a with⟨f,j⟩|⟨_,f⟩ <;> rcases Env.lJ k with⟨t,E⟩|⟨_,t⟩
  ·omega
  ·have:=c.AA x e' t;grind
  ·have:=c.AA m e f;grind
  ·exact c.apart m x e e' p C f t oS n q r i s
 HA:=λg p u n=>by
  obtain⟨e,f,j⟩:=c.HA g p u n;exact⟨e,Env.yr v _ _ f,j⟩
 xC:=c.xC
 Va:=c.Va.step (by simp_all[heap_alloc,if_neg,Tj]) λm e a _=>by
  rcases Env.lJ a with⟨rfl,rfl⟩|⟨_,a⟩
  ·omega
  simp_all
theorem WR.more{Δ:Env} {h:Hp} {w:World} (a:WR Δ h w) (o:O):WR Δ (h.new o) w where
 fresh:=λl d hl=>wBV (a.fresh l d hl)
 AA:=a.AA
 obj:=λl d hl=>by
  obtain⟨k,n,q⟩:=a.obj l d hl;refine⟨k,?_,q⟩;rw[ue,if_neg (Nat.ne_of_gt (a.fresh l d hl))];exact n
 apart:=λm r e e' p s j b oS c f=>by
  rw[ue,if_neg (Nat.ne_of_gt (a.fresh _ _ j))]at c;rw[ue,if_neg (Nat.ne_of_gt (a.fresh _ _ b))]at f;exact a.apart m r e e' p s j b oS c f
 HA:=λg p i c=>by
  rw[ue,if_neg (by have:=a.xC;omega)]at c;exact a.HA g p i c
 xC:=wBE a.xC
 Va:=a.Va
theorem FR.lay{Δ:Env} {w:World} {l:Nat} {d:D} {ob:Obj} (c:Δ l=none) (f:d.b=w.heap.size):FR Δ (Δ.set l d) w (w.alloc ob) where
 le:=Env.yr c
 size:=by simp
 os:=rfl
 tape:=rfl
 output:=rfl
 fh:=by simp_all[heap_alloc,if_neg,Tj]
 new:=λm e a=>by
  rcases Env.lJ a with⟨rfl,rfl⟩|⟨_,a⟩
  ·omega
  simp_all
def Made(Δ:Env) (ob:O) (mk:Nat->V) (a:Obj) (c:Nat->Value):Prop:=∀l b,Δ l=none->∃d,d.b=b/\SX (Δ.set l d) d ob (some a)/\fF (Δ.set l d) (mk l) (c b)
theorem Bo{Δ:Env} {d:D} {cs:List V} {c:Array Value} {e:Nat} (hs:c.size=d.XH) (a:d.base=0) (hl:cs.length<=d.XH) (hc:∀(i:Nat) (v:V),cs[i]? =some v->∃x,c[i]? =some x/\fF Δ v x) :
  G5 Δ d cs (some (.cells c e (0,0))):=
 ⟨c,e,(0,0),rfl,hs,λ_=> .inl rfl,by omega,λi v hi=>by rw[a,HP];exact hc i v hi⟩
theorem Vm{Δ:Env} {e:Nat} {v:V} {xv:Value} {ob:O} {mk:Nat->V} (c:fF Δ v xv) (hv:nj e v=some (ob,mk)) :
  Made Δ ob mk (.cells xv.cells e) (λb=> .pointer (some ⟨b,0,none⟩)):=by
 unfold nj at hv;rw[gG]at hv;obtain⟨_,hv⟩:=hv;cases hv;intro l b g;have hc:=c.cells;have a:=Env.yr (d:=⟨b,0,1,v.cells.length,xv.cells.size,false,0⟩) g;refine⟨⟨b,0,1,v.cells.length,xv.cells.size,false,0⟩,rfl,⟨rfl,rfl,rfl,rfl,λ_=>?_⟩,?_⟩
 ·refine Bo rfl rfl (wB5 (by first|(simpa using hc.length)|(simpa using f.length))) λi u hi=>?_;obtain⟨x,c,f⟩:=hc.get i u hi;exact⟨x,by simp_all,f.mono a⟩
 ·exact fF.ptr l 0 ⟨b,0,1,v.cells.length,xv.cells.size,false,0⟩ (Env.uX _ _ _)
theorem G1{a size lE:Nat} {z:V} (h:elemOf a=some (size,lE,z)) :
  ym a=some size/\zaM a=some lE/\zeroV a=some z/\0<size/\z.cells.length=size/\gz z.cells=true:=by
 grind[elemOf,fk,gG,RP,yi]
theorem An{t e:Nat} (h:G0 t=some e):P0.underlying t=some (.slice e):=by
 grind[G0]
theorem RX(z:List V):∀(m i:Nat),(Bt m z)[i]? =if i<m*z.length then z[i % z.length]? else none
 |0,i=>by simp[Bt]
 | m + 1,i=>by
   simp only[Bt,List.getElem?_append];by_cases a:i<z.length
   ·rw[if_pos a,if_pos (by grind),Nat.mod_eq_of_lt a]
   ·rw[if_neg a,RX z m]
    have e:i % z.length=(i-z.length) % z.length:=by
      rw[Nat.mod_eq_sub_mod (by omega)]
    grind
theorem Bh(z:List V):∀m,(Bt m z).length=m*z.length
 |0=>by simp[Bt]
 |m+1=>by simp[Bt,Bh z m,XA,Nat.add_comm]
theorem Tq{Δ:Env} {z:List V} {a:Array Value} (b:gB Δ z a.toList) (h0:0<z.length) (m:Nat):gB Δ (Bt m z) ((Array.range (m*z.length)).map λi=>a[i % a.size]!).toList:=by
 have hlen:=b.length;simp only[XU]at hlen;refine gB.RJ (by simp[Bh]) λi v hi=>?_;rw[RX]at hi;by_cases h:i<m*z.length
 ·rw[if_pos h]at hi;obtain⟨x,c,d⟩:=b.get _ _ hi
  grind
 simp_all
section
variable{Δ:Env}{h:Hp}{w:World}{n:Nat}{t:Tm}{a:Act}
theorem Td(Z : TR Δ n t a) {o:Oper} {ob:O} {mk:Nat->V} (hv:(p9 o).f t=some (ob,mk)) :
    ∃mo mv,(∀w,(execOp a.eval o).run P0 w = .ok (.value (mv w.heap.size)) (w.alloc mo))/\Made Δ ob mk mo mv:=by
  obtain⟨dst,op,ty,pos,af,gd⟩:=o
  cases op with
  | alloc e=>
    simp only[p9]at hv;split at hv
    ·rename_i z R
     obtain⟨y,I,C,_⟩:=Au R;refine⟨_,_,λw=>mj (x:= .pointer (some ⟨w.heap.size,0,none⟩)) ?_,Vm (C Δ) hv⟩
     simp_all[Instr.alloc,newVar,newRow]
    ·cases hv
  | box e x=>
    simp only[p9,fk]at hv;obtain⟨v,S,Q⟩:=hv;refine⟨_,_,λw=>mj (x:= .pointer (some ⟨w.heap.size,0,none⟩)) ?_,Vm (EW Z S) Q⟩
    rfl
  | buildSlice T len g=>
    simp only[p9]at hv;split at hv
    ·rename_i s J
     have hu:=An J;split at hv
     ·rename_i size lE z he
      obtain⟨hs,_,R,U,E,_⟩:=G1 he;obtain⟨y,I,C,_⟩:=Au R;split at hv
      ·rename_i D
       have aj:len*size<=16777216:=Iv D;simp only[EU,fk,gG]at hv;obtain⟨W,S,cs,Q,_,K⟩:=hv;cases K;have F:=(C Δ).cells;have A:=Tq F (by omega) len;have ak:y.cells.size=size:=by have:=F.length;simp only[XU]at this;omega
       have j:gB Δ (Bt len z.cells) ((Array.range (len*size)).map λi=>(if len*size=0 then(#[]:Array Value) else y.cells)[i % (if len*size=0 then(#[]:Array Value) else y.cells).size]!).toList:=by
         by_cases h0:len*size=0
         ·simp_all
         ·simp_all
       obtain⟨oY,hf,hr⟩:=MF (DT Z S) j Q;refine⟨.cells oY s,λb=> .slice (some ⟨b,0,none⟩) len len,λw=>mj (w:=w) (x:= .slice (some ⟨w.heap.size,0,none⟩) len len) ?_,?_⟩
       ·have B:(g.map λ(x:Nat×Operand)=>(x.1,a.eval x.2)).toList=g.toList.map λx=>(x.1,a.eval x.2):=by simp
        have aa:¬(len*size>2 ^ 24):=by omega
        have X:(if len*size=0 then(pure #[]:Sem (Array Value)) else do pure (<-zeroValue s).cells).run P0 w = .ok (if len*size=0 then(#[]:Array Value) else y.cells) w:=by
          by_cases h0:len*size=0
          ·simp_all
          ·simp_all
        simp only[Instr.buildSlice,sG,fR hu,sR hs,sP,Sem.run_ite];rw[if_neg aa];simp only[Lg,sP,sG];clear j X;by_cases h0:len*size=0
        ·simp only[if_pos h0]at hf⊢
         rw[B];have L:Instr.fill (λi=>some (i*size,size)) (Array.map (λx=>(#[]:Array Value)[x % (#[]:Array Value).size]!) (Array.range (len*size))) (List.map (λx=>(x.1,a.eval x.2)) g.toList)=some oY:=hf;rw[L];rfl
        ·simp only[if_neg h0,I,sP]at hf⊢
         rw[B];have L:Instr.fill (λi=>some (i*size,size)) (Array.map (λx=>y.cells[x % y.cells.size]!) (Array.range (len*size))) (List.map (λx=>(x.1,a.eval x.2)) g.toList)=some oY:=hf;rw[L];rfl
       ·intro l b hn
        have M:=hr.length;simp only[XU]at M;have al:cs.length=len*size:=by
          have h5:∀{place:Nat->Option (Nat×Nat)} {W:List (Nat×V)} {c c':List V},xE place c W=some c'->c'.length=c.length:=by
            intro place W
            induction W with
            |nil=>grind[xE]
            | cons p W ih=>
              intro c c' h;simp only[xE,fk,gG]at h;obtain⟨q,_,_,am,h6,h7⟩:=h;rw[ih h7,(Lb h6).1]
          rw[h5 Q,Bh,E]
        have D:=Env.yr (d:=⟨b,0,size,cs.length,oY.size,false,0⟩) hn;refine⟨⟨b,0,size,cs.length,oY.size,false,0⟩,rfl,⟨rfl,rfl,rfl,rfl,λ_=>?_⟩,?_⟩
        ·refine Bo rfl rfl (by simp_all) λi u hi=>?_
         obtain⟨x,hx,N⟩:=hr.get i u hi;exact⟨x,by simp_all,N.mono D⟩
        ·refine fF.slice l 0 len len 0 ⟨b,0,size,cs.length,oY.size,false,0⟩ (Env.uX _ _ _) rfl (jv _) (.inl ⟨rfl,?_,?_⟩)
         ·simp_all
         simp_all
      ·cases hv
     ·cases hv
    ·cases hv
  | makeSlice T m c=>
    simp only[p9]at hv;split at hv
    ·rename_i s J
     have hu:=An J;split at hv
     ·rename_i size lE z he
      obtain⟨hs,P,R,U,E,_⟩:=G1 he;obtain⟨y,I,C,i,hi,an⟩:=Au R;simp only[fk]at hv;obtain⟨mv,S,cv,Q,K⟩:=hv;have hm:=EW Z S;have hc:=EW Z Q;unfold jo at K;split at K
      ·rename_i G c'
       simp only[gG]at K;obtain⟨h4,h5,h6,h7⟩:=K;cases h7;have ab:G<=c':=Iv h4;have ao:c'*lE<=281474976710656:=Iv h5;have ac:c'<=1099511627776:=Iv h6;have ae:i.bytes=lE:=by
         unfold zaM at P;rw[fk]at P;obtain⟨i',Y,hb⟩:=P;rw[hi]at Y;cases Y;simpa using hb
       have F:=(C Δ).cells;have A:=Tq F (by omega) c';rw[E]at A;have ag:a.eval m = .int .i64 (G:Int):=by
         generalize a.eval m=x at hm;cases hm;rfl
       have ah:a.eval c = .int .i64 (c':Int):=by
         generalize a.eval c=x at hc;cases hc;rfl
       have wr:∀k:Nat,k<=1099511627776->IntKind.i64.wrap (k:Int)=k:=by grind[IntKind.wrap,IntKind.bits,IntKind.signed]
       refine⟨.cells ((Array.range (c'*size)).map λi=>y.cells[i % y.cells.size]!) s,λb=> .slice (some ⟨b,0,none⟩) G c',λw=>mj (w:=w) (x:= .slice (some ⟨w.heap.size,0,none⟩) G c') ?_,?_⟩
       ·rw[ag,ah]
        have e1:((i.bytes:Int)*(c':Int)>2 ^ 48)=False:=by
          rw[ae];have:(lE:Int)*(c':Int)=((c'*lE:Nat):Int):=by rw[wB6];simp
          rw[this];simp;omega
        have j:(if c'*size=0 then(pure #[]:Sem (Array Value)) else do pure (<-zeroValue s).cells).run P0 w = .ok (if c'*size=0 then(#[]:Array Value) else y.cells) w:=by
          by_cases h0:c'*size=0
          ·simp_all
          ·simp_all
        have H:((Array.range (c'*size)).map λi=>(if c'*size=0 then(#[]:Array Value) else y.cells)[i % (if c'*size=0 then(#[]:Array Value) else y.cells).size]!)=((Array.range (c'*size)).map λi=>y.cells[i % y.cells.size]!):=by
          by_cases h0:c'*size=0
          ·simp_all
          ·simp_all
        have c1:¬((c':Int)<0):=by omega
        have c2:¬((G:Int)<0):=by omega
        have c3:¬((G:Int)>(c':Int)):=by omega
        simp only[Instr.makeSlice,sG,fR hu,sP,asInt,asIntOf,Lg,typeInfo,run_program,hi,wr G (by omega),wr c' ac,e1,c1,c2,c3,decide_false,Bool.or_false,PM,if_false,run_askRoom,sR hs,Int.toNat_natCast];clear j;by_cases h0:c'*size=0
        ·simp only[if_pos h0,newRow,run_newObj,sG,Lg,sP]at H⊢
         rw[H];rfl
        simp_all[if_neg,newRow,run_newObj,sG,Lg,sP]
       ·intro l b hn
        have M:=A.length;simp only[XU]at M;have ai:(Bt c' z.cells).length=c'*size:=by rw[Bh,E]
        have D:=Env.yr (d:=⟨b,0,size,(Bt c' z.cells).length,c'*size,false,0⟩) hn;refine⟨⟨b,0,size,(Bt c' z.cells).length,c'*size,false,0⟩,rfl,⟨rfl,rfl,rfl,rfl,λ_=>?_⟩,?_⟩
        ·refine Bo (by simp) rfl (wB5 ai) λi u hi=>?_
         obtain⟨x,hx,N⟩:=A.get i u hi;exact⟨x,by grind,N.mono D⟩
        ·refine fF.slice l 0 G c' 0 ⟨b,0,size,(Bt c' z.cells).length,c'*size,false,0⟩ (Env.uX _ _ _) rfl ab (.inl ⟨rfl,?_,?_⟩)
         ·simp_all
         simp_all
      ·cases K
     ·cases hv
    ·cases hv
  | makeMap T r=>
    cases r with
    | none=>
      simp only[p9]at hv;split at hv
      ·cases hv
       refine⟨.map #[] 0,λb=> .map (some b),λw=>mj (x:= .map (some w.heap.size)) (by simp[Instr.makeMap]),?_⟩;intro l b hn;exact⟨⟨b,0,0,0,0,false,1⟩,rfl,⟨rfl,rfl,rfl,#[],rfl,.nil,by simp,by simp⟩,fF.map l ⟨b,0,0,0,0,false,1⟩ (Env.uX _ _ _)⟩
      ·cases hv
    |some _=>cases hv
  |_=>cases hv
end
