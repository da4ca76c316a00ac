/- Parts. -/
import Derived.Test.YtnehpeeglbgfpaaDoorM01
import Derived.Laws.Pointers
import Derived.Laws.StructEq
import Derived.Laws.Strings2
import Derived.Laws.IdiomStrings
set_option maxHeartbeats 4000000
namespace Go.Proofs.YtnehpeeglbgfpaaDoor.Hx
inductive nW (Δ:Env):List (V×V×Nat)->List MapEntry->Prop
 |nil:nW Δ [] []
 | cons (k v:V) (n:Nat) (e:MapEntry) (es:List (V×V×Nat)) (iD:List MapEntry) (a:fq Δ k e.key) (b:fq Δ v e.val) (c:e.born=n)
   (d:nW Δ es iD):nW Δ ((k,v,n)::es) (e::iD)
theorem nW.mono{Δ b:Env} (a:Δ.le b) {es:List (V×V×Nat)} {iD:List MapEntry} (h:nW Δ es iD):nW b es iD:=by
 induction h with
 |nil=>exact .nil
 |cons k v n e es iD c d f _ g=>exact .cons k v n e es iD (c.mono a) (d.mono a) f g
def B1(Δ:Env) (d:D) (cs:List V) (ob:Option Obj):Prop:=∃c e fr,ob=some (.cells c e fr)/\c.size=d.Pb/\(d.ro=false->fr.1=fr.2\/d.Pb<=fr.1)/\d.base+cs.length<=d.Pb/\∀(i:Nat) (v:V),cs[i]? =some v->∃x,c[d.base+i]? =some x/\fq Δ v x
def rr(es:List (V×V×Nat))(c:Nat):Prop:=(es.map λe=>e.2.2).Nodup/\∀e∈es,e.2.2<c
def WS(k:IntKind)(ks:List Int)(iD:List MapEntry):Prop:=(∀e∈iD,e.val = .bool true/\∃n∈ks,e.key = .int k n)/\∀n∈ks,∃e∈iD,e.key = .int k n
def Mw(Δ:Env) (d:D) (o:O) (ob:Option Obj):Prop:=match o with
 | .cells _ sz live ro cs=>d.kind=0/\d.sz=sz/\d.n=cs.length/\d.ro=ro/\(live=true->B1 Δ d cs ob)
 | .map es a=>d.kind=1/\d.ro=false/\d.base=0/\∃iD,ob=some (.map iD a)/\nW Δ es iD.toList/\rr es a
 | .IP k ks=>d.kind=1/\d.ro=false/\d.base=0/\∃iD a,ob=some (.map iD a)/\WS k ks iD.toList
 | .gone=>d.kind=2/\d.ro=false/\d.base=0
 | .iter m since seen last=>d.kind=2/\d.ro=false/\d.base=0/\∃c,ob=some (.mapIter c since seen.toArray last)/\
   (match m with
    |none=>c=none
    |some l=>∃e,Δ l=some e/\c=some e.b)
def O.live:O->Bool
 | .cells _ _ live _ _=>live
 |_=>true
def yY(Δ:Env)(w:World):Prop:=∀g c,(g,c)∈X3->(∃e fr,w.heap[g]? =some (.cells c e fr))/\∀l d,Δ l=some d->d.ro=false->d.b≠g
structure WR (Δ:Env) (h:Hp) (w:World):Prop where
 fresh:∀l d,Δ l=some d->l<h.next
 wh:∀l d,Δ l=some d->d.b<w.heap.size
 obj:∀l d,Δ l=some d->∃o,h.get l=some o/\Mw Δ d o w.heap[d.b]?
 apart:∀l a d c o e,Δ l=some d->Δ a=some c->l≠a->h.get l=some o->h.get a=some e->o.live=true->e.live=true->
  (d.ro=false\/c.ro=false)->d.b≠c.b
 Cg:∀g o,g<P0.globals.size->h.get g=some o->∃d,Δ g=some d/\d.b=g/\d.base=0
 ur:P0.globals.size<=h.next
 MU:yY Δ w
inductive DO (Δ:Env):List (Nat×List V)->List Deferred->Prop
 |nil:DO Δ [] []
 | cons (g:Nat) (args:List V) (cap fY:Array Value) (l:List (Nat×List V)) (a:List Deferred) (b:fV Δ args (fY++cap).toList) (c:DO Δ l a) :
   DO Δ ((g,args)::l) ({target:= .fn (.func g) cap,args:=fY}::a)
theorem DO.mono{Δ c:Env} (b:Δ.le c) {l:List (Nat×List V)} {a:List Deferred} (h:DO Δ l a):DO c l a:=by
 induction h with
 |nil=>exact .nil
 |cons g args cap fY l a d _ e=>exact .cons g args cap fY l a (d.mono b) e
structure TR (Δ:Env) (n:Nat) (t:Tm) (a:Act):Prop where
 size:a.tmps.size=n
 rel:∀i,fq Δ (gI t i) (a.tmps.getD i undef)
 ds:DO Δ t.ds a.defers
theorem B1.mono{Δ b:Env} (a:Δ.le b) {d:D} {cs:List V} {ob:Option Obj} (h:B1 Δ d cs ob):B1 b d cs ob:=by
 obtain⟨c,e,fr,f,g,j,k,l⟩:=h;exact⟨c,e,fr,f,g,j,k,λi v hi=>let⟨x,hx,hr⟩:=l i v hi;⟨x,hx,hr.mono a⟩⟩
theorem Mw.mono{Δ n:Env} (a:Δ.le n) {d:D} {o:O} {ob:Option Obj} (h:Mw Δ d o ob):Mw n d o ob:=by
 cases o with
 | cells e sz live ro cs=>
   obtain⟨c,f,g,i,b⟩:=h
   exact⟨c,f,g,i,λp=>(b p).mono a⟩
 | map es j=>
   obtain⟨c,f,g,iD,i,b,q⟩:=h
   exact⟨c,f,g,iD,i,b.mono a,q⟩
 |IP k ks=>exact h
 |gone=>exact h
 | iter m since seen last=>
   obtain⟨c,f,g,r,i,b⟩:=h;refine⟨c,f,g,r,i,?_⟩
   cases m with
   |none=>exact b
   |some l=>obtain⟨s,hd,t⟩:=b;exact⟨s,a _ _ hd,t⟩
theorem TR.mono{Δ c:Env}(b:Δ.le c){n:Nat}{t:Tm}{a:Act}(h:TR Δ n t a):TR c n t a:=⟨h.size,λi=>(h.rel i).mono b,h.ds.mono b⟩
theorem fE{t:Nat}{d:TypeDesc}{w:World}(h:P0.underlying t=some d):(underlying t).run P0 w = .ok d w:=by simp[underlying,h]
theorem zx{t n:Nat} (h:uR t=some n):∃i,P0.info? t=some i/\i.size=n:=by
 grind[uR,eE]
theorem rT{t n:Nat} {w:World} (h:uR t=some n):(sizeOf t).run P0 w = .ok n w:=by
 obtain⟨i,hi,rfl⟩:=zx h
 simp_all[sizeOf,typeInfo]
theorem B6{t:Nat} {b:Bool} {w:World} (h:GJ t=some b):(isAgg t).run P0 w = .ok b w:=by
 unfold GJ at h;split at h
 ·simp_all[isAgg,fE]
 ·simp_all[isAgg,fE]
 ·simp_all[isAgg,qu,fE,pJ]
 ·cases h
theorem wC{t:Nat} {z:V} (h:zeroV t=some z):∃a,(∀w,(zeroValue t).run P0 w = .ok a w)/\(∀Δ,fq Δ z a)/\∃i,P0.info? t=some i/\i.zero=some a:=by
 unfold zeroV at h;simp only[eE]at h;obtain⟨i,hi,a,b,c⟩:=h;exact⟨a,by simp_all[zeroValue,typeInfo],by grind[BZ],i,hi,b⟩
theorem p7(b o n:Nat):(⟨b,o,none⟩:Addr).add n=⟨b,o+n,none⟩:=by
 grind[Addr.add]
section
variable{Δ:Env}{h:Hp}{w:World}{n:Nat}{t:Tm}{a:Act}
theorem AQ(d:TR Δ n t a) {x:Operand} {v:V} (b:(IQ x).f t=some v):fq Δ v (a.eval x):=by
 cases x with
 |tmp i=>simp only[IQ]at b;cases b;exact d.rel i
 | const c=>
   simp only[IQ]at b;split at b
   ·rename_i y e;cases b;exact BZ Δ 8 c _ e
   ·cases b
 |global g=>grind[IQ]
 |func f=>simp only[IQ]at b;cases b;exact .func f [] [] #[] #[] .nil .nil
theorem jW(k:WR Δ h w) (e:TR Δ n t a) {x:Operand} {v:V} (b:(pI x).f t h=some v):fq Δ v (a.eval x):=by
 cases x with
 | global g=>
   unfold pI at b
   cases IX:Nat.blt g P0.globals.size with
   | true=>
     simp only[IX,eE]at b;obtain⟨o,l,b⟩:=b;cases b;have m:g<P0.globals.size:=by rw[<-Lb];exact IX
     obtain⟨d,hd,p,j⟩:=k.Cg g o m l;have:=fq.ptr (Δ:=Δ) g 0 d hd;rw[p,j]at this
     exact this
   |false=>simp_all
 |tmp i=>exact AQ e b
 |const c=>exact AQ e b
 |func f=>exact AQ e b
theorem xW(b:TR Δ n t a):∀{l:List Operand} {vs:List V},Et t l=some vs->fV Δ vs (l.map a.eval)
 |[],vs,hv=>by simp[Et]at hv;subst hv;exact .nil
 | x::l,vs,hv=>by
   simp only[Et,eE]at hv;obtain⟨v,c,d,e,f⟩:=hv;cases f;exact .cons _ _ _ _ (AQ b c) (xW b e)
inductive Sg (Δ:Env):List (Nat×V)->List (Nat×Value)->Prop
 |nil:Sg Δ [] []
 |cons (i:Nat) (v:V) (a:Value) (l:List (Nat×V)) (b:List (Nat×Value)) (c:fq Δ v a) (d:Sg Δ l b):Sg Δ ((i,v)::l) ((i,a)::b)
theorem zU(b:TR Δ n t a):∀{l:List (Nat×Operand)} {vs:List (Nat×V)},qt t l=some vs->Sg Δ vs (l.map λx=>(x.1,a.eval x.2))
 |[],vs,hv=>by simp[qt]at hv;subst hv;exact .nil
 | x::l,vs,hv=>by
   simp only[qt,eE]at hv;obtain⟨v,c,d,e,f⟩:=hv;cases f;exact .cons _ _ _ _ _ (AQ b c) (zU b e)
theorem OA(f:WR Δ h w) {l:Nat} {d:D} (g:Δ l=some d) {e sz:Nat} {ro:Bool} {cs:List V} (j:h.get l=some (.cells e sz true ro cs))
  {i:Nat} {v:V} (hi:cs[i]? =some v):∃x,w.cell? ⟨d.b,d.base+i,none⟩=some x/\fq Δ v x:=by
 obtain⟨o,a,k⟩:=f.obj l d g;rw[j]at a;cases a;obtain⟨_,_,_,_,hc⟩:=k;obtain⟨c,e',fr,m,_,_,_,n⟩:=hc rfl
 grind[World.cell?]
theorem EA(i:WR Δ h w) {l:Nat} {d:D} (k:Δ l=some d) {off m:Nat} {cs:List V} (a:Cs h l off m=some cs) :
  ∃c,(loadCells ⟨d.b,d.base+off,none⟩ m).run P0 w = .ok c w/\fV Δ cs c.toList:=by
 unfold Cs at a;rw[jX]at a;obtain⟨e,sz,live,ro,all,n,a⟩:=a;rw[fX]at a;obtain⟨rfl,a⟩:=a;obtain⟨hlen,f⟩:=sub_eq a;have g:∀j,j<m->∃x v,w.cell? ⟨d.b,d.base+off+j,none⟩=some x/\cs[j]? =some v/\fq Δ v x:=by grind[iH,OA,Nat.add_assoc]
 refine⟨_,run_loadCells w ⟨d.b,d.base+off,none⟩ m (λj=>(w.cell? ⟨d.b,d.base+off+j,none⟩).getD undef) (λj o=>?_),?_⟩
 ·grind[p7]
 grind[fV.KS,jw]
theorem RJ(c:WR Δ h w) {l:Nat} {d:D} (f:Δ l=some d) {off:Nat} {v:V} (a:UA h l off=some v) :
  ∃x,w.cell? ⟨d.b,d.base+off,none⟩=some x/\fq Δ v x:=by
 unfold UA at a;rw[jX]at a;obtain⟨e,sz,live,ro,all,g,a⟩:=a;rw[fX]at a;obtain⟨rfl,a⟩:=a;exact OA c f g (Ho a)
theorem Ht(i:WR Δ h w) {ty:Nat} {p:PF} {xv:Value} (j:∀v,p.f t h=some v->fq Δ v xv) {v:V} (a:(Cz ty p).f t h=some v) :
  ∃x,(Instr.loadAt ty xv).run P0 w = .ok x w/\fq Δ v x:=by
 unfold Cz at a;split at a
 ·rename_i k;split at a
  ·rename_i m o;simp only[eE,ny]at a;obtain⟨av,c,l,off,rfl,cs,e,n⟩:=a;cases n
   cases j _ c with
   | ptr _ _ d hd=>
     obtain⟨g,q,b⟩:=EA i hd e;exact⟨.agg g,by simp_all[Instr.loadAt,Instr.sureAddr,loadVar,B6,rT],.agg _ _ b⟩
  ·cases a
 ·rename_i k;simp only[eE,ny]at a;obtain⟨av,c,l,off,rfl,e⟩:=a
  cases j _ c with
  | ptr _ _ d hd=>
    obtain⟨x,r,b⟩:=RJ i hd e
    simp_all[Instr.loadAt,Instr.sureAddr,loadVar,B6]
 ·cases a
theorem Gv:∀(fs:List Field) (pl:List (Nat×Nat)),placesOf fs=some pl->fs.mapM (λf=>(P0.info? f.type).map λi=>(f.offset,i.size))=some pl
 |[],pl,h=>by grind[placesOf]
 | f::fs,pl,h=>by
   simp only[placesOf,eE]at h;obtain⟨m,a,l,b,c⟩:=h;cases c;obtain⟨i,hi,rfl⟩:=zx a;simp[List.mapM_cons,hi,Gv fs l b]
theorem JM:∀(xs:List Value) (k off:Nat) (c:Array Value),off+k+xs.length<=c.size->
  ∀i,((xs.zipIdx k).foldl (λcs (p:Value×Nat)=>cs.setIfInBounds (off+p.2) p.1) c)[i]? =if off+k<=i/\i<off+k+xs.length then xs[i-(off+k)]? else c[i]?
 | [],k,off,c,_,i=>by
   simp_all[if_neg,Wc]
 | x::xs,k,off,c,hle,i=>by
   simp only[List.zipIdx_cons,List.foldl_cons];simp only[MX]at hle;rw[JM xs (k+1) off _ (by simp;omega)]
   grind
theorem G5{place:Nat->Option (Nat×Nat)}:∀{ps:List (Nat×V)} {f:List (Nat×Value)} {cells cs:List V} {a:Array Value},Sg Δ ps f->fV Δ cells a.toList->
  wk place cells ps=some cs->∃mG,Instr.fill place a f=some mG/\fV Δ cs mG.toList
 |_,_,cells,cs,a,.nil,hc,hf=>by simp[wk]at hf;subst hf;exact⟨a,rfl,hc⟩
 | _,_,cells,cs,a,.cons i v v' l l' hv hs,hc,hf=>by
   simp only[wk,eE,fX]at hf;obtain⟨⟨off,size⟩,H,t,o,u,w⟩:=hf;obtain⟨I,z,g⟩:=FV u;have d:=hv.cells;have A:v'.cells.size=size:=by
     have:=d.length;rw[uW t]at this;simpa using this.symm
   have q:=hc.length;simp only[Qf]at q;have B:v.cells.length=v'.cells.size:=by simpa using d.length
   have C:¬(v'.cells.size≠size\/off+v'.cells.size>a.size):=by
     rintro(h|h)
     ·omega
     ·omega
   have k:fV Δ o (v'.cells.zipIdx.foldl (λcs (c,j)=>cs.setIfInBounds (off+j) c) a).toList:=by
     have b:=JM v'.cells.toList 0 off a (by simp;omega);have e:(v'.cells.zipIdx.foldl (λcs (c,j)=>cs.setIfInBounds (off+j) c) a)=((v'.cells.toList.zipIdx 0).foldl (λcs (p:Value×Nat)=>cs.setIfInBounds (off+p.2) p.1) a):=by
       rw[<-Array.foldl_toList];simp
     rw[e];generalize hF:((v'.cells.toList.zipIdx 0).foldl (λcs (p:Value×Nat)=>cs.setIfInBounds (off+p.2) p.1) a)=F at b;have D:F.size=a.size:=by
      apply Nat.le_antisymm
      ·rcases Ji a.size F.size with r|s
       ·have:=b a.size
        grind
       omega
      ·rcases Ji F.size a.size with r|s
       ·have:=b F.size
        grind
       omega
     refine fV.KS (by simp_all) λj x m=>?_;rw[g j]at m;have n:=b j;simp only[SH,Qf]at n;rw[SI,n];by_cases hin:off<=j/\j<off+v.cells.length
     ·rw[if_pos hin]at m
      rw[if_pos (by omega)];exact d.get _ _ m
     ·rw[if_neg hin]at m
      rw[if_neg (by omega)];obtain⟨y,J,E⟩:=hc.get _ _ m
      simp_all
   obtain⟨mG,G,E⟩:=G5 hs k w
   simp_all[Instr.fill,if_neg]
theorem OZ(p:TR Δ n t a) {ty:Nat} {c:List (Nat×Operand)} {v:V} (b:(Dv ty c).f t h=some v) :
  ∃x,(Instr.build ty (c.map λx=>(x.1,a.eval x.2)).toArray).run P0 w = .ok x w/\fq Δ v x:=by
 unfold Dv at b;split at b
 ·rename_i z r;obtain⟨C,_,j,i,hi,s⟩:=wC r;have d:=(j Δ).cells;split at b
  ·rename_i e u;split at b
   ·rename_i g D;simp only[eE]at b;obtain⟨ps,k,cs,l,m⟩:=b;cases m;obtain⟨mG,y,o⟩:=G5 (zU p k) d l;refine⟨.agg mG,?_,.agg _ _ o⟩
    simp_all[run_build,Program.built,Gv]
   ·cases b
  ·rename_i len q u;split at b
   ·rename_i size A;obtain⟨E,B,rfl⟩:=zx A;simp only[eE]at b;obtain⟨ps,k,cs,l,m⟩:=b;cases m;obtain⟨mG,y,o⟩:=G5 (zU p k) d l;refine⟨.agg mG,?_,.agg _ _ o⟩
    simp_all[run_build,Program.built]
   ·cases b
  ·cases b
 ·cases b
end
theorem wE(k:IntKind) (n:Int):jt k n=k.wrap n:=by
 unfold jt
 cases n with
 |negSucc m=>rfl
 | ofNat m=>
   simp only;split
   ·rename_i a
    rw[Lb]at a;have e:(Int.ofNat m)=(m:Int):=rfl
    grind[IntKind.wrap,IntKind.bits,IntKind.signed]
   ·rfl
section
variable{Δ:Env}{h:Hp}{w:World}{n:Nat}{t:Tm}{a:Act}
theorem kY{s:Sem Value}{x:Value}{w w':World}(h:s.run P0 w = .ok x w'):(do pure (Next.value (<-s)):Sem Next).run P0 w = .ok (.value x) w':=by simp[h]
theorem vY{k k':IntKind}(h:AM k k' = true):k=k':=by cases k <;> cases k' <;> first|rfl|cases h
theorem TW{op:BinOp} {k:IntKind} {x y:Int} {v:V} (ty:Nat) (w:World) (c:N3 op=false) (a:hint op k x y=some v) :
  ∃r,(binOp op ty (.int k x) (.int k y)).run P0 w = .ok r w/\∀Δ,fq Δ v r:=by
 cases op with
 |shl=>cases c
 |shr=>cases c
 |add=>simp only[hint]at a;cases a;rw[wE];exact⟨_,by simp[binOp,Op.intArith],λΔ=> .int _ _⟩
 |sub=>simp only[hint]at a;cases a;rw[wE];exact⟨_,by simp[binOp,Op.intArith],λΔ=> .int _ _⟩
 |mul=>simp only[hint]at a;cases a;rw[wE];exact⟨_,by simp[binOp,Op.intArith],λΔ=> .int _ _⟩
 | quo=>
   have d:y≠0:=by rintro rfl;simp[hint]at a
   have b:some (V.int k (jt k (x.tdiv y)))=some v:=by
     rw[<-a];unfold hint;simp only;split
     ·simp_all
     ·rfl
   cases b;rw[wE];exact⟨_,by simp_all[binOp,Op.intDiv],λΔ=> .int _ _⟩
 | rem=>
   have d:y≠0:=by rintro rfl;simp[hint]at a
   have b:some (V.int k (x.tmod y))=some v:=by
     rw[<-a];unfold hint;simp only;split
     ·simp_all
     ·rfl
   cases b;exact⟨_,by simp_all[binOp,Op.intDiv],λΔ=> .int _ _⟩
 |and=>simp only[hint]at a;cases a;exact⟨_,by simp[binOp,Op.intBits],λΔ=> .int _ _⟩
 |or=>simp only[hint]at a;cases a;exact⟨_,by simp[binOp,Op.intBits],λΔ=> .int _ _⟩
 |xor=>simp only[hint]at a;cases a;exact⟨_,by simp[binOp,Op.intBits],λΔ=> .int _ _⟩
 |andNot=>simp only[hint]at a;cases a;exact⟨_,by simp[binOp,Op.intBits],λΔ=> .int _ _⟩
 |eql=>simp only[hint]at a;cases a;exact⟨_,by simp[binOp,Op.intCmp],λΔ=> .bool _⟩
 |neq=>simp only[hint]at a;cases a;exact⟨_,by simp[binOp,Op.intCmp],λΔ=> .bool _⟩
 |lss=>simp only[hint]at a;cases a;exact⟨_,by simp[binOp,Op.intCmp],λΔ=> .bool _⟩
 |leq=>simp only[hint]at a;cases a;exact⟨_,by simp[binOp,Op.intCmp],λΔ=> .bool _⟩
 |gtr=>simp only[hint]at a;cases a;exact⟨_,by simp[binOp,Op.intCmp],λΔ=> .bool _⟩
 |geq=>simp only[hint]at a;cases a;exact⟨_,by simp[binOp,Op.intCmp],λΔ=> .bool _⟩
theorem P1{op:BinOp} {k k':IntKind} {x y:Int} {v:V} (ty:Nat) (w:World) (a:Na op k x y=some v) :
  ∃r,(binOp op ty (.int k x) (.int k' y)).run P0 w = .ok r w/\∀Δ,fq Δ v r:=by
 unfold Na at a;split at a
 ·cases a
 ·rename_i m;have b:¬((Int.ofNat m)<0):=by simp
  split at a
  ·cases a;exact⟨_,by rfl,λΔ=> .int _ _⟩
  ·cases a;exact⟨_,by rfl,λΔ=> .int _ _⟩
  ·cases a
theorem Uc{op:BinOp} {x y:ByteArray} {v:V} (ty:Nat) (w:World) (a:Vi op x.data.toList y.data.toList=some v) :
  ∃r,(binOp op ty (.string x) (.string y)).run P0 w = .ok r w/\∀Δ,fq Δ v r:=by
 have d:(binOp op ty (.string x) (.string y))=Op.stringOp op x y:=by cases op <;> rfl
 rw[d];have g:x.toList=x.data.toList:=ByteArray.toList_eq x;have h:y.toList=y.data.toList:=ByteArray.toList_eq y;cases op <;> simp only[Vi]at a <;> try (cases a;done)
 case add=>
  split at a
  ·rename_i c;cases a;have b:=FY c;have f:¬(((x.size+y.size:Nat):Int)>IntKind.i64.max):=by
    have e1:x.data.toList.length=x.size:=rfl;have e2:y.data.toList.length=y.size:=rfl;rw[e1,e2]at b;simp only[IntKind.max,IntKind.signed,IntKind.bits,if_true];omega
   have e:x.data.toList++y.data.toList=(x++y).data.toList:=by simp
   rw[e];exact⟨_,by simp_all[Op.stringOp,if_neg],λΔ=> .str _⟩
  ·cases a
 all_goals
  cases a;refine⟨_,by simp_all[Op.stringOp],λΔ=> .bool _⟩
theorem CZ{op:BinOp} {ty:Nat} {X Y:Operand} {x y:Value} (w:World) (a:x≠ .nilIface) (b:∀c,x≠ .agg c) :
  (eqGuard op ty X Y x y).run P0 w = .ok () w:=by
 cases op <;> unfold eqGuard <;> dsimp only <;> simp only[Ug,V7,LK,if_true,if_false] <;> first
  |rfl
  |simp_all
theorem PC{d:TypeDesc} {ty:Nat} {x y:V} {xv c:Value} {b:Bool} (w:World) (e:Nat) (f:P0.underlying ty=some d) (g:fq Δ x xv) (h:fq Δ y c)
  (a:Rr d x y=some b):(Op.equalIn (e+1) ty xv c).run P0 w = .ok b w:=by
 unfold Rr at a;split at a <;> first|(cases a;done)|skip
 all_goals
  first
   |cases a
   |(rw[fX]at a;obtain⟨_,a⟩:=a;cases a)
  cases g;cases h;simp only[Op.equalIn,qu,fE f,pJ];rfl
theorem Pz{a:Array (String×TypeId)} {ty:Nat} (w:World) (b:Nat) (c:P0.underlying ty=some (.interface a)) (d:a.isEmpty=true):(Op.eqGuardIn (b+1) ty .nilIface .nilIface).run P0 w = .ok false w:=by
 simp_all[Op.eqGuardIn,qu,fE,pJ]
theorem Tb{d:TypeDesc} {ty:Nat} {x y:V} {xv a:Value} {b:Bool} (w:World) (h:P0.underlying ty=some d) (i:fq Δ x xv) (j:fq Δ y a)
  (f:Rr d x y=some b):(Op.equal ty xv a).run P0 w = .ok b w/\(∀op X Y,(eqGuard op ty X Y xv a).run P0 w = .ok () w)/\
   (binOp .eql ty xv a)=(do pure (.bool (<-Op.equal ty xv a)))/\(binOp .neq ty xv a)=(do pure (.bool (!(<-Op.equal ty xv a)))):=by
 refine⟨PC w 9999 h i j f,?_⟩;unfold Rr at f;split at f <;> first|(cases f;done)|skip
 all_goals
  cases i;cases j
 all_goals refine⟨?_,rfl,rfl⟩
 all_goals intro op X Y
 any_goals (refine CZ w ?_ ?_ <;> first|(intro e;cases e;done)|(intro c e;simp_all))
 ·rename_i m;rw[fX]at f;have l:=f.1;have g:=Pz w 9999 h l
  cases op <;> unfold eqGuard <;> dsimp only <;> simp only[Ug,V7,LK,if_true,if_false] <;> first
   |rfl
   |(split
     ·rfl
     ·split
      ·rfl
      ·have k:Sem.run P0 (Op.eqGuardIn Op.maxDepth ty .nilIface .nilIface) w = .ok false w:=g
       simp_all)
 ·cases op <;> rfl
theorem Vq{ty:Nat} {x y:V} {xv g:Value} {b:Bool} (w:World) (h:Nat) (d:fq Δ x xv) (f:fq Δ y g) (a:ZR (P0.underlying ty) x y=some b) :
  (Op.equalIn (h+1) ty xv g).run P0 w = .ok b w/\GJ ty=some false:=by
 unfold ZR at a;split at a
 ·rename_i c;cases d;cases f;cases a;refine⟨?_,by grind[GJ]⟩;simp only[Op.equalIn,qu,fE c,pJ];rfl
 ·rename_i c;cases d;cases f;rw[fX]at a;obtain⟨i,a⟩:=a;obtain rfl:=vY i;cases a;refine⟨?_,by grind[GJ]⟩;simp only[Op.equalIn,qu,fE c,pJ,if_true];rfl
 ·rename_i c;cases d with|str xs=>cases f with|str ys=>
  cases a;refine⟨?_,by grind[GJ]⟩;simp only[Op.equalIn,qu,fE c,pJ];have e:(xs.data.toList == ys.data.toList)=(xs == ys):=by
   rw[show(xs == ys)=(xs.data == ys.data) from rfl,Ut,Jg,Jg];exact by simp_all
  simp_all
 ·cases a
theorem Hc{xs ys:List V} {a d:Array Value} (w:World) (i:Nat) (n:fV Δ xs a.toList) (o:fV Δ ys d.toList):∀{fs:List Field} {b:Bool},GZ fs xs ys=some b->
  ((do
    for f in fs do
      if f.name≠ "_" then
        if !(<-Op.equalIn (i+1) f.type (<-part f.type a f.offset) (<-part f.type d f.offset)) then return false
    pure true:Sem Bool)).run P0 w = .ok b w
 |[],b,h=>by cases h;rfl
 | f ::fs,b,h=>by
   simp only[GZ,fX,eE,Vm,W5]at h;obtain⟨z,x,r,y,s,c,t,A⟩:=h;obtain⟨xv,j,k⟩:=n.get _ _ (Ho r);obtain⟨p,l,m⟩:=o.get _ _ (Ho s);obtain⟨B,q⟩:=Vq w i k m t;have u:(part f.type a f.offset).run P0 w = .ok xv w:=by
     have e:a[f.offset]? =some xv:=by simpa using j
     simp only[part,qu,B6 q,pJ,LK,if_false];simp[e]
   have v:(part f.type d f.offset).run P0 w = .ok p w:=by
     have g:d[f.offset]? =some p:=by simpa using l
     simp only[part,qu,B6 q,pJ,LK,if_false];simp[g]
   have C:=λ{b}=>Hc w i n o (fs:=fs) (b:=b);cases c <;> simp_all
theorem Vy{ty:Nat} {xs ys:List V} {xv a:Value} {b:Bool} (w:World) (d:fq Δ (.agg xs) xv) (e:fq Δ (.agg ys) a) (c:Rj ty xs ys=some b) :
  (Op.equal ty xv a).run P0 w = .ok b w/\(∀op X Y,(eqGuard op ty X Y xv a).run P0 w = .ok () w)/\
   (binOp .eql ty xv a)=(do pure (.bool (<-Op.equal ty xv a)))/\(binOp .neq ty xv a)=(do pure (.bool (!(<-Op.equal ty xv a)))):=by
 cases d with|agg _ xs' d=>cases e with|agg _ ys' e=>
 unfold Rj at c;split at c
 ·rename_i fs g;simp only[fX,Vm]at c;obtain⟨h,i,c⟩:=c;refine⟨?_,λop X Y=>?_,rfl,rfl⟩
  ·have f:=Hc w 9998 d e c;show(Op.equalIn (9999+1) ty (.agg xs') (.agg ys')).run P0 w=_;rw[Op.equalIn];simp only[qu,fE g,pJ,run_program,h,LK,if_false,EN,<-Array.forIn_toList]at f⊢;exact f
  ·cases op <;> unfold eqGuard <;> dsimp only <;> simp only[Ug,V7,LK,if_true,if_false] <;> first
    |rfl
    |simp_all
 ·cases c
theorem Ta{op:BinOp} {ty:Nat} {X Y:Operand} {x y v:V} {xv c:Value} (w:World) (l:fq Δ x xv) (m:fq Δ y c) (a:ef op ty x y=some v) :
  ∃r,(do eqGuard op ty X Y xv c;binOp op ty xv c:Sem Value).run P0 w = .ok r w/\fq Δ v r:=by
 unfold ef at a;split at a
 ·rename_i k p k' q;cases l;cases m;have n:=CZ (op:=op) (ty:=ty) (X:=X) (Y:=Y) (y:= .int k' q) w (x:= .int k p) (by simp) (by simp);split at a
  ·obtain⟨r,s,f⟩:=P1 (k':=k') ty w a
   simp_all
  ·rename_i z;rw[fX]at a;obtain⟨A,a⟩:=a;obtain rfl:=vY A;obtain⟨r,s,f⟩:=TW ty w z a
   simp_all
 ·cases l with|str xs=>cases m with|str ys=>
  have n:=CZ (op:=op) (ty:=ty) (X:=X) (Y:=Y) (y:= .string ys) w (x:= .string xs) (by simp) (by simp);obtain⟨r,s,f⟩:=Uc ty w a
  simp_all
 ·have i:∀g,Mi ty g x y=some v->∃b,(Op.equal ty xv c).run P0 w = .ok b w/\(∀op X Y,(eqGuard op ty X Y xv c).run P0 w = .ok () w)/\
    (binOp .eql ty xv c)=(do pure (.bool (<-Op.equal ty xv c)))/\(binOp .neq ty xv c)=(do pure (.bool (!(<-Op.equal ty xv c))))/\v = .bool (Bool.rec (motive:=λ_=>Bool) b (!b) g):=by
   clear a;intro g e;unfold Mi TE at e;rw[eE]at e;obtain⟨b,h,e⟩:=e;split at h
   ·obtain⟨o,j,t,u⟩:=Vy w l m h
    simp_all
   unfold Ov at h;split at h
   ·rename_i d B;obtain⟨o,j,t,u⟩:=Tb w B l m h
    simp_all
   ·cases h
  split at a
  ·obtain⟨b,o,j,t,_,rfl⟩:=i false a;have n:=j .eql X Y;exact⟨.bool b,by simp_all,.bool b⟩
  ·obtain⟨b,o,j,_,u,rfl⟩:=i true a;have n:=j .neq X Y;exact⟨.bool (!b),by simp_all,.bool _⟩
  ·cases a
theorem VX{op:UnOp} {x v:V} {xv:Value} (w:World) (b:fq Δ x xv) (a:tk op x=some v):∃r,(Op.unary op xv).run P0 w = .ok r w/\fq Δ v r:=by
 unfold tk at a;split at a
 ·cases a;cases b;rw[wE];exact⟨_,rfl,.int _ _⟩
 ·cases a;cases b;exact⟨_,rfl,.bool _⟩
 ·simp only[hint]at a;cases a;cases b;exact⟨_,rfl,.int _ _⟩
 ·cases a
theorem QM{src dst:Nat} {p:PF} {xv:Value} {v:V} (w:World) (j:¬∃e,P0.underlying src=some (.slice e)/\P0.underlying dst=some .string) (g:∀v,p.f t h=some v->fq Δ v xv) (a:(Gp src dst p).f t h=some v) :
  ∃r,(convert src dst xv).run P0 w = .ok r w/\fq Δ v r:=by
 unfold Gp at a;split at a
 ·rename_i k' k i hd;rw[eE]at a;obtain⟨x,c,b⟩:=a;have d:=g _ c;split at b
  ·cases b;cases d;rw[wE];exact⟨_,by simp_all[convert,fE,Conv.intToInt],.int _ _⟩
  ·cases b
 ·rename_i i hd;rw[eE]at a;obtain⟨x,c,b⟩:=a;have d:=g _ c;split at b
  ·cases b;cases d
   simp_all[convert,fE]
  ·cases b
 ·simp_all
 ·cases a
theorem HQ{ty:Nat} {cs:List V} {mG:Array Value} {off:Nat} {v:V} (w:World) (hc:fV Δ cs mG.toList) (a:LB ty cs off=some v) :
  ∃r,(part ty mG off).run P0 w = .ok r w/\fq Δ v r:=by
 unfold LB at a
 cases ha:GJ ty with
 |none=>simp_all
 |some b=>cases b with
 | true =>
   simp only[ha]at a
   cases hm:uR ty with
   |none=>simp_all
   | some m=>
     simp only[hm,eE]at a;obtain⟨l,e,f⟩:=a;cases f;obtain⟨g,h⟩:=sub_eq e;refine⟨.agg (mG.extract off (off+m)),by simp_all[part,B6,rT],.agg _ _ (fV.KS ?_ ?_)⟩
     ·have c:=hc.length
      have:∀i,i<m->off+i<cs.length:=by grind
      simp only[Qf]at c;simp only[Qf,Array.size_extract,g];rcases Nat.eq_zero_or_pos m with h0|h0
      ·omega
      ·have:=this (m-1) (by omega)
       omega
     ·intro i v hi
      have d:i<m:=by have:=(jw.1 hi).1;omega
      rw[h i d]at hi;obtain⟨x,j,k⟩:=hc.get _ _ hi
      simp_all
 | false=>
   simp only[ha]at a;obtain⟨x,j,k⟩:=hc.get _ _ (Ho a)
   simp_all[part,B6]
theorem IH{s f:Nat} {a:Field} (h:G1 s f=some a):∃fs,P0.underlying s=some (.struct fs)/\fs[f]? =some a:=by
 grind[G1]
theorem Jh{s f:Nat} {p:PF} {xv:Value} {v:V} (w:World) (c:∀v,p.f t h=some v->fq Δ v xv) (a:(nE s p f).f t h=some v) :
  ∃r,(Instr.fieldAt s xv f).run P0 w = .ok r w/\fq Δ v r:=by
 unfold nE at a;split at a
 ·rename_i e g;obtain⟨fs,i,b⟩:=IH g;split at a
  ·rename_i m j;simp only[eE,ny]at a;obtain⟨x,k,l,off,rfl,n⟩:=a;cases n
   cases c _ k with
   | ptr _ _ d hd=>
     refine⟨_,by simp[Instr.fieldAt,fE i,b,Instr.sureAddr,fieldPlace,rT j,p7];rfl,?_⟩;have:=fq.ptr (Δ:=Δ) l (off+e.offset) d hd
     grind
  ·cases a
 ·cases a
theorem O0{s f:Nat} {p:PF} {xv:Value} {v:V} (w:World) (e:∀v,p.f t h=some v->fq Δ v xv) (a:(Db s p f).f t h=some v) :
  ∃r,(Instr.field s xv f).run P0 w = .ok r w/\fq Δ v r:=by
 unfold Db at a;split at a
 ·rename_i k g;obtain⟨fs,l,i⟩:=IH g;rw[eE]at a;obtain⟨x,j,b⟩:=a;have c:=e _ j;split at b
  ·cases c with
   | agg _ mG hc=>
     obtain⟨r,c,d⟩:=HQ w hc b
     simp_all[Instr.field,fE,asAgg]
  ·cases b
 ·cases a
theorem Jb{ty:Nat} {p q:PF} {xv u:Value} {v:V} (w:World) (y:∀v,p.f t h=some v->fq Δ v xv) (hq:∀v,q.f t h=some v->fq Δ v u)
  (a:(nY ty p q).f t h=some v):∃r,(Instr.indexAt ty xv u).run P0 w = .ok r w/\fq Δ v r:=by
 unfold nY at a;split at a
 ·rename_i e g;split at a
  ·rename_i m j;simp only[eE,DQ]at a;obtain⟨x,k,i,n,z,s,rfl,c⟩:=a;have A:=y _ k;cases hq _ n;split at c
   ·rename_i l off len;rw[fX]at c;obtain⟨b,c⟩:=c;cases c;rw[Lb]at b
    cases A with
    | slice _ _ _ cap o d hd C D B=>
      rcases B with⟨rfl,_,_⟩|⟨hc,_⟩
      ·refine⟨_,by simp[Instr.indexAt,asIntOf,fE g,rT j,b,p7];rfl,?_⟩
       have:=fq.ptr (Δ:=Δ) l (off+s*m) d hd
       grind
      ·omega
   ·cases c
  ·cases a
 ·rename_i len e g;split at a
  ·rename_i m j;simp only[eE,DQ,ny,fX]at a;obtain⟨x,k,i,n,z,s,rfl,l,off,rfl,b,c⟩:=a;cases c;rw[Lb]at b;cases hq _ n
   cases y _ k with
   | ptr _ _ d hd=>
     refine⟨_,by simp[Instr.indexAt,asIntOf,fE g,rT j,b,p7,Instr.sureAddr];rfl,?_⟩;have:=fq.ptr (Δ:=Δ) l (off+s*m) d hd
     grind
  ·cases a
 ·cases a
theorem PJ{ty:Nat} {p q:PF} {xv u:Value} {v:V} (w:World) (y:∀v,p.f t h=some v->fq Δ v xv) (hq:∀v,q.f t h=some v->fq Δ v u)
  (c:(Dh ty p q).f t h=some v):∃r,(Instr.index ty xv u).run P0 w = .ok r w/\fq Δ v r:=by
 unfold Dh at c;split at c
 ·rename_i len z A;split at c
  ·rename_i m C;simp only[eE,DQ]at c;obtain⟨x,k,i,l,B,g,rfl,a⟩:=c;have n:=y _ k;cases hq _ l;split at a
   ·rw[fX]at a;obtain⟨d,a⟩:=a;rw[Lb]at d
    cases n with
    | agg _ mG hc=>
      obtain⟨r,D,j⟩:=HQ w hc a;refine⟨r,?_,j⟩;have e:(Nat.mul g m)=g*m:=rfl
      simp_all[Instr.index,asIntOf,fE,rT]
   ·cases a
  ·cases c
 ·rename_i A;simp only[eE,DQ]at c;obtain⟨x,k,i,l,B,g,rfl,a⟩:=c;have n:=y _ k;cases hq _ l;split at a
  ·rw[eE]at a;obtain⟨b,o,a⟩:=a;cases a
   cases n with
   | str s=>
     rw[List.head?_drop]at o;have d:g<s.size:=(jw.1 o).1;have E:s[g]? =some b:=by
       rw[getElem?_pos s g d];have:=(jw.1 o).2;simp only[Array.getElem_toList]at this;rw[<-this];rfl
     exact⟨.int .u8 b.toNat,by simp_all[Instr.index,asIntOf,fE],.int _ _⟩
  ·cases a
 ·cases c
end
section
variable{Δ:Env}{h:Hp}{w:World}{n:Nat}{t:Tm}{a:Act}
inductive zN (Δ:Env):Option V->Option Value->Prop
 |none:zN Δ none none
 |some (v:V) (a:Value) (h:fq Δ v a):zN Δ (some v) (some a)
theorem GQ(c:WR Δ h w) (d:TR Δ n t a) {x:Option Operand} {v:Option V} (b:EK x t h=some v):zN Δ v (x.map a.eval):=by
 cases x with
 |none=>simp only[EK]at b;cases b;exact .none
 | some x=>
   simp only[EK,eE]at b;obtain⟨y,e,f⟩:=b;cases f;exact .some _ _ (jW c d e)
theorem Bw{d m:Nat} {lo:Option V} (a:hbound d lo=some m):(lo=none/\m=d)\/∃k,lo=some (.int k (.ofNat m)):=by
 unfold hbound at a;split at a
 ·simp_all
 ·simp_all
 ·cases a
theorem Ey{k:IntKind} {m y:Nat} {c:BoundsCode} (w:World) (a:m<=y):(Instr.sliceBound (.int k (.ofNat m)) y c).run P0 w = .ok m w:=by
 have b:(0:Int)<=Int.ofNat m/\(Int.ofNat m)<=(y:Int):=by simp_all
 simp_all[Instr.sliceBound,asIntOf,qu,EN,pJ,if_pos]
theorem Fo{UH:Bool} {len cap l u:Nat} {lo hi:Option V} {b c:Option Value} (w:World) (d:zN Δ lo b) (a:zN Δ hi c)
  (h:hbound 0 lo=some l) (g:hbound len hi=some u) (e:l<=u) (f:u<=cap):(Instr.sliceBounds UH len cap b c none).run P0 w = .ok (l,u,cap) w:=by
 rcases Bw h with⟨rfl,rfl⟩|⟨k,rfl⟩
 ·cases d;rcases Bw g with⟨rfl,rfl⟩|⟨k,rfl⟩
  ·cases a;rfl
  ·cases a with|some _ _ hr=>
   cases hr
   grind[Instr.sliceBounds,qu,EN,pJ,Ey]
 ·cases d with|some _ _ hr=>
  cases hr;rcases Bw g with⟨rfl,rfl⟩|⟨k,rfl⟩
  ·cases a
   grind[Instr.sliceBounds,qu,EN,pJ,Ey]
  ·cases a with|some _ _ hr=>
   cases hr;simp only[Instr.sliceBounds,qu,EN,pJ,Ey w f,Ey w e]
theorem Ns(P:WR Δ h w) {ty f size:Nat} {x v:V} {xv:Value} {lo hi:Option V} {k m:Option Value} (M:fq Δ x xv) (p:zN Δ lo k) (q:zN Δ hi m)
  (U:P0.underlying ty=some (.slice f)) (W:uR f=some (size+1)) (a:iZ (Nat.succ size) x lo hi h=some v) :
  ∃r,(Instr.sliceAt ty xv k m none).run P0 w = .ok r w/\fq Δ v r:=by
 unfold iZ at a;split at a
 ·rename_i lc off len;rw[jX]at a;obtain⟨e,sz,live,ro,cs,Q,a⟩:=a;simp only[fX,eE]at a;obtain⟨A,l,B,u,C,D,c,a⟩:=a;cases a;have g:=uW A;have s:=FY D
  cases M with
  | slice _ _ _ cap o d hd N E F=>
    obtain ⟨ob,t,R⟩:=P.obj lc d hd;rw[Q]at t;cases t;obtain⟨_,i,S,_,_⟩:=R;have G:u<=cap:=by
      rw[IY]at c;rcases c with c|c
      ·exact GP (FY c) E
      ·have O:off+u*(size+1)<=cs.length:=FY c
       rcases F with⟨_,j,_⟩|⟨hc,j⟩
       ·rw[i,<-g]at j
        have:u*(size+1)<=cap*(size+1):=by have e:Nat.succ size=size+1:=rfl;rw[e]at j;omega
        exact Nat.le_of_mul_le_mul_right this (by omega)
       grind
    have y:=Fo (UH:=true) (len:=len) (cap:=cap) w p q B C s G;have T:l<=cap:=by omega
    refine⟨.slice (if cap=l then some ⟨d.b,o,none⟩ else some ⟨d.b,o+l*(size+1),none⟩) (u-l) (cap-l),?_,?_⟩
    ·simp_all[Instr.sliceAt,qu,fE,pJ,Instr.slice,rT,p7]
    ·have z:cap*d.sz=l*d.sz+(cap-l)*d.sz:=by rw[<-Qd];congr 1;omega
     have e2:d.sz=size+1:=by rw[i,<-g]
     split
     ·rename_i H
      refine .slice lc (Nat.add off (Nat.mul l (Nat.succ size))) (Nat.sub u l) (cap-l) o d hd N ?_ (.inr ⟨by omega,?_⟩)
      ·simp_all
      grind
     ·rename_i H
      refine .slice lc (Nat.add off (Nat.mul l (Nat.succ size))) (Nat.sub u l) (cap-l) (o+l*(size+1)) d hd N ?_ (.inl ?_)
      ·simp_all
      ·show o+l*(size+1)=d.base+(off+l*(size+1))/\d.n<=off+l*(size+1)+(cap-l)*d.sz/\d.base+(off+l*(size+1))+(cap-l)*d.sz<=d.Pb
       rcases F with⟨F,j,I⟩|⟨hc,j⟩
       ·rw[e2]at z j I⊢
        omega
       ·omega
 ·simp only[fX,eE]at a;obtain⟨l,B,u,C,E,J,a⟩:=a;cases a;have K:=uW E;have L:=uW J;subst K;subst L;cases M;have y:=Fo (UH:=true) (len:=0) (cap:=0) w p q B C (jn _) (jn _);exact⟨.slice none 0 0,by simp_all[Instr.sliceAt,fE,Instr.slice,rT],.ed⟩
 ·cases a
theorem MW{ty:Nat} {x v:V} {xv:Value} {lo hi:Option V} {b c:Option Value} (w:World) (i:fq Δ x xv) (d:zN Δ lo b) (e:zN Δ hi c)
  (m:P0.underlying ty=some .string) (a:KG x lo hi=some v):∃r,(Instr.sliceAt ty xv b c none).run P0 w = .ok r w/\fq Δ v r:=by
 unfold KG at a;split at a
 ·simp only[fX,eE]at a;obtain⟨l,j,u,k,f,g,a⟩:=a;cases a
  cases i with
  | str s=>
    have h:=Fo (UH:=false) (len:=s.size) (cap:=s.size) w d e j k (FY f) (FY g);refine⟨.string (s.extract l u),by simp_all[Instr.sliceAt,fE,Instr.slice],?_⟩;have:=fq.str (Δ:=Δ) (s.extract l u)
    simp_all
 ·cases a
theorem Pk(c:WR Δ h w) (d:TR Δ n t a) {ty:Nat} {p:PF} {xv:Value} {lo hi:Option Operand} {v:V} (o:∀v,p.f t h=some v->fq Δ v xv)
  (b:(Fi ty p lo hi).f t h=some v):∃r,(Instr.sliceAt ty xv (lo.map a.eval) (hi.map a.eval) none).run P0 w = .ok r w/\fq Δ v r:=by
 unfold Fi at b;split at b
 ·rename_i e;simp only[eE]at b;obtain⟨x,g,l,i,u,j,k⟩:=b;exact MW w (o _ g) (GQ c d i) (GQ c d j) e k
 ·rename_i q e;split at b
  ·rename_i m s;simp only[eE]at b;obtain⟨x,g,l,i,u,j,k⟩:=b;exact Ns c (o _ g) (GQ c d i) (GQ c d j) e s k
  ·cases b
 ·cases b
theorem EV{ty:Nat} {x y:V} {xv c:Value} {b:Bool} (e:fq Δ x xv) (f:fq Δ y c) (a:Bu ty x y=some b) :
  (∀h w,(Op.equalIn (h+1) ty xv c).run P0 w = .ok b w)/\(∀d,P0.underlying ty=some d->Instr.sameNow d xv c=some b):=by
 unfold Bu at a;split at a
 ·rename_i g;split at a
  ·rw[fX]at a;obtain⟨i,a⟩:=a;cases a;obtain rfl:=vY i;cases e;cases f
   grind[run_equalIn_int,Instr.sameNow]
  ·cases a
 ·rename_i g;split at a
  ·cases a;cases e with|str xs=>cases f <;> grind[run_equalIn_string,ByteArray.toList_eq,Instr.sameNow,beq_toListBytes]
  ·cases a
 ·rename_i g;split at a
  ·cases a;cases e;cases f
   grind[run_equalIn_bool',Instr.sameNow]
  ·cases a
 ·cases a
theorem PB{ty:Nat} (a:Ai ty=true):GJ ty=some false:=by
 grind[Ai,GJ]
theorem FN{ty:Nat} {cs:List V} {mG:Array Value} {off:Nat} {v:V} (w:World) (a:Ai ty=true) (hc:fV Δ cs mG.toList) (b:DB cs off=some v) :
  ∃x,(part ty mG off).run P0 w = .ok x w/\fq Δ v x:=
 HQ w hc (by grind[LB,PB])
theorem Lh:∀{fs:List Field} {x y:List V} {xs ys:Array Value} {b:Bool},(∀f∈fs,Ai f.type=true/\f.name≠ "_")->fV Δ x xs.toList->fV Δ y ys.toList->
  Mz fs x y=some b->∀a w,(Op.eqFields (a+1) xs ys fs).run P0 w = .ok b w
 |[],x,y,xs,ys,b,_,_,_,hv,a,w=>by simp[Mz]at hv;subst hv;rfl
 | f::fs,x,y,xs,ys,b,hf,hx,hy,hv,a,w=>by
   simp only[Mz,eE]at hv;obtain⟨p,i,q,j,e,k,l⟩:=hv;obtain⟨c,d⟩:=hf f (by simp);obtain⟨o,m,g⟩:=FN w c hx i;obtain⟨r,hq,h⟩:=FN w c hy j;have n:=(EV g h k).1 a w;simp only[Op.eqFields];rw[if_pos d];simp only[qu,m,hq,n,pJ]
   cases e with
   |false=>simp_all
   |true=>exact Lh (by simp_all) hx hy l a w
theorem JI{ty:Nat} (hd:Cd ty=some none):Ai ty=true:=by
 grind[Cd,Ai]
theorem HL{ty:Nat} {fs:List Field} (hd:Cd ty=some (some fs)):∃a,P0.underlying ty=some (.struct a)/\a.toList=fs/\P0.stoodInHeld ty=false/\∀f∈fs,Ai f.type=true/\f.name≠ "_" :=by
 unfold Cd at hd;split at hd
 ·cases hd
 ·cases hd
 ·cases hd
 ·rename_i a b;split at hd
  ·grind
  ·cases hd
 ·cases hd
theorem QR{ty:Nat} {d:Option (List Field)} {x y:V} {xv i:Value} {b:Bool} (hd:Cd ty=some d) (f:fq Δ x xv) (g:fq Δ y i) (a:Iy ty d x y=some b) (w:World) :
  (Op.equal ty xv i).run P0 w = .ok b w:=by
 cases d with
 |none=>exact(EV f g a).1 9999 w
 | some fs=>
   obtain⟨h,j,c,k,l⟩:=HL hd;simp only[Iy]at a;split at a
   ·cases f with|agg _ xs f=>cases g with|agg _ ys g=>
    have e:P0.fieldsOf ty=h:=by simp[Program.fieldsOf,j]
    have:=run_equalIn_struct (P:=P0) w 9999 ty xs ys (by rw[e];exact j) k;rw[e,c]at this;exact this.trans (Lh l f g a 9998 w)
   ·cases a
def Te(Δ:Env):Option (Nat×V)->Option (Nat×Value)->Prop
 |none,none=>True
 |some (i,v),some (i',v')=>i=i'/\fq Δ v v'
 |_,_=>False
theorem CG{ty:Nat} {d:Option (List Field)} {k:V} {a:Value} (hd:Cd ty=some d) (c:fq Δ k a) (w:World):∀{es:List (V×V×Nat)} {iD:List MapEntry} {i:Nat} {r:Option (Nat×V)},
  nW Δ es iD->nB ty d k es i=some r->∃r',(Instr.findAsking ty a iD i).run P0 w = .ok r' w/\Te Δ r r'
 |_,_,i,r,.nil,hv=>by simp[nB]at hv;subst hv;exact⟨none,rfl,trivial⟩
 | _,_,i,r,.cons k' v n e es iD hk' hv' hb hs,hv=>by
   simp only[nB,eE]at hv;obtain⟨b,g,f⟩:=hv;have h:=QR hd c hk' g w;simp only[Instr.findAsking,qu,h,pJ]
   cases b with
   |true=>cases f;exact⟨some (i,e.val),rfl,rfl,hv'⟩
   |false=>exact CG hd c w hs f
theorem HJ{ty:Nat} {k:V} {a:Value} {ds:TypeDesc} (c:P0.underlying ty=some ds) (d:fq Δ k a):∀{es:List (V×V×Nat)} {iD:List MapEntry} {i:Nat} {r:Option (Nat×V)},
  nW Δ es iD->nB ty none k es i=some r->∃r',Instr.findNow ds a iD i=some r'/\Te Δ r r'
 |_,_,i,r,.nil,hv=>by simp[nB]at hv;subst hv;exact⟨none,rfl,trivial⟩
 | _,_,i,r,.cons k' v n e es iD hk' hv' hb hs,hv=>by
   simp only[nB,eE]at hv;obtain⟨b,g,f⟩:=hv;have h:=(EV d hk' g).2 ds c;simp only[Instr.findNow,h]
   cases b with
   |true=>cases f;exact⟨some (i,e.val),rfl,rfl,hv'⟩
   |false=>exact HJ c d hs f
theorem tA{ty:Nat} {d:Option (List Field)} {k:V} {f:Value} (hd:Cd ty=some d) (g:fq Δ k f) (w:World) {es:List (V×V×Nat)} {iD:List MapEntry} {r:Option (Nat×V)}
  (h:nW Δ es iD) (a:nB ty d k es 0=some r):∃r',(Instr.findKey ty f iD).run P0 w = .ok r' w/\Te Δ r r':=by
 cases d with
 | none=>
   have j:=JI hd;unfold Ai at j
   cases i:P0.underlying ty with
   |none=>simp_all
   | some ds=>
     obtain⟨r',l,m⟩:=HJ i g h a
     simp_all[Instr.findKey,fE]
 | some fs=>
   obtain⟨o,i,_,_,_⟩:=HL hd
   cases h with
   | nil=>
     simp[nB]at a;subst a
     exact⟨none,by simp_all[Instr.findKey,fE,Instr.findNow],trivial⟩
   | cons k' v n e es iD b c p q=>
     obtain⟨r',l,m⟩:=CG hd g w (.cons k' v n e es iD b c p q) a
     simp_all[Instr.findNow,Instr.sameNow,Instr.findKey,qu,fE,pJ]
theorem AY{em:Bool} {q:Nat} {cs:List V} {mG:Array Value} (w:World) (hq:0<q) (hc:fV Δ cs mG.toList):∀(fs:List Field),(∀f∈fs,Ai f.type=true/\f.name≠ "_")->
  (fs.all λf=>(DB cs f.offset).isSome)=true->
  (forIn fs PUnit.unit (λf _=>if f.name≠ "_" then do
    let x <-part f.type mG f.offset
    Instr.checkKey em q f.type x
    pure (ForInStep.yield PUnit.unit)
   else pure (ForInStep.yield PUnit.unit):Field->PUnit->Sem (ForInStep PUnit))).run P0 w = .ok PUnit.unit w
 |[],_,_=>rfl
 | f ::fs,hf,hh=>by
   obtain⟨m,rfl⟩:∃m,q=m+1:=by simp_all
   obtain ⟨a,b⟩:=hf f (by simp);simp only[Th,qU]at hh;obtain⟨v,c⟩:=Option.isSome_iff_exists.1 hh.1;obtain⟨x,e,g⟩:=FN w a hc c;have d:(Instr.checkKey em (m+1) f.type x).run P0 w = .ok () w:=by
     unfold Ai at a;split at a
     ·simp_all[Instr.checkKey,fE]
     ·simp_all[Instr.checkKey,fE]
     ·simp_all[Instr.checkKey,fE]
     ·cases a
   have h:=AY (em:=em) (q:=m+1) w hq hc fs (by simp_all) hh.2
   simp_all
theorem qI{ty:Nat} {d:Option (List Field)} {k:V} {e:Value} (em:Bool) (q:Nat) (hq:0<q) (w:World) (hd:Cd ty=some d) (f:fq Δ k e) (c:CQ d k=true) :
  (Instr.checkKey em (q+1) ty e).run P0 w = .ok () w:=by
 cases d with
 | none=>
   have a:=JI hd;unfold Ai at a;split at a
   ·simp_all[Instr.checkKey,fE]
   ·simp_all[Instr.checkKey,fE]
   ·simp_all[Instr.checkKey,fE]
   simp_all
 | some fs=>
   obtain⟨g,i,b,_,h⟩:=HL hd;simp only[CQ]at c;split at c
   ·cases f with
    | agg cs mG hc=>
      have:=AY (em:=em) (q:=q) w hq hc fs h c;rw[<-b,Array.forIn_toList]at this
      simp_all[Instr.checkKey,qu,fE,pJ]
   ·cases c
end
section
variable{Δ:Env}{h:Hp}{w:World}{n:Nat}{t:Tm}{a:Act}
theorem AX(e:WR Δ h w) {l:Nat} {d:D} (f:Δ l=some d) {es:List (V×V×Nat)} {c:Nat} (g:h.get l=some (.map es c)) :
  ∃iD,w.heap[d.b]? =some (.map iD c)/\nW Δ es iD.toList:=by
 obtain⟨o,a,i⟩:=e.obj l d f;rw[g]at a;cases a;obtain⟨_,_,_,iD,j,k,_⟩:=i;exact⟨iD,j,k⟩
theorem A3(b:WR Δ h w) {l:Nat} {d:D} (e:Δ l=some d) {es:List (V×V×Nat)} {c:Nat} (f:h.get l=some (.map es c)):rr es c:=by
 obtain⟨o,a,g⟩:=b.obj l d e;rw[f]at a;cases a;obtain⟨_,_,_,_,_,_,i⟩:=g;exact i
def ZP(k:IntKind)(ks:List Int)(es:List (V×V×Nat)):Prop:=(∀e∈es,e.2.1 = .bool true/\∃n∈ks,e.1 = .int k n)/\∀n∈ks,∃e∈es,e.1 = .int k n
theorem N8{k:IntKind}:∀{iD:List MapEntry},(∀e∈iD,e.val = .bool true/\∃n,e.key = .int k n)->
  ∃es,nW Δ es iD/\(∀e∈es,e.2.1 = .bool true/\∃e'∈iD,∃n,e.1 = .int k n/\e'.key = .int k n)/\∀e'∈iD,∀n,e'.key = .int k n->∃e∈es,e.1 = .int k n
 |[],_=>⟨[],.nil,by simp,by simp⟩
 | e' :: iD,hh=>by
   obtain⟨h,n,f⟩:=hh e' (by simp);obtain⟨es,i,j,l⟩:=N8 (iD:=iD) λe d=>hh e (by simp[d]);refine⟨(.int k n,.bool true,e'.born)::es,.cons _ _ _ _ _ _ (by rw[f];exact .int k n) (by rw[h];exact .bool true) rfl i,λe d=>?_,λe d m g=>?_⟩
   ·rcases AJ.1 d with rfl|d
    ·exact⟨rfl,e',by simp,n,rfl,f⟩
    ·obtain⟨a,x,b,c⟩:=j e d
     exact⟨a,x,by simp[b],c⟩
   ·rcases AJ.1 d with rfl|d
    ·rw[f]at g;cases g;exact⟨(.int k n,.bool true,e.born),by simp,rfl⟩
    ·obtain⟨x,a,b⟩:=l e d m g
     exact⟨x,by simp[a],b⟩
theorem L5(q:WR Δ h w) {l:Nat} {d:D} (r:Δ l=some d) {k:IntKind} {ks:List Int} (s:h.get l=some (.IP k ks)) :
  ∃es iD c,w.heap[d.b]? =some (.map iD c)/\nW Δ es iD.toList/\ZP k ks es:=by
 obtain⟨o,i,t⟩:=q.obj l d r;rw[s]at i;cases i;obtain⟨_,_,_,iD,c,u,g,v⟩:=t;obtain⟨es,x,j,y⟩:=N8 (Δ:=Δ) (k:=k) (iD:=iD.toList) λe f=>⟨(g e f).1,let⟨n,_,h⟩:=(g e f).2;⟨n,h⟩⟩
 refine⟨es,iD,c,u,x,λe f=>⟨(j e f).1,?_⟩,λn z=>?_⟩
 ·obtain⟨_,e',a,n,b,c⟩:=j e f;obtain⟨_,m,A,p⟩:=g e' a;rw[c]at p;cases p;exact⟨n,A,b⟩
 ·obtain⟨e',a,b⟩:=v n z;exact y e' a n b
theorem CT{ks:List Int}{n:Int}:AV ks n=true↔n∈ks:=by simp[AV]
theorem DZ{kt:Nat} (hi:zE kt=true) (k:IntKind) (n:Int):∀{es:List (V×V×Nat)} (i:Nat),(∀e∈es,e.2.1 = .bool true/\∃n,e.1 = .int k n)->
  (nB kt none (.int k n) es i=some none/\∀e∈es,e.1≠ .int k n)\/∃j e,nB kt none (.int k n) es i=some (some (i+j,.bool true))/\es[j]? =some e/\e.1 = .int k n
 |[],i,_=> .inl ⟨rfl,by simp⟩
 | e ::es,i,c=>by
   obtain ⟨h,m,d⟩:=c e (by simp);have a:nB kt none (.int k n) (e::es) i=if n=m then some (some (i,e.2.1)) else nB kt none (.int k n) es (i+1):=by
     show oB (Iy kt none (.int k n) e.1) _=_;have l:Iy kt none (.int k n) (.int k m)=some (n == m):=by
       unfold zE at hi;show Bu kt (.int k n) (.int k m)=some (n == m);unfold Bu;split at hi
       ·rename_i o
        rw[o];cases k <;> rfl
       ·cases hi
     rw[d,l];by_cases hn:n=m
     ·rw[if_pos hn,Jg.2 hn];rfl
     ·rw[if_neg hn,W5.2 hn];rfl
   by_cases hn:n=m
   ·subst hn
    rw[if_pos rfl,h]at a;exact .inr ⟨0,e,a,rfl,d⟩
   ·rw[if_neg hn]at a
    rcases DZ hi k n (es:=es) (i+1) λe b=>c e (by simp[b])with⟨f,g⟩|⟨j,e',f,g,p⟩
    ·refine .inl ⟨a.trans f,λe' b=>?_⟩
     rcases AJ.1 b with rfl|b
     ·rw[d];intro c;cases c;exact hn rfl
     ·exact g e' b
    ·exact .inr ⟨j+1,e',by rw[a,f];congr 3;omega,g,p⟩
theorem run_getObj_map{r:Nat}{es:Array MapEntry}{c:Nat}(a:w.heap[r]? =some (.map es c)):(getObj r).run P0 w = .ok (.map es c) w:=by grind[getObj,Sem.run]
theorem Mr{z:V} {a:Value} {ok:Bool} {r:Option (Nat×V)} {r':Option (Nat×Value)} (c:fq Δ z a) (b:Te Δ r r') :
  fq Δ (found z ok r) (match r' with
   |some (_,v)=>if ok then .tuple #[v,.bool true] else v
   |none=>if ok then .tuple #[a,.bool false] else a):=by
 cases r with
 | none=>cases r' with
   |none=>cases ok
          ·exact c
          ·exact .tuple _ _ (.cons _ _ _ _ c (.one (.bool false)))
   |some _=>cases b
 | some x=>cases r' with
   |none=>cases b
   | some e=>
     obtain⟨_,d⟩:=b;cases ok
     ·exact d
     ·exact .tuple _ _ (.cons _ _ _ _ d (.one (.bool true)))
theorem NJ(L : WR Δ h w) {M:Nat} {p q:PF} {ok:Bool} {N O:Value} {v:V} (S:∀v,p.f t h=some v->fq Δ v N) (hq:∀v,q.f t h=some v->fq Δ v O)
    (s:(BU M p q ok).f t h=some v):∃r,(Instr.lookup M N O ok).run P0 w = .ok r w/\fq Δ v r:=by
  unfold BU at s;split at s
  ·rename_i kt et P
   split at s
   ·rename_i d z hd T
    obtain⟨zv,U,A,_⟩:=wC T;simp only[eE,fX]at s;obtain⟨m,W,k,X,Q,a⟩:=s;have C:=S _ W;have i:=hq _ X;split at a
    ·cases a;cases C
     have B:=qI true 9999 (by omega) w hd i Q;have o:=tA hd i w nW.nil (r:=none) (by rfl);obtain⟨r',o,D⟩:=o;have E:r' = none:=by cases r' <;> first|rfl|cases D
     subst E;refine⟨_,?_,Mr (ok:=ok) (r:=none) (r':=none) (A Δ) trivial⟩;simp only[Instr.lookup,qu,fE P,pJ,EN]
     simp_all
    ·simp only [JR]at a
     cases C with
     | map l Y R =>
       have F:∃es iD c r,w.heap[Y.b]? =some (.map iD c)/\nW Δ es iD.toList/\nB kt d k es 0=some r/\v=found z ok r:=by
         rcases a with⟨es,c,G,a⟩|⟨kd,ks,G,a⟩
         ·rw[eE]at a
          obtain⟨r,o,a⟩:=a;cases a;obtain⟨iD,y,g⟩:=AX L R G;exact⟨es,iD,c,r,y,g,o,rfl⟩
         ·obtain ⟨es,iD,c,y,g,u,H⟩:=L5 L R G
          unfold GU at a;split at a
          ·rename_i k' n
           simp only[fX]at a;obtain⟨hi,I,a⟩:=a;obtain rfl:=vY I;cases a;rcases DZ hi k' n (es:=es) 0 λe g=>⟨(u e g).1,let⟨n,_,h⟩:=(u e g).2;⟨n,h⟩⟩ with⟨J,K⟩|⟨j,e,J,K,Z⟩
           ·have x:AV ks n=false:=by
              cases hx:AV ks n with
              |false=>rfl
              | true=>
                obtain⟨e,g,i⟩:=H n (CT.1 hx);exact absurd i (K e g)
            exact⟨es,iD,c,none,y,g,J,by rw[x]⟩
           ·have x:AV ks n=true:=by
              obtain⟨_,m,C,i⟩:=u e (xu K);rw[Z]at i;cases i;exact CT.2 C
            exact⟨es,iD,c,_,y,g,J,by rw[x];cases ok <;> rfl⟩
          ·cases a
       obtain⟨es,iD,c,r,y,g,o,rfl⟩:=F;obtain⟨r',o,D⟩:=tA hd i w g o;have B:=qI iD.isEmpty 9999 (by omega) w hd i Q;refine⟨_,?_,Mr (ok:=ok) (A Δ) D⟩;simp only[Instr.lookup,qu,fE P,pJ,EN,run_getObj_map y,B,o]
       grind[qu,pJ,EN]
    ·cases a
   ·cases s
  ·cases s
theorem Tn(z:WR Δ h w) {ty:Nat} {o:Array Nat} (u:o[0]? =some ty) {rt:Nat} {p:PF} {xv:Value} {v:V} (y:∀v,p.f t h=some v->fq Δ v xv)
  (i:(hlen ty p).f t h=some v):∃r,(Builtin.len_ o rt #[xv]).run P0 w = .ok r w/\fq Δ v r:=by
 unfold hlen at i;split at i
 ·rename_i q;rw[eE]at i;obtain⟨x,n,g⟩:=i;have j:=y _ n;split at g
  ·cases g
   cases j with
   |str s=>exact⟨goInt s.size,by simp_all[Builtin.len_,fE],.int _ _⟩
  ·cases g
 ·rename_i e q;rw[eE]at i;obtain⟨x,n,g⟩:=i;have j:=y _ n;split at g
  ·rename_i lc off m;cases g;cases j;exact⟨goInt m,by simp_all[Builtin.len_,fE],.int _ _⟩
  ·cases g;cases j;exact⟨goInt 0,by simp_all[Builtin.len_,fE],.int _ _⟩
  ·cases g
 ·rename_i m e q;rw[eE]at i;obtain⟨x,n,g⟩:=i;cases g;exact⟨goInt m,by simp_all[Builtin.len_,fE],.int _ _⟩
 ·rename_i k e q;rw[eE]at i;obtain⟨x,n,g⟩:=i;have j:=y _ n;split at g
  ·cases g;cases j;exact⟨goInt 0,by simp_all[Builtin.len_,fE],.int _ _⟩
  ·rw[sj]at g;obtain⟨es,c,A,g⟩:=g;cases g
   cases j with
   | map l d B=>
     obtain ⟨iD,C,D⟩:=AX z B A;have hlen:es.length=iD.size:=by
       have:∀{a:List (V×V×Nat)} {b:List MapEntry},nW Δ a b->a.length=b.length:=λh=>by induction h <;> simp_all
       simpa using this D
     refine⟨goInt iD.size,by simp[Builtin.len_,u,fE q,run_getObj_map C],?_⟩;rw[hlen];exact .int _ _
  ·cases g
 ·cases i
theorem J3{b:Bool} (w:World):∀{l:List V} {c:List Value} {x:V} {a:Value} {v:V},fq Δ x a->fV Δ l c->K1 b x l=some v->
  ∃r,(c.foldlM (if b then Builtin.max2 else Builtin.min2) a).run P0 w = .ok r w/\fq Δ v r
 |[],_,x,a,v,hx,hl,hv=>by simp[K1]at hv;subst hv;cases hl;simp_all
 | y ::l,_,x,a,v,hx,hl,hv=>by
   cases hl with
   | cons _ h _ c e f=>
     unfold K1 at hv;split at hv
     ·simp_all
     ·rename_i k p k' q r e1
      cases e1;cases hx;cases e;obtain⟨d,i,g⟩:=J3 w (.int k _) f hv;refine⟨d,?_,g⟩;rw[List.foldlM_cons];simp only[qu];cases b
      ·simp_all[LK,if_false,Builtin.min2,EN,pJ]
      simp_all[if_true,Builtin.max2,EN,pJ]
     ·cases hv
theorem IB{ty:Nat} (hi:isIface ty=some false):∃d,P0.underlying ty=some d/\∀m,d≠ .interface m:=by
 grind[isIface]
theorem Nq{p:PF} {a xT:Nat} {ok:Bool} {xv:Value} {v:V} (w:World) (n:∀v,p.f t h=some v->fq Δ v xv)
  (c:(B0 p a ok).f t h=some v):∃r,(Instr.typeAssert xv xT a ok).run P0 w = .ok r w/\fq Δ v r:=by
 unfold B0 at c;split at c
 ·rename_i z hi o;obtain⟨m,q,g,_⟩:=wC o;obtain⟨d,i,hd⟩:=IB hi;rw[eE]at c;obtain⟨x,s,b⟩:=c;have j:=n _ s;split at b
  ·rename_i u y;cases b
   cases j with
   | iface _ _ k l=>
     rw[Oq];by_cases e:u=a
     ·have e':Nat.beq u a=true:=by rw[e];exact Qe _
      rw[if_pos e'];refine⟨.tuple #[k,.bool true],?_,.tuple _ _ (.cons _ _ _ _ l (.one (.bool true)))⟩;simp only[Instr.typeAssert,qu,fE i,pJ]
      simp_all
     ·have e':¬Nat.beq u a=true:=by simp_all
      rw[if_neg e'];refine⟨.tuple #[m,.bool false],?_,.tuple _ _ (.cons _ _ _ _ (g Δ) (.one (.bool false)))⟩;simp only[Instr.typeAssert,qu,fE i,pJ]
      simp_all
  ·rename_i u y;rw[fX]at b;obtain⟨e,b⟩:=b;cases b;have e:=uW e
   cases j with
   | iface _ _ k l=>
     refine⟨k,?_,l⟩;simp only[Instr.typeAssert,qu,fE i,pJ]
     simp_all
  ·cases b;cases j;refine⟨.tuple #[m,.bool false],?_,.tuple _ _ (.cons _ _ _ _ (g Δ) (.one (.bool false)))⟩;simp only[Instr.typeAssert,qu,fE i,pJ]
   simp_all
  ·cases b
 ·cases c
theorem Q5{c p q:PF} {d pv e:Value} {v:V} (w:World) (hc:∀v,c.f t h=some v->fq Δ v d) (k:∀v,p.f t h=some v->fq Δ v pv) (hq:∀v,q.f t h=some v->fq Δ v e)
  (a:(Gz c p q).f t h=some v):∃r,(do pure (Next.value (if <-asBool d then pv else e)):Sem Next).run P0 w = .ok (.value r) w/\fq Δ v r:=by
 unfold Gz at a;simp only[eE]at a;obtain⟨x,i,g⟩:=a;have j:=hc _ i;split at g
 ·rename_i b;cases j;cases b
  ·simp_all[asBool]
  simp_all[asBool]
 ·cases g
theorem KU{p:PF} {x:Operand} {v:V} (w:World) (i:∀v,p.f t h=some v->fq Δ v (a.eval x)) (c:(wb p).f t h=some v) {dst ty pos af gd} :
  (execOp a.eval {dst:=dst,op:= .nilCheck x,type:=ty,pos:=pos,after:=af,guard:=gd}).run P0 w = .ok (.value (a.eval x)) w/\fq Δ v (a.eval x):=by
 unfold wb at c;rw[eE]at c;obtain⟨y,g,b⟩:=c;have e:=i _ g;simp only[execOp];generalize a.eval x=xv at e⊢;split at b
 ·cases b;cases e with|ptr _ _ d hd=>exact⟨rfl,.ptr _ _ d hd⟩
 ·cases b;cases e with|func _ _ _ p' q' g b=>exact⟨rfl,.func _ _ _ p' q' g b⟩
 ·cases b;cases e with|iface _ _ v' c=>exact⟨rfl,.iface _ _ v' c⟩
 ·cases b
theorem LL{p:PF} {i:Nat} {xv:Value} {v:V} (w:World) (d:∀v,p.f t h=some v->fq Δ v xv) (a:(Br p i).f t h=some v) :
  ∃r,(Instr.extract xv i).run P0 w = .ok r w/\fq Δ v r:=by
 unfold Br at a;rw[eE]at a;obtain⟨y,e,b⟩:=a;have g:=d _ e;split at b
 ·cases g with
  | tuple vs j c=>
    obtain⟨x,k,l⟩:=c.get _ _ (Ho b)
    simp_all[Instr.extract]
 ·cases b
theorem NG{cs:List V} {xs:List Value} {s:List UInt8} (e:fV Δ cs xs) (f:bytesOf cs=some s):xs=(s.map λb=>(b.toNat:Int)).map (Value.int .u8):=by
 induction cs generalizing xs s with
 |nil=>cases e;grind[bytesOf]
 | cons c cs h=>
   simp only[bytesOf,eE]at f;obtain⟨b,a,l,i,j⟩:=f;cases j
   cases e with
   | cons _ x _ xs k d=>
     rw[h d i];unfold byteOf at a;split at a
     ·rename_i m
      rw[fX]at a;obtain⟨g,n⟩:=a;cases n;cases k;have o:m<256:=by rw[Lb]at g;exact g
      have:(UInt8.ofNat m).toNat=m:=by simp;omega
      grind
     ·cases a
theorem NI(l:List UInt8):∀(r:ByteArray),((l.map λb=>(b.toNat:Int)).foldl (λr n=>r.push (UInt8.ofNat n.toNat)) r).data.toList=r.data.toList++l:=by
 induction l <;> simp_all
theorem Hz{src dst e:Nat} (i:P0.underlying src=some (.slice e)) (hd:P0.underlying dst=some .string) (j:P0.underlying e=some (.int .u8)) {ad:Option Addr} {len cap:Nat} {cs:List V} {s:List UInt8}
  (d:bytesOf cs=some s) (hc:∀b,ad=some b->∃xs,(loadCells b len).run P0 w = .ok (Array.mk xs) w/\fV Δ cs xs) (f:ad=none->s=[]) :
  ∃x,(convert src dst (.slice ad len cap)).run P0 w = .ok x w/\fq Δ (.str s) x:=by
 cases ad with
 | none=>
   cases f rfl
   exact⟨.string .empty,by simp_all[convert,fE,Conv.bytesToString],.str ByteArray.empty⟩
 | some b=>
   obtain⟨xs,c,g⟩:=hc b rfl;rw[NG g d]at c;have h:=run_bytesToString (P:=P0) w b len cap _ c;generalize hB:(List.foldl (λr n=>ByteArray.push r (UInt8.ofNat n.toNat)) ByteArray.empty (List.map (λb=>(b.toNat:Int)) s))=B at h;have a:B.data.toList=s:=by rw[<-hB,NI];rfl
   refine⟨.string B,?_,by rw[<-a];exact .str B⟩
   simp_all[convert,qu,fE,pJ]
theorem qW(c:WR Δ h w) {l:Nat} {d:D} (e:Δ l=some d) {off m:Nat} {cs:List V} (f:Cs h l off m=some cs) :
  ∃xs,(loadCells ⟨d.b,d.base+off,none⟩ m).run P0 w = .ok (Array.mk xs) w/\fV Δ cs xs:=by
 obtain⟨a,i,g⟩:=EA c e f;exact⟨a.toList,by omega,g⟩
theorem L0{l off m:Nat} {cs:List V} (a:Cs h l off m=some cs):cs.length=m:=by
 grind[Cs,jX,fX,sub_eq]
theorem OX(D:WR Δ h w) {src dst e:Nat} {p:PF} {xv:Value} {v:V} (g:P0.underlying src=some (.slice e)) (hd:P0.underlying dst=some .string) (m:∀v,p.f t h=some v->fq Δ v xv) (a:(Gp src dst p).f t h=some v) :
  ∃r,(convert src dst xv).run P0 w = .ok r w/\fq Δ v r:=by
 unfold Gp at a;rw[g,hd]at a;simp only at a;split at a
 ·rename_i j;simp only[eE]at a;obtain⟨x,n,c⟩:=a;have k:=m _ n;split at c
  ·cases c;cases k;exact Hz (Δ:=Δ) (w:=w) (src:=src) (dst:=dst) (e:=e) (ad:=none) (len:=0) (cap:=0) (cs:=[]) (s:=[]) g hd j rfl (by simp_all) (by simp_all)
  ·rename_i l off len;simp only[eE]at c;obtain⟨cs,q,s,u,y⟩:=c;cases y
   cases k with
   | slice _ _ _ cap o d z E A B=>
     have C:∃xs,(loadCells ⟨d.b,o,none⟩ len).run P0 w = .ok (Array.mk xs) w/\fV Δ cs xs:=by
       rcases B with⟨rfl,_,_⟩|⟨rfl,_⟩
       ·grind[qW]
       ·have:len=0:=by omega
        subst this;have i:cs=[]:=Wm (L0 q);subst i;exact⟨[],by rfl,.nil⟩
     exact Hz (Δ:=Δ) (w:=w) (src:=src) (dst:=dst) (e:=e) (ad:=some ⟨d.b,o,none⟩) (len:=len) (cap:=cap) g hd j u (by simp_all) (by simp_all)
  ·cases c
 ·cases a
theorem TU(J:WR Δ h w) (H:TR Δ n t a) {o:Oper} {v:V} (g:(il o).f t h=some v):∃x,(execOp a.eval o).run P0 w = .ok (.value x) w/\fq Δ v x:=by
 obtain⟨dst,op,ty,pos,af,gd⟩:=o;have A:∀(x:Operand) v,(pI x).f t h=some v->fq Δ v (a.eval x):=by grind[jW]
 cases op with
 |move x=>exact⟨_,rfl,A x v g⟩
 |assign x=>exact⟨_,rfl,A x v g⟩
 |pick c p q=>exact Q5 w (A c) (A p) (A q) g
 | load ty W=>
   obtain⟨x,D,B⟩:=Ht J (A W) g
   exact⟨x,kY D,B⟩
 | nilCheck x=>
   obtain⟨D,B⟩:=KU w (A x) g (dst:=dst) (ty:=ty) (pos:=pos) (af:=af) (gd:=gd)
   simp_all
 | binOp op Z x y yt=>
   simp only[il,eE]at g;obtain⟨p,D,q,B,K⟩:=g;obtain⟨r,u,z⟩:=Ta (X:=x) (Y:=y) w (A x _ D) (A y _ B) K
   exact⟨r,kY u,z⟩
 | unOp op Z x=>
   simp only[il,eE]at g;obtain⟨p,D,B⟩:=g;obtain⟨r,u,z⟩:=VX w (A x _ D) B
   exact⟨r,kY u,z⟩
 | convert src d x=>
   have L:∃r,(convert src d (a.eval x)).run P0 w = .ok r w/\fq Δ v r:=by
     by_cases hsl:∃e,P0.underlying src=some (.slice e)/\P0.underlying d=some .string
     ·obtain⟨e,D,B⟩:=hsl
      exact OX J D B (A x) g
     ·exact QM w hsl (A x) g
   obtain⟨r,u,z⟩:=L
   exact⟨r,kY u,z⟩
 | build ty N=>
   obtain⟨r,u,z⟩:=OZ H g;refine⟨r,kY ?_,z⟩;rw[<-u];congr 2
   grind
 | makeFunc fn first U=>
   cases fn with
   | func f=>
     simp only[il,eE]at g;obtain⟨p,D,q,B,K⟩:=g;cases K;refine⟨_,rfl,.func f p q _ _ ?_ ?_⟩
     ·have:=xW H D;simp_all
     ·have:=xW H B;simp_all
   |_=>cases g
 | slice ty x lo hi mx=>
   cases mx with
   | none=>
     obtain⟨r,u,z⟩:=Pk J H (A x) g
     exact⟨r,kY u,z⟩
   |some _=>cases g
 | fieldAddr s x f=>
   obtain⟨r,u,z⟩:=Jh w (A x) g
   exact⟨r,kY u,z⟩
 | field s x f=>
   obtain⟨r,u,z⟩:=O0 w (A x) g
   exact⟨r,kY u,z⟩
 | indexAddr ty x i=>
   obtain⟨r,u,z⟩:=Jb w (A x) (A i) g
   exact⟨r,kY u,z⟩
 | index ty x i=>
   obtain⟨r,u,z⟩:=PJ w (A x) (A i) g
   exact⟨r,kY u,z⟩
 | lookup ty m k ok=>
   obtain⟨r,u,z⟩:=NJ J (A m) (A k) g
   exact⟨r,kY u,z⟩
 | extract x i=>
   obtain⟨r,u,z⟩:=LL w (A x) g
   exact⟨r,kY u,z⟩
 | makeInterface ty x=>
   simp only[il]at g;split at g
   ·rename_i hi
    obtain⟨d,hu,hd⟩:=IB hi;simp only[eE]at g;obtain⟨p,D,B⟩:=g;cases B;refine⟨.iface ty (a.eval x),kY ?_,.iface _ _ _ (by simp_all)⟩;simp only[Instr.makeInterface,qu,fE hu,pJ];rfl
   ·cases g
 | typeAssert x xT I ok=>
   obtain⟨r,u,z⟩:=Nq (xT:=xT) w (A x) g
   exact⟨r,kY u,z⟩
 | call c =>
   obtain⟨F,args,E⟩:=c;simp only[il]at g
   cases F with
   | builtin b=>
     cases b <;> try (cases g;done)
     case len=>
       simp only at g;split at g
       ·rename_i x O aa j M
        have P:E[0]? =some O:=by rw[<-SI,M];rfl
        obtain⟨r,u,z⟩:=Tn J (rt:=ty) P (A x) g;refine⟨r,?_,z⟩;have Q:args.map a.eval = #[a.eval x]:=by apply Array.ext';simp[j]
        simp only[execOp,resolve,Q];exact kY u
       ·cases g
     case min=>
       simp only[eE]at g;obtain⟨l,D,B⟩:=g;split at B
       ·rename_i x r
        have C:=xW H D
        cases j:args.toList.map a.eval with
        |nil=>rw[j]at C;cases C
        | cons R r'=>
          rw[j]at C
          cases C with
          | cons _ _ _ _ S T=>
            obtain⟨G,K,u⟩:=J3 w S T B;refine⟨G,?_,u⟩;have Q:(args.map a.eval).toList=R::r':=by simpa using j
            simp only[execOp,resolve];refine kY ?_
            grind[Builtin.min_]
       ·cases B
     case max=>
       simp only[eE]at g;obtain⟨l,D,B⟩:=g;split at B
       ·rename_i x r
        have C:=xW H D
        cases j:args.toList.map a.eval with
        |nil=>rw[j]at C;cases C
        | cons R r'=>
          rw[j]at C
          cases C with
          | cons _ _ _ _ S T=>
            obtain⟨G,K,u⟩:=J3 w S T B;refine⟨G,?_,u⟩;have Q:(args.map a.eval).toList=R::r':=by simpa using j
            simp only[execOp,resolve];refine kY ?_
            grind[Builtin.max_]
       ·cases B
   |value f=>cases g
   |invoke r m=>cases g
 |_=>cases g
end
def RW(Δ:Env)(b:Nat):Prop:=∃l d,Δ l=some d/\d.ro=false/\d.b=b
structure FR (Δ a:Env) (w w':World):Prop where
 le:Δ.le a
 size:w.heap.size<=w'.heap.size
 os:w'.os=w.os
 tape:w'.tape=w.tape
 output:w'.output=w.output
 eD:∀b,b<w.heap.size->¬RW Δ b->w'.heap[b]? =w.heap[b]?
 new:∀l d,a l=some d->Δ l=some d\/w.heap.size<=d.b\/RW Δ d.b
theorem FR.refl(Δ:Env)(w:World):FR Δ Δ w w:=⟨Env.le_refl _,jn _,rfl,rfl,rfl,by simp_all,by simp_all⟩
theorem FR.trans{Δ m c:Env} {w w' e:World} (h:FR Δ m w w') (h':FR m c w' e):FR Δ c w e where
 le:=Env.le_trans h.le h'.le
 size:=GP h.size h'.size
 os:=h'.os.trans h.os
 tape:=h'.tape.trans h.tape
 output:=h'.output.trans h.output
 eD:=λb n o=>by
  rw[h'.eD b (zr n h.size) ?_,h.eD b n o];rintro⟨l,d,f,r,rfl⟩;rcases h.new l d f with a|a|a
  ·exact o ⟨l,d,a,r,rfl⟩
  ·omega
  simp_all
 new:=λl d f=>by
  rcases h'.new l d f with a|a|⟨p,q,g,i,j⟩
  ·exact h.new l d a
  ·exact .inr (.inl (GP h.size a))
  ·rcases h.new p q g with k|k|k
   ·exact .inr (.inr ⟨p,q,k,i,j⟩)
   ·omega
   simp_all
theorem rE(h:Hp) (o:O) (l:Nat):(h.new o).get l=if h.next=l then some o else h.get l:=by
 rw[Hp.get_eq,Hp.get_eq];unfold Hp.new;simp only[Tr.DI]
 grind
theorem jd{h:Hp} {l:Nat} (o:O) (m:Nat) (a:l<h.next):(h.put l o).get m=if l=m then some o else h.get m:=by
 rw[Hp.get_eq,Hp.get_eq];unfold Hp.put;simp only[Tr.DI]
 grind
def Env.set(Δ:Env)(l:Nat)(d:D):Env:=λm=>if m=l then some d else Δ m
theorem Env.uV{Δ:Env} {l:Nat} {d:D} (h:Δ l=none):Δ.le (Δ.set l d):=λm e a=>by
 unfold Env.set
 grind
theorem Env.rS(Δ:Env)(l:Nat)(d:D):(Δ.set l d) l=some d:=if_pos rfl
theorem Env.kr{Δ:Env} {l m:Nat} {d e:D} (h:(Δ.set l d) m=some e):(m=l/\e=d)\/(m≠l/\Δ m=some e):=by
 unfold Env.set at h
 grind
theorem WR.BP{Δ:Env} {h:Hp} {w:World} (a:WR Δ h w):Δ h.next=none:=by
 cases hd:Δ h.next with
 |none=>rfl
 |some d=>exact absurd (a.fresh _ _ hd) (VN _)
theorem heap_alloc(w:World) (ob:Obj) (b:Nat):(w.alloc ob).heap[b]? =if b=w.heap.size then some ob else w.heap[b]?:=by
 grind[World.alloc]
theorem yY.step{Δ a:Env} {w w':World} (h:yY Δ w) (i:∀b,b<w.heap.size->¬RW Δ b->w'.heap[b]? =w.heap[b]?) (j:∀l d,a l=some d->d.ro=false->Δ l=some d\/w.heap.size<=d.b\/RW Δ d.b):yY a w':=by
 intro g c f;obtain⟨⟨e,fr,k⟩,m⟩:=h g c f
 grind[QX,RW]
theorem WR.lay{Δ:Env} {h:Hp} {w:World} (c:WR Δ h w) {l:Nat} {o:O} {d:D} {ob:Obj} (v:Δ l=none) (y:l<h.next) (z:h.get l=some o) (A:d.b=w.heap.size)
  (B:Mw (Δ.set l d) d o (some ob)):WR (Δ.set l d) h (w.alloc ob) where
 fresh:=λm e a=>by
  rcases Env.kr a with⟨rfl,rfl⟩|⟨_,a⟩
  ·exact y
  ·exact c.fresh m e a
 wh:=λm e a=>by
  simp only[World.size_alloc];rcases Env.kr a with⟨rfl,rfl⟩|⟨_,a⟩
  ·omega
  ·have:=c.wh m e a;omega
 obj:=λm e a=>by
  rcases Env.kr a with⟨rfl,rfl⟩|⟨_,a⟩
  ·refine⟨o,z,?_⟩;rw[heap_alloc,if_pos A];exact B
  ·obtain⟨C,f,j⟩:=c.obj m e a;refine⟨C,f,?_⟩;rw[heap_alloc,if_neg (Li (c.wh m e a))];exact j.mono (Env.uV v)
 apart:=λm x e e' p E a k pe n q r i s=>by
  rcases Env.kr a with⟨f,j⟩|⟨_,f⟩ <;> rcases Env.kr k with⟨t,F⟩|⟨_,t⟩
  ·omega
  ·have:=c.wh x e' t;grind
  ·have:=c.wh m e f;grind
  ·exact c.apart m x e e' p E f t pe n q r i s
 Cg:=λg p u n=>by
  obtain⟨e,f,j⟩:=c.Cg g p u n;exact⟨e,Env.uV v _ _ f,j⟩
 ur:=c.ur
 MU:=c.MU.step (by simp_all[heap_alloc,if_neg,Li]) λm e a _=>by
  rcases Env.kr a with⟨rfl,rfl⟩|⟨_,a⟩
  ·omega
  simp_all
theorem WR.more{Δ:Env} {h:Hp} {w:World} (a:WR Δ h w) (o:O):WR Δ (h.new o) w where
 fresh:=λl d i=>UT (a.fresh l d i)
 wh:=a.wh
 obj:=λl d i=>by
  obtain⟨n,q,r⟩:=a.obj l d i;refine⟨n,?_,r⟩;rw[rE,if_neg (Nat.ne_of_gt (a.fresh l d i))];exact q
 apart:=λm s e e' p t k b pe c f=>by
  rw[rE,if_neg (Nat.ne_of_gt (a.fresh _ _ k))]at c;rw[rE,if_neg (Nat.ne_of_gt (a.fresh _ _ b))]at f;exact a.apart m s e e' p t k b pe c f
 Cg:=λg p j c=>by
  rw[rE,if_neg (by have:=a.ur;omega)]at c;exact a.Cg g p j c
 ur:=SC a.ur
 MU:=a.MU
theorem FR.lay{Δ:Env} {w:World} {l:Nat} {d:D} {ob:Obj} (c:Δ l=none) (f:d.b=w.heap.size):FR Δ (Δ.set l d) w (w.alloc ob) where
 le:=Env.uV c
 size:=by simp
 os:=rfl
 tape:=rfl
 output:=rfl
 eD:=by simp_all[heap_alloc,if_neg,Li]
 new:=λm e a=>by
  rcases Env.kr a with⟨rfl,rfl⟩|⟨_,a⟩
  ·omega
  simp_all
def Made(Δ:Env) (ob:O) (mk:Nat->V) (a:Obj) (c:Nat->Value):Prop:=∀l b,Δ l=none->∃d,d.b=b/\Mw (Δ.set l d) d ob (some a)/\fq (Δ.set l d) (mk l) (c b)
theorem xV{Δ:Env} {d:D} {cs:List V} {c:Array Value} {e:Nat} (a:c.size=d.Pb) (b:d.base=0) (f:cs.length<=d.Pb) (hc:∀(i:Nat) (v:V),cs[i]? =some v->∃x,c[i]? =some x/\fq Δ v x) :
  B1 Δ d cs (some (.cells c e (0,0))):=
 ⟨c,e,(0,0),rfl,a,λ_=> .inl rfl,by omega,λi v hi=>by rw[b,EM];exact hc i v hi⟩
theorem Ol{Δ:Env} {e:Nat} {v:V} {xv:Value} {ob:O} {mk:Nat->V} (f:fq Δ v xv) (a:sO e v=some (ob,mk)) :
  Made Δ ob mk (.cells xv.cells e) (λb=> .pointer (some ⟨b,0,none⟩)):=by
 unfold sO at a;rw[fX]at a;obtain⟨_,a⟩:=a;cases a;intro l b h;have hc:=f.cells;have c:=Env.uV (d:=⟨b,0,1,v.cells.length,xv.cells.size,false,0⟩) h;refine⟨⟨b,0,1,v.cells.length,xv.cells.size,false,0⟩,rfl,⟨rfl,rfl,rfl,rfl,λ_=>?_⟩,?_⟩
 ·refine xV rfl rfl (VU (by first|(simpa using hc.length)|(simpa using g.length))) λi u hi=>?_;obtain⟨x,f,g⟩:=hc.get i u hi;exact⟨x,by simp_all,g.mono c⟩
 ·exact fq.ptr l 0 ⟨b,0,1,v.cells.length,xv.cells.size,false,0⟩ (Env.rS _ _ _)
theorem BY{a size lV:Nat} {z:V} (h:elemOf a=some (size,lV,z)) :
  uR a=some size/\T4 a=some lV/\zeroV a=some z/\0<size/\z.cells.length=size/\gh z.cells=true:=by
 grind[elemOf,eE,fX,Lb,uW]
theorem wy{t e:Nat} (h:BM t=some e):P0.underlying t=some (.slice e):=by
 grind[BM]
theorem L6(z:List V):∀(m i:Nat),(yy m z)[i]? =if i<m*z.length then z[i % z.length]? else none
 |0,i=>by simp[yy]
 | m + 1,i=>by
   simp only[yy,List.getElem?_append];by_cases a:i<z.length
   ·rw[if_pos a,if_pos (by grind),Nat.mod_eq_of_lt a]
   ·rw[if_neg a,L6 z m]
    have e:i % z.length=(i-z.length) % z.length:=by
      rw[Nat.mod_eq_sub_mod (by omega)]
    grind
theorem xR(z:List V):∀m,(yy m z).length=m*z.length
 |0=>by simp[yy]
 |m+1=>by simp[yy,xR z m,Qd,Nat.add_comm]
theorem L7{Δ:Env} {z:List V} {a:Array Value} (b:fV Δ z a.toList) (h0:0<z.length) (m:Nat):fV Δ (yy m z) ((Array.range (m*z.length)).map λi=>a[i % a.size]!).toList:=by
 have hlen:=b.length;simp only[Qf]at hlen;refine fV.KS (by simp[xR]) λi v hi=>?_;rw[L6]at hi;by_cases h:i<m*z.length
 ·rw[if_pos h]at hi;obtain⟨x,c,d⟩:=b.get _ _ hi
  grind
 simp_all
section
variable{Δ:Env}{h:Hp}{w:World}{n:Nat}{t:Tm}{a:Act}
theorem Lo(Z : TR Δ n t a) {o:Oper} {ob:O} {mk:Nat->V} (g:(nA o).f t=some (ob,mk)) :
    ∃mo mv,(∀w,(execOp a.eval o).run P0 w = .ok (.value (mv w.heap.size)) (w.alloc mo))/\Made Δ ob mk mo mv:=by
  obtain⟨dst,op,ty,pos,af,gd⟩:=o
  cases op with
  | alloc e=>
    simp only[nA]at g;split at g
    ·rename_i z S
     obtain⟨A,J,D,_⟩:=wC S;refine⟨_,_,λw=>kY (x:= .pointer (some ⟨w.heap.size,0,none⟩)) ?_,Ol (D Δ) g⟩
     simp_all[Instr.alloc,newVar,newRow]
    ·cases g
  | box e x=>
    simp only[nA,eE]at g;obtain⟨v,T,R⟩:=g;refine⟨_,_,λw=>kY (x:= .pointer (some ⟨w.heap.size,0,none⟩)) ?_,Ol (AQ Z T) R⟩
    rfl
  | buildSlice U len j=>
    simp only[nA]at g;split at g
    ·rename_i y K
     have hu:=wy K;split at g
     ·rename_i size lV z he
      obtain⟨hs,_,S,W,F,_⟩:=BY he;obtain⟨A,J,D,_⟩:=wC S;split at g
      ·rename_i E
       have aj:len*size<=16777216:=FY E;simp only[Bc,eE,fX]at g;obtain⟨ps,T,cs,R,_,L⟩:=g;cases L;have G:=(D Δ).cells;have B:=L7 G (by omega) len;have ak:A.cells.size=size:=by have:=G.length;simp only[Qf]at this;omega
       have s:fV Δ (yy len z.cells) ((Array.range (len*size)).map λi=>(if len*size=0 then(#[]:Array Value) else A.cells)[i % (if len*size=0 then(#[]:Array Value) else A.cells).size]!).toList:=by
         by_cases h0:len*size=0
         ·simp_all
         ·simp_all
       obtain⟨mG,hf,hr⟩:=G5 (zU Z T) s R;refine⟨.cells mG y,λb=> .slice (some ⟨b,0,none⟩) len len,λw=>kY (w:=w) (x:= .slice (some ⟨w.heap.size,0,none⟩) len len) ?_,?_⟩
       ·have C:(j.map λ(x:Nat×Operand)=>(x.1,a.eval x.2)).toList=j.toList.map λx=>(x.1,a.eval x.2):=by simp
        have aa:¬(len*size>2 ^ 24):=by omega
        have X:(if len*size=0 then(pure #[]:Sem (Array Value)) else do pure (<-zeroValue y).cells).run P0 w = .ok (if len*size=0 then(#[]:Array Value) else A.cells) w:=by
          by_cases h0:len*size=0
          ·simp_all
          ·simp_all
        simp only[Instr.buildSlice,qu,fE hu,rT hs,pJ,Sem.run_ite];rw[if_neg aa];simp only[EN,pJ,qu];clear s X;by_cases h0:len*size=0
        ·simp only[if_pos h0]at hf⊢
         rw[C];have M:Instr.fill (λi=>some (i*size,size)) (Array.map (λx=>(#[]:Array Value)[x % (#[]:Array Value).size]!) (Array.range (len*size))) (List.map (λx=>(x.1,a.eval x.2)) j.toList)=some mG:=hf;rw[M];rfl
        ·simp only[if_neg h0,J,pJ]at hf⊢
         rw[C];have M:Instr.fill (λi=>some (i*size,size)) (Array.map (λx=>A.cells[x % A.cells.size]!) (Array.range (len*size))) (List.map (λx=>(x.1,a.eval x.2)) j.toList)=some mG:=hf;rw[M];rfl
       ·intro l b hn
        have N:=hr.length;simp only[Qf]at N;have al:cs.length=len*size:=by
          have h5:∀{place:Nat->Option (Nat×Nat)} {ps:List (Nat×V)} {c c':List V},wk place c ps=some c'->c'.length=c.length:=by
            intro place ps
            induction ps with
            |nil=>grind[wk]
            | cons p ps ih=>
              intro c c' h;simp only[wk,eE,fX]at h;obtain⟨q,_,_,am,h6,h7⟩:=h;rw[ih h7,(FV h6).1]
          rw[h5 R,xR,F]
        have E:=Env.uV (d:=⟨b,0,size,cs.length,mG.size,false,0⟩) hn;refine⟨⟨b,0,size,cs.length,mG.size,false,0⟩,rfl,⟨rfl,rfl,rfl,rfl,λ_=>?_⟩,?_⟩
        ·refine xV rfl rfl (by simp_all) λi u hi=>?_
         obtain⟨x,hx,P⟩:=hr.get i u hi;exact⟨x,by simp_all,P.mono E⟩
        ·refine fq.slice l 0 len len 0 ⟨b,0,size,cs.length,mG.size,false,0⟩ (Env.rS _ _ _) rfl (jn _) (.inl ⟨rfl,?_,?_⟩)
         ·simp_all
         simp_all
      ·cases g
     ·cases g
    ·cases g
  | makeSlice U m c=>
    simp only[nA]at g;split at g
    ·rename_i y K
     have hu:=wy K;split at g
     ·rename_i size lV z he
      obtain⟨hs,Q,S,W,F,_⟩:=BY he;obtain⟨A,J,D,i,hi,an⟩:=wC S;simp only[eE]at g;obtain⟨mv,T,cv,R,L⟩:=g;have hm:=AQ Z T;have hc:=AQ Z R;unfold hZ at L;split at L
      ·rename_i H c'
       simp only[fX]at L;obtain⟨h4,h5,h6,h7⟩:=L;cases h7;have ab:H<=c':=FY h4;have ao:c'*lV<=281474976710656:=FY h5;have ac:c'<=1099511627776:=FY h6;have ae:i.bytes=lV:=by
         unfold T4 at Q;rw[eE]at Q;obtain⟨i',Y,hb⟩:=Q;rw[hi]at Y;cases Y;simpa using hb
       have G:=(D Δ).cells;have B:=L7 G (by omega) c';rw[F]at B;have ag:a.eval m = .int .i64 (H:Int):=by
         generalize a.eval m=x at hm;cases hm;rfl
       have ah:a.eval c = .int .i64 (c':Int):=by
         generalize a.eval c=x at hc;cases hc;rfl
       have wr:∀k:Nat,k<=1099511627776->IntKind.i64.wrap (k:Int)=k:=by grind[IntKind.wrap,IntKind.bits,IntKind.signed]
       refine⟨.cells ((Array.range (c'*size)).map λi=>A.cells[i % A.cells.size]!) y,λb=> .slice (some ⟨b,0,none⟩) H c',λw=>kY (w:=w) (x:= .slice (some ⟨w.heap.size,0,none⟩) H c') ?_,?_⟩
       ·rw[ag,ah]
        have e1:((i.bytes:Int)*(c':Int)>2 ^ 48)=False:=by
          rw[ae];have:(lV:Int)*(c':Int)=((c'*lV:Nat):Int):=by rw[Nat.mul_comm];simp
          rw[this];simp;omega
        have s:(if c'*size=0 then(pure #[]:Sem (Array Value)) else do pure (<-zeroValue y).cells).run P0 w = .ok (if c'*size=0 then(#[]:Array Value) else A.cells) w:=by
          by_cases h0:c'*size=0
          ·simp_all
          ·simp_all
        have I:((Array.range (c'*size)).map λi=>(if c'*size=0 then(#[]:Array Value) else A.cells)[i % (if c'*size=0 then(#[]:Array Value) else A.cells).size]!)=((Array.range (c'*size)).map λi=>A.cells[i % A.cells.size]!):=by
          by_cases h0:c'*size=0
          ·simp_all
          ·simp_all
        have c1:¬((c':Int)<0):=by omega
        have c2:¬((H:Int)<0):=by omega
        have c3:¬((H:Int)>(c':Int)):=by omega
        simp only[Instr.makeSlice,qu,fE hu,pJ,asInt,asIntOf,EN,typeInfo,run_program,hi,wr H (by omega),wr c' ac,e1,c1,c2,c3,decide_false,Bool.or_false,LK,if_false,run_askRoom,rT hs,Int.toNat_natCast];clear s;by_cases h0:c'*size=0
        ·simp only[if_pos h0,newRow,run_newObj,qu,EN,pJ]at I⊢
         rw[I];rfl
        simp_all[if_neg,newRow,run_newObj,qu,EN,pJ]
       ·intro l b hn
        have N:=B.length;simp only[Qf]at N;have ai:(yy c' z.cells).length=c'*size:=by rw[xR,F]
        have E:=Env.uV (d:=⟨b,0,size,(yy c' z.cells).length,c'*size,false,0⟩) hn;refine⟨⟨b,0,size,(yy c' z.cells).length,c'*size,false,0⟩,rfl,⟨rfl,rfl,rfl,rfl,λ_=>?_⟩,?_⟩
        ·refine xV (by simp) rfl (VU ai) λi u hi=>?_
         obtain⟨x,hx,P⟩:=B.get i u hi;exact⟨x,by grind,P.mono E⟩
        ·refine fq.slice l 0 H c' 0 ⟨b,0,size,(yy c' z.cells).length,c'*size,false,0⟩ (Env.rS _ _ _) rfl ab (.inl ⟨rfl,?_,?_⟩)
         ·simp_all
         simp_all
      ·cases L
     ·cases g
    ·cases g
  | makeMap U r=>
    cases r with
    | none=>
      simp only[nA]at g;split at g
      ·cases g
       refine⟨.map #[] 0,λb=> .map (some b),λw=>kY (x:= .map (some w.heap.size)) (by simp[Instr.makeMap]),?_⟩;intro l b hn;exact⟨⟨b,0,0,0,0,false,1⟩,rfl,⟨rfl,rfl,rfl,#[],rfl,.nil,by simp,by simp⟩,fq.map l ⟨b,0,0,0,0,false,1⟩ (Env.rS _ _ _)⟩
      ·cases g
    |some _=>cases g
  |_=>cases g
end
