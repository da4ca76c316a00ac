/- Parts. -/
import Derived.Test.YtnehpeeglbgfpaaDoorM01
import Derived.Laws.Pointers
import Derived.Laws.StructEq
import Derived.Laws.Strings2
import Derived.Laws.IdiomStrings
set_option maxHeartbeats 4000000
namespace Go.Proofs.YtnehpeeglbgfpaaDoor.Hx
inductive mZ (Δ:Env):List (V×V×Nat)->List MapEntry->Prop
 |nil:mZ Δ [] []
 | cons (k v:V) (n:Nat) (e:MapEntry) (es:List (V×V×Nat)) (im:List MapEntry) (a:fq Δ k e.key) (b:fq Δ v e.val) (c:e.born=n)
   (d:mZ Δ es im):mZ Δ ((k,v,n)::es) (e::im)
theorem mZ.mono{Δ b:Env} (a:Δ.le b) {es:List (V×V×Nat)} {im:List MapEntry} (h:mZ Δ es im):mZ b es im:=by
 induction h with
 |nil=>exact .nil
 |cons k v n e es im c d f _ g=>exact .cons k v n e es im (c.mono a) (d.mono a) f g
def AW(Δ:Env) (d:D) (cs:List V) (ob:Option Obj):Prop:=∃c e fr,ob=some (.cells c e fr)/\c.size=d.NO/\(d.ro=false->fr.1=fr.2\/d.NO<=fr.1)/\d.base+cs.length<=d.NO/\∀(i:Nat) (v:V),cs[i]? =some v->∃x,c[d.base+i]? =some x/\fq Δ v x
def qX(es:List (V×V×Nat))(c:Nat):Prop:=(es.map λe=>e.2.2).Nodup/\∀e∈es,e.2.2<c
def Wq(k:IntKind)(ks:List Int)(im:List MapEntry):Prop:=(∀e∈im,e.val = .bool true/\∃n∈ks,e.key = .int k n)/\∀n∈ks,∃e∈im,e.key = .int k n
def Kv(Δ:Env) (d:D) (o:O) (ob:Option Obj):Prop:=match o with
 | .cells _ sz live ro cs=>d.kind=0/\d.sz=sz/\d.n=cs.length/\d.ro=ro/\(live=true->AW Δ d cs ob)
 | .map es a=>d.kind=1/\d.ro=false/\d.base=0/\∃im,ob=some (.map im a)/\mZ Δ es im.toList/\qX es a
 | .Hi k ks=>d.kind=1/\d.ro=false/\d.base=0/\∃im a,ob=some (.map im a)/\Wq k ks im.toList
 | .gone=>d.kind=2/\d.ro=false/\d.base=0
 | .iter m since seen last=>d.kind=2/\d.ro=false/\d.base=0/\∃c,ob=some (.mapIter c since seen.toArray last)/\
   (match m with
    |none=>c=none
    |some l=>∃e,Δ l=some e/\c=some e.b)
def O.live:O->Bool
 | .cells _ _ live _ _=>live
 |_=>true
def xS(Δ:Env)(w:World):Prop:=∀g c,(g,c)∈V1->(∃e fr,w.heap[g]? =some (.cells c e fr))/\∀l d,Δ l=some d->d.ro=false->d.b≠g
structure WR (Δ:Env) (h:Hp) (w:World):Prop where
 fresh:∀l d,Δ l=some d->l<h.next
 vT:∀l d,Δ l=some d->d.b<w.heap.size
 obj:∀l d,Δ l=some d->∃o,h.get l=some o/\Kv Δ d o w.heap[d.b]?
 apart:∀l a d c o e,Δ l=some d->Δ a=some c->l≠a->h.get l=some o->h.get a=some e->o.live=true->e.live=true->
  (d.ro=false\/c.ro=false)->d.b≠c.b
 Bw:∀g o,g<P0.globals.size->h.get g=some o->∃d,Δ g=some d/\d.b=g/\d.base=0
 tz:P0.globals.size<=h.next
 Ly:xS Δ w
inductive Cv (Δ:Env):List (Nat×List V)->List Deferred->Prop
 |nil:Cv Δ [] []
 | cons (g:Nat) (args:List V) (cap fV:Array Value) (l:List (Nat×List V)) (a:List Deferred) (b:fT Δ args (fV++cap).toList) (c:Cv Δ l a) :
   Cv Δ ((g,args)::l) ({target:= .fn (.func g) cap,args:=fV}::a)
theorem Cv.mono{Δ c:Env} (b:Δ.le c) {l:List (Nat×List V)} {a:List Deferred} (h:Cv Δ l a):Cv c l a:=by
 induction h with
 |nil=>exact .nil
 |cons g args cap fV l a d _ e=>exact .cons g args cap fV l a (d.mono b) e
structure TR (Δ:Env) (n:Nat) (t:Tm) (a:Act):Prop where
 size:a.tmps.size=n
 rel:∀i,fq Δ (gq t i) (a.tmps.getD i undef)
 ds:Cv Δ t.ds a.defers
theorem AW.mono{Δ b:Env} (a:Δ.le b) {d:D} {cs:List V} {ob:Option Obj} (h:AW Δ d cs ob):AW b d cs ob:=by
 obtain⟨c,e,fr,f,g,j,k,l⟩:=h;exact⟨c,e,fr,f,g,j,k,λi v hi=>let⟨x,hx,hr⟩:=l i v hi;⟨x,hx,hr.mono a⟩⟩
theorem Kv.mono{Δ n:Env} (a:Δ.le n) {d:D} {o:O} {ob:Option Obj} (h:Kv Δ d o ob):Kv n d o ob:=by
 cases o with
 | cells e sz live ro cs=>
   obtain⟨c,f,g,i,b⟩:=h
   exact⟨c,f,g,i,λp=>(b p).mono a⟩
 | map es j=>
   obtain⟨c,f,g,im,i,b,q⟩:=h
   exact⟨c,f,g,im,i,b.mono a,q⟩
 |Hi k ks=>exact h
 |gone=>exact h
 | iter m since seen last=>
   obtain⟨c,f,g,r,i,b⟩:=h;refine⟨c,f,g,r,i,?_⟩
   cases m with
   |none=>exact b
   |some l=>obtain⟨s,hd,t⟩:=b;exact⟨s,a _ _ hd,t⟩
theorem TR.mono{Δ c:Env}(b:Δ.le c){n:Nat}{t:Tm}{a:Act}(h:TR Δ n t a):TR c n t a:=⟨h.size,λi=>(h.rel i).mono b,h.ds.mono b⟩
theorem fw{t:Nat}{d:TypeDesc}{w:World}(h:P0.underlying t=some d):(underlying t).run P0 w = .ok d w:=by simp[underlying,h]
theorem yM{t n:Nat} (h:tR t=some n):∃i,P0.info? t=some i/\i.size=n:=by
 grind[tR,ez]
theorem rm{t n:Nat} {w:World} (h:tR t=some n):(sizeOf t).run P0 w = .ok n w:=by
 obtain⟨i,hi,rfl⟩:=yM h
 simp_all[sizeOf,typeInfo]
theorem A1{t:Nat} {b:Bool} {w:World} (h:Ff t=some b):(isAgg t).run P0 w = .ok b w:=by
 unfold Ff at h;split at h
 ·simp_all[isAgg,fw]
 ·simp_all[isAgg,fw]
 ·simp_all[isAgg,pR,fw,oQ]
 ·cases h
theorem vf{t:Nat} {z:V} (h:zeroV t=some z):∃a,(∀w,(zeroValue t).run P0 w = .ok a w)/\(∀Δ,fq Δ z a)/\∃i,P0.info? t=some i/\i.zero=some a:=by
 unfold zeroV at h;simp only[ez]at h;obtain⟨i,hi,a,b,c⟩:=h;exact⟨a,by simp_all[zeroValue,typeInfo],by grind[A4],i,hi,b⟩
theorem pM(b o n:Nat):(⟨b,o,none⟩:Addr).add n=⟨b,o+n,none⟩:=by
 grind[Addr.add]
section
variable{Δ:Env}{h:Hp}{w:World}{n:Nat}{t:Tm}{a:Act}
theorem z9(d:TR Δ n t a) {x:Operand} {v:V} (b:(Hj x).f t=some v):fq Δ v (a.eval x):=by
 cases x with
 |tmp i=>simp only[Hj]at b;cases b;exact d.rel i
 | const c=>
   simp only[Hj]at b;split at b
   ·rename_i y e;cases b;exact A4 Δ 8 c _ e
   ·cases b
 |global g=>grind[Hj]
 |func f=>simp only[Hj]at b;cases b;exact .func f [] [] #[] #[] .nil .nil
theorem jC(k:WR Δ h w) (e:TR Δ n t a) {x:Operand} {v:V} (b:(oO x).f t h=some v):fq Δ v (a.eval x):=by
 cases x with
 | global g=>
   unfold oO at b
   cases HG:Nat.blt g P0.globals.size with
   | true=>
     simp only[HG,ez]at b;obtain⟨o,l,b⟩:=b;cases b;have m:g<P0.globals.size:=by rw[<-JK];exact HG
     obtain⟨d,hd,p,j⟩:=k.Bw g o m l;have:=fq.ptr (Δ:=Δ) g 0 d hd;rw[p,j]at this
     exact this
   |false=>simp_all
 |tmp i=>exact z9 e b
 |const c=>exact z9 e b
 |func f=>exact z9 e b
theorem wz(b:TR Δ n t a):∀{l:List Operand} {vs:List V},Dz t l=some vs->fT Δ vs (l.map a.eval)
 |[],vs,hv=>by simp[Dz]at hv;subst hv;exact .nil
 | x::l,vs,hv=>by
   simp only[Dz,ez]at hv;obtain⟨v,c,d,e,f⟩:=hv;cases f;exact .cons _ _ _ _ (z9 b c) (wz b e)
inductive O3 (Δ:Env):List (Nat×V)->List (Nat×Value)->Prop
 |nil:O3 Δ [] []
 |cons (i:Nat) (v:V) (a:Value) (l:List (Nat×V)) (b:List (Nat×Value)) (c:fq Δ v a) (d:O3 Δ l b):O3 Δ ((i,v)::l) ((i,a)::b)
theorem yD(b:TR Δ n t a):∀{l:List (Nat×Operand)} {vs:List (Nat×V)},pT t l=some vs->O3 Δ vs (l.map λx=>(x.1,a.eval x.2))
 |[],vs,hv=>by simp[pT]at hv;subst hv;exact .nil
 | x::l,vs,hv=>by
   simp only[pT,ez]at hv;obtain⟨v,c,d,e,f⟩:=hv;cases f;exact .cons _ _ _ _ _ (z9 b c) (yD b e)
theorem Mv(f:WR Δ h w) {l:Nat} {d:D} (g:Δ l=some d) {e sz:Nat} {ro:Bool} {cs:List V} (j:h.get l=some (.cells e sz true ro cs))
  {i:Nat} {v:V} (hi:cs[i]? =some v):∃x,w.cell? ⟨d.b,d.base+i,none⟩=some x/\fq Δ v x:=by
 obtain⟨o,a,k⟩:=f.obj l d g;rw[j]at a;cases a;obtain⟨_,_,_,_,hc⟩:=k;obtain⟨c,e',fr,m,_,_,_,n⟩:=hc rfl
 grind[World.cell?]
theorem CN(i:WR Δ h w) {l:Nat} {d:D} (k:Δ l=some d) {off m:Nat} {cs:List V} (a:Bp h l off m=some cs) :
  ∃c,(loadCells ⟨d.b,d.base+off,none⟩ m).run P0 w = .ok c w/\fT Δ cs c.toList:=by
 unfold Bp at a;rw[jB]at a;obtain⟨e,sz,live,ro,all,n,a⟩:=a;rw[fW]at a;obtain⟨rfl,a⟩:=a;obtain⟨hlen,f⟩:=sub_eq a;have g:∀j,j<m->∃x v,w.cell? ⟨d.b,d.base+off+j,none⟩=some x/\cs[j]? =some v/\fq Δ v x:=by grind[iQ,Mv,Nat.add_assoc]
 refine⟨_,run_loadCells w ⟨d.b,d.base+off,none⟩ m (λj=>(w.cell? ⟨d.b,d.base+off+j,none⟩).getD undef) (λj o=>?_),?_⟩
 ·grind[pM]
 grind[fT.II,jv]
theorem Qn(c:WR Δ h w) {l:Nat} {d:D} (f:Δ l=some d) {off:Nat} {v:V} (a:UP h l off=some v) :
  ∃x,w.cell? ⟨d.b,d.base+off,none⟩=some x/\fq Δ v x:=by
 unfold UP at a;rw[jB]at a;obtain⟨e,sz,live,ro,all,g,a⟩:=a;rw[fW]at a;obtain⟨rfl,a⟩:=a;exact Mv c f g (Ha a)
theorem FW(i:WR Δ h w) {ty:Nat} {p:PF} {xv:Value} (j:∀v,p.f t h=some v->fq Δ v xv) {v:V} (a:(BB ty p).f t h=some v) :
  ∃x,(Instr.loadAt ty xv).run P0 w = .ok x w/\fq Δ v x:=by
 unfold BB at a;split at a
 ·rename_i k;split at a
  ·rename_i m o;simp only[ez,nC]at a;obtain⟨av,c,l,off,rfl,cs,e,n⟩:=a;cases n
   cases j _ c with
   | ptr _ _ d hd=>
     obtain⟨g,q,b⟩:=CN i hd e;exact⟨.agg g,by simp_all[Instr.loadAt,Instr.sureAddr,loadVar,A1,rm],.agg _ _ b⟩
  ·cases a
 ·rename_i k;simp only[ez,nC]at a;obtain⟨av,c,l,off,rfl,e⟩:=a
  cases j _ c with
  | ptr _ _ d hd=>
    obtain⟨x,r,b⟩:=Qn i hd e
    simp_all[Instr.loadAt,Instr.sureAddr,loadVar,A1]
 ·cases a
theorem E4:∀(fs:List Field) (pl:List (Nat×Nat)),placesOf fs=some pl->fs.mapM (λf=>(P0.info? f.type).map λi=>(f.offset,i.size))=some pl
 |[],pl,h=>by grind[placesOf]
 | f::fs,pl,h=>by
   simp only[placesOf,ez]at h;obtain⟨m,a,l,b,c⟩:=h;cases c;obtain⟨i,hi,rfl⟩:=yM a;simp[List.mapM_cons,hi,E4 fs l b]
theorem HQ:∀(xs:List Value) (k off:Nat) (c:Array Value),off+k+xs.length<=c.size->
  ∀i,((xs.zipIdx k).foldl (λcs (p:Value×Nat)=>cs.setIfInBounds (off+p.2) p.1) c)[i]? =if off+k<=i/\i<off+k+xs.length then xs[i-(off+k)]? else c[i]?
 | [],k,off,c,_,i=>by
   simp_all[if_neg,UZ]
 | x::xs,k,off,c,hle,i=>by
   simp only[List.zipIdx_cons,List.foldl_cons];simp only[Li]at hle;rw[HQ xs (k+1) off _ (by simp;omega)]
   grind
theorem FC{place:Nat->Option (Nat×Nat)}:∀{ps:List (Nat×V)} {f:List (Nat×Value)} {cells cs:List V} {a:Array Value},O3 Δ ps f->fT Δ cells a.toList->
  wH place cells ps=some cs->∃lU,Instr.fill place a f=some lU/\fT Δ cs lU.toList
 |_,_,cells,cs,a,.nil,hc,hf=>by simp[wH]at hf;subst hf;exact⟨a,rfl,hc⟩
 | _,_,cells,cs,a,.cons i v v' l l' hv hs,hc,hf=>by
   simp only[wH,ez,fW]at hf;obtain⟨⟨off,size⟩,H,t,o,u,w⟩:=hf;obtain⟨I,z,g⟩:=EB u;have d:=hv.cells;have A:v'.cells.size=size:=by
     have:=d.length;rw[tS t]at this;simpa using this.symm
   have q:=hc.length;simp only[OB]at q;have B:v.cells.length=v'.cells.size:=by simpa using d.length
   have C:¬(v'.cells.size≠size\/off+v'.cells.size>a.size):=by
     rintro(h|h)
     ·omega
     ·omega
   have k:fT Δ o (v'.cells.zipIdx.foldl (λcs (c,j)=>cs.setIfInBounds (off+j) c) a).toList:=by
     have b:=HQ v'.cells.toList 0 off a (by simp;omega);have e:(v'.cells.zipIdx.foldl (λcs (c,j)=>cs.setIfInBounds (off+j) c) a)=((v'.cells.toList.zipIdx 0).foldl (λcs (p:Value×Nat)=>cs.setIfInBounds (off+p.2) p.1) a):=by
       rw[<-Array.foldl_toList];simp
     rw[e];generalize hF:((v'.cells.toList.zipIdx 0).foldl (λcs (p:Value×Nat)=>cs.setIfInBounds (off+p.2) p.1) a)=F at b;have D:F.size=a.size:=by
      apply Nat.le_antisymm
      ·rcases HB a.size F.size with r|s
       ·have:=b a.size
        grind
       omega
      ·rcases HB F.size a.size with r|s
       ·have:=b F.size
        grind
       omega
     refine fT.II (by simp_all) λj x m=>?_;rw[g j]at m;have n:=b j;simp only[QW,OB]at n;rw[QS,n];by_cases hin:off<=j/\j<off+v.cells.length
     ·rw[if_pos hin]at m
      rw[if_pos (by omega)];exact d.get _ _ m
     ·rw[if_neg hin]at m
      rw[if_neg (by omega)];obtain⟨y,J,E⟩:=hc.get _ _ m
      simp_all
   obtain⟨lU,G,E⟩:=FC hs k w
   simp_all[Instr.fill,if_neg]
theorem Nu(p:TR Δ n t a) {ty:Nat} {c:List (Nat×Operand)} {v:V} (b:(Ca ty c).f t h=some v) :
  ∃x,(Instr.build ty (c.map λx=>(x.1,a.eval x.2)).toArray).run P0 w = .ok x w/\fq Δ v x:=by
 unfold Ca at b;split at b
 ·rename_i z r;obtain⟨C,_,j,i,hi,s⟩:=vf r;have d:=(j Δ).cells;split at b
  ·rename_i e u;split at b
   ·rename_i g D;simp only[ez]at b;obtain⟨ps,k,cs,l,m⟩:=b;cases m;obtain⟨lU,y,o⟩:=FC (yD p k) d l;refine⟨.agg lU,?_,.agg _ _ o⟩
    simp_all[run_build,Program.built,E4]
   ·cases b
  ·rename_i len q u;split at b
   ·rename_i size A;obtain⟨E,B,rfl⟩:=yM A;simp only[ez]at b;obtain⟨ps,k,cs,l,m⟩:=b;cases m;obtain⟨lU,y,o⟩:=FC (yD p k) d l;refine⟨.agg lU,?_,.agg _ _ o⟩
    simp_all[run_build,Program.built]
   ·cases b
  ·cases b
 ·cases b
end
theorem vj(k:IntKind) (n:Int):jw k n=k.wrap n:=by
 unfold jw
 cases n with
 |negSucc m=>rfl
 | ofNat m=>
   simp only;split
   ·rename_i a
    rw[JK]at a;have e:(Int.ofNat m)=(m:Int):=rfl
    grind[IntKind.wrap,IntKind.bits,IntKind.signed]
   ·rfl
section
variable{Δ:Env}{h:Hp}{w:World}{n:Nat}{t:Tm}{a:Act}
theorem kh{s:Sem Value}{x:Value}{w w':World}(h:s.run P0 w = .ok x w'):(do pure (Next.value (<-s)):Sem Next).run P0 w = .ok (.value x) w':=by simp[h]
theorem uW{k k':IntKind}(h:An k k' = true):k=k':=by cases k <;> cases k' <;> first|rfl|cases h
theorem RO{op:BinOp} {k:IntKind} {x y:Int} {v:V} (ty:Nat) (w:World) (c:MB op=false) (a:hint op k x y=some v) :
  ∃r,(binOp op ty (.int k x) (.int k y)).run P0 w = .ok r w/\∀Δ,fq Δ v r:=by
 cases op with
 |shl=>cases c
 |shr=>cases c
 |add=>simp only[hint]at a;cases a;rw[vj];exact⟨_,by simp[binOp,Op.intArith],λΔ=> .int _ _⟩
 |sub=>simp only[hint]at a;cases a;rw[vj];exact⟨_,by simp[binOp,Op.intArith],λΔ=> .int _ _⟩
 |mul=>simp only[hint]at a;cases a;rw[vj];exact⟨_,by simp[binOp,Op.intArith],λΔ=> .int _ _⟩
 | quo=>
   have d:y≠0:=by rintro rfl;simp[hint]at a
   have b:some (V.int k (jw k (x.tdiv y)))=some v:=by
     rw[<-a];unfold hint;simp only;split
     ·simp_all
     ·rfl
   cases b;rw[vj];exact⟨_,by simp_all[binOp,Op.intDiv],λΔ=> .int _ _⟩
 | rem=>
   have d:y≠0:=by rintro rfl;simp[hint]at a
   have b:some (V.int k (x.tmod y))=some v:=by
     rw[<-a];unfold hint;simp only;split
     ·simp_all
     ·rfl
   cases b;exact⟨_,by simp_all[binOp,Op.intDiv],λΔ=> .int _ _⟩
 |and=>simp only[hint]at a;cases a;exact⟨_,by simp[binOp,Op.intBits],λΔ=> .int _ _⟩
 |or=>simp only[hint]at a;cases a;exact⟨_,by simp[binOp,Op.intBits],λΔ=> .int _ _⟩
 |xor=>simp only[hint]at a;cases a;exact⟨_,by simp[binOp,Op.intBits],λΔ=> .int _ _⟩
 |andNot=>simp only[hint]at a;cases a;exact⟨_,by simp[binOp,Op.intBits],λΔ=> .int _ _⟩
 |eql=>simp only[hint]at a;cases a;exact⟨_,by simp[binOp,Op.intCmp],λΔ=> .bool _⟩
 |neq=>simp only[hint]at a;cases a;exact⟨_,by simp[binOp,Op.intCmp],λΔ=> .bool _⟩
 |lss=>simp only[hint]at a;cases a;exact⟨_,by simp[binOp,Op.intCmp],λΔ=> .bool _⟩
 |leq=>simp only[hint]at a;cases a;exact⟨_,by simp[binOp,Op.intCmp],λΔ=> .bool _⟩
 |gtr=>simp only[hint]at a;cases a;exact⟨_,by simp[binOp,Op.intCmp],λΔ=> .bool _⟩
 |geq=>simp only[hint]at a;cases a;exact⟨_,by simp[binOp,Op.intCmp],λΔ=> .bool _⟩
theorem NU{op:BinOp} {k k':IntKind} {x y:Int} {v:V} (ty:Nat) (w:World) (a:Lq op k x y=some v) :
  ∃r,(binOp op ty (.int k x) (.int k' y)).run P0 w = .ok r w/\∀Δ,fq Δ v r:=by
 unfold Lq at a;split at a
 ·cases a
 ·rename_i m;have b:¬((Int.ofNat m)<0):=by simp
  split at a
  ·cases a;exact⟨_,by rfl,λΔ=> .int _ _⟩
  ·cases a;exact⟨_,by rfl,λΔ=> .int _ _⟩
  ·cases a
theorem Su{op:BinOp} {x y:ByteArray} {v:V} (ty:Nat) (w:World) (a:TG op x.data.toList y.data.toList=some v) :
  ∃r,(binOp op ty (.string x) (.string y)).run P0 w = .ok r w/\∀Δ,fq Δ v r:=by
 have d:(binOp op ty (.string x) (.string y))=Op.stringOp op x y:=by cases op <;> rfl
 rw[d];have g:x.toList=x.data.toList:=ByteArray.toList_eq x;have h:y.toList=y.data.toList:=ByteArray.toList_eq y;cases op <;> simp only[TG]at a <;> try (cases a;done)
 case add=>
  split at a
  ·rename_i c;cases a;have b:=EY c;have f:¬(((x.size+y.size:Nat):Int)>IntKind.i64.max):=by
    have e1:x.data.toList.length=x.size:=rfl;have e2:y.data.toList.length=y.size:=rfl;rw[e1,e2]at b;simp only[IntKind.max,IntKind.signed,IntKind.bits,if_true];omega
   have e:x.data.toList++y.data.toList=(x++y).data.toList:=by simp
   rw[e];exact⟨_,by simp_all[Op.stringOp,if_neg],λΔ=> .str _⟩
  ·cases a
 all_goals
  cases a;refine⟨_,by simp_all[Op.stringOp],λΔ=> .bool _⟩
theorem B7{op:BinOp} {ty:Nat} {X Y:Operand} {x y:Value} (w:World) (a:x≠ .nilIface) (b:∀c,x≠ .agg c) :
  (eqGuard op ty X Y x y).run P0 w = .ok () w:=by
 cases op <;> unfold eqGuard <;> dsimp only <;> simp only[Uf,Um,J4,if_true,if_false] <;> first
  |rfl
  |simp_all
theorem Ot{d:TypeDesc} {ty:Nat} {x y:V} {xv c:Value} {b:Bool} (w:World) (e:Nat) (f:P0.underlying ty=some d) (g:fq Δ x xv) (h:fq Δ y c)
  (a:QK d x y=some b):(Op.equalIn (e+1) ty xv c).run P0 w = .ok b w:=by
 unfold QK at a;split at a <;> first|(cases a;done)|skip
 all_goals
  first
   |cases a
   |(rw[fW]at a;obtain⟨_,a⟩:=a;cases a)
  cases g;cases h;simp only[Op.equalIn,pR,fw f,oQ];rfl
theorem Oo{a:Array (String×TypeId)} {ty:Nat} (w:World) (b:Nat) (c:P0.underlying ty=some (.interface a)) (d:a.isEmpty=true):(Op.eqGuardIn (b+1) ty .nilIface .nilIface).run P0 w = .ok false w:=by
 simp_all[Op.eqGuardIn,pR,fw,oQ]
theorem Sd{d:TypeDesc} {ty:Nat} {x y:V} {xv a:Value} {b:Bool} (w:World) (h:P0.underlying ty=some d) (i:fq Δ x xv) (j:fq Δ y a)
  (f:QK d x y=some b):(Op.equal ty xv a).run P0 w = .ok b w/\(∀op X Y,(eqGuard op ty X Y xv a).run P0 w = .ok () w)/\
   (binOp .eql ty xv a)=(do pure (.bool (<-Op.equal ty xv a)))/\(binOp .neq ty xv a)=(do pure (.bool (!(<-Op.equal ty xv a)))):=by
 refine⟨Ot w 9999 h i j f,?_⟩;unfold QK at f;split at f <;> first|(cases f;done)|skip
 all_goals
  cases i;cases j
 all_goals refine⟨?_,rfl,rfl⟩
 all_goals intro op X Y
 any_goals (refine B7 w ?_ ?_ <;> first|(intro e;cases e;done)|(intro c e;simp_all))
 ·rename_i m;rw[fW]at f;have l:=f.1;have g:=Oo w 9999 h l
  cases op <;> unfold eqGuard <;> dsimp only <;> simp only[Uf,Um,J4,if_true,if_false] <;> first
   |rfl
   |(split
     ·rfl
     ·split
      ·rfl
      ·have k:Sem.run P0 (Op.eqGuardIn Op.maxDepth ty .nilIface .nilIface) w = .ok false w:=g
       simp_all)
 ·cases op <;> rfl
theorem T3{ty:Nat} {x y:V} {xv g:Value} {b:Bool} (w:World) (h:Nat) (d:fq Δ x xv) (f:fq Δ y g) (a:WN (P0.underlying ty) x y=some b) :
  (Op.equalIn (h+1) ty xv g).run P0 w = .ok b w/\Ff ty=some false:=by
 unfold WN at a;split at a
 ·rename_i c;cases d;cases f;cases a;refine⟨?_,by grind[Ff]⟩;simp only[Op.equalIn,pR,fw c,oQ];rfl
 ·rename_i c;cases d;cases f;rw[fW]at a;obtain⟨i,a⟩:=a;obtain rfl:=uW i;cases a;refine⟨?_,by grind[Ff]⟩;simp only[Op.equalIn,pR,fw c,oQ,if_true];rfl
 ·rename_i c;cases d with|str xs=>cases f with|str ys=>
  cases a;refine⟨?_,by grind[Ff]⟩;simp only[Op.equalIn,pR,fw c,oQ];have e:(xs.data.toList == ys.data.toList)=(xs == ys):=by
   rw[show(xs == ys)=(xs.data == ys.data) from rfl,SQ,I8,I8];exact by simp_all
  simp_all
 ·cases a
theorem Gp{xs ys:List V} {a d:Array Value} (w:World) (i:Nat) (n:fT Δ xs a.toList) (o:fT Δ ys d.toList):∀{fs:List Field} {b:Bool},Fl fs xs ys=some b->
  ((do
    for f in fs do
      if f.name≠ "_" then
        if !(<-Op.equalIn (i+1) f.type (<-part f.type a f.offset) (<-part f.type d f.offset)) then return false
    pure true:Sem Bool)).run P0 w = .ok b w
 |[],b,h=>by cases h;rfl
 | f ::fs,b,h=>by
   simp only[Fl,fW,ez,Ub,VW]at h;obtain⟨z,x,r,y,s,c,t,A⟩:=h;obtain⟨xv,j,k⟩:=n.get _ _ (Ha r);obtain⟨p,l,m⟩:=o.get _ _ (Ha s);obtain⟨B,q⟩:=T3 w i k m t;have u:(part f.type a f.offset).run P0 w = .ok xv w:=by
     have e:a[f.offset]? =some xv:=by simpa using j
     simp only[part,pR,A1 q,oQ,J4,if_false];simp[e]
   have v:(part f.type d f.offset).run P0 w = .ok p w:=by
     have g:d[f.offset]? =some p:=by simpa using l
     simp only[part,pR,A1 q,oQ,J4,if_false];simp[g]
   have C:=λ{b}=>Gp w i n o (fs:=fs) (b:=b);cases c <;> simp_all
theorem Tu{ty:Nat} {xs ys:List V} {xv a:Value} {b:Bool} (w:World) (d:fq Δ (.agg xs) xv) (e:fq Δ (.agg ys) a) (c:O5 ty xs ys=some b) :
  (Op.equal ty xv a).run P0 w = .ok b w/\(∀op X Y,(eqGuard op ty X Y xv a).run P0 w = .ok () w)/\
   (binOp .eql ty xv a)=(do pure (.bool (<-Op.equal ty xv a)))/\(binOp .neq ty xv a)=(do pure (.bool (!(<-Op.equal ty xv a)))):=by
 cases d with|agg _ xs' d=>cases e with|agg _ ys' e=>
 unfold O5 at c;split at c
 ·rename_i fs g;simp only[fW,Ub]at c;obtain⟨h,i,c⟩:=c;refine⟨?_,λop X Y=>?_,rfl,rfl⟩
  ·have f:=Gp w 9998 d e c;show(Op.equalIn (9999+1) ty (.agg xs') (.agg ys')).run P0 w=_;rw[Op.equalIn];simp only[pR,fw g,oQ,run_program,h,J4,if_false,DD,<-Array.forIn_toList]at f⊢;exact f
  ·cases op <;> unfold eqGuard <;> dsimp only <;> simp only[Uf,Um,J4,if_true,if_false] <;> first
    |rfl
    |simp_all
 ·cases c
theorem RK{op:BinOp} {ty:Nat} {X Y:Operand} {x y v:V} {xv c:Value} (w:World) (l:fq Δ x xv) (m:fq Δ y c) (a:ej op ty x y=some v) :
  ∃r,(do eqGuard op ty X Y xv c;binOp op ty xv c:Sem Value).run P0 w = .ok r w/\fq Δ v r:=by
 unfold ej at a;split at a
 ·rename_i k p k' q;cases l;cases m;have n:=B7 (op:=op) (ty:=ty) (X:=X) (Y:=Y) (y:= .int k' q) w (x:= .int k p) (by simp) (by simp);split at a
  ·obtain⟨r,s,f⟩:=NU (k':=k') ty w a
   simp_all
  ·rename_i z;rw[fW]at a;obtain⟨A,a⟩:=a;obtain rfl:=uW A;obtain⟨r,s,f⟩:=RO ty w z a
   simp_all
 ·cases l with|str xs=>cases m with|str ys=>
  have n:=B7 (op:=op) (ty:=ty) (X:=X) (Y:=Y) (y:= .string ys) w (x:= .string xs) (by simp) (by simp);obtain⟨r,s,f⟩:=Su ty w a
  simp_all
 ·have i:∀g,NX ty g x y=some v->∃b,(Op.equal ty xv c).run P0 w = .ok b w/\(∀op X Y,(eqGuard op ty X Y xv c).run P0 w = .ok () w)/\
    (binOp .eql ty xv c)=(do pure (.bool (<-Op.equal ty xv c)))/\(binOp .neq ty xv c)=(do pure (.bool (!(<-Op.equal ty xv c))))/\v = .bool (Bool.rec (motive:=λ_=>Bool) b (!b) g):=by
   clear a;intro g e;unfold NX Ud at e;rw[ez]at e;obtain⟨b,h,e⟩:=e;split at h
   ·obtain⟨o,j,t,u⟩:=Tu w l m h
    simp_all
   unfold PC at h;split at h
   ·rename_i d B;obtain⟨o,j,t,u⟩:=Sd w B l m h
    simp_all
   ·cases h
  split at a
  ·obtain⟨b,o,j,t,_,rfl⟩:=i false a;have n:=j .eql X Y;exact⟨.bool b,by simp_all,.bool b⟩
  ·obtain⟨b,o,j,_,u,rfl⟩:=i true a;have n:=j .neq X Y;exact⟨.bool (!b),by simp_all,.bool _⟩
  ·cases a
theorem TH{op:UnOp} {x v:V} {xv:Value} (w:World) (b:fq Δ x xv) (a:xF op x=some v):∃r,(Op.unary op xv).run P0 w = .ok r w/\fq Δ v r:=by
 unfold xF at a;split at a
 ·cases a;cases b;rw[vj];exact⟨_,rfl,.int _ _⟩
 ·cases a;cases b;exact⟨_,rfl,.bool _⟩
 ·simp only[hint]at a;cases a;cases b;exact⟨_,rfl,.int _ _⟩
 ·cases a
theorem PI{src dst:Nat} {p:PF} {xv:Value} {v:V} (w:World) (j:¬∃e,P0.underlying src=some (.slice e)/\P0.underlying dst=some .string) (g:∀v,p.f t h=some v->fq Δ v xv) (a:(EI src dst p).f t h=some v) :
  ∃r,(convert src dst xv).run P0 w = .ok r w/\fq Δ v r:=by
 unfold EI at a;split at a
 ·rename_i k' k i hd;rw[ez]at a;obtain⟨x,c,b⟩:=a;have d:=g _ c;split at b
  ·cases b;cases d;rw[vj];exact⟨_,by simp_all[convert,fw,Conv.intToInt],.int _ _⟩
  ·cases b
 ·rename_i i hd;rw[ez]at a;obtain⟨x,c,b⟩:=a;have d:=g _ c;split at b
  ·cases b;cases d
   simp_all[convert,fw]
  ·cases b
 ·simp_all
 ·cases a
theorem Gb{ty:Nat} {cs:List V} {lU:Array Value} {off:Nat} {v:V} (w:World) (hc:fT Δ cs lU.toList) (a:KP ty cs off=some v) :
  ∃r,(part ty lU off).run P0 w = .ok r w/\fq Δ v r:=by
 unfold KP at a
 cases ha:Ff ty with
 |none=>simp_all
 |some b=>cases b with
 | true =>
   simp only[ha]at a
   cases hm:tR ty with
   |none=>simp_all
   | some m=>
     simp only[hm,ez]at a;obtain⟨l,e,f⟩:=a;cases f;obtain⟨g,h⟩:=sub_eq e;refine⟨.agg (lU.extract off (off+m)),by simp_all[part,A1,rm],.agg _ _ (fT.II ?_ ?_)⟩
     ·have c:=hc.length
      have:∀i,i<m->off+i<cs.length:=by grind
      simp only[OB]at c;simp only[OB,Array.size_extract,g];rcases Nat.eq_zero_or_pos m with h0|h0
      ·omega
      ·have:=this (m-1) (by omega)
       omega
     ·intro i v hi
      have d:i<m:=by have:=(jv.1 hi).1;omega
      rw[h i d]at hi;obtain⟨x,j,k⟩:=hc.get _ _ hi
      simp_all
 | false=>
   simp only[ha]at a;obtain⟨x,j,k⟩:=hc.get _ _ (Ha a)
   simp_all[part,A1]
theorem Gv{s f:Nat} {a:Field} (h:Fk s f=some a):∃fs,P0.underlying s=some (.struct fs)/\fs[f]? =some a:=by
 grind[Fk]
theorem Ht{s f:Nat} {p:PF} {xv:Value} {v:V} (w:World) (c:∀v,p.f t h=some v->fq Δ v xv) (a:(ng s p f).f t h=some v) :
  ∃r,(Instr.fieldAt s xv f).run P0 w = .ok r w/\fq Δ v r:=by
 unfold ng at a;split at a
 ·rename_i e g;obtain⟨fs,i,b⟩:=Gv g;split at a
  ·rename_i m j;simp only[ez,nC]at a;obtain⟨x,k,l,off,rfl,n⟩:=a;cases n
   cases c _ k with
   | ptr _ _ d hd=>
     refine⟨_,by simp[Instr.fieldAt,fw i,b,Instr.sureAddr,fieldPlace,rm j,pM];rfl,?_⟩;have:=fq.ptr (Δ:=Δ) l (off+e.offset) d hd
     grind
  ·cases a
 ·cases a
theorem N0{s f:Nat} {p:PF} {xv:Value} {v:V} (w:World) (e:∀v,p.f t h=some v->fq Δ v xv) (a:(B2 s p f).f t h=some v) :
  ∃r,(Instr.field s xv f).run P0 w = .ok r w/\fq Δ v r:=by
 unfold B2 at a;split at a
 ·rename_i k g;obtain⟨fs,l,i⟩:=Gv g;rw[ez]at a;obtain⟨x,j,b⟩:=a;have c:=e _ j;split at b
  ·cases c with
   | agg _ lU hc=>
     obtain⟨r,c,d⟩:=Gb w hc b
     simp_all[Instr.field,fw,asAgg]
  ·cases b
 ·cases a
theorem HE{ty:Nat} {p q:PF} {xv u:Value} {v:V} (w:World) (y:∀v,p.f t h=some v->fq Δ v xv) (hq:∀v,q.f t h=some v->fq Δ v u)
  (a:(nB ty p q).f t h=some v):∃r,(Instr.indexAt ty xv u).run P0 w = .ok r w/\fq Δ v r:=by
 unfold nB at a;split at a
 ·rename_i e g;split at a
  ·rename_i m j;simp only[ez,Dv]at a;obtain⟨x,k,i,n,z,s,rfl,c⟩:=a;have A:=y _ k;cases hq _ n;split at c
   ·rename_i l off len;rw[fW]at c;obtain⟨b,c⟩:=c;cases c;rw[JK]at b
    cases A with
    | slice _ _ _ cap o d hd C D B=>
      rcases B with⟨rfl,_,_⟩|⟨hc,_⟩
      ·refine⟨_,by simp[Instr.indexAt,asIntOf,fw g,rm j,b,pM];rfl,?_⟩
       have:=fq.ptr (Δ:=Δ) l (off+s*m) d hd
       grind
      ·omega
   ·cases c
  ·cases a
 ·rename_i len e g;split at a
  ·rename_i m j;simp only[ez,Dv,nC,fW]at a;obtain⟨x,k,i,n,z,s,rfl,l,off,rfl,b,c⟩:=a;cases c;rw[JK]at b;cases hq _ n
   cases y _ k with
   | ptr _ _ d hd=>
     refine⟨_,by simp[Instr.indexAt,asIntOf,fw g,rm j,b,pM,Instr.sureAddr];rfl,?_⟩;have:=fq.ptr (Δ:=Δ) l (off+s*m) d hd
     grind
  ·cases a
 ·cases a
theorem NN{ty:Nat} {p q:PF} {xv u:Value} {v:V} (w:World) (y:∀v,p.f t h=some v->fq Δ v xv) (hq:∀v,q.f t h=some v->fq Δ v u)
  (c:(Cb ty p q).f t h=some v):∃r,(Instr.index ty xv u).run P0 w = .ok r w/\fq Δ v r:=by
 unfold Cb at c;split at c
 ·rename_i len z A;split at c
  ·rename_i m C;simp only[ez,Dv]at c;obtain⟨x,k,i,l,B,g,rfl,a⟩:=c;have n:=y _ k;cases hq _ l;split at a
   ·rw[fW]at a;obtain⟨d,a⟩:=a;rw[JK]at d
    cases n with
    | agg _ lU hc=>
      obtain⟨r,D,j⟩:=Gb w hc a;refine⟨r,?_,j⟩;have e:(Nat.mul g m)=g*m:=rfl
      simp_all[Instr.index,asIntOf,fw,rm]
   ·cases a
  ·cases c
 ·rename_i A;simp only[ez,Dv]at c;obtain⟨x,k,i,l,B,g,rfl,a⟩:=c;have n:=y _ k;cases hq _ l;split at a
  ·rw[ez]at a;obtain⟨b,o,a⟩:=a;cases a
   cases n with
   | str s=>
     rw[List.head?_drop]at o;have d:g<s.size:=(jv.1 o).1;have E:s[g]? =some b:=by
       rw[getElem?_pos s g d];have:=(jv.1 o).2;simp only[Array.getElem_toList]at this;rw[<-this];rfl
     exact⟨.int .u8 b.toNat,by simp_all[Instr.index,asIntOf,fw],.int _ _⟩
  ·cases a
 ·cases c
end
section
variable{Δ:Env}{h:Hp}{w:World}{n:Nat}{t:Tm}{a:Act}
inductive yQ (Δ:Env):Option V->Option Value->Prop
 |none:yQ Δ none none
 |some (v:V) (a:Value) (h:fq Δ v a):yQ Δ (some v) (some a)
theorem Fj(c:WR Δ h w) (d:TR Δ n t a) {x:Option Operand} {v:Option V} (b:Du x t h=some v):yQ Δ v (x.map a.eval):=by
 cases x with
 |none=>simp only[Du]at b;cases b;exact .none
 | some x=>
   simp only[Du,ez]at b;obtain⟨y,e,f⟩:=b;cases f;exact .some _ _ (jC c d e)
theorem zN{d m:Nat} {lo:Option V} (a:hbound d lo=some m):(lo=none/\m=d)\/∃k,lo=some (.int k (.ofNat m)):=by
 unfold hbound at a;split at a
 ·simp_all
 ·simp_all
 ·cases a
theorem Db{k:IntKind} {m y:Nat} {c:BoundsCode} (w:World) (a:m<=y):(Instr.sliceBound (.int k (.ofNat m)) y c).run P0 w = .ok m w:=by
 have b:(0:Int)<=Int.ofNat m/\(Int.ofNat m)<=(y:Int):=by simp_all
 simp_all[Instr.sliceBound,asIntOf,pR,DD,oQ,if_pos]
theorem Ed{Sx:Bool} {len cap l u:Nat} {lo hi:Option V} {b c:Option Value} (w:World) (d:yQ Δ lo b) (a:yQ Δ hi c)
  (h:hbound 0 lo=some l) (g:hbound len hi=some u) (e:l<=u) (f:u<=cap):(Instr.sliceBounds Sx len cap b c none).run P0 w = .ok (l,u,cap) w:=by
 rcases zN h with⟨rfl,rfl⟩|⟨k,rfl⟩
 ·cases d;rcases zN g with⟨rfl,rfl⟩|⟨k,rfl⟩
  ·cases a;rfl
  ·cases a with|some _ _ hr=>
   cases hr
   grind[Instr.sliceBounds,pR,DD,oQ,Db]
 ·cases d with|some _ _ hr=>
  cases hr;rcases zN g with⟨rfl,rfl⟩|⟨k,rfl⟩
  ·cases a
   grind[Instr.sliceBounds,pR,DD,oQ,Db]
  ·cases a with|some _ _ hr=>
   cases hr;simp only[Instr.sliceBounds,pR,DD,oQ,Db w f,Db w e]
theorem Lr(P:WR Δ h w) {ty f size:Nat} {x v:V} {xv:Value} {lo hi:Option V} {k m:Option Value} (M:fq Δ x xv) (p:yQ Δ lo k) (q:yQ Δ hi m)
  (U:P0.underlying ty=some (.slice f)) (W:tR f=some (size+1)) (a:iF (Nat.succ size) x lo hi h=some v) :
  ∃r,(Instr.sliceAt ty xv k m none).run P0 w = .ok r w/\fq Δ v r:=by
 unfold iF at a;split at a
 ·rename_i lc off len;rw[jB]at a;obtain⟨e,sz,live,ro,cs,Q,a⟩:=a;simp only[fW,ez]at a;obtain⟨A,l,B,u,C,D,c,a⟩:=a;cases a;have g:=tS A;have s:=EY D
  cases M with
  | slice _ _ _ cap o d hd N E F=>
    obtain ⟨ob,t,R⟩:=P.obj lc d hd;rw[Q]at t;cases t;obtain⟨_,i,S,_,_⟩:=R;have G:u<=cap:=by
      rw[Nq]at c;rcases c with c|c
      ·exact DE (EY c) E
      ·have O:off+u*(size+1)<=cs.length:=EY c
       rcases F with⟨_,j,_⟩|⟨hc,j⟩
       ·rw[i,<-g]at j
        have:u*(size+1)<=cap*(size+1):=by have e:Nat.succ size=size+1:=rfl;rw[e]at j;omega
        exact Nat.le_of_mul_le_mul_right this (by omega)
       grind
    have y:=Ed (Sx:=true) (len:=len) (cap:=cap) w p q B C s G;have T:l<=cap:=by omega
    refine⟨.slice (if cap=l then some ⟨d.b,o,none⟩ else some ⟨d.b,o+l*(size+1),none⟩) (u-l) (cap-l),?_,?_⟩
    ·simp_all[Instr.sliceAt,pR,fw,oQ,Instr.slice,rm,pM]
    ·have z:cap*d.sz=l*d.sz+(cap-l)*d.sz:=by rw[<-OC];congr 1;omega
     have e2:d.sz=size+1:=by rw[i,<-g]
     split
     ·rename_i H
      refine .slice lc (Nat.add off (Nat.mul l (Nat.succ size))) (Nat.sub u l) (cap-l) o d hd N ?_ (.inr ⟨by omega,?_⟩)
      ·simp_all
      grind
     ·rename_i H
      refine .slice lc (Nat.add off (Nat.mul l (Nat.succ size))) (Nat.sub u l) (cap-l) (o+l*(size+1)) d hd N ?_ (.inl ?_)
      ·simp_all
      ·show o+l*(size+1)=d.base+(off+l*(size+1))/\d.n<=off+l*(size+1)+(cap-l)*d.sz/\d.base+(off+l*(size+1))+(cap-l)*d.sz<=d.NO
       rcases F with⟨F,j,I⟩|⟨hc,j⟩
       ·rw[e2]at z j I⊢
        omega
       ·omega
 ·simp only[fW,ez]at a;obtain⟨l,B,u,C,E,J,a⟩:=a;cases a;have K:=tS E;have L:=tS J;subst K;subst L;cases M;have y:=Ed (Sx:=true) (len:=0) (cap:=0) w p q B C (je _) (je _);exact⟨.slice none 0 0,by simp_all[Instr.sliceAt,fw,Instr.slice,rm],.ed⟩
 ·cases a
theorem LJ{ty:Nat} {x v:V} {xv:Value} {lo hi:Option V} {b c:Option Value} (w:World) (i:fq Δ x xv) (d:yQ Δ lo b) (e:yQ Δ hi c)
  (m:P0.underlying ty=some .string) (a:JG x lo hi=some v):∃r,(Instr.sliceAt ty xv b c none).run P0 w = .ok r w/\fq Δ v r:=by
 unfold JG at a;split at a
 ·simp only[fW,ez]at a;obtain⟨l,j,u,k,f,g,a⟩:=a;cases a
  cases i with
  | str s=>
    have h:=Ed (Sx:=false) (len:=s.size) (cap:=s.size) w d e j k (EY f) (EY g);refine⟨.string (s.extract l u),by simp_all[Instr.sliceAt,fw,Instr.slice],?_⟩;have:=fq.str (Δ:=Δ) (s.extract l u)
    simp_all
 ·cases a
theorem Of(c:WR Δ h w) (d:TR Δ n t a) {ty:Nat} {p:PF} {xv:Value} {lo hi:Option Operand} {v:V} (o:∀v,p.f t h=some v->fq Δ v xv)
  (b:(Er ty p lo hi).f t h=some v):∃r,(Instr.sliceAt ty xv (lo.map a.eval) (hi.map a.eval) none).run P0 w = .ok r w/\fq Δ v r:=by
 unfold Er at b;split at b
 ·rename_i e;simp only[ez]at b;obtain⟨x,g,l,i,u,j,k⟩:=b;exact LJ w (o _ g) (Fj c d i) (Fj c d j) e k
 ·rename_i q e;split at b
  ·rename_i m s;simp only[ez]at b;obtain⟨x,g,l,i,u,j,k⟩:=b;exact Lr c (o _ g) (Fj c d i) (Fj c d j) e s k
  ·cases b
 ·cases b
theorem Ek{ty:Nat} {x y:V} {xv c:Value} {b:Bool} (e:fq Δ x xv) (f:fq Δ y c) (a:Ay ty x y=some b) :
  (∀h w,(Op.equalIn (h+1) ty xv c).run P0 w = .ok b w)/\(∀d,P0.underlying ty=some d->Instr.sameNow d xv c=some b):=by
 unfold Ay at a;split at a
 ·rename_i g;split at a
  ·rw[fW]at a;obtain⟨i,a⟩:=a;cases a;obtain rfl:=uW i;cases e;cases f
   grind[run_equalIn_int,Instr.sameNow]
  ·cases a
 ·rename_i g;split at a
  ·cases a;cases e with|str xs=>cases f <;> grind[run_equalIn_string,ByteArray.toList_eq,Instr.sameNow,beq_toListBytes]
  ·cases a
 ·rename_i g;split at a
  ·cases a;cases e;cases f
   grind[run_equalIn_bool',Instr.sameNow]
  ·cases a
 ·cases a
theorem Np{ty:Nat} (a:zg ty=true):Ff ty=some false:=by
 grind[zg,Ff]
theorem DW{ty:Nat} {cs:List V} {lU:Array Value} {off:Nat} {v:V} (w:World) (a:zg ty=true) (hc:fT Δ cs lU.toList) (b:Cf cs off=some v) :
  ∃x,(part ty lU off).run P0 w = .ok x w/\fq Δ v x:=
 Gb w hc (by grind[KP,Np])
theorem Ka:∀{fs:List Field} {x y:List V} {xs ys:Array Value} {b:Bool},(∀f∈fs,zg f.type=true/\f.name≠ "_")->fT Δ x xs.toList->fT Δ y ys.toList->
  Ki fs x y=some b->∀a w,(Op.eqFields (a+1) xs ys fs).run P0 w = .ok b w
 |[],x,y,xs,ys,b,_,_,_,hv,a,w=>by simp[Ki]at hv;subst hv;rfl
 | f::fs,x,y,xs,ys,b,hf,hx,hy,hv,a,w=>by
   simp only[Ki,ez]at hv;obtain⟨p,i,q,j,e,k,l⟩:=hv;obtain⟨c,d⟩:=hf f (by simp);obtain⟨o,m,g⟩:=DW w c hx i;obtain⟨r,hq,h⟩:=DW w c hy j;have n:=(Ek g h k).1 a w;simp only[Op.eqFields];rw[if_pos d];simp only[pR,m,hq,n,oQ]
   cases e with
   |false=>simp_all
   |true=>exact Ka (by simp_all) hx hy l a w
theorem Iq{ty:Nat} (hd:Bq ty=some none):zg ty=true:=by
 grind[Bq,zg]
theorem Ge{ty:Nat} {fs:List Field} (hd:Bq ty=some (some fs)):∃a,P0.underlying ty=some (.struct a)/\a.toList=fs/\P0.stoodInHeld ty=false/\∀f∈fs,zg f.type=true/\f.name≠ "_" :=by
 unfold Bq at hd;split at hd
 ·cases hd
 ·cases hd
 ·cases hd
 ·rename_i a b;split at hd
  ·grind
  ·cases hd
 ·cases hd
theorem O7{ty:Nat} {d:Option (List Field)} {x y:V} {xv i:Value} {b:Bool} (hd:Bq ty=some d) (f:fq Δ x xv) (g:fq Δ y i) (a:Gi ty d x y=some b) (w:World) :
  (Op.equal ty xv i).run P0 w = .ok b w:=by
 cases d with
 |none=>exact(Ek f g a).1 9999 w
 | some fs=>
   obtain⟨h,j,c,k,l⟩:=Ge hd;simp only[Gi]at a;split at a
   ·cases f with|agg _ xs f=>cases g with|agg _ ys g=>
    have e:P0.fieldsOf ty=h:=by simp[Program.fieldsOf,j]
    have:=run_equalIn_struct (P:=P0) w 9999 ty xs ys (by rw[e];exact j) k;rw[e,c]at this;exact this.trans (Ka l f g a 9998 w)
   ·cases a
def Ri(Δ:Env):Option (Nat×V)->Option (Nat×Value)->Prop
 |none,none=>True
 |some (i,v),some (i',v')=>i=i'/\fq Δ v v'
 |_,_=>False
theorem BD{ty:Nat} {d:Option (List Field)} {k:V} {a:Value} (hd:Bq ty=some d) (c:fq Δ k a) (w:World):∀{es:List (V×V×Nat)} {im:List MapEntry} {i:Nat} {r:Option (Nat×V)},
  mZ Δ es im->mR ty d k es i=some r->∃r',(Instr.findAsking ty a im i).run P0 w = .ok r' w/\Ri Δ r r'
 |_,_,i,r,.nil,hv=>by simp[mR]at hv;subst hv;exact⟨none,rfl,trivial⟩
 | _,_,i,r,.cons k' v n e es im hk' hv' hb hs,hv=>by
   simp only[mR,ez]at hv;obtain⟨b,g,f⟩:=hv;have h:=O7 hd c hk' g w;simp only[Instr.findAsking,pR,h,oQ]
   cases b with
   |true=>cases f;exact⟨some (i,e.val),rfl,rfl,hv'⟩
   |false=>exact BD hd c w hs f
theorem GM{ty:Nat} {k:V} {a:Value} {ds:TypeDesc} (c:P0.underlying ty=some ds) (d:fq Δ k a):∀{es:List (V×V×Nat)} {im:List MapEntry} {i:Nat} {r:Option (Nat×V)},
  mZ Δ es im->mR ty none k es i=some r->∃r',Instr.findNow ds a im i=some r'/\Ri Δ r r'
 |_,_,i,r,.nil,hv=>by simp[mR]at hv;subst hv;exact⟨none,rfl,trivial⟩
 | _,_,i,r,.cons k' v n e es im hk' hv' hb hs,hv=>by
   simp only[mR,ez]at hv;obtain⟨b,g,f⟩:=hv;have h:=(Ek d hk' g).2 ds c;simp only[Instr.findNow,h]
   cases b with
   |true=>cases f;exact⟨some (i,e.val),rfl,rfl,hv'⟩
   |false=>exact GM c d hs f
theorem sC{ty:Nat} {d:Option (List Field)} {k:V} {f:Value} (hd:Bq ty=some d) (g:fq Δ k f) (w:World) {es:List (V×V×Nat)} {im:List MapEntry} {r:Option (Nat×V)}
  (h:mZ Δ es im) (a:mR ty d k es 0=some r):∃r',(Instr.findKey ty f im).run P0 w = .ok r' w/\Ri Δ r r':=by
 cases d with
 | none=>
   have j:=Iq hd;unfold zg at j
   cases i:P0.underlying ty with
   |none=>simp_all
   | some ds=>
     obtain⟨r',l,m⟩:=GM i g h a
     simp_all[Instr.findKey,fw]
 | some fs=>
   obtain⟨o,i,_,_,_⟩:=Ge hd
   cases h with
   | nil=>
     simp[mR]at a;subst a
     exact⟨none,by simp_all[Instr.findKey,fw,Instr.findNow],trivial⟩
   | cons k' v n e es im b c p q=>
     obtain⟨r',l,m⟩:=BD hd g w (.cons k' v n e es im b c p q) a
     simp_all[Instr.findNow,Instr.sameNow,Instr.findKey,pR,fw,oQ]
theorem zV{em:Bool} {q:Nat} {cs:List V} {lU:Array Value} (w:World) (hq:0<q) (hc:fT Δ cs lU.toList):∀(fs:List Field),(∀f∈fs,zg f.type=true/\f.name≠ "_")->
  (fs.all λf=>(Cf cs f.offset).isSome)=true->
  (forIn fs PUnit.unit (λf _=>if f.name≠ "_" then do
    let x <-part f.type lU f.offset
    Instr.checkKey em q f.type x
    pure (ForInStep.yield PUnit.unit)
   else pure (ForInStep.yield PUnit.unit):Field->PUnit->Sem (ForInStep PUnit))).run P0 w = .ok PUnit.unit w
 |[],_,_=>rfl
 | f ::fs,hf,hh=>by
   obtain⟨m,rfl⟩:∃m,q=m+1:=by simp_all
   obtain ⟨a,b⟩:=hf f (by simp);simp only[Rr,te]at hh;obtain⟨v,c⟩:=Option.isSome_iff_exists.1 hh.1;obtain⟨x,e,g⟩:=DW w a hc c;have d:(Instr.checkKey em (m+1) f.type x).run P0 w = .ok () w:=by
     unfold zg at a;split at a
     ·simp_all[Instr.checkKey,fw]
     ·simp_all[Instr.checkKey,fw]
     ·simp_all[Instr.checkKey,fw]
     ·cases a
   have h:=zV (em:=em) (q:=m+1) w hq hc fs (by simp_all) hh.2
   simp_all
theorem qo{ty:Nat} {d:Option (List Field)} {k:V} {e:Value} (em:Bool) (q:Nat) (hq:0<q) (w:World) (hd:Bq ty=some d) (f:fq Δ k e) (c:BW d k=true) :
  (Instr.checkKey em (q+1) ty e).run P0 w = .ok () w:=by
 cases d with
 | none=>
   have a:=Iq hd;unfold zg at a;split at a
   ·simp_all[Instr.checkKey,fw]
   ·simp_all[Instr.checkKey,fw]
   ·simp_all[Instr.checkKey,fw]
   simp_all
 | some fs=>
   obtain⟨g,i,b,_,h⟩:=Ge hd;simp only[BW]at c;split at c
   ·cases f with
    | agg cs lU hc=>
      have:=zV (em:=em) (q:=q) w hq hc fs h c;rw[<-b,Array.forIn_toList]at this
      simp_all[Instr.checkKey,pR,fw,oQ]
   ·cases c
end
section
variable{Δ:Env}{h:Hp}{w:World}{n:Nat}{t:Tm}{a:Act}
theorem zU(e:WR Δ h w) {l:Nat} {d:D} (f:Δ l=some d) {es:List (V×V×Nat)} {c:Nat} (g:h.get l=some (.map es c)) :
  ∃im,w.heap[d.b]? =some (.map im c)/\mZ Δ es im.toList:=by
 obtain⟨o,a,i⟩:=e.obj l d f;rw[g]at a;cases a;obtain⟨_,_,_,im,j,k,_⟩:=i;exact⟨im,j,k⟩
theorem Az(b:WR Δ h w) {l:Nat} {d:D} (e:Δ l=some d) {es:List (V×V×Nat)} {c:Nat} (f:h.get l=some (.map es c)):qX es c:=by
 obtain⟨o,a,g⟩:=b.obj l d e;rw[f]at a;cases a;obtain⟨_,_,_,_,_,_,i⟩:=g;exact i
def Xs(k:IntKind)(ks:List Int)(es:List (V×V×Nat)):Prop:=(∀e∈es,e.2.1 = .bool true/\∃n∈ks,e.1 = .int k n)/\∀n∈ks,∃e∈es,e.1 = .int k n
theorem MH{k:IntKind}:∀{im:List MapEntry},(∀e∈im,e.val = .bool true/\∃n,e.key = .int k n)->
  ∃es,mZ Δ es im/\(∀e∈es,e.2.1 = .bool true/\∃e'∈im,∃n,e.1 = .int k n/\e'.key = .int k n)/\∀e'∈im,∀n,e'.key = .int k n->∃e∈es,e.1 = .int k n
 |[],_=>⟨[],.nil,by simp,by simp⟩
 | e' :: im,hh=>by
   obtain⟨h,n,f⟩:=hh e' (by simp);obtain⟨es,i,j,l⟩:=MH (im:=im) λe d=>hh e (by simp[d]);refine⟨(.int k n,.bool true,e'.born)::es,.cons _ _ _ _ _ _ (by rw[f];exact .int k n) (by rw[h];exact .bool true) rfl i,λe d=>?_,λe d m g=>?_⟩
   ·rcases zq.1 d with rfl|d
    ·exact⟨rfl,e',by simp,n,rfl,f⟩
    ·obtain⟨a,x,b,c⟩:=j e d
     exact⟨a,x,by simp[b],c⟩
   ·rcases zq.1 d with rfl|d
    ·rw[f]at g;cases g;exact⟨(.int k n,.bool true,e.born),by simp,rfl⟩
    ·obtain⟨x,a,b⟩:=l e d m g
     exact⟨x,by simp[a],b⟩
theorem KB(q:WR Δ h w) {l:Nat} {d:D} (r:Δ l=some d) {k:IntKind} {ks:List Int} (s:h.get l=some (.Hi k ks)) :
  ∃es im c,w.heap[d.b]? =some (.map im c)/\mZ Δ es im.toList/\Xs k ks es:=by
 obtain⟨o,i,t⟩:=q.obj l d r;rw[s]at i;cases i;obtain⟨_,_,_,im,c,u,g,v⟩:=t;obtain⟨es,x,j,y⟩:=MH (Δ:=Δ) (k:=k) (im:=im.toList) λe f=>⟨(g e f).1,let⟨n,_,h⟩:=(g e f).2;⟨n,h⟩⟩
 refine⟨es,im,c,u,x,λe f=>⟨(j e f).1,?_⟩,λn z=>?_⟩
 ·obtain⟨_,e',a,n,b,c⟩:=j e f;obtain⟨_,m,A,p⟩:=g e' a;rw[c]at p;cases p;exact⟨n,A,b⟩
 ·obtain⟨e',a,b⟩:=v n z;exact y e' a n b
theorem B6{ks:List Int}{n:Int}:zE ks n=true↔n∈ks:=by simp[zE]
theorem Cq{kt:Nat} (hi:yx kt=true) (k:IntKind) (n:Int):∀{es:List (V×V×Nat)} (i:Nat),(∀e∈es,e.2.1 = .bool true/\∃n,e.1 = .int k n)->
  (mR kt none (.int k n) es i=some none/\∀e∈es,e.1≠ .int k n)\/∃j e,mR kt none (.int k n) es i=some (some (i+j,.bool true))/\es[j]? =some e/\e.1 = .int k n
 |[],i,_=> .inl ⟨rfl,by simp⟩
 | e ::es,i,c=>by
   obtain ⟨h,m,d⟩:=c e (by simp);have a:mR kt none (.int k n) (e::es) i=if n=m then some (some (i,e.2.1)) else mR kt none (.int k n) es (i+1):=by
     show oB (Gi kt none (.int k n) e.1) _=_;have l:Gi kt none (.int k n) (.int k m)=some (n == m):=by
       unfold yx at hi;show Ay kt (.int k n) (.int k m)=some (n == m);unfold Ay;split at hi
       ·rename_i o
        rw[o];cases k <;> rfl
       ·cases hi
     rw[d,l];by_cases hn:n=m
     ·rw[if_pos hn,I8.2 hn];rfl
     ·rw[if_neg hn,VW.2 hn];rfl
   by_cases hn:n=m
   ·subst hn
    rw[if_pos rfl,h]at a;exact .inr ⟨0,e,a,rfl,d⟩
   ·rw[if_neg hn]at a
    rcases Cq hi k n (es:=es) (i+1) λe b=>c e (by simp[b])with⟨f,g⟩|⟨j,e',f,g,p⟩
    ·refine .inl ⟨a.trans f,λe' b=>?_⟩
     rcases zq.1 b with rfl|b
     ·rw[d];intro c;cases c;exact hn rfl
     ·exact g e' b
    ·exact .inr ⟨j+1,e',by rw[a,f];congr 3;omega,g,p⟩
theorem run_getObj_map{r:Nat}{es:Array MapEntry}{c:Nat}(a:w.heap[r]? =some (.map es c)):(getObj r).run P0 w = .ok (.map es c) w:=by grind[getObj,Sem.run]
theorem KU{z:V} {a:Value} {ok:Bool} {r:Option (Nat×V)} {r':Option (Nat×Value)} (c:fq Δ z a) (b:Ri Δ r r') :
  fq Δ (found z ok r) (match r' with
   |some (_,v)=>if ok then .tuple #[v,.bool true] else v
   |none=>if ok then .tuple #[a,.bool false] else a):=by
 cases r with
 | none=>cases r' with
   |none=>cases ok
          ·exact c
          ·exact .tuple _ _ (.cons _ _ _ _ c (.one (.bool false)))
   |some _=>cases b
 | some x=>cases r' with
   |none=>cases b
   | some e=>
     obtain⟨_,d⟩:=b;cases ok
     ·exact d
     ·exact .tuple _ _ (.cons _ _ _ _ d (.one (.bool true)))
theorem LU(L : WR Δ h w) {M:Nat} {p q:PF} {ok:Bool} {N O:Value} {v:V} (S:∀v,p.f t h=some v->fq Δ v N) (hq:∀v,q.f t h=some v->fq Δ v O)
    (s:(AL M p q ok).f t h=some v):∃r,(Instr.lookup M N O ok).run P0 w = .ok r w/\fq Δ v r:=by
  unfold AL at s;split at s
  ·rename_i kt et P
   split at s
   ·rename_i d z hd T
    obtain⟨zv,U,A,_⟩:=vf T;simp only[ez,fW]at s;obtain⟨m,W,k,X,Q,a⟩:=s;have C:=S _ W;have i:=hq _ X;split at a
    ·cases a;cases C
     have B:=qo true 9999 (by omega) w hd i Q;have o:=sC hd i w mZ.nil (r:=none) (by rfl);obtain⟨r',o,D⟩:=o;have E:r' = none:=by cases r' <;> first|rfl|cases D
     subst E;refine⟨_,?_,KU (ok:=ok) (r:=none) (r':=none) (A Δ) trivial⟩;simp only[Instr.lookup,pR,fw P,oQ,DD]
     simp_all
    ·simp only [Ie]at a
     cases C with
     | map l Y R =>
       have F:∃es im c r,w.heap[Y.b]? =some (.map im c)/\mZ Δ es im.toList/\mR kt d k es 0=some r/\v=found z ok r:=by
         rcases a with⟨es,c,G,a⟩|⟨kd,ks,G,a⟩
         ·rw[ez]at a
          obtain⟨r,o,a⟩:=a;cases a;obtain⟨im,y,g⟩:=zU L R G;exact⟨es,im,c,r,y,g,o,rfl⟩
         ·obtain ⟨es,im,c,y,g,u,H⟩:=KB L R G
          unfold Fp at a;split at a
          ·rename_i k' n
           simp only[fW]at a;obtain⟨hi,I,a⟩:=a;obtain rfl:=uW I;cases a;rcases Cq hi k' n (es:=es) 0 λe g=>⟨(u e g).1,let⟨n,_,h⟩:=(u e g).2;⟨n,h⟩⟩ with⟨J,K⟩|⟨j,e,J,K,Z⟩
           ·have x:zE ks n=false:=by
              cases hx:zE ks n with
              |false=>rfl
              | true=>
                obtain⟨e,g,i⟩:=H n (B6.1 hx);exact absurd i (K e g)
            exact⟨es,im,c,none,y,g,J,by rw[x]⟩
           ·have x:zE ks n=true:=by
              obtain⟨_,m,C,i⟩:=u e (vS K);rw[Z]at i;cases i;exact B6.2 C
            exact⟨es,im,c,_,y,g,J,by rw[x];cases ok <;> rfl⟩
          ·cases a
       obtain⟨es,im,c,r,y,g,o,rfl⟩:=F;obtain⟨r',o,D⟩:=sC hd i w g o;have B:=qo im.isEmpty 9999 (by omega) w hd i Q;refine⟨_,?_,KU (ok:=ok) (A Δ) D⟩;simp only[Instr.lookup,pR,fw P,oQ,DD,run_getObj_map y,B,o]
       grind[pR,oQ,DD]
    ·cases a
   ·cases s
  ·cases s
theorem Sr(z:WR Δ h w) {ty:Nat} {o:Array Nat} (u:o[0]? =some ty) {rt:Nat} {p:PF} {xv:Value} {v:V} (y:∀v,p.f t h=some v->fq Δ v xv)
  (i:(hlen ty p).f t h=some v):∃r,(Builtin.len_ o rt #[xv]).run P0 w = .ok r w/\fq Δ v r:=by
 unfold hlen at i;split at i
 ·rename_i q;rw[ez]at i;obtain⟨x,n,g⟩:=i;have j:=y _ n;split at g
  ·cases g
   cases j with
   |str s=>exact⟨goInt s.size,by simp_all[Builtin.len_,fw],.int _ _⟩
  ·cases g
 ·rename_i e q;rw[ez]at i;obtain⟨x,n,g⟩:=i;have j:=y _ n;split at g
  ·rename_i lc off m;cases g;cases j;exact⟨goInt m,by simp_all[Builtin.len_,fw],.int _ _⟩
  ·cases g;cases j;exact⟨goInt 0,by simp_all[Builtin.len_,fw],.int _ _⟩
  ·cases g
 ·rename_i m e q;rw[ez]at i;obtain⟨x,n,g⟩:=i;cases g;exact⟨goInt m,by simp_all[Builtin.len_,fw],.int _ _⟩
 ·rename_i k e q;rw[ez]at i;obtain⟨x,n,g⟩:=i;have j:=y _ n;split at g
  ·cases g;cases j;exact⟨goInt 0,by simp_all[Builtin.len_,fw],.int _ _⟩
  ·rw[qO]at g;obtain⟨es,c,A,g⟩:=g;cases g
   cases j with
   | map l d B=>
     obtain ⟨im,C,D⟩:=zU z B A;have hlen:es.length=im.size:=by
       have:∀{a:List (V×V×Nat)} {b:List MapEntry},mZ Δ a b->a.length=b.length:=λh=>by induction h <;> simp_all
       simpa using this D
     refine⟨goInt im.size,by simp[Builtin.len_,u,fw q,run_getObj_map C],?_⟩;rw[hlen];exact .int _ _
  ·cases g
 ·cases i
theorem Jm{b:Bool} (w:World):∀{l:List V} {c:List Value} {x:V} {a:Value} {v:V},fq Δ x a->fT Δ l c->BI b x l=some v->
  ∃r,(c.foldlM (if b then Builtin.max2 else Builtin.min2) a).run P0 w = .ok r w/\fq Δ v r
 |[],_,x,a,v,hx,hl,hv=>by simp[BI]at hv;subst hv;cases hl;simp_all
 | y ::l,_,x,a,v,hx,hl,hv=>by
   cases hl with
   | cons _ h _ c e f=>
     unfold BI at hv;split at hv
     ·simp_all
     ·rename_i k p k' q r e1
      cases e1;cases hx;cases e;obtain⟨d,i,g⟩:=Jm w (.int k _) f hv;refine⟨d,?_,g⟩;rw[List.foldlM_cons];simp only[pR];cases b
      ·simp_all[J4,if_false,Builtin.min2,DD,oQ]
      simp_all[if_true,Builtin.max2,DD,oQ]
     ·cases hv
theorem G5{ty:Nat} (hi:isIface ty=some false):∃d,P0.underlying ty=some d/\∀m,d≠ .interface m:=by
 grind[isIface]
theorem LM{p:PF} {a xT:Nat} {ok:Bool} {xv:Value} {v:V} (w:World) (n:∀v,p.f t h=some v->fq Δ v xv)
  (c:(A5 p a ok).f t h=some v):∃r,(Instr.typeAssert xv xT a ok).run P0 w = .ok r w/\fq Δ v r:=by
 unfold A5 at c;split at c
 ·rename_i z hi o;obtain⟨m,q,g,_⟩:=vf o;obtain⟨d,i,hd⟩:=G5 hi;rw[ez]at c;obtain⟨x,s,b⟩:=c;have j:=n _ s;split at b
  ·rename_i u y;cases b
   cases j with
   | iface _ _ k l=>
     rw[M9];by_cases e:u=a
     ·have e':Nat.beq u a=true:=by rw[e];exact Oy _
      rw[if_pos e'];refine⟨.tuple #[k,.bool true],?_,.tuple _ _ (.cons _ _ _ _ l (.one (.bool true)))⟩;simp only[Instr.typeAssert,pR,fw i,oQ]
      simp_all
     ·have e':¬Nat.beq u a=true:=by simp_all
      rw[if_neg e'];refine⟨.tuple #[m,.bool false],?_,.tuple _ _ (.cons _ _ _ _ (g Δ) (.one (.bool false)))⟩;simp only[Instr.typeAssert,pR,fw i,oQ]
      simp_all
  ·rename_i u y;rw[fW]at b;obtain⟨e,b⟩:=b;cases b;have e:=tS e
   cases j with
   | iface _ _ k l=>
     refine⟨k,?_,l⟩;simp only[Instr.typeAssert,pR,fw i,oQ]
     simp_all
  ·cases b;cases j;refine⟨.tuple #[m,.bool false],?_,.tuple _ _ (.cons _ _ _ _ (g Δ) (.one (.bool false)))⟩;simp only[Instr.typeAssert,pR,fw i,oQ]
   simp_all
  ·cases b
 ·cases c
theorem Qu{c p q:PF} {d pv e:Value} {v:V} (w:World) (hc:∀v,c.f t h=some v->fq Δ v d) (k:∀v,p.f t h=some v->fq Δ v pv) (hq:∀v,q.f t h=some v->fq Δ v e)
  (a:(EP c p q).f t h=some v):∃r,(do pure (Next.value (if <-asBool d then pv else e)):Sem Next).run P0 w = .ok (.value r) w/\fq Δ v r:=by
 unfold EP at a;simp only[ez]at a;obtain⟨x,i,g⟩:=a;have j:=hc _ i;split at g
 ·rename_i b;cases j;cases b
  ·simp_all[asBool]
  simp_all[asBool]
 ·cases g
theorem Jt{p:PF} {x:Operand} {v:V} (w:World) (i:∀v,p.f t h=some v->fq Δ v (a.eval x)) (c:(uX p).f t h=some v) {dst ty pos af gd} :
  (execOp a.eval {dst:=dst,op:= .nilCheck x,type:=ty,pos:=pos,after:=af,guard:=gd}).run P0 w = .ok (.value (a.eval x)) w/\fq Δ v (a.eval x):=by
 unfold uX at c;rw[ez]at c;obtain⟨y,g,b⟩:=c;have e:=i _ g;simp only[execOp];generalize a.eval x=xv at e⊢;split at b
 ·cases b;cases e with|ptr _ _ d hd=>exact⟨rfl,.ptr _ _ d hd⟩
 ·cases b;cases e with|func _ _ _ p' q' g b=>exact⟨rfl,.func _ _ _ p' q' g b⟩
 ·cases b;cases e with|iface _ _ v' c=>exact⟨rfl,.iface _ _ v' c⟩
 ·cases b
theorem Kh{p:PF} {i:Nat} {xv:Value} {v:V} (w:World) (d:∀v,p.f t h=some v->fq Δ v xv) (a:(AA p i).f t h=some v) :
  ∃r,(Instr.extract xv i).run P0 w = .ok r w/\fq Δ v r:=by
 unfold AA at a;rw[ez]at a;obtain⟨y,e,b⟩:=a;have g:=d _ e;split at b
 ·cases g with
  | tuple vs j c=>
    obtain⟨x,k,l⟩:=c.get _ _ (Ha b)
    simp_all[Instr.extract]
 ·cases b
theorem LN{cs:List V} {xs:List Value} {s:List UInt8} (e:fT Δ cs xs) (f:bytesOf cs=some s):xs=(s.map λb=>(b.toNat:Int)).map (Value.int .u8):=by
 induction cs generalizing xs s with
 |nil=>cases e;grind[bytesOf]
 | cons c cs h=>
   simp only[bytesOf,ez]at f;obtain⟨b,a,l,i,j⟩:=f;cases j
   cases e with
   | cons _ x _ xs k d=>
     rw[h d i];unfold byteOf at a;split at a
     ·rename_i m
      rw[fW]at a;obtain⟨g,n⟩:=a;cases n;cases k;have o:m<256:=by rw[JK]at g;exact g
      have:(UInt8.ofNat m).toNat=m:=by simp;omega
      grind
     ·cases a
theorem LY(l:List UInt8):∀(r:ByteArray),((l.map λb=>(b.toNat:Int)).foldl (λr n=>r.push (UInt8.ofNat n.toNat)) r).data.toList=r.data.toList++l:=by
 induction l <;> simp_all
theorem G1{src dst e:Nat} (i:P0.underlying src=some (.slice e)) (hd:P0.underlying dst=some .string) (j:P0.underlying e=some (.int .u8)) {ad:Option Addr} {len cap:Nat} {cs:List V} {s:List UInt8}
  (d:bytesOf cs=some s) (hc:∀b,ad=some b->∃xs,(loadCells b len).run P0 w = .ok (Array.mk xs) w/\fT Δ cs xs) (f:ad=none->s=[]) :
  ∃x,(convert src dst (.slice ad len cap)).run P0 w = .ok x w/\fq Δ (.str s) x:=by
 cases ad with
 | none=>
   cases f rfl
   exact⟨.string .empty,by simp_all[convert,fw,Conv.bytesToString],.str ByteArray.empty⟩
 | some b=>
   obtain⟨xs,c,g⟩:=hc b rfl;rw[LN g d]at c;have h:=run_bytesToString (P:=P0) w b len cap _ c;generalize hB:(List.foldl (λr n=>ByteArray.push r (UInt8.ofNat n.toNat)) ByteArray.empty (List.map (λb=>(b.toNat:Int)) s))=B at h;have a:B.data.toList=s:=by rw[<-hB,LY];rfl
   refine⟨.string B,?_,by rw[<-a];exact .str B⟩
   simp_all[convert,pR,fw,oQ]
theorem rH(c:WR Δ h w) {l:Nat} {d:D} (e:Δ l=some d) {off m:Nat} {cs:List V} (f:Bp h l off m=some cs) :
  ∃xs,(loadCells ⟨d.b,d.base+off,none⟩ m).run P0 w = .ok (Array.mk xs) w/\fT Δ cs xs:=by
 obtain⟨a,i,g⟩:=CN c e f;exact⟨a.toList,by omega,g⟩
theorem JU{l off m:Nat} {cs:List V} (a:Bp h l off m=some cs):cs.length=m:=by
 grind[Bp,jB,fW,sub_eq]
theorem Ny(D:WR Δ h w) {src dst e:Nat} {p:PF} {xv:Value} {v:V} (g:P0.underlying src=some (.slice e)) (hd:P0.underlying dst=some .string) (m:∀v,p.f t h=some v->fq Δ v xv) (a:(EI src dst p).f t h=some v) :
  ∃r,(convert src dst xv).run P0 w = .ok r w/\fq Δ v r:=by
 unfold EI at a;rw[g,hd]at a;simp only at a;split at a
 ·rename_i j;simp only[ez]at a;obtain⟨x,n,c⟩:=a;have k:=m _ n;split at c
  ·cases c;cases k;exact G1 (Δ:=Δ) (w:=w) (src:=src) (dst:=dst) (e:=e) (ad:=none) (len:=0) (cap:=0) (cs:=[]) (s:=[]) g hd j rfl (by simp_all) (by simp_all)
  ·rename_i l off len;simp only[ez]at c;obtain⟨cs,q,s,u,y⟩:=c;cases y
   cases k with
   | slice _ _ _ cap o d z E A B=>
     have C:∃xs,(loadCells ⟨d.b,o,none⟩ len).run P0 w = .ok (Array.mk xs) w/\fT Δ cs xs:=by
       rcases B with⟨rfl,_,_⟩|⟨rfl,_⟩
       ·grind[rH]
       ·have:len=0:=by omega
        subst this;have i:cs=[]:=US (JU q);subst i;exact⟨[],by rfl,.nil⟩
     exact G1 (Δ:=Δ) (w:=w) (src:=src) (dst:=dst) (e:=e) (ad:=some ⟨d.b,o,none⟩) (len:=len) (cap:=cap) g hd j u (by simp_all) (by simp_all)
  ·cases c
 ·cases a
theorem Rh(J:WR Δ h w) (H:TR Δ n t a) {o:Oper} {v:V} (g:(gX o).f t h=some v):∃x,(execOp a.eval o).run P0 w = .ok (.value x) w/\fq Δ v x:=by
 obtain⟨dst,op,ty,pos,af,gd⟩:=o;have A:∀(x:Operand) v,(oO x).f t h=some v->fq Δ v (a.eval x):=by grind[jC]
 cases op with
 |move x=>exact⟨_,rfl,A x v g⟩
 |assign x=>exact⟨_,rfl,A x v g⟩
 |pick c p q=>exact Qu w (A c) (A p) (A q) g
 | load ty W=>
   obtain⟨x,D,B⟩:=FW J (A W) g
   exact⟨x,kh D,B⟩
 | nilCheck x=>
   obtain⟨D,B⟩:=Jt w (A x) g (dst:=dst) (ty:=ty) (pos:=pos) (af:=af) (gd:=gd)
   simp_all
 | binOp op Z x y yt=>
   simp only[gX,ez]at g;obtain⟨p,D,q,B,K⟩:=g;obtain⟨r,u,z⟩:=RK (X:=x) (Y:=y) w (A x _ D) (A y _ B) K
   exact⟨r,kh u,z⟩
 | unOp op Z x=>
   simp only[gX,ez]at g;obtain⟨p,D,B⟩:=g;obtain⟨r,u,z⟩:=TH w (A x _ D) B
   exact⟨r,kh u,z⟩
 | convert src d x=>
   have L:∃r,(convert src d (a.eval x)).run P0 w = .ok r w/\fq Δ v r:=by
     by_cases hsl:∃e,P0.underlying src=some (.slice e)/\P0.underlying d=some .string
     ·obtain⟨e,D,B⟩:=hsl
      exact Ny J D B (A x) g
     ·exact PI w hsl (A x) g
   obtain⟨r,u,z⟩:=L
   exact⟨r,kh u,z⟩
 | build ty N=>
   obtain⟨r,u,z⟩:=Nu H g;refine⟨r,kh ?_,z⟩;rw[<-u];congr 2
   grind
 | makeFunc fn first U=>
   cases fn with
   | func f=>
     simp only[gX,ez]at g;obtain⟨p,D,q,B,K⟩:=g;cases K;refine⟨_,rfl,.func f p q _ _ ?_ ?_⟩
     ·have:=wz H D;simp_all
     ·have:=wz H B;simp_all
   |_=>cases g
 | slice ty x lo hi mx=>
   cases mx with
   | none=>
     obtain⟨r,u,z⟩:=Of J H (A x) g
     exact⟨r,kh u,z⟩
   |some _=>cases g
 | fieldAddr s x f=>
   obtain⟨r,u,z⟩:=Ht w (A x) g
   exact⟨r,kh u,z⟩
 | field s x f=>
   obtain⟨r,u,z⟩:=N0 w (A x) g
   exact⟨r,kh u,z⟩
 | indexAddr ty x i=>
   obtain⟨r,u,z⟩:=HE w (A x) (A i) g
   exact⟨r,kh u,z⟩
 | index ty x i=>
   obtain⟨r,u,z⟩:=NN w (A x) (A i) g
   exact⟨r,kh u,z⟩
 | lookup ty m k ok=>
   obtain⟨r,u,z⟩:=LU J (A m) (A k) g
   exact⟨r,kh u,z⟩
 | extract x i=>
   obtain⟨r,u,z⟩:=Kh w (A x) g
   exact⟨r,kh u,z⟩
 | makeInterface ty x=>
   simp only[gX]at g;split at g
   ·rename_i hi
    obtain⟨d,hu,hd⟩:=G5 hi;simp only[ez]at g;obtain⟨p,D,B⟩:=g;cases B;refine⟨.iface ty (a.eval x),kh ?_,.iface _ _ _ (by simp_all)⟩;simp only[Instr.makeInterface,pR,fw hu,oQ];rfl
   ·cases g
 | typeAssert x xT I ok=>
   obtain⟨r,u,z⟩:=LM (xT:=xT) w (A x) g
   exact⟨r,kh u,z⟩
 | call c =>
   obtain⟨F,args,E⟩:=c;simp only[gX]at g
   cases F with
   | builtin b=>
     cases b <;> try (cases g;done)
     case len=>
       simp only at g;split at g
       ·rename_i x O aa j M
        have P:E[0]? =some O:=by rw[<-QS,M];rfl
        obtain⟨r,u,z⟩:=Sr J (rt:=ty) P (A x) g;refine⟨r,?_,z⟩;have Q:args.map a.eval = #[a.eval x]:=by apply Array.ext';simp[j]
        simp only[execOp,resolve,Q];exact kh u
       ·cases g
     case min=>
       simp only[ez]at g;obtain⟨l,D,B⟩:=g;split at B
       ·rename_i x r
        have C:=wz H D
        cases j:args.toList.map a.eval with
        |nil=>rw[j]at C;cases C
        | cons R r'=>
          rw[j]at C
          cases C with
          | cons _ _ _ _ S T=>
            obtain⟨G,K,u⟩:=Jm w S T B;refine⟨G,?_,u⟩;have Q:(args.map a.eval).toList=R::r':=by simpa using j
            simp only[execOp,resolve];refine kh ?_
            grind[Builtin.min_]
       ·cases B
     case max=>
       simp only[ez]at g;obtain⟨l,D,B⟩:=g;split at B
       ·rename_i x r
        have C:=wz H D
        cases j:args.toList.map a.eval with
        |nil=>rw[j]at C;cases C
        | cons R r'=>
          rw[j]at C
          cases C with
          | cons _ _ _ _ S T=>
            obtain⟨G,K,u⟩:=Jm w S T B;refine⟨G,?_,u⟩;have Q:(args.map a.eval).toList=R::r':=by simpa using j
            simp only[execOp,resolve];refine kh ?_
            grind[Builtin.max_]
       ·cases B
   |value f=>cases g
   |invoke r m=>cases g
 |_=>cases g
end
def RW(Δ:Env)(b:Nat):Prop:=∃l d,Δ l=some d/\d.ro=false/\d.b=b
structure FR (Δ a:Env) (w w':World):Prop where
 le:Δ.le a
 size:w.heap.size<=w'.heap.size
 os:w'.os=w.os
 tape:w'.tape=w.tape
 output:w'.output=w.output
 eC:∀b,b<w.heap.size->¬RW Δ b->w'.heap[b]? =w.heap[b]?
 new:∀l d,a l=some d->Δ l=some d\/w.heap.size<=d.b\/RW Δ d.b
theorem FR.refl(Δ:Env)(w:World):FR Δ Δ w w:=⟨Env.le_refl _,je _,rfl,rfl,rfl,by simp_all,by simp_all⟩
theorem FR.trans{Δ m c:Env} {w w' e:World} (h:FR Δ m w w') (h':FR m c w' e):FR Δ c w e where
 le:=Env.le_trans h.le h'.le
 size:=DE h.size h'.size
 os:=h'.os.trans h.os
 tape:=h'.tape.trans h.tape
 output:=h'.output.trans h.output
 eC:=λb n o=>by
  rw[h'.eC b (yG n h.size) ?_,h.eC b n o];rintro⟨l,d,f,r,rfl⟩;rcases h.new l d f with a|a|a
  ·exact o ⟨l,d,a,r,rfl⟩
  ·omega
  simp_all
 new:=λl d f=>by
  rcases h'.new l d f with a|a|⟨p,q,g,i,j⟩
  ·exact h.new l d a
  ·exact .inr (.inl (DE h.size a))
  ·rcases h.new p q g with k|k|k
   ·exact .inr (.inr ⟨p,q,k,i,j⟩)
   ·omega
   simp_all
theorem qQ(h:Hp) (o:O) (l:Nat):(h.new o).get l=if h.next=l then some o else h.get l:=by
 rw[Hp.get_eq,Hp.get_eq];unfold Hp.new;simp only[Tr.CC]
 grind
theorem iP{h:Hp} {l:Nat} (o:O) (m:Nat) (a:l<h.next):(h.put l o).get m=if l=m then some o else h.get m:=by
 rw[Hp.get_eq,Hp.get_eq];unfold Hp.put;simp only[Tr.CC]
 grind
def Env.set(Δ:Env)(l:Nat)(d:D):Env:=λm=>if m=l then some d else Δ m
theorem Env.tP{Δ:Env} {l:Nat} {d:D} (h:Δ l=none):Δ.le (Δ.set l d):=λm e a=>by
 unfold Env.set
 grind
theorem Env.rh(Δ:Env)(l:Nat)(d:D):(Δ.set l d) l=some d:=if_pos rfl
theorem Env.jO{Δ:Env} {l m:Nat} {d e:D} (h:(Δ.set l d) m=some e):(m=l/\e=d)\/(m≠l/\Δ m=some e):=by
 unfold Env.set at h
 grind
theorem WR.AV{Δ:Env} {h:Hp} {w:World} (a:WR Δ h w):Δ h.next=none:=by
 cases hd:Δ h.next with
 |none=>rfl
 |some d=>exact absurd (a.fresh _ _ hd) (TM _)
theorem heap_alloc(w:World) (ob:Obj) (b:Nat):(w.alloc ob).heap[b]? =if b=w.heap.size then some ob else w.heap[b]?:=by
 grind[World.alloc]
theorem xS.step{Δ a:Env} {w w':World} (h:xS Δ w) (i:∀b,b<w.heap.size->¬RW Δ b->w'.heap[b]? =w.heap[b]?) (j:∀l d,a l=some d->d.ro=false->Δ l=some d\/w.heap.size<=d.b\/RW Δ d.b):xS a w':=by
 intro g c f;obtain⟨⟨e,fr,k⟩,m⟩:=h g c f
 grind[PG,RW]
theorem WR.lay{Δ:Env} {h:Hp} {w:World} (c:WR Δ h w) {l:Nat} {o:O} {d:D} {ob:Obj} (v:Δ l=none) (y:l<h.next) (z:h.get l=some o) (A:d.b=w.heap.size)
  (B:Kv (Δ.set l d) d o (some ob)):WR (Δ.set l d) h (w.alloc ob) where
 fresh:=λm e a=>by
  rcases Env.jO a with⟨rfl,rfl⟩|⟨_,a⟩
  ·exact y
  ·exact c.fresh m e a
 vT:=λm e a=>by
  simp only[World.size_alloc];rcases Env.jO a with⟨rfl,rfl⟩|⟨_,a⟩
  ·omega
  ·have:=c.vT m e a;omega
 obj:=λm e a=>by
  rcases Env.jO a with⟨rfl,rfl⟩|⟨_,a⟩
  ·refine⟨o,z,?_⟩;rw[heap_alloc,if_pos A];exact B
  ·obtain⟨C,f,j⟩:=c.obj m e a;refine⟨C,f,?_⟩;rw[heap_alloc,if_neg (K3 (c.vT m e a))];exact j.mono (Env.tP v)
 apart:=λm x e e' p E a k pQ n q r i s=>by
  rcases Env.jO a with⟨f,j⟩|⟨_,f⟩ <;> rcases Env.jO k with⟨t,F⟩|⟨_,t⟩
  ·omega
  ·have:=c.vT x e' t;grind
  ·have:=c.vT m e f;grind
  ·exact c.apart m x e e' p E f t pQ n q r i s
 Bw:=λg p u n=>by
  obtain⟨e,f,j⟩:=c.Bw g p u n;exact⟨e,Env.tP v _ _ f,j⟩
 tz:=c.tz
 Ly:=c.Ly.step (by simp_all[heap_alloc,if_neg,K3]) λm e a _=>by
  rcases Env.jO a with⟨rfl,rfl⟩|⟨_,a⟩
  ·omega
  simp_all
theorem WR.more{Δ:Env} {h:Hp} {w:World} (a:WR Δ h w) (o:O):WR Δ (h.new o) w where
 fresh:=λl d i=>SI (a.fresh l d i)
 vT:=a.vT
 obj:=λl d i=>by
  obtain⟨n,q,r⟩:=a.obj l d i;refine⟨n,?_,r⟩;rw[qQ,if_neg (Nat.ne_of_gt (a.fresh l d i))];exact q
 apart:=λm s e e' p t k b pQ c f=>by
  rw[qQ,if_neg (Nat.ne_of_gt (a.fresh _ _ k))]at c;rw[qQ,if_neg (Nat.ne_of_gt (a.fresh _ _ b))]at f;exact a.apart m s e e' p t k b pQ c f
 Bw:=λg p j c=>by
  rw[qQ,if_neg (by have:=a.tz;omega)]at c;exact a.Bw g p j c
 tz:=QQ a.tz
 Ly:=a.Ly
theorem FR.lay{Δ:Env} {w:World} {l:Nat} {d:D} {ob:Obj} (c:Δ l=none) (f:d.b=w.heap.size):FR Δ (Δ.set l d) w (w.alloc ob) where
 le:=Env.tP c
 size:=by simp
 os:=rfl
 tape:=rfl
 output:=rfl
 eC:=by simp_all[heap_alloc,if_neg,K3]
 new:=λm e a=>by
  rcases Env.jO a with⟨rfl,rfl⟩|⟨_,a⟩
  ·omega
  simp_all
def Made(Δ:Env) (ob:O) (mk:Nat->V) (a:Obj) (c:Nat->Value):Prop:=∀l b,Δ l=none->∃d,d.b=b/\Kv (Δ.set l d) d ob (some a)/\fq (Δ.set l d) (mk l) (c b)
theorem wM{Δ:Env} {d:D} {cs:List V} {c:Array Value} {e:Nat} (a:c.size=d.NO) (b:d.base=0) (f:cs.length<=d.NO) (hc:∀(i:Nat) (v:V),cs[i]? =some v->∃x,c[i]? =some x/\fq Δ v x) :
  AW Δ d cs (some (.cells c e (0,0))):=
 ⟨c,e,(0,0),rfl,a,λ_=> .inl rfl,by omega,λi v hi=>by rw[b,Dr];exact hc i v hi⟩
theorem ME{Δ:Env} {e:Nat} {v:V} {xv:Value} {ob:O} {mk:Nat->V} (f:fq Δ v xv) (a:tQ e v=some (ob,mk)) :
  Made Δ ob mk (.cells xv.cells e) (λb=> .pointer (some ⟨b,0,none⟩)):=by
 unfold tQ at a;rw[fW]at a;obtain⟨_,a⟩:=a;cases a;intro l b h;have hc:=f.cells;have c:=Env.tP (d:=⟨b,0,1,v.cells.length,xv.cells.size,false,0⟩) h;refine⟨⟨b,0,1,v.cells.length,xv.cells.size,false,0⟩,rfl,⟨rfl,rfl,rfl,rfl,λ_=>?_⟩,?_⟩
 ·refine wM rfl rfl (TF (by first|(simpa using hc.length)|(simpa using g.length))) λi u hi=>?_;obtain⟨x,f,g⟩:=hc.get i u hi;exact⟨x,by simp_all,g.mono c⟩
 ·exact fq.ptr l 0 ⟨b,0,1,v.cells.length,xv.cells.size,false,0⟩ (Env.rh _ _ _)
theorem A3{a size lD:Nat} {z:V} (h:elemOf a=some (size,lD,z)) :
  tR a=some size/\RI a=some lD/\zeroV a=some z/\0<size/\z.cells.length=size/\fZ z.cells=true:=by
 grind[elemOf,ez,fW,JK,tS]
theorem vB{t e:Nat} (h:AX t=some e):P0.underlying t=some (.slice e):=by
 grind[AX]
theorem K7(z:List V):∀(m i:Nat),(xr m z)[i]? =if i<m*z.length then z[i % z.length]? else none
 |0,i=>by simp[xr]
 | m + 1,i=>by
   simp only[xr,List.getElem?_append];by_cases a:i<z.length
   ·rw[if_pos a,if_pos (by grind),Nat.mod_eq_of_lt a]
   ·rw[if_neg a,K7 z m]
    have e:i % z.length=(i-z.length) % z.length:=by
      rw[Nat.mod_eq_sub_mod (by omega)]
    grind
theorem wy(z:List V):∀m,(xr m z).length=m*z.length
 |0=>by simp[xr]
 |m+1=>by simp[xr,wy z m,OC,Nat.add_comm]
theorem Kw{Δ:Env} {z:List V} {a:Array Value} (b:fT Δ z a.toList) (h0:0<z.length) (m:Nat):fT Δ (xr m z) ((Array.range (m*z.length)).map λi=>a[i % a.size]!).toList:=by
 have hlen:=b.length;simp only[OB]at hlen;refine fT.II (by simp[wy]) λi v hi=>?_;rw[K7]at hi;by_cases h:i<m*z.length
 ·rw[if_pos h]at hi;obtain⟨x,c,d⟩:=b.get _ _ hi
  grind
 simp_all
section
variable{Δ:Env}{h:Hp}{w:World}{n:Nat}{t:Tm}{a:Act}
theorem KO(Z : TR Δ n t a) {o:Oper} {ob:O} {mk:Nat->V} (g:(nD o).f t=some (ob,mk)) :
    ∃mo mv,(∀w,(execOp a.eval o).run P0 w = .ok (.value (mv w.heap.size)) (w.alloc mo))/\Made Δ ob mk mo mv:=by
  obtain⟨dst,op,ty,pos,af,gd⟩:=o
  cases op with
  | alloc e=>
    simp only[nD]at g;split at g
    ·rename_i z S
     obtain⟨A,J,D,_⟩:=vf S;refine⟨_,_,λw=>kh (x:= .pointer (some ⟨w.heap.size,0,none⟩)) ?_,ME (D Δ) g⟩
     simp_all[Instr.alloc,newVar,newRow]
    ·cases g
  | box e x=>
    simp only[nD,ez]at g;obtain⟨v,T,R⟩:=g;refine⟨_,_,λw=>kh (x:= .pointer (some ⟨w.heap.size,0,none⟩)) ?_,ME (z9 Z T) R⟩
    rfl
  | buildSlice U len j=>
    simp only[nD]at g;split at g
    ·rename_i y K
     have hu:=vB K;split at g
     ·rename_i size lD z he
      obtain⟨hs,_,S,W,F,_⟩:=A3 he;obtain⟨A,J,D,_⟩:=vf S;split at g
      ·rename_i E
       have aj:len*size<=16777216:=EY E;simp only[zQ,ez,fW]at g;obtain⟨ps,T,cs,R,_,L⟩:=g;cases L;have G:=(D Δ).cells;have B:=Kw G (by omega) len;have ak:A.cells.size=size:=by have:=G.length;simp only[OB]at this;omega
       have s:fT Δ (xr len z.cells) ((Array.range (len*size)).map λi=>(if len*size=0 then(#[]:Array Value) else A.cells)[i % (if len*size=0 then(#[]:Array Value) else A.cells).size]!).toList:=by
         by_cases h0:len*size=0
         ·simp_all
         ·simp_all
       obtain⟨lU,hf,hr⟩:=FC (yD Z T) s R;refine⟨.cells lU y,λb=> .slice (some ⟨b,0,none⟩) len len,λw=>kh (w:=w) (x:= .slice (some ⟨w.heap.size,0,none⟩) len len) ?_,?_⟩
       ·have C:(j.map λ(x:Nat×Operand)=>(x.1,a.eval x.2)).toList=j.toList.map λx=>(x.1,a.eval x.2):=by simp
        have aa:¬(len*size>2 ^ 24):=by omega
        have X:(if len*size=0 then(pure #[]:Sem (Array Value)) else do pure (<-zeroValue y).cells).run P0 w = .ok (if len*size=0 then(#[]:Array Value) else A.cells) w:=by
          by_cases h0:len*size=0
          ·simp_all
          ·simp_all
        simp only[Instr.buildSlice,pR,fw hu,rm hs,oQ,Sem.run_ite];rw[if_neg aa];simp only[DD,oQ,pR];clear s X;by_cases h0:len*size=0
        ·simp only[if_pos h0]at hf⊢
         rw[C];have M:Instr.fill (λi=>some (i*size,size)) (Array.map (λx=>(#[]:Array Value)[x % (#[]:Array Value).size]!) (Array.range (len*size))) (List.map (λx=>(x.1,a.eval x.2)) j.toList)=some lU:=hf;rw[M];rfl
        ·simp only[if_neg h0,J,oQ]at hf⊢
         rw[C];have M:Instr.fill (λi=>some (i*size,size)) (Array.map (λx=>A.cells[x % A.cells.size]!) (Array.range (len*size))) (List.map (λx=>(x.1,a.eval x.2)) j.toList)=some lU:=hf;rw[M];rfl
       ·intro l b hn
        have N:=hr.length;simp only[OB]at N;have al:cs.length=len*size:=by
          have h5:∀{place:Nat->Option (Nat×Nat)} {ps:List (Nat×V)} {c c':List V},wH place c ps=some c'->c'.length=c.length:=by
            intro place ps
            induction ps with
            |nil=>grind[wH]
            | cons p ps ih=>
              intro c c' h;simp only[wH,ez,fW]at h;obtain⟨q,_,_,am,h6,h7⟩:=h;rw[ih h7,(EB h6).1]
          rw[h5 R,wy,F]
        have E:=Env.tP (d:=⟨b,0,size,cs.length,lU.size,false,0⟩) hn;refine⟨⟨b,0,size,cs.length,lU.size,false,0⟩,rfl,⟨rfl,rfl,rfl,rfl,λ_=>?_⟩,?_⟩
        ·refine wM rfl rfl (by simp_all) λi u hi=>?_
         obtain⟨x,hx,P⟩:=hr.get i u hi;exact⟨x,by simp_all,P.mono E⟩
        ·refine fq.slice l 0 len len 0 ⟨b,0,size,cs.length,lU.size,false,0⟩ (Env.rh _ _ _) rfl (je _) (.inl ⟨rfl,?_,?_⟩)
         ·simp_all
         simp_all
      ·cases g
     ·cases g
    ·cases g
  | makeSlice U m c=>
    simp only[nD]at g;split at g
    ·rename_i y K
     have hu:=vB K;split at g
     ·rename_i size lD z he
      obtain⟨hs,Q,S,W,F,_⟩:=A3 he;obtain⟨A,J,D,i,hi,an⟩:=vf S;simp only[ez]at g;obtain⟨mv,T,cv,R,L⟩:=g;have hm:=z9 Z T;have hc:=z9 Z R;unfold gS at L;split at L
      ·rename_i H c'
       simp only[fW]at L;obtain⟨h4,h5,h6,h7⟩:=L;cases h7;have ab:H<=c':=EY h4;have ao:c'*lD<=281474976710656:=EY h5;have ac:c'<=1099511627776:=EY h6;have ae:i.bytes=lD:=by
         unfold RI at Q;rw[ez]at Q;obtain⟨i',Y,hb⟩:=Q;rw[hi]at Y;cases Y;simpa using hb
       have G:=(D Δ).cells;have B:=Kw G (by omega) c';rw[F]at B;have ag:a.eval m = .int .i64 (H:Int):=by
         generalize a.eval m=x at hm;cases hm;rfl
       have ah:a.eval c = .int .i64 (c':Int):=by
         generalize a.eval c=x at hc;cases hc;rfl
       have wr:∀k:Nat,k<=1099511627776->IntKind.i64.wrap (k:Int)=k:=by grind[IntKind.wrap,IntKind.bits,IntKind.signed]
       refine⟨.cells ((Array.range (c'*size)).map λi=>A.cells[i % A.cells.size]!) y,λb=> .slice (some ⟨b,0,none⟩) H c',λw=>kh (w:=w) (x:= .slice (some ⟨w.heap.size,0,none⟩) H c') ?_,?_⟩
       ·rw[ag,ah]
        have e1:((i.bytes:Int)*(c':Int)>2 ^ 48)=False:=by
          rw[ae];have:(lD:Int)*(c':Int)=((c'*lD:Nat):Int):=by rw[Nat.mul_comm];simp
          rw[this];simp;omega
        have s:(if c'*size=0 then(pure #[]:Sem (Array Value)) else do pure (<-zeroValue y).cells).run P0 w = .ok (if c'*size=0 then(#[]:Array Value) else A.cells) w:=by
          by_cases h0:c'*size=0
          ·simp_all
          ·simp_all
        have I:((Array.range (c'*size)).map λi=>(if c'*size=0 then(#[]:Array Value) else A.cells)[i % (if c'*size=0 then(#[]:Array Value) else A.cells).size]!)=((Array.range (c'*size)).map λi=>A.cells[i % A.cells.size]!):=by
          by_cases h0:c'*size=0
          ·simp_all
          ·simp_all
        have c1:¬((c':Int)<0):=by omega
        have c2:¬((H:Int)<0):=by omega
        have c3:¬((H:Int)>(c':Int)):=by omega
        simp only[Instr.makeSlice,pR,fw hu,oQ,asInt,asIntOf,DD,typeInfo,run_program,hi,wr H (by omega),wr c' ac,e1,c1,c2,c3,decide_false,Bool.or_false,J4,if_false,run_askRoom,rm hs,Int.toNat_natCast];clear s;by_cases h0:c'*size=0
        ·simp only[if_pos h0,newRow,run_newObj,pR,DD,oQ]at I⊢
         rw[I];rfl
        simp_all[if_neg,newRow,run_newObj,pR,DD,oQ]
       ·intro l b hn
        have N:=B.length;simp only[OB]at N;have ai:(xr c' z.cells).length=c'*size:=by rw[wy,F]
        have E:=Env.tP (d:=⟨b,0,size,(xr c' z.cells).length,c'*size,false,0⟩) hn;refine⟨⟨b,0,size,(xr c' z.cells).length,c'*size,false,0⟩,rfl,⟨rfl,rfl,rfl,rfl,λ_=>?_⟩,?_⟩
        ·refine wM (by simp) rfl (TF ai) λi u hi=>?_
         obtain⟨x,hx,P⟩:=B.get i u hi;exact⟨x,by grind,P.mono E⟩
        ·refine fq.slice l 0 H c' 0 ⟨b,0,size,(xr c' z.cells).length,c'*size,false,0⟩ (Env.rh _ _ _) rfl ab (.inl ⟨rfl,?_,?_⟩)
         ·simp_all
         simp_all
      ·cases L
     ·cases g
    ·cases g
  | makeMap U r=>
    cases r with
    | none=>
      simp only[nD]at g;split at g
      ·cases g
       refine⟨.map #[] 0,λb=> .map (some b),λw=>kh (x:= .map (some w.heap.size)) (by simp[Instr.makeMap]),?_⟩;intro l b hn;exact⟨⟨b,0,0,0,0,false,1⟩,rfl,⟨rfl,rfl,rfl,#[],rfl,.nil,by simp,by simp⟩,fq.map l ⟨b,0,0,0,0,false,1⟩ (Env.rh _ _ _)⟩
      ·cases g
    |some _=>cases g
  |_=>cases g
end
