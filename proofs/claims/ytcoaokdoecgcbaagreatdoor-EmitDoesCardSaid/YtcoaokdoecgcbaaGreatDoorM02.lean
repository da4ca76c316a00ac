/- Parts. -/
import Derived.Test.YtcoaokdoecgcbaaGreatDoorM01
import Derived.Laws.Pointers
import Derived.Laws.StructEq
import Derived.Laws.Strings2
import Derived.Laws.IdiomStrings
set_option maxHeartbeats 4000000
namespace Go.Proofs.YtcoaokdoecgcbaaGreatDoor.Hx
variable{xv:Value}{v:V}{k:IntKind}{uD:Array Value}{p:PF}{cs:List V}{b:Bool}{lo:Option V}{t l m off:Nat}{q:PF}{z:V}
inductive uB (Δ:Env):List (V×V×Nat)->List MapEntry->Prop
 |nil:uB Δ [] []
 | cons (k v:V) (n:Nat) (e:MapEntry) (es:List (V×V×Nat)) (jL:List MapEntry) (a:fV Δ k e.key) (hv:fV Δ v e.val) (b:e.born=n)
   (hs:uB Δ es jL):uB Δ ((k,v,n)::es) (e::jL)
theorem uB.mono{Δ b:Env} (a:Δ.le b) {es:List (V×V×Nat)} {jL:List MapEntry} (h:uB Δ es jL):uB b es jL:=by
 induction h with
 |nil=>exact .nil
 |cons k v n e es jL c hv d _ f=>exact .cons k v n e es jL (c.mono a) (hv.mono a) d f
def L9(Δ:Env) (d:D) (cs:List V) (ob:Option Obj):Prop:=∃c e fr,ob=some (.cells c e fr)/\c.size=d.asz/\(d.ro=false->fr.1=fr.2\/d.asz<=fr.1)/\d.base+cs.length<=d.asz/\∀(i:Nat) (v:V),cs[i]? =some v->∃x,c[d.base+i]? =some x/\fV Δ v x
def wW(es:List (V×V×Nat))(c:Nat):Prop:=(es.map λe=>e.2.2).Nodup/\∀e∈es,e.2.2<c
def zgF(k:IntKind)(ks:List Int)(jL:List MapEntry):Prop:=(∀e∈jL,e.val = .bool true/\∃n∈ks,e.key = .int k n)/\∀n∈ks,∃e∈jL,e.key = .int k n
def VX(Δ:Env) (d:D) (o:O) (ob:Option Obj):Prop:=match o with
 | .cells _ sz live ro cs=>d.kind=0/\d.sz=sz/\d.n=cs.length/\d.ro=ro/\(live=true->L9 Δ d cs ob)
 | .map es a=>d.kind=1/\d.ro=false/\d.base=0/\∃jL,ob=some (.map jL a)/\uB Δ es jL.toList/\wW es a
 | .Rt k ks=>d.kind=1/\d.ro=false/\d.base=0/\∃jL a,ob=some (.map jL a)/\zgF k ks jL.toList
 | .gone=>d.kind=2/\d.ro=false/\d.base=0
 | .iter m since seen last=>d.kind=2/\d.ro=false/\d.base=0/\∃c,ob=some (.mapIter c since seen.toArray last)/\
   (match m with
    |none=>c=none
    |some l=>∃e,Δ l=some e/\c=some e.b)
def O.live:O->Bool
 | .cells _ _ live _ _=>live
 |_=>true
def EB(Δ:Env)(w:World):Prop:=∀g c,(g,c)∈zgX->(∃e fr,w.heap[g]? =some (.cells c e fr))/\∀l d,Δ l=some d->d.ro=false->d.b≠g
structure WR (Δ:Env) (h:Hp) (w:World):Prop where
 fresh:∀l d,Δ l=some d->l<h.next
 B8:∀l d,Δ l=some d->d.b<w.heap.size
 obj:∀l d,Δ l=some d->∃o,h.get l=some o/\VX Δ d o w.heap[d.b]?
 apart:∀l a d c o e,Δ l=some d->Δ a=some c->l≠a->h.get l=some o->h.get a=some e->o.live=true->e.live=true->
  (d.ro=false\/c.ro=false)->d.b≠c.b
 JT:∀g o,g<P0.globals.size->h.get g=some o->∃d,Δ g=some d/\d.b=g/\d.base=0
 yQ:P0.globals.size<=h.next
 XK:EB Δ w
inductive OC (Δ:Env):List (Nat×List V)->List Deferred->Prop
 |nil:OC Δ [] []
 | cons (g:Nat) (args:List V) (cap gW:Array Value) (l:List (Nat×List V)) (a:List Deferred) (b:gR Δ args (gW++cap).toList) (hl:OC Δ l a) :
   OC Δ ((g,args)::l) ({target:= .fn (.func g) cap,args:=gW}::a)
theorem OC.mono{Δ c:Env} (b:Δ.le c) {l:List (Nat×List V)} {a:List Deferred} (h:OC Δ l a):OC c l a:=by
 induction h with
 |nil=>exact .nil
 |cons g args cap gW l a d _ e=>exact .cons g args cap gW l a (d.mono b) e
structure TR (Δ:Env) (n:Nat) (t:Tm) (a:Act):Prop where
 size:a.tmps.size=n
 rel:∀i,fV Δ (ij t i) (a.tmps.getD i undef)
 ds:OC Δ t.ds a.defers
theorem L9.mono{Δ b:Env} (a:Δ.le b) {d:D} {cs:List V} {ob:Option Obj} (h:L9 Δ d cs ob):L9 b d cs ob:=by
 let⟨c,e,fr,f,g,j,k,l⟩:=h
 exact⟨c,e,fr,f,g,j,k,λi v hi=>let⟨x,hx,hr⟩:=l i v hi;⟨x,hx,hr.mono a⟩⟩
theorem VX.mono{Δ n:Env} (a:Δ.le n) {d:D} {o:O} {ob:Option Obj} (h:VX Δ d o ob):VX n d o ob:=by
 cases o with
 | cells e sz live ro cs=>
   let⟨c,f,g,i,b⟩:=h
   exact⟨c,f,g,i,λhl=>(b hl).mono a⟩
 | map es j=>
   obtain⟨c,f,g,jL,i,b,p⟩:=h
   exact⟨c,f,g,jL,i,b.mono a,p⟩
 |Rt k ks=>exact h
 |gone=>exact h
 | iter m since seen last=>
   obtain⟨c,f,g,q,i,b⟩:=h;refine⟨c,f,g,q,i,?_⟩
   cases m with
   |none=>exact b
   |some l=>obtain⟨r,hd,s⟩:=b;exact⟨r,a _ _ hd,s⟩
theorem TR.mono{Δ c:Env}(b:Δ.le c){n:Nat}{t:Tm}{a:Act}(h:TR Δ n t a):TR c n t a:=⟨h.size,λi=>(h.rel i).mono b,h.ds.mono b⟩
theorem gK{d:TypeDesc}{w:World}(h:P0.underlying t=some d):(underlying t).run P0 w = .ok d w:=by simp[underlying,h]
theorem Gb{n:Nat} (h:Dr t=some n):∃i,P0.info? t=some i/\i.size=n:=by
 grind[Dr,fD]
theorem zR{n:Nat} {w:World} (h:Dr t=some n):(sizeOf t).run P0 w = .ok n w:=by
 obtain⟨i,hi,rfl⟩:=Gb h
 simp_all[sizeOf,typeInfo]
theorem PK  {w:World} (h:UR t=some b):(isAgg t).run P0 w = .ok b w:=by
 unfold UR at h;split at h
 ·simp_all[isAgg,gK]
 ·simp_all[isAgg,gK]
 ·simp_all[isAgg,DO,gK]
 ·cases h
theorem EJ  (h:zeroV t=some z):∃a,(∀w,(zeroValue t).run P0 w = .ok a w)/\(∀Δ,fV Δ z a)/\∃i,P0.info? t=some i/\i.zero=some a:=by
 unfold zeroV at h;simp[fD]at h
 let⟨i,hi,a,hz,hv⟩:=h
 exact⟨a,by simp_all[zeroValue,typeInfo],by grind[JJ],i,hi,hz⟩
theorem uY(b o n:Nat):(⟨b,o,none⟩:Addr).add n=⟨b,o+n,none⟩:=by
 grind[Addr.add]
section
variable{Δ:Env}{h:Hp}{w:World}{n:Nat}{t:Tm}{a:Act}
theorem HR(b:TR Δ n t a) {x:Operand} {v:V} (hv:(Rq x).f t=some v):fV Δ v (a.eval x):=by
 cases x with
 |tmp i=>simp[Rq]at hv;cases hv;exact b.rel i
 | const c=>
   simp[Rq]at hv;split at hv
   ·rename_i y d;cases hv;exact JJ Δ 8 c _ d
   ·cases hv
 |global g=>grind[Rq]
 |func f=>simp[Rq]at hv;cases hv;exact .func f [] [] #[] #[] .nil .nil
theorem uf(e:WR Δ h w) (b:TR Δ n t a) {x:Operand} {v:V} (hv:(yL x).f t h=some v):fV Δ v (a.eval x):=by
 cases x with
 | global g=>
   unfold yL at hv
   cases G6:Nat.blt g P0.globals.size with
   | true=>
     simp only[G6,fD]at hv
     let⟨o,ho,hv⟩:=hv
     cases hv;have j:g<P0.globals.size:=by rw[<-Yh];exact G6
     let⟨d,hd,hb,hba⟩:=e.JT g o j ho
     have:=fV.ptr g 0 d hd;rw[hb,hba]at this
     exact this
   |false=>simp_all
 |tmp i=>exact HR b hv
 |const c=>exact HR b hv
 |func f=>exact HR b hv
theorem Gi(b:TR Δ n t a):∀{l:List Operand} {vs:List V},NX t l=some vs->gR Δ vs (l.map a.eval)
 |[],vs,hv=>by simp[NX]at hv;subst hv;exact .nil
 | x::l,vs,hv=>by
   simp[NX,fD]at hv
   let⟨v,c,vs',d,e⟩:=hv
   cases e;exact .cons _ _ _ _ (HR b c) (Gi b d)
inductive zbe (Δ:Env):List (Nat×V)->List (Nat×Value)->Prop
 |nil:zbe Δ [] []
 |cons (i:Nat) (v:V) (a:Value) (l:List (Nat×V)) (b:List (Nat×Value)) (hv:fV Δ v a) (hs:zbe Δ l b):zbe Δ ((i,v)::l) ((i,a)::b)
theorem Fb(b:TR Δ n t a):∀{l:List (Nat×Operand)} {vs:List (Nat×V)},vA t l=some vs->zbe Δ vs (l.map λx=>(x.1,a.eval x.2))
 |[],vs,hv=>by simp[vA]at hv;subst hv;exact .nil
 | x::l,vs,hv=>by
   simp[vA,fD]at hv
   let⟨v,c,vs',d,e⟩:=hv
   cases e;exact .cons _ _ _ _ _ (HR b c) (Fb b d)
theorem Zl(a:WR Δ h w) {l:Nat} {d:D} (hl:Δ l=some d) {e sz:Nat} {ro:Bool} {cs:List V} (f:h.get l=some (.cells e sz true ro cs))
  {i:Nat} {v:V} (hi:cs[i]? =some v):∃x,w.cell? ⟨d.b,d.base+i,none⟩=some x/\fV Δ v x:=by
 let⟨o,ho,hr⟩:=a.obj l d hl
 rw[f]at ho;cases ho
 let⟨_,_,_,_,hc⟩:=hr
 let⟨c,e',fr,g,_,_,_,j⟩:=hc rfl
 grind[World.cell?]
theorem MC(f:WR Δ h w) {l:Nat} {d:D} (hl:Δ l=some d) {off m:Nat} {cs:List V} (hv:Mb h l off m=some cs) :
  ∃a,(loadCells ⟨d.b,d.base+off,none⟩ m).run P0 w = .ok a w/\gR Δ cs a.toList:=by
 unfold Mb at hv;rw[mO]at hv
 let⟨e,sz,live,ro,all,hg,hv⟩:=hv
 rw[ik]at hv;obtain⟨rfl,hv⟩:=hv
 let⟨hlen,hget⟩:=sub_eq hv
 have c:∀j,j<m->∃x v,w.cell? ⟨d.b,d.base+off+j,none⟩=some x/\cs[j]? =some v/\fV Δ v x:=by grind[Zl]
 refine⟨_,run_loadCells w ⟨d.b,d.base+off,none⟩ m (λj=>(w.cell? ⟨d.b,d.base+off+j,none⟩).getD undef) (λj g=>?_),?_⟩
 ·grind[uY]
 grind[gR.Uf,ke]
theorem zbS(a:WR Δ h w) {l:Nat} {d:D} (hl:Δ l=some d) {off:Nat} {v:V} (hv:ld1 h l off=some v) :
  ∃x,w.cell? ⟨d.b,d.base+off,none⟩=some x/\fV Δ v x:=by
 unfold ld1 at hv;rw[mO]at hv
 let⟨e,sz,live,ro,all,hg,hv⟩:=hv
 rw[ik]at hv;obtain⟨rfl,hv⟩:=hv;exact Zl a hl hg (XR hv)
theorem PZ(c:WR Δ h w) {ty:Nat} {p:PF} {xv:Value} (hp:∀v,p.f t h=some v->fV Δ v xv) {v:V} (hv:(Kx ty p).f t h=some v) :
  ∃x,(Instr.loadAt ty xv).run P0 w = .ok x w/\fV Δ v x:=by
 unfold Kx at hv;split at hv
 ·rename_i e;split at hv
  ·rename_i m i;simp[fD,uJ]at hv;obtain⟨av,a,l,off,rfl,cs,b,g⟩:=hv;cases g
   cases hp _ a with
   | ptr _ _ d hd=>
     let⟨arr,hr,hrel⟩:=MC c hd b
     exact⟨.agg arr,by simp_all[Instr.loadAt,Instr.sureAddr,loadVar,PK,zR],.agg _ _ hrel⟩
  ·cases hv
 ·rename_i e;simp[fD,uJ]at hv;obtain⟨av,a,l,off,rfl,b⟩:=hv
  cases hp _ a with
  | ptr _ _ d hd=>
    let⟨x,hx,hrel⟩:=zbS c hd b
    simp_all[Instr.loadAt,Instr.sureAddr,loadVar,PK]
 ·cases hv
theorem OD:∀fs pl,placesOf fs=some pl->fs.mapM (λf=>(P0.info? f.type).map λi=>(f.offset,i.size))=some pl
 |[],pl,h=>by grind[placesOf]
 | f::fs,pl,h=>by
   simp[placesOf,fD]at h
   let⟨m,a,l,b,c⟩:=h
   cases c;obtain⟨i,hi,rfl⟩:=Gb a;simp[ hi,OD fs l b]
theorem SO:∀(xs:List Value) k off (c:Array Value),off+k+xs.length<=c.size->
  ∀i,((xs.zipIdx k).foldl (λcs p=>cs.setIfInBounds (off+p.2) p.1) c)[i]? =if off+k<=i/\i<off+k+xs.length then xs[i-(off+k)]? else c[i]?
 | [],k,off,c,_,i=>by
   simp_all[if_neg,wBu]
 | x::xs,k,off,c,hle,i=>by
   simp[List.zipIdx_cons,List.foldl_cons];simp[Re]at hle;rw[SO xs (k+1) off _ (by simp;omega)]
   grind
theorem Pj{place:Nat->Option (Nat×Nat)}:∀{r:List (Nat×V)} {f:List (Nat×Value)} {cells cs:List V} {a:Array Value},zbe Δ r f->gR Δ cells a.toList->
  yd place cells r=some cs->∃uD,Instr.fill place a f=some uD/\gR Δ cs uD.toList
 |_,_,cells,cs,a,.nil,hc,hf=>by simp[yd]at hf;subst hf;exact⟨a,rfl,hc⟩
 | _,_,cells,cs,a,.cons i v v' l l' hv hs,hc,hf=>by
   simp only[yd,fD,ik]at hf
   let⟨⟨off,size⟩,C,s,mid,t,u⟩:=hf
   let⟨hl,hle,hget⟩:=NW t
   have d:=hv.cells;have w:v'.cells.size=size:=by
     have:=d.length;rw[DG s]at this;simpa using this.symm
   have n:=hc.length;simp[wBE]at n;have z:v.cells.length=v'.cells.size:=by simpa using d.length
   have A:¬(v'.cells.size≠size\/off+v'.cells.size>a.size):=by
     rintro(h|h)
     ·omega
     ·omega
   have g:gR Δ mid (v'.cells.zipIdx.foldl (λcs (c,j)=>cs.setIfInBounds (off+j) c) a).toList:=by
     have b:=SO v'.cells.toList 0 off a (by simp;omega);have e:(v'.cells.zipIdx.foldl (λcs (c,j)=>cs.setIfInBounds (off+j) c) a)=((v'.cells.toList.zipIdx 0).foldl (λcs p=>cs.setIfInBounds (off+p.2) p.1) a):=by
       rw[<-Array.foldl_toList];simp
     rw[e];generalize hF:((v'.cells.toList.zipIdx 0).foldl (λcs p=>cs.setIfInBounds (off+p.2) p.1) a)=F at b;have B:F.size=a.size:=by
      apply Nat.le_antisymm
      ·rcases Sf a.size F.size with o|q
       ·have:=b a.size
        grind
       omega
      ·rcases Sf F.size a.size with o|q
       ·have:=b F.size
        grind
       omega
     refine gR.Uf (by simp_all) λj x k=>?_;rw[hget j]at k;have m:=b j;simp only[ wBE]at m;rw[wBC,m];by_cases hin:off<=j/\j<off+v.cells.length
     ·rw[if_pos hin]at k
      rw[if_pos (by omega)];exact d.get _ _ k
     ·rw[if_neg hin]at k
      rw[if_neg (by omega)]
      let⟨y,hy,hr⟩:=hc.get _ _ k
      simp_all
   let⟨uD,hf',hr⟩:=Pj hs g u
   simp_all[Instr.fill,if_neg]
theorem zax(o:TR Δ n t a) {ty:Nat} {b:List (Nat×Operand)} {v:V} (hv:(Lj ty b).f t h=some v) :
  ∃x,(Instr.build ty (b.map λx=>(x.1,a.eval x.2)).toArray).run P0 w = .ok x w/\fV Δ v x:=by
 unfold Lj at hv;split at hv
 ·rename_i z q;obtain⟨B,_,g,i,hi,r⟩:=EJ q;have c:=(g Δ).cells;split at hv
  ·rename_i d s;split at hv
   ·rename_i e hp;simp only[fD]at hv;obtain⟨u,j,cs,k,l⟩:=hv;cases l;obtain⟨uD,y,m⟩:=Pj (Fb o j) c k;refine⟨.agg uD,?_,.agg _ _ m⟩
    simp_all[run_build,Program.built,OD]
   ·cases hv
  ·rename_i len p s;split at hv
   ·rename_i size hs;obtain⟨C,A,rfl⟩:=Gb hs;simp only[fD]at hv;obtain⟨u,j,cs,k,l⟩:=hv;cases l;obtain⟨uD,y,m⟩:=Pj (Fb o j) c k;refine⟨.agg uD,?_,.agg _ _ m⟩
    simp_all[run_build,Program.built]
   ·cases hv
  ·cases hv
 ·cases hv
theorem mU(k:IntKind) (n:Int):jo k n=k.wrap n:=by
 unfold jo
 cases n with
 |negSucc m=>rfl
 | ofNat m=>
   simp only;split
   ·rename_i a
    rw[Yh]at a
    grind[IntKind.wrap,IntKind.bits,IntKind.signed]
   ·rfl
theorem pU{s:Sem Value}{x:Value}{w w':World}(h:s.run P0 w = .ok x w'):(do pure (Next.value (<-s)):Sem Next).run P0 w = .ok (.value x) w':=by simp[h]
theorem EF{k':IntKind}(h:LH k k' = true):k=k':=by cases k <;> cases k' <;> first|rfl|cases h
theorem zdj{op:BinOp}  {x y:Int}  (ty:Nat) (w:World) (hs:YH op=false) (hv:hint op k x y=some v) :
  ∃r,(binOp op ty (.int k x) (.int k y)).run P0 w = .ok r w/\∀Δ,fV Δ v r:=by
 cases op with
 |shl=>cases hs
 |shr=>cases hs
 |add=>simp[hint]at hv;cases hv;rw[mU];exact⟨_,by simp[binOp,Op.intArith],λΔ=> .int _ _⟩
 |sub=>simp[hint]at hv;cases hv;rw[mU];exact⟨_,by simp[binOp,Op.intArith],λΔ=> .int _ _⟩
 |mul=>simp[hint]at hv;cases hv;rw[mU];exact⟨_,by simp[binOp,Op.intArith],λΔ=> .int _ _⟩
 | quo=>
   have b:y≠0:=by rintro rfl;simp[hint]at hv
   have a:some (V.int k (jo k (x.tdiv y)))=some v:=by
     rw[<-hv];unfold hint;simp only;split
     ·simp_all
     ·rfl
   cases a;rw[mU];exact⟨_,by simp_all[binOp,Op.intDiv],λΔ=> .int _ _⟩
 | rem=>
   have b:y≠0:=by rintro rfl;simp[hint]at hv
   have a:some (V.int k (x.tmod y))=some v:=by
     rw[<-hv];unfold hint;simp only;split
     ·simp_all
     ·rfl
   cases a;exact⟨_,by simp_all[binOp,Op.intDiv],λΔ=> .int _ _⟩
 |or=>simp only[hint]at hv;cases hv;exact⟨_,by simp[binOp,Op.intBits],λΔ=> .int _ _⟩
 |eql=>simp[hint]at hv;cases hv;exact⟨_,by simp[binOp,Op.intCmp],λΔ=> .bool _⟩
 |neq=>simp[hint]at hv;cases hv;exact⟨_,by simp[binOp,Op.intCmp],λΔ=> .bool _⟩
 |lss=>simp[hint]at hv;cases hv;exact⟨_,by simp[binOp,Op.intCmp],λΔ=> .bool _⟩
 |leq=>simp[hint]at hv;cases hv;exact⟨_,by simp[binOp,Op.intCmp],λΔ=> .bool _⟩
 |gtr=>simp[hint]at hv;cases hv;exact⟨_,by simp[binOp,Op.intCmp],λΔ=> .bool _⟩
 |geq=>simp[hint]at hv;cases hv;exact⟨_,by simp[binOp,Op.intCmp],λΔ=> .bool _⟩
 |_=>cases hv
theorem zaj{op:BinOp} {k':IntKind} {x y:Int}  (ty:Nat) (w:World) (hv:Yi op k x y=some v) :
  ∃r,(binOp op ty (.int k x) (.int k' y)).run P0 w = .ok r w/\∀Δ,fV Δ v r:=by
 unfold Yi at hv;split at hv
 ·cases hv
 ·rename_i m;split at hv
  ·cases hv;exact⟨_,by rfl,λΔ=> .int _ _⟩
  ·cases hv;exact⟨_,by rfl,λΔ=> .int _ _⟩
  ·cases hv
theorem zea{op:BinOp} {x y:ByteArray}  (ty:Nat) (w:World) (hv:zfC op x.data.toList y.data.toList=some v) :
  ∃r,(binOp op ty (.string x) (.string y)).run P0 w = .ok r w/\∀Δ,fV Δ v r:=by
 have a:(binOp op ty (.string x) (.string y))=Op.stringOp op x y:=by cases op <;> rfl
 rw[a];have ex:=ByteArray.toList_eq x;have b:=ByteArray.toList_eq y;cases op <;> simp[zfC]at hv <;> try (cases hv;done)
 all_goals
  cases hv;refine⟨_,by simp_all[Op.stringOp],λΔ=> .bool _⟩
theorem Ly{op:BinOp} {ty:Nat} {X Y:Operand} {x y:Value} (w:World) (a:x≠ .nilIface) (b:∀c,x≠ .agg c) :
  (eqGuard op ty X Y x y).run P0 w = .ok () w:=by
 cases op <;> unfold eqGuard <;> dsimp only <;> simp[ Bool.not_false] <;> first
  |rfl
  |simp_all
theorem zdC{d:TypeDesc} {ty:Nat} {x y:V} {a:Value}  (w:World) (f:P0.underlying ty=some d) (g:fV Δ x xv) (h:fV Δ y a)
  (hv:zgb d x y=some b):(Op.equal ty xv a).run P0 w = .ok b w/\(∀op X Y,(eqGuard op ty X Y xv a).run P0 w = .ok () w)/\
   (binOp .eql ty xv a)=(do pure (.bool (<-Op.equal ty xv a)))/\(binOp .neq ty xv a)=(do pure (.bool (!(<-Op.equal ty xv a)))):=by
 unfold zgb at hv;split at hv
 ·cases hv;cases g;cases h;have c:∀e x y,(Op.equalIn (e+1) ty (.bool x) (.bool y)).run P0 w = .ok (x == y) w:=λe x y=>by
   simp only[Op.equalIn,DO,gK f];rfl
  exact⟨c 9999 _ _,λop X Y=>Ly w (by simp) (by simp),rfl,rfl⟩
 ·cases hv
theorem zdw{op:BinOp} {ty:Nat} {X Y:Operand} {x y:V} {a:Value} (w:World) (g:fV Δ x xv) (h:fV Δ y a) (hv:ef op ty x y=some v) :
  ∃r,(do eqGuard op ty X Y xv a;binOp op ty xv a:Sem Value).run P0 w = .ok r w/\fV Δ v r:=by
 unfold ef at hv;split at hv
 ·rename_i k p k' q;cases g;cases h;have j:=Ly (op:=op) (ty:=ty) (X:=X) (Y:=Y) (y:= .int k' q) w (x:= .int k p) (by simp) (by simp);split at hv
  ·let⟨r,hr,hrel⟩:=zaj (k':=k') ty w hv
   simp_all
  ·rename_i hs;rw[ik]at hv;obtain⟨m,hv⟩:=hv;obtain rfl:=EF m
   let⟨r,hr,hrel⟩:=zdj ty w hs hv
   simp_all
 ·cases g with|str xs=>cases h with|str ys=>
  have j:=Ly (op:=op) (ty:=ty) (X:=X) (Y:=Y) (y:= .string ys) w (x:= .string xs) (by simp) (by simp)
  let⟨r,hr,hrel⟩:=zea ty w hv
  simp_all
 ·have f:∀e,zaL ty e x y=some v->∃b,(Op.equal ty xv a).run P0 w = .ok b w/\(∀op X Y,(eqGuard op ty X Y xv a).run P0 w = .ok () w)/\
    (binOp .eql ty xv a)=(do pure (.bool (<-Op.equal ty xv a)))/\(binOp .neq ty xv a)=(do pure (.bool (!(<-Op.equal ty xv a))))/\v = .bool (Bool.rec (motive:=λ_=>Bool) b (!b) e):=by
   intro e c;unfold zaL zfY at c;rw[fD]at c
   let⟨b,hb,c⟩:=c
   unfold zce at hb;split at hb
   ·rename_i d n
    let⟨l,i,o,s⟩:=zdC w n g h hb
    simp_all
   ·cases hb
  split at hv
  ·obtain⟨b,l,i,o,_,rfl⟩:=f false hv;have j:=i .eql X Y;exact⟨.bool b,by simp_all,.bool b⟩
  ·obtain⟨b,l,i,_,s,rfl⟩:=f true hv;exact⟨.bool (!b),by simp_all,.bool _⟩
  ·cases hv
theorem zgk{op:UnOp} {x:V}  (w:World) (a:fV Δ x xv) (hv:wI op x=some v):∃r,(Op.unary op xv).run P0 w = .ok r w/\fV Δ v r:=by
 unfold wI at hv;split at hv
 ·cases hv;cases a;rw[mU];exact⟨_,rfl,.int _ _⟩
 ·cases hv;cases a;exact⟨_,rfl,.bool _⟩
 ·cases hv
theorem zbm{a dst:Nat}    (w:World) (hp:∀v,p.f t h=some v->fV Δ v xv) (hv:(Qo a dst p).f t h=some v) :
  ∃r,(convert a dst xv).run P0 w = .ok r w/\fV Δ v r:=by
 unfold Qo at hv;split at hv
 ·rename_i k' k hs hd;rw[fD]at hv
  let⟨x,c,b⟩:=hv
  have d:=hp _ c;split at b
  ·cases b;cases d;rw[mU];exact⟨_,by simp_all[convert,gK,Conv.intToInt],.int _ _⟩
  ·cases b
 ·cases hv
theorem zb1{ty:Nat}     (w:World) (hc:gR Δ cs uD.toList) (hv:zdd ty cs off=some v) :
  ∃r,(part ty uD off).run P0 w = .ok r w/\fV Δ v r:=by
 unfold zdd at hv
 cases ha:UR ty with
 |none=>simp_all
 |some b=>cases b with
 | true =>
   simp[ha]at hv
   cases hm:Dr ty with
   |none=>simp_all
   | some m=>
     simp[hm,fD]at hv
     let⟨l,d,e⟩:=hv
     cases e
     let⟨hl,hg⟩:=sub_eq d
     refine⟨.agg (uD.extract off (off+m)),by simp_all[part,PK,zR],.agg _ _ (gR.Uf ?_ ?_)⟩
     ·have a:=hc.length
      have:∀i,i<m->off+i<cs.length:=by grind
      simp[wBE]at a;simp[ Array.size_extract];rcases Nat.eq_zero_or_pos m with h0|h0
      ·omega
      ·have:=this (m-1) (by omega)
       omega
     ·intro i v hi
      have c:i<m:=by have:=(ke.1 hi).1;omega
      rw[hg i c]at hi
      let⟨x,hx,hr⟩:=hc.get _ _ hi
      simp_all
 | false=>
   simp[ha]at hv
   let⟨x,hx,hr⟩:=hc.get _ _ (XR hv)
   simp_all[part,PK]
theorem Xq{s f:Nat} {a:Field} (h:TT s f=some a):∃fs,P0.underlying s=some (.struct fs)/\fs[f]? =some a:=by
 grind[TT]
theorem RA{s f:Nat}    (w:World) (hp:∀v,p.f t h=some v->fV Δ v xv) (hv:(sr s p f).f t h=some v) :
  ∃r,(Instr.fieldAt s xv f).run P0 w = .ok r w/\fV Δ v r:=by
 unfold sr at hv;split at hv
 ·rename_i a b
  let⟨fs,hu,hfd⟩:=Xq b
  split at hv
  ·rename_i m c;simp[fD,uJ]at hv;obtain⟨x,e,l,off,rfl,g⟩:=hv;cases g
   cases hp _ e with
   | ptr _ _ d hd=>
     refine⟨_,by simp[Instr.fieldAt,gK hu,hfd,Instr.sureAddr,fieldPlace,zR c,uY];rfl,?_⟩;have:=fV.ptr l (off+a.offset) d hd
     grind
  ·cases hv
 ·cases hv
theorem RK{ty:Nat}  {s:Value}  (w:World) (hp:∀v,p.f t h=some v->fV Δ v xv) (hq:∀v,q.f t h=some v->fV Δ v s)
  (hv:(sG ty p q).f t h=some v):∃r,(Instr.indexAt ty xv s).run P0 w = .ok r w/\fV Δ v r:=by
 unfold sG at hv;split at hv
 ·rename_i c e;split at hv
  ·rename_i m g;simp[fD,Qv]at hv;obtain⟨x,j,i,k,u,n,rfl,b⟩:=hv;have y:=hp _ j;cases hq _ k;split at b
   ·rename_i l off len;rw[ik]at b
    let⟨a,b⟩:=b
    cases b;rw[Yh]at a
    cases y with
    | slice _ _ _ cap o d hd A hl z=>
      rcases z with⟨rfl,_,_⟩|⟨hc,_⟩
      ·refine⟨_,by simp[Instr.indexAt,asIntOf,gK e,zR g,a,uY];rfl,?_⟩
       have:=fV.ptr l (off+n*m) d hd
       grind
      ·omega
    |wild=>omega
   ·cases b
  ·cases hv
 ·rename_i len c e;split at hv
  ·rename_i m g;simp only[fD,Qv,uJ,ik]at hv;obtain⟨x,j,i,k,u,n,rfl,l,off,rfl,a,b⟩:=hv;cases b;rw[Yh]at a;cases hq _ k
   cases hp _ j with
   | ptr _ _ d hd=>
     refine⟨_,by simp[Instr.indexAt,asIntOf,gK e,zR g,a,uY,Instr.sureAddr];rfl,?_⟩;have:=fV.ptr l (off+n*m) d hd
     grind
  ·cases hv
 ·cases hv
theorem Z3{ty:Nat}  {d:Value}  (w:World) (hp:∀v,p.f t h=some v->fV Δ v xv) (hq:∀v,q.f t h=some v->fV Δ v d)
  (hv:(K0 ty p q).f t h=some v):∃r,(Instr.index ty xv d).run P0 w = .ok r w/\fV Δ v r:=by
 unfold K0 at hv;split at hv
 ·rename_i l;simp only[fD,Qv]at hv;obtain⟨x,g,i,j,m,e,rfl,a⟩:=hv;have k:=hp _ g;cases hq _ j;split at a
  ·rw[fD]at a
   let⟨b,hb,a⟩:=a
   cases a
   cases k with
   | str s=>
     rw[List.head?_drop]at hb;have c:=(ke.1 hb).1;have hs:s[e]? =some b:=by
       rw[getElem?_pos s e c];have:=(ke.1 hb).2;rw[<-this];rfl
     exact⟨.int .u8 b.toNat,by simp_all[Instr.index,asIntOf,gK],.int _ _⟩
  ·cases a
 ·cases hv
inductive FY (Δ:Env):Option V->Option Value->Prop
 |none:FY Δ none none
 |some (v:V) (a:Value) (h:fV Δ v a):FY Δ (some v) (some a)
theorem Pm(b:WR Δ h w) (c:TR Δ n t a) {x:Option Operand} {v:Option V} (hv:LL x t h=some v):FY Δ v (x.map a.eval):=by
 cases x with
 |none=>simp[LL]at hv;cases hv;exact .none
 | some x=>
   simp[LL,fD]at hv
   let⟨y,d,e⟩:=hv
   cases e;exact .some _ _ (uf b c d)
theorem HG{d:Nat}  (hv:hbound d lo=some m):(lo=none/\m=d)\/∃k,lo=some (.int k (.ofNat m)):=by
 unfold hbound at hv;split at hv
 ·simp_all
 ·simp_all
 ·cases hv
theorem LY {y:Nat} {c:BoundsCode} (w:World) (a:m<=y):(Instr.sliceBound (.int k (.ofNat m)) y c).run P0 w = .ok m w:=by
 simp_all[Instr.sliceBound,asIntOf]
theorem Jo{isS:Bool} {len cap u:Nat} {hi:Option V} {b c:Option Value} (w:World) (d:FY Δ lo b) (a:FY Δ hi c)
  (h:hbound 0 lo=some l) (g:hbound len hi=some u) (e:l<=u) (f:u<=cap):(Instr.sliceBounds isS len cap b c none).run P0 w = .ok (l,u,cap) w:=by
 rcases HG h with⟨rfl,rfl⟩|⟨k,rfl⟩
 ·cases d;rcases HG g with⟨rfl,rfl⟩|⟨k,rfl⟩
  ·cases a;rfl
  ·cases a with|some _ _ hr=>
   cases hr
   grind[Instr.sliceBounds,DO,UE,Hi,LY]
 ·cases d with|some _ _ hr=>
  cases hr;rcases HG g with⟨rfl,rfl⟩|⟨k,rfl⟩
  ·cases a
   grind[Instr.sliceBounds,DO,UE,Hi,LY]
  ·cases a with|some _ _ hr=>
   cases hr;simp only[Instr.sliceBounds,DO,UE,Hi,LY w f,LY w e]
theorem W1(J:WR Δ h w) {ty f size:Nat} {x v:V} {xv:Value} {lo hi:Option V} {s t:Option Value} (K:fV Δ x xv) (k:FY Δ lo s) (m:FY Δ hi t)
  (M:P0.underlying ty=some (.slice f)) (hs:Dr f=some (size+1)) (hv:jw (Nat.succ size) x lo hi h=some v) :
  ∃r,(Instr.sliceAt ty xv s t none).run P0 w = .ok r w/\fV Δ v r:=by
 unfold jw at hv;split at hv
 ·rename_i lc off len;rw[mO]at hv
  let⟨e,sz,live,ro,cs,hg,hv⟩:=hv
  simp only[ik,fD]at hv
  let⟨hsz,l,A,u,B,hlu,c,hv⟩:=hv
  cases hv;have g:=DG hsz;have i:=Oz hlu
  cases K with
  | wild _ _ a d hd C D N=>
    let⟨ob,hob,hr'⟩:=J.obj lc d hd
    rw[hg]at hob;cases hob
    let⟨_,hdsz,hdn,_,_⟩:=hr'
    have p:u=0:=by
      rw[JD]at c;rcases c with c|c
      ·exact Nat.le_zero.1 (Oz c)
      ·have y:off+u*(size+1)<=cs.length:=Oz c
       rcases Nat.eq_zero_or_pos u with h|h
       ·exact h
       ·have:0<u*(size+1):=Nat.mul_pos h (by omega)
        omega
    subst p;obtain rfl:l=0:=by omega
    have j:=Jo (isS:=true) (cap:=0) w k m A B i (jJ _);refine⟨.slice (some a) 0 0,?_,?_⟩
    ·simp_all[Instr.sliceAt,DO,gK,Instr.slice,zR]
    ·exact .wild lc _ a d hd C D (by show d.n<=off+0*_;omega)
  | slice _ _ _ cap o d hd C hl E=>
    let⟨ob,hob,D⟩:=J.obj lc d hd
    rw[hg]at hob;cases hob
    let⟨_,hdsz,hdn,_,_⟩:=D
    have F:u<=cap:=by
      rw[JD]at c;rcases c with c|c
      ·exact OA (Oz c) hl
      ·have y:off+u*(size+1)<=cs.length:=Oz c
       rcases E with⟨_,q,_⟩|⟨hc,q⟩
       ·rw[hdsz,<-g]at q
        have:u*(size+1)<=cap*(size+1):=by have e:Nat.succ size=size+1:=rfl;rw[e]at q;omega
        exact Nat.le_of_mul_le_mul_right this (by omega)
       grind
    have j:=Jo (isS:=true) w k m A B i F;have L:l<=cap:=by omega
    refine⟨.slice (if cap=l then some ⟨d.b,o,none⟩ else some ⟨d.b,o+l*(size+1),none⟩) (u-l) (cap-l),?_,?_⟩
    ·simp_all[Instr.sliceAt,DO,gK,Instr.slice,zR,uY]
    ·have z:cap*d.sz=l*d.sz+(cap-l)*d.sz:=by rw[<-ZX];congr 1;omega
     have e2:d.sz=size+1:=by rw[hdsz,<-g]
     split
     ·rename_i G
      refine .slice lc (Nat.add off (Nat.mul l (Nat.succ size))) (Nat.sub u l) (cap-l) o d hd C ?_ (.inr ⟨by omega,?_⟩)
      ·simp_all
      grind
     ·rename_i G
      refine .slice lc (Nat.add off (Nat.mul l (Nat.succ size))) (Nat.sub u l) (cap-l) (o+l*(size+1)) d hd C ?_ (.inl ?_)
      ·simp_all
      ·show o+l*(size+1)=d.base+(off+l*(size+1))/\d.n<=off+l*(size+1)+(cap-l)*d.sz/\d.base+(off+l*(size+1))+(cap-l)*d.sz<=d.asz
       rcases E with⟨E,q,H⟩|⟨hc,q⟩
       ·rw[e2]at z q H⊢
        omega
       ·omega
 ·simp only[ik,fD]at hv
  let⟨l,A,u,B,hl,hu',hv⟩:=hv
  cases hv;have I:=DG hl;have p:=DG hu';subst I;subst p;cases K;have j:=Jo (isS:=true) w k m A B (jJ _) (jJ _);exact⟨.slice none 0 0,by simp_all[Instr.sliceAt,gK,Instr.slice,zR],.ed⟩
 ·cases hv
theorem XI{ty:Nat} {x:V}  {hi:Option V} {a b:Option Value} (w:World) (f:fV Δ x xv) (c:FY Δ lo a) (d:FY Δ hi b)
  (i:P0.underlying ty=some .string) (hv:TJ x lo hi=some v):∃r,(Instr.sliceAt ty xv a b none).run P0 w = .ok r w/\fV Δ v r:=by
 unfold TJ at hv;split at hv
 ·simp only[ik,fD]at hv
  let⟨l,g,u,h,hlu,hus,hv⟩:=hv
  cases hv
  cases f with
  | str s=>
    have e:=Jo (isS:=false) w c d g h (Oz hlu) (Oz hus);refine⟨.string (s.extract l u),by simp_all[Instr.sliceAt,gK,Instr.slice],?_⟩;have:=fV.str (Δ:=Δ) (s.extract l u)
    simp_all
 ·cases hv
theorem zaQ(b:WR Δ h w) (c:TR Δ n t a) {ty:Nat} {p:PF} {xv:Value} {lo hi:Option Operand} {v:V} (hp:∀v,p.f t h=some v->fV Δ v xv)
  (hv:(NR ty p lo hi).f t h=some v):∃r,(Instr.sliceAt ty xv (lo.map a.eval) (hi.map a.eval) none).run P0 w = .ok r w/\fV Δ v r:=by
 unfold NR at hv;split at hv
 ·rename_i d;simp[fD]at hv
  let⟨x,e,l,g,u,i,j⟩:=hv
  exact XI w (hp _ e) (Pm b c g) (Pm b c i) d j
 ·rename_i k d;split at hv
  ·rename_i m o;simp[fD]at hv
   let⟨x,e,l,g,u,i,j⟩:=hv
   exact W1 b (hp _ e) (Pm b c g) (Pm b c i) d o j
  ·cases hv
 ·cases hv
theorem Nr{ty:Nat} {x y:V} {a:Value}  (c:fV Δ x xv) (e:fV Δ y a) (hv:I8 ty x y=some b) :
  (∀g w,(Op.equalIn (g+1) ty xv a).run P0 w = .ok b w)/\(∀d,P0.underlying ty=some d->Instr.sameNow d xv a=some b):=by
 unfold I8 at hv;split at hv
 ·rename_i f;split at hv
  ·rw[ik]at hv
   let⟨hk,hv⟩:=hv
   cases hv;obtain rfl:=EF hk;cases c;cases e
   grind[run_equalIn_int,Instr.sameNow]
  ·cases hv
 ·rename_i f;split at hv
  ·cases hv;cases c with|str xs=>cases e <;> grind[run_equalIn_string,ByteArray.toList_eq,Instr.sameNow,beq_toListBytes]
  ·cases hv
 ·rename_i f;split at hv
  ·cases hv;cases c;cases e
   grind[run_equalIn_bool',Instr.sameNow]
  ·cases hv
 ·cases hv
theorem Z4{ty:Nat} (a:Gz ty=true):UR ty=some false:=by
 grind[Gz,UR]
theorem NS{ty:Nat}     (w:World) (a:Gz ty=true) (hc:gR Δ cs uD.toList) (hv:NN cs off=some v) :
  ∃x,(part ty uD off).run P0 w = .ok x w/\fV Δ v x:=
 zb1 w hc (by grind[zdd,Z4])
theorem VS:∀{fs:List Field} {x y:List V} {xs ys:Array Value} {b:Bool},(∀f∈fs,Gz f.type=true/\f.name≠ "_")->gR Δ x xs.toList->gR Δ y ys.toList->
  Wn fs x y=some b->∀a w,(Op.eqFields (a+1) xs ys fs).run P0 w = .ok b w
 |[],x,y,xs,ys,b,_,_,_,hv,a,w=>by simp[Wn]at hv;subst hv;rfl
 | f::fs,x,y,xs,ys,b,hf,hx,hy,hv,a,w=>by
   simp only[Wn,fD]at hv
   let⟨p,c,q,d,e,g,h⟩:=hv
   let⟨hft,hfn⟩:=hf f (by simp)
   let⟨p',hp,hpr⟩:=NS w hft hx c
   let⟨q',hq,hqr⟩:=NS w hft hy d
   have i:=(Nr hpr hqr g).1 a w;simp only[Op.eqFields];rw[if_pos hfn];simp[DO,hp,hq,i,Hi]
   cases e with
   |false=>simp_all
   |true=>exact VS (by simp_all) hx hy h a w
theorem Sb{ty:Nat} (hd:LC ty=some none):Gz ty=true:=by
 grind[LC,Gz]
theorem Qp{ty:Nat} {fs:List Field} (hd:LC ty=some (some fs)):∃a,P0.underlying ty=some (.struct a)/\a.toList=fs/\P0.stoodInHeld ty=false/\∀f∈fs,Gz f.type=true/\f.name≠ "_" :=by
 unfold LC at hd;split at hd
 ·cases hd
 ·cases hd
 ·cases hd
 ·rename_i a b;split at hd
  ·grind
  ·cases hd
 ·cases hd
theorem zcB{ty:Nat} {d:Option (List Field)} {x y:V} {f:Value}  (hd:LC ty=some d) (c:fV Δ x xv) (e:fV Δ y f) (hv:L0 ty d x y=some b) (w:World) :
  (Op.equal ty xv f).run P0 w = .ok b w:=by
 cases d with
 |none=>exact(Nr c e hv).1 9999 w
 | some fs=>
   let⟨arr,hu,harr,hs,hf⟩:=Qp hd
   simp[L0]at hv;split at hv
   ·cases c with|agg _ xs c=>cases e with|agg _ ys e=>
    have a:P0.fieldsOf ty=arr:=by simp[Program.fieldsOf,hu]
    have:=run_equalIn_struct w 9999 ty xs ys (by rw[a];exact hu) hs;rw[a,harr]at this;exact this.trans (VS hf c e hv 9998 w)
   ·cases hv
def zdD(Δ:Env):Option (Nat×V)->Option (Nat×Value)->Prop
 |none,none=>True
 |some (i,v),some (i',v')=>i=i'/\fV Δ v v'
 |_,_=>False
theorem KD{ty:Nat} {d:Option (List Field)} {k:V} {a:Value} (hd:LC ty=some d) (c:fV Δ k a) (w:World):∀{es:List (V×V×Nat)} {jL:List MapEntry} {i:Nat} {r:Option (Nat×V)},
  uB Δ es jL->oU ty d k es i=some r->∃r',(Instr.findAsking ty a jL i).run P0 w = .ok r' w/\zdD Δ r r'
 |_,_,i,r,.nil,hv=>by simp[oU]at hv;subst hv;exact⟨none,rfl,trivial⟩
 | _,_,i,r,.cons k' v n e es jL hk' hv' hb hs,hv=>by
   simp only[oU,fD]at hv
   let⟨b,g,f⟩:=hv
   have h:=zcB hd c hk' g w;simp[Instr.findAsking,DO,h]
   cases b with
   |true=>cases f;exact⟨some (i,e.val),rfl,rfl,hv'⟩
   |false=>exact KD hd c w hs f
theorem QV{ty:Nat} {k:V} {a:Value} {ds:TypeDesc} (c:P0.underlying ty=some ds) (d:fV Δ k a):∀{es:List (V×V×Nat)} {jL:List MapEntry} {i:Nat} {r:Option (Nat×V)},
  uB Δ es jL->oU ty none k es i=some r->∃r',Instr.findNow ds a jL i=some r'/\zdD Δ r r'
 |_,_,i,r,.nil,hv=>by simp[oU]at hv;subst hv;exact⟨none,rfl,trivial⟩
 | _,_,i,r,.cons k' v n e es jL hk' hv' hb hs,hv=>by
   simp only[oU,fD]at hv
   let⟨b,g,f⟩:=hv
   have h:=(Nr d hk' g).2 ds c;simp[Instr.findNow,h]
   cases b with
   |true=>cases f;exact⟨some (i,e.val),rfl,rfl,hv'⟩
   |false=>exact QV c d hs f
theorem yn{ty:Nat} {d:Option (List Field)} {k:V} {c:Value} (hd:LC ty=some d) (f:fV Δ k c) (w:World) {es:List (V×V×Nat)} {jL:List MapEntry} {r:Option (Nat×V)}
  (g:uB Δ es jL) (hv:oU ty d k es 0=some r):∃r',(Instr.findKey ty c jL).run P0 w = .ok r' w/\zdD Δ r r':=by
 cases d with
 | none=>
   have h:=Sb hd;unfold Gz at h
   cases hu:P0.underlying ty with
   |none=>simp_all
   | some ds=>
     let⟨r',i,j⟩:=QV hu f g hv
     simp_all[Instr.findKey,gK]
 | some fs=>
   let⟨arr,hu,_,_,_⟩:=Qp hd
   cases g with
   | nil=>
     simp[oU]at hv;subst hv
     exact⟨none,by simp_all[Instr.findKey,gK,Instr.findNow],trivial⟩
   | cons k' v n e es jL a b l hs=>
     let⟨r',i,j⟩:=KD hd f w (.cons k' v n e es jL a b l hs) hv
     simp_all[Instr.findNow,Instr.sameNow,Instr.findKey,DO,gK,Hi]
theorem Jd{em:Bool} {q:Nat}   (w:World) (hq:0<q) (hc:gR Δ cs uD.toList):∀(fs:List Field),(∀f∈fs,Gz f.type=true/\f.name≠ "_")->
  (fs.all λf=>(NN cs f.offset).isSome)=true->
  (forIn fs PUnit.unit (λf _=>if f.name≠ "_" then do
    let x <-part f.type uD f.offset
    Instr.checkKey em q f.type x
    pure (ForInStep.yield PUnit.unit)
   else pure (ForInStep.yield PUnit.unit):Field->PUnit->Sem (ForInStep PUnit))).run P0 w = .ok PUnit.unit w
 |[],_,_=>rfl
 | f ::fs,hf,hh=>by
   obtain⟨m,rfl⟩:∃m,q=m+1:=by simp_all
   let⟨hft,hfn⟩:=hf f (by simp)
   simp only[wBo,yF]at hh
   let⟨v,hv⟩:=Option.isSome_iff_exists.1 hh.1
   let⟨x,hx,hr⟩:=NS w hft hc hv
   have a:(Instr.checkKey em (m+1) f.type x).run P0 w = .ok () w:=by
     unfold Gz at hft;split at hft
     ·simp_all[Instr.checkKey,gK]
     ·simp_all[Instr.checkKey,gK]
     ·simp_all[Instr.checkKey,gK]
     ·cases hft
   have b:=Jd (em:=em) w hq hc fs (by simp_all) hh.2
   simp_all
theorem vP{ty:Nat} {d:Option (List Field)} {k:V} {c:Value} (em:Bool) (q:Nat) (hq:0<q) (w:World) (hd:LC ty=some d) (e:fV Δ k c) (b:KY d k=true) :
  (Instr.checkKey em (q+1) ty c).run P0 w = .ok () w:=by
 cases d with
 | none=>
   have a:=Sb hd;unfold Gz at a;split at a
   ·simp_all[Instr.checkKey,gK]
   ·simp_all[Instr.checkKey,gK]
   ·simp_all[Instr.checkKey,gK]
   simp_all
 | some fs=>
   let⟨arr,hu,harr,_,hf⟩:=Qp hd
   simp[KY]at b;split at b
   ·cases e with
    | agg cs uD hc=>
      have:=Jd (em:=em) w hq hc fs hf b;rw[<-harr,Array.forIn_toList]at this
      simp_all[Instr.checkKey,DO,gK,Hi]
   ·cases b
theorem N2(a:WR Δ h w) {l:Nat} {d:D} (hl:Δ l=some d) {es:List (V×V×Nat)} {c:Nat} (e:h.get l=some (.map es c)) :
  ∃jL,w.heap[d.b]? =some (.map jL c)/\uB Δ es jL.toList:=by
 let⟨o,ho,hr⟩:=a.obj l d hl
 rw[e]at ho;cases ho
 let⟨_,_,_,jL,f,g,_⟩:=hr
 exact⟨jL,f,g⟩
theorem IG(a:WR Δ h w) {l:Nat} {d:D} (hl:Δ l=some d) {es:List (V×V×Nat)} {c:Nat} (b:h.get l=some (.map es c)):wW es c:=by
 let⟨o,ho,hr⟩:=a.obj l d hl
 rw[b]at ho;cases ho
 let⟨_,_,_,_,_,_,e⟩:=hr
 exact e
def zhH(k:IntKind)(ks:List Int)(es:List (V×V×Nat)):Prop:=(∀e∈es,e.2.1 = .bool true/\∃n∈ks,e.1 = .int k n)/\∀n∈ks,∃e∈es,e.1 = .int k n
theorem Yz:∀{jL:List MapEntry},(∀e∈jL,e.val = .bool true/\∃n,e.key = .int k n)->
  ∃es,uB Δ es jL/\(∀e∈es,e.2.1 = .bool true/\∃e'∈jL,∃n,e.1 = .int k n/\e'.key = .int k n)/\∀e'∈jL,∀n,e'.key = .int k n->∃e∈es,e.1 = .int k n
 |[],_=>⟨[],.nil,by simp,by simp⟩
 | e' :: jL,hh=>by
   let⟨h,n,f⟩:=hh e' (by simp)
   let⟨es,i,j,l⟩:=Yz (jL:=jL) λe d=>hh e (by simp[d])
   refine⟨(.int k n,.bool true,e'.born)::es,.cons _ _ _ _ _ _ (by rw[f];exact .int k n) (by rw[h];exact .bool true) rfl i,λe d=>?_,λe d m g=>?_⟩
   ·rcases Aw.1 d with rfl|d
    ·exact⟨rfl,e',by simp,n,rfl,f⟩
    ·let⟨a,x,b,c⟩:=j e d
     exact⟨a,x,by simp[b],c⟩
   ·rcases Aw.1 d with rfl|d
    ·rw[f]at g;cases g;exact⟨(.int k n,.bool true,e.born),by simp,rfl⟩
    ·let⟨x,a,b⟩:=l e d m g
     exact⟨x,by simp[a],b⟩
theorem Wr(j:WR Δ h w) {l:Nat} {d:D} (hl:Δ l=some d) {k:IntKind} {ks:List Int} (p:h.get l=some (.Rt k ks)) :
  ∃es jL c,w.heap[d.b]? =some (.map jL c)/\uB Δ es jL.toList/\zhH k ks es:=by
 let⟨o,ho,hr⟩:=j.obj l d hl
 rw[p]at ho;cases ho
 let⟨_,_,_,jL,c,q,g,r⟩:=hr
 let⟨es,s,i,t⟩:=Yz (Δ:=Δ) λe f=>⟨(g e f).1,let⟨n,_,h⟩:=(g e f).2;⟨n,h⟩⟩
 refine⟨es,jL,c,q,s,λe f=>⟨(i e f).1,?_⟩,λn u=>?_⟩
 ·let⟨_,e',a,n,b,c⟩:=i e f
  let⟨_,m,hm,hk⟩:=g e' a
  rw[c]at hk;cases hk;exact⟨n,hm,b⟩
 ·let⟨e',a,b⟩:=r n u
  exact t e' a n b
theorem KN{ks:List Int}{n:Int}:IE ks n=true↔n∈ks:=by simp[IE]
theorem L3{kt:Nat} (hi:Ht kt=true) (k:IntKind) (n:Int):∀{es:List (V×V×Nat)} (i:Nat),(∀e∈es,e.2.1 = .bool true/\∃n,e.1 = .int k n)->
  (oU kt none (.int k n) es i=some none/\∀e∈es,e.1≠ .int k n)\/∃j e,oU kt none (.int k n) es i=some (some (i+j,.bool true))/\es[j]? =some e/\e.1 = .int k n
 |[],i,_=> .inl ⟨rfl,by simp⟩
 | e ::es,i,c=>by
   let⟨h,m,d⟩:=c e (by simp)
   have a:oU kt none (.int k n) (e::es) i=if n=m then some (some (i,e.2.1)) else oU kt none (.int k n) es (i+1):=by
     show oB (L0 kt none (.int k n) e.1) _=_;have l:L0 kt none (.int k n) (.int k m)=some (n == m):=by
       unfold Ht at hi;show I8 kt (.int k n) (.int k m)=some (n == m);unfold I8;split at hi
       ·rename_i o
        rw[o];cases k <;> rfl
       ·cases hi
     rw[d,l];by_cases hn:n=m
     ·rw[if_pos hn,Ey.2 hn];rfl
     ·rw[if_neg hn,Ym.2 hn];rfl
   by_cases hn:n=m
   ·subst hn
    rw[if_pos rfl,h]at a;exact .inr ⟨0,e,a,rfl,d⟩
   ·rw[if_neg hn]at a
    rcases L3 hi k n (es:=es) (i+1) λe b=>c e (by simp[b])with⟨f,g⟩|⟨j,e',f,g,p⟩
    ·refine .inl ⟨a.trans f,λe' b=>?_⟩
     rcases Aw.1 b with rfl|b
     ·rw[d];intro c;cases c;exact hn rfl
     ·exact g e' b
    ·exact .inr ⟨j+1,e',by rw[a,f];congr 3;omega,g,p⟩
theorem run_getObj_map{r:Nat}{es:Array MapEntry}{c:Nat}(a:w.heap[r]? =some (.map es c)):(getObj r).run P0 w = .ok (.map es c) w:=by grind[getObj,Sem.run]
theorem V4 {a:Value} {ok:Bool} {r:Option (Nat×V)} {r':Option (Nat×Value)} (c:fV Δ z a) (b:zdD Δ r r') :
  fV Δ (found z ok r) (match r' with
   |some (_,v)=>if ok then .tuple #[v,.bool true] else v
   |none=>if ok then .tuple #[a,.bool false] else a):=by
 cases r with
 | none=>cases r' with
   |none=>cases ok
          ·exact c
          ·exact .tuple _ _ (.cons _ _ _ _ c (.one (.bool false)))
   |some _=>cases b
 | some x=>cases r' with
   |none=>cases b
   | some d=>
     let⟨_,hv⟩:=b
     cases ok
     ·exact hv
     ·exact .tuple _ _ (.cons _ _ _ _ hv (.one (.bool true)))
theorem Xt(G : WR Δ h w) {H:Nat} {p q:PF} {ok:Bool} {I J:Value} {v:V} (hp:∀v,p.f t h=some v->fV Δ v I) (hq:∀v,q.f t h=some v->fV Δ v J)
    (hv:(Jm H p q ok).f t h=some v):∃r,(Instr.lookup H I J ok).run P0 w = .ok r w/\fV Δ v r:=by
  unfold Jm at hv;split at hv
  ·rename_i kt Q K
   split at hv
   ·rename_i d z hd L
    let⟨zv,hzr,hzv,_⟩:=EJ L
    simp[fD,ik]at hv
    let⟨m,M,k,N,hh,a⟩:=hv
    have x:=hp _ M;have i:=hq _ N;split at a
    ·cases a;cases x
     have y:=vP true 9999 (by omega) w hd i hh;have o:=yn hd i w uB.nil (by rfl)
     let⟨r',o,hr⟩:=o
     have A:r' = none:=by cases r' <;> first|rfl|cases hr
     subst A;refine⟨_,?_,V4 (r:=none) (r':=none) (hzv Δ) trivial⟩;simp[Instr.lookup,DO,gK K]
     simp_all
    ·simp only [RO]at a
     cases x with
     | map l O hl =>
       have B:∃es jL c r,w.heap[O.b]? =some (.map jL c)/\uB Δ es jL.toList/\oU kt d k es 0=some r/\v=found z ok r:=by
         rcases a with⟨es,c,C,a⟩|⟨R,ks,C,a⟩
         ·rw[fD]at a
          let⟨r,o,a⟩:=a
          cases a
          let⟨jL,u,g⟩:=N2 G hl C
          exact⟨es,jL,c,r,u,g,o,rfl⟩
         ·let ⟨es,jL,c,u,g,hs1,hs2⟩:=Wr G hl C
          unfold Pk at a;split at a
          ·rename_i k' n
           simp[ik]at a;obtain⟨hi,D,a⟩:=a;obtain rfl:=EF D;cases a;rcases L3 hi k' n 0 λe g=>⟨(hs1 e g).1,let⟨n,_,h⟩:=(hs1 e g).2;⟨n,h⟩⟩ with⟨E,F⟩|⟨j,e,E,F,P⟩
           ·have s:IE ks n=false:=by
              cases hx:IE ks n with
              |false=>rfl
              | true=>
                let⟨e,g,i⟩:=hs2 n (KN.1 hx)
                exact absurd i (F e g)
            exact⟨es,jL,c,none,u,g,E,by rw[s]⟩
           ·have s:IE ks n=true:=by
              let⟨_,m,x,i⟩:=hs1 e (yN F)
              rw[P]at i;cases i;exact KN.2 x
            exact⟨es,jL,c,_,u,g,E,by rw[s];cases ok <;> rfl⟩
          ·cases a
       obtain⟨es,jL,c,r,u,g,o,rfl⟩:=B
       let⟨r',o,hr⟩:=yn hd i w g o
       have y:=vP jL.isEmpty 9999 (by omega) w hd i hh;refine⟨_,?_,V4 (hzv Δ) hr⟩;simp only[Instr.lookup,DO,gK K,Hi,UE,run_getObj_map u]
       grind[DO,Hi,UE]
    ·cases a
   ·cases hv
  ·cases hv
theorem zez(j:WR Δ h w) {ty:Nat} {b:Array Nat} (g:b[0]? =some ty) {rt:Nat} {p:PF} {xv:Value} {v:V} (hp:∀v,p.f t h=some v->fV Δ v xv)
  (hv:(hlen ty p).f t h=some v):∃r,(Builtin.len_ b rt #[xv]).run P0 w = .ok r w/\fV Δ v r:=by
 unfold hlen at hv;split at hv
 ·rename_i i;rw[fD]at hv
  let⟨x,d,a⟩:=hv
  have c:=hp _ d;split at a
  ·cases a
   cases c with
   |str s=>exact⟨goInt s.size,by simp_all[Builtin.len_,gK],.int _ _⟩
  ·cases a
 ·rename_i e i;rw[fD]at hv
  let⟨x,d,a⟩:=hv
  have c:=hp _ d;split at a
  ·rename_i lc off m;cases a;cases c <;> exact⟨goInt _,by simp_all[Builtin.len_,gK],.int _ _⟩
  ·cases a;cases c;exact⟨goInt 0,by simp_all[Builtin.len_,gK],.int _ _⟩
  ·cases a
 ·cases hv
theorem TL (w:World):∀{l:List V} {c:List Value} {x:V} {a:Value} {v:V},fV Δ x a->gR Δ l c->T4 b x l=some v->
  ∃r,(c.foldlM (if b then Builtin.max2 else Builtin.min2) a).run P0 w = .ok r w/\fV Δ v r
 |[],_,x,a,v,hx,hl,hv=>by simp[T4]at hv;subst hv;cases hl;simp_all
 | y ::l,_,x,a,v,hx,hl,hv=>by
   cases hl with
   | cons _ f _ c d hs=>
     unfold T4 at hv;split at hv
     ·simp_all
     ·rename_i k p k' q r e1
      cases e1;cases hx;cases d
      let⟨res,g,e⟩:=TL w (.int k _) hs hv
      refine⟨res,?_,e⟩;rw[List.foldlM_cons];simp;cases b
      ·simp_all[Builtin.min2]
      simp_all[Builtin.max2]
     ·cases hv
theorem Qq{ty:Nat} (hi:isIface ty=some false):∃d,P0.underlying ty=some d/\∀m,d≠ .interface m:=by
 grind[isIface]
theorem Yj {a xT:Nat} {ok:Bool}   (w:World) (hp:∀v,p.f t h=some v->fV Δ v xv)
  (hv:(Jq p a ok).f t h=some v):∃r,(Instr.typeAssert xv xT a ok).run P0 w = .ok r w/\fV Δ v r:=by
 unfold Jq at hv;split at hv
 ·rename_i hi
  let⟨d,hu,hd⟩:=Qq hi
  rw[fD]at hv
  let⟨x,c,b⟩:=hv
  have g:=hp _ c;split at b
  ·rw[ik]at b
   let⟨e,b⟩:=b
   cases b
   cases g with
   | iface _ _ i j=>
     refine⟨i,?_,j⟩;simp[Instr.typeAssert,DO,gK hu]
     simp_all
  ·cases b
 ·cases hv
theorem zcG{c:PF} {a pv d:Value}  (w:World) (hc:∀v,c.f t h=some v->fV Δ v a) (hp:∀v,p.f t h=some v->fV Δ v pv) (hq:∀v,q.f t h=some v->fV Δ v d)
  (hv:(OJ c p q).f t h=some v):∃r,(do pure (Next.value (if <-asBool a then pv else d)):Sem Next).run P0 w = .ok (.value r) w/\fV Δ v r:=by
 unfold OJ at hv;simp[fD]at hv
 let⟨x,g,e⟩:=hv
 have i:=hc _ g;split at e
 ·rename_i b;cases i;cases b
  ·simp_all[asBool]
  simp_all[asBool]
 ·cases e
theorem Ue {x:Operand}  (w:World) (hp:∀v,p.f t h=some v->fV Δ v (a.eval x)) (hv:(AZ p).f t h=some v) {dst ty pos af gd} :
  (execOp a.eval {dst:=dst,op:= .nilCheck x,type:=ty,pos:=pos,after:=af,guard:=gd}).run P0 w = .ok (.value (a.eval x)) w/\fV Δ v (a.eval x):=by
 unfold AZ at hv;rw[fD]at hv
 let⟨y,e,b⟩:=hv
 have c:=hp _ e;simp[execOp];generalize a.eval x=xv at c⊢;split at b
 ·cases b;cases c with|ptr _ _ d hd=>exact⟨rfl,.ptr _ _ d hd⟩
 ·cases b;cases c with|func _ _ _ p' q' e b=>exact⟨rfl,.func _ _ _ p' q' e b⟩
 ·cases b;cases c with|iface _ _ v' hv=>exact⟨rfl,.iface _ _ v' hv⟩
 ·cases b
theorem Vh {i:Nat}   (w:World) (hp:∀v,p.f t h=some v->fV Δ v xv) (hv:(Iz p i).f t h=some v) :
  ∃r,(Instr.extract xv i).run P0 w = .ok r w/\fV Δ v r:=by
 unfold Iz at hv;rw[fD]at hv
 let⟨y,c,a⟩:=hv
 have d:=hp _ c;split at a
 ·cases d with
  | tuple vs e b=>
    let⟨x,hx,hr⟩:=b.get _ _ (XR a)
    simp_all[Instr.extract]
 ·cases a
theorem Ih(a:WR Δ h w) {l:Nat} {d:D} (hl:Δ l=some d) {off m:Nat} {cs:List V} (hv:Mb h l off m=some cs) :
  ∃xs,(loadCells ⟨d.b,d.base+off,none⟩ m).run P0 w = .ok (Array.mk xs) w/\gR Δ cs xs:=by
 let⟨arr,e,c⟩:=MC a hl hv
 exact⟨arr.toList,by omega,c⟩
theorem zby  (hv:Mb h l off m=some cs):cs.length=m:=by
 grind[Mb,mO,ik,sub_eq]
theorem zdz(G:WR Δ h w) (C:TR Δ n t a) {o:Oper} {v:V} (hv:(iJ o).f t h=some v):∃x,(execOp a.eval o).run P0 w = .ok (.value x) w/\fV Δ v x:=by
 let⟨dst,op,ty,pos,af,gd⟩:=o
 have u:∀x v,(yL x).f t h=some v->fV Δ v (a.eval x):=by grind[uf]
 cases op with
 |move x=>exact⟨_,rfl,u x v hv⟩
 |assign x=>exact⟨_,rfl,u x v hv⟩
 |pick c p q=>exact zcG w (u c) (u p) (u q) hv
 | load ty P=>
   let⟨x,B,A⟩:=PZ G (u P) hv
   exact⟨x,pU B,A⟩
 | nilCheck x=>
   let⟨B,A⟩:=Ue w (u x) hv (dst:=dst) (ty:=ty) (pos:=pos) (af:=af) (gd:=gd)
   simp_all
 | binOp op Q x y U=>
   simp[iJ,fD]at hv
   let⟨p,B,q,A,E⟩:=hv
   let⟨r,g,j⟩:=zdw (X:=x) (Y:=y) w (u x _ B) (u y _ A) E
   exact⟨r,pU g,j⟩
 | unOp op Q x=>
   simp[iJ,fD]at hv
   let⟨p,B,A⟩:=hv
   let⟨r,g,j⟩:=zgk w (u x _ B) A
   exact⟨r,pU g,j⟩
 | convert R d x=>
   let⟨r,g,j⟩:=zbm w (u x) hv
   exact⟨r,pU g,j⟩
 | build ty H=>
   obtain⟨r,g,j⟩:=zax C hv;refine⟨r,pU ?_,j⟩;rw[<-g];congr 2
   grind
 | makeFunc fn first O=>
   cases fn with
   | func f=>
     simp[iJ,fD]at hv
     let⟨p,B,q,A,E⟩:=hv
     cases E;refine⟨_,rfl,.func f p q _ _ ?_ ?_⟩
     ·have:=Gi C B;simp_all
     ·have:=Gi C A;simp_all
   |_=>cases hv
 | slice ty x lo hi S=>
   cases S with
   | none=>
     let⟨r,g,j⟩:=zaQ G C (u x) hv
     exact⟨r,pU g,j⟩
   |some _=>cases hv
 | fieldAddr s x f=>
   let⟨r,g,j⟩:=RA w (u x) hv
   exact⟨r,pU g,j⟩
 | indexAddr ty x i=>
   let⟨r,g,j⟩:=RK w (u x) (u i) hv
   exact⟨r,pU g,j⟩
 | index ty x i=>
   let⟨r,g,j⟩:=Z3 w (u x) (u i) hv
   exact⟨r,pU g,j⟩
 | lookup ty m k ok=>
   let⟨r,g,j⟩:=Xt G (u m) (u k) hv
   exact⟨r,pU g,j⟩
 | extract x i=>
   let⟨r,g,j⟩:=Vh w (u x) hv
   exact⟨r,pU g,j⟩
 | makeInterface ty x=>
   simp[iJ]at hv;split at hv
   ·rename_i hi
    let⟨d,hu,hd⟩:=Qq hi
    simp[fD]at hv
    let⟨p,B,A⟩:=hv
    cases A;refine⟨.iface ty (a.eval x),pU ?_,.iface _ _ _ (by simp_all)⟩;simp only[Instr.makeInterface,DO,gK hu,Hi];rfl
   ·cases hv
 | typeAssert x xT D ok=>
   let⟨r,g,j⟩:=Yj (xT:=xT) w (u x) hv
   exact⟨r,pU g,j⟩
 | call c =>
   let⟨callee,args,argTypes⟩:=c
   simp[iJ]at hv
   cases callee with
   | builtin b=>
     cases b <;> try (cases hv;done)
     case len=>
       simp only at hv;split at hv
       ·rename_i x I T e F
        have J:argTypes[0]? =some I:=by rw[<-wBC,F];rfl
        let⟨r,g,j⟩:=zez G (rt:=ty) J (u x) hv
        refine⟨r,?_,j⟩;have K:args.map a.eval = #[a.eval x]:=by apply Array.ext';simp[e]
        simp[execOp,resolve,K];exact pU g
       ·cases hv
     case min=>
       simp[fD]at hv
       let⟨l,B,A⟩:=hv
       split at A
       ·rename_i x r
        have z:=Gi C B
        cases e:args.toList.map a.eval with
        |nil=>rw[e]at z;cases z
        | cons L r'=>
          rw[e]at z
          cases z with
          | cons _ _ _ _ M N=>
            let⟨res,E,g⟩:=TL w M N A
            refine⟨res,?_,g⟩;have K:(args.map a.eval).toList=L::r':=by simpa using e
            simp[execOp,resolve];refine pU ?_
            grind[Builtin.min_]
       ·cases A
     case max=>
       simp[fD]at hv
       let⟨l,B,A⟩:=hv
       split at A
       ·rename_i x r
        have z:=Gi C B
        cases e:args.toList.map a.eval with
        |nil=>rw[e]at z;cases z
        | cons L r'=>
          rw[e]at z
          cases z with
          | cons _ _ _ _ M N=>
            let⟨res,E,g⟩:=TL w M N A
            refine⟨res,?_,g⟩;have K:(args.map a.eval).toList=L::r':=by simpa using e
            simp[execOp,resolve];refine pU ?_
            grind[Builtin.max_]
       ·cases A
   |value f=>cases hv
   |invoke r m=>cases hv
 |_=>cases hv
def RW(Δ:Env)(b:Nat):Prop:=∃l d,Δ l=some d/\d.ro=false/\d.b=b
structure FR (Δ a:Env) (w w':World):Prop where
 le:Δ.le a
 size:w.heap.size<=w'.heap.size
 os:w'.os=w.os
 tape:w'.tape=w.tape
 output:w'.output=w.output
 fy:∀b,b<w.heap.size->¬RW Δ b->w'.heap[b]? =w.heap[b]?
 new:∀l d,a l=some d->Δ l=some d\/w.heap.size<=d.b\/RW Δ d.b
theorem FR.refl(Δ:Env)(w:World):FR Δ Δ w w:=⟨Env.le_refl _,jJ _,rfl,rfl,rfl,by simp_all,by simp_all⟩
theorem FR.trans{Δ k c:Env} {w w' e:World} (h:FR Δ k w w') (h':FR k c w' e):FR Δ c w e where
 le:=Env.le_trans h.le h'.le
 size:=OA h.size h'.size
 os:=h'.os.trans h.os
 tape:=h'.tape.trans h.tape
 output:=h'.output.trans h.output
 fy:=λb m n=>by
  rw[h'.fy b (NY m h.size) ?_,h.fy b m n];rintro⟨l,d,hl,q,rfl⟩;rcases h.new l d hl with a|a|a
  ·exact n ⟨l,d,a,q,rfl⟩
  ·omega
  simp_all
 new:=λl d hl=>by
  rcases h'.new l d hl with a|a|⟨o,p,f,g,i⟩
  ·exact h.new l d a
  ·exact .inr (.inl (OA h.size a))
  ·rcases h.new o p f with j|j|j
   ·exact .inr (.inr ⟨o,p,j,g,i⟩)
   ·omega
   simp_all
theorem xm(h:Hp) (o:O) (l:Nat):(h.new o).get l=if h.next=l then some o else h.get l:=by
 rw[Hp.get_eq,Hp.get_eq];unfold Hp.new;simp only[Tr.MN]
 grind
theorem jP{h:Hp}  (o:O) (m:Nat) (hl:l<h.next):(h.put l o).get m=if l=m then some o else h.get m:=by
 rw[Hp.get_eq,Hp.get_eq];unfold Hp.put;simp only[Tr.MN]
 grind
def Env.set(Δ:Env)(l:Nat)(d:D):Env:=λm=>if m=l then some d else Δ m
theorem Env.zA{Δ:Env} {l:Nat} {d:D} (h:Δ l=none):Δ.le (Δ.set l d):=λm e a=>by
 unfold Env.set
 grind
theorem Env.Bx(Δ:Env)(l:Nat)(d:D):(Δ.set l d) l=some d:=if_pos rfl
theorem Env.mc{Δ:Env} {l m:Nat} {d e:D} (h:(Δ.set l d) m=some e):(m=l/\e=d)\/(m≠l/\Δ m=some e):=by
 unfold Env.set at h
 grind
theorem WR.Jt{Δ:Env} {h:Hp} {w:World} (a:WR Δ h w):Δ h.next=none:=by
 cases hd:Δ h.next with
 |none=>rfl
 |some d=>exact absurd (a.fresh _ _ hd) (wB2 _)
theorem heap_alloc(w:World) (ob:Obj) (b:Nat):(w.alloc ob).heap[b]? =if b=w.heap.size then some ob else w.heap[b]?:=by
 grind[World.alloc]
theorem EB.step{Δ a:Env} {w w':World} (h:EB Δ w) (i:∀b,b<w.heap.size->¬RW Δ b->w'.heap[b]? =w.heap[b]?) (j:∀l d,a l=some d->d.ro=false->Δ l=some d\/w.heap.size<=d.b\/RW Δ d.b):EB a w':=by
 intro g c f;obtain⟨⟨e,fr,k⟩,m⟩:=h g c f
 grind[wAt,RW]
theorem WR.lay{Δ:Env} {h:Hp} {w:World} (c:WR Δ h w) {l:Nat} {o:O} {d:D} {ob:Obj} (u:Δ l=none) (hl:l<h.next) (x:h.get l=some o) (y:d.b=w.heap.size)
  (z:VX (Δ.set l d) d o (some ob)):WR (Δ.set l d) h (w.alloc ob) where
 fresh:=λm e a=>by
  rcases Env.mc a with⟨rfl,rfl⟩|⟨_,a⟩
  ·exact hl
  ·exact c.fresh m e a
 B8:=λm e a=>by
  simp only[World.size_alloc];rcases Env.mc a with⟨rfl,rfl⟩|⟨_,a⟩
  ·omega
  ·have:=c.B8 m e a;omega
 obj:=λm e a=>by
  rcases Env.mc a with⟨rfl,rfl⟩|⟨_,a⟩
  ·refine⟨o,x,?_⟩;rw[heap_alloc,if_pos y];exact z
  ·obtain⟨A,f,j⟩:=c.obj m e a;refine⟨A,f,?_⟩;rw[heap_alloc,if_neg (Nat.ne_of_lt (c.B8 m e a))];exact j.mono (Env.zA u)
 apart:=λm v e e' p B a k nw hp n q i r=>by
  rcases Env.mc a with⟨f,j⟩|⟨_,f⟩ <;> rcases Env.mc k with⟨s,C⟩|⟨_,s⟩
  ·omega
  ·have:=c.B8 v e' s;grind
  ·have:=c.B8 m e f;grind
  ·exact c.apart m v e e' p B f s nw hp n q i r
 JT:=λg p t hp=>by
  obtain⟨e,f,j⟩:=c.JT g p t hp;exact⟨e,Env.zA u _ _ f,j⟩
 yQ:=c.yQ
 XK:=c.XK.step (by simp_all[heap_alloc,if_neg,Nat.ne_of_lt]) λm e a _=>by
  rcases Env.mc a with⟨rfl,rfl⟩|⟨_,a⟩
  ·omega
  simp_all
theorem WR.more{Δ:Env} {h:Hp} {w:World} (a:WR Δ h w) (o:O):WR Δ (h.new o) w where
 fresh:=λl d hl=>wBj (a.fresh l d hl)
 B8:=a.B8
 obj:=λl d hl=>by
  obtain⟨j,k,n⟩:=a.obj l d hl;refine⟨j,?_,n⟩;rw[xm,if_neg (Nat.ne_of_gt (a.fresh l d hl))];exact k
 apart:=λm q e e' p r i b nw hp c=>by
  rw[xm,if_neg (Nat.ne_of_gt (a.fresh _ _ i))]at hp;rw[xm,if_neg (Nat.ne_of_gt (a.fresh _ _ b))]at c;exact a.apart m q e e' p r i b nw hp c
 JT:=λg p f hp=>by
  rw[xm,if_neg (by have:=a.yQ;omega)]at hp;exact a.JT g p f hp
 yQ:=wBN a.yQ
 XK:=a.XK
theorem FR.lay{Δ:Env} {w:World} {l:Nat} {d:D} {ob:Obj} (c:Δ l=none) (f:d.b=w.heap.size):FR Δ (Δ.set l d) w (w.alloc ob) where
 le:=Env.zA c
 size:=by simp
 os:=rfl
 tape:=rfl
 output:=rfl
 fy:=by simp_all[heap_alloc,if_neg,Nat.ne_of_lt]
 new:=λm e a=>by
  rcases Env.mc a with⟨rfl,rfl⟩|⟨_,a⟩
  ·omega
  simp_all
def Made(Δ:Env) (ob:O) (mk:Nat->V) (a:Obj) (c:Nat->Value):Prop:=∀l b,Δ l=none->∃d,d.b=b/\VX (Δ.set l d) d ob (some a)/\fV (Δ.set l d) (mk l) (c b)
theorem CE{Δ:Env} {d:D} {cs:List V} {c:Array Value} {e:Nat} (hs:c.size=d.asz) (a:d.base=0) (hl:cs.length<=d.asz) (hc:∀(i:Nat) (v:V),cs[i]? =some v->∃x,c[i]? =some x/\fV Δ v x) :
  L9 Δ d cs (some (.cells c e (0,0))):=
 ⟨c,e,(0,0),rfl,hs,λ_=> .inl rfl,by omega,λi v hi=>by rw[a,Jn];exact hc i v hi⟩
theorem YA{Δ:Env} {e:Nat} {v:V} {xv:Value} {ob:O} {mk:Nat->V} (c:fV Δ v xv) (hv:kZ e v=some (ob,mk)) :
  Made Δ ob mk (.cells xv.cells e) (λb=> .pointer (some ⟨b,0,none⟩)):=by
 unfold kZ at hv;rw[ik]at hv;obtain⟨_,hv⟩:=hv;cases hv;intro l b g;have hc:=c.cells;have a:=Env.zA (d:=⟨b,0,1,v.cells.length,xv.cells.size,false,0⟩) g;refine⟨⟨b,0,1,v.cells.length,xv.cells.size,false,0⟩,rfl,⟨rfl,rfl,rfl,rfl,λ_=>?_⟩,?_⟩
 ·refine CE rfl rfl (Nat.le_of_eq (by first|(simpa using hc.length)|(simpa using f.length))) λi u hi=>?_;obtain⟨x,c,f⟩:=hc.get i u hi;exact⟨x,by simp_all,f.mono a⟩
 ·exact fV.ptr l 0 ⟨b,0,1,v.cells.length,xv.cells.size,false,0⟩ (Env.Bx _ _ _)
theorem Jw{a size iU:Nat}  (h:elemOf a=some (size,iU,z)) :
  Dr a=some size/\zdO a=some iU/\zeroV a=some z/\0<size/\z.cells.length=size/\gi z.cells=true:=by
 grind[elemOf,fD,ik,Yh,DG]
theorem Lo{t e:Nat} (h:MQ t=some e):P0.underlying t=some (.slice e):=by
 grind[MQ]
theorem UN(z:List V):∀(m i:Nat),(DD m z)[i]? =if i<m*z.length then z[i % z.length]? else none
 |0,i=>by simp[DD]
 | m + 1,i=>by
   simp only[DD,List.getElem?_append];by_cases a:i<z.length
   ·rw[if_pos a,if_pos (by grind),Nat.mod_eq_of_lt a]
   ·rw[if_neg a,UN z m]
    have e:i % z.length=(i-z.length) % z.length:=by
      rw[Nat.mod_eq_sub_mod (by omega)]
    grind
theorem Cv(z:List V):∀m,(DD m z).length=m*z.length
 |0=>by simp[DD]
 |m+1=>by simp[DD,Cv z m,ZX,Nat.add_comm]
theorem Wj{Δ:Env} {z:List V} {a:Array Value} (b:gR Δ z a.toList) (h0:0<z.length) (m:Nat):gR Δ (DD m z) ((Array.range (m*z.length)).map λi=>a[i % a.size]!).toList:=by
 have hlen:=b.length;simp only[wBE]at hlen;refine gR.Uf (by simp[Cv]) λi v hi=>?_;rw[UN]at hi;by_cases h:i<m*z.length
 ·rw[if_pos h]at hi;obtain⟨x,c,d⟩:=b.get _ _ hi
  grind
 simp_all
theorem Vu(Z : TR Δ n t a) {o:Oper} {ob:O} {mk:Nat->V} (hv:(sY o).f t=some (ob,mk)) :
    ∃mo mv,(∀w,(execOp a.eval o).run P0 w = .ok (.value (mv w.heap.size)) (w.alloc mo))/\Made Δ ob mk mo mv:=by
  obtain⟨dst,op,ty,pos,af,gd⟩:=o
  cases op with
  | alloc e=>
    simp only[sY]at hv;split at hv
    ·rename_i z R
     obtain⟨y,I,C,_⟩:=EJ R;refine⟨_,_,λw=>pU (x:= .pointer (some ⟨w.heap.size,0,none⟩)) ?_,YA (C Δ) hv⟩
     simp_all[Instr.alloc,newVar,newRow]
    ·cases hv
  | box e x=>
    simp only[sY,fD]at hv;obtain⟨v,S,Q⟩:=hv;refine⟨_,_,λw=>pU (x:= .pointer (some ⟨w.heap.size,0,none⟩)) ?_,YA (HR Z S) Q⟩
    rfl
  | buildSlice T len g=>
    simp only[sY]at hv;split at hv
    ·rename_i s J
     have hu:=Lo J;split at hv
     ·rename_i size iU z he
      obtain⟨hs,_,R,U,E,_⟩:=Jw he;obtain⟨y,I,C,_⟩:=EJ R;split at hv
      ·rename_i D
       have ai:len*size<=16777216:=Oz D;simp only[HA,fD,ik]at hv;obtain⟨W,S,cs,Q,_,K⟩:=hv;cases K;have F:=(C Δ).cells;have A:=Wj F (by omega) len;have aj:y.cells.size=size:=by have:=F.length;simp only[wBE]at this;omega
       have j:gR Δ (DD len z.cells) ((Array.range (len*size)).map λi=>(if len*size=0 then(#[]:Array Value) else y.cells)[i % (if len*size=0 then(#[]:Array Value) else y.cells).size]!).toList:=by
         by_cases h0:len*size=0
         ·simp_all
         ·simp_all
       obtain⟨uD,hf,hr⟩:=Pj (Fb Z S) j Q;refine⟨.cells uD s,λb=> .slice (some ⟨b,0,none⟩) len len,λw=>pU (w:=w) (x:= .slice (some ⟨w.heap.size,0,none⟩) len len) ?_,?_⟩
       ·have B:(g.map λ(x:Nat×Operand)=>(x.1,a.eval x.2)).toList=g.toList.map λx=>(x.1,a.eval x.2):=by simp
        have aa:¬(len*size>2 ^ 24):=by omega
        have X:(if len*size=0 then(pure #[]:Sem (Array Value)) else do pure (<-zeroValue s).cells).run P0 w = .ok (if len*size=0 then(#[]:Array Value) else y.cells) w:=by
          by_cases h0:len*size=0
          ·simp_all
          ·simp_all
        simp only[Instr.buildSlice,DO,gK hu,zR hs,Hi,Sem.run_ite];rw[if_neg aa];simp only[UE,Hi,DO];clear j X;by_cases h0:len*size=0
        ·simp only[if_pos h0]at hf⊢
         rw[B];have L:Instr.fill (λi=>some (i*size,size)) (Array.map (λx=>(#[]:Array Value)[x % (#[]:Array Value).size]!) (Array.range (len*size))) (List.map (λx=>(x.1,a.eval x.2)) g.toList)=some uD:=hf;rw[L];rfl
        ·simp only[if_neg h0,I,Hi]at hf⊢
         rw[B];have L:Instr.fill (λi=>some (i*size,size)) (Array.map (λx=>y.cells[x % y.cells.size]!) (Array.range (len*size))) (List.map (λx=>(x.1,a.eval x.2)) g.toList)=some uD:=hf;rw[L];rfl
       ·intro l b hn
        have M:=hr.length;simp only[wBE]at M;have ak:cs.length=len*size:=by
          have h5:∀{place:Nat->Option (Nat×Nat)} {W:List (Nat×V)} {c c':List V},yd place c W=some c'->c'.length=c.length:=by
            intro place W
            induction W with
            |nil=>grind[yd]
            | cons p W ih=>
              intro c c' h;simp only[yd,fD,ik]at h;obtain⟨q,_,_,al,h6,h7⟩:=h;rw[ih h7,(NW h6).1]
          rw[h5 Q,Cv,E]
        have D:=Env.zA (d:=⟨b,0,size,cs.length,uD.size,false,0⟩) hn;refine⟨⟨b,0,size,cs.length,uD.size,false,0⟩,rfl,⟨rfl,rfl,rfl,rfl,λ_=>?_⟩,?_⟩
        ·refine CE rfl rfl (by simp_all) λi u hi=>?_
         obtain⟨x,hx,N⟩:=hr.get i u hi;exact⟨x,by simp_all,N.mono D⟩
        ·refine fV.slice l 0 len len 0 ⟨b,0,size,cs.length,uD.size,false,0⟩ (Env.Bx _ _ _) rfl (jJ _) (.inl ⟨rfl,?_,?_⟩)
         ·simp_all
         simp_all
      ·cases hv
     ·cases hv
    ·cases hv
  | makeSlice T m c=>
    simp only[sY]at hv;split at hv
    ·rename_i s J
     have hu:=Lo J;split at hv
     ·rename_i size iU z he
      obtain⟨hs,P,R,U,E,_⟩:=Jw he;obtain⟨y,I,C,i,hi,am⟩:=EJ R;simp only[fD]at hv;obtain⟨mv,S,cv,Q,K⟩:=hv;have hm:=HR Z S;have hc:=HR Z Q;unfold jy at K;split at K
      ·rename_i G c'
       simp only[ik]at K;obtain⟨h4,h5,h6,h7⟩:=K;cases h7;have ab:G<=c':=Oz h4;have an:c'*iU<=281474976710656:=Oz h5;have ac:c'<=1099511627776:=Oz h6;have ad:i.bytes=iU:=by
         unfold zdO at P;rw[fD]at P;obtain⟨i',Y,hb⟩:=P;rw[hi]at Y;cases Y;simpa using hb
       have F:=(C Δ).cells;have A:=Wj F (by omega) c';rw[E]at A;have ae:a.eval m = .int .i64 (G:Int):=by
         generalize a.eval m=x at hm;cases hm;rfl
       have ag:a.eval c = .int .i64 (c':Int):=by
         generalize a.eval c=x at hc;cases hc;rfl
       have wr:∀k:Nat,k<=1099511627776->IntKind.i64.wrap (k:Int)=k:=by grind[IntKind.wrap,IntKind.bits,IntKind.signed]
       refine⟨.cells ((Array.range (c'*size)).map λi=>y.cells[i % y.cells.size]!) s,λb=> .slice (some ⟨b,0,none⟩) G c',λw=>pU (w:=w) (x:= .slice (some ⟨w.heap.size,0,none⟩) G c') ?_,?_⟩
       ·rw[ae,ag]
        have e1:((i.bytes:Int)*(c':Int)>2 ^ 48)=False:=by
          rw[ad];have:(iU:Int)*(c':Int)=((c'*iU:Nat):Int):=by rw[wB1];simp
          rw[this];simp;omega
        have j:(if c'*size=0 then(pure #[]:Sem (Array Value)) else do pure (<-zeroValue s).cells).run P0 w = .ok (if c'*size=0 then(#[]:Array Value) else y.cells) w:=by
          by_cases h0:c'*size=0
          ·simp_all
          ·simp_all
        have H:((Array.range (c'*size)).map λi=>(if c'*size=0 then(#[]:Array Value) else y.cells)[i % (if c'*size=0 then(#[]:Array Value) else y.cells).size]!)=((Array.range (c'*size)).map λi=>y.cells[i % y.cells.size]!):=by
          by_cases h0:c'*size=0
          ·simp_all
          ·simp_all
        have c1:¬((c':Int)<0):=by omega
        have c2:¬((G:Int)<0):=by omega
        have c3:¬((G:Int)>(c':Int)):=by omega
        simp only[Instr.makeSlice,DO,gK hu,Hi,asInt,asIntOf,UE,typeInfo,run_program,hi,wr G (by omega),wr c' ac,e1,c1,c2,c3,decide_false,Bool.or_false,wBK,if_false,run_askRoom,zR hs,Int.toNat_natCast];clear j;by_cases h0:c'*size=0
        ·simp only[if_pos h0,newRow,run_newObj,DO,UE,Hi]at H⊢
         rw[H];rfl
        simp_all[if_neg,newRow,run_newObj,DO,UE,Hi]
       ·intro l b hn
        have M:=A.length;simp only[wBE]at M;have ah:(DD c' z.cells).length=c'*size:=by rw[Cv,E]
        have D:=Env.zA (d:=⟨b,0,size,(DD c' z.cells).length,c'*size,false,0⟩) hn;refine⟨⟨b,0,size,(DD c' z.cells).length,c'*size,false,0⟩,rfl,⟨rfl,rfl,rfl,rfl,λ_=>?_⟩,?_⟩
        ·refine CE (by simp) rfl (Nat.le_of_eq ah) λi u hi=>?_
         obtain⟨x,hx,N⟩:=A.get i u hi;exact⟨x,by grind,N.mono D⟩
        ·refine fV.slice l 0 G c' 0 ⟨b,0,size,(DD c' z.cells).length,c'*size,false,0⟩ (Env.Bx _ _ _) rfl ab (.inl ⟨rfl,?_,?_⟩)
         ·simp_all
         simp_all
      ·cases K
     ·cases hv
    ·cases hv
  | makeMap T r=>
    cases r with
    | none=>
      simp only[sY]at hv;split at hv
      ·cases hv
       refine⟨.map #[] 0,λb=> .map (some b),λw=>pU (x:= .map (some w.heap.size)) (by simp[Instr.makeMap]),?_⟩;intro l b hn;exact⟨⟨b,0,0,0,0,false,1⟩,rfl,⟨rfl,rfl,rfl,#[],rfl,.nil,by simp,by simp⟩,fV.map l ⟨b,0,0,0,0,false,1⟩ (Env.Bx _ _ _)⟩
      ·cases hv
    |some _=>cases hv
  |_=>cases hv
