/- Parts. -/
import Derived.Test.YtbdcpiokodljaaaGreatDoorM01
import Derived.Laws.Pointers
import Derived.Laws.StructEq
import Derived.Laws.Strings2
import Derived.Laws.IdiomStrings
set_option maxHeartbeats 4000000
namespace Go.Proofs.YtbdcpiokodljaaaGreatDoor.Hx
inductive vw (Δ:Env):List (V×V×Nat)->List MapEntry->Prop
 |nil:vw Δ [] []
 | cons (k v:V) (n:Nat) (e:MapEntry) (b:List (V×V×Nat)) (a:List MapEntry) (hk:fO Δ k e.key) (hv:fO Δ v e.val) (c:e.born=n)
   (hs:vw Δ b a):vw Δ ((k,v,n)::b) (e::a)
theorem vw.mono{Δ d:Env} (b:Δ.le d) {c:List (V×V×Nat)} {a:List MapEntry} (h:vw Δ c a):vw d c a:=by
 induction h with
 |nil=>exact .nil
 |cons k v n e c a hk hv f _ g=>exact .cons k v n e c a (hk.mono b) (hv.mono b) f g
def Ia(Δ:Env) (d:D) (cs:List V) (ob:Option Obj):Prop:=∃c e fr,ob=some (.cells c e fr)/\c.size=d.XG/\(d.ro=false->fr.1=fr.2\/d.XG<=fr.1)/\d.base+cs.length<=d.XG/\∀(i:Nat) (v:V),cs[i]? =some v->∃x,c[d.base+i]? =some x/\fO Δ v x
def St(Δ:Env) (d:D) (o:O) (ob:Option Obj):Prop:=match o with
 | .cells _ sz live ro cs=>d.kind=0/\d.sz=sz/\d.n=cs.length/\d.ro=ro/\(live=true->Ia Δ d cs ob)
 | .map f a=>d.kind=1/\d.ro=false/\d.base=0/\∃c,ob=some (.map c a)/\vw Δ f c.toList
 | .iter m since seen last=>d.kind=2/\d.ro=false/\d.base=0/\∃e,ob=some (.mapIter e since seen.toArray last)/\
   (match m with
    |none=>e=none
    |some l=>∃d',Δ l=some d'/\e=some d'.b)
def O.live:O->Bool
 | .cells _ _ live _ _=>live
 |_=>true
def DG(Δ:Env)(w:World):Prop:=∀g c,(g,c)∈zeB->(∃e fr,w.heap[g]? =some (.cells c e fr))/\∀l d,Δ l=some d->d.ro=false->d.b≠g
structure WR (Δ:Env) (h:Hp) (w:World):Prop where
 fresh:∀l d,Δ l=some d->l<h.next
 nV:∀l d,Δ l=some d->d.b<w.heap.size
 obj:∀l d,Δ l=some d->∃o,h.get l=some o/\St Δ d o w.heap[d.b]?
 apart:∀l a d d' o c,Δ l=some d->Δ a=some d'->l≠a->h.get l=some o->h.get a=some c->o.live=true->c.live=true->
  (d.ro=false\/d'.ro=false)->d.b≠d'.b
 Jq:∀g o,g<P0.globals.size->h.get g=some o->∃d,Δ g=some d/\d.b=g/\d.base=0
 An:P0.globals.size<=h.next
 Wj:DG Δ w
inductive Kr (Δ:Env):List (Nat×List V)->List Deferred->Prop
 |nil:Kr Δ [] []
 | cons (g:Nat) (args:List V) (cap gS:Array Value) (l:List (Nat×List V)) (a:List Deferred) (b:gN Δ args (gS++cap).toList) (c:Kr Δ l a) :
   Kr Δ ((g,args)::l) ({target:= .fn (.func g) cap,args:=gS}::a)
theorem Kr.mono{Δ c:Env} (b:Δ.le c) {l:List (Nat×List V)} {a:List Deferred} (h:Kr Δ l a):Kr c l a:=by
 induction h with
 |nil=>exact .nil
 |cons g args cap gS l a d _ e=>exact .cons g args cap gS l a (d.mono b) e
structure TR (Δ:Env) (n:Nat) (t:Tm) (a:Act):Prop where
 size:a.tmps.size=n
 rel:∀i,fO Δ (ki t i) (a.tmps.getD i undef)
 ds:Kr Δ t.ds a.defers
theorem Ia.mono{Δ b:Env} (a:Δ.le b) {d:D} {cs:List V} {ob:Option Obj} (h:Ia Δ d cs ob):Ia b d cs ob:=by
 obtain⟨c,e,fr,f,g,j,k,l⟩:=h;exact⟨c,e,fr,f,g,j,k,λi v hi=>let⟨x,hx,hr⟩:=l i v hi;⟨x,hx,hr.mono a⟩⟩
theorem St.mono{Δ n:Env} (a:Δ.le n) {d:D} {o:O} {ob:Option Obj} (h:St Δ d o ob):St n d o ob:=by
 cases o with
 | cells e sz live ro cs=>
   obtain⟨c,f,g,i,b⟩:=h
   exact⟨c,f,g,i,λp=>(b p).mono a⟩
 | map t j=>
   obtain⟨c,f,g,k,i,b⟩:=h
   exact⟨c,f,g,k,i,b.mono a⟩
 | iter m since seen last=>
   obtain⟨c,f,g,q,i,b⟩:=h;refine⟨c,f,g,q,i,?_⟩
   cases m with
   |none=>exact b
   |some l=>obtain⟨d',r,s⟩:=b;exact⟨d',a _ _ r,s⟩
theorem TR.mono{Δ c:Env}(b:Δ.le c){n:Nat}{t:Tm}{a:Act}(h:TR Δ n t a):TR c n t a:=⟨h.size,λi=>(h.rel i).mono b,h.ds.mono b⟩
theorem gf{t:Nat}{d:TypeDesc}{w:World}(h:P0.underlying t=some d):(underlying t).run P0 w = .ok d w:=by simp[underlying,h]
theorem Fy{t n:Nat} (h:zR t=some n):∃i,P0.info? t=some i/\i.size=n:=by
 grind[zR,ft]
theorem xy{t n:Nat} {w:World} (h:zR t=some n):(sizeOf t).run P0 w = .ok n w:=by
 obtain⟨i,hi,rfl⟩:=Fy h
 simp_all[sizeOf,typeInfo]
theorem Ib{t:Nat} {b:Bool} {w:World} (h:OM t=some b):(isAgg t).run P0 w = .ok b w:=by
 unfold OM at h;split at h
 ·simp_all[isAgg,gf]
 ·simp_all[isAgg,gf]
 ·simp_all[isAgg,yo,gf,wT]
 ·cases h
theorem Bp{t:Nat} {z:V} (h:zeroV t=some z):∃a,(∀w,(zeroValue t).run P0 w = .ok a w)/\(∀Δ,fO Δ z a)/\∃i,P0.info? t=some i/\i.zero=some a:=by
 unfold zeroV at h;simp only[ft]at h;obtain⟨i,hi,a,b,hv⟩:=h;exact⟨a,by simp_all[zeroValue,typeInfo],by grind[Ig],i,hi,b⟩
theorem ur(b o n:Nat):(⟨b,o,none⟩:Addr).add n=⟨b,o+n,none⟩:=by
 grind[Addr.add]
section
variable{Δ:Env}{h:Hp}{w:World}{n:Nat}{t:Tm}{a:Act}
theorem Hz(b:TR Δ n t a) {x:Operand} {v:V} (hv:(OY x).f t=some v):fO Δ v (a.eval x):=by
 cases x with
 |tmp i=>simp only[OY]at hv;cases hv;exact b.rel i
 | const c=>
   simp only[OY]at hv;split at hv
   ·rename_i y d;cases hv;exact Ig Δ 8 c _ d
   ·cases hv
 |global g=>grind[OY]
 |func f=>simp only[OY]at hv;cases hv;exact .func f [] [] #[] #[] .nil .nil
theorem lX(j:WR Δ h w) (b:TR Δ n t a) {x:Operand} {v:V} (hv:(uf x).f t h=some v):fO Δ v (a.eval x):=by
 cases x with
 | global g=>
   unfold uf at hv
   cases Pu:Nat.blt g P0.globals.size with
   | true=>
     simp only[Pu,ft]at hv;obtain⟨o,k,hv⟩:=hv;cases hv;have l:g<P0.globals.size:=by rw[<-Q8];exact Pu
     obtain⟨d,m,p,e⟩:=j.Jq g o l k;have:=fO.ptr (Δ:=Δ) g 0 d m;rw[p,e]at this
     exact this
   |false=>simp_all
 |tmp i=>exact Hz b hv
 |const c=>exact Hz b hv
 |func f=>exact Hz b hv
theorem Cz(b:TR Δ n t a):∀{l:List Operand} {vs:List V},KA t l=some vs->gN Δ vs (l.map a.eval)
 |[],vs,hv=>by simp[KA]at hv;subst hv;exact .nil
 | x::l,vs,hv=>by
   simp only[KA,ft]at hv;obtain⟨v,c,d,e,f⟩:=hv;cases f;exact .cons _ _ _ _ (Hz b c) (Cz b e)
inductive ZP (Δ:Env):List (Nat×V)->List (Nat×Value)->Prop
 |nil:ZP Δ [] []
 |cons (i:Nat) (v:V) (a:Value) (l:List (Nat×V)) (b:List (Nat×Value)) (hv:fO Δ v a) (hs:ZP Δ l b):ZP Δ ((i,v)::l) ((i,a)::b)
theorem FM(b:TR Δ n t a):∀{l:List (Nat×Operand)} {vs:List (Nat×V)},ve t l=some vs->ZP Δ vs (l.map λx=>(x.1,a.eval x.2))
 |[],vs,hv=>by simp[ve]at hv;subst hv;exact .nil
 | x::l,vs,hv=>by
   simp only[ve,ft]at hv;obtain⟨v,c,d,e,f⟩:=hv;cases f;exact .cons _ _ _ _ _ (Hz b c) (FM b e)
theorem V9(f:WR Δ h w) {l:Nat} {d:D} (g:Δ l=some d) {e sz:Nat} {ro:Bool} {cs:List V} (j:h.get l=some (.cells e sz true ro cs))
  {i:Nat} {v:V} (hi:cs[i]? =some v):∃x,w.cell? ⟨d.b,d.base+i,none⟩=some x/\fO Δ v x:=by
 obtain⟨o,a,k⟩:=f.obj l d g;rw[j]at a;cases a;obtain⟨_,_,_,_,hc⟩:=k;obtain⟨c,e',fr,m,_,_,_,n⟩:=hc rfl
 grind[World.cell?]
theorem J3(g:WR Δ h w) {l:Nat} {d:D} (i:Δ l=some d) {off m:Nat} {cs:List V} (hv:IS h l off m=some cs) :
  ∃a,(loadCells ⟨d.b,d.base+off,none⟩ m).run P0 w = .ok a w/\gN Δ cs a.toList:=by
 unfold IS at hv;rw[lW]at hv;obtain⟨e,sz,live,ro,all,k,hv⟩:=hv;rw[hK]at hv;obtain⟨rfl,hv⟩:=hv;obtain⟨hlen,c⟩:=sub_eq hv;have f:∀j,j<m->∃x v,w.cell? ⟨d.b,d.base+off+j,none⟩=some x/\cs[j]? =some v/\fO Δ v x:=by grind[hO,V9,Nat.add_assoc]
 refine⟨_,run_loadCells w ⟨d.b,d.base+off,none⟩ m (λj=>(w.cell? ⟨d.b,d.base+off+j,none⟩).getD undef) (λj n=>?_),?_⟩
 ·grind[ur]
 grind[gN.RL,kj]
theorem ZM(a:WR Δ h w) {l:Nat} {d:D} (c:Δ l=some d) {off:Nat} {v:V} (hv:ld1 h l off=some v) :
  ∃x,w.cell? ⟨d.b,d.base+off,none⟩=some x/\fO Δ v x:=by
 unfold ld1 at hv;rw[lW]at hv;obtain⟨e,sz,live,ro,all,f,hv⟩:=hv;rw[hK]at hv;obtain⟨rfl,hv⟩:=hv;exact V9 a c f (OL hv)
theorem Ox(i:WR Δ h w) {ty:Nat} {p:PF} {xv:Value} (hp:∀v,p.f t h=some v->fO Δ v xv) {v:V} (hv:(Mh ty p).f t h=some v) :
  ∃x,(Instr.loadAt ty xv).run P0 w = .ok x w/\fO Δ v x:=by
 unfold Mh at hv;split at hv
 ·rename_i j;split at hv
  ·rename_i m n;simp only[ft,yf]at hv;obtain⟨av,b,l,off,rfl,cs,c,k⟩:=hv;cases k
   cases hp _ b with
   | ptr _ _ d e=>
     obtain⟨g,o,a⟩:=J3 i e c;exact⟨.agg g,by simp_all[Instr.loadAt,Instr.sureAddr,loadVar,Ib,xy],.agg _ _ a⟩
  ·cases hv
 ·rename_i j;simp only[ft,yf]at hv;obtain⟨av,b,l,off,rfl,c⟩:=hv
  cases hp _ b with
  | ptr _ _ d e=>
    obtain⟨x,q,a⟩:=ZM i e c
    simp_all[Instr.loadAt,Instr.sureAddr,loadVar,Ib]
 ·cases hv
theorem Mt:∀(fs:List Field) (pl:List (Nat×Nat)),placesOf fs=some pl->fs.mapM (λf=>(P0.info? f.type).map λi=>(f.offset,i.size))=some pl
 |[],pl,h=>by grind[placesOf]
 | f::fs,pl,h=>by
   simp only[placesOf,ft]at h;obtain⟨m,a,l,b,c⟩:=h;cases c;obtain⟨i,hi,rfl⟩:=Fy a;simp[List.mapM_cons,hi,Mt fs l b]
theorem Qt:∀(xs:List Value) (k off:Nat) (c:Array Value),off+k+xs.length<=c.size->
  ∀i,((xs.zipIdx k).foldl (λcs (p:Value×Nat)=>cs.setIfInBounds (off+p.2) p.1) c)[i]? =if off+k<=i/\i<off+k+xs.length then xs[i-(off+k)]? else c[i]?
 | [],k,off,c,_,i=>by
   simp_all[if_neg,wB4]
 | x::xs,k,off,c,hle,i=>by
   simp only[List.zipIdx_cons,List.foldl_cons];simp only[Rb]at hle;rw[Qt xs (k+1) off _ (by simp;omega)]
   grind
theorem M9{place:Nat->Option (Nat×Nat)}:∀{ps:List (Nat×V)} {ps':List (Nat×Value)} {cells cs:List V} {a:Array Value},ZP Δ ps ps'->gN Δ cells a.toList->
  Ef place cells ps=some cs->∃qj,Instr.fill place a ps' = some qj/\gN Δ cs qj.toList
 |_,_,cells,cs,a,.nil,hc,hf=>by simp[Ef]at hf;subst hf;exact⟨a,rfl,hc⟩
 | _,_,cells,cs,a,.cons i v v' l l' hv hs,hc,hf=>by
   simp only[Ef,ft,hK]at hf;obtain⟨⟨off,size⟩,G,s,n,t,u⟩:=hf;obtain⟨H,w,f⟩:=Lo t;have d:=hv.cells;have z:v'.cells.size=size:=by
     have:=d.length;rw[CI s]at this;simpa using this.symm
   have o:=hc.length;simp only[wBE]at o;have A:v.cells.length=v'.cells.size:=by simpa using d.length
   have B:¬(v'.cells.size≠size\/off+v'.cells.size>a.size):=by
     rintro(h|h)
     ·omega
     ·omega
   have g:gN Δ n (v'.cells.zipIdx.foldl (λcs (c,j)=>cs.setIfInBounds (off+j) c) a).toList:=by
     have b:=Qt v'.cells.toList 0 off a (by simp;omega);have e:(v'.cells.zipIdx.foldl (λcs (c,j)=>cs.setIfInBounds (off+j) c) a)=((v'.cells.toList.zipIdx 0).foldl (λcs (p:Value×Nat)=>cs.setIfInBounds (off+p.2) p.1) a):=by
       rw[<-Array.foldl_toList];simp
     rw[e];generalize hF:((v'.cells.toList.zipIdx 0).foldl (λcs (p:Value×Nat)=>cs.setIfInBounds (off+p.2) p.1) a)=F at b;have C:F.size=a.size:=by
      apply Nat.le_antisymm
      ·rcases Ud a.size F.size with q|r
       ·have:=b a.size
        grind
       omega
      ·rcases Ud F.size a.size with q|r
       ·have:=b F.size
        grind
       omega
     refine gN.RL (by simp_all) λj x k=>?_;rw[f j]at k;have m:=b j;simp only[wBw,wBE]at m;rw[wBC,m];by_cases hin:off<=j/\j<off+v.cells.length
     ·rw[if_pos hin]at k
      rw[if_pos (by omega)];exact d.get _ _ k
     ·rw[if_neg hin]at k
      rw[if_neg (by omega)];obtain⟨y,I,D⟩:=hc.get _ _ k
      simp_all
   obtain⟨qj,E,D⟩:=M9 hs g u
   simp_all[Instr.fill,if_neg]
theorem XD(m:TR Δ n t a) {ty:Nat} {parts:List (Nat×Operand)} {v:V} (hv:(JS ty parts).f t h=some v) :
  ∃x,(Instr.build ty (parts.map λx=>(x.1,a.eval x.2)).toArray).run P0 w = .ok x w/\fO Δ v x:=by
 unfold JS at hv;split at hv
 ·rename_i z p;obtain⟨y,_,e,i,hi,q⟩:=Bp p;have b:=(e Δ).cells;split at hv
  ·rename_i c r;split at hv
   ·rename_i d hp;simp only[ft]at hv;obtain⟨ps,g,cs,j,k⟩:=hv;cases k;obtain⟨qj,s,l⟩:=M9 (FM m g) b j;refine⟨.agg qj,?_,.agg _ _ l⟩
    simp_all[run_build,Program.built,Mt]
   ·cases hv
  ·rename_i len o r;split at hv
   ·rename_i size hs;obtain⟨A,u,rfl⟩:=Fy hs;simp only[ft]at hv;obtain⟨ps,g,cs,j,k⟩:=hv;cases k;obtain⟨qj,s,l⟩:=M9 (FM m g) b j;refine⟨.agg qj,?_,.agg _ _ l⟩
    simp_all[run_build,Program.built]
   ·cases hv
  ·cases hv
 ·cases hv
end
theorem qZ(k:IntKind) (n:Int):mq k n=k.wrap n:=by
 unfold mq
 cases n with
 |negSucc m=>rfl
 | ofNat m=>
   simp only;split
   ·rename_i a
    rw[Q8]at a;have e:(Int.ofNat m)=(m:Int):=rfl
    grind[IntKind.wrap,IntKind.bits,IntKind.signed]
   ·rfl
section
variable{Δ:Env}{h:Hp}{w:World}{n:Nat}{t:Tm}{a:Act}
theorem nM{s:Sem Value}{x:Value}{w w':World}(h:s.run P0 w = .ok x w'):(do pure (Next.value (<-s)):Sem Next).run P0 w = .ok (.value x) w':=by simp[h]
theorem Ls{k k':IntKind}(h:Rq k k' = true):k=k':=by cases k <;> cases k' <;> first|rfl|cases h
theorem zaH{op:BinOp} {k:IntKind} {x y:Int} {v:V} (ty:Nat) (w:World) (hs:Ww op=false) (hv:hint op k x y=some v) :
  ∃r,(binOp op ty (.int k x) (.int k y)).run P0 w = .ok r w/\∀Δ,fO Δ v r:=by
 cases op with
 |shl=>cases hs
 |shr=>cases hs
 |add=>simp only[hint]at hv;cases hv;rw[qZ];exact⟨_,by simp[binOp,Op.intArith],λΔ=> .int _ _⟩
 |sub=>simp only[hint]at hv;cases hv;rw[qZ];exact⟨_,by simp[binOp,Op.intArith],λΔ=> .int _ _⟩
 |mul=>simp only[hint]at hv;cases hv;rw[qZ];exact⟨_,by simp[binOp,Op.intArith],λΔ=> .int _ _⟩
 | quo=>
   have b:y≠0:=by rintro rfl;simp[hint]at hv
   have a:some (V.int k (mq k (x.tdiv y)))=some v:=by
     rw[<-hv];unfold hint;simp only;split
     ·simp_all
     ·rfl
   cases a;rw[qZ];exact⟨_,by simp_all[binOp,Op.intDiv],λΔ=> .int _ _⟩
 | rem=>
   have b:y≠0:=by rintro rfl;simp[hint]at hv
   have a:some (V.int k (x.tmod y))=some v:=by
     rw[<-hv];unfold hint;simp only;split
     ·simp_all
     ·rfl
   cases a;exact⟨_,by simp_all[binOp,Op.intDiv],λΔ=> .int _ _⟩
 |and=>simp only[hint]at hv;cases hv;exact⟨_,by simp[binOp,Op.intBits],λΔ=> .int _ _⟩
 |or=>simp only[hint]at hv;cases hv;exact⟨_,by simp[binOp,Op.intBits],λΔ=> .int _ _⟩
 |xor=>simp only[hint]at hv;cases hv;exact⟨_,by simp[binOp,Op.intBits],λΔ=> .int _ _⟩
 |andNot=>simp only[hint]at hv;cases hv;exact⟨_,by simp[binOp,Op.intBits],λΔ=> .int _ _⟩
 |eql=>simp only[hint]at hv;cases hv;exact⟨_,by simp[binOp,Op.intCmp],λΔ=> .bool _⟩
 |neq=>simp only[hint]at hv;cases hv;exact⟨_,by simp[binOp,Op.intCmp],λΔ=> .bool _⟩
 |lss=>simp only[hint]at hv;cases hv;exact⟨_,by simp[binOp,Op.intCmp],λΔ=> .bool _⟩
 |leq=>simp only[hint]at hv;cases hv;exact⟨_,by simp[binOp,Op.intCmp],λΔ=> .bool _⟩
 |gtr=>simp only[hint]at hv;cases hv;exact⟨_,by simp[binOp,Op.intCmp],λΔ=> .bool _⟩
 |geq=>simp only[hint]at hv;cases hv;exact⟨_,by simp[binOp,Op.intCmp],λΔ=> .bool _⟩
theorem W1{op:BinOp} {k k':IntKind} {x y:Int} {v:V} (ty:Nat) (w:World) (hv:U0 op k x y=some v) :
  ∃r,(binOp op ty (.int k x) (.int k' y)).run P0 w = .ok r w/\∀Δ,fO Δ v r:=by
 unfold U0 at hv;split at hv
 ·cases hv
 ·rename_i m;have a:¬((Int.ofNat m)<0):=by simp
  split at hv
  ·cases hv;exact⟨_,by rfl,λΔ=> .int _ _⟩
  ·cases hv;exact⟨_,by rfl,λΔ=> .int _ _⟩
  ·cases hv
theorem zbp{op:BinOp} {x y:ByteArray} {v:V} (ty:Nat) (w:World) (hv:zdK op x.data.toList y.data.toList=some v) :
  ∃r,(binOp op ty (.string x) (.string y)).run P0 w = .ok r w/\∀Δ,fO Δ v r:=by
 have c:(binOp op ty (.string x) (.string y))=Op.stringOp op x y:=by cases op <;> rfl
 rw[c];have h:x.toList=x.data.toList:=ByteArray.toList_eq x;have i:y.toList=y.data.toList:=ByteArray.toList_eq y;cases op <;> simp only[zdK]at hv <;> try (cases hv;done)
 case add=>
  split at hv
  ·rename_i b;cases hv;have a:=K7 b;have d:¬(((x.size+y.size:Nat):Int)>IntKind.i64.max):=by
    have f:x.data.toList.length=x.size:=rfl;have g:y.data.toList.length=y.size:=rfl;rw[f,g]at a;simp only[IntKind.max,IntKind.signed,IntKind.bits,if_true];omega
   have e:x.data.toList++y.data.toList=(x++y).data.toList:=by simp
   rw[e];exact⟨_,by simp_all[Op.stringOp,if_neg],λΔ=> .str _⟩
  ·cases hv
 all_goals
  cases hv;refine⟨_,by simp_all[Op.stringOp],λΔ=> .bool _⟩
theorem Jt{op:BinOp} {ty:Nat} {X Y:Operand} {x y:Value} (w:World) (a:x≠ .nilIface) (b:∀c,x≠ .agg c) :
  (eqGuard op ty X Y x y).run P0 w = .ok () w:=by
 cases op <;> unfold eqGuard <;> dsimp only <;> simp only[wB6,wBf,RY,if_true,if_false] <;> first
  |rfl
  |simp_all
theorem Xy{d:TypeDesc} {ty:Nat} {x y:V} {xv a:Value} {b:Bool} (w:World) (c:Nat) (e:P0.underlying ty=some d) (f:fO Δ x xv) (g:fO Δ y a)
  (hv:Ze d x y=some b):(Op.equalIn (c+1) ty xv a).run P0 w = .ok b w:=by
 unfold Ze at hv;split at hv <;> first|(cases hv;done)|skip
 all_goals
  first
   |cases hv
   |(rw[hK]at hv;obtain⟨_,hv⟩:=hv;cases hv)
  cases f;cases g;simp only[Op.equalIn,yo,gf e,wT];rfl
theorem XV{a:Array (String×TypeId)} {ty:Nat} (w:World) (b:Nat) (c:P0.underlying ty=some (.interface a)) (d:a.isEmpty=true):(Op.eqGuardIn (b+1) ty .nilIface .nilIface).run P0 w = .ok false w:=by
 simp_all[Op.eqGuardIn,yo,gf,wT]
theorem zbt{d:TypeDesc} {ty:Nat} {x y:V} {xv a:Value} {b:Bool} (w:World) (g:P0.underlying ty=some d) (h:fO Δ x xv) (i:fO Δ y a)
  (hv:Ze d x y=some b):(Op.equal ty xv a).run P0 w = .ok b w/\(∀op X Y,(eqGuard op ty X Y xv a).run P0 w = .ok () w)/\
   (binOp .eql ty xv a)=(do pure (.bool (<-Op.equal ty xv a)))/\(binOp .neq ty xv a)=(do pure (.bool (!(<-Op.equal ty xv a)))):=by
 refine⟨Xy w 9999 g h i hv,?_⟩;unfold Ze at hv;split at hv <;> first|(cases hv;done)|skip
 all_goals
  cases h;cases i
 all_goals refine⟨?_,rfl,rfl⟩
 all_goals intro op X Y
 any_goals (refine Jt w ?_ ?_ <;> first|(intro e;cases e;done)|(intro c e;simp_all))
 ·rename_i l;rw[hK]at hv;have k:=hv.1;have f:=XV w 9999 g k
  cases op <;> unfold eqGuard <;> dsimp only <;> simp only[wB6,wBf,RY,if_true,if_false] <;> first
   |rfl
   |(split
     ·rfl
     ·split
      ·rfl
      ·have j:Sem.run P0 (Op.eqGuardIn Op.maxDepth ty .nilIface .nilIface) w = .ok false w:=f
       simp_all)
 ·cases op <;> rfl
theorem zcW{ty:Nat} {x y:V} {xv f:Value} {b:Bool} (w:World) (g:Nat) (c:fO Δ x xv) (d:fO Δ y f) (hv:eq1 (P0.underlying ty) x y=some b) :
  (Op.equalIn (g+1) ty xv f).run P0 w = .ok b w/\OM ty=some false:=by
 unfold eq1 at hv;split at hv
 ·rename_i a;cases c;cases d;cases hv;refine⟨?_,by grind[OM]⟩;simp only[Op.equalIn,yo,gf a,wT];rfl
 ·rename_i a;cases c;cases d;rw[hK]at hv;obtain⟨hk,hv⟩:=hv;obtain rfl:=Ls hk;cases hv;refine⟨?_,by grind[OM]⟩;simp only[Op.equalIn,yo,gf a,wT,if_true];rfl
 ·rename_i a;cases c with|str xs=>cases d with|str ys=>
  cases hv;refine⟨?_,by grind[OM]⟩;simp only[Op.equalIn,yo,gf a,wT];have e:(xs.data.toList == ys.data.toList)=(xs == ys):=by
   rw[show(xs == ys)=(xs.data == ys.data) from rfl,Ue,IE,IE];exact by simp_all
  simp_all
 ·cases hv
theorem Oq{xs ys:List V} {a d:Array Value} (w:World) (i:Nat) (n:gN Δ xs a.toList) (o:gN Δ ys d.toList):∀{fs:List Field} {b:Bool},MY fs xs ys=some b->
  ((do
    for f in fs do
      if f.name≠ "_" then
        if !(<-Op.equalIn (i+1) f.type (<-part f.type a f.offset) (<-part f.type d f.offset)) then return false
    pure true:Sem Bool)).run P0 w = .ok b w
 |[],b,h=>by cases h;rfl
 | f ::fs,b,h=>by
   simp only[MY,hK,ft,wBi,Uf]at h;obtain⟨z,x,r,y,s,c,t,A⟩:=h;obtain⟨xv,j,k⟩:=n.get _ _ (OL r);obtain⟨p,l,m⟩:=o.get _ _ (OL s);obtain⟨B,q⟩:=zcW w i k m t;have u:(part f.type a f.offset).run P0 w = .ok xv w:=by
     have e:a[f.offset]? =some xv:=by simpa using j
     simp only[part,yo,Ib q,wT,RY,if_false];simp[e]
   have v:(part f.type d f.offset).run P0 w = .ok p w:=by
     have g:d[f.offset]? =some p:=by simpa using l
     simp only[part,yo,Ib q,wT,RY,if_false];simp[g]
   have C:=λ{b}=>Oq w i n o (fs:=fs) (b:=b);cases c <;> simp_all
theorem zdw{ty:Nat} {xs ys:List V} {xv a:Value} {b:Bool} (w:World) (c:fO Δ (.agg xs) xv) (d:fO Δ (.agg ys) a) (hv:Zh ty xs ys=some b) :
  (Op.equal ty xv a).run P0 w = .ok b w/\(∀op X Y,(eqGuard op ty X Y xv a).run P0 w = .ok () w)/\
   (binOp .eql ty xv a)=(do pure (.bool (<-Op.equal ty xv a)))/\(binOp .neq ty xv a)=(do pure (.bool (!(<-Op.equal ty xv a)))):=by
 cases c with|agg _ xs' c=>cases d with|agg _ ys' d=>
 unfold Zh at hv;split at hv
 ·rename_i fs f;simp only[hK,wBi]at hv;obtain⟨hs,g,hv⟩:=hv;refine⟨?_,λop X Y=>?_,rfl,rfl⟩
  ·have e:=Oq w 9998 c d hv;show(Op.equalIn (9999+1) ty (.agg xs') (.agg ys')).run P0 w=_;rw[Op.equalIn];simp only[yo,gf f,wT,run_program,hs,RY,if_false,L9,<-Array.forIn_toList]at e⊢;exact e
  ·cases op <;> unfold eqGuard <;> dsimp only <;> simp only[wB6,wBf,RY,if_true,if_false] <;> first
    |rfl
    |simp_all
 ·cases hv
theorem zaV{op:BinOp} {ty:Nat} {X Y:Operand} {x y v:V} {xv a:Value} (w:World) (j:fO Δ x xv) (l:fO Δ y a) (hv:en op ty x y=some v) :
  ∃r,(do eqGuard op ty X Y xv a;binOp op ty xv a:Sem Value).run P0 w = .ok r w/\fO Δ v r:=by
 unfold en at hv;split at hv
 ·rename_i k p k' q;cases j;cases l;have m:=Jt (op:=op) (ty:=ty) (X:=X) (Y:=Y) (y:= .int k' q) w (x:= .int k p) (by simp) (by simp);split at hv
  ·obtain⟨r,o,e⟩:=W1 (k':=k') ty w hv
   simp_all
  ·rename_i hs;rw[hK]at hv;obtain⟨hk,hv⟩:=hv;obtain rfl:=Ls hk;obtain⟨r,o,e⟩:=zaH ty w hs hv
   simp_all
 ·cases j with|str xs=>cases l with|str ys=>
  have m:=Jt (op:=op) (ty:=ty) (X:=X) (Y:=Y) (y:= .string ys) w (x:= .string xs) (by simp) (by simp);obtain⟨r,o,e⟩:=zbp ty w hv
  simp_all
 ·have h:∀f,XU ty f x y=some v->∃b,(Op.equal ty xv a).run P0 w = .ok b w/\(∀op X Y,(eqGuard op ty X Y xv a).run P0 w = .ok () w)/\
    (binOp .eql ty xv a)=(do pure (.bool (<-Op.equal ty xv a)))/\(binOp .neq ty xv a)=(do pure (.bool (!(<-Op.equal ty xv a))))/\v = .bool (Bool.rec (motive:=λ_=>Bool) b (!b) f):=by
   clear hv;intro f c;unfold XU zdG at c;rw[ft]at c;obtain⟨b,g,c⟩:=c;split at g
   ·obtain⟨n,i,s,t⟩:=zdw w j l g
    simp_all
   unfold Z1 at g;split at g
   ·rename_i d u;obtain⟨n,i,s,t⟩:=zbt w u j l g
    simp_all
   ·cases g
  split at hv
  ·obtain⟨b,n,i,s,_,rfl⟩:=h false hv;have m:=i .eql X Y;exact⟨.bool b,by simp_all,.bool b⟩
  ·obtain⟨b,n,i,_,t,rfl⟩:=h true hv;have m:=i .neq X Y;exact⟨.bool (!b),by simp_all,.bool _⟩
  ·cases hv
theorem zc6{op:UnOp} {x v:V} {xv:Value} (w:World) (a:fO Δ x xv) (hv:pA op x=some v):∃r,(Op.unary op xv).run P0 w = .ok r w/\fO Δ v r:=by
 unfold pA at hv;split at hv
 ·cases hv;cases a;rw[qZ];exact⟨_,rfl,.int _ _⟩
 ·cases hv;cases a;exact⟨_,rfl,.bool _⟩
 ·simp only[hint]at hv;cases hv;cases a;exact⟨_,rfl,.int _ _⟩
 ·cases hv
theorem zam{src dst:Nat} {p:PF} {xv:Value} {v:V} (w:World) (g:¬∃e,P0.underlying src=some (.slice e)/\P0.underlying dst=some .string) (hp:∀v,p.f t h=some v->fO Δ v xv) (hv:(Mu src dst p).f t h=some v) :
  ∃r,(convert src dst xv).run P0 w = .ok r w/\fO Δ v r:=by
 unfold Mu at hv;split at hv
 ·rename_i k' k hs d;rw[ft]at hv;obtain⟨x,b,a⟩:=hv;have c:=hp _ b;split at a
  ·cases a;cases c;rw[qZ];exact⟨_,by simp_all[convert,gf,Conv.intToInt],.int _ _⟩
  ·cases a
 ·rename_i hs d;rw[ft]at hv;obtain⟨x,b,a⟩:=hv;have c:=hp _ b;split at a
  ·cases a;cases c
   simp_all[convert,gf]
  ·cases a
 ·simp_all
 ·cases hv
theorem Nt{ty:Nat} {cs:List V} {qj:Array Value} {off:Nat} {v:V} (w:World) (hc:gN Δ cs qj.toList) (hv:Sr ty cs off=some v) :
  ∃r,(part ty qj off).run P0 w = .ok r w/\fO Δ v r:=by
 unfold Sr at hv
 cases ha:OM ty with
 |none=>simp_all
 |some b=>cases b with
 | true =>
   simp only[ha]at hv
   cases hm:zR ty with
   |none=>simp_all
   | some m=>
     simp only[hm,ft]at hv;obtain⟨l,d,e⟩:=hv;cases e;obtain⟨f,g⟩:=sub_eq d;refine⟨.agg (qj.extract off (off+m)),by simp_all[part,Ib,xy],.agg _ _ (gN.RL ?_ ?_)⟩
     ·have a:=hc.length
      have:∀i,i<m->off+i<cs.length:=by grind
      simp only[wBE]at a;simp only[wBE,Array.size_extract,f];rcases Nat.eq_zero_or_pos m with h0|h0
      ·omega
      ·have:=this (m-1) (by omega)
       omega
     ·intro i v hi
      have c:i<m:=by have:=(kj.1 hi).1;omega
      rw[g i c]at hi;obtain⟨x,h,j⟩:=hc.get _ _ hi
      simp_all
 | false=>
   simp only[ha]at hv;obtain⟨x,h,j⟩:=hc.get _ _ (OL hv)
   simp_all[part,Ib]
theorem Nn{s f:Nat} {a:Field} (h:MX s f=some a):∃fs,P0.underlying s=some (.struct fs)/\fs[f]? =some a:=by
 grind[MX]
theorem O5{s f:Nat} {p:PF} {xv:Value} {v:V} (w:World) (hp:∀v,p.f t h=some v->fO Δ v xv) (hv:(rk s p f).f t h=some v) :
  ∃r,(Instr.fieldAt s xv f).run P0 w = .ok r w/\fO Δ v r:=by
 unfold rk at hv;split at hv
 ·rename_i b c;obtain⟨fs,e,a⟩:=Nn c;split at hv
  ·rename_i m g;simp only[ft,yf]at hv;obtain⟨x,i,l,off,rfl,j⟩:=hv;cases j
   cases hp _ i with
   | ptr _ _ d k=>
     refine⟨_,by simp[Instr.fieldAt,gf e,a,Instr.sureAddr,fieldPlace,xy g,ur];rfl,?_⟩;have:=fO.ptr (Δ:=Δ) l (off+b.offset) d k
     grind
  ·cases hv
 ·cases hv
theorem XE{s f:Nat} {p:PF} {xv:Value} {v:V} (w:World) (hp:∀v,p.f t h=some v->fO Δ v xv) (hv:(JB s p f).f t h=some v) :
  ∃r,(Instr.field s xv f).run P0 w = .ok r w/\fO Δ v r:=by
 unfold JB at hv;split at hv
 ·rename_i i d;obtain⟨fs,j,e⟩:=Nn d;rw[ft]at hv;obtain⟨x,g,a⟩:=hv;have b:=hp _ g;split at a
  ·cases b with
   | agg _ qj hc=>
     obtain⟨r,b,c⟩:=Nt w hc a
     simp_all[Instr.field,gf,asAgg]
  ·cases a
 ·cases hv
theorem Pm{ty:Nat} {p q:PF} {xv u:Value} {v:V} (w:World) (hp:∀v,p.f t h=some v->fO Δ v xv) (hq:∀v,q.f t h=some v->fO Δ v u)
  (hv:(rG ty p q).f t h=some v):∃r,(Instr.indexAt ty xv u).run P0 w = .ok r w/\fO Δ v r:=by
 unfold rG at hv;split at hv
 ·rename_i c e;split at hv
  ·rename_i m g;simp only[ft,Kh]at hv;obtain⟨x,j,i,k,kd,n,rfl,b⟩:=hv;have y:=hp _ j;cases hq _ k;split at b
   ·rename_i l off len;rw[hK]at b;obtain⟨a,b⟩:=b;cases b;rw[Q8]at a
    cases y with
    | slice _ _ _ cap o d s hk A z=>
      rcases z with⟨rfl,_,_⟩|⟨hc,_⟩
      ·refine⟨_,by simp[Instr.indexAt,asIntOf,gf e,xy g,a,ur];rfl,?_⟩
       have:=fO.ptr (Δ:=Δ) l (off+n*m) d s
       grind
      ·omega
   ·cases b
  ·cases hv
 ·rename_i len c e;split at hv
  ·rename_i m g;simp only[ft,Kh,yf,hK]at hv;obtain⟨x,j,i,k,kd,n,rfl,l,off,rfl,a,b⟩:=hv;cases b;rw[Q8]at a;cases hq _ k
   cases hp _ j with
   | ptr _ _ d s=>
     refine⟨_,by simp[Instr.indexAt,asIntOf,gf e,xy g,a,ur,Instr.sureAddr];rfl,?_⟩;have:=fO.ptr (Δ:=Δ) l (off+n*m) d s
     grind
  ·cases hv
 ·cases hv
theorem W7{ty:Nat} {p q:PF} {xv o:Value} {v:V} (w:World) (hp:∀v,p.f t h=some v->fO Δ v xv) (hq:∀v,q.f t h=some v->fO Δ v o)
  (hv:(JO ty p q).f t h=some v):∃r,(Instr.index ty xv o).run P0 w = .ok r w/\fO Δ v r:=by
 unfold JO at hv;split at hv
 ·rename_i len u y;split at hv
  ·rename_i m z;simp only[ft,Kh]at hv;obtain⟨x,j,i,k,kd,d,rfl,a⟩:=hv;have l:=hp _ j;cases hq _ k;split at a
   ·rw[hK]at a;obtain⟨c,a⟩:=a;rw[Q8]at c
    cases l with
    | agg _ qj hc=>
      obtain⟨r,A,g⟩:=Nt w hc a;refine⟨r,?_,g⟩;have e:(Nat.mul d m)=d*m:=rfl
      simp_all[Instr.index,asIntOf,gf,xy]
   ·cases a
  ·cases hv
 ·rename_i y;simp only[ft,Kh]at hv;obtain⟨x,j,i,k,kd,d,rfl,a⟩:=hv;have l:=hp _ j;cases hq _ k;split at a
  ·rw[ft]at a;obtain⟨b,n,a⟩:=a;cases a
   cases l with
   | str s=>
     rw[List.head?_drop]at n;have c:d<s.size:=(kj.1 n).1;have hs:s[d]? =some b:=by
       rw[getElem?_pos s d c];have:=(kj.1 n).2;simp only[Array.getElem_toList]at this;rw[<-this];rfl
     exact⟨.int .u8 b.toNat,by simp_all[Instr.index,asIntOf,gf],.int _ _⟩
  ·cases a
 ·cases hv
end
section
variable{Δ:Env}{h:Hp}{w:World}{n:Nat}{t:Tm}{a:Act}
inductive Ff (Δ:Env):Option V->Option Value->Prop
 |none:Ff Δ none none
 |some (v:V) (a:Value) (h:fO Δ v a):Ff Δ (some v) (some a)
theorem MP(b:WR Δ h w) (c:TR Δ n t a) {x:Option Operand} {v:Option V} (hv:KB x t h=some v):Ff Δ v (x.map a.eval):=by
 cases x with
 |none=>simp only[KB]at hv;cases hv;exact .none
 | some x=>
   simp only[KB,ft]at hv;obtain⟨y,d,e⟩:=hv;cases e;exact .some _ _ (lX b c d)
theorem GZ{d m:Nat} {lo:Option V} (hv:hbound d lo=some m):(lo=none/\m=d)\/∃k,lo=some (.int k (.ofNat m)):=by
 unfold hbound at hv;split at hv
 ·simp_all
 ·simp_all
 ·cases hv
theorem K1{k:IntKind} {m y:Nat} {c:BoundsCode} (w:World) (a:m<=y):(Instr.sliceBound (.int k (.ofNat m)) y c).run P0 w = .ok m w:=by
 have b:(0:Int)<=Int.ofNat m/\(Int.ofNat m)<=(y:Int):=by simp_all
 simp_all[Instr.sliceBound,asIntOf,yo,L9,wT,if_pos]
theorem LM{isS:Bool} {len cap l u:Nat} {lo hi:Option V} {b c:Option Value} (w:World) (d:Ff Δ lo b) (a:Ff Δ hi c)
  (h:hbound 0 lo=some l) (g:hbound len hi=some u) (e:l<=u) (f:u<=cap):(Instr.sliceBounds isS len cap b c none).run P0 w = .ok (l,u,cap) w:=by
 rcases GZ h with⟨rfl,rfl⟩|⟨k,rfl⟩
 ·cases d;rcases GZ g with⟨rfl,rfl⟩|⟨k,rfl⟩
  ·cases a;rfl
  ·cases a with|some _ _ hr=>
   cases hr
   grind[Instr.sliceBounds,yo,L9,wT,K1]
 ·cases d with|some _ _ hr=>
  cases hr;rcases GZ g with⟨rfl,rfl⟩|⟨k,rfl⟩
  ·cases a
   grind[Instr.sliceBounds,yo,L9,wT,K1]
  ·cases a with|some _ _ hr=>
   cases hr;simp only[Instr.sliceBounds,yo,L9,wT,K1 w f,K1 w e]
theorem U6(O:WR Δ h w) {ty c size:Nat} {x v:V} {xv:Value} {lo hi:Option V} {j k:Option Value} (M:fO Δ x xv) (m:Ff Δ lo j) (p:Ff Δ hi k)
  (U:P0.underlying ty=some (.slice c)) (hs:zR c=some (size+1)) (hv:jz (Nat.succ size) x lo hi h=some v) :
  ∃r,(Instr.sliceAt ty xv j k none).run P0 w = .ok r w/\fO Δ v r:=by
 unfold jz at hv;split at hv
 ·rename_i lc off len;rw[lW]at hv;obtain⟨e,sz,live,ro,cs,P,hv⟩:=hv;simp only[hK,ft]at hv;obtain⟨z,l,A,u,B,C,a,hv⟩:=hv;cases hv;have f:=CI z;have q:=K7 C
  cases M with
  | slice _ _ _ cap o d D hk E F=>
    obtain ⟨ob,s,Q⟩:=O.obj lc d D;rw[P]at s;cases s;obtain⟨_,g,R,_,_⟩:=Q;have G:u<=cap:=by
      rw[RC]at a;rcases a with a|a
      ·exact Ix (K7 a) E
      ·have N:off+u*(size+1)<=cs.length:=K7 a
       rcases F with⟨_,i,_⟩|⟨hc,i⟩
       ·rw[g,<-f]at i
        have:u*(size+1)<=cap*(size+1):=by have e:Nat.succ size=size+1:=rfl;rw[e]at i;omega
        exact Nat.le_of_mul_le_mul_right this (by omega)
       grind
    have t:=LM (isS:=true) (len:=len) (cap:=cap) w m p A B q G;have S:l<=cap:=by omega
    refine⟨.slice (if cap=l then some ⟨d.b,o,none⟩ else some ⟨d.b,o+l*(size+1),none⟩) (u-l) (cap-l),?_,?_⟩
    ·simp_all[Instr.sliceAt,yo,gf,wT,Instr.slice,xy,ur]
    ·have y:cap*d.sz=l*d.sz+(cap-l)*d.sz:=by rw[<-Yt];congr 1;omega
     have T:d.sz=size+1:=by rw[g,<-f]
     split
     ·rename_i H
      refine .slice lc (Nat.add off (Nat.mul l (Nat.succ size))) (Nat.sub u l) (cap-l) o d D hk ?_ (.inr ⟨by omega,?_⟩)
      ·simp_all
      grind
     ·rename_i H
      refine .slice lc (Nat.add off (Nat.mul l (Nat.succ size))) (Nat.sub u l) (cap-l) (o+l*(size+1)) d D hk ?_ (.inl ?_)
      ·simp_all
      ·show o+l*(size+1)=d.base+(off+l*(size+1))/\d.n<=off+l*(size+1)+(cap-l)*d.sz/\d.base+(off+l*(size+1))+(cap-l)*d.sz<=d.XG
       rcases F with⟨F,i,I⟩|⟨hc,i⟩
       ·rw[T]at y i I⊢
        omega
       ·omega
 ·simp only[hK,ft]at hv;obtain⟨l,A,u,B,E,J,hv⟩:=hv;cases hv;have K:=CI E;have L:=CI J;subst K;subst L;cases M;have t:=LM (isS:=true) (len:=0) (cap:=0) w m p A B (ju _) (ju _);exact⟨.slice none 0 0,by simp_all[Instr.sliceAt,gf,Instr.slice,xy],.ee⟩
 ·cases hv
theorem UE{ty:Nat} {x v:V} {xv:Value} {lo hi:Option V} {a b:Option Value} (w:World) (h:fO Δ x xv) (c:Ff Δ lo a) (d:Ff Δ hi b)
  (k:P0.underlying ty=some .string) (hv:QD x lo hi=some v):∃r,(Instr.sliceAt ty xv a b none).run P0 w = .ok r w/\fO Δ v r:=by
 unfold QD at hv;split at hv
 ·simp only[hK,ft]at hv;obtain⟨l,i,u,j,e,f,hv⟩:=hv;cases hv
  cases h with
  | str s=>
    have g:=LM (isS:=false) (len:=s.size) (cap:=s.size) w c d i j (K7 e) (K7 f);refine⟨.string (s.extract l u),by simp_all[Instr.sliceAt,gf,Instr.slice],?_⟩;have:=fO.str (Δ:=Δ) (s.extract l u)
    simp_all
 ·cases hv
theorem XN(b:WR Δ h w) (c:TR Δ n t a) {ty:Nat} {p:PF} {xv:Value} {lo hi:Option Operand} {v:V} (hp:∀v,p.f t h=some v->fO Δ v xv)
  (hv:(Lm ty p lo hi).f t h=some v):∃r,(Instr.sliceAt ty xv (lo.map a.eval) (hi.map a.eval) none).run P0 w = .ok r w/\fO Δ v r:=by
 unfold Lm at hv;split at hv
 ·rename_i d;simp only[ft]at hv;obtain⟨x,e,l,g,u,i,j⟩:=hv;exact UE w (hp _ e) (MP b c g) (MP b c i) d j
 ·rename_i k d;split at hv
  ·rename_i m o;simp only[ft]at hv;obtain⟨x,e,l,g,u,i,j⟩:=hv;exact U6 b (hp _ e) (MP b c g) (MP b c i) d o j
  ·cases hv
 ·cases hv
theorem Lg{ty:Nat} {x y:V} {xv a:Value} {b:Bool} (c:fO Δ x xv) (e:fO Δ y a) (hv:Lv ty x y=some b) :
  (∀g w,(Op.equalIn (g+1) ty xv a).run P0 w = .ok b w)/\(∀d,P0.underlying ty=some d->Instr.sameNow d xv a=some b):=by
 unfold Lv at hv;split at hv
 ·rename_i f;split at hv
  ·rw[hK]at hv;obtain⟨hk,hv⟩:=hv;cases hv;obtain rfl:=Ls hk;cases c;cases e
   grind[run_equalIn_int,Instr.sameNow]
  ·cases hv
 ·rename_i f;split at hv
  ·cases hv;cases c with|str xs=>cases e <;> grind[run_equalIn_string,ByteArray.toList_eq,Instr.sameNow,beq_toListBytes]
  ·cases hv
 ·rename_i f;split at hv
  ·cases hv;cases c;cases e
   grind[run_equalIn_bool',Instr.sameNow]
  ·cases hv
 ·cases hv
theorem Yg{ty:Nat} (a:Gb ty=true):OM ty=some false:=by
 grind[Gb,OM]
theorem L6{ty:Nat} {cs:List V} {qj:Array Value} {off:Nat} {v:V} (w:World) (a:Gb ty=true) (hc:gN Δ cs qj.toList) (hv:FU cs off=some v) :
  ∃x,(part ty qj off).run P0 w = .ok x w/\fO Δ v x:=
 Nt w hc (by grind[Sr,Yg])
theorem TL:∀{fs:List Field} {x y:List V} {xs ys:Array Value} {b:Bool},(∀f∈fs,Gb f.type=true/\f.name≠ "_")->gN Δ x xs.toList->gN Δ y ys.toList->
  SH fs x y=some b->∀a w,(Op.eqFields (a+1) xs ys fs).run P0 w = .ok b w
 |[],x,y,xs,ys,b,_,_,_,hv,a,w=>by simp[SH]at hv;subst hv;rfl
 | f::fs,x,y,xs,ys,b,hf,hx,hy,hv,a,w=>by
   simp only[SH,ft]at hv;obtain⟨p,i,q,j,e,k,l⟩:=hv;obtain⟨c,d⟩:=hf f (by simp);obtain⟨n,hp,g⟩:=L6 w c hx i;obtain⟨o,hq,h⟩:=L6 w c hy j;have m:=(Lg g h k).1 a w;simp only[Op.eqFields];rw[if_pos d];simp only[yo,hp,hq,m,wT]
   cases e with
   |false=>simp_all
   |true=>exact TL (by simp_all) hx hy l a w
theorem PX{ty:Nat} (a:KM ty=some none):Gb ty=true:=by
 grind[KM,Gb]
theorem Oh{ty:Nat} {fs:List Field} (a:KM ty=some (some fs)):∃b,P0.underlying ty=some (.struct b)/\b.toList=fs/\P0.stoodInHeld ty=false/\∀f∈fs,Gb f.type=true/\f.name≠ "_" :=by
 unfold KM at a;split at a
 ·cases a
 ·cases a
 ·cases a
 ·rename_i b c;split at a
  ·grind
  ·cases a
 ·cases a
theorem Y3{ty:Nat} {d:Option (List Field)} {x y:V} {xv h:Value} {b:Bool} (j:KM ty=some d) (e:fO Δ x xv) (f:fO Δ y h) (hv:Tl ty d x y=some b) (w:World) :
  (Op.equal ty xv h).run P0 w = .ok b w:=by
 cases d with
 |none=>exact(Lg e f hv).1 9999 w
 | some fs=>
   obtain⟨g,i,a,hs,k⟩:=Oh j;simp only[Tl]at hv;split at hv
   ·cases e with|agg _ xs e=>cases f with|agg _ ys f=>
    have c:P0.fieldsOf ty=g:=by simp[Program.fieldsOf,i]
    have:=run_equalIn_struct (P:=P0) w 9999 ty xs ys (by rw[c];exact i) hs;rw[c,a]at this;exact this.trans (TL k e f hv 9998 w)
   ·cases hv
def zaI(Δ:Env):Option (Nat×V)->Option (Nat×Value)->Prop
 |none,none=>True
 |some (i,v),some (i',v')=>i=i'/\fO Δ v v'
 |_,_=>False
theorem Jn{ty:Nat} {d:Option (List Field)} {k:V} {f:Value} (g:KM ty=some d) (hk:fO Δ k f) (w:World):∀{c:List (V×V×Nat)} {a:List MapEntry} {i:Nat} {r:Option (Nat×V)},
  vw Δ c a->yN ty d k c i=some r->∃r',(Instr.findAsking ty f a i).run P0 w = .ok r' w/\zaI Δ r r'
 |_,_,i,r,.nil,hv=>by simp[yN]at hv;subst hv;exact⟨none,rfl,trivial⟩
 | _,_,i,r,.cons k' v n e c a hk' hv' hb hs,hv=>by
   simp only[yN,ft]at hv;obtain⟨b,j,h⟩:=hv;have l:=Y3 g hk hk' j w;simp only[Instr.findAsking,yo,l,wT]
   cases b with
   |true=>cases h;exact⟨some (i,e.val),rfl,rfl,hv'⟩
   |false=>exact Jn g hk w hs h
theorem Ou{ty:Nat} {k:V} {d:Value} {ds:TypeDesc} (f:P0.underlying ty=some ds) (hk:fO Δ k d):∀{c:List (V×V×Nat)} {a:List MapEntry} {i:Nat} {r:Option (Nat×V)},
  vw Δ c a->yN ty none k c i=some r->∃r',Instr.findNow ds d a i=some r'/\zaI Δ r r'
 |_,_,i,r,.nil,hv=>by simp[yN]at hv;subst hv;exact⟨none,rfl,trivial⟩
 | _,_,i,r,.cons k' v n e c a hk' hv' hb hs,hv=>by
   simp only[yN,ft]at hv;obtain⟨b,h,g⟩:=hv;have j:=(Lg hk hk' h).2 ds f;simp only[Instr.findNow,j]
   cases b with
   |true=>cases g;exact⟨some (i,e.val),rfl,rfl,hv'⟩
   |false=>exact Ou f hk hs g
theorem Fh{ty:Nat} {d:Option (List Field)} {k:V} {h:Value} (c:KM ty=some d) (hk:fO Δ k h) (w:World) {b:List (V×V×Nat)} {a:List MapEntry} {r:Option (Nat×V)}
  (i:vw Δ b a) (hv:yN ty d k b 0=some r):∃r',(Instr.findKey ty h a).run P0 w = .ok r' w/\zaI Δ r r':=by
 cases d with
 | none=>
   have l:=PX c;unfold Gb at l
   cases j:P0.underlying ty with
   |none=>simp_all
   | some ds=>
     obtain⟨r',m,o⟩:=Ou j hk i hv
     simp_all[Instr.findKey,gf]
 | some fs=>
   obtain⟨p,j,_,_,_⟩:=Oh c
   cases i with
   | nil=>
     simp[yN]at hv;subst hv
     exact⟨none,by simp_all[Instr.findKey,gf,Instr.findNow],trivial⟩
   | cons k' v n e b a f g q hs=>
     obtain⟨r',m,o⟩:=Jn c hk w (.cons k' v n e b a f g q hs) hv
     simp_all[Instr.findNow,Instr.sameNow,Instr.findKey,yo,gf,wT]
theorem Hk{em:Bool} {q:Nat} {cs:List V} {qj:Array Value} (w:World) (hq:0<q) (hc:gN Δ cs qj.toList):∀(fs:List Field),(∀f∈fs,Gb f.type=true/\f.name≠ "_")->
  (fs.all λf=>(FU cs f.offset).isSome)=true->
  (forIn fs PUnit.unit (λf _=>if f.name≠ "_" then do
    let x <-part f.type qj f.offset
    Instr.checkKey em q f.type x
    pure (ForInStep.yield PUnit.unit)
   else pure (ForInStep.yield PUnit.unit):Field->PUnit->Sem (ForInStep PUnit))).run P0 w = .ok PUnit.unit w
 |[],_,_=>rfl
 | f ::fs,hf,hh=>by
   obtain⟨m,rfl⟩:∃m,q=m+1:=by simp_all
   obtain ⟨a,b⟩:=hf f (by simp);simp only[wBy,yl]at hh;obtain⟨v,hv⟩:=Option.isSome_iff_exists.1 hh.1;obtain⟨x,d,e⟩:=L6 w a hc hv;have c:(Instr.checkKey em (m+1) f.type x).run P0 w = .ok () w:=by
     unfold Gb at a;split at a
     ·simp_all[Instr.checkKey,gf]
     ·simp_all[Instr.checkKey,gf]
     ·simp_all[Instr.checkKey,gf]
     ·cases a
   have g:=Hk (em:=em) (q:=m+1) w hq hc fs (by simp_all) hh.2
   simp_all
theorem zI{ty:Nat} {d:Option (List Field)} {k:V} {e:Value} (em:Bool) (q:Nat) (hq:0<q) (w:World) (f:KM ty=some d) (hk:fO Δ k e) (c:LW d k=true) :
  (Instr.checkKey em (q+1) ty e).run P0 w = .ok () w:=by
 cases d with
 | none=>
   have a:=PX f;unfold Gb at a;split at a
   ·simp_all[Instr.checkKey,gf]
   ·simp_all[Instr.checkKey,gf]
   ·simp_all[Instr.checkKey,gf]
   simp_all
 | some fs=>
   obtain⟨g,i,b,_,h⟩:=Oh f;simp only[LW]at c;split at c
   ·cases hk with
    | agg cs qj hc=>
      have:=Hk (em:=em) (q:=q) w hq hc fs h c;rw[<-b,Array.forIn_toList]at this
      simp_all[Instr.checkKey,yo,gf,wT]
   ·cases c
end
section
variable{Δ:Env}{h:Hp}{w:World}{n:Nat}{t:Tm}{a:Act}
theorem JW(g:WR Δ h w) {l:Nat} {d:D} (i:Δ l=some d) {e:List (V×V×Nat)} {c:Nat} (j:h.get l=some (.map e c)) :
  ∃a,w.heap[d.b]? =some (.map a c)/\vw Δ e a.toList:=by
 obtain⟨o,f,k⟩:=g.obj l d i;rw[j]at f;cases f;obtain⟨_,_,_,a,m,n⟩:=k
 simp_all
theorem run_getObj_map{r:Nat}{a:Array MapEntry}{c:Nat}(b:w.heap[r]? =some (.map a c)):(getObj r).run P0 w = .ok (.map a c) w:=by grind[getObj,Sem.run]
theorem Tj{z:V} {a:Value} {ok:Bool} {r:Option (Nat×V)} {r':Option (Nat×Value)} (c:fO Δ z a) (b:zaI Δ r r') :
  fO Δ (found z ok r) (match r' with
   |some (_,v)=>if ok then .tuple #[v,.bool true] else v
   |none=>if ok then .tuple #[a,.bool false] else a):=by
 cases r with
 | none=>cases r' with
   |none=>cases ok
          ·exact c
          ·exact .tuple _ _ (.cons _ _ _ _ c (.one (.bool false)))
   |some _=>cases b
 | some x=>cases r' with
   |none=>cases b
   | some d=>
     obtain⟨_,hv⟩:=b;cases ok
     ·exact hv
     ·exact .tuple _ _ (.cons _ _ _ _ hv (.one (.bool true)))
theorem Uj(C:WR Δ h w) {s:Nat} {p q:PF} {ok:Bool} {u x:Value} {v:V} (hp:∀v,p.f t h=some v->fO Δ v u) (hq:∀v,q.f t h=some v->fO Δ v x)
  (hv:(Ih s p q ok).f t h=some v):∃r,(Instr.lookup s u x ok).run P0 w = .ok r w/\fO Δ v r:=by
 unfold Ih at hv;split at hv
 ·rename_i L M y;split at hv
  ·rename_i d z i D;obtain⟨N,E,e,_⟩:=Bp D;simp only[ft,hK]at hv;obtain⟨m,F,k,G,A,a⟩:=hv;have B:=hp _ F;have hk:=hq _ G;split at a
   ·cases a;cases B;have g:=zI true 9999 (by omega) w i hk A;have b:=Fh i hk w vw.nil (r:=none) (by rfl);obtain⟨r',b,j⟩:=b;have n:r' = none:=by cases r' <;> first|rfl|cases j
    subst n;refine⟨_,?_,Tj (ok:=ok) (r:=none) (r':=none) (e Δ) trivial⟩;simp only[Instr.lookup,yo,gf y,wT,L9]
    simp_all
   ·simp only[AW,ft]at a;obtain⟨O,c,H,r,b,a⟩:=a;cases a
    cases B with
    | map l d' I=>
      obtain⟨o,J,K⟩:=JW C I H;obtain⟨r',b,j⟩:=Fh i hk w K b;have g:=zI o.isEmpty 9999 (by omega) w i hk A;refine⟨_,?_,Tj (ok:=ok) (e Δ) j⟩;simp only[Instr.lookup,yo,gf y,wT,L9,run_getObj_map J,g,b]
      grind[yo,wT,L9]
   ·cases a
  ·cases hv
 ·cases hv
theorem zaQ(y:WR Δ h w) {ty:Nat} {n:Array Nat} (u:n[0]? =some ty) {rt:Nat} {p:PF} {xv:Value} {v:V} (hp:∀v,p.f t h=some v->fO Δ v xv)
  (hv:(hlen ty p).f t h=some v):∃r,(Builtin.len_ n rt #[xv]).run P0 w = .ok r w/\fO Δ v r:=by
 unfold hlen at hv;split at hv
 ·rename_i q;rw[ft]at hv;obtain⟨x,j,g⟩:=hv;have i:=hp _ j;split at g
  ·cases g
   cases i with
   |str s=>exact⟨goInt s.size,by simp_all[Builtin.len_,gf],.int _ _⟩
  ·cases g
 ·rename_i e q;rw[ft]at hv;obtain⟨x,j,g⟩:=hv;have i:=hp _ j;split at g
  ·rename_i lc off m;cases g;cases i;exact⟨goInt m,by simp_all[Builtin.len_,gf],.int _ _⟩
  ·cases g;cases i;exact⟨goInt 0,by simp_all[Builtin.len_,gf],.int _ _⟩
  ·cases g
 ·rename_i m e q;rw[ft]at hv;obtain⟨x,j,g⟩:=hv;cases g;exact⟨goInt m,by simp_all[Builtin.len_,gf],.int _ _⟩
 ·rename_i k e q;rw[ft]at hv;obtain⟨x,j,g⟩:=hv;have i:=hp _ j;split at g
  ·cases g;cases i;exact⟨goInt 0,by simp_all[Builtin.len_,gf],.int _ _⟩
  ·rw[AW]at g;obtain⟨z,c,A,g⟩:=g;cases g
   cases i with
   | map l d B=>
     obtain ⟨o,C,D⟩:=JW y B A;have hlen:z.length=o.size:=by
       have:∀{a:List (V×V×Nat)} {b:List MapEntry},vw Δ a b->a.length=b.length:=λh=>by induction h <;> simp_all
       simpa using this D
     refine⟨goInt o.size,by simp[Builtin.len_,u,gf q,run_getObj_map C],?_⟩;rw[hlen];exact .int _ _
  ·cases g
 ·cases hv
theorem Rj{b:Bool} (w:World):∀{l:List V} {c:List Value} {x:V} {a:Value} {v:V},fO Δ x a->gN Δ l c->SO b x l=some v->
  ∃r,(c.foldlM (if b then Builtin.max2 else Builtin.min2) a).run P0 w = .ok r w/\fO Δ v r
 |[],_,x,a,v,hx,hl,hv=>by simp[SO]at hv;subst hv;cases hl;simp_all
 | y ::l,_,x,a,v,hx,hl,hv=>by
   cases hl with
   | cons _ h _ c e hs=>
     unfold SO at hv;split at hv
     ·simp_all
     ·rename_i k p k' q r f
      cases f;cases hx;cases e;obtain⟨d,i,g⟩:=Rj w (.int k _) hs hv;refine⟨d,?_,g⟩;rw[List.foldlM_cons];simp only[yo];cases b
      ·simp_all[RY,if_false,Builtin.min2,L9,wT]
      simp_all[if_true,Builtin.max2,L9,wT]
     ·cases hv
theorem NH{ty:Nat} (hi:isIface ty=some false):∃d,P0.underlying ty=some d/\∀m,d≠ .interface m:=by
 grind[isIface]
theorem Vz{p:PF} {a xT:Nat} {ok:Bool} {xv:Value} {v:V} (w:World) (hp:∀v,p.f t h=some v->fO Δ v xv)
  (hv:(HY p a ok).f t h=some v):∃r,(Instr.typeAssert xv xT a ok).run P0 w = .ok r w/\fO Δ v r:=by
 unfold HY at hv;split at hv
 ·rename_i z hi m;obtain⟨l,n,c,_⟩:=Bp m;obtain⟨d,g,q⟩:=NH hi;rw[ft]at hv;obtain⟨x,o,b⟩:=hv;have i:=hp _ o;split at b
  ·rename_i u y;cases b
   cases i with
   | iface _ _ j k=>
     rw[VK];by_cases e:u=a
     ·have e':Nat.beq u a=true:=by rw[e];exact Xn _
      rw[if_pos e'];refine⟨.tuple #[j,.bool true],?_,.tuple _ _ (.cons _ _ _ _ k (.one (.bool true)))⟩;simp only[Instr.typeAssert,yo,gf g,wT]
      simp_all
     ·have e':¬Nat.beq u a=true:=by simp_all
      rw[if_neg e'];refine⟨.tuple #[l,.bool false],?_,.tuple _ _ (.cons _ _ _ _ (c Δ) (.one (.bool false)))⟩;simp only[Instr.typeAssert,yo,gf g,wT]
      simp_all
  ·rename_i u y;rw[hK]at b;obtain⟨e,b⟩:=b;cases b;have e:=CI e
   cases i with
   | iface _ _ j k=>
     refine⟨j,?_,k⟩;simp only[Instr.typeAssert,yo,gf g,wT]
     simp_all
  ·cases b;cases i;refine⟨.tuple #[l,.bool false],?_,.tuple _ _ (.cons _ _ _ _ (c Δ) (.one (.bool false)))⟩;simp only[Instr.typeAssert,yo,gf g,wT]
   simp_all
  ·cases b
 ·cases hv
theorem Z9{c p q:PF} {a pv d:Value} {v:V} (w:World) (hc:∀v,c.f t h=some v->fO Δ v a) (hp:∀v,p.f t h=some v->fO Δ v pv) (hq:∀v,q.f t h=some v->fO Δ v d)
  (hv:(Mf c p q).f t h=some v):∃r,(do pure (Next.value (if <-asBool a then pv else d)):Sem Next).run P0 w = .ok (.value r) w/\fO Δ v r:=by
 unfold Mf at hv;simp only[ft]at hv;obtain⟨x,g,e⟩:=hv;have i:=hc _ g;split at e
 ·rename_i b;cases i;cases b
  ·simp_all[asBool]
  simp_all[asBool]
 ·cases e
theorem RT{p:PF} {x:Operand} {v:V} (w:World) (hp:∀v,p.f t h=some v->fO Δ v (a.eval x)) (hv:(AS p).f t h=some v) {dst ty pos af gd} :
  (execOp a.eval {dst:=dst,op:= .nilCheck x,type:=ty,pos:=pos,after:=af,guard:=gd}).run P0 w = .ok (.value (a.eval x)) w/\fO Δ v (a.eval x):=by
 unfold AS at hv;rw[ft]at hv;obtain⟨y,e,b⟩:=hv;have c:=hp _ e;simp only[execOp];generalize a.eval x=xv at c⊢;split at b
 ·cases b;cases c with|ptr _ _ d hd=>exact⟨rfl,.ptr _ _ d hd⟩
 ·cases b;cases c with|func _ _ _ p' q' e b=>exact⟨rfl,.func _ _ _ p' q' e b⟩
 ·cases b;cases c with|iface _ _ v' hv=>exact⟨rfl,.iface _ _ v' hv⟩
 ·cases b
theorem Ss{p:PF} {i:Nat} {xv:Value} {v:V} (w:World) (hp:∀v,p.f t h=some v->fO Δ v xv) (hv:(Hn p i).f t h=some v) :
  ∃r,(Instr.extract xv i).run P0 w = .ok r w/\fO Δ v r:=by
 unfold Hn at hv;rw[ft]at hv;obtain⟨y,c,a⟩:=hv;have d:=hp _ c;split at a
 ·cases d with
  | tuple vs e b=>
    obtain⟨x,g,j⟩:=b.get _ _ (OL a)
    simp_all[Instr.extract]
 ·cases a
theorem Ux{cs:List V} {xs:List Value} {s:List UInt8} (e:gN Δ cs xs) (hv:bytesOf cs=some s):xs=(s.map λb=>(b.toNat:Int)).map (Value.int .u8):=by
 induction cs generalizing xs s with
 |nil=>cases e;grind[bytesOf]
 | cons c cs g=>
   simp only[bytesOf,ft]at hv;obtain⟨b,a,l,h,i⟩:=hv;cases i
   cases e with
   | cons _ x _ xs j d=>
     rw[g d h];unfold byteOf at a;split at a
     ·rename_i m
      rw[hK]at a;obtain⟨f,k⟩:=a;cases k;cases j;have n:m<256:=by rw[Q8]at f;exact f
      have:(UInt8.ofNat m).toNat=m:=by simp;omega
      grind
     ·cases a
theorem U2(l:List UInt8):∀(r:ByteArray),((l.map λb=>(b.toNat:Int)).foldl (λr n=>r.push (UInt8.ofNat n.toNat)) r).data.toList=r.data.toList++l:=by
 induction l <;> simp_all
theorem NB{src dst e:Nat} (hs:P0.underlying src=some (.slice e)) (i:P0.underlying dst=some .string) (j:P0.underlying e=some (.int .u8)) {ad:Option Addr} {len cap:Nat} {cs:List V} {s:List UInt8}
  (d:bytesOf cs=some s) (hc:∀b,ad=some b->∃xs,(loadCells b len).run P0 w = .ok (Array.mk xs) w/\gN Δ cs xs) (f:ad=none->s=[]) :
  ∃x,(convert src dst (.slice ad len cap)).run P0 w = .ok x w/\fO Δ (.str s) x:=by
 cases ad with
 | none=>
   cases f rfl
   exact⟨.string .empty,by simp_all[convert,gf,Conv.bytesToString],.str ByteArray.empty⟩
 | some b=>
   obtain⟨xs,c,g⟩:=hc b rfl;rw[Ux g d]at c;have h:=run_bytesToString (P:=P0) w b len cap _ c;generalize hB:(List.foldl (λr n=>ByteArray.push r (UInt8.ofNat n.toNat)) ByteArray.empty (List.map (λb=>(b.toNat:Int)) s))=B at h;have a:B.data.toList=s:=by rw[<-hB,U2];rfl
   refine⟨.string B,?_,by rw[<-a];exact .str B⟩
   simp_all[convert,yo,gf,wT]
theorem wW(c:WR Δ h w) {l:Nat} {d:D} (e:Δ l=some d) {off m:Nat} {cs:List V} (hv:IS h l off m=some cs) :
  ∃xs,(loadCells ⟨d.b,d.base+off,none⟩ m).run P0 w = .ok (Array.mk xs) w/\gN Δ cs xs:=by
 obtain⟨a,g,f⟩:=J3 c e hv;exact⟨a.toList,by omega,f⟩
theorem Si{l off m:Nat} {cs:List V} (hv:IS h l off m=some cs):cs.length=m:=by
 grind[IS,lW,hK,sub_eq]
theorem Yi(B:WR Δ h w) {src dst e:Nat} {p:PF} {xv:Value} {v:V} (hs:P0.underlying src=some (.slice e)) (c:P0.underlying dst=some .string) (hp:∀v,p.f t h=some v->fO Δ v xv) (hv:(Mu src dst p).f t h=some v) :
  ∃r,(convert src dst xv).run P0 w = .ok r w/\fO Δ v r:=by
 unfold Mu at hv;rw[hs,c]at hv;simp only at hv;split at hv
 ·rename_i i;simp only[ft]at hv;obtain⟨x,k,a⟩:=hv;have j:=hp _ k;split at a
  ·cases a;cases j;exact NB (Δ:=Δ) (w:=w) (src:=src) (dst:=dst) (e:=e) (ad:=none) (len:=0) (cap:=0) (cs:=[]) (s:=[]) hs c i rfl (by simp_all) (by simp_all)
  ·rename_i l off len;simp only[ft]at a;obtain⟨cs,m,s,n,q⟩:=a;cases q
   cases j with
   | slice _ _ _ cap o d u hk y z=>
     have A:∃xs,(loadCells ⟨d.b,o,none⟩ len).run P0 w = .ok (Array.mk xs) w/\gN Δ cs xs:=by
       rcases z with⟨rfl,_,_⟩|⟨rfl,_⟩
       ·grind[wW]
       ·have:len=0:=by omega
        subst this;have g:cs=[]:=wA4 (Si m);subst g;exact⟨[],by rfl,.nil⟩
     exact NB (Δ:=Δ) (w:=w) (src:=src) (dst:=dst) (e:=e) (ad:=some ⟨d.b,o,none⟩) (len:=len) (cap:=cap) hs c i n (by simp_all) (by simp_all)
  ·cases a
 ·cases hv
theorem zbC(I:WR Δ h w) (G:TR Δ n t a) {o:Oper} {v:V} (hv:(iY o).f t h=some v):∃x,(execOp a.eval o).run P0 w = .ok (.value x) w/\fO Δ v x:=by
 obtain⟨dst,op,ty,pos,af,gd⟩:=o;have z:∀(x:Operand) v,(uf x).f t h=some v->fO Δ v (a.eval x):=by grind[lX]
 cases op with
 |move x=>exact⟨_,rfl,z x v hv⟩
 |assign x=>exact⟨_,rfl,z x v hv⟩
 |pick c p q=>exact Z9 w (z c) (z p) (z q) hv
 | load ty a'=>
   obtain⟨x,C,A⟩:=Ox I (z a') hv
   exact⟨x,nM C,A⟩
 | nilCheck x=>
   obtain⟨C,A⟩:=RT w (z x) hv (dst:=dst) (ty:=ty) (pos:=pos) (af:=af) (gd:=gd)
   simp_all
 | binOp op T x y yt=>
   simp only[iY,ft]at hv;obtain⟨p,C,q,A,J⟩:=hv;obtain⟨r,j,u⟩:=zaV (X:=x) (Y:=y) w (z x _ C) (z y _ A) J
   exact⟨r,nM j,u⟩
 | unOp op T x=>
   simp only[iY,ft]at hv;obtain⟨p,C,A⟩:=hv;obtain⟨r,j,u⟩:=zc6 w (z x _ C) A
   exact⟨r,nM j,u⟩
 | convert src d x=>
   have K:∃r,(convert src d (a.eval x)).run P0 w = .ok r w/\fO Δ v r:=by
     by_cases oV:∃e,P0.underlying src=some (.slice e)/\P0.underlying d=some .string
     ·obtain⟨e,C,A⟩:=oV
      exact Yi I C A (z x) hv
     ·exact zam w oV (z x) hv
   obtain⟨r,j,u⟩:=K
   exact⟨r,nM j,u⟩
 | build ty parts=>
   obtain⟨r,j,u⟩:=XD G hv;refine⟨r,nM ?_,u⟩;rw[<-j];congr 2
   grind
 | makeFunc fn first S=>
   cases fn with
   | func f=>
     simp only[iY,ft]at hv;obtain⟨p,C,q,A,J⟩:=hv;cases J;refine⟨_,rfl,.func f p q _ _ ?_ ?_⟩
     ·have:=Cz G C;simp_all
     ·have:=Cz G A;simp_all
   |_=>cases hv
 | slice ty x lo hi U=>
   cases U with
   | none=>
     obtain⟨r,j,u⟩:=XN I G (z x) hv
     exact⟨r,nM j,u⟩
   |some _=>cases hv
 | fieldAddr s x f=>
   obtain⟨r,j,u⟩:=O5 w (z x) hv
   exact⟨r,nM j,u⟩
 | field s x f=>
   obtain⟨r,j,u⟩:=XE w (z x) hv
   exact⟨r,nM j,u⟩
 | indexAddr ty x i=>
   obtain⟨r,j,u⟩:=Pm w (z x) (z i) hv
   exact⟨r,nM j,u⟩
 | index ty x i=>
   obtain⟨r,j,u⟩:=W7 w (z x) (z i) hv
   exact⟨r,nM j,u⟩
 | lookup ty m k ok=>
   obtain⟨r,j,u⟩:=Uj I (z m) (z k) hv
   exact⟨r,nM j,u⟩
 | extract x i=>
   obtain⟨r,j,u⟩:=Ss w (z x) hv
   exact⟨r,nM j,u⟩
 | makeInterface ty x=>
   simp only[iY]at hv;split at hv
   ·rename_i hi
    obtain⟨d,W,hd⟩:=NH hi;simp only[ft]at hv;obtain⟨p,C,A⟩:=hv;cases A;refine⟨.iface ty (a.eval x),nM ?_,.iface _ _ _ (by simp_all)⟩;simp only[Instr.makeInterface,yo,gf W,wT];rfl
   ·cases hv
 | typeAssert x xT H ok=>
   obtain⟨r,j,u⟩:=Vz (xT:=xT) w (z x) hv
   exact⟨r,nM j,u⟩
 | call c =>
   obtain⟨E,args,D⟩:=c;simp only[iY]at hv
   cases E with
   | builtin b=>
     cases b <;> try (cases hv;done)
     case len=>
       simp only at hv;split at hv
       ·rename_i x M Z g L
        have N:D[0]? =some M:=by rw[<-wBC,L];rfl
        obtain⟨r,j,u⟩:=zaQ I (rt:=ty) N (z x) hv;refine⟨r,?_,u⟩;have O:args.map a.eval = #[a.eval x]:=by apply Array.ext';simp[g]
        simp only[execOp,resolve,O];exact nM j
       ·cases hv
     case min=>
       simp only[ft]at hv;obtain⟨l,C,A⟩:=hv;split at A
       ·rename_i x r
        have B:=Cz G C
        cases g:args.toList.map a.eval with
        |nil=>rw[g]at B;cases B
        | cons P r'=>
          rw[g]at B
          cases B with
          | cons _ _ _ _ Q R=>
            obtain⟨F,J,j⟩:=Rj w Q R A;refine⟨F,?_,j⟩;have O:(args.map a.eval).toList=P::r':=by simpa using g
            simp only[execOp,resolve];refine nM ?_
            grind[Builtin.min_]
       ·cases A
     case max=>
       simp only[ft]at hv;obtain⟨l,C,A⟩:=hv;split at A
       ·rename_i x r
        have B:=Cz G C
        cases g:args.toList.map a.eval with
        |nil=>rw[g]at B;cases B
        | cons P r'=>
          rw[g]at B
          cases B with
          | cons _ _ _ _ Q R=>
            obtain⟨F,J,j⟩:=Rj w Q R A;refine⟨F,?_,j⟩;have O:(args.map a.eval).toList=P::r':=by simpa using g
            simp only[execOp,resolve];refine nM ?_
            grind[Builtin.max_]
       ·cases A
   |value f=>cases hv
   |invoke r m=>cases hv
 |_=>cases hv
end
def RW(Δ:Env)(b:Nat):Prop:=∃l d,Δ l=some d/\d.ro=false/\d.b=b
structure FR (Δ a:Env) (w w':World):Prop where
 le:Δ.le a
 size:w.heap.size<=w'.heap.size
 os:w'.os=w.os
 tape:w'.tape=w.tape
 output:w'.output=w.output
 fi:∀b,b<w.heap.size->¬RW Δ b->w'.heap[b]? =w.heap[b]?
 new:∀l d,a l=some d->Δ l=some d\/w.heap.size<=d.b\/RW Δ d.b
theorem FR.refl(Δ:Env)(w:World):FR Δ Δ w w:=⟨Env.le_refl _,ju _,rfl,rfl,rfl,by simp_all,by simp_all⟩
theorem FR.trans{Δ m c:Env} {w w' e:World} (h:FR Δ m w w') (h':FR m c w' e):FR Δ c w e where
 le:=Env.le_trans h.le h'.le
 size:=Ix h.size h'.size
 os:=h'.os.trans h.os
 tape:=h'.tape.trans h.tape
 output:=h'.output.trans h.output
 fi:=λb n o=>by
  rw[h'.fi b (ET n h.size) ?_,h.fi b n o];rintro⟨l,d,f,q,rfl⟩;rcases h.new l d f with a|a|a
  ·exact o ⟨l,d,a,q,rfl⟩
  ·omega
  simp_all
 new:=λl d f=>by
  rcases h'.new l d f with a|a|⟨p,d',g,i,j⟩
  ·exact h.new l d a
  ·exact .inr (.inl (Ix h.size a))
  ·rcases h.new p d' g with k|k|k
   ·exact .inr (.inr ⟨p,d',k,i,j⟩)
   ·omega
   simp_all
theorem xz(h:Hp) (o:O) (l:Nat):(h.new o).get l=if h.next=l then some o else h.get l:=by
 rw[Hp.get_eq,Hp.get_eq];unfold Hp.new;simp only[Tr.Kz]
 grind
theorem qE{h:Hp} {l:Nat} (o:O) (m:Nat) (a:l<h.next):(h.put l o).get m=if l=m then some o else h.get m:=by
 rw[Hp.get_eq,Hp.get_eq];unfold Hp.put;simp only[Tr.Kz]
 grind
def Env.set(Δ:Env)(l:Nat)(d:D):Env:=λm=>if m=l then some d else Δ m
theorem Env.zP{Δ:Env} {l:Nat} {d:D} (h:Δ l=none):Δ.le (Δ.set l d):=λm e a=>by
 unfold Env.set
 grind
theorem Env.xD(Δ:Env)(l:Nat)(d:D):(Δ.set l d) l=some d:=if_pos rfl
theorem Env.mH{Δ:Env} {l m:Nat} {d e:D} (h:(Δ.set l d) m=some e):(m=l/\e=d)\/(m≠l/\Δ m=some e):=by
 unfold Env.set at h
 grind
theorem WR.Ic{Δ:Env} {h:Hp} {w:World} (a:WR Δ h w):Δ h.next=none:=by
 cases hd:Δ h.next with
 |none=>rfl
 |some d=>exact absurd (a.fresh _ _ hd) (wBp _)
theorem heap_alloc(w:World) (ob:Obj) (b:Nat):(w.alloc ob).heap[b]? =if b=w.heap.size then some ob else w.heap[b]?:=by
 grind[World.alloc]
theorem DG.step{Δ a:Env} {w w':World} (h:DG Δ w) (hk:∀b,b<w.heap.size->¬RW Δ b->w'.heap[b]? =w.heap[b]?) (i:∀l d,a l=some d->d.ro=false->Δ l=some d\/w.heap.size<=d.b\/RW Δ d.b):DG a w':=by
 intro g c f;obtain⟨⟨e,fr,j⟩,k⟩:=h g c f
 grind[wAq,RW]
theorem WR.lay{Δ:Env} {h:Hp} {w:World} (c:WR Δ h w) {l:Nat} {o:O} {d:D} {ob:Obj} (v:Δ l=none) (y:l<h.next) (z:h.get l=some o) (A:d.b=w.heap.size)
  (B:St (Δ.set l d) d o (some ob)):WR (Δ.set l d) h (w.alloc ob) where
 fresh:=λm e a=>by
  rcases Env.mH a with⟨rfl,rfl⟩|⟨_,a⟩
  ·exact y
  ·exact c.fresh m e a
 nV:=λm e a=>by
  simp only[World.size_alloc];rcases Env.mH a with⟨rfl,rfl⟩|⟨_,a⟩
  ·omega
  ·have:=c.nV m e a;omega
 obj:=λm e a=>by
  rcases Env.mH a with⟨rfl,rfl⟩|⟨_,a⟩
  ·refine⟨o,z,?_⟩;rw[heap_alloc,if_pos A];exact B
  ·obtain⟨C,f,j⟩:=c.obj m e a;refine⟨C,f,?_⟩;rw[heap_alloc,if_neg (Sp (c.nV m e a))];exact j.mono (Env.zP v)
 apart:=λm x e e' p E a k n hp q r i s=>by
  rcases Env.mH a with⟨f,j⟩|⟨_,f⟩ <;> rcases Env.mH k with⟨t,F⟩|⟨_,t⟩
  ·omega
  ·have:=c.nV x e' t;grind
  ·have:=c.nV m e f;grind
  ·exact c.apart m x e e' p E f t n hp q r i s
 Jq:=λg p u hp=>by
  obtain⟨e,f,j⟩:=c.Jq g p u hp;exact⟨e,Env.zP v _ _ f,j⟩
 An:=c.An
 Wj:=c.Wj.step (by simp_all[heap_alloc,if_neg,Sp]) λm e a _=>by
  rcases Env.mH a with⟨rfl,rfl⟩|⟨_,a⟩
  ·omega
  simp_all
theorem WR.more{Δ:Env} {h:Hp} {w:World} (a:WR Δ h w) (o:O):WR Δ (h.new o) w where
 fresh:=λl d f=>wBs (a.fresh l d f)
 nV:=a.nV
 obj:=λl d f=>by
  obtain⟨n,q,r⟩:=a.obj l d f;refine⟨n,?_,r⟩;rw[xz,if_neg (Nat.ne_of_gt (a.fresh l d f))];exact q
 apart:=λm s e e' p t k b i hp c=>by
  rw[xz,if_neg (Nat.ne_of_gt (a.fresh _ _ k))]at hp;rw[xz,if_neg (Nat.ne_of_gt (a.fresh _ _ b))]at c;exact a.apart m s e e' p t k b i hp c
 Jq:=λg p j hp=>by
  rw[xz,if_neg (by have:=a.An;omega)]at hp;exact a.Jq g p j hp
 An:=wBL a.An
 Wj:=a.Wj
theorem FR.lay{Δ:Env} {w:World} {l:Nat} {d:D} {ob:Obj} (c:Δ l=none) (f:d.b=w.heap.size):FR Δ (Δ.set l d) w (w.alloc ob) where
 le:=Env.zP c
 size:=by simp
 os:=rfl
 tape:=rfl
 output:=rfl
 fi:=by simp_all[heap_alloc,if_neg,Sp]
 new:=λm e a=>by
  rcases Env.mH a with⟨rfl,rfl⟩|⟨_,a⟩
  ·omega
  simp_all
def Made(Δ:Env) (ob:O) (mk:Nat->V) (a:Obj) (c:Nat->Value):Prop:=∀l b,Δ l=none->∃d,d.b=b/\St (Δ.set l d) d ob (some a)/\fO (Δ.set l d) (mk l) (c b)
theorem Cn{Δ:Env} {d:D} {cs:List V} {c:Array Value} {e:Nat} (hs:c.size=d.XG) (a:d.base=0) (b:cs.length<=d.XG) (hc:∀(i:Nat) (v:V),cs[i]? =some v->∃x,c[i]? =some x/\fO Δ v x) :
  Ia Δ d cs (some (.cells c e (0,0))):=
 ⟨c,e,(0,0),rfl,hs,λ_=> .inl rfl,by omega,λi v hi=>by rw[a,zO];exact hc i v hi⟩
theorem VM{Δ:Env} {e:Nat} {v:V} {xv:Value} {ob:O} {mk:Nat->V} (c:fO Δ v xv) (hv:mn e v=some (ob,mk)) :
  Made Δ ob mk (.cells xv.cells e) (λb=> .pointer (some ⟨b,0,none⟩)):=by
 unfold mn at hv;rw[hK]at hv;obtain⟨_,hv⟩:=hv;cases hv;intro l b g;have hc:=c.cells;have a:=Env.zP (d:=⟨b,0,1,v.cells.length,xv.cells.size,false,0⟩) g;refine⟨⟨b,0,1,v.cells.length,xv.cells.size,false,0⟩,rfl,⟨rfl,rfl,rfl,rfl,λ_=>?_⟩,?_⟩
 ·refine Cn rfl rfl (wB9 (by first|(simpa using hc.length)|(simpa using f.length))) λi u hi=>?_;obtain⟨x,c,f⟩:=hc.get i u hi;exact⟨x,by simp_all,f.mono a⟩
 ·exact fO.ptr l 0 ⟨b,0,1,v.cells.length,xv.cells.size,false,0⟩ (Env.xD _ _ _)
theorem Im{a size kL:Nat} {z:V} (h:elemOf a=some (size,kL,z)) :
  zR a=some size/\zb3 a=some kL/\zeroV a=some z/\0<size/\z.cells.length=size/\gv z.cells=true:=by
 grind[elemOf,ft,hK,Q8,CI]
theorem AY{t e:Nat} (h:Ie t=some e):P0.underlying t=some (.slice e):=by
 grind[Ie]
theorem Sf(z:List V):∀(m i:Nat),(De m z)[i]? =if i<m*z.length then z[i % z.length]? else none
 |0,i=>by simp[De]
 | m + 1,i=>by
   simp only[De,List.getElem?_append];by_cases a:i<z.length
   ·rw[if_pos a,if_pos (by grind),Nat.mod_eq_of_lt a]
   ·rw[if_neg a,Sf z m]
    have e:i % z.length=(i-z.length) % z.length:=by
      rw[Nat.mod_eq_sub_mod (by omega)]
    grind
theorem Ct(z:List V):∀m,(De m z).length=m*z.length
 |0=>by simp[De]
 |m+1=>by simp[De,Ct z m,Yt,Nat.add_comm]
theorem Tx{Δ:Env} {z:List V} {a:Array Value} (b:gN Δ z a.toList) (h0:0<z.length) (m:Nat):gN Δ (De m z) ((Array.range (m*z.length)).map λi=>a[i % a.size]!).toList:=by
 have hlen:=b.length;simp only[wBE]at hlen;refine gN.RL (by simp[Ct]) λi v hi=>?_;rw[Sf]at hi;by_cases h:i<m*z.length
 ·rw[if_pos h]at hi;obtain⟨x,c,d⟩:=b.get _ _ hi
  grind
 simp_all
section
variable{Δ:Env}{h:Hp}{w:World}{n:Nat}{t:Tm}{a:Act}
theorem SS(X : TR Δ n t a) {o:Oper} {ob:O} {mk:Nat->V} (hv:(qQ o).f t=some (ob,mk)) :
    ∃mo mv,(∀w,(execOp a.eval o).run P0 w = .ok (.value (mv w.heap.size)) (w.alloc mo))/\Made Δ ob mk mo mv:=by
  obtain⟨dst,op,ty,pos,af,gd⟩:=o
  cases op with
  | alloc e=>
    simp only[qQ]at hv;split at hv
    ·rename_i z Q
     obtain⟨s,H,B,_⟩:=Bp Q;refine⟨_,_,λw=>nM (x:= .pointer (some ⟨w.heap.size,0,none⟩)) ?_,VM (B Δ) hv⟩
     simp_all[Instr.alloc,newVar,newRow]
    ·cases hv
  | box e x=>
    simp only[qQ,ft]at hv;obtain⟨v,R,P⟩:=hv;refine⟨_,_,λw=>nM (x:= .pointer (some ⟨w.heap.size,0,none⟩)) ?_,VM (Hz X R) P⟩
    rfl
  | buildSlice S len parts=>
    simp only[qQ]at hv;split at hv
    ·rename_i j I
     have hu:=AY I;split at hv
     ·rename_i size kL z he
      obtain⟨hs,_,Q,T,D,_⟩:=Im he;obtain⟨s,H,B,_⟩:=Bp Q;split at hv
      ·rename_i C
       have aj:len*size<=16777216:=K7 C;simp only[Ho,ft,hK]at hv;obtain⟨ps,R,cs,P,_,J⟩:=hv;cases J;have E:=(B Δ).cells;have y:=Tx E (by omega) len;have ak:s.cells.size=size:=by have:=E.length;simp only[wBE]at this;omega
       have g:gN Δ (De len z.cells) ((Array.range (len*size)).map λi=>(if len*size=0 then(#[]:Array Value) else s.cells)[i % (if len*size=0 then(#[]:Array Value) else s.cells).size]!).toList:=by
         by_cases h0:len*size=0
         ·simp_all
         ·simp_all
       obtain⟨qj,Y,hr⟩:=M9 (FM X R) g P;refine⟨.cells qj j,λb=> .slice (some ⟨b,0,none⟩) len len,λw=>nM (w:=w) (x:= .slice (some ⟨w.heap.size,0,none⟩) len len) ?_,?_⟩
       ·have A:(parts.map λ(x:Nat×Operand)=>(x.1,a.eval x.2)).toList=parts.toList.map λx=>(x.1,a.eval x.2):=by simp
        have aa:¬(len*size>2 ^ 24):=by omega
        have U:(if len*size=0 then(pure #[]:Sem (Array Value)) else do pure (<-zeroValue j).cells).run P0 w = .ok (if len*size=0 then(#[]:Array Value) else s.cells) w:=by
          by_cases h0:len*size=0
          ·simp_all
          ·simp_all
        simp only[Instr.buildSlice,yo,gf hu,xy hs,wT,Sem.run_ite];rw[if_neg aa];simp only[L9,wT,yo];clear g U;by_cases h0:len*size=0
        ·simp only[if_pos h0]at Y⊢
         rw[A];have K:Instr.fill (λi=>some (i*size,size)) (Array.map (λx=>(#[]:Array Value)[x % (#[]:Array Value).size]!) (Array.range (len*size))) (List.map (λx=>(x.1,a.eval x.2)) parts.toList)=some qj:=Y;rw[K];rfl
        ·simp only[if_neg h0,H,wT]at Y⊢
         rw[A];have K:Instr.fill (λi=>some (i*size,size)) (Array.map (λx=>s.cells[x % s.cells.size]!) (Array.range (len*size))) (List.map (λx=>(x.1,a.eval x.2)) parts.toList)=some qj:=Y;rw[K];rfl
       ·intro l b Z
        have L:=hr.length;simp only[wBE]at L;have al:cs.length=len*size:=by
          have h5:∀{place:Nat->Option (Nat×Nat)} {ps:List (Nat×V)} {c c':List V},Ef place c ps=some c'->c'.length=c.length:=by
            intro place ps
            induction ps with
            |nil=>grind[Ef]
            | cons p ps ih=>
              intro c c' h;simp only[Ef,ft,hK]at h;obtain⟨q,_,_,am,h6,h7⟩:=h;rw[ih h7,(Lo h6).1]
          rw[h5 P,Ct,D]
        have C:=Env.zP (d:=⟨b,0,size,cs.length,qj.size,false,0⟩) Z;refine⟨⟨b,0,size,cs.length,qj.size,false,0⟩,rfl,⟨rfl,rfl,rfl,rfl,λ_=>?_⟩,?_⟩
        ·refine Cn rfl rfl (by simp_all) λi u hi=>?_
         obtain⟨x,hx,M⟩:=hr.get i u hi;exact⟨x,by simp_all,M.mono C⟩
        ·refine fO.slice l 0 len len 0 ⟨b,0,size,cs.length,qj.size,false,0⟩ (Env.xD _ _ _) rfl (ju _) (.inl ⟨rfl,?_,?_⟩)
         ·simp_all
         simp_all
      ·cases hv
     ·cases hv
    ·cases hv
  | makeSlice S m c=>
    simp only[qQ]at hv;split at hv
    ·rename_i j I
     have hu:=AY I;split at hv
     ·rename_i size kL z he
      obtain⟨hs,N,Q,T,D,_⟩:=Im he;obtain⟨s,H,B,i,hi,an⟩:=Bp Q;simp only[ft]at hv;obtain⟨mv,R,cv,P,J⟩:=hv;have hm:=Hz X R;have hc:=Hz X P;unfold iB at J;split at J
      ·rename_i F c'
       simp only[hK]at J;obtain⟨h4,h5,h6,h7⟩:=J;cases h7;have ab:F<=c':=K7 h4;have ao:c'*kL<=281474976710656:=K7 h5;have ac:c'<=1099511627776:=K7 h6;have ae:i.bytes=kL:=by
         unfold zb3 at N;rw[ft]at N;obtain⟨i',W,hb⟩:=N;rw[hi]at W;cases W;simpa using hb
       have E:=(B Δ).cells;have y:=Tx E (by omega) c';rw[D]at y;have ag:a.eval m = .int .i64 (F:Int):=by
         generalize a.eval m=x at hm;cases hm;rfl
       have ah:a.eval c = .int .i64 (c':Int):=by
         generalize a.eval c=x at hc;cases hc;rfl
       have wr:∀k:Nat,k<=1099511627776->IntKind.i64.wrap (k:Int)=k:=by grind[IntKind.wrap,IntKind.bits,IntKind.signed]
       refine⟨.cells ((Array.range (c'*size)).map λi=>s.cells[i % s.cells.size]!) j,λb=> .slice (some ⟨b,0,none⟩) F c',λw=>nM (w:=w) (x:= .slice (some ⟨w.heap.size,0,none⟩) F c') ?_,?_⟩
       ·rw[ag,ah]
        have e1:((i.bytes:Int)*(c':Int)>2 ^ 48)=False:=by
          rw[ae];have:(kL:Int)*(c':Int)=((c'*kL:Nat):Int):=by rw[Nat.mul_comm];simp
          rw[this];simp;omega
        have g:(if c'*size=0 then(pure #[]:Sem (Array Value)) else do pure (<-zeroValue j).cells).run P0 w = .ok (if c'*size=0 then(#[]:Array Value) else s.cells) w:=by
          by_cases h0:c'*size=0
          ·simp_all
          ·simp_all
        have G:((Array.range (c'*size)).map λi=>(if c'*size=0 then(#[]:Array Value) else s.cells)[i % (if c'*size=0 then(#[]:Array Value) else s.cells).size]!)=((Array.range (c'*size)).map λi=>s.cells[i % s.cells.size]!):=by
          by_cases h0:c'*size=0
          ·simp_all
          ·simp_all
        have c1:¬((c':Int)<0):=by omega
        have c2:¬((F:Int)<0):=by omega
        have c3:¬((F:Int)>(c':Int)):=by omega
        simp only[Instr.makeSlice,yo,gf hu,wT,asInt,asIntOf,L9,typeInfo,run_program,hi,wr F (by omega),wr c' ac,e1,c1,c2,c3,decide_false,Bool.or_false,RY,if_false,run_askRoom,xy hs,Int.toNat_natCast];clear g;by_cases h0:c'*size=0
        ·simp only[if_pos h0,newRow,run_newObj,yo,L9,wT]at G⊢
         rw[G];rfl
        simp_all[if_neg,newRow,run_newObj,yo,L9,wT]
       ·intro l b Z
        have L:=y.length;simp only[wBE]at L;have ai:(De c' z.cells).length=c'*size:=by rw[Ct,D]
        have C:=Env.zP (d:=⟨b,0,size,(De c' z.cells).length,c'*size,false,0⟩) Z;refine⟨⟨b,0,size,(De c' z.cells).length,c'*size,false,0⟩,rfl,⟨rfl,rfl,rfl,rfl,λ_=>?_⟩,?_⟩
        ·refine Cn (by simp) rfl (wB9 ai) λi u hi=>?_
         obtain⟨x,hx,M⟩:=y.get i u hi;exact⟨x,by grind,M.mono C⟩
        ·refine fO.slice l 0 F c' 0 ⟨b,0,size,(De c' z.cells).length,c'*size,false,0⟩ (Env.xD _ _ _) rfl ab (.inl ⟨rfl,?_,?_⟩)
         ·simp_all
         simp_all
      ·cases J
     ·cases hv
    ·cases hv
  | makeMap S r=>
    cases r with
    | none=>
      simp only[qQ]at hv;split at hv
      ·cases hv
       refine⟨.map #[] 0,λb=> .map (some b),λw=>nM (x:= .map (some w.heap.size)) (by simp[Instr.makeMap]),?_⟩;intro l b Z;exact⟨⟨b,0,0,0,0,false,1⟩,rfl,⟨rfl,rfl,rfl,#[],rfl,.nil⟩,fO.map l ⟨b,0,0,0,0,false,1⟩ (Env.xD _ _ _)⟩
      ·cases hv
    |some _=>cases hv
  |_=>cases hv
end
