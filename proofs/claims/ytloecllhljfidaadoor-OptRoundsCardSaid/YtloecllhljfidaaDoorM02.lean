/- Parts. -/
import Derived.Test.YtloecllhljfidaaDoorM01
import Derived.Laws.Pointers
import Derived.Laws.StructEq
import Derived.Laws.Strings2
import Derived.Laws.IdiomStrings
set_option maxHeartbeats 4000000
namespace Go.Proofs.YtloecllhljfidaaDoor.Hx
inductive rK (Δ:Env):List (V×V×Nat)->List MapEntry->Prop
 |nil:rK Δ [] []
 | cons (k v:V) (n:Nat) (e:MapEntry) (b:List (V×V×Nat)) (a:List MapEntry) (hk:fG Δ k e.key) (hv:fG Δ v e.val) (hb:e.born=n)
   (hs:rK Δ b a):rK Δ ((k,v,n)::b) (e::a)
theorem rK.mono{Δ d:Env} (b:Δ.le d) {c:List (V×V×Nat)} {a:List MapEntry} (h:rK Δ c a):rK d c a:=by
 induction h with
 |nil=>exact .nil
 |cons k v n e c a hk hv hb _ f=>exact .cons k v n e c a (hk.mono b) (hv.mono b) hb f
def Ef(Δ:Env) (d:D) (cs:List V) (ob:Option Obj):Prop:=∃c e fr,ob=some (.cells c e fr)/\c.size=d.Vw/\(d.ro=false->fr.1=fr.2\/d.Vw<=fr.1)/\d.base+cs.length<=d.Vw/\∀(i:Nat) (v:V),cs[i]? =some v->∃x,c[d.base+i]? =some x/\fG Δ v x
def PE(Δ:Env) (d:D) (o:O) (ob:Option Obj):Prop:=match o with
 | .cells _ sz live ro cs=>d.kind=0/\d.sz=sz/\d.n=cs.length/\d.ro=ro/\(live=true->Ef Δ d cs ob)
 | .map f a=>d.kind=1/\d.ro=false/\d.base=0/\∃c,ob=some (.map c a)/\rK Δ f c.toList
 | .iter m since seen last=>d.kind=2/\d.ro=false/\d.base=0/\∃e,ob=some (.mapIter e since seen.toArray last)/\
   (match m with
    |none=>e=none
    |some l=>∃d',Δ l=some d'/\e=some d'.b)
def O.live:O->Bool
 | .cells _ _ live _ _=>live
 |_=>true
def An(Δ:Env)(w:World):Prop:=∀g c,(g,c)∈zbJ->(∃e fr,w.heap[g]? =some (.cells c e fr))/\∀l d,Δ l=some d->d.ro=false->d.b≠g
structure WR (Δ:Env) (h:Hp) (w:World):Prop where
 fresh:∀l d,Δ l=some d->l<h.next
 vf:∀l d,Δ l=some d->d.b<w.heap.size
 obj:∀l d,Δ l=some d->∃o,h.get l=some o/\PE Δ d o w.heap[d.b]?
 apart:∀l a d d' o c,Δ l=some d->Δ a=some d'->l≠a->h.get l=some o->h.get a=some c->o.live=true->c.live=true->
  (d.ro=false\/d'.ro=false)->d.b≠d'.b
 GI:∀g o,g<P0.globals.size->h.get g=some o->∃d,Δ g=some d/\d.b=g/\d.base=0
 xd:P0.globals.size<=h.next
 Tz:An Δ w
inductive Hs (Δ:Env):List (Nat×List V)->List Deferred->Prop
 |nil:Hs Δ [] []
 | cons (g:Nat) (args:List V) (cap gB:Array Value) (l:List (Nat×List V)) (a:List Deferred) (b:gj Δ args (gB++cap).toList) (c:Hs Δ l a) :
   Hs Δ ((g,args)::l) ({target:= .fn (.func g) cap,args:=gB}::a)
theorem Hs.mono{Δ c:Env} (b:Δ.le c) {l:List (Nat×List V)} {a:List Deferred} (h:Hs Δ l a):Hs c l a:=by
 induction h with
 |nil=>exact .nil
 |cons g args cap gB l a d _ e=>exact .cons g args cap gB l a (d.mono b) e
structure TR (Δ:Env) (n:Nat) (t:Tm) (a:Act):Prop where
 size:a.tmps.size=n
 rel:∀i,fG Δ (jw t i) (a.tmps.getD i undef)
 ds:Hs Δ t.ds a.defers
theorem Ef.mono{Δ b:Env} (a:Δ.le b) {d:D} {cs:List V} {ob:Option Obj} (h:Ef Δ d cs ob):Ef b d cs ob:=by
 obtain⟨c,e,fr,f,g,j,k,l⟩:=h;exact⟨c,e,fr,f,g,j,k,λi v hi=>let⟨x,hx,hr⟩:=l i v hi;⟨x,hx,hr.mono a⟩⟩
theorem PE.mono{Δ n:Env} (a:Δ.le n) {d:D} {o:O} {ob:Option Obj} (h:PE Δ d o ob):PE n d o ob:=by
 cases o with
 | cells e sz live ro cs=>
   obtain⟨c,f,g,i,b⟩:=h
   exact⟨c,f,g,i,λp=>(b p).mono a⟩
 | map t j=>
   obtain⟨c,f,g,k,i,b⟩:=h
   exact⟨c,f,g,k,i,b.mono a⟩
 | iter m since seen last=>
   obtain⟨c,f,g,q,i,b⟩:=h;refine⟨c,f,g,q,i,?_⟩
   cases m with
   |none=>exact b
   |some l=>obtain⟨d',r,s⟩:=b;exact⟨d',a _ _ r,s⟩
theorem TR.mono{Δ c:Env}(b:Δ.le c){n:Nat}{t:Tm}{a:Act}(h:TR Δ n t a):TR c n t a:=⟨h.size,λi=>(h.rel i).mono b,h.ds.mono b⟩
theorem fN{t:Nat}{d:TypeDesc}{w:World}(h:P0.underlying t=some d):(underlying t).run P0 w = .ok d w:=by simp[underlying,h]
theorem BU{t n:Nat} (h:wZ t=some n):∃i,P0.info? t=some i/\i.size=n:=by
 grind[wZ,fj]
theorem tv{t n:Nat} {w:World} (h:wZ t=some n):(sizeOf t).run P0 w = .ok n w:=by
 obtain⟨i,hi,rfl⟩:=BU h
 simp_all[sizeOf,typeInfo]
theorem Et{t:Nat} {b:Bool} {w:World} (h:Lh t=some b):(isAgg t).run P0 w = .ok b w:=by
 unfold Lh at h;split at h
 ·simp_all[isAgg,fN]
 ·simp_all[isAgg,fN]
 ·simp_all[isAgg,uG,fN,tn]
 ·cases h
theorem yk{t:Nat} {z:V} (h:zeroV t=some z):∃a,(∀w,(zeroValue t).run P0 w = .ok a w)/\(∀Δ,fG Δ z a)/\∃i,P0.info? t=some i/\i.zero=some a:=by
 unfold zeroV at h;simp only[fj]at h;obtain⟨i,hi,a,b,hv⟩:=h;exact⟨a,by simp_all[zeroValue,typeInfo],by grind[Eu],i,hi,b⟩
theorem rl(b o n:Nat):(⟨b,o,none⟩:Addr).add n=⟨b,o+n,none⟩:=by
 grind[Addr.add]
section
variable{Δ:Env}{h:Hp}{w:World}{n:Nat}{t:Tm}{a:Act}
theorem C7(b:TR Δ n t a) {x:Operand} {v:V} (hv:(L9 x).f t=some v):fG Δ v (a.eval x):=by
 cases x with
 |tmp i=>simp only[L9]at hv;cases hv;exact b.rel i
 | const c=>
   simp only[L9]at hv;split at hv
   ·rename_i y d;cases hv;exact Eu Δ 8 c _ d
   ·cases hv
 |global g=>grind[L9]
 |func f=>simp only[L9]at hv;cases hv;exact .func f [] [] #[] #[] .nil .nil
theorem kE(j:WR Δ h w) (b:TR Δ n t a) {x:Operand} {v:V} (hv:(qJ x).f t h=some v):fG Δ v (a.eval x):=by
 cases x with
 | global g=>
   unfold qJ at hv
   cases Mw:Nat.blt g P0.globals.size with
   | true=>
     simp only[Mw,fj]at hv;obtain⟨o,k,hv⟩:=hv;cases hv;have l:g<P0.globals.size:=by rw[<-O6];exact Mw
     obtain⟨d,m,hb,e⟩:=j.GI g o l k;have:=fG.ptr (Δ:=Δ) g 0 d m;rw[hb,e]at this
     exact this
   |false=>simp_all
 |tmp i=>exact C7 b hv
 |const c=>exact C7 b hv
 |func f=>exact C7 b hv
theorem zN(b:TR Δ n t a):∀{l:List Operand} {vs:List V},G3 t l=some vs->gj Δ vs (l.map a.eval)
 |[],vs,hv=>by simp[G3]at hv;subst hv;exact .nil
 | x::l,vs,hv=>by
   simp only[G3,fj]at hv;obtain⟨v,c,d,e,f⟩:=hv;cases f;exact .cons _ _ _ _ (C7 b c) (zN b e)
inductive Xz (Δ:Env):List (Nat×V)->List (Nat×Value)->Prop
 |nil:Xz Δ [] []
 |cons (i:Nat) (v:V) (a:Value) (l:List (Nat×V)) (b:List (Nat×Value)) (hv:fG Δ v a) (hs:Xz Δ l b):Xz Δ ((i,v)::l) ((i,a)::b)
theorem BJ(b:TR Δ n t a):∀{l:List (Nat×Operand)} {vs:List (Nat×V)},rB t l=some vs->Xz Δ vs (l.map λx=>(x.1,a.eval x.2))
 |[],vs,hv=>by simp[rB]at hv;subst hv;exact .nil
 | x::l,vs,hv=>by
   simp only[rB,fj]at hv;obtain⟨v,c,d,e,f⟩:=hv;cases f;exact .cons _ _ _ _ _ (C7 b c) (BJ b e)
theorem TG(f:WR Δ h w) {l:Nat} {d:D} (g:Δ l=some d) {e sz:Nat} {ro:Bool} {cs:List V} (j:h.get l=some (.cells e sz true ro cs))
  {i:Nat} {v:V} (hi:cs[i]? =some v):∃x,w.cell? ⟨d.b,d.base+i,none⟩=some x/\fG Δ v x:=by
 obtain⟨o,a,k⟩:=f.obj l d g;rw[j]at a;cases a;obtain⟨_,_,_,_,hc⟩:=k;obtain⟨c,e',fr,m,_,_,_,n⟩:=hc rfl
 grind[World.cell?]
theorem G9(g:WR Δ h w) {l:Nat} {d:D} (i:Δ l=some d) {off m:Nat} {cs:List V} (hv:ET h l off m=some cs) :
  ∃a,(loadCells ⟨d.b,d.base+off,none⟩ m).run P0 w = .ok a w/\gj Δ cs a.toList:=by
 unfold ET at hv;rw[km]at hv;obtain⟨e,sz,live,ro,all,k,hv⟩:=hv;rw[gP]at hv;obtain⟨rfl,hv⟩:=hv;obtain⟨hlen,c⟩:=sub_eq hv;have f:∀j,j<m->∃x v,w.cell? ⟨d.b,d.base+off+j,none⟩=some x/\cs[j]? =some v/\fG Δ v x:=by grind[g0,TG,Nat.add_assoc]
 refine⟨_,run_loadCells w ⟨d.b,d.base+off,none⟩ m (λj=>(w.cell? ⟨d.b,d.base+off+j,none⟩).getD undef) (λj n=>?_),?_⟩
 ·grind[rl]
 grind[gj.NG,jk]
theorem Wy(a:WR Δ h w) {l:Nat} {d:D} (c:Δ l=some d) {off:Nat} {v:V} (hv:ld1 h l off=some v) :
  ∃x,w.cell? ⟨d.b,d.base+off,none⟩=some x/\fG Δ v x:=by
 unfold ld1 at hv;rw[km]at hv;obtain⟨e,sz,live,ro,all,f,hv⟩:=hv;rw[gP]at hv;obtain⟨rfl,hv⟩:=hv;exact TG a c f (KZ hv)
theorem KA(i:WR Δ h w) {ty:Nat} {p:PF} {xv:Value} (j:∀v,p.f t h=some v->fG Δ v xv) {v:V} (hv:(I3 ty p).f t h=some v) :
  ∃x,(Instr.loadAt ty xv).run P0 w = .ok x w/\fG Δ v x:=by
 unfold I3 at hv;split at hv
 ·rename_i k;split at hv
  ·rename_i m o;simp only[fj,uE]at hv;obtain⟨av,b,l,off,rfl,cs,c,n⟩:=hv;cases n
   cases j _ b with
   | ptr _ _ d e=>
     obtain⟨g,q,a⟩:=G9 i e c;exact⟨.agg g,by simp_all[Instr.loadAt,Instr.sureAddr,loadVar,Et,tv],.agg _ _ a⟩
  ·cases hv
 ·rename_i k;simp only[fj,uE]at hv;obtain⟨av,b,l,off,rfl,c⟩:=hv
  cases j _ b with
  | ptr _ _ d e=>
    obtain⟨x,hx,a⟩:=Wy i e c
    simp_all[Instr.loadAt,Instr.sureAddr,loadVar,Et]
 ·cases hv
theorem Ja:∀(fs:List Field) (pl:List (Nat×Nat)),placesOf fs=some pl->fs.mapM (λf=>(P0.info? f.type).map λi=>(f.offset,i.size))=some pl
 |[],pl,h=>by grind[placesOf]
 | f::fs,pl,h=>by
   simp only[placesOf,fj]at h;obtain⟨m,a,l,b,c⟩:=h;cases c;obtain⟨i,hi,rfl⟩:=BU a;simp[List.mapM_cons,hi,Ja fs l b]
theorem Ng:∀(xs:List Value) (k off:Nat) (c:Array Value),off+k+xs.length<=c.size->
  ∀i,((xs.zipIdx k).foldl (λcs (p:Value×Nat)=>cs.setIfInBounds (off+p.2) p.1) c)[i]? =if off+k<=i/\i<off+k+xs.length then xs[i-(off+k)]? else c[i]?
 | [],k,off,c,_,i=>by
   simp_all[if_neg,wBk]
 | x::xs,k,off,c,hle,i=>by
   simp only[List.zipIdx_cons,List.foldl_cons];simp only[Pb]at hle;rw[Ng xs (k+1) off _ (by simp;omega)]
   grind
theorem Kd{place:Nat->Option (Nat×Nat)}:∀{ps:List (Nat×V)} {f:List (Nat×Value)} {cells cs:List V} {a:Array Value},Xz Δ ps f->gj Δ cells a.toList->
  AP place cells ps=some cs->∃ot,Instr.fill place a f=some ot/\gj Δ cs ot.toList
 |_,_,cells,cs,a,.nil,hc,hf=>by simp[AP]at hf;subst hf;exact⟨a,rfl,hc⟩
 | _,_,cells,cs,a,.cons i v v' l l' hv hs,hc,hf=>by
   simp only[AP,fj,gP]at hf;obtain⟨⟨off,size⟩,G,s,n,t,u⟩:=hf;obtain⟨H,w,g⟩:=Iq t;have d:=hv.cells;have z:v'.cells.size=size:=by
     have:=d.length;rw[zB s]at this;simpa using this.symm
   have o:=hc.length;simp only[Yg]at o;have A:v.cells.length=v'.cells.size:=by simpa using d.length
   have B:¬(v'.cells.size≠size\/off+v'.cells.size>a.size):=by
     rintro(h|h)
     ·omega
     ·omega
   have k:gj Δ n (v'.cells.zipIdx.foldl (λcs (c,j)=>cs.setIfInBounds (off+j) c) a).toList:=by
     have b:=Ng v'.cells.toList 0 off a (by simp;omega);have e:(v'.cells.zipIdx.foldl (λcs (c,j)=>cs.setIfInBounds (off+j) c) a)=((v'.cells.toList.zipIdx 0).foldl (λcs (p:Value×Nat)=>cs.setIfInBounds (off+p.2) p.1) a):=by
       rw[<-Array.foldl_toList];simp
     rw[e];generalize hF:((v'.cells.toList.zipIdx 0).foldl (λcs (p:Value×Nat)=>cs.setIfInBounds (off+p.2) p.1) a)=F at b;have C:F.size=a.size:=by
      apply Nat.le_antisymm
      ·rcases Re a.size F.size with q|r
       ·have:=b a.size
        grind
       omega
      ·rcases Re F.size a.size with q|r
       ·have:=b F.size
        grind
       omega
     refine gj.NG (by simp_all) λj x hx=>?_;rw[g j]at hx;have m:=b j;simp only[wB8,Yg]at m;rw[Yk,m];by_cases hin:off<=j/\j<off+v.cells.length
     ·rw[if_pos hin]at hx
      rw[if_pos (by omega)];exact d.get _ _ hx
     ·rw[if_neg hin]at hx
      rw[if_neg (by omega)];obtain⟨y,I,D⟩:=hc.get _ _ hx
      simp_all
   obtain⟨ot,E,D⟩:=Kd hs k u
   simp_all[Instr.fill,if_neg]
theorem Vx(m:TR Δ n t a) {ty:Nat} {parts:List (Nat×Operand)} {v:V} (hv:(Gc ty parts).f t h=some v) :
  ∃x,(Instr.build ty (parts.map λx=>(x.1,a.eval x.2)).toArray).run P0 w = .ok x w/\fG Δ v x:=by
 unfold Gc at hv;split at hv
 ·rename_i z p;obtain⟨y,_,e,i,hi,q⟩:=yk p;have b:=(e Δ).cells;split at hv
  ·rename_i c r;split at hv
   ·rename_i d A;simp only[fj]at hv;obtain⟨ps,g,cs,j,k⟩:=hv;cases k;obtain⟨ot,s,l⟩:=Kd (BJ m g) b j;refine⟨.agg ot,?_,.agg _ _ l⟩
    simp_all[run_build,Program.built,Ja]
   ·cases hv
  ·rename_i len o r;split at hv
   ·rename_i size hs;obtain⟨B,u,rfl⟩:=BU hs;simp only[fj]at hv;obtain⟨ps,g,cs,j,k⟩:=hv;cases k;obtain⟨ot,s,l⟩:=Kd (BJ m g) b j;refine⟨.agg ot,?_,.agg _ _ l⟩
    simp_all[run_build,Program.built]
   ·cases hv
  ·cases hv
 ·cases hv
end
theorem ri(k:IntKind) (n:Int):mb k n=k.wrap n:=by
 unfold mb
 cases n with
 |negSucc m=>rfl
 | ofNat m=>
   simp only;split
   ·rename_i hb
    rw[O6]at hb;have e:(Int.ofNat m)=(m:Int):=rfl
    grind[IntKind.wrap,IntKind.bits,IntKind.signed]
   ·rfl
section
variable{Δ:Env}{h:Hp}{w:World}{n:Nat}{t:Tm}{a:Act}
theorem me{s:Sem Value}{x:Value}{w w':World}(h:s.run P0 w = .ok x w'):(do pure (Next.value (<-s)):Sem Next).run P0 w = .ok (.value x) w':=by simp[h]
theorem IS{k k':IntKind}(h:N1 k k' = true):k=k':=by cases k <;> cases k' <;> first|rfl|cases h
theorem Zb{op:BinOp} {k:IntKind} {x y:Int} {v:V} (ty:Nat) (w:World) (hs:T0 op=false) (hv:hint op k x y=some v) :
  ∃r,(binOp op ty (.int k x) (.int k y)).run P0 w = .ok r w/\∀Δ,fG Δ v r:=by
 cases op with
 |shl=>cases hs
 |shr=>cases hs
 |add=>simp only[hint]at hv;cases hv;rw[ri];exact⟨_,by simp[binOp,Op.intArith],λΔ=> .int _ _⟩
 |sub=>simp only[hint]at hv;cases hv;rw[ri];exact⟨_,by simp[binOp,Op.intArith],λΔ=> .int _ _⟩
 |mul=>simp only[hint]at hv;cases hv;rw[ri];exact⟨_,by simp[binOp,Op.intArith],λΔ=> .int _ _⟩
 | quo=>
   have b:y≠0:=by rintro rfl;simp[hint]at hv
   have a:some (V.int k (mb k (x.tdiv y)))=some v:=by
     rw[<-hv];unfold hint;simp only;split
     ·simp_all
     ·rfl
   cases a;rw[ri];exact⟨_,by simp_all[binOp,Op.intDiv],λΔ=> .int _ _⟩
 | rem=>
   have b:y≠0:=by rintro rfl;simp[hint]at hv
   have a:some (V.int k (x.tmod y))=some v:=by
     rw[<-hv];unfold hint;simp only;split
     ·simp_all
     ·rfl
   cases a;exact⟨_,by simp_all[binOp,Op.intDiv],λΔ=> .int _ _⟩
 |and=>simp only[hint]at hv;cases hv;exact⟨_,by simp[binOp,Op.intBits],λΔ=> .int _ _⟩
 |or=>simp only[hint]at hv;cases hv;exact⟨_,by simp[binOp,Op.intBits],λΔ=> .int _ _⟩
 |xor=>simp only[hint]at hv;cases hv;exact⟨_,by simp[binOp,Op.intBits],λΔ=> .int _ _⟩
 |andNot=>simp only[hint]at hv;cases hv;exact⟨_,by simp[binOp,Op.intBits],λΔ=> .int _ _⟩
 |eql=>simp only[hint]at hv;cases hv;exact⟨_,by simp[binOp,Op.intCmp],λΔ=> .bool _⟩
 |neq=>simp only[hint]at hv;cases hv;exact⟨_,by simp[binOp,Op.intCmp],λΔ=> .bool _⟩
 |lss=>simp only[hint]at hv;cases hv;exact⟨_,by simp[binOp,Op.intCmp],λΔ=> .bool _⟩
 |leq=>simp only[hint]at hv;cases hv;exact⟨_,by simp[binOp,Op.intCmp],λΔ=> .bool _⟩
 |gtr=>simp only[hint]at hv;cases hv;exact⟨_,by simp[binOp,Op.intCmp],λΔ=> .bool _⟩
 |geq=>simp only[hint]at hv;cases hv;exact⟨_,by simp[binOp,Op.intCmp],λΔ=> .bool _⟩
theorem Vk{op:BinOp} {k k':IntKind} {x y:Int} {v:V} (ty:Nat) (w:World) (hv:Ro op k x y=some v) :
  ∃r,(binOp op ty (.int k x) (.int k' y)).run P0 w = .ok r w/\∀Δ,fG Δ v r:=by
 unfold Ro at hv;split at hv
 ·cases hv
 ·rename_i m;have a:¬((Int.ofNat m)<0):=by simp
  split at hv
  ·cases hv;exact⟨_,by rfl,λΔ=> .int _ _⟩
  ·cases hv;exact⟨_,by rfl,λΔ=> .int _ _⟩
  ·cases hv
theorem YT{op:BinOp} {x y:ByteArray} {v:V} (ty:Nat) (w:World) (hv:za7 op x.data.toList y.data.toList=some v) :
  ∃r,(binOp op ty (.string x) (.string y)).run P0 w = .ok r w/\∀Δ,fG Δ v r:=by
 have hb:(binOp op ty (.string x) (.string y))=Op.stringOp op x y:=by cases op <;> rfl
 rw[hb];have g:x.toList=x.data.toList:=ByteArray.toList_eq x;have h:y.toList=y.data.toList:=ByteArray.toList_eq y;cases op <;> simp only[za7]at hv <;> try (cases hv;done)
 case add=>
  split at hv
  ·rename_i b;cases hv;have a:=Jz b;have c:¬(((x.size+y.size:Nat):Int)>IntKind.i64.max):=by
    have d:x.data.toList.length=x.size:=rfl;have f:y.data.toList.length=y.size:=rfl;rw[d,f]at a;simp only[IntKind.max,IntKind.signed,IntKind.bits,if_true];omega
   have e:x.data.toList++y.data.toList=(x++y).data.toList:=by simp
   rw[e];exact⟨_,by simp_all[Op.stringOp,if_neg],λΔ=> .str _⟩
  ·cases hv
 all_goals
  cases hv;refine⟨_,by simp_all[Op.stringOp],λΔ=> .bool _⟩
theorem Gl{op:BinOp} {ty:Nat} {X Y:Operand} {x y:Value} (w:World) (a:x≠ .nilIface) (b:∀c,x≠ .agg c) :
  (eqGuard op ty X Y x y).run P0 w = .ok () w:=by
 cases op <;> unfold eqGuard <;> dsimp only <;> simp only[wCA,wBg,O8,if_true,if_false] <;> first
  |rfl
  |simp_all
theorem UM{d:TypeDesc} {ty:Nat} {x y:V} {xv a:Value} {b:Bool} (w:World) (c:Nat) (e:P0.underlying ty=some d) (hx:fG Δ x xv) (f:fG Δ y a)
  (hv:WL d x y=some b):(Op.equalIn (c+1) ty xv a).run P0 w = .ok b w:=by
 unfold WL at hv;split at hv <;> first|(cases hv;done)|skip
 all_goals
  first
   |cases hv
   |(rw[gP]at hv;obtain⟨_,hv⟩:=hv;cases hv)
  cases hx;cases f;simp only[Op.equalIn,uG,fN e,tn];rfl
theorem Vp{a:Array (String×TypeId)} {ty:Nat} (w:World) (b:Nat) (c:P0.underlying ty=some (.interface a)) (d:a.isEmpty=true):(Op.eqGuardIn (b+1) ty .nilIface .nilIface).run P0 w = .ok false w:=by
 simp_all[Op.eqGuardIn,uG,fN,tn]
theorem YM{d:TypeDesc} {ty:Nat} {x y:V} {xv a:Value} {b:Bool} (w:World) (g:P0.underlying ty=some d) (hx:fG Δ x xv) (h:fG Δ y a)
  (hv:WL d x y=some b):(Op.equal ty xv a).run P0 w = .ok b w/\(∀op X Y,(eqGuard op ty X Y xv a).run P0 w = .ok () w)/\
   (binOp .eql ty xv a)=(do pure (.bool (<-Op.equal ty xv a)))/\(binOp .neq ty xv a)=(do pure (.bool (!(<-Op.equal ty xv a)))):=by
 refine⟨UM w 9999 g hx h hv,?_⟩;unfold WL at hv;split at hv <;> first|(cases hv;done)|skip
 all_goals
  cases hx;cases h
 all_goals refine⟨?_,rfl,rfl⟩
 all_goals intro op X Y
 any_goals (refine Gl w ?_ ?_ <;> first|(intro e;cases e;done)|(intro c e;simp_all))
 ·rename_i k;rw[gP]at hv;have j:=hv.1;have f:=Vp w 9999 g j
  cases op <;> unfold eqGuard <;> dsimp only <;> simp only[wCA,wBg,O8,if_true,if_false] <;> first
   |rfl
   |(split
     ·rfl
     ·split
      ·rfl
      ·have i:Sem.run P0 (Op.eqGuardIn Op.maxDepth ty .nilIface .nilIface) w = .ok false w:=f
       simp_all)
 ·cases op <;> rfl
theorem zaE{ty:Nat} {x y:V} {xv d:Value} {b:Bool} (w:World) (f:Nat) (hx:fG Δ x xv) (c:fG Δ y d) (hv:eq1 (P0.underlying ty) x y=some b) :
  (Op.equalIn (f+1) ty xv d).run P0 w = .ok b w/\Lh ty=some false:=by
 unfold eq1 at hv;split at hv
 ·rename_i a;cases hx;cases c;cases hv;refine⟨?_,by grind[Lh]⟩;simp only[Op.equalIn,uG,fN a,tn];rfl
 ·rename_i a;cases hx;cases c;rw[gP]at hv;obtain⟨hk,hv⟩:=hv;obtain rfl:=IS hk;cases hv;refine⟨?_,by grind[Lh]⟩;simp only[Op.equalIn,uG,fN a,tn,if_true];rfl
 ·rename_i a;cases hx with|str xs=>cases c with|str ys=>
  cases hv;refine⟨?_,by grind[Lh]⟩;simp only[Op.equalIn,uG,fN a,tn];have e:(xs.data.toList == ys.data.toList)=(xs == ys):=by
   rw[show(xs == ys)=(xs.data == ys.data) from rfl,Th,EE,EE];exact by simp_all
  simp_all
 ·cases hv
theorem Kl{xs ys:List V} {a VS:Array Value} (w:World) (g:Nat) (hx:gj Δ xs a.toList) (m:gj Δ ys VS.toList):∀{fs:List Field} {b:Bool},JY fs xs ys=some b->
  ((do
    for f in fs do
      if f.name≠ "_" then
        if !(<-Op.equalIn (g+1) f.type (<-part f.type a f.offset) (<-part f.type VS f.offset)) then return false
    pure true:Sem Bool)).run P0 w = .ok b w
 |[],b,h=>by cases h;rfl
 | f ::fs,b,h=>by
   simp only[JY,gP,fj,wBh,SJ]at h;obtain⟨u,x,p,y,q,c,r,v⟩:=h;obtain⟨xv,i,j⟩:=hx.get _ _ (KZ p);obtain⟨n,k,l⟩:=m.get _ _ (KZ q);obtain⟨z,o⟩:=zaE w g j l r;have s:(part f.type a f.offset).run P0 w = .ok xv w:=by
     have d:a[f.offset]? =some xv:=by simpa using i
     simp only[part,uG,Et o,tn,O8,if_false];simp[d]
   have t:(part f.type VS f.offset).run P0 w = .ok n w:=by
     have e:VS[f.offset]? =some n:=by simpa using k
     simp only[part,uG,Et o,tn,O8,if_false];simp[e]
   have A:=λ{b}=>Kl w g hx m (fs:=fs) (b:=b);cases c <;> simp_all
theorem za2{ty:Nat} {xs ys:List V} {xv a:Value} {b:Bool} (w:World) (hx:fG Δ (.agg xs) xv) (c:fG Δ (.agg ys) a) (hv:Wa ty xs ys=some b) :
  (Op.equal ty xv a).run P0 w = .ok b w/\(∀op X Y,(eqGuard op ty X Y xv a).run P0 w = .ok () w)/\
   (binOp .eql ty xv a)=(do pure (.bool (<-Op.equal ty xv a)))/\(binOp .neq ty xv a)=(do pure (.bool (!(<-Op.equal ty xv a)))):=by
 cases hx with|agg _ xs' hx=>cases c with|agg _ VS c=>
 unfold Wa at hv;split at hv
 ·rename_i fs e;simp only[gP,wBh]at hv;obtain⟨hs,f,hv⟩:=hv;refine⟨?_,λop X Y=>?_,rfl,rfl⟩
  ·have d:=Kl w 9998 hx c hv;show(Op.equalIn (9999+1) ty (.agg xs') (.agg VS)).run P0 w=_;rw[Op.equalIn];simp only[uG,fN e,tn,run_program,hs,O8,if_false,Jh,<-Array.forIn_toList]at d⊢;exact d
  ·cases op <;> unfold eqGuard <;> dsimp only <;> simp only[wCA,wBg,O8,if_true,if_false] <;> first
    |rfl
    |simp_all
 ·cases hv
theorem Zj{op:BinOp} {ty:Nat} {X Y:Operand} {x y v:V} {xv a:Value} (w:World) (hx:fG Δ x xv) (i:fG Δ y a) (hv:eJ op ty x y=some v) :
  ∃r,(do eqGuard op ty X Y xv a;binOp op ty xv a:Sem Value).run P0 w = .ok r w/\fG Δ v r:=by
 unfold eJ at hv;split at hv
 ·rename_i k p k' q;cases hx;cases i;have j:=Gl (op:=op) (ty:=ty) (X:=X) (Y:=Y) (y:= .int k' q) w (x:= .int k p) (by simp) (by simp);split at hv
  ·obtain⟨r,m,e⟩:=Vk (k':=k') ty w hv
   simp_all
  ·rename_i hs;rw[gP]at hv;obtain⟨hk,hv⟩:=hv;obtain rfl:=IS hk;obtain⟨r,m,e⟩:=Zb ty w hs hv
   simp_all
 ·cases hx with|str xs=>cases i with|str ys=>
  have j:=Gl (op:=op) (ty:=ty) (X:=X) (Y:=Y) (y:= .string ys) w (x:= .string xs) (by simp) (by simp);obtain⟨r,m,e⟩:=YT ty w hv
  simp_all
 ·have g:∀f,Vo ty f x y=some v->∃b,(Op.equal ty xv a).run P0 w = .ok b w/\(∀op X Y,(eqGuard op ty X Y xv a).run P0 w = .ok () w)/\
    (binOp .eql ty xv a)=(do pure (.bool (<-Op.equal ty xv a)))/\(binOp .neq ty xv a)=(do pure (.bool (!(<-Op.equal ty xv a))))/\v = .bool (Bool.rec (motive:=λ_=>Bool) b (!b) f):=by
   clear hv;intro f c;unfold Vo zaz at c;rw[fj]at c;obtain⟨b,hb,c⟩:=c;split at hb
   ·obtain⟨l,h,n,o⟩:=za2 w hx i hb
    simp_all
   unfold WU at hb;split at hb
   ·rename_i d s;obtain⟨l,h,n,o⟩:=YM w s hx i hb
    simp_all
   ·cases hb
  split at hv
  ·obtain⟨b,l,h,n,_,rfl⟩:=g false hv;have j:=h .eql X Y;exact⟨.bool b,by simp_all,.bool b⟩
  ·obtain⟨b,l,h,_,o,rfl⟩:=g true hv;have j:=h .neq X Y;exact⟨.bool (!b),by simp_all,.bool _⟩
  ·cases hv
theorem zaM{op:UnOp} {x v:V} {xv:Value} (w:World) (hx:fG Δ x xv) (hv:vC op x=some v):∃r,(Op.unary op xv).run P0 w = .ok r w/\fG Δ v r:=by
 unfold vC at hv;split at hv
 ·cases hv;cases hx;rw[ri];exact⟨_,rfl,.int _ _⟩
 ·cases hv;cases hx;exact⟨_,rfl,.bool _⟩
 ·simp only[hint]at hv;cases hv;cases hx;exact⟨_,rfl,.int _ _⟩
 ·cases hv
theorem X3{src dst:Nat} {p:PF} {xv:Value} {v:V} (w:World) (i:¬∃e,P0.underlying src=some (.slice e)/\P0.underlying dst=some .string) (d:∀v,p.f t h=some v->fG Δ v xv) (hv:(Jb src dst p).f t h=some v) :
  ∃r,(convert src dst xv).run P0 w = .ok r w/\fG Δ v r:=by
 unfold Jb at hv;split at hv
 ·rename_i k' k hs g;rw[fj]at hv;obtain⟨x,b,a⟩:=hv;have c:=d _ b;split at a
  ·cases a;cases c;rw[ri];exact⟨_,by simp_all[convert,fN,Conv.intToInt],.int _ _⟩
  ·cases a
 ·rename_i hs g;rw[fj]at hv;obtain⟨x,b,a⟩:=hv;have c:=d _ b;split at a
  ·cases a;cases c
   simp_all[convert,fN]
  ·cases a
 ·simp_all
 ·cases hv
theorem K3{ty:Nat} {cs:List V} {ot:Array Value} {off:Nat} {v:V} (w:World) (hc:gj Δ cs ot.toList) (hv:QC ty cs off=some v) :
  ∃r,(part ty ot off).run P0 w = .ok r w/\fG Δ v r:=by
 unfold QC at hv
 cases ha:Lh ty with
 |none=>simp_all
 |some b=>cases b with
 | true =>
   simp only[ha]at hv
   cases hm:wZ ty with
   |none=>simp_all
   | some m=>
     simp only[hm,fj]at hv;obtain⟨l,d,e⟩:=hv;cases e;obtain⟨f,g⟩:=sub_eq d;refine⟨.agg (ot.extract off (off+m)),by simp_all[part,Et,tv],.agg _ _ (gj.NG ?_ ?_)⟩
     ·have a:=hc.length
      have:∀i,i<m->off+i<cs.length:=by grind
      simp only[Yg]at a;simp only[Yg,Array.size_extract,f];rcases Nat.eq_zero_or_pos m with h0|h0
      ·omega
      ·have:=this (m-1) (by omega)
       omega
     ·intro i v hi
      have c:i<m:=by have:=(jk.1 hi).1;omega
      rw[g i c]at hi;obtain⟨x,hx,h⟩:=hc.get _ _ hi
      simp_all
 | false=>
   simp only[ha]at hv;obtain⟨x,hx,h⟩:=hc.get _ _ (KZ hv)
   simp_all[part,Et]
theorem Lu{s f:Nat} {a:Field} (h:JU s f=some a):∃fs,P0.underlying s=some (.struct fs)/\fs[f]? =some a:=by
 grind[JU]
theorem Mm{s f:Nat} {p:PF} {xv:Value} {v:V} (w:World) (b:∀v,p.f t h=some v->fG Δ v xv) (hv:(pA s p f).f t h=some v) :
  ∃r,(Instr.fieldAt s xv f).run P0 w = .ok r w/\fG Δ v r:=by
 unfold pA at hv;split at hv
 ·rename_i c e;obtain⟨fs,g,a⟩:=Lu e;split at hv
  ·rename_i m i;simp only[fj,uE]at hv;obtain⟨x,j,l,off,rfl,k⟩:=hv;cases k
   cases b _ j with
   | ptr _ _ d n=>
     refine⟨_,by simp[Instr.fieldAt,fN g,a,Instr.sureAddr,fieldPlace,tv i,rl];rfl,?_⟩;have:=fG.ptr (Δ:=Δ) l (off+c.offset) d n
     grind
  ·cases hv
 ·cases hv
theorem UT{s f:Nat} {p:PF} {xv:Value} {v:V} (w:World) (d:∀v,p.f t h=some v->fG Δ v xv) (hv:(FP s p f).f t h=some v) :
  ∃r,(Instr.field s xv f).run P0 w = .ok r w/\fG Δ v r:=by
 unfold FP at hv;split at hv
 ·rename_i j e;obtain⟨fs,k,g⟩:=Lu e;rw[fj]at hv;obtain⟨x,i,a⟩:=hv;have b:=d _ i;split at a
  ·cases b with
   | agg _ ot hc=>
     obtain⟨r,b,c⟩:=K3 w hc a
     simp_all[Instr.field,fN,asAgg]
  ·cases a
 ·cases hv
theorem Mn{ty:Nat} {p q:PF} {xv u:Value} {v:V} (w:World) (y:∀v,p.f t h=some v->fG Δ v xv) (hq:∀v,q.f t h=some v->fG Δ v u)
  (hv:(pR ty p q).f t h=some v):∃r,(Instr.indexAt ty xv u).run P0 w = .ok r w/\fG Δ v r:=by
 unfold pR at hv;split at hv
 ·rename_i c e;split at hv
  ·rename_i m g;simp only[fj,Hc]at hv;obtain⟨x,j,i,k,kd,n,rfl,b⟩:=hv;have hx:=y _ j;cases hq _ k;split at b
   ·rename_i l off len;rw[gP]at b;obtain⟨a,b⟩:=b;cases b;rw[O6]at a
    cases hx with
    | slice _ _ _ cap o d s hk A z=>
      rcases z with⟨rfl,_,_⟩|⟨hc,_⟩
      ·refine⟨_,by simp[Instr.indexAt,asIntOf,fN e,tv g,a,rl];rfl,?_⟩
       have:=fG.ptr (Δ:=Δ) l (off+n*m) d s
       grind
      ·omega
   ·cases b
  ·cases hv
 ·rename_i len c e;split at hv
  ·rename_i m g;simp only[fj,Hc,uE,gP]at hv;obtain⟨x,j,i,k,kd,n,rfl,l,off,rfl,a,b⟩:=hv;cases b;rw[O6]at a;cases hq _ k
   cases y _ j with
   | ptr _ _ d s=>
     refine⟨_,by simp[Instr.indexAt,asIntOf,fN e,tv g,a,rl,Instr.sureAddr];rfl,?_⟩;have:=fG.ptr (Δ:=Δ) l (off+n*m) d s
     grind
  ·cases hv
 ·cases hv
theorem UC{ty:Nat} {p q:PF} {xv l:Value} {v:V} (w:World) (n:∀v,p.f t h=some v->fG Δ v xv) (hq:∀v,q.f t h=some v->fG Δ v l)
  (hv:(Gt ty p q).f t h=some v):∃r,(Instr.index ty xv l).run P0 w = .ok r w/\fG Δ v r:=by
 unfold Gt at hv;split at hv
 ·rename_i len o u;split at hv
  ·rename_i m y;simp only[fj,Hc]at hv;obtain⟨x,j,i,k,kd,d,rfl,a⟩:=hv;have hx:=n _ j;cases hq _ k;split at a
   ·rw[gP]at a;obtain⟨c,a⟩:=a;rw[O6]at c
    cases hx with
    | agg _ ot hc=>
      obtain⟨r,z,g⟩:=K3 w hc a;refine⟨r,?_,g⟩;have e:(Nat.mul d m)=d*m:=rfl
      simp_all[Instr.index,asIntOf,fN,tv]
   ·cases a
  ·cases hv
 ·rename_i u;simp only[fj,Hc]at hv;obtain⟨x,j,i,k,kd,d,rfl,a⟩:=hv;have hx:=n _ j;cases hq _ k;split at a
  ·rw[fj]at a;obtain⟨b,hb,a⟩:=a;cases a
   cases hx with
   | str s=>
     rw[List.head?_drop]at hb;have c:d<s.size:=(jk.1 hb).1;have hs:s[d]? =some b:=by
       rw[getElem?_pos s d c];have:=(jk.1 hb).2;simp only[Array.getElem_toList]at this;rw[<-this];rfl
     exact⟨.int .u8 b.toNat,by simp_all[Instr.index,asIntOf,fN],.int _ _⟩
  ·cases a
 ·cases hv
end
section
variable{Δ:Env}{h:Hp}{w:World}{n:Nat}{t:Tm}{a:Act}
inductive Bw (Δ:Env):Option V->Option Value->Prop
 |none:Bw Δ none none
 |some (v:V) (a:Value) (h:fG Δ v a):Bw Δ (some v) (some a)
theorem J6(b:WR Δ h w) (c:TR Δ n t a) {x:Option Operand} {v:Option V} (hv:G8 x t h=some v):Bw Δ v (x.map a.eval):=by
 cases x with
 |none=>simp only[G8]at hv;cases hv;exact .none
 | some x=>
   simp only[G8,fj]at hv;obtain⟨y,d,e⟩:=hv;cases e;exact .some _ _ (kE b c d)
theorem DW{d m:Nat} {lo:Option V} (hv:hbound d lo=some m):(lo=none/\m=d)\/∃k,lo=some (.int k (.ofNat m)):=by
 unfold hbound at hv;split at hv
 ·simp_all
 ·simp_all
 ·cases hv
theorem Hq{k:IntKind} {m y:Nat} {c:BoundsCode} (w:World) (a:m<=y):(Instr.sliceBound (.int k (.ofNat m)) y c).run P0 w = .ok m w:=by
 have b:(0:Int)<=Int.ofNat m/\(Int.ofNat m)<=(y:Int):=by simp_all
 simp_all[Instr.sliceBound,asIntOf,uG,Jh,tn,if_pos]
theorem Iu{isS:Bool} {len cap l u:Nat} {lo hi:Option V} {b c:Option Value} (w:World) (d:Bw Δ lo b) (a:Bw Δ hi c)
  (h:hbound 0 lo=some l) (g:hbound len hi=some u) (e:l<=u) (f:u<=cap):(Instr.sliceBounds isS len cap b c none).run P0 w = .ok (l,u,cap) w:=by
 rcases DW h with⟨rfl,rfl⟩|⟨k,rfl⟩
 ·cases d;rcases DW g with⟨rfl,rfl⟩|⟨k,rfl⟩
  ·cases a;rfl
  ·cases a with|some _ _ hr=>
   cases hr
   grind[Instr.sliceBounds,uG,Jh,tn,Hq]
 ·cases d with|some _ _ hr=>
  cases hr;rcases DW g with⟨rfl,rfl⟩|⟨k,rfl⟩
  ·cases a
   grind[Instr.sliceBounds,uG,Jh,tn,Hq]
  ·cases a with|some _ _ hr=>
   cases hr;simp only[Instr.sliceBounds,uG,Jh,tn,Hq w f,Hq w e]
theorem RT(M:WR Δ h w) {ty c size:Nat} {x v:V} {xv:Value} {lo hi:Option V} {i j:Option Value} (hx:fG Δ x xv) (k:Bw Δ lo i) (m:Bw Δ hi j)
  (S:P0.underlying ty=some (.slice c)) (hs:wZ c=some (size+1)) (hv:jc (Nat.succ size) x lo hi h=some v) :
  ∃r,(Instr.sliceAt ty xv i j none).run P0 w = .ok r w/\fG Δ v r:=by
 unfold jc at hv;split at hv
 ·rename_i lc off len;rw[km]at hv;obtain⟨e,sz,live,ro,cs,N,hv⟩:=hv;simp only[gP,fj]at hv;obtain⟨y,l,z,u,A,B,a,hv⟩:=hv;cases hv;have f:=zB y;have p:=Jz B
  cases hx with
  | slice _ _ _ cap o d C hk D E=>
    obtain ⟨ob,q,O⟩:=M.obj lc d C;rw[N]at q;cases q;obtain⟨_,g,P,_,_⟩:=O;have F:u<=cap:=by
      rw[Rc]at a;rcases a with a|a
      ·exact BX (Jz a) D
      ·have L:off+u*(size+1)<=cs.length:=Jz a
       rcases E with⟨_,hb,_⟩|⟨hc,hb⟩
       ·rw[g,<-f]at hb
        have:u*(size+1)<=cap*(size+1):=by have e:Nat.succ size=size+1:=rfl;rw[e]at hb;omega
        exact Nat.le_of_mul_le_mul_right this (by omega)
       grind
    have s:=Iu (isS:=true) (len:=len) (cap:=cap) w k m z A p F;have Q:l<=cap:=by omega
    refine⟨.slice (if cap=l then some ⟨d.b,o,none⟩ else some ⟨d.b,o+l*(size+1),none⟩) (u-l) (cap-l),?_,?_⟩
    ·simp_all[Instr.sliceAt,uG,fN,tn,Instr.slice,tv,rl]
    ·have t:cap*d.sz=l*d.sz+(cap-l)*d.sz:=by rw[<-VQ];congr 1;omega
     have R:d.sz=size+1:=by rw[g,<-f]
     split
     ·rename_i G
      refine .slice lc (Nat.add off (Nat.mul l (Nat.succ size))) (Nat.sub u l) (cap-l) o d C hk ?_ (.inr ⟨by omega,?_⟩)
      ·simp_all
      grind
     ·rename_i G
      refine .slice lc (Nat.add off (Nat.mul l (Nat.succ size))) (Nat.sub u l) (cap-l) (o+l*(size+1)) d C hk ?_ (.inl ?_)
      ·simp_all
      ·show o+l*(size+1)=d.base+(off+l*(size+1))/\d.n<=off+l*(size+1)+(cap-l)*d.sz/\d.base+(off+l*(size+1))+(cap-l)*d.sz<=d.Vw
       rcases E with⟨E,hb,H⟩|⟨hc,hb⟩
       ·rw[R]at t hb H⊢
        omega
       ·omega
 ·simp only[gP,fj]at hv;obtain⟨l,z,u,A,D,I,hv⟩:=hv;cases hv;have J:=zB D;have K:=zB I;subst J;subst K;cases hx;have s:=Iu (isS:=true) (len:=0) (cap:=0) w k m z A (jb _) (jb _);exact⟨.slice none 0 0,by simp_all[Instr.sliceAt,fN,Instr.slice,tv],.ee⟩
 ·cases hv
theorem Rk{ty:Nat} {x v:V} {xv:Value} {lo hi:Option V} {a b:Option Value} (w:World) (hx:fG Δ x xv) (c:Bw Δ lo a) (d:Bw Δ hi b)
  (j:P0.underlying ty=some .string) (hv:NP x lo hi=some v):∃r,(Instr.sliceAt ty xv a b none).run P0 w = .ok r w/\fG Δ v r:=by
 unfold NP at hv;split at hv
 ·simp only[gP,fj]at hv;obtain⟨l,h,u,i,e,f,hv⟩:=hv;cases hv
  cases hx with
  | str s=>
    have g:=Iu (isS:=false) (len:=s.size) (cap:=s.size) w c d h i (Jz e) (Jz f);refine⟨.string (s.extract l u),by simp_all[Instr.sliceAt,fN,Instr.slice],?_⟩;have:=fG.str (Δ:=Δ) (s.extract l u)
    simp_all
 ·cases hv
theorem Vs(b:WR Δ h w) (c:TR Δ n t a) {ty:Nat} {p:PF} {xv:Value} {lo hi:Option Operand} {v:V} (k:∀v,p.f t h=some v->fG Δ v xv)
  (hv:(IP ty p lo hi).f t h=some v):∃r,(Instr.sliceAt ty xv (lo.map a.eval) (hi.map a.eval) none).run P0 w = .ok r w/\fG Δ v r:=by
 unfold IP at hv;split at hv
 ·rename_i d;simp only[fj]at hv;obtain⟨x,e,l,g,u,i,j⟩:=hv;exact Rk w (k _ e) (J6 b c g) (J6 b c i) d j
 ·rename_i o d;split at hv
  ·rename_i m q;simp only[fj]at hv;obtain⟨x,e,l,g,u,i,j⟩:=hv;exact RT b (k _ e) (J6 b c g) (J6 b c i) d q j
  ·cases hv
 ·cases hv
theorem Iv{ty:Nat} {x y:V} {xv a:Value} {b:Bool} (hx:fG Δ x xv) (c:fG Δ y a) (hv:BM ty x y=some b) :
  (∀f w,(Op.equalIn (f+1) ty xv a).run P0 w = .ok b w)/\(∀d,P0.underlying ty=some d->Instr.sameNow d xv a=some b):=by
 unfold BM at hv;split at hv
 ·rename_i e;split at hv
  ·rw[gP]at hv;obtain⟨hk,hv⟩:=hv;cases hv;obtain rfl:=IS hk;cases hx;cases c
   grind[run_equalIn_int,Instr.sameNow]
  ·cases hv
 ·rename_i e;split at hv
  ·cases hv;cases hx with|str xs=>cases c <;> grind[run_equalIn_string,ByteArray.toList_eq,Instr.sameNow,beq_toListBytes]
  ·cases hv
 ·rename_i e;split at hv
  ·cases hv;cases hx;cases c
   grind[run_equalIn_bool',Instr.sameNow]
  ·cases hv
 ·cases hv
theorem UI{ty:Nat} (a:B9 ty=true):Lh ty=some false:=by
 grind[B9,Lh]
theorem IW{ty:Nat} {cs:List V} {ot:Array Value} {off:Nat} {v:V} (w:World) (a:B9 ty=true) (hc:gj Δ cs ot.toList) (hv:xM cs off=some v) :
  ∃x,(part ty ot off).run P0 w = .ok x w/\fG Δ v x:=
 K3 w hc (by grind[QC,UI])
theorem Pp:∀{fs:List Field} {x y:List V} {xs ys:Array Value} {b:Bool},(∀f∈fs,B9 f.type=true/\f.name≠ "_")->gj Δ x xs.toList->gj Δ y ys.toList->
  I5 fs x y=some b->∀a w,(Op.eqFields (a+1) xs ys fs).run P0 w = .ok b w
 |[],x,y,xs,ys,b,_,_,_,hv,a,w=>by simp[I5]at hv;subst hv;rfl
 | f::fs,x,y,xs,ys,b,hf,hx,hy,hv,a,w=>by
   simp only[I5,fj]at hv;obtain⟨p,i,q,j,e,k,l⟩:=hv;obtain⟨c,d⟩:=hf f (by simp);obtain⟨o,m,g⟩:=IW w c hx i;obtain⟨r,hq,h⟩:=IW w c hy j;have n:=(Iv g h k).1 a w;simp only[Op.eqFields];rw[if_pos d];simp only[uG,m,hq,n,tn]
   cases e with
   |false=>simp_all
   |true=>exact Pp (by simp_all) hx hy l a w
theorem Nk{ty:Nat} (a:GA ty=some none):B9 ty=true:=by
 grind[GA,B9]
theorem Ki{ty:Nat} {fs:List Field} (a:GA ty=some (some fs)):∃b,P0.underlying ty=some (.struct b)/\b.toList=fs/\P0.stoodInHeld ty=false/\∀f∈fs,B9 f.type=true/\f.name≠ "_" :=by
 unfold GA at a;split at a
 ·cases a
 ·cases a
 ·cases a
 ·rename_i b c;split at a
  ·grind
  ·cases a
 ·cases a
theorem XI{ty:Nat} {d:Option (List Field)} {x y:V} {xv g:Value} {b:Bool} (i:GA ty=some d) (hx:fG Δ x xv) (e:fG Δ y g) (hv:L3 ty d x y=some b) (w:World) :
  (Op.equal ty xv g).run P0 w = .ok b w:=by
 cases d with
 |none=>exact(Iv hx e hv).1 9999 w
 | some fs=>
   obtain⟨f,h,a,hs,j⟩:=Ki i;simp only[L3]at hv;split at hv
   ·cases hx with|agg _ xs hx=>cases e with|agg _ ys e=>
    have c:P0.fieldsOf ty=f:=by simp[Program.fieldsOf,h]
    have:=run_equalIn_struct (P:=P0) w 9999 ty xs ys (by rw[c];exact h) hs;rw[c,a]at this;exact this.trans (Pp j hx e hv 9998 w)
   ·cases hv
def Y8(Δ:Env):Option (Nat×V)->Option (Nat×Value)->Prop
 |none,none=>True
 |some (i,v),some (i',v')=>i=i'/\fG Δ v v'
 |_,_=>False
theorem Fq{ty:Nat} {d:Option (List Field)} {k:V} {kv:Value} (f:GA ty=some d) (hk:fG Δ k kv) (w:World):∀{c:List (V×V×Nat)} {a:List MapEntry} {i:Nat} {r:Option (Nat×V)},
  rK Δ c a->po ty d k c i=some r->∃r',(Instr.findAsking ty kv a i).run P0 w = .ok r' w/\Y8 Δ r r'
 |_,_,i,r,.nil,hv=>by simp[po]at hv;subst hv;exact⟨none,rfl,trivial⟩
 | _,_,i,r,.cons k' v n e c a hk' hv' hb hs,hv=>by
   simp only[po,fj]at hv;obtain⟨b,h,g⟩:=hv;have j:=XI f hk hk' h w;simp only[Instr.findAsking,uG,j,tn]
   cases b with
   |true=>cases g;exact⟨some (i,e.val),rfl,rfl,hv'⟩
   |false=>exact Fq f hk w hs g
theorem Lz{ty:Nat} {k:V} {kv:Value} {ds:TypeDesc} (d:P0.underlying ty=some ds) (hk:fG Δ k kv):∀{c:List (V×V×Nat)} {a:List MapEntry} {i:Nat} {r:Option (Nat×V)},
  rK Δ c a->po ty none k c i=some r->∃r',Instr.findNow ds kv a i=some r'/\Y8 Δ r r'
 |_,_,i,r,.nil,hv=>by simp[po]at hv;subst hv;exact⟨none,rfl,trivial⟩
 | _,_,i,r,.cons k' v n e c a hk' hv' hb hs,hv=>by
   simp only[po,fj]at hv;obtain⟨b,g,f⟩:=hv;have h:=(Iv hk hk' g).2 ds d;simp only[Instr.findNow,h]
   cases b with
   |true=>cases f;exact⟨some (i,e.val),rfl,rfl,hv'⟩
   |false=>exact Lz d hk hs f
theorem Be{ty:Nat} {d:Option (List Field)} {k:V} {kv:Value} (c:GA ty=some d) (hk:fG Δ k kv) (w:World) {b:List (V×V×Nat)} {a:List MapEntry} {r:Option (Nat×V)}
  (h:rK Δ b a) (hv:po ty d k b 0=some r):∃r',(Instr.findKey ty kv a).run P0 w = .ok r' w/\Y8 Δ r r':=by
 cases d with
 | none=>
   have j:=Nk c;unfold B9 at j
   cases i:P0.underlying ty with
   |none=>simp_all
   | some ds=>
     obtain⟨r',l,m⟩:=Lz i hk h hv
     simp_all[Instr.findKey,fN]
 | some fs=>
   obtain⟨o,i,_,_,_⟩:=Ki c
   cases h with
   | nil=>
     simp[po]at hv;subst hv
     exact⟨none,by simp_all[Instr.findKey,fN,Instr.findNow],trivial⟩
   | cons k' v n e b a f g hb hs=>
     obtain⟨r',l,m⟩:=Fq c hk w (.cons k' v n e b a f g hb hs) hv
     simp_all[Instr.findNow,Instr.sameNow,Instr.findKey,uG,fN,tn]
theorem CN{em:Bool} {q:Nat} {cs:List V} {ot:Array Value} (w:World) (hq:0<q) (hc:gj Δ cs ot.toList):∀(fs:List Field),(∀f∈fs,B9 f.type=true/\f.name≠ "_")->
  (fs.all λf=>(xM cs f.offset).isSome)=true->
  (forIn fs PUnit.unit (λf _=>if f.name≠ "_" then do
    let x <-part f.type ot f.offset
    Instr.checkKey em q f.type x
    pure (ForInStep.yield PUnit.unit)
   else pure (ForInStep.yield PUnit.unit):Field->PUnit->Sem (ForInStep PUnit))).run P0 w = .ok PUnit.unit w
 |[],_,_=>rfl
 | f ::fs,hf,hh=>by
   obtain⟨m,rfl⟩:∃m,q=m+1:=by simp_all
   obtain ⟨a,b⟩:=hf f (by simp);simp only[Y9,uF]at hh;obtain⟨v,hv⟩:=Option.isSome_iff_exists.1 hh.1;obtain⟨x,hx,d⟩:=IW w a hc hv;have c:(Instr.checkKey em (m+1) f.type x).run P0 w = .ok () w:=by
     unfold B9 at a;split at a
     ·simp_all[Instr.checkKey,fN]
     ·simp_all[Instr.checkKey,fN]
     ·simp_all[Instr.checkKey,fN]
     ·cases a
   have e:=CN (em:=em) (q:=m+1) w hq hc fs (by simp_all) hh.2
   simp_all
theorem wM{ty:Nat} {d:Option (List Field)} {k:V} {kv:Value} (em:Bool) (q:Nat) (hq:0<q) (w:World) (e:GA ty=some d) (hk:fG Δ k kv) (c:Gy d k=true) :
  (Instr.checkKey em (q+1) ty kv).run P0 w = .ok () w:=by
 cases d with
 | none=>
   have a:=Nk e;unfold B9 at a;split at a
   ·simp_all[Instr.checkKey,fN]
   ·simp_all[Instr.checkKey,fN]
   ·simp_all[Instr.checkKey,fN]
   simp_all
 | some fs=>
   obtain⟨f,h,b,_,g⟩:=Ki e;simp only[Gy]at c;split at c
   ·cases hk with
    | agg cs ot hc=>
      have:=CN (em:=em) (q:=q) w hq hc fs g c;rw[<-b,Array.forIn_toList]at this
      simp_all[Instr.checkKey,uG,fN,tn]
   ·cases c
end
section
variable{Δ:Env}{h:Hp}{w:World}{n:Nat}{t:Tm}{a:Act}
theorem FI(g:WR Δ h w) {l:Nat} {d:D} (i:Δ l=some d) {e:List (V×V×Nat)} {c:Nat} (j:h.get l=some (.map e c)) :
  ∃a,w.heap[d.b]? =some (.map a c)/\rK Δ e a.toList:=by
 obtain⟨o,f,k⟩:=g.obj l d i;rw[j]at f;cases f;obtain⟨_,_,_,a,m,n⟩:=k
 simp_all
theorem run_getObj_map{r:Nat}{a:Array MapEntry}{c:Nat}(b:w.heap[r]? =some (.map a c)):(getObj r).run P0 w = .ok (.map a c) w:=by grind[getObj,Sem.run]
theorem Pu{z:V} {a:Value} {ok:Bool} {r:Option (Nat×V)} {r':Option (Nat×Value)} (c:fG Δ z a) (b:Y8 Δ r r') :
  fG Δ (found z ok r) (match r' with
   |some (_,v)=>if ok then .tuple #[v,.bool true] else v
   |none=>if ok then .tuple #[a,.bool false] else a):=by
 cases r with
 | none=>cases r' with
   |none=>cases ok
          ·exact c
          ·exact .tuple _ _ (.cons _ _ _ _ c (.one (.bool false)))
   |some _=>cases b
 | some x=>cases r' with
   |none=>cases b
   | some d=>
     obtain⟨_,hv⟩:=b;cases ok
     ·exact hv
     ·exact .tuple _ _ (.cons _ _ _ _ hv (.one (.bool true)))
theorem SL(A:WR Δ h w) {s:Nat} {p q:PF} {ok:Bool} {mv kv:Value} {v:V} (B:∀v,p.f t h=some v->fG Δ v mv) (hq:∀v,q.f t h=some v->fG Δ v kv)
  (hv:(Es s p q ok).f t h=some v):∃r,(Instr.lookup s mv kv ok).run P0 w = .ok r w/\fG Δ v r:=by
 unfold Es at hv;split at hv
 ·rename_i J K u;split at hv
  ·rename_i d z i C;obtain⟨L,D,e,_⟩:=yk C;simp only[fj,gP]at hv;obtain⟨m,E,k,F,x,a⟩:=hv;have y:=B _ E;have hk:=hq _ F;split at a
   ·cases a;cases y;have g:=wM true 9999 (by omega) w i hk x;have b:=Be i hk w rK.nil (r:=none) (by rfl);obtain⟨r',b,j⟩:=b;have n:r' = none:=by cases r' <;> first|rfl|cases j
    subst n;refine⟨_,?_,Pu (ok:=ok) (r:=none) (r':=none) (e Δ) trivial⟩;simp only[Instr.lookup,uG,fN u,tn,Jh]
    simp_all
   ·simp only[yK,fj]at a;obtain⟨M,c,G,r,b,a⟩:=a;cases a
    cases y with
    | map l d' H=>
      obtain⟨o,hb,I⟩:=FI A H G;obtain⟨r',b,j⟩:=Be i hk w I b;have g:=wM o.isEmpty 9999 (by omega) w i hk x;refine⟨_,?_,Pu (ok:=ok) (e Δ) j⟩;simp only[Instr.lookup,uG,fN u,tn,Jh,run_getObj_map hb,g,b]
      grind[uG,tn,Jh]
   ·cases a
  ·cases hv
 ·cases hv
theorem ZM(y:WR Δ h w) {ty:Nat} {j:Array Nat} (q:j[0]? =some ty) {rt:Nat} {p:PF} {xv:Value} {v:V} (u:∀v,p.f t h=some v->fG Δ v xv)
  (hv:(hlen ty p).f t h=some v):∃r,(Builtin.len_ j rt #[xv]).run P0 w = .ok r w/\fG Δ v r:=by
 unfold hlen at hv;split at hv
 ·rename_i o;rw[fj]at hv;obtain⟨x,i,g⟩:=hv;have hx:=u _ i;split at g
  ·cases g
   cases hx with
   |str s=>exact⟨goInt s.size,by simp_all[Builtin.len_,fN],.int _ _⟩
  ·cases g
 ·rename_i e o;rw[fj]at hv;obtain⟨x,i,g⟩:=hv;have hx:=u _ i;split at g
  ·rename_i lc off m;cases g;cases hx;exact⟨goInt m,by simp_all[Builtin.len_,fN],.int _ _⟩
  ·cases g;cases hx;exact⟨goInt 0,by simp_all[Builtin.len_,fN],.int _ _⟩
  ·cases g
 ·rename_i m e o;rw[fj]at hv;obtain⟨x,i,g⟩:=hv;cases g;exact⟨goInt m,by simp_all[Builtin.len_,fN],.int _ _⟩
 ·rename_i k e o;rw[fj]at hv;obtain⟨x,i,g⟩:=hv;have hx:=u _ i;split at g
  ·cases g;cases hx;exact⟨goInt 0,by simp_all[Builtin.len_,fN],.int _ _⟩
  ·rw[yK]at g;obtain⟨z,c,A,g⟩:=g;cases g
   cases hx with
   | map l d B=>
     obtain ⟨n,hb,C⟩:=FI y B A;have hlen:z.length=n.size:=by
       have:∀{a:List (V×V×Nat)} {b:List MapEntry},rK Δ a b->a.length=b.length:=λh=>by induction h <;> simp_all
       simpa using this C
     refine⟨goInt n.size,by simp[Builtin.len_,q,fN o,run_getObj_map hb],?_⟩;rw[hlen];exact .int _ _
  ·cases g
 ·cases hv
theorem On{b:Bool} (w:World):∀{l:List V} {c:List Value} {x:V} {a:Value} {v:V},fG Δ x a->gj Δ l c->Oy b x l=some v->
  ∃r,(c.foldlM (if b then Builtin.max2 else Builtin.min2) a).run P0 w = .ok r w/\fG Δ v r
 |[],_,x,a,v,hx,hl,hv=>by simp[Oy]at hv;subst hv;cases hl;simp_all
 | y ::l,_,x,a,v,hx,hl,hv=>by
   cases hl with
   | cons _ h _ c e hs=>
     unfold Oy at hv;split at hv
     ·simp_all
     ·rename_i k p k' q r f
      cases f;cases hx;cases e;obtain⟨d,i,g⟩:=On w (.int k _) hs hv;refine⟨d,?_,g⟩;rw[List.foldlM_cons];simp only[uG];cases b
      ·simp_all[O8,if_false,Builtin.min2,Jh,tn]
      simp_all[if_true,Builtin.max2,Jh,tn]
     ·cases hv
theorem Ln{ty:Nat} (hi:isIface ty=some false):∃d,P0.underlying ty=some d/\∀m,d≠ .interface m:=by
 grind[isIface]
theorem SA{p:PF} {a xT:Nat} {ok:Bool} {xv:Value} {v:V} (w:World) (l:∀v,p.f t h=some v->fG Δ v xv)
  (hv:(Ei p a ok).f t h=some v):∃r,(Instr.typeAssert xv xT a ok).run P0 w = .ok r w/\fG Δ v r:=by
 unfold Ei at hv;split at hv
 ·rename_i z hi m;obtain⟨k,n,c,_⟩:=yk m;obtain⟨d,g,q⟩:=Ln hi;rw[fj]at hv;obtain⟨x,o,b⟩:=hv;have hx:=l _ o;split at b
  ·rename_i u y;cases b
   cases hx with
   | iface _ _ i j=>
     rw[Uh];by_cases e:u=a
     ·have e':Nat.beq u a=true:=by rw[e];exact Yd _
      rw[if_pos e'];refine⟨.tuple #[i,.bool true],?_,.tuple _ _ (.cons _ _ _ _ j (.one (.bool true)))⟩;simp only[Instr.typeAssert,uG,fN g,tn]
      simp_all
     ·have e':¬Nat.beq u a=true:=by simp_all
      rw[if_neg e'];refine⟨.tuple #[k,.bool false],?_,.tuple _ _ (.cons _ _ _ _ (c Δ) (.one (.bool false)))⟩;simp only[Instr.typeAssert,uG,fN g,tn]
      simp_all
  ·rename_i u y;rw[gP]at b;obtain⟨e,b⟩:=b;cases b;have e:=zB e
   cases hx with
   | iface _ _ i j=>
     refine⟨i,?_,j⟩;simp only[Instr.typeAssert,uG,fN g,tn]
     simp_all
  ·cases b;cases hx;refine⟨.tuple #[k,.bool false],?_,.tuple _ _ (.cons _ _ _ _ (c Δ) (.one (.bool false)))⟩;simp only[Instr.typeAssert,uG,fN g,tn]
   simp_all
  ·cases b
 ·cases hv
theorem XU{c p q:PF} {a pv d:Value} {v:V} (w:World) (hc:∀v,c.f t h=some v->fG Δ v a) (i:∀v,p.f t h=some v->fG Δ v pv) (hq:∀v,q.f t h=some v->fG Δ v d)
  (hv:(Ju c p q).f t h=some v):∃r,(do pure (Next.value (if <-asBool a then pv else d)):Sem Next).run P0 w = .ok (.value r) w/\fG Δ v r:=by
 unfold Ju at hv;simp only[fj]at hv;obtain⟨x,g,e⟩:=hv;have hx:=hc _ g;split at e
 ·rename_i b;cases hx;cases b
  ·simp_all[asBool]
  simp_all[asBool]
 ·cases e
theorem NR{p:PF} {x:Operand} {v:V} (w:World) (g:∀v,p.f t h=some v->fG Δ v (a.eval x)) (hv:(yh p).f t h=some v) {dst ty pos af gd} :
  (execOp a.eval {dst:=dst,op:= .nilCheck x,type:=ty,pos:=pos,after:=af,guard:=gd}).run P0 w = .ok (.value (a.eval x)) w/\fG Δ v (a.eval x):=by
 unfold yh at hv;rw[fj]at hv;obtain⟨y,e,b⟩:=hv;have c:=g _ e;simp only[execOp];generalize a.eval x=xv at c⊢;split at b
 ·cases b;cases c with|ptr _ _ d hd=>exact⟨rfl,.ptr _ _ d hd⟩
 ·cases b;cases c with|func _ _ _ p' q' e b=>exact⟨rfl,.func _ _ _ p' q' e b⟩
 ·cases b;cases c with|iface _ _ v' hv=>exact⟨rfl,.iface _ _ v' hv⟩
 ·cases b
theorem Q9{p:PF} {i:Nat} {xv:Value} {v:V} (w:World) (c:∀v,p.f t h=some v->fG Δ v xv) (hv:(CO p i).f t h=some v) :
  ∃r,(Instr.extract xv i).run P0 w = .ok r w/\fG Δ v r:=by
 unfold CO at hv;rw[fj]at hv;obtain⟨y,d,a⟩:=hv;have e:=c _ d;split at a
 ·cases e with
  | tuple vs g b=>
    obtain⟨x,hx,j⟩:=b.get _ _ (KZ a)
    simp_all[Instr.extract]
 ·cases a
theorem Ru{cs:List V} {xs:List Value} {s:List UInt8} (e:gj Δ cs xs) (hv:bytesOf cs=some s):xs=(s.map λb=>(b.toNat:Int)).map (Value.int .u8):=by
 induction cs generalizing xs s with
 |nil=>cases e;grind[bytesOf]
 | cons c cs g=>
   simp only[bytesOf,fj]at hv;obtain⟨b,a,l,h,i⟩:=hv;cases i
   cases e with
   | cons _ x _ xs hx d=>
     rw[g d h];unfold byteOf at a;split at a
     ·rename_i m
      rw[gP]at a;obtain⟨f,j⟩:=a;cases j;cases hx;have k:m<256:=by rw[O6]at f;exact f
      have:(UInt8.ofNat m).toNat=m:=by simp;omega
      grind
     ·cases a
theorem RD(l:List UInt8):∀(r:ByteArray),((l.map λb=>(b.toNat:Int)).foldl (λr n=>r.push (UInt8.ofNat n.toNat)) r).data.toList=r.data.toList++l:=by
 induction l <;> simp_all
theorem Lb{src dst e:Nat} (hs:P0.underlying src=some (.slice e)) (h:P0.underlying dst=some .string) (i:P0.underlying e=some (.int .u8)) {ad:Option Addr} {len cap:Nat} {cs:List V} {s:List UInt8}
  (hb:bytesOf cs=some s) (hc:∀b,ad=some b->∃xs,(loadCells b len).run P0 w = .ok (Array.mk xs) w/\gj Δ cs xs) (d:ad=none->s=[]) :
  ∃x,(convert src dst (.slice ad len cap)).run P0 w = .ok x w/\fG Δ (.str s) x:=by
 cases ad with
 | none=>
   cases d rfl
   exact⟨.string .empty,by simp_all[convert,fN,Conv.bytesToString],.str ByteArray.empty⟩
 | some b=>
   obtain⟨xs,c,f⟩:=hc b rfl;rw[Ru f hb]at c;have g:=run_bytesToString (P:=P0) w b len cap _ c;generalize hB:(List.foldl (λr n=>ByteArray.push r (UInt8.ofNat n.toNat)) ByteArray.empty (List.map (λb=>(b.toNat:Int)) s))=B at g;have a:B.data.toList=s:=by rw[<-hB,RD];rfl
   refine⟨.string B,?_,by rw[<-a];exact .str B⟩
   simp_all[convert,uG,fN,tn]
theorem tD(c:WR Δ h w) {l:Nat} {d:D} (e:Δ l=some d) {off m:Nat} {cs:List V} (hv:ET h l off m=some cs) :
  ∃xs,(loadCells ⟨d.b,d.base+off,none⟩ m).run P0 w = .ok (Array.mk xs) w/\gj Δ cs xs:=by
 obtain⟨a,g,f⟩:=G9 c e hv;exact⟨a.toList,by omega,f⟩
theorem QH{l off m:Nat} {cs:List V} (hv:ET h l off m=some cs):cs.length=m:=by
 grind[ET,km,gP,sub_eq]
theorem VC(B:WR Δ h w) {src dst e:Nat} {p:PF} {xv:Value} {v:V} (hs:P0.underlying src=some (.slice e)) (c:P0.underlying dst=some .string) (j:∀v,p.f t h=some v->fG Δ v xv) (hv:(Jb src dst p).f t h=some v) :
  ∃r,(convert src dst xv).run P0 w = .ok r w/\fG Δ v r:=by
 unfold Jb at hv;rw[hs,c]at hv;simp only at hv;split at hv
 ·rename_i i;simp only[fj]at hv;obtain⟨x,k,a⟩:=hv;have hx:=j _ k;split at a
  ·cases a;cases hx;exact Lb (Δ:=Δ) (w:=w) (src:=src) (dst:=dst) (e:=e) (ad:=none) (len:=0) (cap:=0) (cs:=[]) (s:=[]) hs c i rfl (by simp_all) (by simp_all)
  ·rename_i l off len;simp only[fj]at a;obtain⟨cs,m,s,n,q⟩:=a;cases q
   cases hx with
   | slice _ _ _ cap o d u hk y z=>
     have A:∃xs,(loadCells ⟨d.b,o,none⟩ len).run P0 w = .ok (Array.mk xs) w/\gj Δ cs xs:=by
       rcases z with⟨rfl,_,_⟩|⟨rfl,_⟩
       ·grind[tD]
       ·have:len=0:=by omega
        subst this;have g:cs=[]:=wBB (QH m);subst g;exact⟨[],by rfl,.nil⟩
     exact Lb (Δ:=Δ) (w:=w) (src:=src) (dst:=dst) (e:=e) (ad:=some ⟨d.b,o,none⟩) (len:=len) (cap:=cap) hs c i n (by simp_all) (by simp_all)
  ·cases a
 ·cases hv
theorem ZJ(I:WR Δ h w) (G:TR Δ n t a) {o:Oper} {v:V} (hv:(iz o).f t h=some v):∃x,(execOp a.eval o).run P0 w = .ok (.value x) w/\fG Δ v x:=by
 obtain⟨dst,op,ty,pos,af,gd⟩:=o;have z:∀(x:Operand) v,(qJ x).f t h=some v->fG Δ v (a.eval x):=by grind[kE]
 cases op with
 |move x=>exact⟨_,rfl,z x v hv⟩
 |assign x=>exact⟨_,rfl,z x v hv⟩
 |pick c p q=>exact XU w (z c) (z p) (z q) hv
 | load ty a'=>
   obtain⟨x,C,A⟩:=KA I (z a') hv
   exact⟨x,me C,A⟩
 | nilCheck x=>
   obtain⟨C,A⟩:=NR w (z x) hv (dst:=dst) (ty:=ty) (pos:=pos) (af:=af) (gd:=gd)
   simp_all
 | binOp op S x y Z=>
   simp only[iz,fj]at hv;obtain⟨p,C,q,A,J⟩:=hv;obtain⟨r,j,u⟩:=Zj (X:=x) (Y:=y) w (z x _ C) (z y _ A) J
   exact⟨r,me j,u⟩
 | unOp op S x=>
   simp only[iz,fj]at hv;obtain⟨p,C,A⟩:=hv;obtain⟨r,j,u⟩:=zaM w (z x _ C) A
   exact⟨r,me j,u⟩
 | convert src d x=>
   have K:∃r,(convert src d (a.eval x)).run P0 w = .ok r w/\fG Δ v r:=by
     by_cases hsl:∃e,P0.underlying src=some (.slice e)/\P0.underlying d=some .string
     ·obtain⟨e,C,A⟩:=hsl
      exact VC I C A (z x) hv
     ·exact X3 w hsl (z x) hv
   obtain⟨r,j,u⟩:=K
   exact⟨r,me j,u⟩
 | build ty parts=>
   obtain⟨r,j,u⟩:=Vx G hv;refine⟨r,me ?_,u⟩;rw[<-j];congr 2
   grind
 | makeFunc fn first R=>
   cases fn with
   | func f=>
     simp only[iz,fj]at hv;obtain⟨p,C,q,A,J⟩:=hv;cases J;refine⟨_,rfl,.func f p q _ _ ?_ ?_⟩
     ·have:=zN G C;simp_all
     ·have:=zN G A;simp_all
   |_=>cases hv
 | slice ty x lo hi T=>
   cases T with
   | none=>
     obtain⟨r,j,u⟩:=Vs I G (z x) hv
     exact⟨r,me j,u⟩
   |some _=>cases hv
 | fieldAddr s x f=>
   obtain⟨r,j,u⟩:=Mm w (z x) hv
   exact⟨r,me j,u⟩
 | field s x f=>
   obtain⟨r,j,u⟩:=UT w (z x) hv
   exact⟨r,me j,u⟩
 | indexAddr ty x i=>
   obtain⟨r,j,u⟩:=Mn w (z x) (z i) hv
   exact⟨r,me j,u⟩
 | index ty x i=>
   obtain⟨r,j,u⟩:=UC w (z x) (z i) hv
   exact⟨r,me j,u⟩
 | lookup ty m k ok=>
   obtain⟨r,j,u⟩:=SL I (z m) (z k) hv
   exact⟨r,me j,u⟩
 | extract x i=>
   obtain⟨r,j,u⟩:=Q9 w (z x) hv
   exact⟨r,me j,u⟩
 | makeInterface ty x=>
   simp only[iz]at hv;split at hv
   ·rename_i hi
    obtain⟨d,U,hd⟩:=Ln hi;simp only[fj]at hv;obtain⟨p,C,A⟩:=hv;cases A;refine⟨.iface ty (a.eval x),me ?_,.iface _ _ _ (by simp_all)⟩;simp only[Instr.makeInterface,uG,fN U,tn];rfl
   ·cases hv
 | typeAssert x xT H ok=>
   obtain⟨r,j,u⟩:=SA (xT:=xT) w (z x) hv
   exact⟨r,me j,u⟩
 | call c =>
   obtain⟨E,args,D⟩:=c;simp only[iz]at hv
   cases E with
   | builtin b=>
     cases b <;> try (cases hv;done)
     case len=>
       simp only at hv;split at hv
       ·rename_i x M W g L
        have N:D[0]? =some M:=by rw[<-Yk,L];rfl
        obtain⟨r,j,u⟩:=ZM I (rt:=ty) N (z x) hv;refine⟨r,?_,u⟩;have O:args.map a.eval = #[a.eval x]:=by apply Array.ext';simp[g]
        simp only[execOp,resolve,O];exact me j
       ·cases hv
     case min=>
       simp only[fj]at hv;obtain⟨l,C,A⟩:=hv;split at A
       ·rename_i x r
        have B:=zN G C
        cases g:args.toList.map a.eval with
        |nil=>rw[g]at B;cases B
        | cons P r'=>
          rw[g]at B
          cases B with
          | cons _ _ _ _ hx Q=>
            obtain⟨F,J,j⟩:=On w hx Q A;refine⟨F,?_,j⟩;have O:(args.map a.eval).toList=P::r':=by simpa using g
            simp only[execOp,resolve];refine me ?_
            grind[Builtin.min_]
       ·cases A
     case max=>
       simp only[fj]at hv;obtain⟨l,C,A⟩:=hv;split at A
       ·rename_i x r
        have B:=zN G C
        cases g:args.toList.map a.eval with
        |nil=>rw[g]at B;cases B
        | cons P r'=>
          rw[g]at B
          cases B with
          | cons _ _ _ _ hx Q=>
            obtain⟨F,J,j⟩:=On w hx Q A;refine⟨F,?_,j⟩;have O:(args.map a.eval).toList=P::r':=by simpa using g
            simp only[execOp,resolve];refine me ?_
            grind[Builtin.max_]
       ·cases A
   |value f=>cases hv
   |invoke r m=>cases hv
 |_=>cases hv
end
def RW(Δ:Env)(b:Nat):Prop:=∃l d,Δ l=some d/\d.ro=false/\d.b=b
structure FR (Δ a:Env) (w w':World):Prop where
 le:Δ.le a
 size:w.heap.size<=w'.heap.size
 os:w'.os=w.os
 tape:w'.tape=w.tape
 output:w'.output=w.output
 fe:∀b,b<w.heap.size->¬RW Δ b->w'.heap[b]? =w.heap[b]?
 new:∀l d,a l=some d->Δ l=some d\/w.heap.size<=d.b\/RW Δ d.b
theorem FR.refl(Δ:Env)(w:World):FR Δ Δ w w:=⟨Env.le_refl _,jb _,rfl,rfl,rfl,by simp_all,by simp_all⟩
theorem FR.trans{Δ m c:Env} {w w' e:World} (h:FR Δ m w w') (h':FR m c w' e):FR Δ c w e where
 le:=Env.le_trans h.le h'.le
 size:=BX h.size h'.size
 os:=h'.os.trans h.os
 tape:=h'.tape.trans h.tape
 output:=h'.output.trans h.output
 fe:=λb hb n=>by
  rw[h'.fe b (BF hb h.size) ?_,h.fe b hb n];rintro⟨l,d,f,p,rfl⟩;rcases h.new l d f with a|a|a
  ·exact n ⟨l,d,a,p,rfl⟩
  ·omega
  simp_all
 new:=λl d f=>by
  rcases h'.new l d f with a|a|⟨o,d',g,i,j⟩
  ·exact h.new l d a
  ·exact .inr (.inl (BX h.size a))
  ·rcases h.new o d' g with k|k|k
   ·exact .inr (.inr ⟨o,d',k,i,j⟩)
   ·omega
   simp_all
theorem tz(h:Hp) (o:O) (l:Nat):(h.new o).get l=if h.next=l then some o else h.get l:=by
 rw[Hp.get_eq,Hp.get_eq];unfold Hp.new;simp only[Tr.HL]
 grind
theorem oY{h:Hp} {l:Nat} (o:O) (m:Nat) (a:l<h.next):(h.put l o).get m=if l=m then some o else h.get m:=by
 rw[Hp.get_eq,Hp.get_eq];unfold Hp.put;simp only[Tr.HL]
 grind
def Env.set(Δ:Env)(l:Nat)(d:D):Env:=λm=>if m=l then some d else Δ m
theorem Env.wX{Δ:Env} {l:Nat} {d:D} (h:Δ l=none):Δ.le (Δ.set l d):=λm e a=>by
 unfold Env.set
 grind
theorem Env.uc(Δ:Env)(l:Nat)(d:D):(Δ.set l d) l=some d:=if_pos rfl
theorem Env.lI{Δ:Env} {l m:Nat} {d e:D} (h:(Δ.set l d) m=some e):(m=l/\e=d)\/(m≠l/\Δ m=some e):=by
 unfold Env.set at h
 grind
theorem WR.EB{Δ:Env} {h:Hp} {w:World} (a:WR Δ h w):Δ h.next=none:=by
 cases hd:Δ h.next with
 |none=>rfl
 |some d=>exact absurd (a.fresh _ _ hd) (wB2 _)
theorem heap_alloc(w:World) (ob:Obj) (b:Nat):(w.alloc ob).heap[b]? =if b=w.heap.size then some ob else w.heap[b]?:=by
 grind[World.alloc]
theorem An.step{Δ a:Env} {w w':World} (h:An Δ w) (hk:∀b,b<w.heap.size->¬RW Δ b->w'.heap[b]? =w.heap[b]?) (i:∀l d,a l=some d->d.ro=false->Δ l=some d\/w.heap.size<=d.b\/RW Δ d.b):An a w':=by
 intro g c f;obtain⟨⟨e,fr,j⟩,k⟩:=h g c f
 grind[Wt,RW]
theorem WR.lay{Δ:Env} {h:Hp} {w:World} (c:WR Δ h w) {l:Nat} {o:O} {d:D} {ob:Obj} (x:Δ l=none) (z:l<h.next) (A:h.get l=some o) (hb:d.b=w.heap.size)
  (B:PE (Δ.set l d) d o (some ob)):WR (Δ.set l d) h (w.alloc ob) where
 fresh:=λm e a=>by
  rcases Env.lI a with⟨rfl,rfl⟩|⟨_,a⟩
  ·exact z
  ·exact c.fresh m e a
 vf:=λm e a=>by
  simp only[World.size_alloc];rcases Env.lI a with⟨rfl,rfl⟩|⟨_,a⟩
  ·omega
  ·have:=c.vf m e a;omega
 obj:=λm e a=>by
  rcases Env.lI a with⟨rfl,rfl⟩|⟨_,a⟩
  ·refine⟨o,A,?_⟩;rw[heap_alloc,if_pos hb];exact B
  ·obtain⟨C,f,j⟩:=c.obj m e a;refine⟨C,f,?_⟩;rw[heap_alloc,if_neg (Po (c.vf m e a))];exact j.mono (Env.wX x)
 apart:=λm y e e' p E a k n q r s i t=>by
  rcases Env.lI a with⟨f,j⟩|⟨_,f⟩ <;> rcases Env.lI k with⟨u,F⟩|⟨_,u⟩
  ·omega
  ·have:=c.vf y e' u;grind
  ·have:=c.vf m e f;grind
  ·exact c.apart m y e e' p E f u n q r s i t
 GI:=λg p v q=>by
  obtain⟨e,f,j⟩:=c.GI g p v q;exact⟨e,Env.wX x _ _ f,j⟩
 xd:=c.xd
 Tz:=c.Tz.step (by simp_all[heap_alloc,if_neg,Po]) λm e a _=>by
  rcases Env.lI a with⟨rfl,rfl⟩|⟨_,a⟩
  ·omega
  simp_all
theorem WR.more{Δ:Env} {h:Hp} {w:World} (a:WR Δ h w) (o:O):WR Δ (h.new o) w where
 fresh:=λl d i=>wBi (a.fresh l d i)
 vf:=a.vf
 obj:=λl d i=>by
  obtain⟨q,r,s⟩:=a.obj l d i;refine⟨q,?_,s⟩;rw[tz,if_neg (Nat.ne_of_gt (a.fresh l d i))];exact r
 apart:=λm t e e' p u n b j c f=>by
  rw[tz,if_neg (Nat.ne_of_gt (a.fresh _ _ n))]at c;rw[tz,if_neg (Nat.ne_of_gt (a.fresh _ _ b))]at f;exact a.apart m t e e' p u n b j c f
 GI:=λg p k c=>by
  rw[tz,if_neg (by have:=a.xd;omega)]at c;exact a.GI g p k c
 xd:=X8 a.xd
 Tz:=a.Tz
theorem FR.lay{Δ:Env} {w:World} {l:Nat} {d:D} {ob:Obj} (c:Δ l=none) (hb:d.b=w.heap.size):FR Δ (Δ.set l d) w (w.alloc ob) where
 le:=Env.wX c
 size:=by simp
 os:=rfl
 tape:=rfl
 output:=rfl
 fe:=by simp_all[heap_alloc,if_neg,Po]
 new:=λm e a=>by
  rcases Env.lI a with⟨rfl,rfl⟩|⟨_,a⟩
  ·omega
  simp_all
def Made(Δ:Env) (ob:O) (mk:Nat->V) (a:Obj) (mv:Nat->Value):Prop:=∀l b,Δ l=none->∃d,d.b=b/\PE (Δ.set l d) d ob (some a)/\fG (Δ.set l d) (mk l) (mv b)
theorem zx{Δ:Env} {d:D} {cs:List V} {c:Array Value} {e:Nat} (hs:c.size=d.Vw) (hb:d.base=0) (a:cs.length<=d.Vw) (hc:∀(i:Nat) (v:V),cs[i]? =some v->∃x,c[i]? =some x/\fG Δ v x) :
  Ef Δ d cs (some (.cells c e (0,0))):=
 ⟨c,e,(0,0),rfl,hs,λ_=> .inl rfl,by omega,λi v hi=>by rw[hb,wO];exact hc i v hi⟩
theorem Uq{Δ:Env} {e:Nat} {v:V} {xv:Value} {ob:O} {mk:Nat->V} (hx:fG Δ v xv) (hv:mm e v=some (ob,mk)) :
  Made Δ ob mk (.cells xv.cells e) (λb=> .pointer (some ⟨b,0,none⟩)):=by
 unfold mm at hv;rw[gP]at hv;obtain⟨_,hv⟩:=hv;cases hv;intro l b f;have hc:=hx.cells;have a:=Env.wX (d:=⟨b,0,1,v.cells.length,xv.cells.size,false,0⟩) f;refine⟨⟨b,0,1,v.cells.length,xv.cells.size,false,0⟩,rfl,⟨rfl,rfl,rfl,rfl,λ_=>?_⟩,?_⟩
 ·refine zx rfl rfl (wCB (by first|(simpa using hc.length)|(simpa using c.length))) λi u hi=>?_;obtain⟨x,hx,c⟩:=hc.get i u hi;exact⟨x,by simp_all,c.mono a⟩
 ·exact fG.ptr l 0 ⟨b,0,1,v.cells.length,xv.cells.size,false,0⟩ (Env.uc _ _ _)
theorem Ew{a size kj:Nat} {z:V} (h:elemOf a=some (size,kj,z)) :
  wZ a=some size/\YY a=some kj/\zeroV a=some z/\0<size/\z.cells.length=size/\fZ z.cells=true:=by
 grind[elemOf,fj,gP,O6,zB]
theorem yV{t e:Nat} (h:EJ t=some e):P0.underlying t=some (.slice e):=by
 grind[EJ]
theorem Qz(z:List V):∀(m i:Nat),(zS m z)[i]? =if i<m*z.length then z[i % z.length]? else none
 |0,i=>by simp[zS]
 | m + 1,i=>by
   simp only[zS,List.getElem?_append];by_cases a:i<z.length
   ·rw[if_pos a,if_pos (by grind),Nat.mod_eq_of_lt a]
   ·rw[if_neg a,Qz z m]
    have e:i % z.length=(i-z.length) % z.length:=by
      rw[Nat.mod_eq_sub_mod (by omega)]
    grind
theorem zu(z:List V):∀m,(zS m z).length=m*z.length
 |0=>by simp[zS]
 |m+1=>by simp[zS,zu z m,VQ,Nat.add_comm]
theorem Pr{Δ:Env} {z:List V} {a:Array Value} (b:gj Δ z a.toList) (h0:0<z.length) (m:Nat):gj Δ (zS m z) ((Array.range (m*z.length)).map λi=>a[i % a.size]!).toList:=by
 have hlen:=b.length;simp only[Yg]at hlen;refine gj.NG (by simp[zu]) λi v hi=>?_;rw[Qz]at hi;by_cases h:i<m*z.length
 ·rw[if_pos h]at hi;obtain⟨x,hx,c⟩:=b.get _ _ hi
  grind
 simp_all
section
variable{Δ:Env}{h:Hp}{w:World}{n:Nat}{t:Tm}{a:Act}
theorem PB(X : TR Δ n t a) {o:Oper} {ob:O} {mk:Nat->V} (hv:(pz o).f t=some (ob,mk)) :
    ∃mo mv,(∀w,(execOp a.eval o).run P0 w = .ok (.value (mv w.heap.size)) (w.alloc mo))/\Made Δ ob mk mo mv:=by
  obtain⟨dst,op,ty,pos,af,gd⟩:=o
  cases op with
  | alloc e=>
    simp only[pz]at hv;split at hv
    ·rename_i z Q
     obtain⟨s,H,B,_⟩:=yk Q;refine⟨_,_,λw=>me (x:= .pointer (some ⟨w.heap.size,0,none⟩)) ?_,Uq (B Δ) hv⟩
     simp_all[Instr.alloc,newVar,newRow]
    ·cases hv
  | box e x=>
    simp only[pz,fj]at hv;obtain⟨v,R,P⟩:=hv;refine⟨_,_,λw=>me (x:= .pointer (some ⟨w.heap.size,0,none⟩)) ?_,Uq (C7 X R) P⟩
    rfl
  | buildSlice S len parts=>
    simp only[pz]at hv;split at hv
    ·rename_i j I
     have hu:=yV I;split at hv
     ·rename_i size kj z he
      obtain⟨hs,_,Q,T,D,_⟩:=Ew he;obtain⟨s,H,B,_⟩:=yk Q;split at hv
      ·rename_i C
       have aj:len*size<=16777216:=Jz C;simp only[DD,fj,gP]at hv;obtain⟨ps,R,cs,P,_,J⟩:=hv;cases J;have E:=(B Δ).cells;have y:=Pr E (by omega) len;have ak:s.cells.size=size:=by have:=E.length;simp only[Yg]at this;omega
       have g:gj Δ (zS len z.cells) ((Array.range (len*size)).map λi=>(if len*size=0 then(#[]:Array Value) else s.cells)[i % (if len*size=0 then(#[]:Array Value) else s.cells).size]!).toList:=by
         by_cases h0:len*size=0
         ·simp_all
         ·simp_all
       obtain⟨ot,Y,hr⟩:=Kd (BJ X R) g P;refine⟨.cells ot j,λb=> .slice (some ⟨b,0,none⟩) len len,λw=>me (w:=w) (x:= .slice (some ⟨w.heap.size,0,none⟩) len len) ?_,?_⟩
       ·have A:(parts.map λ(x:Nat×Operand)=>(x.1,a.eval x.2)).toList=parts.toList.map λx=>(x.1,a.eval x.2):=by simp
        have aa:¬(len*size>2 ^ 24):=by omega
        have U:(if len*size=0 then(pure #[]:Sem (Array Value)) else do pure (<-zeroValue j).cells).run P0 w = .ok (if len*size=0 then(#[]:Array Value) else s.cells) w:=by
          by_cases h0:len*size=0
          ·simp_all
          ·simp_all
        simp only[Instr.buildSlice,uG,fN hu,tv hs,tn,Sem.run_ite];rw[if_neg aa];simp only[Jh,tn,uG];clear g U;by_cases h0:len*size=0
        ·simp only[if_pos h0]at Y⊢
         rw[A];have K:Instr.fill (λi=>some (i*size,size)) (Array.map (λx=>(#[]:Array Value)[x % (#[]:Array Value).size]!) (Array.range (len*size))) (List.map (λx=>(x.1,a.eval x.2)) parts.toList)=some ot:=Y;rw[K];rfl
        ·simp only[if_neg h0,H,tn]at Y⊢
         rw[A];have K:Instr.fill (λi=>some (i*size,size)) (Array.map (λx=>s.cells[x % s.cells.size]!) (Array.range (len*size))) (List.map (λx=>(x.1,a.eval x.2)) parts.toList)=some ot:=Y;rw[K];rfl
       ·intro l b Z
        have L:=hr.length;simp only[Yg]at L;have al:cs.length=len*size:=by
          have h5:∀{place:Nat->Option (Nat×Nat)} {ps:List (Nat×V)} {c c':List V},AP place c ps=some c'->c'.length=c.length:=by
            intro place ps
            induction ps with
            |nil=>grind[AP]
            | cons p ps ih=>
              intro c c' h;simp only[AP,fj,gP]at h;obtain⟨q,_,_,am,h6,h7⟩:=h;rw[ih h7,(Iq h6).1]
          rw[h5 P,zu,D]
        have C:=Env.wX (d:=⟨b,0,size,cs.length,ot.size,false,0⟩) Z;refine⟨⟨b,0,size,cs.length,ot.size,false,0⟩,rfl,⟨rfl,rfl,rfl,rfl,λ_=>?_⟩,?_⟩
        ·refine zx rfl rfl (by simp_all) λi u hi=>?_
         obtain⟨x,hx,M⟩:=hr.get i u hi;exact⟨x,by simp_all,M.mono C⟩
        ·refine fG.slice l 0 len len 0 ⟨b,0,size,cs.length,ot.size,false,0⟩ (Env.uc _ _ _) rfl (jb _) (.inl ⟨rfl,?_,?_⟩)
         ·simp_all
         simp_all
      ·cases hv
     ·cases hv
    ·cases hv
  | makeSlice S m c=>
    simp only[pz]at hv;split at hv
    ·rename_i j I
     have hu:=yV I;split at hv
     ·rename_i size kj z he
      obtain⟨hs,N,Q,T,D,_⟩:=Ew he;obtain⟨s,H,B,i,hi,an⟩:=yk Q;simp only[fj]at hv;obtain⟨mv,R,cv,P,J⟩:=hv;have hm:=C7 X R;have hc:=C7 X P;unfold jm at J;split at J
      ·rename_i F c'
       simp only[gP]at J;obtain⟨h4,h5,h6,h7⟩:=J;cases h7;have ab:F<=c':=Jz h4;have ao:c'*kj<=281474976710656:=Jz h5;have ac:c'<=1099511627776:=Jz h6;have ae:i.bytes=kj:=by
         unfold YY at N;rw[fj]at N;obtain⟨i',W,hb⟩:=N;rw[hi]at W;cases W;simpa using hb
       have E:=(B Δ).cells;have y:=Pr E (by omega) c';rw[D]at y;have ag:a.eval m = .int .i64 (F:Int):=by
         generalize a.eval m=x at hm;cases hm;rfl
       have ah:a.eval c = .int .i64 (c':Int):=by
         generalize a.eval c=x at hc;cases hc;rfl
       have wr:∀k:Nat,k<=1099511627776->IntKind.i64.wrap (k:Int)=k:=by grind[IntKind.wrap,IntKind.bits,IntKind.signed]
       refine⟨.cells ((Array.range (c'*size)).map λi=>s.cells[i % s.cells.size]!) j,λb=> .slice (some ⟨b,0,none⟩) F c',λw=>me (w:=w) (x:= .slice (some ⟨w.heap.size,0,none⟩) F c') ?_,?_⟩
       ·rw[ag,ah]
        have e1:((i.bytes:Int)*(c':Int)>2 ^ 48)=False:=by
          rw[ae];have:(kj:Int)*(c':Int)=((c'*kj:Nat):Int):=by rw[Nat.mul_comm];simp
          rw[this];simp;omega
        have g:(if c'*size=0 then(pure #[]:Sem (Array Value)) else do pure (<-zeroValue j).cells).run P0 w = .ok (if c'*size=0 then(#[]:Array Value) else s.cells) w:=by
          by_cases h0:c'*size=0
          ·simp_all
          ·simp_all
        have G:((Array.range (c'*size)).map λi=>(if c'*size=0 then(#[]:Array Value) else s.cells)[i % (if c'*size=0 then(#[]:Array Value) else s.cells).size]!)=((Array.range (c'*size)).map λi=>s.cells[i % s.cells.size]!):=by
          by_cases h0:c'*size=0
          ·simp_all
          ·simp_all
        have c1:¬((c':Int)<0):=by omega
        have c2:¬((F:Int)<0):=by omega
        have c3:¬((F:Int)>(c':Int)):=by omega
        simp only[Instr.makeSlice,uG,fN hu,tn,asInt,asIntOf,Jh,typeInfo,run_program,hi,wr F (by omega),wr c' ac,e1,c1,c2,c3,decide_false,Bool.or_false,O8,if_false,run_askRoom,tv hs,Int.toNat_natCast];clear g;by_cases h0:c'*size=0
        ·simp only[if_pos h0,newRow,run_newObj,uG,Jh,tn]at G⊢
         rw[G];rfl
        simp_all[if_neg,newRow,run_newObj,uG,Jh,tn]
       ·intro l b Z
        have L:=y.length;simp only[Yg]at L;have ai:(zS c' z.cells).length=c'*size:=by rw[zu,D]
        have C:=Env.wX (d:=⟨b,0,size,(zS c' z.cells).length,c'*size,false,0⟩) Z;refine⟨⟨b,0,size,(zS c' z.cells).length,c'*size,false,0⟩,rfl,⟨rfl,rfl,rfl,rfl,λ_=>?_⟩,?_⟩
        ·refine zx (by simp) rfl (wCB ai) λi u hi=>?_
         obtain⟨x,hx,M⟩:=y.get i u hi;exact⟨x,by grind,M.mono C⟩
        ·refine fG.slice l 0 F c' 0 ⟨b,0,size,(zS c' z.cells).length,c'*size,false,0⟩ (Env.uc _ _ _) rfl ab (.inl ⟨rfl,?_,?_⟩)
         ·simp_all
         simp_all
      ·cases J
     ·cases hv
    ·cases hv
  | makeMap S r=>
    cases r with
    | none=>
      simp only[pz]at hv;split at hv
      ·cases hv
       refine⟨.map #[] 0,λb=> .map (some b),λw=>me (x:= .map (some w.heap.size)) (by simp[Instr.makeMap]),?_⟩;intro l b Z;exact⟨⟨b,0,0,0,0,false,1⟩,rfl,⟨rfl,rfl,rfl,#[],rfl,.nil⟩,fG.map l ⟨b,0,0,0,0,false,1⟩ (Env.uc _ _ _)⟩
      ·cases hv
    |some _=>cases hv
  |_=>cases hv
end
