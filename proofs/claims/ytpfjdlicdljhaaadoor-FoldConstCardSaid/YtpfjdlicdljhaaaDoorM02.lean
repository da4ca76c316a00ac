/- Parts. -/
import Derived.Test.YtpfjdlicdljhaaaDoorM01
import Derived.Laws.Pointers
import Derived.Laws.StructEq
import Derived.Laws.Strings2
import Derived.Laws.IdiomStrings
set_option maxHeartbeats 4000000
namespace Go.Proofs.YtpfjdlicdljhaaaDoor.Hx
inductive o0 (Δ:Env):List (V×V×Nat)->List MapEntry->Prop
 |nil:o0 Δ [] []
 | cons (k v:V) (n:Nat) (e:MapEntry) (b:List (V×V×Nat)) (a:List MapEntry) (hk:dj Δ k e.key) (c:dj Δ v e.val) (d:e.born=n)
   (hs:o0 Δ b a):o0 Δ ((k,v,n)::b) (e::a)
theorem o0.mono{Δ d:Env} (b:Δ.le d) {c:List (V×V×Nat)} {a:List MapEntry} (h:o0 Δ c a):o0 d c a:=by
 induction h with
 |nil=>exact .nil
 |cons k v n e c a hk f g _ i=>exact .cons k v n e c a (hk.mono b) (f.mono b) g i
def AO(Δ:Env) (d:D) (cs:List V) (ob:Option Obj):Prop:=∃c e fr,ob=some (.cells c e fr)/\c.size=d.Pq/\(d.ro=false->fr.1=fr.2\/d.Pq<=fr.1)/\d.base+cs.length<=d.Pq/\∀(i:Nat) (v:V),cs[i]? =some v->∃x,c[d.base+i]? =some x/\dj Δ v x
def K2(Δ:Env) (d:D) (o:O) (ob:Option Obj):Prop:=match o with
 | .cells _ sz live ro cs=>d.kind=0/\d.sz=sz/\d.n=cs.length/\d.ro=ro/\(live=true->AO Δ d cs ob)
 | .map f a=>d.kind=1/\d.ro=false/\d.base=0/\∃c,ob=some (.map c a)/\o0 Δ f c.toList
 | .iter m since seen last=>d.kind=2/\d.ro=false/\d.base=0/\∃e,ob=some (.mapIter e since seen.toArray last)/\
   (match m with
    |none=>e=none
    |some l=>∃d',Δ l=some d'/\e=some d'.b)
def O.live:O->Bool
 | .cells _ _ live _ _=>live
 |_=>true
def xD(Δ:Env)(w:World):Prop:=∀g c,(g,c)∈XH->(∃e fr,w.heap[g]? =some (.cells c e fr))/\∀l d,Δ l=some d->d.ro=false->d.b≠g
structure WR (Δ:Env) (h:Hp) (w:World):Prop where
 fresh:∀l d,Δ l=some d->l<h.next
 jB:∀l d,Δ l=some d->d.b<w.heap.size
 obj:∀l d,Δ l=some d->∃o,h.get l=some o/\K2 Δ d o w.heap[d.b]?
 apart:∀l a d d' o c,Δ l=some d->Δ a=some d'->l≠a->h.get l=some o->h.get a=some c->o.live=true->c.live=true->
  (d.ro=false\/d'.ro=false)->d.b≠d'.b
 Cj:∀g o,g<P0.globals.size->h.get g=some o->∃d,Δ g=some d/\d.b=g/\d.base=0
 tP:P0.globals.size<=h.next
 NK:xD Δ w
inductive Cw (Δ:Env):List (Nat×List V)->List Deferred->Prop
 |nil:Cw Δ [] []
 | cons (g:Nat) (args:List V) (cap ee:Array Value) (l:List (Nat×List V)) (a:List Deferred) (b:dS Δ args (ee++cap).toList) (c:Cw Δ l a) :
   Cw Δ ((g,args)::l) ({target:= .fn (.func g) cap,args:=ee}::a)
theorem Cw.mono{Δ c:Env} (b:Δ.le c) {l:List (Nat×List V)} {a:List Deferred} (h:Cw Δ l a):Cw c l a:=by
 induction h with
 |nil=>exact .nil
 |cons g args cap ee l a d _ e=>exact .cons g args cap ee l a (d.mono b) e
structure TR (Δ:Env) (n:Nat) (t:Tm) (a:Act):Prop where
 size:a.tmps.size=n
 rel:∀i,dj Δ (gg t i) (a.tmps.getD i undef)
 ds:Cw Δ t.ds a.defers
theorem AO.mono{Δ b:Env} (a:Δ.le b) {d:D} {cs:List V} {ob:Option Obj} (h:AO Δ d cs ob):AO b d cs ob:=by
 obtain⟨c,e,fr,f,g,j,k,l⟩:=h;exact⟨c,e,fr,f,g,j,k,λi v hi=>let⟨x,hx,hr⟩:=l i v hi;⟨x,hx,hr.mono a⟩⟩
theorem K2.mono{Δ n:Env} (a:Δ.le n) {d:D} {o:O} {ob:Option Obj} (h:K2 Δ d o ob):K2 n d o ob:=by
 cases o with
 | cells e sz live ro cs=>
   obtain⟨c,f,g,i,b⟩:=h
   exact⟨c,f,g,i,λp=>(b p).mono a⟩
 | map t j=>
   obtain⟨c,f,g,k,i,b⟩:=h
   exact⟨c,f,g,k,i,b.mono a⟩
 | iter m since seen last=>
   obtain⟨c,f,g,q,i,b⟩:=h;refine⟨c,f,g,q,i,?_⟩
   cases m with
   |none=>exact b
   |some l=>obtain⟨d',r,s⟩:=b;exact⟨d',a _ _ r,s⟩
theorem TR.mono{Δ c:Env}(b:Δ.le c){n:Nat}{t:Tm}{a:Act}(h:TR Δ n t a):TR c n t a:=⟨h.size,λi=>(h.rel i).mono b,h.ds.mono b⟩
theorem dt{t:Nat}{d:TypeDesc}{w:World}(h:P0.underlying t=some d):(underlying t).run P0 w = .ok d w:=by simp[underlying,h]
theorem zj{t n:Nat} (h:tu t=some n):∃i,P0.info? t=some i/\i.size=n:=by
 grind[tu,c7]
theorem rj{t n:Nat} {w:World} (h:tu t=some n):(sizeOf t).run P0 w = .ok n w:=by
 obtain⟨i,hi,rfl⟩:=zj h
 simp_all[sizeOf,typeInfo]
theorem AT{t:Nat} {b:Bool} {w:World} (h:G1 t=some b):(isAgg t).run P0 w = .ok b w:=by
 unfold G1 at h;split at h
 ·simp_all[isAgg,dt]
 ·simp_all[isAgg,dt]
 ·simp_all[isAgg,rk,dt,qf]
 ·cases h
theorem uL{t:Nat} {z:V} (h:zeroV t=some z):∃a,(∀w,(zeroValue t).run P0 w = .ok a w)/\(∀Δ,dj Δ z a)/\∃i,P0.info? t=some i/\i.zero=some a:=by
 unfold zeroV at h;simp only[c7]at h;obtain⟨i,hi,a,b,c⟩:=h;exact⟨a,by simp_all[zeroValue,typeInfo],by grind[A8],i,hi,b⟩
theorem oh(b o n:Nat):(⟨b,o,none⟩:Addr).add n=⟨b,o+n,none⟩:=by
 grind[Addr.add]
section
variable{Δ:Env}{h:Hp}{w:World}{n:Nat}{t:Tm}{a:Act}
theorem Am(d:TR Δ n t a) {x:Operand} {v:V} (b:(Hs x).f t=some v):dj Δ v (a.eval x):=by
 cases x with
 |tmp i=>simp only[Hs]at b;cases b;exact d.rel i
 | const c=>
   simp only[Hs]at b;split at b
   ·rename_i y e;cases b;exact A8 Δ 8 c _ e
   ·cases b
 |global g=>grind[Hs]
 |func f=>simp only[Hs]at b;cases b;exact .func f [] [] #[] #[] .nil .nil
theorem hZ(k:WR Δ h w) (e:TR Δ n t a) {x:Operand} {v:V} (b:(nK x).f t h=some v):dj Δ v (a.eval x):=by
 cases x with
 | global g=>
   unfold nK at b
   cases PL:Nat.blt g P0.globals.size with
   | true=>
     simp only[PL,c7]at b;obtain⟨o,l,b⟩:=b;cases b;have m:g<P0.globals.size:=by rw[<-I3];exact PL
     obtain⟨d,p,q,j⟩:=k.Cj g o m l;have:=dj.ptr (Δ:=Δ) g 0 d p;rw[q,j]at this
     exact this
   |false=>simp_all
 |tmp i=>exact Am e b
 |const c=>exact Am e b
 |func f=>exact Am e b
theorem wj(b:TR Δ n t a):∀{l:List Operand} {vs:List V},CW t l=some vs->dS Δ vs (l.map a.eval)
 |[],vs,hv=>by simp[CW]at hv;subst hv;exact .nil
 | x::l,vs,hv=>by
   simp only[CW,c7]at hv;obtain⟨v,c,d,e,f⟩:=hv;cases f;exact .cons _ _ _ _ (Am b c) (wj b e)
inductive Rz (Δ:Env):List (Nat×V)->List (Nat×Value)->Prop
 |nil:Rz Δ [] []
 |cons (i:Nat) (v:V) (a:Value) (l:List (Nat×V)) (b:List (Nat×Value)) (c:dj Δ v a) (hs:Rz Δ l b):Rz Δ ((i,v)::l) ((i,a)::b)
theorem yV(b:TR Δ n t a):∀{l:List (Nat×Operand)} {vs:List (Nat×V)},oT t l=some vs->Rz Δ vs (l.map λx=>(x.1,a.eval x.2))
 |[],vs,hv=>by simp[oT]at hv;subst hv;exact .nil
 | x::l,vs,hv=>by
   simp only[oT,c7]at hv;obtain⟨v,c,d,e,f⟩:=hv;cases f;exact .cons _ _ _ _ _ (Am b c) (yV b e)
theorem NG(f:WR Δ h w) {l:Nat} {d:D} (g:Δ l=some d) {e sz:Nat} {ro:Bool} {cs:List V} (j:h.get l=some (.cells e sz true ro cs))
  {i:Nat} {v:V} (hi:cs[i]? =some v):∃x,w.cell? ⟨d.b,d.base+i,none⟩=some x/\dj Δ v x:=by
 obtain⟨o,a,k⟩:=f.obj l d g;rw[j]at a;cases a;obtain⟨_,_,_,_,hc⟩:=k;obtain⟨c,e',fr,m,_,_,_,n⟩:=hc rfl
 grind[World.cell?]
theorem Dh(i:WR Δ h w) {l:Nat} {d:D} (k:Δ l=some d) {off m:Nat} {cs:List V} (a:Bg h l off m=some cs) :
  ∃c,(loadCells ⟨d.b,d.base+off,none⟩ m).run P0 w = .ok c w/\dS Δ cs c.toList:=by
 unfold Bg at a;rw[hY]at a;obtain⟨e,sz,live,ro,all,n,a⟩:=a;rw[ek]at a;obtain⟨rfl,a⟩:=a;obtain⟨hlen,f⟩:=sub_eq a;have g:∀j,j<m->∃x v,w.cell? ⟨d.b,d.base+off+j,none⟩=some x/\cs[j]? =some v/\dj Δ v x:=by grind[fg,NG,Nat.add_assoc]
 refine⟨_,run_loadCells w ⟨d.b,d.base+off,none⟩ m (λj=>(w.cell? ⟨d.b,d.base+off+j,none⟩).getD undef) (λj o=>?_),?_⟩
 ·grind[oh]
 grind[dS.Jf,gL]
theorem QS(c:WR Δ h w) {l:Nat} {d:D} (f:Δ l=some d) {off:Nat} {v:V} (a:We h l off=some v) :
  ∃x,w.cell? ⟨d.b,d.base+off,none⟩=some x/\dj Δ v x:=by
 unfold We at a;rw[hY]at a;obtain⟨e,sz,live,ro,all,g,a⟩:=a;rw[ek]at a;obtain⟨rfl,a⟩:=a;exact NG c f g (Hk a)
theorem Hl(j:WR Δ h w) {ty:Nat} {p:PF} {xv:Value} (k:∀v,p.f t h=some v->dj Δ v xv) {v:V} (a:(EM ty p).f t h=some v) :
  ∃x,(Instr.loadAt ty xv).run P0 w = .ok x w/\dj Δ v x:=by
 unfold EM at a;split at a
 ·rename_i n;split at a
  ·rename_i m q;simp only[c7,qV]at a;obtain⟨av,c,l,off,rfl,cs,e,o⟩:=a;cases o
   cases k _ c with
   | ptr _ _ d g=>
     obtain⟨i,r,b⟩:=Dh j g e;exact⟨.agg i,by simp_all[Instr.loadAt,Instr.sureAddr,loadVar,AT,rj],.agg _ _ b⟩
  ·cases a
 ·rename_i n;simp only[c7,qV]at a;obtain⟨av,c,l,off,rfl,e⟩:=a
  cases k _ c with
  | ptr _ _ d g=>
    obtain⟨x,s,b⟩:=QS j g e
    simp_all[Instr.loadAt,Instr.sureAddr,loadVar,AT]
 ·cases a
theorem EO:∀(fs:List Field) (pl:List (Nat×Nat)),placesOf fs=some pl->fs.mapM (λf=>(P0.info? f.type).map λi=>(f.offset,i.size))=some pl
 |[],pl,h=>by grind[placesOf]
 | f::fs,pl,h=>by
   simp only[placesOf,c7]at h;obtain⟨m,a,l,b,c⟩:=h;cases c;obtain⟨i,hi,rfl⟩:=zj a;simp[List.mapM_cons,hi,EO fs l b]
theorem Ip:∀(xs:List Value) (k off:Nat) (c:Array Value),off+k+xs.length<=c.size->
  ∀i,((xs.zipIdx k).foldl (λcs (p:Value×Nat)=>cs.setIfInBounds (off+p.2) p.1) c)[i]? =if off+k<=i/\i<off+k+xs.length then xs[i-(off+k)]? else c[i]?
 | [],k,off,c,_,i=>by
   simp_all[if_neg,XE]
 | x::xs,k,off,c,hle,i=>by
   simp only[List.zipIdx_cons,List.foldl_cons];simp only[LU]at hle;rw[Ip xs (k+1) off _ (by simp;omega)]
   grind
theorem Fj{place:Nat->Option (Nat×Nat)}:∀{t:List (Nat×V)} {TP:List (Nat×Value)} {cells cs:List V} {a:Array Value},Rz Δ t TP->dS Δ cells a.toList->
  wB place cells t=some cs->∃d,Instr.fill place a TP=some d/\dS Δ cs d.toList
 |_,_,cells,cs,a,.nil,hc,hf=>by simp[wB]at hf;subst hf;exact⟨a,rfl,hc⟩
 | _,_,cells,cs,a,.cons i v v' l l' hv hs,hc,hf=>by
   simp only[wB,c7,ek]at hf;obtain⟨⟨off,size⟩,I,u,o,w,z⟩:=hf;obtain⟨J,A,g⟩:=Ek w;have e:=hv.cells;have B:v'.cells.size=size:=by
     have:=e.length;rw[wC u]at this;simpa using this.symm
   have q:=hc.length;simp only[Sd]at q;have C:v.cells.length=v'.cells.size:=by simpa using e.length
   have D:¬(v'.cells.size≠size\/off+v'.cells.size>a.size):=by
     rintro(h|h)
     ·omega
     ·omega
   have k:dS Δ o (v'.cells.zipIdx.foldl (λcs (c,j)=>cs.setIfInBounds (off+j) c) a).toList:=by
     have b:=Ip v'.cells.toList 0 off a (by simp;omega);have f:(v'.cells.zipIdx.foldl (λcs (c,j)=>cs.setIfInBounds (off+j) c) a)=((v'.cells.toList.zipIdx 0).foldl (λcs (p:Value×Nat)=>cs.setIfInBounds (off+p.2) p.1) a):=by
       rw[<-Array.foldl_toList];simp
     rw[f];generalize hF:((v'.cells.toList.zipIdx 0).foldl (λcs (p:Value×Nat)=>cs.setIfInBounds (off+p.2) p.1) a)=F at b;have E:F.size=a.size:=by
      apply Nat.le_antisymm
      ·rcases Mo a.size F.size with r|s
       ·have:=b a.size
        grind
       omega
      ·rcases Mo F.size a.size with r|s
       ·have:=b F.size
        grind
       omega
     refine dS.Jf (by simp_all) λj x m=>?_;rw[g j]at m;have n:=b j;simp only[Vk,Sd]at n;rw[SW,n];by_cases hin:off<=j/\j<off+v.cells.length
     ·rw[if_pos hin]at m
      rw[if_pos (by omega)];exact e.get _ _ m
     ·rw[if_neg hin]at m
      rw[if_neg (by omega)];obtain⟨y,K,G⟩:=hc.get _ _ m
      simp_all
   obtain⟨d,H,G⟩:=Fj hs k z
   simp_all[Instr.fill,if_neg]
theorem OT(p:TR Δ n t a) {ty:Nat} {parts:List (Nat×Operand)} {v:V} (b:(Cd ty parts).f t h=some v) :
  ∃x,(Instr.build ty (parts.map λx=>(x.1,a.eval x.2)).toArray).run P0 w = .ok x w/\dj Δ v x:=by
 unfold Cd at b;split at b
 ·rename_i z r;obtain⟨C,_,j,i,hi,s⟩:=uL r;have d:=(j Δ).cells;split at b
  ·rename_i e u;split at b
   ·rename_i g D;simp only[c7]at b;obtain⟨y,k,cs,l,m⟩:=b;cases m;obtain⟨c,A,o⟩:=Fj (yV p k) d l;refine⟨.agg c,?_,.agg _ _ o⟩
    simp_all[run_build,Program.built,EO]
   ·cases b
  ·rename_i len q u;split at b
   ·rename_i size hs;obtain⟨E,B,rfl⟩:=zj hs;simp only[c7]at b;obtain⟨y,k,cs,l,m⟩:=b;cases m;obtain⟨c,A,o⟩:=Fj (yV p k) d l;refine⟨.agg c,?_,.agg _ _ o⟩
    simp_all[run_build,Program.built]
   ·cases b
  ·cases b
 ·cases b
end
theorem mc(k:IntKind) (n:Int):jr k n=k.wrap n:=by
 unfold jr
 cases n with
 |negSucc m=>rfl
 | ofNat m=>
   simp only;split
   ·rename_i a
    rw[I3]at a;have e:(Int.ofNat m)=(m:Int):=rfl
    grind[IntKind.wrap,IntKind.bits,IntKind.signed]
   ·rfl
section
variable{Δ:Env}{h:Hp}{w:World}{n:Nat}{t:Tm}{a:Act}
theorem ji{s:Sem Value}{x:Value}{w w':World}(h:s.run P0 w = .ok x w'):(do pure (Next.value (<-s)):Sem Next).run P0 w = .ok (.value x) w':=by simp[h]
theorem D4{k k':IntKind}(h:JU k k' = true):k=k':=by cases k <;> cases k' <;> first|rfl|cases h
theorem SL{op:BinOp} {k:IntKind} {x y:Int} {v:V} (ty:Nat) (w:World) (hs:Nw op=false) (a:hint op k x y=some v) :
  ∃r,(binOp op ty (.int k x) (.int k y)).run P0 w = .ok r w/\∀Δ,dj Δ v r:=by
 cases op with
 |shl=>cases hs
 |shr=>cases hs
 |add=>simp only[hint]at a;cases a;rw[mc];exact⟨_,by simp[binOp,Op.intArith],λΔ=> .int _ _⟩
 |sub=>simp only[hint]at a;cases a;rw[mc];exact⟨_,by simp[binOp,Op.intArith],λΔ=> .int _ _⟩
 |mul=>simp only[hint]at a;cases a;rw[mc];exact⟨_,by simp[binOp,Op.intArith],λΔ=> .int _ _⟩
 | quo=>
   have c:y≠0:=by rintro rfl;simp[hint]at a
   have b:some (V.int k (jr k (x.tdiv y)))=some v:=by
     rw[<-a];unfold hint;simp only;split
     ·simp_all
     ·rfl
   cases b;rw[mc];exact⟨_,by simp_all[binOp,Op.intDiv],λΔ=> .int _ _⟩
 | rem=>
   have c:y≠0:=by rintro rfl;simp[hint]at a
   have b:some (V.int k (x.tmod y))=some v:=by
     rw[<-a];unfold hint;simp only;split
     ·simp_all
     ·rfl
   cases b;exact⟨_,by simp_all[binOp,Op.intDiv],λΔ=> .int _ _⟩
 |and=>simp only[hint]at a;cases a;exact⟨_,by simp[binOp,Op.intBits],λΔ=> .int _ _⟩
 |or=>simp only[hint]at a;cases a;exact⟨_,by simp[binOp,Op.intBits],λΔ=> .int _ _⟩
 |xor=>simp only[hint]at a;cases a;exact⟨_,by simp[binOp,Op.intBits],λΔ=> .int _ _⟩
 |andNot=>simp only[hint]at a;cases a;exact⟨_,by simp[binOp,Op.intBits],λΔ=> .int _ _⟩
 |eql=>simp only[hint]at a;cases a;exact⟨_,by simp[binOp,Op.intCmp],λΔ=> .bool _⟩
 |neq=>simp only[hint]at a;cases a;exact⟨_,by simp[binOp,Op.intCmp],λΔ=> .bool _⟩
 |lss=>simp only[hint]at a;cases a;exact⟨_,by simp[binOp,Op.intCmp],λΔ=> .bool _⟩
 |leq=>simp only[hint]at a;cases a;exact⟨_,by simp[binOp,Op.intCmp],λΔ=> .bool _⟩
 |gtr=>simp only[hint]at a;cases a;exact⟨_,by simp[binOp,Op.intCmp],λΔ=> .bool _⟩
 |geq=>simp only[hint]at a;cases a;exact⟨_,by simp[binOp,Op.intCmp],λΔ=> .bool _⟩
theorem Ov{op:BinOp} {k k':IntKind} {x y:Int} {v:V} (ty:Nat) (w:World) (a:MZ op k x y=some v) :
  ∃r,(binOp op ty (.int k x) (.int k' y)).run P0 w = .ok r w/\∀Δ,dj Δ v r:=by
 unfold MZ at a;split at a
 ·cases a
 ·rename_i m;have b:¬((Int.ofNat m)<0):=by simp
  split at a
  ·cases a;exact⟨_,by rfl,λΔ=> .int _ _⟩
  ·cases a;exact⟨_,by rfl,λΔ=> .int _ _⟩
  ·cases a
theorem SB{op:BinOp} {x y:ByteArray} {v:V} (ty:Nat) (w:World) (a:Va op x.data.toList y.data.toList=some v) :
  ∃r,(binOp op ty (.string x) (.string y)).run P0 w = .ok r w/\∀Δ,dj Δ v r:=by
 have d:(binOp op ty (.string x) (.string y))=Op.stringOp op x y:=by cases op <;> rfl
 rw[d];have i:x.toList=x.data.toList:=ByteArray.toList_eq x;have j:y.toList=y.data.toList:=ByteArray.toList_eq y;cases op <;> simp only[Va]at a <;> try (cases a;done)
 case add=>
  split at a
  ·rename_i c;cases a;have b:=EN c;have f:¬(((x.size+y.size:Nat):Int)>IntKind.i64.max):=by
    have g:x.data.toList.length=x.size:=rfl;have h:y.data.toList.length=y.size:=rfl;rw[g,h]at b;simp only[IntKind.max,IntKind.signed,IntKind.bits,if_true];omega
   have e:x.data.toList++y.data.toList=(x++y).data.toList:=by simp
   rw[e];exact⟨_,by simp_all[Op.stringOp,if_neg],λΔ=> .str _⟩
  ·cases a
 all_goals
  cases a;refine⟨_,by simp_all[Op.stringOp],λΔ=> .bool _⟩
theorem Ci{op:BinOp} {ty:Nat} {X Y:Operand} {x y:Value} (w:World) (a:x≠ .nilIface) (b:∀c,x≠ .agg c) :
  (eqGuard op ty X Y x y).run P0 w = .ok () w:=by
 cases op <;> unfold eqGuard <;> dsimp only <;> simp only[Vq,UE,Kg,if_true,if_false] <;> first
  |rfl
  |simp_all
theorem ON{d:TypeDesc} {ty:Nat} {x y:V} {xv c:Value} {b:Bool} (w:World) (e:Nat) (f:P0.underlying ty=some d) (g:dj Δ x xv) (h:dj Δ y c)
  (a:RQ d x y=some b):(Op.equalIn (e+1) ty xv c).run P0 w = .ok b w:=by
 unfold RQ at a;split at a <;> first|(cases a;done)|skip
 all_goals
  first
   |cases a
   |(rw[ek]at a;obtain⟨_,a⟩:=a;cases a)
  cases g;cases h;simp only[Op.equalIn,rk,dt f,qf];rfl
theorem Px{a:Array (String×TypeId)} {ty:Nat} (w:World) (b:Nat) (c:P0.underlying ty=some (.interface a)) (d:a.isEmpty=true):(Op.eqGuardIn (b+1) ty .nilIface .nilIface).run P0 w = .ok false w:=by
 simp_all[Op.eqGuardIn,rk,dt,qf]
theorem SR{d:TypeDesc} {ty:Nat} {x y:V} {xv a:Value} {b:Bool} (w:World) (h:P0.underlying ty=some d) (i:dj Δ x xv) (j:dj Δ y a)
  (f:RQ d x y=some b):(Op.equal ty xv a).run P0 w = .ok b w/\(∀op X Y,(eqGuard op ty X Y xv a).run P0 w = .ok () w)/\
   (binOp .eql ty xv a)=(do pure (.bool (<-Op.equal ty xv a)))/\(binOp .neq ty xv a)=(do pure (.bool (!(<-Op.equal ty xv a)))):=by
 refine⟨ON w 9999 h i j f,?_⟩;unfold RQ at f;split at f <;> first|(cases f;done)|skip
 all_goals
  cases i;cases j
 all_goals refine⟨?_,rfl,rfl⟩
 all_goals intro op X Y
 any_goals (refine Ci w ?_ ?_ <;> first|(intro e;cases e;done)|(intro c e;simp_all))
 ·rename_i m;rw[ek]at f;have l:=f.1;have g:=Px w 9999 h l
  cases op <;> unfold eqGuard <;> dsimp only <;> simp only[Vq,UE,Kg,if_true,if_false] <;> first
   |rfl
   |(split
     ·rfl
     ·split
      ·rfl
      ·have k:Sem.run P0 (Op.eqGuardIn Op.maxDepth ty .nilIface .nilIface) w = .ok false w:=g
       simp_all)
 ·cases op <;> rfl
theorem UP{ty:Nat} {x y:V} {xv g:Value} {b:Bool} (w:World) (h:Nat) (d:dj Δ x xv) (f:dj Δ y g) (a:YK (P0.underlying ty) x y=some b) :
  (Op.equalIn (h+1) ty xv g).run P0 w = .ok b w/\G1 ty=some false:=by
 unfold YK at a;split at a
 ·rename_i c;cases d;cases f;cases a;refine⟨?_,by grind[G1]⟩;simp only[Op.equalIn,rk,dt c,qf];rfl
 ·rename_i c;cases d;cases f;rw[ek]at a;obtain⟨hk,a⟩:=a;obtain rfl:=D4 hk;cases a;refine⟨?_,by grind[G1]⟩;simp only[Op.equalIn,rk,dt c,qf,if_true];rfl
 ·rename_i c;cases d with|str xs=>cases f with|str ys=>
  cases a;refine⟨?_,by grind[G1]⟩;simp only[Op.equalIn,rk,dt c,qf];have e:(xs.data.toList == ys.data.toList)=(xs == ys):=by
   rw[show(xs == ys)=(xs.data == ys.data) from rfl,MN,CG,CG];exact by simp_all
  simp_all
 ·cases a
theorem FG{xs ys:List V} {a d:Array Value} (w:World) (i:Nat) (n:dS Δ xs a.toList) (o:dS Δ ys d.toList):∀{fs:List Field} {b:Bool},Fs fs xs ys=some b->
  ((do
    for f in fs do
      if f.name≠ "_" then
        if !(<-Op.equalIn (i+1) f.type (<-part f.type a f.offset) (<-part f.type d f.offset)) then return false
    pure true:Sem Bool)).run P0 w = .ok b w
 |[],b,h=>by cases h;rfl
 | f ::fs,b,h=>by
   simp only[Fs,ek,c7,Vo,QO]at h;obtain⟨z,x,r,y,s,c,t,A⟩:=h;obtain⟨xv,j,k⟩:=n.get _ _ (Hk r);obtain⟨p,l,m⟩:=o.get _ _ (Hk s);obtain⟨B,q⟩:=UP w i k m t;have u:(part f.type a f.offset).run P0 w = .ok xv w:=by
     have e:a[f.offset]? =some xv:=by simpa using j
     simp only[part,rk,AT q,qf,Kg,if_false];simp[e]
   have v:(part f.type d f.offset).run P0 w = .ok p w:=by
     have g:d[f.offset]? =some p:=by simpa using l
     simp only[part,rk,AT q,qf,Kg,if_false];simp[g]
   have C:=λ{b}=>FG w i n o (fs:=fs) (b:=b);cases c <;> simp_all
theorem UO{ty:Nat} {xs ys:List V} {xv a:Value} {b:Bool} (w:World) (d:dj Δ (.agg xs) xv) (e:dj Δ (.agg ys) a) (c:Rn ty xs ys=some b) :
  (Op.equal ty xv a).run P0 w = .ok b w/\(∀op X Y,(eqGuard op ty X Y xv a).run P0 w = .ok () w)/\
   (binOp .eql ty xv a)=(do pure (.bool (<-Op.equal ty xv a)))/\(binOp .neq ty xv a)=(do pure (.bool (!(<-Op.equal ty xv a)))):=by
 cases d with|agg _ xs' d=>cases e with|agg _ ys' e=>
 unfold Rn at c;split at c
 ·rename_i fs g;simp only[ek,Vo]at c;obtain⟨hs,h,c⟩:=c;refine⟨?_,λop X Y=>?_,rfl,rfl⟩
  ·have f:=FG w 9998 d e c;show(Op.equalIn (9999+1) ty (.agg xs') (.agg ys')).run P0 w=_;rw[Op.equalIn];simp only[rk,dt g,qf,run_program,hs,Kg,if_false,EJ,<-Array.forIn_toList]at f⊢;exact f
  ·cases op <;> unfold eqGuard <;> dsimp only <;> simp only[Vq,UE,Kg,if_true,if_false] <;> first
    |rfl
    |simp_all
 ·cases c
theorem TL{op:BinOp} {ty:Nat} {X Y:Operand} {x y v:V} {xv c:Value} (w:World) (l:dj Δ x xv) (m:dj Δ y c) (a:cX op ty x y=some v) :
  ∃r,(do eqGuard op ty X Y xv c;binOp op ty xv c:Sem Value).run P0 w = .ok r w/\dj Δ v r:=by
 unfold cX at a;split at a
 ·rename_i k p k' q;cases l;cases m;have n:=Ci (op:=op) (ty:=ty) (X:=X) (Y:=Y) (y:= .int k' q) w (x:= .int k p) (by simp) (by simp);split at a
  ·obtain⟨r,s,f⟩:=Ov (k':=k') ty w a
   simp_all
  ·rename_i hs;rw[ek]at a;obtain⟨hk,a⟩:=a;obtain rfl:=D4 hk;obtain⟨r,s,f⟩:=SL ty w hs a
   simp_all
 ·cases l with|str xs=>cases m with|str ys=>
  have n:=Ci (op:=op) (ty:=ty) (X:=X) (Y:=Y) (y:= .string ys) w (x:= .string xs) (by simp) (by simp);obtain⟨r,s,f⟩:=SB ty w a
  simp_all
 ·have i:∀g,OO ty g x y=some v->∃b,(Op.equal ty xv c).run P0 w = .ok b w/\(∀op X Y,(eqGuard op ty X Y xv c).run P0 w = .ok () w)/\
    (binOp .eql ty xv c)=(do pure (.bool (<-Op.equal ty xv c)))/\(binOp .neq ty xv c)=(do pure (.bool (!(<-Op.equal ty xv c))))/\v = .bool (Bool.rec (motive:=λ_=>Bool) b (!b) g):=by
   clear a;intro g e;unfold OO UM at e;rw[c7]at e;obtain⟨b,h,e⟩:=e;split at h
   ·obtain⟨o,j,t,u⟩:=UO w l m h
    simp_all
   unfold P9 at h;split at h
   ·rename_i d z;obtain⟨o,j,t,u⟩:=SR w z l m h
    simp_all
   ·cases h
  split at a
  ·obtain⟨b,o,j,t,_,rfl⟩:=i false a;have n:=j .eql X Y;exact⟨.bool b,by simp_all,.bool b⟩
  ·obtain⟨b,o,j,_,u,rfl⟩:=i true a;have n:=j .neq X Y;exact⟨.bool (!b),by simp_all,.bool _⟩
  ·cases a
theorem VJ{op:UnOp} {x v:V} {xv:Value} (w:World) (b:dj Δ x xv) (a:lB op x=some v):∃r,(Op.unary op xv).run P0 w = .ok r w/\dj Δ v r:=by
 unfold lB at a;split at a
 ·cases a;cases b;rw[mc];exact⟨_,rfl,.int _ _⟩
 ·cases a;cases b;exact⟨_,rfl,.bool _⟩
 ·simp only[hint]at a;cases a;cases b;exact⟨_,rfl,.int _ _⟩
 ·cases a
theorem Rv{src dst:Nat} {p:PF} {xv:Value} {v:V} (w:World) (j:¬∃e,P0.underlying src=some (.slice e)/\P0.underlying dst=some .string) (g:∀v,p.f t h=some v->dj Δ v xv) (a:(EU src dst p).f t h=some v) :
  ∃r,(convert src dst xv).run P0 w = .ok r w/\dj Δ v r:=by
 unfold EU at a;split at a
 ·rename_i k' k hs i;rw[c7]at a;obtain⟨x,c,b⟩:=a;have d:=g _ c;split at b
  ·cases b;cases d;rw[mc];exact⟨_,by simp_all[convert,dt,Conv.intToInt],.int _ _⟩
  ·cases b
 ·rename_i hs i;rw[c7]at a;obtain⟨x,c,b⟩:=a;have d:=g _ c;split at b
  ·cases b;cases d
   simp_all[convert,dt]
  ·cases b
 ·simp_all
 ·cases a
theorem FO{ty:Nat} {cs:List V} {a:Array Value} {off:Nat} {v:V} (w:World) (hc:dS Δ cs a.toList) (c:LJ ty cs off=some v) :
  ∃r,(part ty a off).run P0 w = .ok r w/\dj Δ v r:=by
 unfold LJ at c
 cases ha:G1 ty with
 |none=>simp_all
 |some b=>cases b with
 | true =>
   simp only[ha]at c
   cases hm:tu ty with
   |none=>simp_all
   | some m=>
     simp only[hm,c7]at c;obtain⟨l,f,g⟩:=c;cases g;obtain⟨h,j⟩:=sub_eq f;refine⟨.agg (a.extract off (off+m)),by simp_all[part,AT,rj],.agg _ _ (dS.Jf ?_ ?_)⟩
     ·have d:=hc.length
      have:∀i,i<m->off+i<cs.length:=by grind
      simp only[Sd]at d;simp only[Sd,Array.size_extract,h];rcases Nat.eq_zero_or_pos m with h0|h0
      ·omega
      ·have:=this (m-1) (by omega)
       omega
     ·intro i v hi
      have e:i<m:=by have:=(gL.1 hi).1;omega
      rw[j i e]at hi;obtain⟨x,k,n⟩:=hc.get _ _ hi
      simp_all
 | false=>
   simp only[ha]at c;obtain⟨x,k,n⟩:=hc.get _ _ (Hk c)
   simp_all[part,AT]
theorem GZ{s f:Nat} {a:Field} (h:Fu s f=some a):∃fs,P0.underlying s=some (.struct fs)/\fs[f]? =some a:=by
 grind[Fu]
theorem HC{s f:Nat} {p:PF} {xv:Value} {v:V} (w:World) (c:∀v,p.f t h=some v->dj Δ v xv) (a:(ma s p f).f t h=some v) :
  ∃r,(Instr.fieldAt s xv f).run P0 w = .ok r w/\dj Δ v r:=by
 unfold ma at a;split at a
 ·rename_i e g;obtain⟨fs,i,b⟩:=GZ g;split at a
  ·rename_i m j;simp only[c7,qV]at a;obtain⟨x,k,l,off,rfl,n⟩:=a;cases n
   cases c _ k with
   | ptr _ _ d o=>
     refine⟨_,by simp[Instr.fieldAt,dt i,b,Instr.sureAddr,fieldPlace,rj j,oh];rfl,?_⟩;have:=dj.ptr (Δ:=Δ) l (off+e.offset) d o
     grind
  ·cases a
 ·cases a
theorem O5{s f:Nat} {p:PF} {xv:Value} {v:V} (w:World) (e:∀v,p.f t h=some v->dj Δ v xv) (a:(BV s p f).f t h=some v) :
  ∃r,(Instr.field s xv f).run P0 w = .ok r w/\dj Δ v r:=by
 unfold BV at a;split at a
 ·rename_i l g;obtain⟨fs,m,i⟩:=GZ g;rw[c7]at a;obtain⟨x,j,b⟩:=a;have c:=e _ j;split at b
  ·cases c with
   | agg _ k hc=>
     obtain⟨r,c,d⟩:=FO w hc b
     simp_all[Instr.field,dt,asAgg]
  ·cases b
 ·cases a
theorem Ic{ty:Nat} {p q:PF} {xv y:Value} {v:V} (w:World) (z:∀v,p.f t h=some v->dj Δ v xv) (hq:∀v,q.f t h=some v->dj Δ v y)
  (a:(l0 ty p q).f t h=some v):∃r,(Instr.indexAt ty xv y).run P0 w = .ok r w/\dj Δ v r:=by
 unfold l0 at a;split at a
 ·rename_i e g;split at a
  ·rename_i m j;simp only[c7,CX]at a;obtain⟨x,k,i,n,kd,s,rfl,c⟩:=a;have A:=z _ k;cases hq _ n;split at c
   ·rename_i l off len;rw[ek]at c;obtain⟨b,c⟩:=c;cases c;rw[I3]at b
    cases A with
    | slice _ _ _ cap o d u hk C B=>
      rcases B with⟨rfl,_,_⟩|⟨hc,_⟩
      ·refine⟨_,by simp[Instr.indexAt,asIntOf,dt g,rj j,b,oh];rfl,?_⟩
       have:=dj.ptr (Δ:=Δ) l (off+s*m) d u
       grind
      ·omega
   ·cases c
  ·cases a
 ·rename_i len e g;split at a
  ·rename_i m j;simp only[c7,CX,qV,ek]at a;obtain⟨x,k,i,n,kd,s,rfl,l,off,rfl,b,c⟩:=a;cases c;rw[I3]at b;cases hq _ n
   cases z _ k with
   | ptr _ _ d u=>
     refine⟨_,by simp[Instr.indexAt,asIntOf,dt g,rj j,b,oh,Instr.sureAddr];rfl,?_⟩;have:=dj.ptr (Δ:=Δ) l (off+s*m) d u
     grind
  ·cases a
 ·cases a
theorem OZ{ty:Nat} {p q:PF} {xv u:Value} {v:V} (w:World) (y:∀v,p.f t h=some v->dj Δ v xv) (hq:∀v,q.f t h=some v->dj Δ v u)
  (c:(BR ty p q).f t h=some v):∃r,(Instr.index ty xv u).run P0 w = .ok r w/\dj Δ v r:=by
 unfold BR at c;split at c
 ·rename_i len z A;split at c
  ·rename_i m C;simp only[c7,CX]at c;obtain⟨x,k,i,l,kd,g,rfl,a⟩:=c;have n:=y _ k;cases hq _ l;split at a
   ·rw[ek]at a;obtain⟨d,a⟩:=a;rw[I3]at d
    cases n with
    | agg _ B hc=>
      obtain⟨r,D,j⟩:=FO w hc a;refine⟨r,?_,j⟩;have e:(Nat.mul g m)=g*m:=rfl
      simp_all[Instr.index,asIntOf,dt,rj]
   ·cases a
  ·cases c
 ·rename_i A;simp only[c7,CX]at c;obtain⟨x,k,i,l,kd,g,rfl,a⟩:=c;have n:=y _ k;cases hq _ l;split at a
  ·rw[c7]at a;obtain⟨b,o,a⟩:=a;cases a
   cases n with
   | str s=>
     rw[List.head?_drop]at o;have d:g<s.size:=(gL.1 o).1;have hs:s[g]? =some b:=by
       rw[getElem?_pos s g d];have:=(gL.1 o).2;simp only[Array.getElem_toList]at this;rw[<-this];rfl
     exact⟨.int .u8 b.toNat,by simp_all[Instr.index,asIntOf,dt],.int _ _⟩
  ·cases a
 ·cases c
end
section
variable{Δ:Env}{h:Hp}{w:World}{n:Nat}{t:Tm}{a:Act}
inductive yI (Δ:Env):Option V->Option Value->Prop
 |none:yI Δ none none
 |some (v:V) (a:Value) (h:dj Δ v a):yI Δ (some v) (some a)
theorem FA(c:WR Δ h w) (d:TR Δ n t a) {x:Option Operand} {v:Option V} (b:CI x t h=some v):yI Δ v (x.map a.eval):=by
 cases x with
 |none=>simp only[CI]at b;cases b;exact .none
 | some x=>
   simp only[CI,c7]at b;obtain⟨y,e,f⟩:=b;cases f;exact .some _ _ (hZ c d e)
theorem zV{d m:Nat} {lo:Option V} (a:hbound d lo=some m):(lo=none/\m=d)\/∃k,lo=some (.int k (.ofNat m)):=by
 unfold hbound at a;split at a
 ·simp_all
 ·simp_all
 ·cases a
theorem CY{k:IntKind} {m y:Nat} {c:BoundsCode} (w:World) (a:m<=y):(Instr.sliceBound (.int k (.ofNat m)) y c).run P0 w = .ok m w:=by
 have b:(0:Int)<=Int.ofNat m/\(Int.ofNat m)<=(y:Int):=by simp_all
 simp_all[Instr.sliceBound,asIntOf,rk,EJ,qf,if_pos]
theorem D8{Ue:Bool} {len cap l u:Nat} {lo hi:Option V} {b c:Option Value} (w:World) (d:yI Δ lo b) (a:yI Δ hi c)
  (h:hbound 0 lo=some l) (g:hbound len hi=some u) (e:l<=u) (f:u<=cap):(Instr.sliceBounds Ue len cap b c none).run P0 w = .ok (l,u,cap) w:=by
 rcases zV h with⟨rfl,rfl⟩|⟨k,rfl⟩
 ·cases d;rcases zV g with⟨rfl,rfl⟩|⟨k,rfl⟩
  ·cases a;rfl
  ·cases a with|some _ _ hr=>
   cases hr
   grind[Instr.sliceBounds,rk,EJ,qf,CY]
 ·cases d with|some _ _ hr=>
  cases hr;rcases zV g with⟨rfl,rfl⟩|⟨k,rfl⟩
  ·cases a
   grind[Instr.sliceBounds,rk,EJ,qf,CY]
  ·cases a with|some _ _ hr=>
   cases hr;simp only[Instr.sliceBounds,rk,EJ,qf,CY w f,CY w e]
theorem Mi(P:WR Δ h w) {ty f size:Nat} {x v:V} {xv:Value} {lo hi:Option V} {k m:Option Value} (N:dj Δ x xv) (p:yI Δ lo k) (q:yI Δ hi m)
  (W:P0.underlying ty=some (.slice f)) (hs:tu f=some (size+1)) (a:jl (Nat.succ size) x lo hi h=some v) :
  ∃r,(Instr.sliceAt ty xv k m none).run P0 w = .ok r w/\dj Δ v r:=by
 unfold jl at a;split at a
 ·rename_i lc off len;rw[hY]at a;obtain⟨e,sz,live,ro,cs,Q,a⟩:=a;simp only[ek,c7]at a;obtain⟨A,l,B,u,C,D,c,a⟩:=a;cases a;have g:=wC A;have s:=EN D
  cases N with
  | slice _ _ _ cap o d E hk F G=>
    obtain ⟨ob,t,R⟩:=P.obj lc d E;rw[Q]at t;cases t;obtain⟨_,i,S,_,_⟩:=R;have H:u<=cap:=by
      rw[Ie]at c;rcases c with c|c
      ·exact EY (EN c) F
      ·have O:off+u*(size+1)<=cs.length:=EN c
       rcases G with⟨_,j,_⟩|⟨hc,j⟩
       ·rw[i,<-g]at j
        have:u*(size+1)<=cap*(size+1):=by have e:Nat.succ size=size+1:=rfl;rw[e]at j;omega
        exact Nat.le_of_mul_le_mul_right this (by omega)
       grind
    have y:=D8 (Ue:=true) (len:=len) (cap:=cap) w p q B C s H;have T:l<=cap:=by omega
    refine⟨.slice (if cap=l then some ⟨d.b,o,none⟩ else some ⟨d.b,o+l*(size+1),none⟩) (u-l) (cap-l),?_,?_⟩
    ·simp_all[Instr.sliceAt,rk,dt,qf,Instr.slice,rj,oh]
    ·have z:cap*d.sz=l*d.sz+(cap-l)*d.sz:=by rw[<-PV];congr 1;omega
     have U:d.sz=size+1:=by rw[i,<-g]
     split
     ·rename_i I
      refine .slice lc (Nat.add off (Nat.mul l (Nat.succ size))) (Nat.sub u l) (cap-l) o d E hk ?_ (.inr ⟨by omega,?_⟩)
      ·simp_all
      grind
     ·rename_i I
      refine .slice lc (Nat.add off (Nat.mul l (Nat.succ size))) (Nat.sub u l) (cap-l) (o+l*(size+1)) d E hk ?_ (.inl ?_)
      ·simp_all
      ·show o+l*(size+1)=d.base+(off+l*(size+1))/\d.n<=off+l*(size+1)+(cap-l)*d.sz/\d.base+(off+l*(size+1))+(cap-l)*d.sz<=d.Pq
       rcases G with⟨G,j,J⟩|⟨hc,j⟩
       ·rw[U]at z j J⊢
        omega
       ·omega
 ·simp only[ek,c7]at a;obtain⟨l,B,u,C,F,K,a⟩:=a;cases a;have L:=wC F;have M:=wC K;subst L;subst M;cases N;have y:=D8 (Ue:=true) (len:=0) (cap:=0) w p q B C (iC _) (iC _);exact⟨.slice none 0 0,by simp_all[Instr.sliceAt,dt,Instr.slice,rj],.cQ⟩
 ·cases a
theorem L6{ty:Nat} {x v:V} {xv:Value} {lo hi:Option V} {b c:Option Value} (w:World) (i:dj Δ x xv) (d:yI Δ lo b) (e:yI Δ hi c)
  (m:P0.underlying ty=some .string) (a:I5 x lo hi=some v):∃r,(Instr.sliceAt ty xv b c none).run P0 w = .ok r w/\dj Δ v r:=by
 unfold I5 at a;split at a
 ·simp only[ek,c7]at a;obtain⟨l,j,u,k,f,g,a⟩:=a;cases a
  cases i with
  | str s=>
    have h:=D8 (Ue:=false) (len:=s.size) (cap:=s.size) w d e j k (EN f) (EN g);refine⟨.string (s.extract l u),by simp_all[Instr.sliceAt,dt,Instr.slice],?_⟩;have:=dj.str (Δ:=Δ) (s.extract l u)
    simp_all
 ·cases a
theorem Py(c:WR Δ h w) (d:TR Δ n t a) {ty:Nat} {p:PF} {xv:Value} {lo hi:Option Operand} {v:V} (o:∀v,p.f t h=some v->dj Δ v xv)
  (b:(Ed ty p lo hi).f t h=some v):∃r,(Instr.sliceAt ty xv (lo.map a.eval) (hi.map a.eval) none).run P0 w = .ok r w/\dj Δ v r:=by
 unfold Ed at b;split at b
 ·rename_i e;simp only[c7]at b;obtain⟨x,g,l,i,u,j,k⟩:=b;exact L6 w (o _ g) (FA c d i) (FA c d j) e k
 ·rename_i q e;split at b
  ·rename_i m s;simp only[c7]at b;obtain⟨x,g,l,i,u,j,k⟩:=b;exact Mi c (o _ g) (FA c d i) (FA c d j) e s k
  ·cases b
 ·cases b
theorem D0{ty:Nat} {x y:V} {xv c:Value} {b:Bool} (e:dj Δ x xv) (f:dj Δ y c) (a:D9 ty x y=some b) :
  (∀h w,(Op.equalIn (h+1) ty xv c).run P0 w = .ok b w)/\(∀d,P0.underlying ty=some d->Instr.sameNow d xv c=some b):=by
 unfold D9 at a;split at a
 ·rename_i g;split at a
  ·rw[ek]at a;obtain⟨hk,a⟩:=a;cases a;obtain rfl:=D4 hk;cases e;cases f
   grind[run_equalIn_int,Instr.sameNow]
  ·cases a
 ·rename_i g;split at a
  ·cases a;cases e with|str xs=>cases f <;> grind[run_equalIn_string,ByteArray.toList_eq,Instr.sameNow,beq_toListBytes]
  ·cases a
 ·rename_i g;split at a
  ·cases a;cases e;cases f
   grind[run_equalIn_bool',Instr.sameNow]
  ·cases a
 ·cases a
theorem Pf{ty:Nat} (a:zk ty=true):G1 ty=some false:=by
 grind[zk,G1]
theorem Eh{ty:Nat} {cs:List V} {a:Array Value} {off:Nat} {v:V} (w:World) (b:zk ty=true) (hc:dS Δ cs a.toList) (c:yx cs off=some v) :
  ∃x,(part ty a off).run P0 w = .ok x w/\dj Δ v x:=
 FO w hc (by grind[LJ,Pf])
theorem Km:∀{fs:List Field} {x y:List V} {xs ys:Array Value} {b:Bool},(∀f∈fs,zk f.type=true/\f.name≠ "_")->dS Δ x xs.toList->dS Δ y ys.toList->
  K0 fs x y=some b->∀a w,(Op.eqFields (a+1) xs ys fs).run P0 w = .ok b w
 |[],x,y,xs,ys,b,_,_,_,hv,a,w=>by simp[K0]at hv;subst hv;rfl
 | f::fs,x,y,xs,ys,b,hf,hx,hy,hv,a,w=>by
   simp only[K0,c7]at hv;obtain⟨p,i,q,j,e,k,l⟩:=hv;obtain⟨c,d⟩:=hf f (by simp);obtain⟨o,m,g⟩:=Eh w c hx i;obtain⟨r,hq,h⟩:=Eh w c hy j;have n:=(D0 g h k).1 a w;simp only[Op.eqFields];rw[if_pos d];simp only[rk,m,hq,n,qf]
   cases e with
   |false=>simp_all
   |true=>exact Km (by simp_all) hx hy l a w
theorem IE{ty:Nat} (a:CO ty=some none):zk ty=true:=by
 grind[CO,zk]
theorem Hm{ty:Nat} {fs:List Field} (a:CO ty=some (some fs)):∃b,P0.underlying ty=some (.struct b)/\b.toList=fs/\P0.stoodInHeld ty=false/\∀f∈fs,zk f.type=true/\f.name≠ "_" :=by
 unfold CO at a;split at a
 ·cases a
 ·cases a
 ·cases a
 ·rename_i b c;split at a
  ·grind
  ·cases a
 ·cases a
theorem Rp{ty:Nat} {d:Option (List Field)} {x y:V} {xv i:Value} {b:Bool} (k:CO ty=some d) (f:dj Δ x xv) (g:dj Δ y i) (a:Lj ty d x y=some b) (w:World) :
  (Op.equal ty xv i).run P0 w = .ok b w:=by
 cases d with
 |none=>exact(D0 f g a).1 9999 w
 | some fs=>
   obtain⟨h,j,c,hs,l⟩:=Hm k;simp only[Lj]at a;split at a
   ·cases f with|agg _ xs f=>cases g with|agg _ ys g=>
    have e:P0.fieldsOf ty=h:=by simp[Program.fieldsOf,j]
    have:=run_equalIn_struct (P:=P0) w 9999 ty xs ys (by rw[e];exact j) hs;rw[e,c]at this;exact this.trans (Km l f g a 9998 w)
   ·cases a
def TD(Δ:Env):Option (Nat×V)->Option (Nat×Value)->Prop
 |none,none=>True
 |some (i,v),some (i',v')=>i=i'/\dj Δ v v'
 |_,_=>False
theorem BG{ty:Nat} {d:Option (List Field)} {k:V} {f:Value} (g:CO ty=some d) (hk:dj Δ k f) (w:World):∀{c:List (V×V×Nat)} {a:List MapEntry} {i:Nat} {r:Option (Nat×V)},
  o0 Δ c a->rG ty d k c i=some r->∃r',(Instr.findAsking ty f a i).run P0 w = .ok r' w/\TD Δ r r'
 |_,_,i,r,.nil,hv=>by simp[rG]at hv;subst hv;exact⟨none,rfl,trivial⟩
 | _,_,i,r,.cons k' v n e c a hk' VE hb hs,hv=>by
   simp only[rG,c7]at hv;obtain⟨b,j,h⟩:=hv;have l:=Rp g hk hk' j w;simp only[Instr.findAsking,rk,l,qf]
   cases b with
   |true=>cases h;exact⟨some (i,e.val),rfl,rfl,VE⟩
   |false=>exact BG g hk w hs h
theorem FP{ty:Nat} {k:V} {d:Value} {ds:TypeDesc} (f:P0.underlying ty=some ds) (hk:dj Δ k d):∀{c:List (V×V×Nat)} {a:List MapEntry} {i:Nat} {r:Option (Nat×V)},
  o0 Δ c a->rG ty none k c i=some r->∃r',Instr.findNow ds d a i=some r'/\TD Δ r r'
 |_,_,i,r,.nil,hv=>by simp[rG]at hv;subst hv;exact⟨none,rfl,trivial⟩
 | _,_,i,r,.cons k' v n e c a hk' VE hb hs,hv=>by
   simp only[rG,c7]at hv;obtain⟨b,h,g⟩:=hv;have j:=(D0 hk hk' h).2 ds f;simp only[Instr.findNow,j]
   cases b with
   |true=>cases g;exact⟨some (i,e.val),rfl,rfl,VE⟩
   |false=>exact FP f hk hs g
theorem zb{ty:Nat} {d:Option (List Field)} {k:V} {i:Value} (f:CO ty=some d) (hk:dj Δ k i) (w:World) {b:List (V×V×Nat)} {a:List MapEntry} {r:Option (Nat×V)}
  (j:o0 Δ b a) (c:rG ty d k b 0=some r):∃r',(Instr.findKey ty i a).run P0 w = .ok r' w/\TD Δ r r':=by
 cases d with
 | none=>
   have m:=IE f;unfold zk at m
   cases l:P0.underlying ty with
   |none=>simp_all
   | some ds=>
     obtain⟨r',o,p⟩:=FP l hk j c
     simp_all[Instr.findKey,dt]
 | some fs=>
   obtain⟨q,l,_,_,_⟩:=Hm f
   cases j with
   | nil=>
     simp[rG]at c;subst c
     exact⟨none,by simp_all[Instr.findKey,dt,Instr.findNow],trivial⟩
   | cons k' v n e b a g h s hs=>
     obtain⟨r',o,p⟩:=BG f hk w (.cons k' v n e b a g h s hs) c
     simp_all[Instr.findNow,Instr.sameNow,Instr.findKey,rk,dt,qf]
theorem Af{em:Bool} {q:Nat} {cs:List V} {b:Array Value} (w:World) (hq:0<q) (hc:dS Δ cs b.toList):∀(fs:List Field),(∀f∈fs,zk f.type=true/\f.name≠ "_")->
  (fs.all λf=>(yx cs f.offset).isSome)=true->
  (forIn fs PUnit.unit (λf _=>if f.name≠ "_" then do
    let x <-part f.type b f.offset
    Instr.checkKey em q f.type x
    pure (ForInStep.yield PUnit.unit)
   else pure (ForInStep.yield PUnit.unit):Field->PUnit->Sem (ForInStep PUnit))).run P0 w = .ok PUnit.unit w
 |[],_,_=>rfl
 | f ::fs,hf,hh=>by
   obtain⟨m,rfl⟩:∃m,q=m+1:=by simp_all
   obtain ⟨a,c⟩:=hf f (by simp);simp only[Ul,rm]at hh;obtain⟨v,d⟩:=Option.isSome_iff_exists.1 hh.1;obtain⟨x,g,h⟩:=Eh w a hc d;have e:(Instr.checkKey em (m+1) f.type x).run P0 w = .ok () w:=by
     unfold zk at a;split at a
     ·simp_all[Instr.checkKey,dt]
     ·simp_all[Instr.checkKey,dt]
     ·simp_all[Instr.checkKey,dt]
     ·cases a
   have i:=Af (em:=em) (q:=m+1) w hq hc fs (by simp_all) hh.2
   simp_all
theorem sZ{ty:Nat} {d:Option (List Field)} {k:V} {e:Value} (em:Bool) (q:Nat) (hq:0<q) (w:World) (f:CO ty=some d) (hk:dj Δ k e) (c:Eg d k=true) :
  (Instr.checkKey em (q+1) ty e).run P0 w = .ok () w:=by
 cases d with
 | none=>
   have a:=IE f;unfold zk at a;split at a
   ·simp_all[Instr.checkKey,dt]
   ·simp_all[Instr.checkKey,dt]
   ·simp_all[Instr.checkKey,dt]
   simp_all
 | some fs=>
   obtain⟨g,j,b,_,h⟩:=Hm f;simp only[Eg]at c;split at c
   ·cases hk with
    | agg cs i hc=>
      have:=Af (em:=em) (q:=q) w hq hc fs h c;rw[<-b,Array.forIn_toList]at this
      simp_all[Instr.checkKey,rk,dt,qf]
   ·cases c
end
section
variable{Δ:Env}{h:Hp}{w:World}{n:Nat}{t:Tm}{a:Act}
theorem B2(g:WR Δ h w) {l:Nat} {d:D} (i:Δ l=some d) {e:List (V×V×Nat)} {c:Nat} (j:h.get l=some (.map e c)) :
  ∃a,w.heap[d.b]? =some (.map a c)/\o0 Δ e a.toList:=by
 obtain⟨o,f,k⟩:=g.obj l d i;rw[j]at f;cases f;obtain⟨_,_,_,a,m,n⟩:=k
 simp_all
theorem run_getObj_map{r:Nat}{a:Array MapEntry}{c:Nat}(b:w.heap[r]? =some (.map a c)):(getObj r).run P0 w = .ok (.map a c) w:=by grind[getObj,Sem.run]
theorem LL{z:V} {a:Value} {ok:Bool} {r:Option (Nat×V)} {r':Option (Nat×Value)} (c:dj Δ z a) (b:TD Δ r r') :
  dj Δ (found z ok r) (match r' with
   |some (_,v)=>if ok then .tuple #[v,.bool true] else v
   |none=>if ok then .tuple #[a,.bool false] else a):=by
 cases r with
 | none=>cases r' with
   |none=>cases ok
          ·exact c
          ·exact .tuple _ _ (.cons _ _ _ _ c (.one (.bool false)))
   |some _=>cases b
 | some x=>cases r' with
   |none=>cases b
   | some e=>
     obtain⟨_,d⟩:=b;cases ok
     ·exact d
     ·exact .tuple _ _ (.cons _ _ _ _ d (.one (.bool true)))
theorem MH(D:WR Δ h w) {u:Nat} {p q:PF} {ok:Bool} {x y:Value} {v:V} (E:∀v,p.f t h=some v->dj Δ v x) (hq:∀v,q.f t h=some v->dj Δ v y)
  (a:(A9 u p q ok).f t h=some v):∃r,(Instr.lookup u x y ok).run P0 w = .ok r w/\dj Δ v r:=by
 unfold A9 at a;split at a
 ·rename_i N O A;split at a
  ·rename_i d z j F;obtain⟨P,G,g,_⟩:=uL F;simp only[c7,ek]at a;obtain⟨m,H,k,I,B,b⟩:=a;have C:=E _ H;have hk:=hq _ I;split at b
   ·cases b;cases C;have i:=sZ true 9999 (by omega) w j hk B;have e:=zb j hk w o0.nil (r:=none) (by rfl);obtain⟨r',e,n⟩:=e;have o:r' = none:=by cases r' <;> first|rfl|cases n
    subst o;refine⟨_,?_,LL (ok:=ok) (r:=none) (r':=none) (g Δ) trivial⟩;simp only[Instr.lookup,rk,dt A,qf,EJ]
    simp_all
   ·simp only[uJ,c7]at b;obtain⟨Q,c,J,r,e,b⟩:=b;cases b
    cases C with
    | map l d' K=>
      obtain⟨s,L,M⟩:=B2 D K J;obtain⟨r',e,n⟩:=zb j hk w M e;have i:=sZ s.isEmpty 9999 (by omega) w j hk B;refine⟨_,?_,LL (ok:=ok) (g Δ) n⟩;simp only[Instr.lookup,rk,dt A,qf,EJ,run_getObj_map L,i,e]
      grind[rk,qf,EJ]
   ·cases b
  ·cases a
 ·cases a
theorem Sq(A:WR Δ h w) {ty:Nat} {o:Array Nat} (y:o[0]? =some ty) {rt:Nat} {p:PF} {xv:Value} {v:V} (z:∀v,p.f t h=some v->dj Δ v xv)
  (i:(hlen ty p).f t h=some v):∃r,(Builtin.len_ o rt #[xv]).run P0 w = .ok r w/\dj Δ v r:=by
 unfold hlen at i;split at i
 ·rename_i u;rw[c7]at i;obtain⟨x,n,g⟩:=i;have j:=z _ n;split at g
  ·cases g
   cases j with
   |str s=>exact⟨goInt s.size,by simp_all[Builtin.len_,dt],.int _ _⟩
  ·cases g
 ·rename_i e u;rw[c7]at i;obtain⟨x,n,g⟩:=i;have j:=z _ n;split at g
  ·rename_i lc off m;cases g;cases j;exact⟨goInt m,by simp_all[Builtin.len_,dt],.int _ _⟩
  ·cases g;cases j;exact⟨goInt 0,by simp_all[Builtin.len_,dt],.int _ _⟩
  ·cases g
 ·rename_i m e u;rw[c7]at i;obtain⟨x,n,g⟩:=i;cases g;exact⟨goInt m,by simp_all[Builtin.len_,dt],.int _ _⟩
 ·rename_i k e u;rw[c7]at i;obtain⟨x,n,g⟩:=i;have j:=z _ n;split at g
  ·cases g;cases j;exact⟨goInt 0,by simp_all[Builtin.len_,dt],.int _ _⟩
  ·rw[uJ]at g;obtain⟨B,c,C,g⟩:=g;cases g
   cases j with
   | map l d D=>
     obtain ⟨q,E,F⟩:=B2 A D C;have hlen:B.length=q.size:=by
       have:∀{a:List (V×V×Nat)} {b:List MapEntry},o0 Δ a b->a.length=b.length:=λh=>by induction h <;> simp_all
       simpa using this F
     refine⟨goInt q.size,by simp[Builtin.len_,y,dt u,run_getObj_map E],?_⟩;rw[hlen];exact .int _ _
  ·cases g
 ·cases i
theorem Jx{b:Bool} (w:World):∀{l:List V} {c:List Value} {x:V} {a:Value} {v:V},dj Δ x a->dS Δ l c->KZ b x l=some v->
  ∃r,(c.foldlM (if b then Builtin.max2 else Builtin.min2) a).run P0 w = .ok r w/\dj Δ v r
 |[],_,x,a,v,hx,hl,hv=>by simp[KZ]at hv;subst hv;cases hl;simp_all
 | y ::l,_,x,a,v,hx,hl,hv=>by
   cases hl with
   | cons _ h _ c e hs=>
     unfold KZ at hv;split at hv
     ·simp_all
     ·rename_i k p k' q r f
      cases f;cases hx;cases e;obtain⟨d,i,g⟩:=Jx w (.int k _) hs hv;refine⟨d,?_,g⟩;rw[List.foldlM_cons];simp only[rk];cases b
      ·simp_all[Kg,if_false,Builtin.min2,EJ,qf]
      simp_all[if_true,Builtin.max2,EJ,qf]
     ·cases hv
theorem Hh{ty:Nat} (hi:isIface ty=some false):∃d,P0.underlying ty=some d/\∀m,d≠ .interface m:=by
 grind[isIface]
theorem MJ{p:PF} {a xT:Nat} {ok:Bool} {xv:Value} {v:V} (w:World) (n:∀v,p.f t h=some v->dj Δ v xv)
  (c:(AR p a ok).f t h=some v):∃r,(Instr.typeAssert xv xT a ok).run P0 w = .ok r w/\dj Δ v r:=by
 unfold AR at c;split at c
 ·rename_i z hi o;obtain⟨m,q,g,_⟩:=uL o;obtain⟨d,i,A⟩:=Hh hi;rw[c7]at c;obtain⟨x,s,b⟩:=c;have j:=n _ s;split at b
  ·rename_i u y;cases b
   cases j with
   | iface _ _ k l=>
     rw[Ol];by_cases e:u=a
     ·have e':Nat.beq u a=true:=by rw[e];exact OW _
      rw[if_pos e'];refine⟨.tuple #[k,.bool true],?_,.tuple _ _ (.cons _ _ _ _ l (.one (.bool true)))⟩;simp only[Instr.typeAssert,rk,dt i,qf]
      simp_all
     ·have e':¬Nat.beq u a=true:=by simp_all
      rw[if_neg e'];refine⟨.tuple #[m,.bool false],?_,.tuple _ _ (.cons _ _ _ _ (g Δ) (.one (.bool false)))⟩;simp only[Instr.typeAssert,rk,dt i,qf]
      simp_all
  ·rename_i u y;rw[ek]at b;obtain⟨e,b⟩:=b;cases b;have e:=wC e
   cases j with
   | iface _ _ k l=>
     refine⟨k,?_,l⟩;simp only[Instr.typeAssert,rk,dt i,qf]
     simp_all
  ·cases b;cases j;refine⟨.tuple #[m,.bool false],?_,.tuple _ _ (.cons _ _ _ _ (g Δ) (.one (.bool false)))⟩;simp only[Instr.typeAssert,rk,dt i,qf]
   simp_all
  ·cases b
 ·cases c
theorem QC{c p q:PF} {d pv e:Value} {v:V} (w:World) (hc:∀v,c.f t h=some v->dj Δ v d) (k:∀v,p.f t h=some v->dj Δ v pv) (hq:∀v,q.f t h=some v->dj Δ v e)
  (a:(EX c p q).f t h=some v):∃r,(do pure (Next.value (if <-asBool d then pv else e)):Sem Next).run P0 w = .ok (.value r) w/\dj Δ v r:=by
 unfold EX at a;simp only[c7]at a;obtain⟨x,i,g⟩:=a;have j:=hc _ i;split at g
 ·rename_i b;cases j;cases b
  ·simp_all[asBool]
  simp_all[asBool]
 ·cases g
theorem Ji{p:PF} {x:Operand} {v:V} (w:World) (i:∀v,p.f t h=some v->dj Δ v (a.eval x)) (c:(uk p).f t h=some v) {dst ty pos af gd} :
  (execOp a.eval {dst:=dst,op:= .nilCheck x,type:=ty,pos:=pos,after:=af,guard:=gd}).run P0 w = .ok (.value (a.eval x)) w/\dj Δ v (a.eval x):=by
 unfold uk at c;rw[c7]at c;obtain⟨y,g,b⟩:=c;have e:=i _ g;simp only[execOp];generalize a.eval x=xv at e⊢;split at b
 ·cases b;cases e with|ptr _ _ d hd=>exact⟨rfl,.ptr _ _ d hd⟩
 ·cases b;cases e with|func _ _ _ p' q' g b=>exact⟨rfl,.func _ _ _ p' q' g b⟩
 ·cases b;cases e with|iface _ _ v' c=>exact⟨rfl,.iface _ _ v' c⟩
 ·cases b
theorem LB{p:PF} {i:Nat} {xv:Value} {v:V} (w:World) (d:∀v,p.f t h=some v->dj Δ v xv) (a:(Al p i).f t h=some v) :
  ∃r,(Instr.extract xv i).run P0 w = .ok r w/\dj Δ v r:=by
 unfold Al at a;rw[c7]at a;obtain⟨y,e,b⟩:=a;have g:=d _ e;split at b
 ·cases g with
  | tuple vs j c=>
    obtain⟨x,k,l⟩:=c.get _ _ (Hk b)
    simp_all[Instr.extract]
 ·cases b
theorem M3{cs:List V} {xs:List Value} {s:List UInt8} (e:dS Δ cs xs) (f:bytesOf cs=some s):xs=(s.map λb=>(b.toNat:Int)).map (Value.int .u8):=by
 induction cs generalizing xs s with
 |nil=>cases e;grind[bytesOf]
 | cons c cs h=>
   simp only[bytesOf,c7]at f;obtain⟨b,a,l,i,j⟩:=f;cases j
   cases e with
   | cons _ x _ xs k d=>
     rw[h d i];unfold byteOf at a;split at a
     ·rename_i m
      rw[ek]at a;obtain⟨g,n⟩:=a;cases n;cases k;have o:m<256:=by rw[I3]at g;exact g
      have:(UInt8.ofNat m).toNat=m:=by simp;omega
      grind
     ·cases a
theorem M1(l:List UInt8):∀(r:ByteArray),((l.map λb=>(b.toNat:Int)).foldl (λr n=>r.push (UInt8.ofNat n.toNat)) r).data.toList=r.data.toList++l:=by
 induction l <;> simp_all
theorem FC{src dst e:Nat} (hs:P0.underlying src=some (.slice e)) (i:P0.underlying dst=some .string) (j:P0.underlying e=some (.int .u8)) {ad:Option Addr} {len cap:Nat} {cs:List V} {s:List UInt8}
  (d:bytesOf cs=some s) (hc:∀b,ad=some b->∃xs,(loadCells b len).run P0 w = .ok (Array.mk xs) w/\dS Δ cs xs) (f:ad=none->s=[]) :
  ∃x,(convert src dst (.slice ad len cap)).run P0 w = .ok x w/\dj Δ (.str s) x:=by
 cases ad with
 | none=>
   cases f rfl
   exact⟨.string .empty,by simp_all[convert,dt,Conv.bytesToString],.str ByteArray.empty⟩
 | some b=>
   obtain⟨xs,c,g⟩:=hc b rfl;rw[M3 g d]at c;have h:=run_bytesToString (P:=P0) w b len cap _ c;generalize hB:(List.foldl (λr n=>ByteArray.push r (UInt8.ofNat n.toNat)) ByteArray.empty (List.map (λb=>(b.toNat:Int)) s))=B at h;have a:B.data.toList=s:=by rw[<-hB,M1];rfl
   refine⟨.string B,?_,by rw[<-a];exact .str B⟩
   simp_all[convert,rk,dt,qf]
theorem qu(c:WR Δ h w) {l:Nat} {d:D} (e:Δ l=some d) {off m:Nat} {cs:List V} (f:Bg h l off m=some cs) :
  ∃xs,(loadCells ⟨d.b,d.base+off,none⟩ m).run P0 w = .ok (Array.mk xs) w/\dS Δ cs xs:=by
 obtain⟨a,i,g⟩:=Dh c e f;exact⟨a.toList,by omega,g⟩
theorem KM{l off m:Nat} {cs:List V} (a:Bg h l off m=some cs):cs.length=m:=by
 grind[Bg,hY,ek,sub_eq]
theorem Pe(D:WR Δ h w) {src dst e:Nat} {p:PF} {xv:Value} {v:V} (hs:P0.underlying src=some (.slice e)) (g:P0.underlying dst=some .string) (m:∀v,p.f t h=some v->dj Δ v xv) (a:(EU src dst p).f t h=some v) :
  ∃r,(convert src dst xv).run P0 w = .ok r w/\dj Δ v r:=by
 unfold EU at a;rw[hs,g]at a;simp only at a;split at a
 ·rename_i j;simp only[c7]at a;obtain⟨x,n,c⟩:=a;have k:=m _ n;split at c
  ·cases c;cases k;exact FC (Δ:=Δ) (w:=w) (src:=src) (dst:=dst) (e:=e) (ad:=none) (len:=0) (cap:=0) (cs:=[]) (s:=[]) hs g j rfl (by simp_all) (by simp_all)
  ·rename_i l off len;simp only[c7]at c;obtain⟨cs,q,s,u,y⟩:=c;cases y
   cases k with
   | slice _ _ _ cap o d z hk A B=>
     have C:∃xs,(loadCells ⟨d.b,o,none⟩ len).run P0 w = .ok (Array.mk xs) w/\dS Δ cs xs:=by
       rcases B with⟨rfl,_,_⟩|⟨rfl,_⟩
       ·grind[qu]
       ·have:len=0:=by omega
        subst this;have i:cs=[]:=V3 (KM q);subst i;exact⟨[],by rfl,.nil⟩
     exact FC (Δ:=Δ) (w:=w) (src:=src) (dst:=dst) (e:=e) (ad:=some ⟨d.b,o,none⟩) (len:=len) (cap:=cap) hs g j u (by simp_all) (by simp_all)
  ·cases c
 ·cases a
theorem SA(J:WR Δ h w) (H:TR Δ n t a) {o:Oper} {v:V} (g:(fh o).f t h=some v):∃x,(execOp a.eval o).run P0 w = .ok (.value x) w/\dj Δ v x:=by
 obtain⟨dst,op,ty,pos,af,gd⟩:=o;have A:∀(x:Operand) v,(nK x).f t h=some v->dj Δ v (a.eval x):=by grind[hZ]
 cases op with
 |move x=>exact⟨_,rfl,A x v g⟩
 |assign x=>exact⟨_,rfl,A x v g⟩
 |pick c p q=>exact QC w (A c) (A p) (A q) g
 | load ty a'=>
   obtain⟨x,D,B⟩:=Hl J (A a') g
   exact⟨x,ji D,B⟩
 | nilCheck x=>
   obtain⟨D,B⟩:=Ji w (A x) g (dst:=dst) (ty:=ty) (pos:=pos) (af:=af) (gd:=gd)
   simp_all
 | binOp op U x y yt=>
   simp only[fh,c7]at g;obtain⟨p,D,q,B,K⟩:=g;obtain⟨r,u,z⟩:=TL (X:=x) (Y:=y) w (A x _ D) (A y _ B) K
   exact⟨r,ji u,z⟩
 | unOp op U x=>
   simp only[fh,c7]at g;obtain⟨p,D,B⟩:=g;obtain⟨r,u,z⟩:=VJ w (A x _ D) B
   exact⟨r,ji u,z⟩
 | convert src d x=>
   have L:∃r,(convert src d (a.eval x)).run P0 w = .ok r w/\dj Δ v r:=by
     by_cases hsl:∃e,P0.underlying src=some (.slice e)/\P0.underlying d=some .string
     ·obtain⟨e,D,B⟩:=hsl
      exact Pe J D B (A x) g
     ·exact Rv w hsl (A x) g
   obtain⟨r,u,z⟩:=L
   exact⟨r,ji u,z⟩
 | build ty parts=>
   obtain⟨r,u,z⟩:=OT H g;refine⟨r,ji ?_,z⟩;rw[<-u];congr 2
   grind
 | makeFunc fn first T=>
   cases fn with
   | func f=>
     simp only[fh,c7]at g;obtain⟨p,D,q,B,K⟩:=g;cases K;refine⟨_,rfl,.func f p q _ _ ?_ ?_⟩
     ·have:=wj H D;simp_all
     ·have:=wj H B;simp_all
   |_=>cases g
 | slice ty x lo hi W=>
   cases W with
   | none=>
     obtain⟨r,u,z⟩:=Py J H (A x) g
     exact⟨r,ji u,z⟩
   |some _=>cases g
 | fieldAddr s x f=>
   obtain⟨r,u,z⟩:=HC w (A x) g
   exact⟨r,ji u,z⟩
 | field s x f=>
   obtain⟨r,u,z⟩:=O5 w (A x) g
   exact⟨r,ji u,z⟩
 | indexAddr ty x i=>
   obtain⟨r,u,z⟩:=Ic w (A x) (A i) g
   exact⟨r,ji u,z⟩
 | index ty x i=>
   obtain⟨r,u,z⟩:=OZ w (A x) (A i) g
   exact⟨r,ji u,z⟩
 | lookup ty m k ok=>
   obtain⟨r,u,z⟩:=MH J (A m) (A k) g
   exact⟨r,ji u,z⟩
 | extract x i=>
   obtain⟨r,u,z⟩:=LB w (A x) g
   exact⟨r,ji u,z⟩
 | makeInterface ty x=>
   simp only[fh]at g;split at g
   ·rename_i hi
    obtain⟨d,Z,hd⟩:=Hh hi;simp only[c7]at g;obtain⟨p,D,B⟩:=g;cases B;refine⟨.iface ty (a.eval x),ji ?_,.iface _ _ _ (by simp_all)⟩;simp only[Instr.makeInterface,rk,dt Z,qf];rfl
   ·cases g
 | typeAssert x xT I ok=>
   obtain⟨r,u,z⟩:=MJ (xT:=xT) w (A x) g
   exact⟨r,ji u,z⟩
 | call c =>
   obtain⟨F,args,E⟩:=c;simp only[fh]at g
   cases F with
   | builtin b=>
     cases b <;> try (cases g;done)
     case len=>
       simp only at g;split at g
       ·rename_i x N aa j M
        have O:E[0]? =some N:=by rw[<-SW,M];rfl
        obtain⟨r,u,z⟩:=Sq J (rt:=ty) O (A x) g;refine⟨r,?_,z⟩;have P:args.map a.eval = #[a.eval x]:=by apply Array.ext';simp[j]
        simp only[execOp,resolve,P];exact ji u
       ·cases g
     case min=>
       simp only[c7]at g;obtain⟨l,D,B⟩:=g;split at B
       ·rename_i x r
        have C:=wj H D
        cases j:args.toList.map a.eval with
        |nil=>rw[j]at C;cases C
        | cons Q r'=>
          rw[j]at C
          cases C with
          | cons _ _ _ _ R S=>
            obtain⟨G,K,u⟩:=Jx w R S B;refine⟨G,?_,u⟩;have P:(args.map a.eval).toList=Q::r':=by simpa using j
            simp only[execOp,resolve];refine ji ?_
            grind[Builtin.min_]
       ·cases B
     case max=>
       simp only[c7]at g;obtain⟨l,D,B⟩:=g;split at B
       ·rename_i x r
        have C:=wj H D
        cases j:args.toList.map a.eval with
        |nil=>rw[j]at C;cases C
        | cons Q r'=>
          rw[j]at C
          cases C with
          | cons _ _ _ _ R S=>
            obtain⟨G,K,u⟩:=Jx w R S B;refine⟨G,?_,u⟩;have P:(args.map a.eval).toList=Q::r':=by simpa using j
            simp only[execOp,resolve];refine ji ?_
            grind[Builtin.max_]
       ·cases B
   |value f=>cases g
   |invoke r m=>cases g
 |_=>cases g
end
def RW(Δ:Env)(b:Nat):Prop:=∃l d,Δ l=some d/\d.ro=false/\d.b=b
structure FR (Δ a:Env) (w w':World):Prop where
 le:Δ.le a
 size:w.heap.size<=w'.heap.size
 os:w'.os=w.os
 tape:w'.tape=w.tape
 output:w'.output=w.output
 dO:∀b,b<w.heap.size->¬RW Δ b->w'.heap[b]? =w.heap[b]?
 new:∀l d,a l=some d->Δ l=some d\/w.heap.size<=d.b\/RW Δ d.b
theorem FR.refl(Δ:Env)(w:World):FR Δ Δ w w:=⟨Env.le_refl _,iC _,rfl,rfl,rfl,by simp_all,by simp_all⟩
theorem FR.trans{Δ m c:Env} {w w' e:World} (h:FR Δ m w w') (h':FR m c w' e):FR Δ c w e where
 le:=Env.le_trans h.le h'.le
 size:=EY h.size h'.size
 os:=h'.os.trans h.os
 tape:=h'.tape.trans h.tape
 output:=h'.output.trans h.output
 dO:=λb n o=>by
  rw[h'.dO b (EP n h.size) ?_,h.dO b n o];rintro⟨l,d,f,q,rfl⟩;rcases h.new l d f with a|a|a
  ·exact o ⟨l,d,a,q,rfl⟩
  ·omega
  simp_all
 new:=λl d f=>by
  rcases h'.new l d f with a|a|⟨p,d',g,i,j⟩
  ·exact h.new l d a
  ·exact .inr (.inl (EY h.size a))
  ·rcases h.new p d' g with k|k|k
   ·exact .inr (.inr ⟨p,d',k,i,j⟩)
   ·omega
   simp_all
theorem qp(h:Hp) (o:O) (l:Nat):(h.new o).get l=if h.next=l then some o else h.get l:=by
 rw[Hp.get_eq,Hp.get_eq];unfold Hp.new;simp only[Tr.Dd]
 grind
theorem k9{h:Hp} {l:Nat} (o:O) (m:Nat) (a:l<h.next):(h.put l o).get m=if l=m then some o else h.get m:=by
 rw[Hp.get_eq,Hp.get_eq];unfold Hp.put;simp only[Tr.Dd]
 grind
def Env.set(Δ:Env)(l:Nat)(d:D):Env:=λm=>if m=l then some d else Δ m
theorem Env.tx{Δ:Env} {l:Nat} {d:D} (h:Δ l=none):Δ.le (Δ.set l d):=λm e a=>by
 unfold Env.set
 grind
theorem Env.qY(Δ:Env)(l:Nat)(d:D):(Δ.set l d) l=some d:=if_pos rfl
theorem Env.iE{Δ:Env} {l m:Nat} {d e:D} (h:(Δ.set l d) m=some e):(m=l/\e=d)\/(m≠l/\Δ m=some e):=by
 unfold Env.set at h
 grind
theorem WR.A2{Δ:Env} {h:Hp} {w:World} (a:WR Δ h w):Δ h.next=none:=by
 cases hd:Δ h.next with
 |none=>rfl
 |some d=>exact absurd (a.fresh _ _ hd) (Wi _)
theorem heap_alloc(w:World) (ob:Obj) (b:Nat):(w.alloc ob).heap[b]? =if b=w.heap.size then some ob else w.heap[b]?:=by
 grind[World.alloc]
theorem xD.step{Δ a:Env} {w w':World} (h:xD Δ w) (hk:∀b,b<w.heap.size->¬RW Δ b->w'.heap[b]? =w.heap[b]?) (i:∀l d,a l=some d->d.ro=false->Δ l=some d\/w.heap.size<=d.b\/RW Δ d.b):xD a w':=by
 intro g c f;obtain⟨⟨e,fr,j⟩,k⟩:=h g c f
 grind[Sa,RW]
theorem WR.lay{Δ:Env} {h:Hp} {w:World} (c:WR Δ h w) {l:Nat} {o:O} {d:D} {ob:Obj} (x:Δ l=none) (z:l<h.next) (A:h.get l=some o) (B:d.b=w.heap.size)
  (C:K2 (Δ.set l d) d o (some ob)):WR (Δ.set l d) h (w.alloc ob) where
 fresh:=λm e a=>by
  rcases Env.iE a with⟨rfl,rfl⟩|⟨_,a⟩
  ·exact z
  ·exact c.fresh m e a
 jB:=λm e a=>by
  simp only[World.size_alloc];rcases Env.iE a with⟨rfl,rfl⟩|⟨_,a⟩
  ·omega
  ·have:=c.jB m e a;omega
 obj:=λm e a=>by
  rcases Env.iE a with⟨rfl,rfl⟩|⟨_,a⟩
  ·refine⟨o,A,?_⟩;rw[heap_alloc,if_pos B];exact C
  ·obtain⟨E,f,j⟩:=c.obj m e a;refine⟨E,f,?_⟩;rw[heap_alloc,if_neg (Xq (c.jB m e a))];exact j.mono (Env.tx x)
 apart:=λm y e e' p F a k n q r s i t=>by
  rcases Env.iE a with⟨f,j⟩|⟨_,f⟩ <;> rcases Env.iE k with⟨u,G⟩|⟨_,u⟩
  ·omega
  ·have:=c.jB y e' u;grind
  ·have:=c.jB m e f;grind
  ·exact c.apart m y e e' p F f u n q r s i t
 Cj:=λg p v q=>by
  obtain⟨e,f,j⟩:=c.Cj g p v q;exact⟨e,Env.tx x _ _ f,j⟩
 tP:=c.tP
 NK:=c.NK.step (by simp_all[heap_alloc,if_neg,Xq]) λm e a _=>by
  rcases Env.iE a with⟨rfl,rfl⟩|⟨_,a⟩
  ·omega
  simp_all
theorem WR.more{Δ:Env} {h:Hp} {w:World} (a:WR Δ h w) (o:O):WR Δ (h.new o) w where
 fresh:=λl d i=>WY (a.fresh l d i)
 jB:=a.jB
 obj:=λl d i=>by
  obtain⟨q,r,s⟩:=a.obj l d i;refine⟨q,?_,s⟩;rw[qp,if_neg (Nat.ne_of_gt (a.fresh l d i))];exact r
 apart:=λm t e e' p u n b j c f=>by
  rw[qp,if_neg (Nat.ne_of_gt (a.fresh _ _ n))]at c;rw[qp,if_neg (Nat.ne_of_gt (a.fresh _ _ b))]at f;exact a.apart m t e e' p u n b j c f
 Cj:=λg p k c=>by
  rw[qp,if_neg (by have:=a.tP;omega)]at c;exact a.Cj g p k c
 tP:=Yq a.tP
 NK:=a.NK
theorem FR.lay{Δ:Env} {w:World} {l:Nat} {d:D} {ob:Obj} (c:Δ l=none) (f:d.b=w.heap.size):FR Δ (Δ.set l d) w (w.alloc ob) where
 le:=Env.tx c
 size:=by simp
 os:=rfl
 tape:=rfl
 output:=rfl
 dO:=by simp_all[heap_alloc,if_neg,Xq]
 new:=λm e a=>by
  rcases Env.iE a with⟨rfl,rfl⟩|⟨_,a⟩
  ·omega
  simp_all
def Made(Δ:Env) (ob:O) (mk:Nat->V) (a:Obj) (c:Nat->Value):Prop:=∀l b,Δ l=none->∃d,d.b=b/\K2 (Δ.set l d) d ob (some a)/\dj (Δ.set l d) (mk l) (c b)
theorem wi{Δ:Env} {d:D} {cs:List V} {c:Array Value} {e:Nat} (hs:c.size=d.Pq) (a:d.base=0) (b:cs.length<=d.Pq) (hc:∀(i:Nat) (v:V),cs[i]? =some v->∃x,c[i]? =some x/\dj Δ v x) :
  AO Δ d cs (some (.cells c e (0,0))):=
 ⟨c,e,(0,0),rfl,hs,λ_=> .inl rfl,by omega,λi v hi=>by rw[a,yD];exact hc i v hi⟩
theorem Nr{Δ:Env} {e:Nat} {v:V} {xv:Value} {ob:O} {mk:Nat->V} (f:dj Δ v xv) (a:qd e v=some (ob,mk)) :
  Made Δ ob mk (.cells xv.cells e) (λb=> .pointer (some ⟨b,0,none⟩)):=by
 unfold qd at a;rw[ek]at a;obtain⟨_,a⟩:=a;cases a;intro l b h;have hc:=f.cells;have c:=Env.tx (d:=⟨b,0,1,v.cells.length,xv.cells.size,false,0⟩) h;refine⟨⟨b,0,1,v.cells.length,xv.cells.size,false,0⟩,rfl,⟨rfl,rfl,rfl,rfl,λ_=>?_⟩,?_⟩
 ·refine wi rfl rfl (U4 (by first|(simpa using hc.length)|(simpa using g.length))) λi u hi=>?_;obtain⟨x,f,g⟩:=hc.get i u hi;exact⟨x,by simp_all,g.mono c⟩
 ·exact dj.ptr l 0 ⟨b,0,1,v.cells.length,xv.cells.size,false,0⟩ (Env.qY _ _ _)
theorem AU{a size ic:Nat} {z:V} (h:elemOf a=some (size,ic,z)) :
  tu a=some size/\Ti a=some ic/\zeroV a=some z/\0<size/\z.cells.length=size/\dU z.cells=true:=by
 grind[elemOf,c7,ek,I3,wC]
theorem uE{t e:Nat} (h:Ba t=some e):P0.underlying t=some (.slice e):=by
 grind[Ba]
theorem KS(z:List V):∀(m i:Nat),(vP m z)[i]? =if i<m*z.length then z[i % z.length]? else none
 |0,i=>by simp[vP]
 | m + 1,i=>by
   simp only[vP,List.getElem?_append];by_cases a:i<z.length
   ·rw[if_pos a,if_pos (by grind),Nat.mod_eq_of_lt a]
   ·rw[if_neg a,KS z m]
    have e:i % z.length=(i-z.length) % z.length:=by
      rw[Nat.mod_eq_sub_mod (by omega)]
    grind
theorem wL(z:List V):∀m,(vP m z).length=m*z.length
 |0=>by simp[vP]
 |m+1=>by simp[vP,wL z m,PV,Nat.add_comm]
theorem Ll{Δ:Env} {z:List V} {a:Array Value} (b:dS Δ z a.toList) (h0:0<z.length) (m:Nat):dS Δ (vP m z) ((Array.range (m*z.length)).map λi=>a[i % a.size]!).toList:=by
 have hlen:=b.length;simp only[Sd]at hlen;refine dS.Jf (by simp[wL]) λi v hi=>?_;rw[KS]at hi;by_cases h:i<m*z.length
 ·rw[if_pos h]at hi;obtain⟨x,c,d⟩:=b.get _ _ hi
  grind
 simp_all
section
variable{Δ:Env}{h:Hp}{w:World}{n:Nat}{t:Tm}{a:Act}
theorem KW(hT:TR Δ n t a) {o:Oper} {ob:O} {mk:Nat->V} (g:(lK o).f t=some (ob,mk)) :
    ∃mo mv,(∀w,(execOp a.eval o).run P0 w = .ok (.value (mv w.heap.size)) (w.alloc mo))/\Made Δ ob mk mo mv:=by
  obtain⟨dst,op,ty,pos,af,gd⟩:=o
  cases op with
  | alloc e=>
    simp only[lK]at g;split at g
    ·rename_i z S
     obtain⟨y,J,D,_⟩:=uL S;refine⟨_,_,λw=>ji (x:= .pointer (some ⟨w.heap.size,0,none⟩)) ?_,Nr (D Δ) g⟩
     simp_all[Instr.alloc,newVar,newRow]
    ·cases g
  | box e x=>
    simp only[lK,c7]at g;obtain⟨v,T,R⟩:=g;refine⟨_,_,λw=>ji (x:= .pointer (some ⟨w.heap.size,0,none⟩)) ?_,Nr (Am hT T) R⟩
    rfl
  | buildSlice U len parts=>
    simp only[lK]at g;split at g
    ·rename_i s K
     have hu:=uE K;split at g
     ·rename_i size ic z he
      obtain⟨hs,_,S,W,F,_⟩:=AU he;obtain⟨y,J,D,_⟩:=uL S;split at g
      ·rename_i E
       have aj:len*size<=16777216:=EN E;simp only[Ap,c7,ek]at g;obtain⟨X,T,cs,R,_,L⟩:=g;cases L;have G:=(D Δ).cells;have A:=Ll G (by omega) len;have ak:y.cells.size=size:=by have:=G.length;simp only[Sd]at this;omega
       have j:dS Δ (vP len z.cells) ((Array.range (len*size)).map λi=>(if len*size=0 then(#[]:Array Value) else y.cells)[i % (if len*size=0 then(#[]:Array Value) else y.cells).size]!).toList:=by
         by_cases h0:len*size=0
         ·simp_all
         ·simp_all
       obtain⟨C,hf,hr⟩:=Fj (yV hT T) j R;refine⟨.cells C s,λb=> .slice (some ⟨b,0,none⟩) len len,λw=>ji (w:=w) (x:= .slice (some ⟨w.heap.size,0,none⟩) len len) ?_,?_⟩
       ·have B:(parts.map λ(x:Nat×Operand)=>(x.1,a.eval x.2)).toList=parts.toList.map λx=>(x.1,a.eval x.2):=by simp
        have aa:¬(len*size>2 ^ 24):=by omega
        have Y:(if len*size=0 then(pure #[]:Sem (Array Value)) else do pure (<-zeroValue s).cells).run P0 w = .ok (if len*size=0 then(#[]:Array Value) else y.cells) w:=by
          by_cases h0:len*size=0
          ·simp_all
          ·simp_all
        simp only[Instr.buildSlice,rk,dt hu,rj hs,qf,Sem.run_ite];rw[if_neg aa];simp only[EJ,qf,rk];clear j Y;by_cases h0:len*size=0
        ·simp only[if_pos h0]at hf⊢
         rw[B];have M:Instr.fill (λi=>some (i*size,size)) (Array.map (λx=>(#[]:Array Value)[x % (#[]:Array Value).size]!) (Array.range (len*size))) (List.map (λx=>(x.1,a.eval x.2)) parts.toList)=some C:=hf;rw[M];rfl
        ·simp only[if_neg h0,J,qf]at hf⊢
         rw[B];have M:Instr.fill (λi=>some (i*size,size)) (Array.map (λx=>y.cells[x % y.cells.size]!) (Array.range (len*size))) (List.map (λx=>(x.1,a.eval x.2)) parts.toList)=some C:=hf;rw[M];rfl
       ·intro l b hn
        have N:=hr.length;simp only[Sd]at N;have al:cs.length=len*size:=by
          have h5:∀{place:Nat->Option (Nat×Nat)} {X:List (Nat×V)} {c c':List V},wB place c X=some c'->c'.length=c.length:=by
            intro place X
            induction X with
            |nil=>grind[wB]
            | cons p X ih=>
              intro c c' h;simp only[wB,c7,ek]at h;obtain⟨q,_,_,am,h6,h7⟩:=h;rw[ih h7,(Ek h6).1]
          rw[h5 R,wL,F]
        have E:=Env.tx (d:=⟨b,0,size,cs.length,C.size,false,0⟩) hn;refine⟨⟨b,0,size,cs.length,C.size,false,0⟩,rfl,⟨rfl,rfl,rfl,rfl,λ_=>?_⟩,?_⟩
        ·refine wi rfl rfl (by simp_all) λi u hi=>?_
         obtain⟨x,hx,P⟩:=hr.get i u hi;exact⟨x,by simp_all,P.mono E⟩
        ·refine dj.slice l 0 len len 0 ⟨b,0,size,cs.length,C.size,false,0⟩ (Env.qY _ _ _) rfl (iC _) (.inl ⟨rfl,?_,?_⟩)
         ·simp_all
         simp_all
      ·cases g
     ·cases g
    ·cases g
  | makeSlice U m c=>
    simp only[lK]at g;split at g
    ·rename_i s K
     have hu:=uE K;split at g
     ·rename_i size ic z he
      obtain⟨hs,Q,S,W,F,_⟩:=AU he;obtain⟨y,J,D,i,hi,an⟩:=uL S;simp only[c7]at g;obtain⟨mv,T,cv,R,L⟩:=g;have hm:=Am hT T;have hc:=Am hT R;unfold fc at L;split at L
      ·rename_i H c'
       simp only[ek]at L;obtain⟨h4,h5,h6,h7⟩:=L;cases h7;have ab:H<=c':=EN h4;have ao:c'*ic<=281474976710656:=EN h5;have ac:c'<=1099511627776:=EN h6;have ae:i.bytes=ic:=by
         unfold Ti at Q;rw[c7]at Q;obtain⟨i',Z,hb⟩:=Q;rw[hi]at Z;cases Z;simpa using hb
       have G:=(D Δ).cells;have A:=Ll G (by omega) c';rw[F]at A;have ag:a.eval m = .int .i64 (H:Int):=by
         generalize a.eval m=x at hm;cases hm;rfl
       have ah:a.eval c = .int .i64 (c':Int):=by
         generalize a.eval c=x at hc;cases hc;rfl
       have wr:∀k:Nat,k<=1099511627776->IntKind.i64.wrap (k:Int)=k:=by grind[IntKind.wrap,IntKind.bits,IntKind.signed]
       refine⟨.cells ((Array.range (c'*size)).map λi=>y.cells[i % y.cells.size]!) s,λb=> .slice (some ⟨b,0,none⟩) H c',λw=>ji (w:=w) (x:= .slice (some ⟨w.heap.size,0,none⟩) H c') ?_,?_⟩
       ·rw[ag,ah]
        have e1:((i.bytes:Int)*(c':Int)>2 ^ 48)=False:=by
          rw[ae];have:(ic:Int)*(c':Int)=((c'*ic:Nat):Int):=by rw[Nat.mul_comm];simp
          rw[this];simp;omega
        have j:(if c'*size=0 then(pure #[]:Sem (Array Value)) else do pure (<-zeroValue s).cells).run P0 w = .ok (if c'*size=0 then(#[]:Array Value) else y.cells) w:=by
          by_cases h0:c'*size=0
          ·simp_all
          ·simp_all
        have I:((Array.range (c'*size)).map λi=>(if c'*size=0 then(#[]:Array Value) else y.cells)[i % (if c'*size=0 then(#[]:Array Value) else y.cells).size]!)=((Array.range (c'*size)).map λi=>y.cells[i % y.cells.size]!):=by
          by_cases h0:c'*size=0
          ·simp_all
          ·simp_all
        have c1:¬((c':Int)<0):=by omega
        have c2:¬((H:Int)<0):=by omega
        have c3:¬((H:Int)>(c':Int)):=by omega
        simp only[Instr.makeSlice,rk,dt hu,qf,asInt,asIntOf,EJ,typeInfo,run_program,hi,wr H (by omega),wr c' ac,e1,c1,c2,c3,decide_false,Bool.or_false,Kg,if_false,run_askRoom,rj hs,Int.toNat_natCast];clear j;by_cases h0:c'*size=0
        ·simp only[if_pos h0,newRow,run_newObj,rk,EJ,qf]at I⊢
         rw[I];rfl
        simp_all[if_neg,newRow,run_newObj,rk,EJ,qf]
       ·intro l b hn
        have N:=A.length;simp only[Sd]at N;have ai:(vP c' z.cells).length=c'*size:=by rw[wL,F]
        have E:=Env.tx (d:=⟨b,0,size,(vP c' z.cells).length,c'*size,false,0⟩) hn;refine⟨⟨b,0,size,(vP c' z.cells).length,c'*size,false,0⟩,rfl,⟨rfl,rfl,rfl,rfl,λ_=>?_⟩,?_⟩
        ·refine wi (by simp) rfl (U4 ai) λi u hi=>?_
         obtain⟨x,hx,P⟩:=A.get i u hi;exact⟨x,by grind,P.mono E⟩
        ·refine dj.slice l 0 H c' 0 ⟨b,0,size,(vP c' z.cells).length,c'*size,false,0⟩ (Env.qY _ _ _) rfl ab (.inl ⟨rfl,?_,?_⟩)
         ·simp_all
         simp_all
      ·cases L
     ·cases g
    ·cases g
  | makeMap U r=>
    cases r with
    | none=>
      simp only[lK]at g;split at g
      ·cases g
       refine⟨.map #[] 0,λb=> .map (some b),λw=>ji (x:= .map (some w.heap.size)) (by simp[Instr.makeMap]),?_⟩;intro l b hn;exact⟨⟨b,0,0,0,0,false,1⟩,rfl,⟨rfl,rfl,rfl,#[],rfl,.nil⟩,dj.map l ⟨b,0,0,0,0,false,1⟩ (Env.qY _ _ _)⟩
      ·cases g
    |some _=>cases g
  |_=>cases g
end
