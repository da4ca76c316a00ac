/- Parts. -/
import Derived.Test.YtpfjdlicdljhaaaDoorM01
import Derived.Laws.Pointers
import Derived.Laws.StructEq
import Derived.Laws.Strings2
import Derived.Laws.IdiomStrings
set_option maxHeartbeats 4000000
namespace Go.Proofs.YtpfjdlicdljhaaaDoor.Hx
inductive sB (Δ:Env):List (V×V×Nat)->List MapEntry->Prop
 |nil:sB Δ [] []
 | cons (k v:V) (n:Nat) (e:MapEntry) (b:List (V×V×Nat)) (a:List MapEntry) (hk:fF Δ k e.key) (c:fF Δ v e.val) (d:e.born=n)
   (hs:sB Δ b a):sB Δ ((k,v,n)::b) (e::a)
theorem sB.mono{Δ d:Env} (b:Δ.le d) {c:List (V×V×Nat)} {a:List MapEntry} (h:sB Δ c a):sB d c a:=by
 induction h with
 |nil=>exact .nil
 |cons k v n e c a hk f g _ i=>exact .cons k v n e c a (hk.mono b) (f.mono b) g i
def EK(Δ:Env) (d:D) (cs:List V) (ob:Option Obj):Prop:=∃c e fr,ob=some (.cells c e fr)/\c.size=d.Ui/\(d.ro=false->fr.1=fr.2\/d.Ui<=fr.1)/\d.base+cs.length<=d.Ui/\∀(i:Nat) (v:V),cs[i]? =some v->∃x,c[d.base+i]? =some x/\fF Δ v x
def Oq(Δ:Env) (d:D) (o:O) (ob:Option Obj):Prop:=match o with
 | .cells _ sz live ro cs=>d.kind=0/\d.sz=sz/\d.n=cs.length/\d.ro=ro/\(live=true->EK Δ d cs ob)
 | .map f a=>d.kind=1/\d.ro=false/\d.base=0/\∃c,ob=some (.map c a)/\sB Δ f c.toList
 | .iter m since seen last=>d.kind=2/\d.ro=false/\d.base=0/\∃e,ob=some (.mapIter e since seen.toArray last)/\
   (match m with
    |none=>e=none
    |some l=>∃d',Δ l=some d'/\e=some d'.b)
def O.live:O->Bool
 | .cells _ _ live _ _=>live
 |_=>true
def Bt(Δ:Env)(w:World):Prop:=∀g c,(g,c)∈za6->(∃e fr,w.heap[g]? =some (.cells c e fr))/\∀l d,Δ l=some d->d.ro=false->d.b≠g
structure WR (Δ:Env) (h:Hp) (w:World):Prop where
 fresh:∀l d,Δ l=some d->l<h.next
 mh:∀l d,Δ l=some d->d.b<w.heap.size
 obj:∀l d,Δ l=some d->∃o,h.get l=some o/\Oq Δ d o w.heap[d.b]?
 apart:∀l a d d' o c,Δ l=some d->Δ a=some d'->l≠a->h.get l=some o->h.get a=some c->o.live=true->c.live=true->
  (d.ro=false\/d'.ro=false)->d.b≠d'.b
 GA:∀g o,g<P0.globals.size->h.get g=some o->∃d,Δ g=some d/\d.b=g/\d.base=0
 xF:P0.globals.size<=h.next
 SW:Bt Δ w
inductive G9 (Δ:Env):List (Nat×List V)->List Deferred->Prop
 |nil:G9 Δ [] []
 | cons (g:Nat) (args:List V) (cap gz:Array Value) (l:List (Nat×List V)) (a:List Deferred) (b:gh Δ args (gz++cap).toList) (c:G9 Δ l a) :
   G9 Δ ((g,args)::l) ({target:= .fn (.func g) cap,args:=gz}::a)
theorem G9.mono{Δ c:Env} (b:Δ.le c) {l:List (Nat×List V)} {a:List Deferred} (h:G9 Δ l a):G9 c l a:=by
 induction h with
 |nil=>exact .nil
 |cons g args cap gz l a d _ e=>exact .cons g args cap gz l a (d.mono b) e
structure TR (Δ:Env) (n:Nat) (t:Tm) (a:Act):Prop where
 size:a.tmps.size=n
 rel:∀i,fF Δ (jl t i) (a.tmps.getD i undef)
 ds:G9 Δ t.ds a.defers
theorem EK.mono{Δ b:Env} (a:Δ.le b) {d:D} {cs:List V} {ob:Option Obj} (h:EK Δ d cs ob):EK b d cs ob:=by
 obtain⟨c,e,fr,f,g,j,k,l⟩:=h;exact⟨c,e,fr,f,g,j,k,λi v hi=>let⟨x,hx,hr⟩:=l i v hi;⟨x,hx,hr.mono a⟩⟩
theorem Oq.mono{Δ n:Env} (a:Δ.le n) {d:D} {o:O} {ob:Option Obj} (h:Oq Δ d o ob):Oq n d o ob:=by
 cases o with
 | cells e sz live ro cs=>
   obtain⟨c,f,g,i,b⟩:=h
   exact⟨c,f,g,i,λp=>(b p).mono a⟩
 | map t j=>
   obtain⟨c,f,g,k,i,b⟩:=h
   exact⟨c,f,g,k,i,b.mono a⟩
 | iter m since seen last=>
   obtain⟨c,f,g,q,i,b⟩:=h;refine⟨c,f,g,q,i,?_⟩
   cases m with
   |none=>exact b
   |some l=>obtain⟨d',r,s⟩:=b;exact⟨d',a _ _ r,s⟩
theorem TR.mono{Δ c:Env}(b:Δ.le c){n:Nat}{t:Tm}{a:Act}(h:TR Δ n t a):TR c n t a:=⟨h.size,λi=>(h.rel i).mono b,h.ds.mono b⟩
theorem fN{t:Nat}{d:TypeDesc}{w:World}(h:P0.underlying t=some d):(underlying t).run P0 w = .ok d w:=by simp[underlying,h]
theorem BX{t n:Nat} (h:wW t=some n):∃i,P0.info? t=some i/\i.size=n:=by
 grind[wW,fh]
theorem uJ{t n:Nat} {w:World} (h:wW t=some n):(sizeOf t).run P0 w = .ok n w:=by
 obtain⟨i,hi,rfl⟩:=BX h
 simp_all[sizeOf,typeInfo]
theorem Er{t:Nat} {b:Bool} {w:World} (h:Kd t=some b):(isAgg t).run P0 w = .ok b w:=by
 unfold Kd at h;split at h
 ·simp_all[isAgg,fN]
 ·simp_all[isAgg,fN]
 ·simp_all[isAgg,uZ,fN,tN]
 ·cases h
theorem yC{t:Nat} {z:V} (h:zeroV t=some z):∃a,(∀w,(zeroValue t).run P0 w = .ok a w)/\(∀Δ,fF Δ z a)/\∃i,P0.info? t=some i/\i.zero=some a:=by
 unfold zeroV at h;simp only[fh]at h;obtain⟨i,hi,a,b,c⟩:=h;exact⟨a,by simp_all[zeroValue,typeInfo],by grind[EF],i,hi,b⟩
theorem rM(b o n:Nat):(⟨b,o,none⟩:Addr).add n=⟨b,o+n,none⟩:=by
 grind[Addr.add]
section
variable{Δ:Env}{h:Hp}{w:World}{n:Nat}{t:Tm}{a:Act}
theorem DP(d:TR Δ n t a) {x:Operand} {v:V} (b:(LJ x).f t=some v):fF Δ v (a.eval x):=by
 cases x with
 |tmp i=>simp only[LJ]at b;cases b;exact d.rel i
 | const c=>
   simp only[LJ]at b;split at b
   ·rename_i y e;cases b;exact EF Δ 8 c _ e
   ·cases b
 |global g=>grind[LJ]
 |func f=>simp only[LJ]at b;cases b;exact .func f [] [] #[] #[] .nil .nil
theorem ke(k:WR Δ h w) (e:TR Δ n t a) {x:Operand} {v:V} (b:(rr x).f t h=some v):fF Δ v (a.eval x):=by
 cases x with
 | global g=>
   unfold rr at b
   cases Me:Nat.blt g P0.globals.size with
   | true=>
     simp only[Me,fh]at b;obtain⟨o,l,b⟩:=b;cases b;have m:g<P0.globals.size:=by rw[<-Nn];exact Me
     obtain⟨d,p,q,j⟩:=k.GA g o m l;have:=fF.ptr (Δ:=Δ) g 0 d p;rw[q,j]at this
     exact this
   |false=>simp_all
 |tmp i=>exact DP e b
 |const c=>exact DP e b
 |func f=>exact DP e b
theorem zL(b:TR Δ n t a):∀{l:List Operand} {vs:List V},Ha t l=some vs->gh Δ vs (l.map a.eval)
 |[],vs,hv=>by simp[Ha]at hv;subst hv;exact .nil
 | x::l,vs,hv=>by
   simp only[Ha,fh]at hv;obtain⟨v,c,d,e,f⟩:=hv;cases f;exact .cons _ _ _ _ (DP b c) (zL b e)
inductive VG (Δ:Env):List (Nat×V)->List (Nat×Value)->Prop
 |nil:VG Δ [] []
 |cons (i:Nat) (v:V) (a:Value) (l:List (Nat×V)) (b:List (Nat×Value)) (c:fF Δ v a) (hs:VG Δ l b):VG Δ ((i,v)::l) ((i,a)::b)
theorem Cj(b:TR Δ n t a):∀{l:List (Nat×Operand)} {vs:List (Nat×V)},sk t l=some vs->VG Δ vs (l.map λx=>(x.1,a.eval x.2))
 |[],vs,hv=>by simp[sk]at hv;subst hv;exact .nil
 | x::l,vs,hv=>by
   simp only[sk,fh]at hv;obtain⟨v,c,d,e,f⟩:=hv;cases f;exact .cons _ _ _ _ _ (DP b c) (Cj b e)
theorem Tl(f:WR Δ h w) {l:Nat} {d:D} (g:Δ l=some d) {e sz:Nat} {ro:Bool} {cs:List V} (j:h.get l=some (.cells e sz true ro cs))
  {i:Nat} {v:V} (hi:cs[i]? =some v):∃x,w.cell? ⟨d.b,d.base+i,none⟩=some x/\fF Δ v x:=by
 obtain⟨o,a,k⟩:=f.obj l d g;rw[j]at a;cases a;obtain⟨_,_,_,_,hc⟩:=k;obtain⟨c,e',fr,m,_,_,_,n⟩:=hc rfl
 grind[World.cell?]
theorem G3(i:WR Δ h w) {l:Nat} {d:D} (k:Δ l=some d) {off m:Nat} {cs:List V} (a:E2 h l off m=some cs) :
  ∃c,(loadCells ⟨d.b,d.base+off,none⟩ m).run P0 w = .ok c w/\gh Δ cs c.toList:=by
 unfold E2 at a;rw[j9]at a;obtain⟨e,sz,live,ro,all,n,a⟩:=a;rw[gL]at a;obtain⟨rfl,a⟩:=a;obtain⟨hlen,f⟩:=sub_eq a;have g:∀j,j<m->∃x v,w.cell? ⟨d.b,d.base+off+j,none⟩=some x/\cs[j]? =some v/\fF Δ v x:=by grind[ig,Tl,Nat.add_assoc]
 refine⟨_,run_loadCells w ⟨d.b,d.base+off,none⟩ m (λj=>(w.cell? ⟨d.b,d.base+off+j,none⟩).getD undef) (λj o=>?_),?_⟩
 ·grind[rM]
 grind[gh.Nm,jq]
theorem W1(c:WR Δ h w) {l:Nat} {d:D} (f:Δ l=some d) {off:Nat} {v:V} (a:ld1 h l off=some v) :
  ∃x,w.cell? ⟨d.b,d.base+off,none⟩=some x/\fF Δ v x:=by
 unfold ld1 at a;rw[j9]at a;obtain⟨e,sz,live,ro,all,g,a⟩:=a;rw[gL]at a;obtain⟨rfl,a⟩:=a;exact Tl c f g (Lm a)
theorem Lt(j:WR Δ h w) {ty:Nat} {p:PF} {xv:Value} (k:∀v,p.f t h=some v->fF Δ v xv) {v:V} (a:(I3 ty p).f t h=some v) :
  ∃x,(Instr.loadAt ty xv).run P0 w = .ok x w/\fF Δ v x:=by
 unfold I3 at a;split at a
 ·rename_i n;split at a
  ·rename_i m q;simp only[fh,uG]at a;obtain⟨av,c,l,off,rfl,cs,e,o⟩:=a;cases o
   cases k _ c with
   | ptr _ _ d g=>
     obtain⟨i,r,b⟩:=G3 j g e;exact⟨.agg i,by simp_all[Instr.loadAt,Instr.sureAddr,loadVar,Er,uJ],.agg _ _ b⟩
  ·cases a
 ·rename_i n;simp only[fh,uG]at a;obtain⟨av,c,l,off,rfl,e⟩:=a
  cases k _ c with
  | ptr _ _ d g=>
    obtain⟨x,s,b⟩:=W1 j g e
    simp_all[Instr.loadAt,Instr.sureAddr,loadVar,Er]
 ·cases a
theorem Jk:∀(fs:List Field) (pl:List (Nat×Nat)),placesOf fs=some pl->fs.mapM (λf=>(P0.info? f.type).map λi=>(f.offset,i.size))=some pl
 |[],pl,h=>by grind[placesOf]
 | f::fs,pl,h=>by
   simp only[placesOf,fh]at h;obtain⟨m,a,l,b,c⟩:=h;cases c;obtain⟨i,hi,rfl⟩:=BX a;simp[List.mapM_cons,hi,Jk fs l b]
theorem MI:∀(xs:List Value) (k off:Nat) (c:Array Value),off+k+xs.length<=c.size->
  ∀i,((xs.zipIdx k).foldl (λcs (p:Value×Nat)=>cs.setIfInBounds (off+p.2) p.1) c)[i]? =if off+k<=i/\i<off+k+xs.length then xs[i-(off+k)]? else c[i]?
 | [],k,off,c,_,i=>by
   simp_all[if_neg,Zs]
 | x::xs,k,off,c,hle,i=>by
   simp only[List.zipIdx_cons,List.foldl_cons];simp only[M0]at hle;rw[MI xs (k+1) off _ (by simp;omega)]
   grind
theorem JR{place:Nat->Option (Nat×Nat)}:∀{ps:List (Nat×V)} {XM:List (Nat×Value)} {cells cs:List V} {a:Array Value},VG Δ ps XM->gh Δ cells a.toList->
  Bg place cells ps=some cs->∃og,Instr.fill place a XM=some og/\gh Δ cs og.toList
 |_,_,cells,cs,a,.nil,hc,hf=>by simp[Bg]at hf;subst hf;exact⟨a,rfl,hc⟩
 | _,_,cells,cs,a,.cons i v v' l l' hv hs,hc,hf=>by
   simp only[Bg,fh,gL]at hf;obtain⟨⟨off,size⟩,G,s,n,t,u⟩:=hf;obtain⟨H,w,f⟩:=Ie t;have d:=hv.cells;have z:v'.cells.size=size:=by
     have:=d.length;rw[zR s]at this;simpa using this.symm
   have o:=hc.length;simp only[Xf]at o;have A:v.cells.length=v'.cells.size:=by simpa using d.length
   have B:¬(v'.cells.size≠size\/off+v'.cells.size>a.size):=by
     rintro(h|h)
     ·omega
     ·omega
   have g:gh Δ n (v'.cells.zipIdx.foldl (λcs (c,j)=>cs.setIfInBounds (off+j) c) a).toList:=by
     have b:=MI v'.cells.toList 0 off a (by simp;omega);have e:(v'.cells.zipIdx.foldl (λcs (c,j)=>cs.setIfInBounds (off+j) c) a)=((v'.cells.toList.zipIdx 0).foldl (λcs (p:Value×Nat)=>cs.setIfInBounds (off+p.2) p.1) a):=by
       rw[<-Array.foldl_toList];simp
     rw[e];generalize hF:((v'.cells.toList.zipIdx 0).foldl (λcs (p:Value×Nat)=>cs.setIfInBounds (off+p.2) p.1) a)=F at b;have C:F.size=a.size:=by
      apply Nat.le_antisymm
      ·rcases Rl a.size F.size with q|r
       ·have:=b a.size
        grind
       omega
      ·rcases Rl F.size a.size with q|r
       ·have:=b F.size
        grind
       omega
     refine gh.Nm (by simp_all) λj x k=>?_;rw[f j]at k;have m:=b j;simp only[XC,Xf]at m;rw[X2,m];by_cases hin:off<=j/\j<off+v.cells.length
     ·rw[if_pos hin]at k
      rw[if_pos (by omega)];exact d.get _ _ k
     ·rw[if_neg hin]at k
      rw[if_neg (by omega)];obtain⟨y,I,D⟩:=hc.get _ _ k
      simp_all
   obtain⟨og,E,D⟩:=JR hs g u
   simp_all[Instr.fill,if_neg]
theorem UE(o:TR Δ n t a) {ty:Nat} {parts:List (Nat×Operand)} {v:V} (b:(F0 ty parts).f t h=some v) :
  ∃x,(Instr.build ty (parts.map λx=>(x.1,a.eval x.2)).toArray).run P0 w = .ok x w/\fF Δ v x:=by
 unfold F0 at b;split at b
 ·rename_i z q;obtain⟨A,_,g,i,hi,r⟩:=yC q;have c:=(g Δ).cells;split at b
  ·rename_i d s;split at b
   ·rename_i e B;simp only[fh]at b;obtain⟨ps,j,cs,k,l⟩:=b;cases l;obtain⟨og,u,m⟩:=JR (Cj o j) c k;refine⟨.agg og,?_,.agg _ _ m⟩
    simp_all[run_build,Program.built,Jk]
   ·cases b
  ·rename_i len p s;split at b
   ·rename_i size hs;obtain⟨C,y,rfl⟩:=BX hs;simp only[fh]at b;obtain⟨ps,j,cs,k,l⟩:=b;cases l;obtain⟨og,u,m⟩:=JR (Cj o j) c k;refine⟨.agg og,?_,.agg _ _ m⟩
    simp_all[run_build,Program.built]
   ·cases b
  ·cases b
 ·cases b
end
theorem pB(k:IntKind) (n:Int):ll k n=k.wrap n:=by
 unfold ll
 cases n with
 |negSucc m=>rfl
 | ofNat m=>
   simp only;split
   ·rename_i a
    rw[Nn]at a;have e:(Int.ofNat m)=(m:Int):=rfl
    grind[IntKind.wrap,IntKind.bits,IntKind.signed]
   ·rfl
section
variable{Δ:Env}{h:Hp}{w:World}{n:Nat}{t:Tm}{a:Act}
theorem lM{s:Sem Value}{x:Value}{w w':World}(h:s.run P0 w = .ok x w'):(do pure (Next.value (<-s)):Sem Next).run P0 w = .ok (.value x) w':=by simp[h]
theorem HS{k k':IntKind}(h:NJ k k' = true):k=k':=by cases k <;> cases k' <;> first|rfl|cases h
theorem YP{op:BinOp} {k:IntKind} {x y:Int} {v:V} (ty:Nat) (w:World) (hs:SX op=false) (a:hint op k x y=some v) :
  ∃r,(binOp op ty (.int k x) (.int k y)).run P0 w = .ok r w/\∀Δ,fF Δ v r:=by
 cases op with
 |shl=>cases hs
 |shr=>cases hs
 |add=>simp only[hint]at a;cases a;rw[pB];exact⟨_,by simp[binOp,Op.intArith],λΔ=> .int _ _⟩
 |sub=>simp only[hint]at a;cases a;rw[pB];exact⟨_,by simp[binOp,Op.intArith],λΔ=> .int _ _⟩
 |mul=>simp only[hint]at a;cases a;rw[pB];exact⟨_,by simp[binOp,Op.intArith],λΔ=> .int _ _⟩
 | quo=>
   have c:y≠0:=by rintro rfl;simp[hint]at a
   have b:some (V.int k (ll k (x.tdiv y)))=some v:=by
     rw[<-a];unfold hint;simp only;split
     ·simp_all
     ·rfl
   cases b;rw[pB];exact⟨_,by simp_all[binOp,Op.intDiv],λΔ=> .int _ _⟩
 | rem=>
   have c:y≠0:=by rintro rfl;simp[hint]at a
   have b:some (V.int k (x.tmod y))=some v:=by
     rw[<-a];unfold hint;simp only;split
     ·simp_all
     ·rfl
   cases b;exact⟨_,by simp_all[binOp,Op.intDiv],λΔ=> .int _ _⟩
 |and=>simp only[hint]at a;cases a;exact⟨_,by simp[binOp,Op.intBits],λΔ=> .int _ _⟩
 |or=>simp only[hint]at a;cases a;exact⟨_,by simp[binOp,Op.intBits],λΔ=> .int _ _⟩
 |xor=>simp only[hint]at a;cases a;exact⟨_,by simp[binOp,Op.intBits],λΔ=> .int _ _⟩
 |andNot=>simp only[hint]at a;cases a;exact⟨_,by simp[binOp,Op.intBits],λΔ=> .int _ _⟩
 |eql=>simp only[hint]at a;cases a;exact⟨_,by simp[binOp,Op.intCmp],λΔ=> .bool _⟩
 |neq=>simp only[hint]at a;cases a;exact⟨_,by simp[binOp,Op.intCmp],λΔ=> .bool _⟩
 |lss=>simp only[hint]at a;cases a;exact⟨_,by simp[binOp,Op.intCmp],λΔ=> .bool _⟩
 |leq=>simp only[hint]at a;cases a;exact⟨_,by simp[binOp,Op.intCmp],λΔ=> .bool _⟩
 |gtr=>simp only[hint]at a;cases a;exact⟨_,by simp[binOp,Op.intCmp],λΔ=> .bool _⟩
 |geq=>simp only[hint]at a;cases a;exact⟨_,by simp[binOp,Op.intCmp],λΔ=> .bool _⟩
theorem TU{op:BinOp} {k k':IntKind} {x y:Int} {v:V} (ty:Nat) (w:World) (a:Q5 op k x y=some v) :
  ∃r,(binOp op ty (.int k x) (.int k' y)).run P0 w = .ok r w/\∀Δ,fF Δ v r:=by
 unfold Q5 at a;split at a
 ·cases a
 ·rename_i m;have b:¬((Int.ofNat m)<0):=by simp
  split at a
  ·cases a;exact⟨_,by rfl,λΔ=> .int _ _⟩
  ·cases a;exact⟨_,by rfl,λΔ=> .int _ _⟩
  ·cases a
theorem X5{op:BinOp} {x y:ByteArray} {v:V} (ty:Nat) (w:World) (a:ZO op x.data.toList y.data.toList=some v) :
  ∃r,(binOp op ty (.string x) (.string y)).run P0 w = .ok r w/\∀Δ,fF Δ v r:=by
 have d:(binOp op ty (.string x) (.string y))=Op.stringOp op x y:=by cases op <;> rfl
 rw[d];have i:x.toList=x.data.toList:=ByteArray.toList_eq x;have j:y.toList=y.data.toList:=ByteArray.toList_eq y;cases op <;> simp only[ZO]at a <;> try (cases a;done)
 case add=>
  split at a
  ·rename_i c;cases a;have b:=Jd c;have f:¬(((x.size+y.size:Nat):Int)>IntKind.i64.max):=by
    have g:x.data.toList.length=x.size:=rfl;have h:y.data.toList.length=y.size:=rfl;rw[g,h]at b;simp only[IntKind.max,IntKind.signed,IntKind.bits,if_true];omega
   have e:x.data.toList++y.data.toList=(x++y).data.toList:=by simp
   rw[e];exact⟨_,by simp_all[Op.stringOp,if_neg],λΔ=> .str _⟩
  ·cases a
 all_goals
  cases a;refine⟨_,by simp_all[Op.stringOp],λΔ=> .bool _⟩
theorem FV{op:BinOp} {ty:Nat} {X Y:Operand} {x y:Value} (w:World) (a:x≠ .nilIface) (b:∀c,x≠ .agg c) :
  (eqGuard op ty X Y x y).run P0 w = .ok () w:=by
 cases op <;> unfold eqGuard <;> dsimp only <;> simp only[wB3,ZF,Oh,if_true,if_false] <;> first
  |rfl
  |simp_all
theorem Ub{d:TypeDesc} {ty:Nat} {x y:V} {xv c:Value} {b:Bool} (w:World) (e:Nat) (f:P0.underlying ty=some d) (g:fF Δ x xv) (h:fF Δ y c)
  (a:Vp d x y=some b):(Op.equalIn (e+1) ty xv c).run P0 w = .ok b w:=by
 unfold Vp at a;split at a <;> first|(cases a;done)|skip
 all_goals
  first
   |cases a
   |(rw[gL]at a;obtain⟨_,a⟩:=a;cases a)
  cases g;cases h;simp only[Op.equalIn,uZ,fN f,tN];rfl
theorem TI{a:Array (String×TypeId)} {ty:Nat} (w:World) (b:Nat) (c:P0.underlying ty=some (.interface a)) (d:a.isEmpty=true):(Op.eqGuardIn (b+1) ty .nilIface .nilIface).run P0 w = .ok false w:=by
 simp_all[Op.eqGuardIn,uZ,fN,tN]
theorem XB{d:TypeDesc} {ty:Nat} {x y:V} {xv a:Value} {b:Bool} (w:World) (h:P0.underlying ty=some d) (i:fF Δ x xv) (j:fF Δ y a)
  (f:Vp d x y=some b):(Op.equal ty xv a).run P0 w = .ok b w/\(∀op X Y,(eqGuard op ty X Y xv a).run P0 w = .ok () w)/\
   (binOp .eql ty xv a)=(do pure (.bool (<-Op.equal ty xv a)))/\(binOp .neq ty xv a)=(do pure (.bool (!(<-Op.equal ty xv a)))):=by
 refine⟨Ub w 9999 h i j f,?_⟩;unfold Vp at f;split at f <;> first|(cases f;done)|skip
 all_goals
  cases i;cases j
 all_goals refine⟨?_,rfl,rfl⟩
 all_goals intro op X Y
 any_goals (refine FV w ?_ ?_ <;> first|(intro e;cases e;done)|(intro c e;simp_all))
 ·rename_i m;rw[gL]at f;have l:=f.1;have g:=TI w 9999 h l
  cases op <;> unfold eqGuard <;> dsimp only <;> simp only[wB3,ZF,Oh,if_true,if_false] <;> first
   |rfl
   |(split
     ·rfl
     ·split
      ·rfl
      ·have k:Sem.run P0 (Op.eqGuardIn Op.maxDepth ty .nilIface .nilIface) w = .ok false w:=g
       simp_all)
 ·cases op <;> rfl
theorem zaK{ty:Nat} {x y:V} {xv g:Value} {b:Bool} (w:World) (h:Nat) (d:fF Δ x xv) (f:fF Δ y g) (a:eq1 (P0.underlying ty) x y=some b) :
  (Op.equalIn (h+1) ty xv g).run P0 w = .ok b w/\Kd ty=some false:=by
 unfold eq1 at a;split at a
 ·rename_i c;cases d;cases f;cases a;refine⟨?_,by grind[Kd]⟩;simp only[Op.equalIn,uZ,fN c,tN];rfl
 ·rename_i c;cases d;cases f;rw[gL]at a;obtain⟨hk,a⟩:=a;obtain rfl:=HS hk;cases a;refine⟨?_,by grind[Kd]⟩;simp only[Op.equalIn,uZ,fN c,tN,if_true];rfl
 ·rename_i c;cases d with|str xs=>cases f with|str ys=>
  cases a;refine⟨?_,by grind[Kd]⟩;simp only[Op.equalIn,uZ,fN c,tN];have e:(xs.data.toList == ys.data.toList)=(xs == ys):=by
   rw[show(xs == ys)=(xs.data == ys.data) from rfl,Rc,IB,IB];exact by simp_all
  simp_all
 ·cases a
theorem KG{xs ys:List V} {a d:Array Value} (w:World) (i:Nat) (n:gh Δ xs a.toList) (o:gh Δ ys d.toList):∀{fs:List Field} {b:Bool},JP fs xs ys=some b->
  ((do
    for f in fs do
      if f.name≠ "_" then
        if !(<-Op.equalIn (i+1) f.type (<-part f.type a f.offset) (<-part f.type d f.offset)) then return false
    pure true:Sem Bool)).run P0 w = .ok b w
 |[],b,h=>by cases h;rfl
 | f ::fs,b,h=>by
   simp only[JP,gL,fh,wBg,UT]at h;obtain⟨z,x,r,y,s,c,t,A⟩:=h;obtain⟨xv,j,k⟩:=n.get _ _ (Lm r);obtain⟨p,l,m⟩:=o.get _ _ (Lm s);obtain⟨B,q⟩:=zaK w i k m t;have u:(part f.type a f.offset).run P0 w = .ok xv w:=by
     have e:a[f.offset]? =some xv:=by simpa using j
     simp only[part,uZ,Er q,tN,Oh,if_false];simp[e]
   have v:(part f.type d f.offset).run P0 w = .ok p w:=by
     have g:d[f.offset]? =some p:=by simpa using l
     simp only[part,uZ,Er q,tN,Oh,if_false];simp[g]
   have C:=λ{b}=>KG w i n o (fs:=fs) (b:=b);cases c <;> simp_all
theorem zak{ty:Nat} {xs ys:List V} {xv a:Value} {b:Bool} (w:World) (d:fF Δ (.agg xs) xv) (e:fF Δ (.agg ys) a) (c:Wi ty xs ys=some b) :
  (Op.equal ty xv a).run P0 w = .ok b w/\(∀op X Y,(eqGuard op ty X Y xv a).run P0 w = .ok () w)/\
   (binOp .eql ty xv a)=(do pure (.bool (<-Op.equal ty xv a)))/\(binOp .neq ty xv a)=(do pure (.bool (!(<-Op.equal ty xv a)))):=by
 cases d with|agg _ xs' d=>cases e with|agg _ ys' e=>
 unfold Wi at c;split at c
 ·rename_i fs g;simp only[gL,wBg]at c;obtain⟨hs,h,c⟩:=c;refine⟨?_,λop X Y=>?_,rfl,rfl⟩
  ·have f:=KG w 9998 d e c;show(Op.equalIn (9999+1) ty (.agg xs') (.agg ys')).run P0 w=_;rw[Op.equalIn];simp only[uZ,fN g,tN,run_program,hs,Oh,if_false,Jg,<-Array.forIn_toList]at f⊢;exact f
  ·cases op <;> unfold eqGuard <;> dsimp only <;> simp only[wB3,ZF,Oh,if_true,if_false] <;> first
    |rfl
    |simp_all
 ·cases c
theorem YD{op:BinOp} {ty:Nat} {X Y:Operand} {x y v:V} {xv c:Value} (w:World) (l:fF Δ x xv) (m:fF Δ y c) (a:eo op ty x y=some v) :
  ∃r,(do eqGuard op ty X Y xv c;binOp op ty xv c:Sem Value).run P0 w = .ok r w/\fF Δ v r:=by
 unfold eo at a;split at a
 ·rename_i k p k' q;cases l;cases m;have n:=FV (op:=op) (ty:=ty) (X:=X) (Y:=Y) (y:= .int k' q) w (x:= .int k p) (by simp) (by simp);split at a
  ·obtain⟨r,s,f⟩:=TU (k':=k') ty w a
   simp_all
  ·rename_i hs;rw[gL]at a;obtain⟨hk,a⟩:=a;obtain rfl:=HS hk;obtain⟨r,s,f⟩:=YP ty w hs a
   simp_all
 ·cases l with|str xs=>cases m with|str ys=>
  have n:=FV (op:=op) (ty:=ty) (X:=X) (Y:=Y) (y:= .string ys) w (x:= .string xs) (by simp) (by simp);obtain⟨r,s,f⟩:=X5 ty w a
  simp_all
 ·have i:∀g,TT ty g x y=some v->∃b,(Op.equal ty xv c).run P0 w = .ok b w/\(∀op X Y,(eqGuard op ty X Y xv c).run P0 w = .ok () w)/\
    (binOp .eql ty xv c)=(do pure (.bool (<-Op.equal ty xv c)))/\(binOp .neq ty xv c)=(do pure (.bool (!(<-Op.equal ty xv c))))/\v = .bool (Bool.rec (motive:=λ_=>Bool) b (!b) g):=by
   clear a;intro g e;unfold TT Z1 at e;rw[fh]at e;obtain⟨b,h,e⟩:=e;split at h
   ·obtain⟨o,j,t,u⟩:=zak w l m h
    simp_all
   unfold U2 at h;split at h
   ·rename_i d z;obtain⟨o,j,t,u⟩:=XB w z l m h
    simp_all
   ·cases h
  split at a
  ·obtain⟨b,o,j,t,_,rfl⟩:=i false a;have n:=j .eql X Y;exact⟨.bool b,by simp_all,.bool b⟩
  ·obtain⟨b,o,j,_,u,rfl⟩:=i true a;have n:=j .neq X Y;exact⟨.bool (!b),by simp_all,.bool _⟩
  ·cases a
theorem ZS{op:UnOp} {x v:V} {xv:Value} (w:World) (b:fF Δ x xv) (a:oD op x=some v):∃r,(Op.unary op xv).run P0 w = .ok r w/\fF Δ v r:=by
 unfold oD at a;split at a
 ·cases a;cases b;rw[pB];exact⟨_,rfl,.int _ _⟩
 ·cases a;cases b;exact⟨_,rfl,.bool _⟩
 ·simp only[hint]at a;cases a;cases b;exact⟨_,rfl,.int _ _⟩
 ·cases a
theorem VW{src dst:Nat} {p:PF} {xv:Value} {v:V} (w:World) (j:¬∃e,P0.underlying src=some (.slice e)/\P0.underlying dst=some .string) (g:∀v,p.f t h=some v->fF Δ v xv) (a:(I5 src dst p).f t h=some v) :
  ∃r,(convert src dst xv).run P0 w = .ok r w/\fF Δ v r:=by
 unfold I5 at a;split at a
 ·rename_i k' k hs i;rw[fh]at a;obtain⟨x,c,b⟩:=a;have d:=g _ c;split at b
  ·cases b;cases d;rw[pB];exact⟨_,by simp_all[convert,fN,Conv.intToInt],.int _ _⟩
  ·cases b
 ·rename_i hs i;rw[fh]at a;obtain⟨x,c,b⟩:=a;have d:=g _ c;split at b
  ·cases b;cases d
   simp_all[convert,fN]
  ·cases b
 ·simp_all
 ·cases a
theorem Lz{ty:Nat} {cs:List V} {og:Array Value} {off:Nat} {v:V} (w:World) (hc:gh Δ cs og.toList) (a:OG ty cs off=some v) :
  ∃r,(part ty og off).run P0 w = .ok r w/\fF Δ v r:=by
 unfold OG at a
 cases ha:Kd ty with
 |none=>simp_all
 |some b=>cases b with
 | true =>
   simp only[ha]at a
   cases hm:wW ty with
   |none=>simp_all
   | some m=>
     simp only[hm,fh]at a;obtain⟨l,e,f⟩:=a;cases f;obtain⟨g,h⟩:=sub_eq e;refine⟨.agg (og.extract off (off+m)),by simp_all[part,Er,uJ],.agg _ _ (gh.Nm ?_ ?_)⟩
     ·have c:=hc.length
      have:∀i,i<m->off+i<cs.length:=by grind
      simp only[Xf]at c;simp only[Xf,Array.size_extract,g];rcases Nat.eq_zero_or_pos m with h0|h0
      ·omega
      ·have:=this (m-1) (by omega)
       omega
     ·intro i v hi
      have d:i<m:=by have:=(jq.1 hi).1;omega
      rw[h i d]at hi;obtain⟨x,j,k⟩:=hc.get _ _ hi
      simp_all
 | false=>
   simp only[ha]at a;obtain⟨x,j,k⟩:=hc.get _ _ (Lm a)
   simp_all[part,Er]
theorem Lw{s f:Nat} {a:Field} (h:JZ s f=some a):∃fs,P0.underlying s=some (.struct fs)/\fs[f]? =some a:=by
 grind[JZ]
theorem L2{s f:Nat} {p:PF} {xv:Value} {v:V} (w:World) (c:∀v,p.f t h=some v->fF Δ v xv) (a:(pb s p f).f t h=some v) :
  ∃r,(Instr.fieldAt s xv f).run P0 w = .ok r w/\fF Δ v r:=by
 unfold pb at a;split at a
 ·rename_i e g;obtain⟨fs,i,b⟩:=Lw g;split at a
  ·rename_i m j;simp only[fh,uG]at a;obtain⟨x,k,l,off,rfl,n⟩:=a;cases n
   cases c _ k with
   | ptr _ _ d o=>
     refine⟨_,by simp[Instr.fieldAt,fN i,b,Instr.sureAddr,fieldPlace,uJ j,rM];rfl,?_⟩;have:=fF.ptr (Δ:=Δ) l (off+e.offset) d o
     grind
  ·cases a
 ·cases a
theorem T2{s f:Nat} {p:PF} {xv:Value} {v:V} (w:World) (e:∀v,p.f t h=some v->fF Δ v xv) (a:(FJ s p f).f t h=some v) :
  ∃r,(Instr.field s xv f).run P0 w = .ok r w/\fF Δ v r:=by
 unfold FJ at a;split at a
 ·rename_i k g;obtain⟨fs,l,i⟩:=Lw g;rw[fh]at a;obtain⟨x,j,b⟩:=a;have c:=e _ j;split at b
  ·cases c with
   | agg _ og hc=>
     obtain⟨r,c,d⟩:=Lz w hc b
     simp_all[Instr.field,fN,asAgg]
  ·cases b
 ·cases a
theorem L3{ty:Nat} {p q:PF} {xv y:Value} {v:V} (w:World) (z:∀v,p.f t h=some v->fF Δ v xv) (hq:∀v,q.f t h=some v->fF Δ v y)
  (a:(pE ty p q).f t h=some v):∃r,(Instr.indexAt ty xv y).run P0 w = .ok r w/\fF Δ v r:=by
 unfold pE at a;split at a
 ·rename_i e g;split at a
  ·rename_i m j;simp only[fh,GX]at a;obtain⟨x,k,i,n,kd,s,rfl,c⟩:=a;have A:=z _ k;cases hq _ n;split at c
   ·rename_i l off len;rw[gL]at c;obtain⟨b,c⟩:=c;cases c;rw[Nn]at b
    cases A with
    | slice _ _ _ cap o d u hk C B=>
      rcases B with⟨rfl,_,_⟩|⟨hc,_⟩
      ·refine⟨_,by simp[Instr.indexAt,asIntOf,fN g,uJ j,b,rM];rfl,?_⟩
       have:=fF.ptr (Δ:=Δ) l (off+s*m) d u
       grind
      ·omega
   ·cases c
  ·cases a
 ·rename_i len e g;split at a
  ·rename_i m j;simp only[fh,GX,uG,gL]at a;obtain⟨x,k,i,n,kd,s,rfl,l,off,rfl,b,c⟩:=a;cases c;rw[Nn]at b;cases hq _ n
   cases z _ k with
   | ptr _ _ d u=>
     refine⟨_,by simp[Instr.indexAt,asIntOf,fN g,uJ j,b,rM,Instr.sureAddr];rfl,?_⟩;have:=fF.ptr (Δ:=Δ) l (off+s*m) d u
     grind
  ·cases a
 ·cases a
theorem UA{ty:Nat} {p q:PF} {xv u:Value} {v:V} (w:World) (y:∀v,p.f t h=some v->fF Δ v xv) (hq:∀v,q.f t h=some v->fF Δ v u)
  (c:(Ge ty p q).f t h=some v):∃r,(Instr.index ty xv u).run P0 w = .ok r w/\fF Δ v r:=by
 unfold Ge at c;split at c
 ·rename_i len z A;split at c
  ·rename_i m B;simp only[fh,GX]at c;obtain⟨x,k,i,l,kd,g,rfl,a⟩:=c;have n:=y _ k;cases hq _ l;split at a
   ·rw[gL]at a;obtain⟨d,a⟩:=a;rw[Nn]at d
    cases n with
    | agg _ og hc=>
      obtain⟨r,C,j⟩:=Lz w hc a;refine⟨r,?_,j⟩;have e:(Nat.mul g m)=g*m:=rfl
      simp_all[Instr.index,asIntOf,fN,uJ]
   ·cases a
  ·cases c
 ·rename_i A;simp only[fh,GX]at c;obtain⟨x,k,i,l,kd,g,rfl,a⟩:=c;have n:=y _ k;cases hq _ l;split at a
  ·rw[fh]at a;obtain⟨b,o,a⟩:=a;cases a
   cases n with
   | str s=>
     rw[List.head?_drop]at o;have d:g<s.size:=(jq.1 o).1;have hs:s[g]? =some b:=by
       rw[getElem?_pos s g d];have:=(jq.1 o).2;simp only[Array.getElem_toList]at this;rw[<-this];rfl
     exact⟨.int .u8 b.toNat,by simp_all[Instr.index,asIntOf,fN],.int _ _⟩
  ·cases a
 ·cases c
end
section
variable{Δ:Env}{h:Hp}{w:World}{n:Nat}{t:Tm}{a:Act}
inductive Cs (Δ:Env):Option V->Option Value->Prop
 |none:Cs Δ none none
 |some (v:V) (a:Value) (h:fF Δ v a):Cs Δ (some v) (some a)
theorem JT(c:WR Δ h w) (d:TR Δ n t a) {x:Option Operand} {v:Option V} (b:G5 x t h=some v):Cs Δ v (x.map a.eval):=by
 cases x with
 |none=>simp only[G5]at b;cases b;exact .none
 | some x=>
   simp only[G5,fh]at b;obtain⟨y,e,f⟩:=b;cases f;exact .some _ _ (ke c d e)
theorem DZ{d m:Nat} {lo:Option V} (a:hbound d lo=some m):(lo=none/\m=d)\/∃k,lo=some (.int k (.ofNat m)):=by
 unfold hbound at a;split at a
 ·simp_all
 ·simp_all
 ·cases a
theorem GZ{k:IntKind} {m y:Nat} {c:BoundsCode} (w:World) (a:m<=y):(Instr.sliceBound (.int k (.ofNat m)) y c).run P0 w = .ok m w:=by
 have b:(0:Int)<=Int.ofNat m/\(Int.ofNat m)<=(y:Int):=by simp_all
 simp_all[Instr.sliceBound,asIntOf,uZ,Jg,tN,if_pos]
theorem Ia{Y4:Bool} {len cap l u:Nat} {lo hi:Option V} {b c:Option Value} (w:World) (d:Cs Δ lo b) (a:Cs Δ hi c)
  (h:hbound 0 lo=some l) (g:hbound len hi=some u) (e:l<=u) (f:u<=cap):(Instr.sliceBounds Y4 len cap b c none).run P0 w = .ok (l,u,cap) w:=by
 rcases DZ h with⟨rfl,rfl⟩|⟨k,rfl⟩
 ·cases d;rcases DZ g with⟨rfl,rfl⟩|⟨k,rfl⟩
  ·cases a;rfl
  ·cases a with|some _ _ hr=>
   cases hr
   grind[Instr.sliceBounds,uZ,Jg,tN,GZ]
 ·cases d with|some _ _ hr=>
  cases hr;rcases DZ g with⟨rfl,rfl⟩|⟨k,rfl⟩
  ·cases a
   grind[Instr.sliceBounds,uZ,Jg,tN,GZ]
  ·cases a with|some _ _ hr=>
   cases hr;simp only[Instr.sliceBounds,uZ,Jg,tN,GZ w f,GZ w e]
theorem RG(P:WR Δ h w) {ty f size:Nat} {x v:V} {xv:Value} {lo hi:Option V} {k m:Option Value} (N:fF Δ x xv) (p:Cs Δ lo k) (q:Cs Δ hi m)
  (W:P0.underlying ty=some (.slice f)) (hs:wW f=some (size+1)) (a:iK (Nat.succ size) x lo hi h=some v) :
  ∃r,(Instr.sliceAt ty xv k m none).run P0 w = .ok r w/\fF Δ v r:=by
 unfold iK at a;split at a
 ·rename_i lc off len;rw[j9]at a;obtain⟨e,sz,live,ro,cs,Q,a⟩:=a;simp only[gL,fh]at a;obtain⟨A,l,B,u,C,D,c,a⟩:=a;cases a;have g:=zR A;have s:=Jd D
  cases N with
  | slice _ _ _ cap o d E hk F G=>
    obtain ⟨ob,t,R⟩:=P.obj lc d E;rw[Q]at t;cases t;obtain⟨_,i,S,_,_⟩:=R;have H:u<=cap:=by
      rw[PR]at c;rcases c with c|c
      ·exact Fe (Jd c) F
      ·have O:off+u*(size+1)<=cs.length:=Jd c
       rcases G with⟨_,j,_⟩|⟨hc,j⟩
       ·rw[i,<-g]at j
        have:u*(size+1)<=cap*(size+1):=by have e:Nat.succ size=size+1:=rfl;rw[e]at j;omega
        exact Nat.le_of_mul_le_mul_right this (by omega)
       grind
    have y:=Ia (Y4:=true) (len:=len) (cap:=cap) w p q B C s H;have T:l<=cap:=by omega
    refine⟨.slice (if cap=l then some ⟨d.b,o,none⟩ else some ⟨d.b,o+l*(size+1),none⟩) (u-l) (cap-l),?_,?_⟩
    ·simp_all[Instr.sliceAt,uZ,fN,tN,Instr.slice,uJ,rM]
    ·have z:cap*d.sz=l*d.sz+(cap-l)*d.sz:=by rw[<-UQ];congr 1;omega
     have U:d.sz=size+1:=by rw[i,<-g]
     split
     ·rename_i I
      refine .slice lc (Nat.add off (Nat.mul l (Nat.succ size))) (Nat.sub u l) (cap-l) o d E hk ?_ (.inr ⟨by omega,?_⟩)
      ·simp_all
      grind
     ·rename_i I
      refine .slice lc (Nat.add off (Nat.mul l (Nat.succ size))) (Nat.sub u l) (cap-l) (o+l*(size+1)) d E hk ?_ (.inl ?_)
      ·simp_all
      ·show o+l*(size+1)=d.base+(off+l*(size+1))/\d.n<=off+l*(size+1)+(cap-l)*d.sz/\d.base+(off+l*(size+1))+(cap-l)*d.sz<=d.Ui
       rcases G with⟨G,j,J⟩|⟨hc,j⟩
       ·rw[U]at z j J⊢
        omega
       ·omega
 ·simp only[gL,fh]at a;obtain⟨l,B,u,C,F,K,a⟩:=a;cases a;have L:=zR F;have M:=zR K;subst L;subst M;cases N;have y:=Ia (Y4:=true) (len:=0) (cap:=0) w p q B C (iZ _) (iZ _);exact⟨.slice none 0 0,by simp_all[Instr.sliceAt,fN,Instr.slice,uJ],.ee⟩
 ·cases a
theorem Qp{ty:Nat} {x v:V} {xv:Value} {lo hi:Option V} {b c:Option Value} (w:World) (i:fF Δ x xv) (d:Cs Δ lo b) (e:Cs Δ hi c)
  (m:P0.underlying ty=some .string) (a:M8 x lo hi=some v):∃r,(Instr.sliceAt ty xv b c none).run P0 w = .ok r w/\fF Δ v r:=by
 unfold M8 at a;split at a
 ·simp only[gL,fh]at a;obtain⟨l,j,u,k,f,g,a⟩:=a;cases a
  cases i with
  | str s=>
    have h:=Ia (Y4:=false) (len:=s.size) (cap:=s.size) w d e j k (Jd f) (Jd g);refine⟨.string (s.extract l u),by simp_all[Instr.sliceAt,fN,Instr.slice],?_⟩;have:=fF.str (Δ:=Δ) (s.extract l u)
    simp_all
 ·cases a
theorem Uh(c:WR Δ h w) (d:TR Δ n t a) {ty:Nat} {p:PF} {xv:Value} {lo hi:Option Operand} {v:V} (o:∀v,p.f t h=some v->fF Δ v xv)
  (b:(Iw ty p lo hi).f t h=some v):∃r,(Instr.sliceAt ty xv (lo.map a.eval) (hi.map a.eval) none).run P0 w = .ok r w/\fF Δ v r:=by
 unfold Iw at b;split at b
 ·rename_i e;simp only[fh]at b;obtain⟨x,g,l,i,u,j,k⟩:=b;exact Qp w (o _ g) (JT c d i) (JT c d j) e k
 ·rename_i q e;split at b
  ·rename_i m s;simp only[fh]at b;obtain⟨x,g,l,i,u,j,k⟩:=b;exact RG c (o _ g) (JT c d i) (JT c d j) e s k
  ·cases b
 ·cases b
theorem Im{ty:Nat} {x y:V} {xv c:Value} {b:Bool} (e:fF Δ x xv) (f:fF Δ y c) (a:IJ ty x y=some b) :
  (∀h w,(Op.equalIn (h+1) ty xv c).run P0 w = .ok b w)/\(∀d,P0.underlying ty=some d->Instr.sameNow d xv c=some b):=by
 unfold IJ at a;split at a
 ·rename_i g;split at a
  ·rw[gL]at a;obtain⟨hk,a⟩:=a;cases a;obtain rfl:=HS hk;cases e;cases f
   grind[run_equalIn_int,Instr.sameNow]
  ·cases a
 ·rename_i g;split at a
  ·cases a;cases e with|str xs=>cases f <;> grind[run_equalIn_string,ByteArray.toList_eq,Instr.sameNow,beq_toListBytes]
  ·cases a
 ·rename_i g;split at a
  ·cases a;cases e;cases f
   grind[run_equalIn_bool',Instr.sameNow]
  ·cases a
 ·cases a
theorem UK{ty:Nat} (a:CA ty=true):Kd ty=some false:=by
 grind[CA,Kd]
theorem Ih{ty:Nat} {cs:List V} {og:Array Value} {off:Nat} {v:V} (w:World) (a:CA ty=true) (hc:gh Δ cs og.toList) (b:CE cs off=some v) :
  ∃x,(part ty og off).run P0 w = .ok x w/\fF Δ v x:=
 Lz w hc (by grind[OG,UK])
theorem O1:∀{fs:List Field} {x y:List V} {xs ys:Array Value} {b:Bool},(∀f∈fs,CA f.type=true/\f.name≠ "_")->gh Δ x xs.toList->gh Δ y ys.toList->
  On fs x y=some b->∀a w,(Op.eqFields (a+1) xs ys fs).run P0 w = .ok b w
 |[],x,y,xs,ys,b,_,_,_,hv,a,w=>by simp[On]at hv;subst hv;rfl
 | f::fs,x,y,xs,ys,b,hf,hx,hy,hv,a,w=>by
   simp only[On,fh]at hv;obtain⟨p,i,q,j,e,k,l⟩:=hv;obtain⟨c,d⟩:=hf f (by simp);obtain⟨o,m,g⟩:=Ih w c hx i;obtain⟨r,hq,h⟩:=Ih w c hy j;have n:=(Im g h k).1 a w;simp only[Op.eqFields];rw[if_pos d];simp only[uZ,m,hq,n,tN]
   cases e with
   |false=>simp_all
   |true=>exact O1 (by simp_all) hx hy l a w
theorem Mt{ty:Nat} (a:GL ty=some none):CA ty=true:=by
 grind[GL,CA]
theorem J8{ty:Nat} {fs:List Field} (a:GL ty=some (some fs)):∃b,P0.underlying ty=some (.struct b)/\b.toList=fs/\P0.stoodInHeld ty=false/\∀f∈fs,CA f.type=true/\f.name≠ "_" :=by
 unfold GL at a;split at a
 ·cases a
 ·cases a
 ·cases a
 ·rename_i b c;split at a
  ·grind
  ·cases a
 ·cases a
theorem V5{ty:Nat} {d:Option (List Field)} {x y:V} {xv i:Value} {b:Bool} (k:GL ty=some d) (f:fF Δ x xv) (g:fF Δ y i) (a:PG ty d x y=some b) (w:World) :
  (Op.equal ty xv i).run P0 w = .ok b w:=by
 cases d with
 |none=>exact(Im f g a).1 9999 w
 | some fs=>
   obtain⟨h,j,c,hs,l⟩:=J8 k;simp only[PG]at a;split at a
   ·cases f with|agg _ xs f=>cases g with|agg _ ys g=>
    have e:P0.fieldsOf ty=h:=by simp[Program.fieldsOf,j]
    have:=run_equalIn_struct (P:=P0) w 9999 ty xs ys (by rw[e];exact j) hs;rw[e,c]at this;exact this.trans (O1 l f g a 9998 w)
   ·cases a
def YJ(Δ:Env):Option (Nat×V)->Option (Nat×Value)->Prop
 |none,none=>True
 |some (i,v),some (i',v')=>i=i'/\fF Δ v v'
 |_,_=>False
theorem Fp{ty:Nat} {d:Option (List Field)} {k:V} {f:Value} (g:GL ty=some d) (hk:fF Δ k f) (w:World):∀{c:List (V×V×Nat)} {a:List MapEntry} {i:Nat} {r:Option (Nat×V)},
  sB Δ c a->vN ty d k c i=some r->∃r',(Instr.findAsking ty f a i).run P0 w = .ok r' w/\YJ Δ r r'
 |_,_,i,r,.nil,hv=>by simp[vN]at hv;subst hv;exact⟨none,rfl,trivial⟩
 | _,_,i,r,.cons k' v n e c a hk' ZJ hb hs,hv=>by
   simp only[vN,fh]at hv;obtain⟨b,j,h⟩:=hv;have l:=V5 g hk hk' j w;simp only[Instr.findAsking,uZ,l,tN]
   cases b with
   |true=>cases h;exact⟨some (i,e.val),rfl,rfl,ZJ⟩
   |false=>exact Fp g hk w hs h
theorem K5{ty:Nat} {k:V} {d:Value} {ds:TypeDesc} (f:P0.underlying ty=some ds) (hk:fF Δ k d):∀{c:List (V×V×Nat)} {a:List MapEntry} {i:Nat} {r:Option (Nat×V)},
  sB Δ c a->vN ty none k c i=some r->∃r',Instr.findNow ds d a i=some r'/\YJ Δ r r'
 |_,_,i,r,.nil,hv=>by simp[vN]at hv;subst hv;exact⟨none,rfl,trivial⟩
 | _,_,i,r,.cons k' v n e c a hk' ZJ hb hs,hv=>by
   simp only[vN,fh]at hv;obtain⟨b,h,g⟩:=hv;have j:=(Im hk hk' h).2 ds f;simp only[Instr.findNow,j]
   cases b with
   |true=>cases g;exact⟨some (i,e.val),rfl,rfl,ZJ⟩
   |false=>exact K5 f hk hs g
theorem B3{ty:Nat} {d:Option (List Field)} {k:V} {i:Value} (f:GL ty=some d) (hk:fF Δ k i) (w:World) {b:List (V×V×Nat)} {a:List MapEntry} {r:Option (Nat×V)}
  (j:sB Δ b a) (c:vN ty d k b 0=some r):∃r',(Instr.findKey ty i a).run P0 w = .ok r' w/\YJ Δ r r':=by
 cases d with
 | none=>
   have m:=Mt f;unfold CA at m
   cases l:P0.underlying ty with
   |none=>simp_all
   | some ds=>
     obtain⟨r',o,p⟩:=K5 l hk j c
     simp_all[Instr.findKey,fN]
 | some fs=>
   obtain⟨q,l,_,_,_⟩:=J8 f
   cases j with
   | nil=>
     simp[vN]at c;subst c
     exact⟨none,by simp_all[Instr.findKey,fN,Instr.findNow],trivial⟩
   | cons k' v n e b a g h s hs=>
     obtain⟨r',o,p⟩:=Fp f hk w (.cons k' v n e b a g h s hs) c
     simp_all[Instr.findNow,Instr.sameNow,Instr.findKey,uZ,fN,tN]
theorem DW{em:Bool} {q:Nat} {cs:List V} {og:Array Value} (w:World) (hq:0<q) (hc:gh Δ cs og.toList):∀(fs:List Field),(∀f∈fs,CA f.type=true/\f.name≠ "_")->
  (fs.all λf=>(CE cs f.offset).isSome)=true->
  (forIn fs PUnit.unit (λf _=>if f.name≠ "_" then do
    let x <-part f.type og f.offset
    Instr.checkKey em q f.type x
    pure (ForInStep.yield PUnit.unit)
   else pure (ForInStep.yield PUnit.unit):Field->PUnit->Sem (ForInStep PUnit))).run P0 w = .ok PUnit.unit w
 |[],_,_=>rfl
 | f ::fs,hf,hh=>by
   obtain⟨m,rfl⟩:∃m,q=m+1:=by simp_all
   obtain ⟨a,b⟩:=hf f (by simp);simp only[YY,ve]at hh;obtain⟨v,c⟩:=Option.isSome_iff_exists.1 hh.1;obtain⟨x,e,g⟩:=Ih w a hc c;have d:(Instr.checkKey em (m+1) f.type x).run P0 w = .ok () w:=by
     unfold CA at a;split at a
     ·simp_all[Instr.checkKey,fN]
     ·simp_all[Instr.checkKey,fN]
     ·simp_all[Instr.checkKey,fN]
     ·cases a
   have h:=DW (em:=em) (q:=m+1) w hq hc fs (by simp_all) hh.2
   simp_all
theorem wH{ty:Nat} {d:Option (List Field)} {k:V} {e:Value} (em:Bool) (q:Nat) (hq:0<q) (w:World) (f:GL ty=some d) (hk:fF Δ k e) (c:IH d k=true) :
  (Instr.checkKey em (q+1) ty e).run P0 w = .ok () w:=by
 cases d with
 | none=>
   have a:=Mt f;unfold CA at a;split at a
   ·simp_all[Instr.checkKey,fN]
   ·simp_all[Instr.checkKey,fN]
   ·simp_all[Instr.checkKey,fN]
   simp_all
 | some fs=>
   obtain⟨g,i,b,_,h⟩:=J8 f;simp only[IH]at c;split at c
   ·cases hk with
    | agg cs og hc=>
      have:=DW (em:=em) (q:=q) w hq hc fs h c;rw[<-b,Array.forIn_toList]at this
      simp_all[Instr.checkKey,uZ,fN,tN]
   ·cases c
end
section
variable{Δ:Env}{h:Hp}{w:World}{n:Nat}{t:Tm}{a:Act}
theorem Gq(g:WR Δ h w) {l:Nat} {d:D} (i:Δ l=some d) {e:List (V×V×Nat)} {c:Nat} (j:h.get l=some (.map e c)) :
  ∃a,w.heap[d.b]? =some (.map a c)/\sB Δ e a.toList:=by
 obtain⟨o,f,k⟩:=g.obj l d i;rw[j]at f;cases f;obtain⟨_,_,_,a,m,n⟩:=k
 simp_all
theorem run_getObj_map{r:Nat}{a:Array MapEntry}{c:Nat}(b:w.heap[r]? =some (.map a c)):(getObj r).run P0 w = .ok (.map a c) w:=by grind[getObj,Sem.run]
theorem O2{z:V} {a:Value} {ok:Bool} {r:Option (Nat×V)} {r':Option (Nat×Value)} (c:fF Δ z a) (b:YJ Δ r r') :
  fF Δ (found z ok r) (match r' with
   |some (_,v)=>if ok then .tuple #[v,.bool true] else v
   |none=>if ok then .tuple #[a,.bool false] else a):=by
 cases r with
 | none=>cases r' with
   |none=>cases ok
          ·exact c
          ·exact .tuple _ _ (.cons _ _ _ _ c (.one (.bool false)))
   |some _=>cases b
 | some x=>cases r' with
   |none=>cases b
   | some e=>
     obtain⟨_,d⟩:=b;cases ok
     ·exact d
     ·exact .tuple _ _ (.cons _ _ _ _ d (.one (.bool true)))
theorem Ql(D:WR Δ h w) {u:Nat} {p q:PF} {ok:Bool} {x y:Value} {v:V} (E:∀v,p.f t h=some v->fF Δ v x) (hq:∀v,q.f t h=some v->fF Δ v y)
  (a:(EC u p q ok).f t h=some v):∃r,(Instr.lookup u x y ok).run P0 w = .ok r w/\fF Δ v r:=by
 unfold EC at a;split at a
 ·rename_i N O A;split at a
  ·rename_i d z j F;obtain⟨P,G,g,_⟩:=yC F;simp only[fh,gL]at a;obtain⟨m,H,k,I,B,b⟩:=a;have C:=E _ H;have hk:=hq _ I;split at b
   ·cases b;cases C;have i:=wH true 9999 (by omega) w j hk B;have e:=B3 j hk w sB.nil (r:=none) (by rfl);obtain⟨r',e,n⟩:=e;have o:r' = none:=by cases r' <;> first|rfl|cases n
    subst o;refine⟨_,?_,O2 (ok:=ok) (r:=none) (r':=none) (g Δ) trivial⟩;simp only[Instr.lookup,uZ,fN A,tN,Jg]
    simp_all
   ·simp only[yA,fh]at b;obtain⟨Q,c,J,r,e,b⟩:=b;cases b
    cases C with
    | map l d' K=>
      obtain⟨s,L,M⟩:=Gq D K J;obtain⟨r',e,n⟩:=B3 j hk w M e;have i:=wH s.isEmpty 9999 (by omega) w j hk B;refine⟨_,?_,O2 (ok:=ok) (g Δ) n⟩;simp only[Instr.lookup,uZ,fN A,tN,Jg,run_getObj_map L,i,e]
      grind[uZ,tN,Jg]
   ·cases b
  ·cases a
 ·cases a
theorem XN(A:WR Δ h w) {ty:Nat} {o:Array Nat} (y:o[0]? =some ty) {rt:Nat} {p:PF} {xv:Value} {v:V} (z:∀v,p.f t h=some v->fF Δ v xv)
  (i:(hlen ty p).f t h=some v):∃r,(Builtin.len_ o rt #[xv]).run P0 w = .ok r w/\fF Δ v r:=by
 unfold hlen at i;split at i
 ·rename_i u;rw[fh]at i;obtain⟨x,n,g⟩:=i;have j:=z _ n;split at g
  ·cases g
   cases j with
   |str s=>exact⟨goInt s.size,by simp_all[Builtin.len_,fN],.int _ _⟩
  ·cases g
 ·rename_i e u;rw[fh]at i;obtain⟨x,n,g⟩:=i;have j:=z _ n;split at g
  ·rename_i lc off m;cases g;cases j;exact⟨goInt m,by simp_all[Builtin.len_,fN],.int _ _⟩
  ·cases g;cases j;exact⟨goInt 0,by simp_all[Builtin.len_,fN],.int _ _⟩
  ·cases g
 ·rename_i m e u;rw[fh]at i;obtain⟨x,n,g⟩:=i;cases g;exact⟨goInt m,by simp_all[Builtin.len_,fN],.int _ _⟩
 ·rename_i k e u;rw[fh]at i;obtain⟨x,n,g⟩:=i;have j:=z _ n;split at g
  ·cases g;cases j;exact⟨goInt 0,by simp_all[Builtin.len_,fN],.int _ _⟩
  ·rw[yA]at g;obtain⟨B,c,C,g⟩:=g;cases g
   cases j with
   | map l d D=>
     obtain ⟨q,E,F⟩:=Gq A D C;have hlen:B.length=q.size:=by
       have:∀{a:List (V×V×Nat)} {b:List MapEntry},sB Δ a b->a.length=b.length:=λh=>by induction h <;> simp_all
       simpa using this F
     refine⟨goInt q.size,by simp[Builtin.len_,y,fN u,run_getObj_map E],?_⟩;rw[hlen];exact .int _ _
  ·cases g
 ·cases i
theorem Np{b:Bool} (w:World):∀{l:List V} {c:List Value} {x:V} {a:Value} {v:V},fF Δ x a->gh Δ l c->PD b x l=some v->
  ∃r,(c.foldlM (if b then Builtin.max2 else Builtin.min2) a).run P0 w = .ok r w/\fF Δ v r
 |[],_,x,a,v,hx,hl,hv=>by simp[PD]at hv;subst hv;cases hl;simp_all
 | y ::l,_,x,a,v,hx,hl,hv=>by
   cases hl with
   | cons _ h _ c e hs=>
     unfold PD at hv;split at hv
     ·simp_all
     ·rename_i k p k' q r f
      cases f;cases hx;cases e;obtain⟨d,i,g⟩:=Np w (.int k _) hs hv;refine⟨d,?_,g⟩;rw[List.foldlM_cons];simp only[uZ];cases b
      ·simp_all[Oh,if_false,Builtin.min2,Jg,tN]
      simp_all[if_true,Builtin.max2,Jg,tN]
     ·cases hv
theorem Lf{ty:Nat} (hi:isIface ty=some false):∃d,P0.underlying ty=some d/\∀m,d≠ .interface m:=by
 grind[isIface]
theorem QD{p:PF} {a xT:Nat} {ok:Bool} {xv:Value} {v:V} (w:World) (n:∀v,p.f t h=some v->fF Δ v xv)
  (c:(Et p a ok).f t h=some v):∃r,(Instr.typeAssert xv xT a ok).run P0 w = .ok r w/\fF Δ v r:=by
 unfold Et at c;split at c
 ·rename_i z hi o;obtain⟨m,q,g,_⟩:=yC o;obtain⟨d,i,A⟩:=Lf hi;rw[fh]at c;obtain⟨x,s,b⟩:=c;have j:=n _ s;split at b
  ·rename_i u y;cases b
   cases j with
   | iface _ _ k l=>
     rw[RX];by_cases e:u=a
     ·have e':Nat.beq u a=true:=by rw[e];exact Tv _
      rw[if_pos e'];refine⟨.tuple #[k,.bool true],?_,.tuple _ _ (.cons _ _ _ _ l (.one (.bool true)))⟩;simp only[Instr.typeAssert,uZ,fN i,tN]
      simp_all
     ·have e':¬Nat.beq u a=true:=by simp_all
      rw[if_neg e'];refine⟨.tuple #[m,.bool false],?_,.tuple _ _ (.cons _ _ _ _ (g Δ) (.one (.bool false)))⟩;simp only[Instr.typeAssert,uZ,fN i,tN]
      simp_all
  ·rename_i u y;rw[gL]at b;obtain⟨e,b⟩:=b;cases b;have e:=zR e
   cases j with
   | iface _ _ k l=>
     refine⟨k,?_,l⟩;simp only[Instr.typeAssert,uZ,fN i,tN]
     simp_all
  ·cases b;cases j;refine⟨.tuple #[m,.bool false],?_,.tuple _ _ (.cons _ _ _ _ (g Δ) (.one (.bool false)))⟩;simp only[Instr.typeAssert,uZ,fN i,tN]
   simp_all
  ·cases b
 ·cases c
theorem WG{c p q:PF} {d pv e:Value} {v:V} (w:World) (hc:∀v,c.f t h=some v->fF Δ v d) (k:∀v,p.f t h=some v->fF Δ v pv) (hq:∀v,q.f t h=some v->fF Δ v e)
  (a:(Je c p q).f t h=some v):∃r,(do pure (Next.value (if <-asBool d then pv else e)):Sem Next).run P0 w = .ok (.value r) w/\fF Δ v r:=by
 unfold Je at a;simp only[fh]at a;obtain⟨x,i,g⟩:=a;have j:=hc _ i;split at g
 ·rename_i b;cases j;cases b
  ·simp_all[asBool]
  simp_all[asBool]
 ·cases g
theorem M6{p:PF} {x:Operand} {v:V} (w:World) (i:∀v,p.f t h=some v->fF Δ v (a.eval x)) (c:(yj p).f t h=some v) {dst ty pos af gd} :
  (execOp a.eval {dst:=dst,op:= .nilCheck x,type:=ty,pos:=pos,after:=af,guard:=gd}).run P0 w = .ok (.value (a.eval x)) w/\fF Δ v (a.eval x):=by
 unfold yj at c;rw[fh]at c;obtain⟨y,g,b⟩:=c;have e:=i _ g;simp only[execOp];generalize a.eval x=xv at e⊢;split at b
 ·cases b;cases e with|ptr _ _ d hd=>exact⟨rfl,.ptr _ _ d hd⟩
 ·cases b;cases e with|func _ _ _ p' q' g b=>exact⟨rfl,.func _ _ _ p' q' g b⟩
 ·cases b;cases e with|iface _ _ v' c=>exact⟨rfl,.iface _ _ v' c⟩
 ·cases b
theorem Pu{p:PF} {i:Nat} {xv:Value} {v:V} (w:World) (d:∀v,p.f t h=some v->fF Δ v xv) (a:(Di p i).f t h=some v) :
  ∃r,(Instr.extract xv i).run P0 w = .ok r w/\fF Δ v r:=by
 unfold Di at a;rw[fh]at a;obtain⟨y,e,b⟩:=a;have g:=d _ e;split at b
 ·cases g with
  | tuple vs j c=>
    obtain⟨x,k,l⟩:=c.get _ _ (Lm b)
    simp_all[Instr.extract]
 ·cases b
theorem Rm{cs:List V} {xs:List Value} {s:List UInt8} (e:gh Δ cs xs) (f:bytesOf cs=some s):xs=(s.map λb=>(b.toNat:Int)).map (Value.int .u8):=by
 induction cs generalizing xs s with
 |nil=>cases e;grind[bytesOf]
 | cons c cs h=>
   simp only[bytesOf,fh]at f;obtain⟨b,a,l,i,j⟩:=f;cases j
   cases e with
   | cons _ x _ xs k d=>
     rw[h d i];unfold byteOf at a;split at a
     ·rename_i m
      rw[gL]at a;obtain⟨g,n⟩:=a;cases n;cases k;have o:m<256:=by rw[Nn]at g;exact g
      have:(UInt8.ofNat m).toNat=m:=by simp;omega
      grind
     ·cases a
theorem Qm(l:List UInt8):∀(r:ByteArray),((l.map λb=>(b.toNat:Int)).foldl (λr n=>r.push (UInt8.ofNat n.toNat)) r).data.toList=r.data.toList++l:=by
 induction l <;> simp_all
theorem Lh{src dst e:Nat} (hs:P0.underlying src=some (.slice e)) (i:P0.underlying dst=some .string) (j:P0.underlying e=some (.int .u8)) {ad:Option Addr} {len cap:Nat} {cs:List V} {s:List UInt8}
  (d:bytesOf cs=some s) (hc:∀b,ad=some b->∃xs,(loadCells b len).run P0 w = .ok (Array.mk xs) w/\gh Δ cs xs) (f:ad=none->s=[]) :
  ∃x,(convert src dst (.slice ad len cap)).run P0 w = .ok x w/\fF Δ (.str s) x:=by
 cases ad with
 | none=>
   cases f rfl
   exact⟨.string .empty,by simp_all[convert,fN,Conv.bytesToString],.str ByteArray.empty⟩
 | some b=>
   obtain⟨xs,c,g⟩:=hc b rfl;rw[Rm g d]at c;have h:=run_bytesToString (P:=P0) w b len cap _ c;generalize hB:(List.foldl (λr n=>ByteArray.push r (UInt8.ofNat n.toNat)) ByteArray.empty (List.map (λb=>(b.toNat:Int)) s))=B at h;have a:B.data.toList=s:=by rw[<-hB,Qm];rfl
   refine⟨.string B,?_,by rw[<-a];exact .str B⟩
   simp_all[convert,uZ,fN,tN]
theorem uP(c:WR Δ h w) {l:Nat} {d:D} (e:Δ l=some d) {off m:Nat} {cs:List V} (f:E2 h l off m=some cs) :
  ∃xs,(loadCells ⟨d.b,d.base+off,none⟩ m).run P0 w = .ok (Array.mk xs) w/\gh Δ cs xs:=by
 obtain⟨a,i,g⟩:=G3 c e f;exact⟨a.toList,by omega,g⟩
theorem Pf{l off m:Nat} {cs:List V} (a:E2 h l off m=some cs):cs.length=m:=by
 grind[E2,j9,gL,sub_eq]
theorem Ts(D:WR Δ h w) {src dst e:Nat} {p:PF} {xv:Value} {v:V} (hs:P0.underlying src=some (.slice e)) (g:P0.underlying dst=some .string) (m:∀v,p.f t h=some v->fF Δ v xv) (a:(I5 src dst p).f t h=some v) :
  ∃r,(convert src dst xv).run P0 w = .ok r w/\fF Δ v r:=by
 unfold I5 at a;rw[hs,g]at a;simp only at a;split at a
 ·rename_i j;simp only[fh]at a;obtain⟨x,n,c⟩:=a;have k:=m _ n;split at c
  ·cases c;cases k;exact Lh (Δ:=Δ) (w:=w) (src:=src) (dst:=dst) (e:=e) (ad:=none) (len:=0) (cap:=0) (cs:=[]) (s:=[]) hs g j rfl (by simp_all) (by simp_all)
  ·rename_i l off len;simp only[fh]at c;obtain⟨cs,q,s,u,y⟩:=c;cases y
   cases k with
   | slice _ _ _ cap o d z hk A B=>
     have C:∃xs,(loadCells ⟨d.b,o,none⟩ len).run P0 w = .ok (Array.mk xs) w/\gh Δ cs xs:=by
       rcases B with⟨rfl,_,_⟩|⟨rfl,_⟩
       ·grind[uP]
       ·have:len=0:=by omega
        subst this;have i:cs=[]:=wAy (Pf q);subst i;exact⟨[],by rfl,.nil⟩
     exact Lh (Δ:=Δ) (w:=w) (src:=src) (dst:=dst) (e:=e) (ad:=some ⟨d.b,o,none⟩) (len:=len) (cap:=cap) hs g j u (by simp_all) (by simp_all)
  ·cases c
 ·cases a
theorem Yz(J:WR Δ h w) (H:TR Δ n t a) {o:Oper} {v:V} (g:(il o).f t h=some v):∃x,(execOp a.eval o).run P0 w = .ok (.value x) w/\fF Δ v x:=by
 obtain⟨dst,op,ty,pos,af,gd⟩:=o;have A:∀(x:Operand) v,(rr x).f t h=some v->fF Δ v (a.eval x):=by grind[ke]
 cases op with
 |move x=>exact⟨_,rfl,A x v g⟩
 |assign x=>exact⟨_,rfl,A x v g⟩
 |pick c p q=>exact WG w (A c) (A p) (A q) g
 | load ty a'=>
   obtain⟨x,D,B⟩:=Lt J (A a') g
   exact⟨x,lM D,B⟩
 | nilCheck x=>
   obtain⟨D,B⟩:=M6 w (A x) g (dst:=dst) (ty:=ty) (pos:=pos) (af:=af) (gd:=gd)
   simp_all
 | binOp op U x y yt=>
   simp only[il,fh]at g;obtain⟨p,D,q,B,K⟩:=g;obtain⟨r,u,z⟩:=YD (X:=x) (Y:=y) w (A x _ D) (A y _ B) K
   exact⟨r,lM u,z⟩
 | unOp op U x=>
   simp only[il,fh]at g;obtain⟨p,D,B⟩:=g;obtain⟨r,u,z⟩:=ZS w (A x _ D) B
   exact⟨r,lM u,z⟩
 | convert src d x=>
   have L:∃r,(convert src d (a.eval x)).run P0 w = .ok r w/\fF Δ v r:=by
     by_cases hsl:∃e,P0.underlying src=some (.slice e)/\P0.underlying d=some .string
     ·obtain⟨e,D,B⟩:=hsl
      exact Ts J D B (A x) g
     ·exact VW w hsl (A x) g
   obtain⟨r,u,z⟩:=L
   exact⟨r,lM u,z⟩
 | build ty parts=>
   obtain⟨r,u,z⟩:=UE H g;refine⟨r,lM ?_,z⟩;rw[<-u];congr 2
   grind
 | makeFunc fn first T=>
   cases fn with
   | func f=>
     simp only[il,fh]at g;obtain⟨p,D,q,B,K⟩:=g;cases K;refine⟨_,rfl,.func f p q _ _ ?_ ?_⟩
     ·have:=zL H D;simp_all
     ·have:=zL H B;simp_all
   |_=>cases g
 | slice ty x lo hi W=>
   cases W with
   | none=>
     obtain⟨r,u,z⟩:=Uh J H (A x) g
     exact⟨r,lM u,z⟩
   |some _=>cases g
 | fieldAddr s x f=>
   obtain⟨r,u,z⟩:=L2 w (A x) g
   exact⟨r,lM u,z⟩
 | field s x f=>
   obtain⟨r,u,z⟩:=T2 w (A x) g
   exact⟨r,lM u,z⟩
 | indexAddr ty x i=>
   obtain⟨r,u,z⟩:=L3 w (A x) (A i) g
   exact⟨r,lM u,z⟩
 | index ty x i=>
   obtain⟨r,u,z⟩:=UA w (A x) (A i) g
   exact⟨r,lM u,z⟩
 | lookup ty m k ok=>
   obtain⟨r,u,z⟩:=Ql J (A m) (A k) g
   exact⟨r,lM u,z⟩
 | extract x i=>
   obtain⟨r,u,z⟩:=Pu w (A x) g
   exact⟨r,lM u,z⟩
 | makeInterface ty x=>
   simp only[il]at g;split at g
   ·rename_i hi
    obtain⟨d,Z,hd⟩:=Lf hi;simp only[fh]at g;obtain⟨p,D,B⟩:=g;cases B;refine⟨.iface ty (a.eval x),lM ?_,.iface _ _ _ (by simp_all)⟩;simp only[Instr.makeInterface,uZ,fN Z,tN];rfl
   ·cases g
 | typeAssert x xT I ok=>
   obtain⟨r,u,z⟩:=QD (xT:=xT) w (A x) g
   exact⟨r,lM u,z⟩
 | call c =>
   obtain⟨F,args,E⟩:=c;simp only[il]at g
   cases F with
   | builtin b=>
     cases b <;> try (cases g;done)
     case len=>
       simp only at g;split at g
       ·rename_i x N aa j M
        have O:E[0]? =some N:=by rw[<-X2,M];rfl
        obtain⟨r,u,z⟩:=XN J (rt:=ty) O (A x) g;refine⟨r,?_,z⟩;have P:args.map a.eval = #[a.eval x]:=by apply Array.ext';simp[j]
        simp only[execOp,resolve,P];exact lM u
       ·cases g
     case min=>
       simp only[fh]at g;obtain⟨l,D,B⟩:=g;split at B
       ·rename_i x r
        have C:=zL H D
        cases j:args.toList.map a.eval with
        |nil=>rw[j]at C;cases C
        | cons Q r'=>
          rw[j]at C
          cases C with
          | cons _ _ _ _ R S=>
            obtain⟨G,K,u⟩:=Np w R S B;refine⟨G,?_,u⟩;have P:(args.map a.eval).toList=Q::r':=by simpa using j
            simp only[execOp,resolve];refine lM ?_
            grind[Builtin.min_]
       ·cases B
     case max=>
       simp only[fh]at g;obtain⟨l,D,B⟩:=g;split at B
       ·rename_i x r
        have C:=zL H D
        cases j:args.toList.map a.eval with
        |nil=>rw[j]at C;cases C
        | cons Q r'=>
          rw[j]at C
          cases C with
          | cons _ _ _ _ R S=>
            obtain⟨G,K,u⟩:=Np w R S B;refine⟨G,?_,u⟩;have P:(args.map a.eval).toList=Q::r':=by simpa using j
            simp only[execOp,resolve];refine lM ?_
            grind[Builtin.max_]
       ·cases B
   |value f=>cases g
   |invoke r m=>cases g
 |_=>cases g
end
def RW(Δ:Env)(b:Nat):Prop:=∃l d,Δ l=some d/\d.ro=false/\d.b=b
structure FR (Δ a:Env) (w w':World):Prop where
 le:Δ.le a
 size:w.heap.size<=w'.heap.size
 os:w'.os=w.os
 tape:w'.tape=w.tape
 output:w'.output=w.output
 eR:∀b,b<w.heap.size->¬RW Δ b->w'.heap[b]? =w.heap[b]?
 new:∀l d,a l=some d->Δ l=some d\/w.heap.size<=d.b\/RW Δ d.b
theorem FR.refl(Δ:Env)(w:World):FR Δ Δ w w:=⟨Env.le_refl _,iZ _,rfl,rfl,rfl,by simp_all,by simp_all⟩
theorem FR.trans{Δ m c:Env} {w w' e:World} (h:FR Δ m w w') (h':FR m c w' e):FR Δ c w e where
 le:=Env.le_trans h.le h'.le
 size:=Fe h.size h'.size
 os:=h'.os.trans h.os
 tape:=h'.tape.trans h.tape
 output:=h'.output.trans h.output
 eR:=λb n o=>by
  rw[h'.eR b (Cc n h.size) ?_,h.eR b n o];rintro⟨l,d,f,q,rfl⟩;rcases h.new l d f with a|a|a
  ·exact o ⟨l,d,a,q,rfl⟩
  ·omega
  simp_all
 new:=λl d f=>by
  rcases h'.new l d f with a|a|⟨p,d',g,i,j⟩
  ·exact h.new l d a
  ·exact .inr (.inl (Fe h.size a))
  ·rcases h.new p d' g with k|k|k
   ·exact .inr (.inr ⟨p,d',k,i,j⟩)
   ·omega
   simp_all
theorem tW(h:Hp) (o:O) (l:Nat):(h.new o).get l=if h.next=l then some o else h.get l:=by
 rw[Hp.get_eq,Hp.get_eq];unfold Hp.new;simp only[Tr.Hj]
 grind
theorem oR{h:Hp} {l:Nat} (o:O) (m:Nat) (a:l<h.next):(h.put l o).get m=if l=m then some o else h.get m:=by
 rw[Hp.get_eq,Hp.get_eq];unfold Hp.put;simp only[Tr.Hj]
 grind
def Env.set(Δ:Env)(l:Nat)(d:D):Env:=λm=>if m=l then some d else Δ m
theorem Env.w5{Δ:Env} {l:Nat} {d:D} (h:Δ l=none):Δ.le (Δ.set l d):=λm e a=>by
 unfold Env.set
 grind
theorem Env.uz(Δ:Env)(l:Nat)(d:D):(Δ.set l d) l=some d:=if_pos rfl
theorem Env.kR{Δ:Env} {l m:Nat} {d e:D} (h:(Δ.set l d) m=some e):(m=l/\e=d)\/(m≠l/\Δ m=some e):=by
 unfold Env.set at h
 grind
theorem WR.EE{Δ:Env} {h:Hp} {w:World} (a:WR Δ h w):Δ h.next=none:=by
 cases hd:Δ h.next with
 |none=>rfl
 |some d=>exact absurd (a.fresh _ _ hd) (Ym _)
theorem heap_alloc(w:World) (ob:Obj) (b:Nat):(w.alloc ob).heap[b]? =if b=w.heap.size then some ob else w.heap[b]?:=by
 grind[World.alloc]
theorem Bt.step{Δ a:Env} {w w':World} (h:Bt Δ w) (hk:∀b,b<w.heap.size->¬RW Δ b->w'.heap[b]? =w.heap[b]?) (i:∀l d,a l=some d->d.ro=false->Δ l=some d\/w.heap.size<=d.b\/RW Δ d.b):Bt a w':=by
 intro g c f;obtain⟨⟨e,fr,j⟩,k⟩:=h g c f
 grind[VP,RW]
theorem WR.lay{Δ:Env} {h:Hp} {w:World} (c:WR Δ h w) {l:Nat} {o:O} {d:D} {ob:Obj} (x:Δ l=none) (z:l<h.next) (A:h.get l=some o) (B:d.b=w.heap.size)
  (C:Oq (Δ.set l d) d o (some ob)):WR (Δ.set l d) h (w.alloc ob) where
 fresh:=λm e a=>by
  rcases Env.kR a with⟨rfl,rfl⟩|⟨_,a⟩
  ·exact z
  ·exact c.fresh m e a
 mh:=λm e a=>by
  simp only[World.size_alloc];rcases Env.kR a with⟨rfl,rfl⟩|⟨_,a⟩
  ·omega
  ·have:=c.mh m e a;omega
 obj:=λm e a=>by
  rcases Env.kR a with⟨rfl,rfl⟩|⟨_,a⟩
  ·refine⟨o,A,?_⟩;rw[heap_alloc,if_pos B];exact C
  ·obtain⟨E,f,j⟩:=c.obj m e a;refine⟨E,f,?_⟩;rw[heap_alloc,if_neg (O6 (c.mh m e a))];exact j.mono (Env.w5 x)
 apart:=λm y e e' p F a k n q r s i t=>by
  rcases Env.kR a with⟨f,j⟩|⟨_,f⟩ <;> rcases Env.kR k with⟨u,G⟩|⟨_,u⟩
  ·omega
  ·have:=c.mh y e' u;grind
  ·have:=c.mh m e f;grind
  ·exact c.apart m y e e' p F f u n q r s i t
 GA:=λg p v q=>by
  obtain⟨e,f,j⟩:=c.GA g p v q;exact⟨e,Env.w5 x _ _ f,j⟩
 xF:=c.xF
 SW:=c.SW.step (by simp_all[heap_alloc,if_neg,O6]) λm e a _=>by
  rcases Env.kR a with⟨rfl,rfl⟩|⟨_,a⟩
  ·omega
  simp_all
theorem WR.more{Δ:Env} {h:Hp} {w:World} (a:WR Δ h w) (o:O):WR Δ (h.new o) w where
 fresh:=λl d i=>wBq (a.fresh l d i)
 mh:=a.mh
 obj:=λl d i=>by
  obtain⟨q,r,s⟩:=a.obj l d i;refine⟨q,?_,s⟩;rw[tW,if_neg (Nat.ne_of_gt (a.fresh l d i))];exact r
 apart:=λm t e e' p u n b j c f=>by
  rw[tW,if_neg (Nat.ne_of_gt (a.fresh _ _ n))]at c;rw[tW,if_neg (Nat.ne_of_gt (a.fresh _ _ b))]at f;exact a.apart m t e e' p u n b j c f
 GA:=λg p k c=>by
  rw[tW,if_neg (by have:=a.xF;omega)]at c;exact a.GA g p k c
 xF:=W8 a.xF
 SW:=a.SW
theorem FR.lay{Δ:Env} {w:World} {l:Nat} {d:D} {ob:Obj} (c:Δ l=none) (f:d.b=w.heap.size):FR Δ (Δ.set l d) w (w.alloc ob) where
 le:=Env.w5 c
 size:=by simp
 os:=rfl
 tape:=rfl
 output:=rfl
 eR:=by simp_all[heap_alloc,if_neg,O6]
 new:=λm e a=>by
  rcases Env.kR a with⟨rfl,rfl⟩|⟨_,a⟩
  ·omega
  simp_all
def Made(Δ:Env) (ob:O) (mk:Nat->V) (a:Obj) (c:Nat->Value):Prop:=∀l b,Δ l=none->∃d,d.b=b/\Oq (Δ.set l d) d ob (some a)/\fF (Δ.set l d) (mk l) (c b)
theorem z9{Δ:Env} {d:D} {cs:List V} {c:Array Value} {e:Nat} (hs:c.size=d.Ui) (a:d.base=0) (b:cs.length<=d.Ui) (hc:∀(i:Nat) (v:V),cs[i]? =some v->∃x,c[i]? =some x/\fF Δ v x) :
  EK Δ d cs (some (.cells c e (0,0))):=
 ⟨c,e,(0,0),rfl,hs,λ_=> .inl rfl,by omega,λi v hi=>by rw[a,wX];exact hc i v hi⟩
theorem Sw{Δ:Env} {e:Nat} {v:V} {xv:Value} {ob:O} {mk:Nat->V} (f:fF Δ v xv) (a:pU e v=some (ob,mk)) :
  Made Δ ob mk (.cells xv.cells e) (λb=> .pointer (some ⟨b,0,none⟩)):=by
 unfold pU at a;rw[gL]at a;obtain⟨_,a⟩:=a;cases a;intro l b h;have hc:=f.cells;have c:=Env.w5 (d:=⟨b,0,1,v.cells.length,xv.cells.size,false,0⟩) h;refine⟨⟨b,0,1,v.cells.length,xv.cells.size,false,0⟩,rfl,⟨rfl,rfl,rfl,rfl,λ_=>?_⟩,?_⟩
 ·refine z9 rfl rfl (wB6 (by first|(simpa using hc.length)|(simpa using g.length))) λi u hi=>?_;obtain⟨x,f,g⟩:=hc.get i u hi;exact⟨x,by simp_all,g.mono c⟩
 ·exact fF.ptr l 0 ⟨b,0,1,v.cells.length,xv.cells.size,false,0⟩ (Env.uz _ _ _)
theorem EB{a size kE:Nat} {z:V} (h:elemOf a=some (size,kE,z)) :
  wW a=some size/\Xy a=some kE/\zeroV a=some z/\0<size/\z.cells.length=size/\fW z.cells=true:=by
 grind[elemOf,fh,gL,Nn,zR]
theorem yE{t e:Nat} (h:Em t=some e):P0.underlying t=some (.slice e):=by
 grind[Em]
theorem OQ(z:List V):∀(m i:Nat),(Ac m z)[i]? =if i<m*z.length then z[i % z.length]? else none
 |0,i=>by simp[Ac]
 | m + 1,i=>by
   simp only[Ac,List.getElem?_append];by_cases a:i<z.length
   ·rw[if_pos a,if_pos (by grind),Nat.mod_eq_of_lt a]
   ·rw[if_neg a,OQ z m]
    have e:i % z.length=(i-z.length) % z.length:=by
      rw[Nat.mod_eq_sub_mod (by omega)]
    grind
theorem zN(z:List V):∀m,(Ac m z).length=m*z.length
 |0=>by simp[Ac]
 |m+1=>by simp[Ac,zN z m,UQ,Nat.add_comm]
theorem Pk{Δ:Env} {z:List V} {a:Array Value} (b:gh Δ z a.toList) (h0:0<z.length) (m:Nat):gh Δ (Ac m z) ((Array.range (m*z.length)).map λi=>a[i % a.size]!).toList:=by
 have hlen:=b.length;simp only[Xf]at hlen;refine gh.Nm (by simp[zN]) λi v hi=>?_;rw[OQ]at hi;by_cases h:i<m*z.length
 ·rw[if_pos h]at hi;obtain⟨x,c,d⟩:=b.get _ _ hi
  grind
 simp_all
section
variable{Δ:Env}{h:Hp}{w:World}{n:Nat}{t:Tm}{a:Act}
theorem Pq(Y : TR Δ n t a) {o:Oper} {ob:O} {mk:Nat->V} (g:(pD o).f t=some (ob,mk)) :
    ∃mo mv,(∀w,(execOp a.eval o).run P0 w = .ok (.value (mv w.heap.size)) (w.alloc mo))/\Made Δ ob mk mo mv:=by
  obtain⟨dst,op,ty,pos,af,gd⟩:=o
  cases op with
  | alloc e=>
    simp only[pD]at g;split at g
    ·rename_i z R
     obtain⟨y,I,C,_⟩:=yC R;refine⟨_,_,λw=>lM (x:= .pointer (some ⟨w.heap.size,0,none⟩)) ?_,Sw (C Δ) g⟩
     simp_all[Instr.alloc,newVar,newRow]
    ·cases g
  | box e x=>
    simp only[pD,fh]at g;obtain⟨v,S,Q⟩:=g;refine⟨_,_,λw=>lM (x:= .pointer (some ⟨w.heap.size,0,none⟩)) ?_,Sw (DP Y S) Q⟩
    rfl
  | buildSlice T len parts=>
    simp only[pD]at g;split at g
    ·rename_i s J
     have hu:=yE J;split at g
     ·rename_i size kE z he
      obtain⟨hs,_,R,U,E,_⟩:=EB he;obtain⟨y,I,C,_⟩:=yC R;split at g
      ·rename_i D
       have aj:len*size<=16777216:=Jd D;simp only[DU,fh,gL]at g;obtain⟨ps,S,cs,Q,_,K⟩:=g;cases K;have F:=(C Δ).cells;have A:=Pk F (by omega) len;have ak:y.cells.size=size:=by have:=F.length;simp only[Xf]at this;omega
       have j:gh Δ (Ac len z.cells) ((Array.range (len*size)).map λi=>(if len*size=0 then(#[]:Array Value) else y.cells)[i % (if len*size=0 then(#[]:Array Value) else y.cells).size]!).toList:=by
         by_cases h0:len*size=0
         ·simp_all
         ·simp_all
       obtain⟨og,Z,hr⟩:=JR (Cj Y S) j Q;refine⟨.cells og s,λb=> .slice (some ⟨b,0,none⟩) len len,λw=>lM (w:=w) (x:= .slice (some ⟨w.heap.size,0,none⟩) len len) ?_,?_⟩
       ·have B:(parts.map λ(x:Nat×Operand)=>(x.1,a.eval x.2)).toList=parts.toList.map λx=>(x.1,a.eval x.2):=by simp
        have aa:¬(len*size>2 ^ 24):=by omega
        have W:(if len*size=0 then(pure #[]:Sem (Array Value)) else do pure (<-zeroValue s).cells).run P0 w = .ok (if len*size=0 then(#[]:Array Value) else y.cells) w:=by
          by_cases h0:len*size=0
          ·simp_all
          ·simp_all
        simp only[Instr.buildSlice,uZ,fN hu,uJ hs,tN,Sem.run_ite];rw[if_neg aa];simp only[Jg,tN,uZ];clear j W;by_cases h0:len*size=0
        ·simp only[if_pos h0]at Z⊢
         rw[B];have L:Instr.fill (λi=>some (i*size,size)) (Array.map (λx=>(#[]:Array Value)[x % (#[]:Array Value).size]!) (Array.range (len*size))) (List.map (λx=>(x.1,a.eval x.2)) parts.toList)=some og:=Z;rw[L];rfl
        ·simp only[if_neg h0,I,tN]at Z⊢
         rw[B];have L:Instr.fill (λi=>some (i*size,size)) (Array.map (λx=>y.cells[x % y.cells.size]!) (Array.range (len*size))) (List.map (λx=>(x.1,a.eval x.2)) parts.toList)=some og:=Z;rw[L];rfl
       ·intro l b hn
        have M:=hr.length;simp only[Xf]at M;have al:cs.length=len*size:=by
          have h5:∀{place:Nat->Option (Nat×Nat)} {ps:List (Nat×V)} {c c':List V},Bg place c ps=some c'->c'.length=c.length:=by
            intro place ps
            induction ps with
            |nil=>grind[Bg]
            | cons p ps ih=>
              intro c c' h;simp only[Bg,fh,gL]at h;obtain⟨q,_,_,am,h6,h7⟩:=h;rw[ih h7,(Ie h6).1]
          rw[h5 Q,zN,E]
        have D:=Env.w5 (d:=⟨b,0,size,cs.length,og.size,false,0⟩) hn;refine⟨⟨b,0,size,cs.length,og.size,false,0⟩,rfl,⟨rfl,rfl,rfl,rfl,λ_=>?_⟩,?_⟩
        ·refine z9 rfl rfl (by simp_all) λi u hi=>?_
         obtain⟨x,hx,N⟩:=hr.get i u hi;exact⟨x,by simp_all,N.mono D⟩
        ·refine fF.slice l 0 len len 0 ⟨b,0,size,cs.length,og.size,false,0⟩ (Env.uz _ _ _) rfl (iZ _) (.inl ⟨rfl,?_,?_⟩)
         ·simp_all
         simp_all
      ·cases g
     ·cases g
    ·cases g
  | makeSlice T m c=>
    simp only[pD]at g;split at g
    ·rename_i s J
     have hu:=yE J;split at g
     ·rename_i size kE z he
      obtain⟨hs,P,R,U,E,_⟩:=EB he;obtain⟨y,I,C,i,hi,an⟩:=yC R;simp only[fh]at g;obtain⟨mv,S,cv,Q,K⟩:=g;have hm:=DP Y S;have hc:=DP Y Q;unfold ie at K;split at K
      ·rename_i G c'
       simp only[gL]at K;obtain⟨h4,h5,h6,h7⟩:=K;cases h7;have ab:G<=c':=Jd h4;have ao:c'*kE<=281474976710656:=Jd h5;have ac:c'<=1099511627776:=Jd h6;have ae:i.bytes=kE:=by
         unfold Xy at P;rw[fh]at P;obtain⟨i',X,hb⟩:=P;rw[hi]at X;cases X;simpa using hb
       have F:=(C Δ).cells;have A:=Pk F (by omega) c';rw[E]at A;have ag:a.eval m = .int .i64 (G:Int):=by
         generalize a.eval m=x at hm;cases hm;rfl
       have ah:a.eval c = .int .i64 (c':Int):=by
         generalize a.eval c=x at hc;cases hc;rfl
       have wr:∀k:Nat,k<=1099511627776->IntKind.i64.wrap (k:Int)=k:=by grind[IntKind.wrap,IntKind.bits,IntKind.signed]
       refine⟨.cells ((Array.range (c'*size)).map λi=>y.cells[i % y.cells.size]!) s,λb=> .slice (some ⟨b,0,none⟩) G c',λw=>lM (w:=w) (x:= .slice (some ⟨w.heap.size,0,none⟩) G c') ?_,?_⟩
       ·rw[ag,ah]
        have e1:((i.bytes:Int)*(c':Int)>2 ^ 48)=False:=by
          rw[ae];have:(kE:Int)*(c':Int)=((c'*kE:Nat):Int):=by rw[Nat.mul_comm];simp
          rw[this];simp;omega
        have j:(if c'*size=0 then(pure #[]:Sem (Array Value)) else do pure (<-zeroValue s).cells).run P0 w = .ok (if c'*size=0 then(#[]:Array Value) else y.cells) w:=by
          by_cases h0:c'*size=0
          ·simp_all
          ·simp_all
        have H:((Array.range (c'*size)).map λi=>(if c'*size=0 then(#[]:Array Value) else y.cells)[i % (if c'*size=0 then(#[]:Array Value) else y.cells).size]!)=((Array.range (c'*size)).map λi=>y.cells[i % y.cells.size]!):=by
          by_cases h0:c'*size=0
          ·simp_all
          ·simp_all
        have c1:¬((c':Int)<0):=by omega
        have c2:¬((G:Int)<0):=by omega
        have c3:¬((G:Int)>(c':Int)):=by omega
        simp only[Instr.makeSlice,uZ,fN hu,tN,asInt,asIntOf,Jg,typeInfo,run_program,hi,wr G (by omega),wr c' ac,e1,c1,c2,c3,decide_false,Bool.or_false,Oh,if_false,run_askRoom,uJ hs,Int.toNat_natCast];clear j;by_cases h0:c'*size=0
        ·simp only[if_pos h0,newRow,run_newObj,uZ,Jg,tN]at H⊢
         rw[H];rfl
        simp_all[if_neg,newRow,run_newObj,uZ,Jg,tN]
       ·intro l b hn
        have M:=A.length;simp only[Xf]at M;have ai:(Ac c' z.cells).length=c'*size:=by rw[zN,E]
        have D:=Env.w5 (d:=⟨b,0,size,(Ac c' z.cells).length,c'*size,false,0⟩) hn;refine⟨⟨b,0,size,(Ac c' z.cells).length,c'*size,false,0⟩,rfl,⟨rfl,rfl,rfl,rfl,λ_=>?_⟩,?_⟩
        ·refine z9 (by simp) rfl (wB6 ai) λi u hi=>?_
         obtain⟨x,hx,N⟩:=A.get i u hi;exact⟨x,by grind,N.mono D⟩
        ·refine fF.slice l 0 G c' 0 ⟨b,0,size,(Ac c' z.cells).length,c'*size,false,0⟩ (Env.uz _ _ _) rfl ab (.inl ⟨rfl,?_,?_⟩)
         ·simp_all
         simp_all
      ·cases K
     ·cases g
    ·cases g
  | makeMap T r=>
    cases r with
    | none=>
      simp only[pD]at g;split at g
      ·cases g
       refine⟨.map #[] 0,λb=> .map (some b),λw=>lM (x:= .map (some w.heap.size)) (by simp[Instr.makeMap]),?_⟩;intro l b hn;exact⟨⟨b,0,0,0,0,false,1⟩,rfl,⟨rfl,rfl,rfl,#[],rfl,.nil⟩,fF.map l ⟨b,0,0,0,0,false,1⟩ (Env.uz _ _ _)⟩
      ·cases g
    |some _=>cases g
  |_=>cases g
end
