/- Parts. -/
import Derived.Test.YtjgjgngfjopaaaaDoorM01
import Derived.Laws.Pointers
import Derived.Laws.StructEq
import Derived.Laws.Strings2
import Derived.Laws.IdiomStrings
namespace Go.Proofs.YtjgjgngfjopaaaaDoor.Hx
inductive tY (Δ:Env):List (V×V×Nat)->List MapEntry->Prop
 |nil:tY Δ [] []
 | cons (k v:V) (n:Nat) (e:MapEntry) (b:List (V×V×Nat)) (a:List MapEntry) (c:fM Δ k e.key) (hv:fM Δ v e.val) (d:e.born=n)
   (hs:tY Δ b a):tY Δ ((k,v,n)::b) (e::a)
theorem tY.mono{Δ d:Env} (b:Δ.le d) {c:List (V×V×Nat)} {a:List MapEntry} (h:tY Δ c a):tY d c a:=by
 induction h with
 |nil=>exact .nil
 |cons k v n e c a f hv g _ i=>exact .cons k v n e c a (f.mono b) (hv.mono b) g i
def FJ(Δ:Env) (d:D) (cs:List V) (ob:Option Obj):Prop:=∃c e fr,ob=some (.cells c e fr)/\c.size=d.Rk/\(d.ro=false->fr.1=fr.2\/d.Rk<=fr.1)/\d.base+cs.length<=d.Rk/\∀(i:Nat) (v:V),cs[i]? =some v->∃x,c[d.base+i]? =some x/\fM Δ v x
def Ra(Δ:Env) (d:D) (o:O) (ob:Option Obj):Prop:=match o with
 | .cells _ sz live ro cs=>d.kind=0/\d.sz=sz/\d.n=cs.length/\d.ro=ro/\(live=true->FJ Δ d cs ob)
 | .map g a=>d.kind=1/\d.ro=false/\d.base=0/\∃c,ob=some (.map c a)/\tY Δ g c.toList
 | .iter m since seen last=>d.kind=2/\d.ro=false/\d.base=0/\∃e,ob=some (.mapIter e since seen.toArray last)/\
   (match m with
    |none=>e=none
    |some l=>∃f,Δ l=some f/\e=some f.b)
def O.live:O->Bool
 | .cells _ _ live _ _=>live
 |_=>true
def Cd(Δ:Env)(w:World):Prop:=∀g c,(g,c)∈zc5->(∃e fr,w.heap[g]? =some (.cells c e fr))/\∀l d,Δ l=some d->d.ro=false->d.b≠g
structure WR (Δ:Env) (h:Hp) (w:World):Prop where
 fresh:∀l d,Δ l=some d->l<h.next
 nW:∀l d,Δ l=some d->d.b<w.heap.size
 obj:∀l d,Δ l=some d->∃o,h.get l=some o/\Ra Δ d o w.heap[d.b]?
 apart:∀l a d c o e,Δ l=some d->Δ a=some c->l≠a->h.get l=some o->h.get a=some e->o.live=true->e.live=true->
  (d.ro=false\/c.ro=false)->d.b≠c.b
 HL:∀g o,g<P0.globals.size->h.get g=some o->∃d,Δ g=some d/\d.b=g/\d.base=0
 yJ:P0.globals.size<=h.next
 Ts:Cd Δ w
inductive II (Δ:Env):List (Nat×List V)->List Deferred->Prop
 |nil:II Δ [] []
 | cons (g:Nat) (args:List V) (cap gN:Array Value) (l:List (Nat×List V)) (a:List Deferred) (b:gM Δ args (gN++cap).toList) (c:II Δ l a) :
   II Δ ((g,args)::l) ({target:= .fn (.func g) cap,args:=gN}::a)
theorem II.mono{Δ c:Env} (b:Δ.le c) {l:List (Nat×List V)} {a:List Deferred} (h:II Δ l a):II c l a:=by
 induction h with
 |nil=>exact .nil
 |cons g args cap gN l a d _ e=>exact .cons g args cap gN l a (d.mono b) e
structure TR (Δ:Env) (n:Nat) (t:Tm) (a:Act):Prop where
 size:a.tmps.size=n
 rel:∀i,fM Δ (jL t i) (a.tmps.getD i undef)
 ds:II Δ t.ds a.defers
theorem VX{fr:Nat×Nat}{n:Nat}(h:fr.1=fr.2\/n<=fr.1):∀i,i<n->¬(fr.1<=i/\i<fr.2):=λi hi hc=>by omega
theorem FJ.mono{Δ b:Env} (a:Δ.le b) {d:D} {cs:List V} {ob:Option Obj} (h:FJ Δ d cs ob):FJ b d cs ob:=by
 obtain⟨c,e,fr,f,g,j,k,l⟩:=h;exact⟨c,e,fr,f,g,j,k,λi v hi=>let⟨x,hx,hr⟩:=l i v hi;⟨x,hx,hr.mono a⟩⟩
theorem Ra.mono{Δ n:Env} (a:Δ.le n) {d:D} {o:O} {ob:Option Obj} (h:Ra Δ d o ob):Ra n d o ob:=by
 cases o with
 | cells e sz live ro cs=>
   obtain⟨c,f,g,i,b⟩:=h
   exact⟨c,f,g,i,λp=>(b p).mono a⟩
 | map u j=>
   obtain⟨c,f,g,k,i,b⟩:=h
   exact⟨c,f,g,k,i,b.mono a⟩
 | iter m since seen last=>
   obtain⟨c,f,g,q,i,b⟩:=h;refine⟨c,f,g,q,i,?_⟩
   cases m with
   |none=>exact b
   |some l=>obtain⟨r,s,t⟩:=b;exact⟨r,a _ _ s,t⟩
theorem TR.mono{Δ c:Env}(b:Δ.le c){n:Nat}{t:Tm}{a:Act}(h:TR Δ n t a):TR c n t a:=⟨h.size,λi=>(h.rel i).mono b,h.ds.mono b⟩
theorem fP{t:Nat}{d:TypeDesc}{w:World}(h:P0.underlying t=some d):(underlying t).run P0 w = .ok d w:=by simp[underlying,h]
theorem CJ{t n:Nat} (h:yq t=some n):∃i,P0.info? t=some i/\i.size=n:=by
 unfold yq at h;rw[ft]at h;obtain⟨i,hi,h⟩:=h;exact⟨i,hi,by simpa using h⟩
theorem vz{t n:Nat} {w:World} (h:yq t=some n):(sizeOf t).run P0 w = .ok n w:=by
 obtain⟨i,hi,rfl⟩:=CJ h;simp[sizeOf,typeInfo,hi]
theorem FU{t:Nat} {b:Bool} {w:World} (h:LJ t=some b):(isAgg t).run P0 w = .ok b w:=by
 unfold LJ at h;split at h
 ·rename_i a;cases h;simp[isAgg,fP a]
 ·rename_i a;cases h;simp[isAgg,fP a]
 ·rename_i d c e a;cases h;simp only[isAgg,qh,fP a,py];rfl
 ·cases h
theorem zI{t:Nat} {z:V} (h:zeroV t=some z):∃a,(∀w,(zeroValue t).run P0 w = .ok a w)/\(∀Δ,fM Δ z a)/\∃i,P0.info? t=some i/\i.zero=some a:=by
 unfold zeroV at h;simp only[ft]at h;obtain⟨i,hi,a,b,hv⟩:=h;exact⟨a,λw=>by simp[zeroValue,typeInfo,hi,b],λΔ=>FH Δ 8 a z hv,i,hi,b⟩
theorem pb(b o n:Nat):(⟨b,o,none⟩:Addr).add n=⟨b,o+n,none⟩:=by
 unfold Addr.add;split
 ·rename_i h;subst h;rfl
 ·rfl
section
variable{Δ:Env}{h:Hp}{w:World}{n:Nat}{t:Tm}{a:Act}
theorem Fj(b:TR Δ n t a) {x:Operand} {v:V} (hv:(MV x).f t=some v):fM Δ v (a.eval x):=by
 cases x with
 |tmp i=>simp only[MV]at hv;cases hv;exact b.rel i
 | const c=>
   simp only[MV]at hv;split at hv
   ·rename_i y d;cases hv;exact FH Δ 8 c _ d
   ·cases hv
 |global g=>simp[MV]at hv
 |func f=>simp only[MV]at hv;cases hv;exact .func f [] [] #[] #[] .nil .nil
theorem kS(j:WR Δ h w) (b:TR Δ n t a) {x:Operand} {v:V} (hv:(sR x).f t h=some v):fM Δ v (a.eval x):=by
 cases x with
 | global g=>
   unfold sR at hv
   cases Kh:Nat.blt g P0.globals.size with
   | true=>
     simp only[Kh,ft]at hv;obtain⟨o,k,hv⟩:=hv;cases hv;have l:g<P0.globals.size:=by rw[<-Ns];exact Kh
     obtain⟨d,m,p,e⟩:=j.HL g o l k;have:=fM.ptr (Δ:=Δ) g 0 d m;rw[p,e]at this
     exact this
   |false=>simp[Kh]at hv
 |tmp i=>exact Fj b hv
 |const c=>exact Fj b hv
 |func f=>exact Fj b hv
theorem A8(b:TR Δ n t a):∀{l:List Operand} {vs:List V},Jb t l=some vs->gM Δ vs (l.map a.eval)
 |[],vs,hv=>by simp[Jb]at hv;subst hv;exact .nil
 | x::l,vs,hv=>by
   simp only[Jb,ft]at hv;obtain⟨v,c,d,e,f⟩:=hv;cases f;exact .cons _ _ _ _ (Fj b c) (A8 b e)
inductive VQ (Δ:Env):List (Nat×V)->List (Nat×Value)->Prop
 |nil:VQ Δ [] []
 |cons (i:Nat) (v:V) (a:Value) (l:List (Nat×V)) (b:List (Nat×Value)) (hv:fM Δ v a) (hs:VQ Δ l b):VQ Δ ((i,v)::l) ((i,a)::b)
theorem Db(b:TR Δ n t a):∀{l:List (Nat×Operand)} {vs:List (Nat×V)},tN t l=some vs->VQ Δ vs (l.map λx=>(x.1,a.eval x.2))
 |[],vs,hv=>by simp[tN]at hv;subst hv;exact .nil
 | x::l,vs,hv=>by
   simp only[tN,ft]at hv;obtain⟨v,c,d,e,f⟩:=hv;cases f;exact .cons _ _ _ _ _ (Fj b c) (Db b e)
theorem TF(g:WR Δ h w) {l:Nat} {d:D} (j:Δ l=some d) {e sz:Nat} {ro:Bool} {cs:List V} (k:h.get l=some (.cells e sz true ro cs))
  {i:Nat} {v:V} (hi:cs[i]? =some v):∃x,w.cell? ⟨d.b,d.base+i,none⟩=some x/\fM Δ v x:=by
 obtain⟨o,f,a⟩:=g.obj l d j;rw[k]at f;cases f;obtain⟨_,_,_,_,hc⟩:=a;obtain⟨c,q,fr,m,_,_,_,n⟩:=hc rfl;obtain⟨x,p,a⟩:=n i v hi;exact⟨x,by simp[World.cell?,m,p],a⟩
theorem IW(t:WR Δ h w) {l:Nat} {d:D} (u:Δ l=some d) {off m:Nat} {cs:List V} (hv:Gx h l off m=some cs) :
  ∃a,(loadCells ⟨d.b,d.base+off,none⟩ m).run P0 w = .ok a w/\gM Δ cs a.toList:=by
 unfold Gx at hv;rw[kQ]at hv;obtain⟨e,sz,live,ro,all,y,hv⟩:=hv;rw[g0]at hv;obtain⟨rfl,hv⟩:=hv;obtain⟨hlen,c⟩:=sub_eq hv;have f:∀j,j<m->∃x v,w.cell? ⟨d.b,d.base+off+j,none⟩=some x/\cs[j]? =some v/\fM Δ v x:=λj o=>by
  have p:j<cs.length:=by omega
  have r:cs[j]? =some cs[j]:=gP p;have s:=c j o;rw[r]at s;obtain⟨x,g,q⟩:=TF t u y s.symm;exact⟨x,_,by rw[YE];exact g,r,q⟩
 refine⟨_,run_loadCells w ⟨d.b,d.base+off,none⟩ m (λj=>(w.cell? ⟨d.b,d.base+off+j,none⟩).getD undef) (λj o=>?_),?_⟩
 ·obtain⟨x,v,g,_,_⟩:=f j o;rw[pb,g];rfl
 ·refine gM.On (by simp[hlen]) λi v hi=>?_;have k:i<m:=by
   have:=(iR.1 hi).1;omega
  obtain⟨x,z,g,n,q⟩:=f i k;rw[hi]at n;cases n;exact⟨x,by simp[k,g],q⟩
theorem Xp(a:WR Δ h w) {l:Nat} {d:D} (c:Δ l=some d) {off:Nat} {v:V} (hv:ld1 h l off=some v) :
  ∃x,w.cell? ⟨d.b,d.base+off,none⟩=some x/\fM Δ v x:=by
 unfold ld1 at hv;rw[kQ]at hv;obtain⟨e,sz,live,ro,all,f,hv⟩:=hv;rw[g0]at hv;obtain⟨rfl,hv⟩:=hv;exact TF a c f (Ml hv)
theorem Mc(j:WR Δ h w) {ty:Nat} {p:PF} {xv:Value} (hp:∀v,p.f t h=some v->fM Δ v xv) {v:V} (hv:(Kb ty p).f t h=some v) :
  ∃x,(Instr.loadAt ty xv).run P0 w = .ok x w/\fM Δ v x:=by
 unfold Kb at hv;split at hv
 ·rename_i b;split at hv
  ·rename_i m k;simp only[ft,vx]at hv;obtain⟨av,c,l,off,rfl,cs,e,n⟩:=hv;cases n
   cases hp _ c with
   | ptr _ _ d g=>
     obtain⟨i,o,a⟩:=IW j g e;exact⟨.agg i,by simp[Instr.loadAt,Instr.sureAddr,loadVar,FU b,vz k,o],.agg _ _ a⟩
  ·cases hv
 ·rename_i b;simp only[ft,vx]at hv;obtain⟨av,c,l,off,rfl,e⟩:=hv
  cases hp _ c with
  | ptr _ _ d g=>
    obtain⟨x,q,a⟩:=Xp j g e;exact⟨x,by simp[Instr.loadAt,Instr.sureAddr,loadVar,FU b,q],a⟩
 ·cases hv
theorem Kq:∀(fs:List Field) (pl:List (Nat×Nat)),placesOf fs=some pl->fs.mapM (λf=>(P0.info? f.type).map λi=>(f.offset,i.size))=some pl
 |[],pl,h=>by simp[placesOf]at h;subst h;simp
 | f::fs,pl,h=>by
   simp only[placesOf,ft]at h;obtain⟨m,a,l,b,c⟩:=h;cases c;obtain⟨i,hi,rfl⟩:=CJ a;simp[List.mapM_cons,hi,Kq fs l b]
theorem N7:∀(xs:List Value) (k off:Nat) (c:Array Value),off+k+xs.length<=c.size->
  ∀i,((xs.zipIdx k).foldl (λcs (p:Value×Nat)=>cs.setIfInBounds (off+p.2) p.1) c)[i]? =if off+k<=i/\i<off+k+xs.length then xs[i-(off+k)]? else c[i]?
 | [],k,off,c,_,i=>by
   rw[if_neg (by simp only[XZ];omega)]
   rfl
 | x ::xs,k,off,c,hle,i=>by
   simp only[List.zipIdx_cons,List.foldl_cons];simp only[Dz]at hle;rw[N7 xs (k+1) off _ (by simp;omega)];by_cases b:off+(k+1)<=i/\i<off+(k+1)+xs.length
   ·rw[if_pos b,if_pos (by simp only[Dz];omega)]
    have:i-(off+k)=(i-(off+(k+1)))+1:=by omega
    rw[this,QB]
   ·rw[if_neg b]
    by_cases d:i=off+k
    ·subst d
     rw[if_pos (by simp only[Dz];omega)];have a:off+k<c.size:=by omega
     simp[a]
    ·rw[if_neg (by simp only[Dz];omega)]
     rw[wBn (λe=>d e.symm)]
theorem K5{place:Nat->Option (Nat×Nat)}:∀{ps:List (Nat×V)} {Zh:List (Nat×Value)} {cells cs:List V} {a:Array Value},VQ Δ ps Zh->gM Δ cells a.toList->
  B6 place cells ps=some cs->∃nQ,Instr.fill place a Zh=some nQ/\gM Δ cs nQ.toList
 |_,_,cells,cs,a,.nil,hc,hf=>by simp[B6]at hf;subst hf;exact⟨a,rfl,hc⟩
 | _,_,cells,cs,a,.cons i v v' l l' hv hs,hc,hf=>by
   simp only[B6,ft,g0]at hf;obtain⟨⟨off,size⟩,z,A,q,B,C⟩:=hf;obtain⟨J,D,k⟩:=JR B;have d:=hv.cells;have r:v'.cells.size=size:=by
     have:=d.length;rw[vK A]at this;simpa using this.symm
   have s:=hc.length;simp only[Ui]at s;have E:v.cells.length=v'.cells.size:=by simpa using d.length
   have t:¬(v'.cells.size≠size\/off+v'.cells.size>a.size):=by
     rintro(h|h)
     ·exact h r
     ·omega
   have m:gM Δ q (v'.cells.zipIdx.foldl (λcs (c,j)=>cs.setIfInBounds (off+j) c) a).toList:=by
     have b:=N7 v'.cells.toList 0 off a (by simp;omega);have e:(v'.cells.zipIdx.foldl (λcs (c,j)=>cs.setIfInBounds (off+j) c) a)=((v'.cells.toList.zipIdx 0).foldl (λcs (p:Value×Nat)=>cs.setIfInBounds (off+p.2) p.1) a):=by
       rw[<-Array.foldl_toList];simp
     rw[e];generalize hF:((v'.cells.toList.zipIdx 0).foldl (λcs (p:Value×Nat)=>cs.setIfInBounds (off+p.2) p.1) a)=F at b;have G:F.size=a.size:=by
      apply Nat.le_antisymm
      ·rcases Pm a.size F.size with f|g
       ·have:=b a.size
        rw[if_neg (by simp;omega)]at this;simp[f]at this
       ·exact g
      ·rcases Pm F.size a.size with f|g
       ·have:=b F.size
        by_cases hin:off+0<=F.size/\F.size<off+0+v'.cells.toList.length
        ·rw[if_pos hin]at this
         have H:F.size-(off+0)<v'.cells.toList.length:=by omega
         rw[gP H]at this;simp at this
        ·rw[if_neg hin]at this
         simp[f]at this
       ·exact g
     refine gM.On (by simp only[Ui];omega) λj x n=>?_;rw[k j]at n;have o:=b j;simp only[X8,Ui]at o;rw[Rm,o];by_cases hin:off<=j/\j<off+v.cells.length
     ·rw[if_pos hin]at n
      rw[if_pos (by omega)];exact d.get _ _ n
     ·rw[if_neg hin]at n
      rw[if_neg (by omega)];obtain⟨y,I,u⟩:=hc.get _ _ n;exact⟨y,by simpa using I,u⟩
   obtain⟨nQ,w,u⟩:=K5 hs m C;refine⟨nQ,?_,u⟩;simp only[Instr.fill,z];rw[if_neg (by simpa using t)];exact w
theorem Uk(r:TR Δ n t a) {ty:Nat} {parts:List (Nat×Operand)} {v:V} (hv:(Hq ty parts).f t h=some v) :
  ∃x,(Instr.build ty (parts.map λx=>(x.1,a.eval x.2)).toArray).run P0 w = .ok x w/\fM Δ v x:=by
 unfold Hq at hv;split at hv
 ·rename_i z u;obtain⟨y,_,g,i,hi,b⟩:=zI u;have c:=(g Δ).cells;split at hv
  ·rename_i d j;split at hv
   ·rename_i e hp;simp only[ft]at hv;obtain⟨ps,k,cs,l,m⟩:=hv;cases m;obtain⟨nQ,o,p⟩:=K5 (Db r k) c l;refine⟨.agg nQ,?_,.agg _ _ p⟩;refine run_build w ty _ nQ ?_;unfold Program.built;simp only[hi,j,b,Kq _ _ hp];simpa using o
   ·cases hv
  ·rename_i len s j;split at hv
   ·rename_i size hs;obtain⟨A,q,rfl⟩:=CJ hs;simp only[ft]at hv;obtain⟨ps,k,cs,l,m⟩:=hv;cases m;obtain⟨nQ,o,p⟩:=K5 (Db r k) c l;refine⟨.agg nQ,?_,.agg _ _ p⟩;refine run_build w ty _ nQ ?_;unfold Program.built;simp only[hi,j,b,q];simpa using o
   ·cases hv
  ·cases hv
 ·cases hv
end
theorem tw(k:IntKind) (n:Int):lM k n=k.wrap n:=by
 unfold lM
 cases n with
 |negSucc m=>rfl
 | ofNat m=>
   simp only;split
   ·rename_i a
    rw[Ns]at a;have e:(Int.ofNat m)=(m:Int):=rfl;rw[e];cases k <;> simp[IntKind.wrap,IntKind.bits,IntKind.signed]at a⊢ <;> omega
   ·rfl
section
variable{Δ:Env}{h:Hp}{w:World}{n:Nat}{t:Tm}{a:Act}
theorem mA{s:Sem Value}{x:Value}{w w':World}(h:s.run P0 w = .ok x w'):(do pure (Next.value (<-s)):Sem Next).run P0 w = .ok (.value x) w':=by simp[h]
theorem JY{k k':IntKind}(h:Pb k k' = true):k=k':=by cases k <;> cases k' <;> first|rfl|cases h
theorem ZC{op:BinOp} {k:IntKind} {x y:Int} {v:V} (ty:Nat) (w:World) (hs:Tl op=false) (hv:hint op k x y=some v) :
  ∃r,(binOp op ty (.int k x) (.int k y)).run P0 w = .ok r w/\∀Δ,fM Δ v r:=by
 cases op with
 |shl=>cases hs
 |shr=>cases hs
 |add=>simp only[hint]at hv;cases hv;rw[tw];exact⟨_,by simp[binOp,Op.intArith],λΔ=> .int _ _⟩
 |sub=>simp only[hint]at hv;cases hv;rw[tw];exact⟨_,by simp[binOp,Op.intArith],λΔ=> .int _ _⟩
 |mul=>simp only[hint]at hv;cases hv;rw[tw];exact⟨_,by simp[binOp,Op.intArith],λΔ=> .int _ _⟩
 | quo=>
   have b:y≠0:=by rintro rfl;simp[hint]at hv
   have a:some (V.int k (lM k (x.tdiv y)))=some v:=by
     rw[<-hv];unfold hint;simp only;split
     ·exact absurd rfl b
     ·rfl
   cases a;rw[tw];exact⟨_,by simp[binOp,Op.intDiv,b],λΔ=> .int _ _⟩
 | rem=>
   have b:y≠0:=by rintro rfl;simp[hint]at hv
   have a:some (V.int k (x.tmod y))=some v:=by
     rw[<-hv];unfold hint;simp only;split
     ·exact absurd rfl b
     ·rfl
   cases a;exact⟨_,by simp[binOp,Op.intDiv,b],λΔ=> .int _ _⟩
 |and=>simp only[hint]at hv;cases hv;exact⟨_,by simp[binOp,Op.intBits],λΔ=> .int _ _⟩
 |or=>simp only[hint]at hv;cases hv;exact⟨_,by simp[binOp,Op.intBits],λΔ=> .int _ _⟩
 |xor=>simp only[hint]at hv;cases hv;exact⟨_,by simp[binOp,Op.intBits],λΔ=> .int _ _⟩
 |andNot=>simp only[hint]at hv;cases hv;exact⟨_,by simp[binOp,Op.intBits],λΔ=> .int _ _⟩
 |eql=>simp only[hint]at hv;cases hv;exact⟨_,by simp[binOp,Op.intCmp],λΔ=> .bool _⟩
 |neq=>simp only[hint]at hv;cases hv;exact⟨_,by simp[binOp,Op.intCmp],λΔ=> .bool _⟩
 |lss=>simp only[hint]at hv;cases hv;exact⟨_,by simp[binOp,Op.intCmp],λΔ=> .bool _⟩
 |leq=>simp only[hint]at hv;cases hv;exact⟨_,by simp[binOp,Op.intCmp],λΔ=> .bool _⟩
 |gtr=>simp only[hint]at hv;cases hv;exact⟨_,by simp[binOp,Op.intCmp],λΔ=> .bool _⟩
 |geq=>simp only[hint]at hv;cases hv;exact⟨_,by simp[binOp,Op.intCmp],λΔ=> .bool _⟩
theorem UR{op:BinOp} {k k':IntKind} {x y:Int} {v:V} (ty:Nat) (w:World) (hv:SI op k x y=some v) :
  ∃r,(binOp op ty (.int k x) (.int k' y)).run P0 w = .ok r w/\∀Δ,fM Δ v r:=by
 unfold SI at hv;split at hv
 ·cases hv
 ·rename_i m;have a:¬((Int.ofNat m)<0):=by simp
  split at hv
  ·cases hv;exact⟨_,by simp only[binOp,Op.shift];rw[if_neg a];rfl,λΔ=> .int _ _⟩
  ·cases hv;exact⟨_,by simp only[binOp,Op.shift];rw[if_neg a];rfl,λΔ=> .int _ _⟩
  ·cases hv
theorem ZD{op:BinOp} {x y:ByteArray} {v:V} (ty:Nat) (w:World) (hv:zbw op x.data.toList y.data.toList=some v) :
  ∃r,(binOp op ty (.string x) (.string y)).run P0 w = .ok r w/\∀Δ,fM Δ v r:=by
 have d:(binOp op ty (.string x) (.string y))=Op.stringOp op x y:=by cases op <;> rfl
 rw[d];have f:x.toList=x.data.toList:=ByteArray.toList_eq x;have g:y.toList=y.data.toList:=ByteArray.toList_eq y;cases op <;> simp only[zbw]at hv <;> try (cases hv;done)
 case add=>
  split at hv
  ·rename_i b;cases hv;have a:=Iu b;have c:¬(((x.size+y.size:Nat):Int)>IntKind.i64.max):=by
    have h:x.data.toList.length=x.size:=rfl;have i:y.data.toList.length=y.size:=rfl;rw[h,i]at a;simp only[IntKind.max,IntKind.signed,IntKind.bits,if_true];omega
   have e:x.data.toList++y.data.toList=(x++y).data.toList:=by simp
   rw[e];exact⟨_,by simp only[Op.stringOp];rw[if_neg c];rfl,λΔ=> .str _⟩
  ·cases hv
 all_goals
  cases hv;refine⟨_,by simp only[Op.stringOp,f,g];rfl,λΔ=> .bool _⟩
theorem Hl{op:BinOp} {ty:Nat} {X Y:Operand} {x y:Value} (w:World) (a:x≠ .nilIface) (b:∀c,x≠ .agg c) :
  (eqGuard op ty X Y x y).run P0 w = .ok () w:=by
 cases op <;> unfold eqGuard <;> dsimp only <;> simp only[wCG,ZL,MR,if_true,if_false] <;> first
  |rfl
  |(split
    ·exact absurd rfl a
    ·exact absurd rfl (b _)
    ·rfl)
theorem UQ{d:TypeDesc} {ty:Nat} {x y:V} {xv a:Value} {b:Bool} (w:World) (c:Nat) (e:P0.underlying ty=some d) (f:fM Δ x xv) (g:fM Δ y a)
  (hv:XT d x y=some b):(Op.equalIn (c+1) ty xv a).run P0 w = .ok b w:=by
 unfold XT at hv;split at hv <;> first|(cases hv;done)|skip
 all_goals
  first
   |cases hv
   |(rw[g0]at hv;obtain⟨_,hv⟩:=hv;cases hv)
  cases f;cases g;simp only[Op.equalIn,qh,fP e,py];rfl
theorem UC{a:Array (String×TypeId)} {ty:Nat} (w:World) (b:Nat) (c:P0.underlying ty=some (.interface a)) (d:a.isEmpty=true):(Op.eqGuardIn (b+1) ty .nilIface .nilIface).run P0 w = .ok false w:=by
 simp only[Op.eqGuardIn,qh,fP c,py,d];rfl
theorem Yj{d:TypeDesc} {ty:Nat} {x y:V} {xv a:Value} {b:Bool} (w:World) (h:P0.underlying ty=some d) (i:fM Δ x xv) (j:fM Δ y a)
  (hv:XT d x y=some b):(Op.equal ty xv a).run P0 w = .ok b w/\(∀op X Y,(eqGuard op ty X Y xv a).run P0 w = .ok () w)/\
   (binOp .eql ty xv a)=(do pure (.bool (<-Op.equal ty xv a)))/\(binOp .neq ty xv a)=(do pure (.bool (!(<-Op.equal ty xv a)))):=by
 refine⟨UQ w 9999 h i j hv,?_⟩;unfold XT at hv;split at hv <;> first|(cases hv;done)|skip
 all_goals
  cases i;cases j
 all_goals refine⟨?_,rfl,rfl⟩
 all_goals intro op X Y
 any_goals (refine Hl w ?_ ?_ <;> first|(intro e;cases e;done)|(intro c e;cases e;done))
 ·rename_i l;rw[g0]at hv;have k:=hv.1;have g:=UC w 9999 h k
  cases op <;> unfold eqGuard <;> dsimp only <;> simp only[wCG,ZL,MR,if_true,if_false] <;> first
   |rfl
   |(split
     ·rfl
     ·split
      ·rfl
      ·have f:Sem.run P0 (Op.eqGuardIn Op.maxDepth ty .nilIface .nilIface) w = .ok false w:=g
       rw[if_neg (by decide)];simp only[qh,f,py];rfl)
 ·cases op <;> rfl
theorem zaU{ty:Nat} {x y:V} {xv f:Value} {b:Bool} (w:World) (g:Nat) (c:fM Δ x xv) (d:fM Δ y f) (hv:eq1 (P0.underlying ty) x y=some b) :
  (Op.equalIn (g+1) ty xv f).run P0 w = .ok b w/\LJ ty=some false:=by
 unfold eq1 at hv;split at hv
 ·rename_i a;cases c;cases d;cases hv;refine⟨?_,by unfold LJ;rw[a]⟩;simp only[Op.equalIn,qh,fP a,py];rfl
 ·rename_i a;cases c;cases d;rw[g0]at hv;obtain⟨i,hv⟩:=hv;obtain rfl:=JY i;cases hv;refine⟨?_,by unfold LJ;rw[a]⟩;simp only[Op.equalIn,qh,fP a,py,if_true];rfl
 ·rename_i a;cases c with|str xs=>cases d with|str ys=>
  cases hv;refine⟨?_,by unfold LJ;rw[a]⟩;simp only[Op.equalIn,qh,fP a,py];have e:(xs.data.toList == ys.data.toList)=(xs == ys):=by
   rw[show(xs == ys)=(xs.data == ys.data) from rfl,Vw,z8,z8];exact⟨λh=>Array.ext' h,λh=>by rw[h]⟩
  rw[e];rfl
 ·cases hv
theorem MO{xs ys:List V} {a d:Array Value} (w:World) (k:Nat) (q:gM Δ xs a.toList) (r:gM Δ ys d.toList):∀{fs:List Field} {b:Bool},Je fs xs ys=some b->
  ((do
    for f in fs do
      if f.name≠ "_" then
        if !(<-Op.equalIn (k+1) f.type (<-part f.type a f.offset) (<-part f.type d f.offset)) then return false
    pure true:Sem Bool)).run P0 w = .ok b w
 |[],b,h=>by cases h;rfl
 | f ::fs,b,h=>by
   simp only[Je,g0,ft,wBo,MU]at h;obtain⟨s,x,A,y,B,c,C,t⟩:=h;obtain⟨xv,l,m⟩:=q.get _ _ (Ml A);obtain⟨u,n,o⟩:=r.get _ _ (Ml B);obtain⟨v,z⟩:=zaU w k m o C;have e:(part f.type a f.offset).run P0 w = .ok xv w:=by
     have g:a[f.offset]? =some xv:=by simpa using l
     simp only[part,qh,FU z,py,MR,if_false];simp[g]
   have i:(part f.type d f.offset).run P0 w = .ok u w:=by
     have j:d[f.offset]? =some u:=by simpa using n
     simp only[part,qh,FU z,py,MR,if_false];simp[j]
   have D:=λ{b}=>MO w k q r (fs:=fs) (b:=b)
   cases c with
   | false=>
     cases t
     simp only[List.forIn_cons,qh,ne_eq,s,not_false_iff,if_true,e,i,v,py,ZL,Gk]
   | true=>
     have p:Je fs xs ys=some b:=t;have:=D p;simp only[List.forIn_cons,qh,ne_eq,s,not_false_iff,if_true,e,i,v,py,wCG,MR,if_false,Gk]at this⊢;exact this
theorem zbx{ty:Nat} {xs ys:List V} {xv a:Value} {b:Bool} (w:World) (c:fM Δ (.agg xs) xv) (d:fM Δ (.agg ys) a) (hv:VB ty xs ys=some b) :
  (Op.equal ty xv a).run P0 w = .ok b w/\(∀op X Y,(eqGuard op ty X Y xv a).run P0 w = .ok () w)/\
   (binOp .eql ty xv a)=(do pure (.bool (<-Op.equal ty xv a)))/\(binOp .neq ty xv a)=(do pure (.bool (!(<-Op.equal ty xv a)))):=by
 cases c with|agg _ xs' c=>cases d with|agg _ ys' d=>
 unfold VB at hv;split at hv
 ·rename_i fs f;simp only[g0,wBo]at hv;obtain⟨hs,g,hv⟩:=hv;refine⟨?_,λop X Y=>?_,rfl,rfl⟩
  ·have e:=MO w 9998 c d hv;show(Op.equalIn (9999+1) ty (.agg xs') (.agg ys')).run P0 w=_;rw[Op.equalIn];simp only[qh,fP f,py,run_program,hs,MR,if_false,Gk,<-Array.forIn_toList]at e⊢;exact e
  ·cases op <;> unfold eqGuard <;> dsimp only <;> simp only[wCG,ZL,MR,if_true,if_false] <;> first
    |rfl
    |(simp only[qh,run_program,py,g,ZL,if_true];rfl)
 ·cases hv
theorem YG{op:BinOp} {ty:Nat} {X Y:Operand} {x y v:V} {xv e:Value} (w:World) (s:fM Δ x xv) (t:fM Δ y e) (hv:eo op ty x y=some v) :
  ∃r,(do eqGuard op ty X Y xv e;binOp op ty xv e:Sem Value).run P0 w = .ok r w/\fM Δ v r:=by
 unfold eo at hv;split at hv
 ·rename_i k p k' q;cases s;cases t;have f:=Hl (op:=op) (ty:=ty) (X:=X) (Y:=Y) (y:= .int k' q) w (x:= .int k p) (by simp) (by simp);split at hv
  ·obtain⟨r,l,a⟩:=UR (k':=k') ty w hv;exact⟨r,by simp only[qh,f,py,l],a Δ⟩
  ·rename_i hs;rw[g0]at hv;obtain⟨u,hv⟩:=hv;obtain rfl:=JY u;obtain⟨r,l,a⟩:=ZC ty w hs hv;exact⟨r,by simp only[qh,f,py,l],a Δ⟩
 ·cases s with|str xs=>cases t with|str ys=>
  have f:=Hl (op:=op) (ty:=ty) (X:=X) (Y:=Y) (y:= .string ys) w (x:= .string xs) (by simp) (by simp);obtain⟨r,l,a⟩:=ZD ty w hv;exact⟨r,by simp only[qh,f,py,l],a Δ⟩
 ·have m:∀g,Ul ty g x y=some v->∃b,(Op.equal ty xv e).run P0 w = .ok b w/\(∀op X Y,(eqGuard op ty X Y xv e).run P0 w = .ok () w)/\
    (binOp .eql ty xv e)=(do pure (.bool (<-Op.equal ty xv e)))/\(binOp .neq ty xv e)=(do pure (.bool (!(<-Op.equal ty xv e))))/\v = .bool (Bool.rec (motive:=λ_=>Bool) b (!b) g):=by
   clear hv;intro g c;unfold Ul zaJ at c;rw[ft]at c;obtain⟨b,j,c⟩:=c;split at j
   ·obtain⟨h,i,n,o⟩:=zbx w s t j;cases c;exact⟨b,h,i,n,o,rfl⟩
   unfold W4 at j;split at j
   ·rename_i d z;obtain⟨h,i,n,o⟩:=Yj w z s t j;cases c;exact⟨b,h,i,n,o,rfl⟩
   ·cases j
  split at hv
  ·obtain⟨b,h,i,n,_,rfl⟩:=m false hv;have f:=i .eql X Y;exact⟨.bool b,by rw[n];simp only[qh,f,py,h,Gk],.bool b⟩
  ·obtain⟨b,h,i,_,o,rfl⟩:=m true hv;have f:=i .neq X Y;exact⟨.bool (!b),by rw[o];simp only[qh,f,py,h,Gk],.bool _⟩
  ·cases hv
theorem za7{op:UnOp} {x v:V} {xv:Value} (w:World) (a:fM Δ x xv) (hv:qz op x=some v):∃r,(Op.unary op xv).run P0 w = .ok r w/\fM Δ v r:=by
 unfold qz at hv;split at hv
 ·cases hv;cases a;rw[tw];exact⟨_,rfl,.int _ _⟩
 ·cases hv;cases a;exact⟨_,rfl,.bool _⟩
 ·simp only[hint]at hv;cases hv;cases a;exact⟨_,rfl,.int _ _⟩
 ·cases hv
theorem Xu{src dst:Nat} {p:PF} {xv:Value} {v:V} (w:World) (g:¬∃e,P0.underlying src=some (.slice e)/\P0.underlying dst=some .string) (hp:∀v,p.f t h=some v->fM Δ v xv) (hv:(KB src dst p).f t h=some v) :
  ∃r,(convert src dst xv).run P0 w = .ok r w/\fM Δ v r:=by
 unfold KB at hv;split at hv
 ·rename_i k' k hs b;rw[ft]at hv;obtain⟨x,c,a⟩:=hv;have d:=hp _ c;split at a
  ·cases a;cases d;rw[tw];exact⟨_,by simp[convert,fP hs,fP b,Conv.intToInt],.int _ _⟩
  ·cases a
 ·rename_i hs b;rw[ft]at hv;obtain⟨x,c,a⟩:=hv;have d:=hp _ c;split at a
  ·cases a;cases d;exact⟨_,by simp[convert,fP hs,fP b],.str _⟩
  ·cases a
 ·rename_i e hs b;exact absurd ⟨e,hs,b⟩ g
 ·cases hv
theorem Mz{ty:Nat} {cs:List V} {nQ:Array Value} {off:Nat} {v:V} (w:World) (hc:gM Δ cs nQ.toList) (hv:QC ty cs off=some v) :
  ∃r,(part ty nQ off).run P0 w = .ok r w/\fM Δ v r:=by
 unfold QC at hv
 cases ha:LJ ty with
 |none=>simp[ha]at hv
 |some b=>cases b with
 | true =>
   simp only[ha]at hv
   cases hm:yq ty with
   |none=>simp[hm]at hv
   | some m=>
     simp only[hm,ft]at hv;obtain⟨l,h,j⟩:=hv;cases j;obtain⟨k,g⟩:=sub_eq h;refine⟨.agg (nQ.extract off (off+m)),by simp[part,FU ha,vz hm],.agg _ _ (gM.On ?_ ?_)⟩
     ·have c:=hc.length
      have:∀i,i<m->off+i<cs.length:=λi hi=>by
        have:=g i hi;rw[gP (by omega)]at this;exact(iR.1 this.symm).1
      simp only[Ui]at c;simp only[Ui,Array.size_extract,k];rcases Nat.eq_zero_or_pos m with h0|h0
      ·omega
      ·have:=this (m-1) (by omega)
       omega
     ·intro i v hi
      have d:i<m:=by have:=(iR.1 hi).1;omega
      rw[g i d]at hi;obtain⟨x,e,f⟩:=hc.get _ _ hi;refine⟨x,?_,f⟩;have a:nQ[off+i]? =some x:=by simpa using e
      have n:off+i<nQ.size:=(SR.1 a).1;rw[Rm,Array.getElem?_extract];rw[if_pos (by omega)]
      exact a
 | false=>
   simp only[ha]at hv;obtain⟨x,e,f⟩:=hc.get _ _ (Ml hv);have a:nQ[off]? =some x:=by simpa using e
   exact⟨x,by simp[part,FU ha,a],f⟩
theorem ME{s f:Nat} {a:Field} (h:KU s f=some a):∃fs,P0.underlying s=some (.struct fs)/\fs[f]? =some a:=by
 unfold KU at h;split at h
 ·rename_i fs b;exact⟨fs,b,by simpa using h⟩
 ·cases h
theorem Ng{s f:Nat} {p:PF} {xv:Value} {v:V} (w:World) (hp:∀v,p.f t h=some v->fM Δ v xv) (hv:(nw s p f).f t h=some v) :
  ∃r,(Instr.fieldAt s xv f).run P0 w = .ok r w/\fM Δ v r:=by
 unfold nw at hv;split at hv
 ·rename_i b c;obtain⟨fs,e,a⟩:=ME c;split at hv
  ·rename_i m g;simp only[ft,vx]at hv;obtain⟨x,i,l,off,rfl,j⟩:=hv;cases j
   cases hp _ i with
   | ptr _ _ d k=>
     refine⟨_,by simp[Instr.fieldAt,fP e,a,Instr.sureAddr,fieldPlace,vz g,pb];rfl,?_⟩;have:=fM.ptr (Δ:=Δ) l (off+b.offset) d k;rw[<-YE]at this;exact this
  ·cases hv
 ·cases hv
theorem Vk{s f:Nat} {p:PF} {xv:Value} {v:V} (w:World) (hp:∀v,p.f t h=some v->fM Δ v xv) (hv:(Ia s p f).f t h=some v) :
  ∃r,(Instr.field s xv f).run P0 w = .ok r w/\fM Δ v r:=by
 unfold Ia at hv;split at hv
 ·rename_i j e;obtain⟨fs,g,b⟩:=ME e;rw[ft]at hv;obtain⟨x,i,c⟩:=hv;have d:=hp _ i;split at c
  ·cases d with
   | agg _ nQ hc=>
     obtain⟨r,d,a⟩:=Mz w hc c;exact⟨r,by simp[Instr.field,fP g,b,asAgg,d],a⟩
  ·cases c
 ·cases hv
theorem M0{ty:Nat} {p q:PF} {xv u:Value} {v:V} (w:World) (hp:∀v,p.f t h=some v->fM Δ v xv) (hq:∀v,q.f t h=some v->fM Δ v u)
  (hv:(nj ty p q).f t h=some v):∃r,(Instr.indexAt ty xv u).run P0 w = .ok r w/\fM Δ v r:=by
 unfold nj at hv;split at hv
 ·rename_i c e;split at hv
  ·rename_i m g;simp only[ft,IA]at hv;obtain⟨x,j,i,k,kd,n,rfl,b⟩:=hv;have y:=hp _ j;cases hq _ k;split at b
   ·rename_i l off len;rw[g0]at b;obtain⟨a,b⟩:=b;cases b;rw[Ns]at a
    cases y with
    | slice _ _ _ cap o d s A B z=>
      rcases z with⟨rfl,_,_⟩|⟨hc,_⟩
      ·refine⟨_,by simp[Instr.indexAt,asIntOf,fP e,vz g,a,pb];rfl,?_⟩
       have:=fM.ptr (Δ:=Δ) l (off+n*m) d s;rw[<-YE]at this;exact this
      ·omega
   ·cases b
  ·cases hv
 ·rename_i len c e;split at hv
  ·rename_i m g;simp only[ft,IA,vx,g0]at hv;obtain⟨x,j,i,k,kd,n,rfl,l,off,rfl,a,b⟩:=hv;cases b;rw[Ns]at a;cases hq _ k
   cases hp _ j with
   | ptr _ _ d s=>
     refine⟨_,by simp[Instr.indexAt,asIntOf,fP e,vz g,a,pb,Instr.sureAddr];rfl,?_⟩;have:=fM.ptr (Δ:=Δ) l (off+n*m) d s;rw[<-YE]at this;exact this
  ·cases hv
 ·cases hv
theorem Vc{ty:Nat} {p q:PF} {xv u:Value} {v:V} (w:World) (hp:∀v,p.f t h=some v->fM Δ v xv) (hq:∀v,q.f t h=some v->fM Δ v u)
  (hv:(HX ty p q).f t h=some v):∃r,(Instr.index ty xv u).run P0 w = .ok r w/\fM Δ v r:=by
 unfold HX at hv;split at hv
 ·rename_i len y j;split at hv
  ·rename_i m A;simp only[ft,IA]at hv;obtain⟨x,k,i,l,kd,d,rfl,a⟩:=hv;have n:=hp _ k;cases hq _ l;split at a
   ·rw[g0]at a;obtain⟨c,a⟩:=a;rw[Ns]at c
    cases n with
    | agg _ nQ hc=>
      obtain⟨r,z,g⟩:=Mz w hc a;refine⟨r,?_,g⟩;have e:(Nat.mul d m)=d*m:=rfl;rw[e]at z;simp[Instr.index,asIntOf,fP j,vz A,c,z]
   ·cases a
  ·cases hv
 ·rename_i j;simp only[ft,IA]at hv;obtain⟨x,k,i,l,kd,d,rfl,a⟩:=hv;have n:=hp _ k;cases hq _ l;split at a
  ·rw[ft]at a;obtain⟨b,o,a⟩:=a;cases a
   cases n with
   | str s=>
     rw[List.head?_drop]at o;have c:d<s.size:=(iR.1 o).1;have hs:s[d]? =some b:=by
       rw[getElem?_pos s d c];have:=(iR.1 o).2;simp only[Array.getElem_toList]at this;rw[<-this];rfl
     exact⟨.int .u8 b.toNat,by simp[Instr.index,asIntOf,fP j,hs],.int _ _⟩
  ·cases a
 ·cases hv
end
section
variable{Δ:Env}{h:Hp}{w:World}{n:Nat}{t:Tm}{a:Act}
inductive Df (Δ:Env):Option V->Option Value->Prop
 |none:Df Δ none none
 |some (v:V) (a:Value) (h:fM Δ v a):Df Δ (some v) (some a)
theorem K8(b:WR Δ h w) (c:TR Δ n t a) {x:Option Operand} {v:Option V} (hv:Ip x t h=some v):Df Δ v (x.map a.eval):=by
 cases x with
 |none=>simp only[Ip]at hv;cases hv;exact .none
 | some x=>
   simp only[Ip,ft]at hv;obtain⟨y,d,e⟩:=hv;cases e;exact .some _ _ (kS b c d)
theorem Fq{d m:Nat} {lo:Option V} (hv:hbound d lo=some m):(lo=none/\m=d)\/∃k,lo=some (.int k (.ofNat m)):=by
 unfold hbound at hv;split at hv
 ·cases hv;exact .inl ⟨rfl,rfl⟩
 ·cases hv;exact .inr ⟨_,rfl⟩
 ·cases hv
theorem I0{k:IntKind} {m y:Nat} {c:BoundsCode} (w:World) (a:m<=y):(Instr.sliceBound (.int k (.ofNat m)) y c).run P0 w = .ok m w:=by
 have b:(0:Int)<=Int.ofNat m/\(Int.ofNat m)<=(y:Int):=⟨Int.natCast_nonneg m,by simp;exact a⟩
 simp only[Instr.sliceBound,asIntOf,qh,Gk,py];rw[if_pos b];rfl
theorem JB{Z7:Bool} {len cap l u:Nat} {lo hi:Option V} {b c:Option Value} (w:World) (d:Df Δ lo b) (a:Df Δ hi c)
  (h:hbound 0 lo=some l) (g:hbound len hi=some u) (e:l<=u) (f:u<=cap):(Instr.sliceBounds Z7 len cap b c none).run P0 w = .ok (l,u,cap) w:=by
 rcases Fq h with⟨rfl,rfl⟩|⟨k,rfl⟩
 ·cases d;rcases Fq g with⟨rfl,rfl⟩|⟨k,rfl⟩
  ·cases a;rfl
  ·cases a with|some _ _ hr=>
   cases hr;simp only[Instr.sliceBounds,qh,Gk,py,I0 w f]
 ·cases d with|some _ _ hr=>
  cases hr;rcases Fq g with⟨rfl,rfl⟩|⟨k,rfl⟩
  ·cases a;simp only[Instr.sliceBounds,qh,Gk,py,I0 w e]
  ·cases a with|some _ _ hr=>
   cases hr;simp only[Instr.sliceBounds,qh,Gk,py,I0 w f,I0 w e]
theorem RR(R:WR Δ h w) {ty g size:Nat} {x v:V} {xv:Value} {lo hi:Option V} {m p:Option Value} (M:fM Δ x xv) (q:Df Δ lo m) (s:Df Δ hi p)
  (N:P0.underlying ty=some (.slice g)) (hs:yq g=some (size+1)) (hv:jh (Nat.succ size) x lo hi h=some v) :
  ∃r,(Instr.sliceAt ty xv m p none).run P0 w = .ok r w/\fM Δ v r:=by
 unfold jh at hv;split at hv
 ·rename_i lc off len;rw[kQ]at hv;obtain⟨e,sz,live,ro,cs,S,hv⟩:=hv;simp only[g0,ft]at hv;obtain⟨C,l,D,u,E,F,a,hv⟩:=hv;cases hv;have i:=vK C;have j:=Iu F
  cases M with
  | slice _ _ _ cap o d G O H B=>
    obtain ⟨ob,t,T⟩:=R.obj lc d G;rw[S]at t;cases t;obtain⟨_,k,U,_,_⟩:=T;have y:u<=cap:=by
      rw[KM]at a;rcases a with a|a
      ·exact Gt (Iu a) H
      ·have P:off+u*(size+1)<=cs.length:=Iu a
       rcases B with⟨_,f,_⟩|⟨hc,f⟩
       ·rw[k,<-i]at f
        have:u*(size+1)<=cap*(size+1):=by have e:Nat.succ size=size+1:=rfl;rw[e]at f;omega
        exact Nat.le_of_mul_le_mul_right this (by omega)
       ·have:u*(size+1)=0:=by omega
        rcases Nat.mul_eq_zero.1 this with h0|h0 <;> omega
    have c:=JB (Z7:=true) (len:=len) (cap:=cap) w q s D E j y;have W:l<=cap:=Gt j y;refine⟨.slice (if cap=l then some ⟨d.b,o,none⟩ else some ⟨d.b,o+l*(size+1),none⟩) (u-l) (cap-l),?_,?_⟩
    ·simp only[Instr.sliceAt,qh,fP N,py,Instr.slice,c,vz hs]
     split <;> simp[pb, *]
    ·have z:cap*d.sz=l*d.sz+(cap-l)*d.sz:=by rw[<-Nl];congr 1;omega
     have Q:d.sz=size+1:=by rw[k,<-i]
     split
     ·rename_i A
      refine .slice lc (Nat.add off (Nat.mul l (Nat.succ size))) (Nat.sub u l) (cap-l) o d G O ?_ (.inr ⟨by omega,?_⟩)
      ·show u-l<=cap-l;omega
      ·show d.n<=off+l*(size+1)
       rcases B with⟨_,f,_⟩|⟨hc,f⟩
       ·rw[A,Q]at f;exact f
       ·omega
     ·rename_i A
      refine .slice lc (Nat.add off (Nat.mul l (Nat.succ size))) (Nat.sub u l) (cap-l) (o+l*(size+1)) d G O ?_ (.inl ?_)
      ·show u-l<=cap-l;omega
      ·show o+l*(size+1)=d.base+(off+l*(size+1))/\d.n<=off+l*(size+1)+(cap-l)*d.sz/\d.base+(off+l*(size+1))+(cap-l)*d.sz<=d.Rk
       rcases B with⟨B,f,I⟩|⟨hc,f⟩
       ·rw[Q]at z f I⊢
        omega
       ·omega
 ·simp only[g0,ft]at hv;obtain⟨l,D,u,E,H,J,hv⟩:=hv;cases hv;have K:=vK H;have L:=vK J;subst K;subst L;cases M;have c:=JB (Z7:=true) (len:=0) (cap:=0) w q s D E (jj _) (jj _);exact⟨.slice none 0 0,by simp[Instr.sliceAt,fP N,Instr.slice,c,vz hs],.ee⟩
 ·cases hv
theorem IJ(s:ByteArray) (p q:Nat):(s.extract p q).data.toList=(s.data.toList.drop p).take (q-p):=by
 obtain⟨⟨l⟩⟩:=s;rw[ByteArray.extract_mk]
theorem Sc{ty:Nat} {x v:V} {xv:Value} {lo hi:Option V} {a b:Option Value} (w:World) (h:fM Δ x xv) (d:Df Δ lo a) (e:Df Δ hi b)
  (i:P0.underlying ty=some .string) (hv:Oy x lo hi=some v):∃r,(Instr.sliceAt ty xv a b none).run P0 w = .ok r w/\fM Δ v r:=by
 unfold Oy at hv;split at hv
 ·simp only[g0,ft]at hv;obtain⟨l,j,u,k,f,g,hv⟩:=hv;cases hv
  cases h with
  | str s=>
    have c:=JB (Z7:=false) (len:=s.size) (cap:=s.size) w d e j k (Iu f) (Iu g);refine⟨.string (s.extract l u),by simp[Instr.sliceAt,fP i,Instr.slice,c],?_⟩;have:=fM.str (Δ:=Δ) (s.extract l u);rw[IJ]at this;exact this
 ·cases hv
theorem U8(b:WR Δ h w) (c:TR Δ n t a) {ty:Nat} {p:PF} {xv:Value} {lo hi:Option Operand} {v:V} (hp:∀v,p.f t h=some v->fM Δ v xv)
  (hv:(JL ty p lo hi).f t h=some v):∃r,(Instr.sliceAt ty xv (lo.map a.eval) (hi.map a.eval) none).run P0 w = .ok r w/\fM Δ v r:=by
 unfold JL at hv;split at hv
 ·rename_i d;simp only[ft]at hv;obtain⟨x,e,l,g,u,i,j⟩:=hv;exact Sc w (hp _ e) (K8 b c g) (K8 b c i) d j
 ·rename_i k d;split at hv
  ·rename_i m o;simp only[ft]at hv;obtain⟨x,e,l,g,u,i,j⟩:=hv;exact RR b (hp _ e) (K8 b c g) (K8 b c i) d o j
  ·cases hv
 ·cases hv
theorem JF{ty:Nat} {x y:V} {xv f:Value} {b:Bool} (g:fM Δ x xv) (h:fM Δ y f) (hv:Jr ty x y=some b) :
  (∀e w,(Op.equalIn (e+1) ty xv f).run P0 w = .ok b w)/\(∀d,P0.underlying ty=some d->Instr.sameNow d xv f=some b):=by
 unfold Jr at hv;split at hv
 ·rename_i a;split at hv
  ·rw[g0]at hv;obtain⟨i,hv⟩:=hv;cases hv;obtain rfl:=JY i;cases g;cases h;exact⟨λe w=>run_equalIn_int w e ty _ _ _ _ a,λd c=>by rw[a]at c;cases c;simp[Instr.sameNow]⟩
  ·cases hv
 ·rename_i a;split at hv
  ·cases hv;cases g with|str xs=>cases h with|str ys=>
   refine⟨λe w=>?_,λd c=>?_⟩
   ·rw[run_equalIn_string w e ty _ _ a,ByteArray.toList_eq,ByteArray.toList_eq]
   ·rw[a]at c;cases c;simp only[Instr.sameNow];rw[beq_toListBytes,ByteArray.toList_eq,ByteArray.toList_eq]
  ·cases hv
 ·rename_i a;split at hv
  ·cases hv;cases g;cases h;exact⟨λe w=>run_equalIn_bool' w e ty _ _ a,λd c=>by rw[a]at c;cases c;simp[Instr.sameNow]⟩
  ·cases hv
 ·cases hv
theorem UE{ty:Nat} (a:DZ ty=true):LJ ty=some false:=by
 unfold DZ at a;unfold LJ;split at a <;> simp_all
theorem J3{ty:Nat} {cs:List V} {nQ:Array Value} {off:Nat} {v:V} (w:World) (a:DZ ty=true) (hc:gM Δ cs nQ.toList) (hv:HW cs off=some v) :
  ∃x,(part ty nQ off).run P0 w = .ok x w/\fM Δ v x:=
 Mz w hc (by unfold QC;rw[UE a];exact hv)
theorem PT:∀{fs:List Field} {x y:List V} {xs ys:Array Value} {b:Bool},(∀f∈fs,DZ f.type=true/\f.name≠ "_")->gM Δ x xs.toList->gM Δ y ys.toList->
  PM fs x y=some b->∀a w,(Op.eqFields (a+1) xs ys fs).run P0 w = .ok b w
 |[],x,y,xs,ys,b,_,_,_,hv,a,w=>by simp[PM]at hv;subst hv;rfl
 | f::fs,x,y,xs,ys,b,hf,hx,hy,hv,a,w=>by
   simp only[PM,ft]at hv;obtain⟨p,j,q,k,e,l,i⟩:=hv;obtain⟨c,d⟩:=hf f (by simp);obtain⟨o,hp,g⟩:=J3 w c hx j;obtain⟨r,hq,h⟩:=J3 w c hy k;have m:=(JF g h l).1 a w;simp only[Op.eqFields];rw[if_pos d];simp only[qh,hp,hq,m,py]
   cases e with
   |false=>cases i;rfl
   |true=>exact PT (λf n=>hf f (by simp[n])) hx hy i a w
theorem ND{ty:Nat} (a:Jf ty=some none):DZ ty=true:=by
 unfold Jf at a;unfold DZ;split at a <;> first|(split at a <;> cases a)|simp_all
theorem Ln{ty:Nat} {fs:List Field} (a:Jf ty=some (some fs)):∃b,P0.underlying ty=some (.struct b)/\b.toList=fs/\P0.stoodInHeld ty=false/\∀f∈fs,DZ f.type=true/\f.name≠ "_" :=by
 unfold Jf at a;split at a
 ·cases a
 ·cases a
 ·cases a
 ·rename_i b d;split at a
  ·rename_i c;cases a;simp only[uZ,wBo,MT,X1,ne_eq]at c;exact⟨b,d,rfl,c.1,c.2⟩
  ·cases a
 ·cases a
theorem Xr{ty:Nat} {d:Option (List Field)} {x y:V} {xv h:Value} {b:Bool} (j:Jf ty=some d) (e:fM Δ x xv) (f:fM Δ y h) (hv:P9 ty d x y=some b) (w:World) :
  (Op.equal ty xv h).run P0 w = .ok b w:=by
 cases d with
 |none=>exact(JF e f hv).1 9999 w
 | some fs=>
   obtain⟨g,i,a,hs,k⟩:=Ln j;simp only[P9]at hv;split at hv
   ·cases e with|agg _ xs e=>cases f with|agg _ ys f=>
    have c:P0.fieldsOf ty=g:=by simp[Program.fieldsOf,i]
    have:=run_equalIn_struct (P:=P0) w 9999 ty xs ys (by rw[c];exact i) hs;rw[c,a]at this;exact this.trans (PT k e f hv 9998 w)
   ·cases hv
def Zb(Δ:Env):Option (Nat×V)->Option (Nat×Value)->Prop
 |none,none=>True
 |some (i,v),some (i',v')=>i=i'/\fM Δ v v'
 |_,_=>False
theorem G1{ty:Nat} {d:Option (List Field)} {k:V} {f:Value} (g:Jf ty=some d) (h:fM Δ k f) (w:World):∀{c:List (V×V×Nat)} {a:List MapEntry} {i:Nat} {r:Option (Nat×V)},
  tY Δ c a->vO ty d k c i=some r->∃r',(Instr.findAsking ty f a i).run P0 w = .ok r' w/\Zb Δ r r'
 |_,_,i,r,.nil,hv=>by simp[vO]at hv;subst hv;exact⟨none,rfl,trivial⟩
 | _,_,i,r,.cons k' v n e c a hk' hv' hb hs,hv=>by
   simp only[vO,ft]at hv;obtain⟨b,l,j⟩:=hv;have m:=Xr g h hk' l w;simp only[Instr.findAsking,qh,m,py]
   cases b with
   |true=>cases j;exact⟨some (i,e.val),rfl,rfl,hv'⟩
   |false=>exact G1 g h w hs j
theorem Mp{ty:Nat} {k:V} {d:Value} {ds:TypeDesc} (f:P0.underlying ty=some ds) (g:fM Δ k d):∀{c:List (V×V×Nat)} {a:List MapEntry} {i:Nat} {r:Option (Nat×V)},
  tY Δ c a->vO ty none k c i=some r->∃r',Instr.findNow ds d a i=some r'/\Zb Δ r r'
 |_,_,i,r,.nil,hv=>by simp[vO]at hv;subst hv;exact⟨none,rfl,trivial⟩
 | _,_,i,r,.cons k' v n e c a hk' hv' hb hs,hv=>by
   simp only[vO,ft]at hv;obtain⟨b,j,h⟩:=hv;have l:=(JF g hk' j).2 ds f;simp only[Instr.findNow,l]
   cases b with
   |true=>cases h;exact⟨some (i,e.val),rfl,rfl,hv'⟩
   |false=>exact Mp f g hs h
theorem CQ{ty:Nat} {d:Option (List Field)} {k:V} {c:Value} (h:Jf ty=some d) (p:fM Δ k c) (w:World) {g:List (V×V×Nat)} {a:List MapEntry} {r:Option (Nat×V)}
  (q:tY Δ g a) (hv:vO ty d k g 0=some r):∃r',(Instr.findKey ty c a).run P0 w = .ok r' w/\Zb Δ r r':=by
 cases d with
 | none=>
   have s:=ND h;unfold DZ at s
   cases b:P0.underlying ty with
   |none=>simp[b]at s
   | some ds=>
     obtain⟨r',i,j⟩:=Mp b p q hv
     exact⟨r',by simp[Instr.findKey,fP b,i],j⟩
 | some fs=>
   obtain⟨f,b,_,_,_⟩:=Ln h
   cases q with
   | nil=>
     simp[vO]at hv;subst hv
     exact⟨none,by simp[Instr.findKey,fP b,Instr.findNow],trivial⟩
   | cons k' v n e g a l m t hs=>
     obtain ⟨r',i,j⟩:=G1 h p w (.cons k' v n e g a l m t hs) hv;refine⟨r',?_,j⟩;have o:Instr.findNow (.struct f) c (e::a) 0=none:=by
       simp only[Instr.findNow];have:Instr.sameNow (.struct f) c e.key=none:=by cases c <;> rfl
       rw[this]
     simp only[Instr.findKey,qh,fP b,py,o];exact i
theorem EF{em:Bool} {q:Nat} {cs:List V} {nQ:Array Value} (w:World) (hq:0<q) (hc:gM Δ cs nQ.toList):∀(fs:List Field),(∀f∈fs,DZ f.type=true/\f.name≠ "_")->
  (fs.all λf=>(HW cs f.offset).isSome)=true->
  (forIn fs PUnit.unit (λf _=>if f.name≠ "_" then do
    let x <-part f.type nQ f.offset
    Instr.checkKey em q f.type x
    pure (ForInStep.yield PUnit.unit)
   else pure (ForInStep.yield PUnit.unit):Field->PUnit->Sem (ForInStep PUnit))).run P0 w = .ok PUnit.unit w
 |[],_,_=>rfl
 | f ::fs,hf,hh=>by
   obtain⟨m,rfl⟩:∃m,q=m+1:=⟨q-1,by omega⟩
   obtain ⟨a,c⟩:=hf f (by simp);simp only[wCH,uZ]at hh;obtain⟨v,hv⟩:=Option.isSome_iff_exists.1 hh.1;obtain⟨x,e,i⟩:=J3 w a hc hv;have d:(Instr.checkKey em (m+1) f.type x).run P0 w = .ok () w:=by
     unfold DZ at a;split at a
     ·rename_i b;simp[Instr.checkKey,fP b]
     ·rename_i b;simp[Instr.checkKey,fP b]
     ·rename_i b;simp[Instr.checkKey,fP b]
     ·cases a
   have g:=EF (em:=em) (q:=m+1) w hq hc fs (λf h=>hf f (by simp[h])) hh.2;rw[List.forIn_cons];rw[if_pos c];simp only[qh,e,d,py,Gk];exact g
theorem ye{ty:Nat} {d:Option (List Field)} {k:V} {f:Value} (em:Bool) (q:Nat) (hq:0<q) (w:World) (g:Jf ty=some d) (h:fM Δ k f) (e:JG d k=true) :
  (Instr.checkKey em (q+1) ty f).run P0 w = .ok () w:=by
 cases d with
 | none=>
   have a:=ND g;unfold DZ at a;split at a
   ·rename_i b;simp[Instr.checkKey,fP b]
   ·rename_i b;simp[Instr.checkKey,fP b]
   ·rename_i b;simp[Instr.checkKey,fP b]
   ·cases a
 | some fs=>
   obtain⟨i,b,c,_,j⟩:=Ln g;simp only[JG]at e;split at e
   ·cases h with
    | agg cs nQ hc=>
      have:=EF (em:=em) (q:=q) w hq hc fs j e;rw[<-c,Array.forIn_toList]at this;simp only[Instr.checkKey,qh,fP b,py,this];rfl
   ·cases e
end
section
variable{Δ:Env}{h:Hp}{w:World}{n:Nat}{t:Tm}{a:Act}
theorem Hg(g:WR Δ h w) {l:Nat} {d:D} (i:Δ l=some d) {e:List (V×V×Nat)} {c:Nat} (j:h.get l=some (.map e c)) :
  ∃a,w.heap[d.b]? =some (.map a c)/\tY Δ e a.toList:=by
 obtain⟨o,f,k⟩:=g.obj l d i;rw[j]at f;cases f;obtain⟨_,_,_,a,m,n⟩:=k;exact⟨a,m,n⟩
theorem run_getObj_map{r:Nat}{a:Array MapEntry}{c:Nat}(b:w.heap[r]? =some (.map a c)):(getObj r).run P0 w = .ok (.map a c) w:=by simp[getObj,Sem.run,b]
theorem PU{z:V} {a:Value} {ok:Bool} {r:Option (Nat×V)} {r':Option (Nat×Value)} (c:fM Δ z a) (b:Zb Δ r r') :
  fM Δ (found z ok r) (match r' with
   |some (_,v)=>if ok then .tuple #[v,.bool true] else v
   |none=>if ok then .tuple #[a,.bool false] else a):=by
 cases r with
 | none=>cases r' with
   |none=>cases ok
          ·exact c
          ·exact .tuple _ _ (.cons _ _ _ _ c (.one (.bool false)))
   |some _=>cases b
 | some x=>cases r' with
   |none=>cases b
   | some d=>
     obtain⟨_,hv⟩:=b;cases ok
     ·exact hv
     ·exact .tuple _ _ (.cons _ _ _ _ hv (.one (.bool true)))
theorem Rt(E:WR Δ h w) {y:Nat} {p q:PF} {ok:Bool} {mv A:Value} {v:V} (hp:∀v,p.f t h=some v->fM Δ v mv) (hq:∀v,q.f t h=some v->fM Δ v A)
  (hv:(FL y p q ok).f t h=some v):∃r,(Instr.lookup y mv A ok).run P0 w = .ok r w/\fM Δ v r:=by
 unfold FL at hv;split at hv
 ·rename_i M N B;split at hv
  ·rename_i d z j F;obtain⟨O,g,i,_⟩:=zI F;simp only[ft,g0]at hv;obtain⟨m,G,k,H,C,a⟩:=hv;have D:=hp _ G;have n:=hq _ H;split at a
   ·cases a;cases D;have b:=ye true 9999 (by omega) w j n C;have e:=CQ j n w tY.nil (r:=none) (by simp[vO]);obtain⟨r',e,o⟩:=e;have s:r' = none:=by cases r' <;> first|rfl|cases o
    subst s;refine⟨_,?_,PU (ok:=ok) (r:=none) (r':=none) (i Δ) trivial⟩;simp only[Instr.lookup,qh,fP B,py,Gk];rw[show(#[]:Array MapEntry).isEmpty=true from rfl,b];simp only[py];rw[e];simp only[py,qh,g,Gk]
   ·simp only[zz,ft]at a;obtain⟨P,c,I,r,e,a⟩:=a;cases a
    cases D with
    | map l Q J=>
      obtain⟨u,K,L⟩:=Hg E J I;obtain⟨r',e,o⟩:=CQ j n w L e;have b:=ye u.isEmpty 9999 (by omega) w j n C;refine⟨_,?_,PU (ok:=ok) (i Δ) o⟩;simp only[Instr.lookup,qh,fP B,py,Gk,run_getObj_map K,b,e]
      cases r' with
      |none=>simp only[qh,g,py,Gk]
      |some x=>rfl
   ·cases a
  ·cases hv
 ·cases hv
theorem Zt(y:WR Δ h w) {ty:Nat} {q:Array Nat} (i:q[0]? =some ty) {rt:Nat} {p:PF} {xv:Value} {v:V} (hp:∀v,p.f t h=some v->fM Δ v xv)
  (hv:(hlen ty p).f t h=some v):∃r,(Builtin.len_ q rt #[xv]).run P0 w = .ok r w/\fM Δ v r:=by
 unfold hlen at hv;split at hv
 ·rename_i j;rw[ft]at hv;obtain⟨x,o,g⟩:=hv;have n:=hp _ o;split at g
  ·cases g
   cases n with
   |str s=>exact⟨goInt s.size,by simp[Builtin.len_,i,fP j],.int _ _⟩
  ·cases g
 ·rename_i e j;rw[ft]at hv;obtain⟨x,o,g⟩:=hv;have n:=hp _ o;split at g
  ·rename_i lc off m;cases g;cases n;exact⟨goInt m,by simp[Builtin.len_,i,fP j],.int _ _⟩
  ·cases g;cases n;exact⟨goInt 0,by simp[Builtin.len_,i,fP j],.int _ _⟩
  ·cases g
 ·rename_i m e j;rw[ft]at hv;obtain⟨x,o,g⟩:=hv;cases g;exact⟨goInt m,by simp[Builtin.len_,i,fP j],.int _ _⟩
 ·rename_i k e j;rw[ft]at hv;obtain⟨x,o,g⟩:=hv;have n:=hp _ o;split at g
  ·cases g;cases n;exact⟨goInt 0,by simp[Builtin.len_,i,fP j],.int _ _⟩
  ·rw[zz]at g;obtain⟨z,c,A,g⟩:=g;cases g
   cases n with
   | map l d B=>
     obtain ⟨u,C,D⟩:=Hg y B A;have hlen:z.length=u.size:=by
       have:∀{a:List (V×V×Nat)} {b:List MapEntry},tY Δ a b->a.length=b.length:=λh=>by induction h <;> simp_all
       simpa using this D
     refine⟨goInt u.size,by simp[Builtin.len_,i,fP j,run_getObj_map C],?_⟩;rw[hlen];exact .int _ _
  ·cases g
 ·cases hv
theorem OB{c:Bool} (w:World):∀{l:List V} {d:List Value} {x:V} {a:Value} {v:V},fM Δ x a->gM Δ l d->Pr c x l=some v->
  ∃r,(d.foldlM (if c then Builtin.max2 else Builtin.min2) a).run P0 w = .ok r w/\fM Δ v r
 |[],_,x,a,v,hx,hl,hv=>by simp[Pr]at hv;subst hv;cases hl;exact⟨a,rfl,hx⟩
 | y ::l,_,x,a,v,hx,hl,hv=>by
   cases hl with
   | cons _ j _ d g hs=>
     unfold Pr at hv;split at hv
     ·rename_i e;cases e
     ·rename_i k p k' q r h
      cases h;cases hx;cases g;obtain⟨f,b,i⟩:=OB w (.int k _) hs hv;refine⟨f,?_,i⟩;rw[List.foldlM_cons];simp only[qh];cases c
      ·simp only[MR,if_false,Builtin.min2,Gk,py]at b⊢;exact b
      ·simp only[if_true,Builtin.max2,Gk,py]at b⊢;exact b
     ·cases hv
theorem Mw{ty:Nat} (hi:isIface ty=some false):∃d,P0.underlying ty=some d/\∀m,d≠ .interface m:=by
 unfold isIface at hi;split at hi
 ·cases hi
 ·rename_i d a b;exact⟨d,b,λm e=>a m (by rw[e])⟩
 ·cases hi
theorem RS{p:PF} {a xT:Nat} {ok:Bool} {xv:Value} {v:V} (w:World) (hp:∀v,p.f t h=some v->fM Δ v xv)
  (hv:(Gg p a ok).f t h=some v):∃r,(Instr.typeAssert xv xT a ok).run P0 w = .ok r w/\fM Δ v r:=by
 unfold Gg at hv;split at hv
 ·rename_i z hi q;obtain⟨o,c,g,_⟩:=zI q;obtain⟨d,i,j⟩:=Mw hi;rw[ft]at hv;obtain⟨x,s,b⟩:=hv;have k:=hp _ s;split at b
  ·rename_i u y;cases b
   cases k with
   | iface _ _ l m=>
     rw[T7];by_cases e:u=a
     ·have n:Nat.beq u a=true:=by rw[e];exact QN _
      rw[if_pos n];refine⟨.tuple #[l,.bool true],?_,.tuple _ _ (.cons _ _ _ _ m (.one (.bool true)))⟩;simp only[Instr.typeAssert,qh,fP i,py];cases d <;> first|exact absurd rfl (j _)|(rw[if_pos e];rfl)
     ·have n:¬Nat.beq u a=true:=λh=>e (vK h)
      rw[if_neg n];refine⟨.tuple #[o,.bool false],?_,.tuple _ _ (.cons _ _ _ _ (g Δ) (.one (.bool false)))⟩;simp only[Instr.typeAssert,qh,fP i,py];cases d <;> first|exact absurd rfl (j _)|(rw[if_neg e];simp[c])
  ·rename_i u y;rw[g0]at b;obtain⟨e,b⟩:=b;cases b;have e:=vK e
   cases k with
   | iface _ _ l m=>
     refine⟨l,?_,m⟩;simp only[Instr.typeAssert,qh,fP i,py];cases d <;> first|exact absurd rfl (j _)|(rw[if_pos e];rfl)
  ·cases b;cases k;refine⟨.tuple #[o,.bool false],?_,.tuple _ _ (.cons _ _ _ _ (g Δ) (.one (.bool false)))⟩;simp only[Instr.typeAssert,qh,fP i,py];cases d <;> first|exact absurd rfl (j _)|simp[c]
  ·cases b
 ·cases hv
theorem XH{c p q:PF} {e pv d:Value} {v:V} (w:World) (hc:∀v,c.f t h=some v->fM Δ v e) (hp:∀v,p.f t h=some v->fM Δ v pv) (hq:∀v,q.f t h=some v->fM Δ v d)
  (hv:(Kv c p q).f t h=some v):∃r,(do pure (Next.value (if <-asBool e then pv else d)):Sem Next).run P0 w = .ok (.value r) w/\fM Δ v r:=by
 unfold Kv at hv;simp only[ft]at hv;obtain⟨x,g,a⟩:=hv;have i:=hc _ g;split at a
 ·rename_i b;cases i;cases b
  ·exact⟨d,by simp[asBool],hq _ a⟩
  ·exact⟨pv,by simp[asBool],hp _ a⟩
 ·cases a
theorem O7{p:PF} {x:Operand} {v:V} (w:World) (hp:∀v,p.f t h=some v->fM Δ v (a.eval x)) (hv:(uh p).f t h=some v) {dst ty pos af gd} :
  (execOp a.eval {dst:=dst,op:= .nilCheck x,type:=ty,pos:=pos,after:=af,guard:=gd}).run P0 w = .ok (.value (a.eval x)) w/\fM Δ v (a.eval x):=by
 unfold uh at hv;rw[ft]at hv;obtain⟨y,e,b⟩:=hv;have c:=hp _ e;simp only[execOp];generalize a.eval x=xv at c⊢;split at b
 ·cases b;cases c with|ptr _ _ d hd=>exact⟨rfl,.ptr _ _ d hd⟩
 ·cases b;cases c with|func _ _ _ p' q' e b=>exact⟨rfl,.func _ _ _ p' q' e b⟩
 ·cases b;cases c with|iface _ _ v' hv=>exact⟨rfl,.iface _ _ v' hv⟩
 ·cases b
theorem PL{p:PF} {i:Nat} {xv:Value} {v:V} (w:World) (hp:∀v,p.f t h=some v->fM Δ v xv) (hv:(EG p i).f t h=some v) :
  ∃r,(Instr.extract xv i).run P0 w = .ok r w/\fM Δ v r:=by
 unfold EG at hv;rw[ft]at hv;obtain⟨y,e,a⟩:=hv;have g:=hp _ e;split at a
 ·cases g with
  | tuple vs b c=>
    obtain⟨x,j,k⟩:=c.get _ _ (Ml a);have d:b[i]? =some x:=by simpa using j
    exact⟨x,by simp[Instr.extract,d],k⟩
 ·cases a
theorem Sd{cs:List V} {xs:List Value} {s:List UInt8} (e:gM Δ cs xs) (hv:bytesOf cs=some s):xs=(s.map λb=>(b.toNat:Int)).map (Value.int .u8):=by
 induction cs generalizing xs s with
 |nil=>cases e;simp[bytesOf]at hv;subst hv;rfl
 | cons c cs g=>
   simp only[bytesOf,ft]at hv;obtain⟨b,a,l,h,i⟩:=hv;cases i
   cases e with
   | cons _ x _ xs j d=>
     rw[g d h];unfold byteOf at a;split at a
     ·rename_i m
      rw[g0]at a;obtain⟨f,k⟩:=a;cases k;cases j;have n:m<256:=by rw[Ns]at f;exact f
      have:(UInt8.ofNat m).toNat=m:=by simp;omega
      simp only[Sp,this];rfl
     ·cases a
theorem SE(l:List UInt8):∀(r:ByteArray),((l.map λb=>(b.toNat:Int)).foldl (λr n=>r.push (UInt8.ofNat n.toNat)) r).data.toList=r.data.toList++l:=by
 induction l with
 |nil=>intro r;simp
 | cons b l a=>
   intro r;simp only[Sp,List.foldl_cons];rw[a];simp[ByteArray.push]
theorem LS{src dst e:Nat} (hs:P0.underlying src=some (.slice e)) (c:P0.underlying dst=some .string) (d:P0.underlying e=some (.int .u8)) {ad:Option Addr} {len cap:Nat} {cs:List V} {s:List UInt8}
  (h:bytesOf cs=some s) (hc:∀b,ad=some b->∃xs,(loadCells b len).run P0 w = .ok (Array.mk xs) w/\gM Δ cs xs) (i:ad=none->s=[]) :
  ∃x,(convert src dst (.slice ad len cap)).run P0 w = .ok x w/\fM Δ (.str s) x:=by
 cases ad with
 | none=>
   cases i rfl
   exact⟨.string .empty,by simp[convert,fP hs,fP c,fP d,Conv.bytesToString],.str ByteArray.empty⟩
 | some b=>
   obtain⟨xs,f,j⟩:=hc b rfl;rw[Sd j h]at f;have g:=run_bytesToString (P:=P0) w b len cap _ f;generalize hB:(List.foldl (λr n=>ByteArray.push r (UInt8.ofNat n.toNat)) ByteArray.empty (List.map (λb=>(b.toNat:Int)) s))=B at g;have a:B.data.toList=s:=by rw[<-hB,SE];rfl
   refine⟨.string B,?_,by rw[<-a];exact .str B⟩;simp only[convert,qh,fP hs,fP c,py,fP d,g]
theorem vQ(c:WR Δ h w) {l:Nat} {d:D} (e:Δ l=some d) {off m:Nat} {cs:List V} (hv:Gx h l off m=some cs) :
  ∃xs,(loadCells ⟨d.b,d.base+off,none⟩ m).run P0 w = .ok (Array.mk xs) w/\gM Δ cs xs:=by
 obtain⟨a,f,g⟩:=IW c e hv;exact⟨a.toList,by simpa using f,g⟩
theorem Q9{l off m:Nat} {cs:List V} (hv:Gx h l off m=some cs):cs.length=m:=by
 unfold Gx at hv;rw[kQ]at hv;obtain⟨e,sz,live,ro,all,a,hv⟩:=hv;rw[g0]at hv;exact(sub_eq hv.2).1
theorem UO(u:WR Δ h w) {src dst e:Nat} {p:PF} {xv:Value} {v:V} (hs:P0.underlying src=some (.slice e)) (c:P0.underlying dst=some .string) (hp:∀v,p.f t h=some v->fM Δ v xv) (hv:(KB src dst p).f t h=some v) :
  ∃r,(convert src dst xv).run P0 w = .ok r w/\fM Δ v r:=by
 unfold KB at hv;rw[hs,c]at hv;simp only at hv;split at hv
 ·rename_i m;simp only[ft]at hv;obtain⟨x,y,a⟩:=hv;have n:=hp _ y;split at a
  ·cases a;cases n;exact LS (Δ:=Δ) (w:=w) (src:=src) (dst:=dst) (e:=e) (ad:=none) (len:=0) (cap:=0) (cs:=[]) (s:=[]) hs c m rfl (λb g=>by cases g) (λ_=>rfl)
  ·rename_i l off len;simp only[ft]at a;obtain⟨cs,q,s,z,A⟩:=a;cases A
   cases n with
   | slice _ _ _ cap o d i E B C=>
     have j:∃xs,(loadCells ⟨d.b,o,none⟩ len).run P0 w = .ok (Array.mk xs) w/\gM Δ cs xs:=by
       rcases C with⟨rfl,_,_⟩|⟨rfl,_⟩
       ·exact vQ u i q
       ·have:len=0:=by omega
        subst this;have k:cs=[]:=UZ (Q9 q);subst k;exact⟨[],by simp[loadCells,loadCellsFrom],.nil⟩
     exact LS (Δ:=Δ) (w:=w) (src:=src) (dst:=dst) (e:=e) (ad:=some ⟨d.b,o,none⟩) (len:=len) (cap:=cap) hs c m z (λb g=>by cases g;exact j) (λD=>by cases D)
  ·cases a
 ·cases hv
theorem YC(I:WR Δ h w) (F:TR Δ n t a) {o:Oper} {v:V} (hv:(iK o).f t h=some v):∃x,(execOp a.eval o).run P0 w = .ok (.value x) w/\fM Δ v x:=by
 obtain⟨dst,op,ty,pos,af,gd⟩:=o;have u:∀(x:Operand) v,(sR x).f t h=some v->fM Δ v (a.eval x):=λx v K=>kS I F K
 cases op with
 |move x=>exact⟨_,rfl,u x v hv⟩
 |assign x=>exact⟨_,rfl,u x v hv⟩
 |pick c p q=>exact XH w (u c) (u p) (u q) hv
 | load ty T=>
   obtain⟨x,C,A⟩:=Mc I (u T) hv
   exact⟨x,mA C,A⟩
 | nilCheck x=>
   obtain⟨C,A⟩:=O7 w (u x) hv (dst:=dst) (ty:=ty) (pos:=pos) (af:=af) (gd:=gd)
   exact⟨_,C,A⟩
 | binOp op U x y yt=>
   simp only[iK,ft]at hv;obtain⟨p,C,q,A,G⟩:=hv;obtain⟨r,j,z⟩:=YG (X:=x) (Y:=y) w (u x _ C) (u y _ A) G
   exact⟨r,mA j,z⟩
 | unOp op U x=>
   simp only[iK,ft]at hv;obtain⟨p,C,A⟩:=hv;obtain⟨r,j,z⟩:=za7 w (u x _ C) A
   exact⟨r,mA j,z⟩
 | convert src d x=>
   have L:∃r,(convert src d (a.eval x)).run P0 w = .ok r w/\fM Δ v r:=by
     by_cases lT:∃e,P0.underlying src=some (.slice e)/\P0.underlying d=some .string
     ·obtain⟨e,C,A⟩:=lT
      exact UO I C A (u x) hv
     ·exact Xu w lT (u x) hv
   obtain⟨r,j,z⟩:=L
   exact⟨r,mA j,z⟩
 | build ty parts=>
   obtain⟨r,j,z⟩:=Uk F hv;refine⟨r,mA ?_,z⟩;rw[<-j];congr 2;apply Array.ext'
   simp
 | makeFunc fn first S=>
   cases fn with
   | func f=>
     simp only[iK,ft]at hv;obtain⟨p,C,q,A,G⟩:=hv;cases G;refine⟨_,rfl,.func f p q _ _ ?_ ?_⟩
     ·have:=A8 F C;simpa using this
     ·have:=A8 F A;simpa using this
   |_=>cases hv
 | slice ty x lo hi W=>
   cases W with
   | none=>
     obtain⟨r,j,z⟩:=U8 I F (u x) hv
     exact⟨r,mA j,z⟩
   |some _=>cases hv
 | fieldAddr s x f=>
   obtain⟨r,j,z⟩:=Ng w (u x) hv
   exact⟨r,mA j,z⟩
 | field s x f=>
   obtain⟨r,j,z⟩:=Vk w (u x) hv
   exact⟨r,mA j,z⟩
 | indexAddr ty x i=>
   obtain⟨r,j,z⟩:=M0 w (u x) (u i) hv
   exact⟨r,mA j,z⟩
 | index ty x i=>
   obtain⟨r,j,z⟩:=Vc w (u x) (u i) hv
   exact⟨r,mA j,z⟩
 | lookup ty m k ok=>
   obtain⟨r,j,z⟩:=Rt I (u m) (u k) hv
   exact⟨r,mA j,z⟩
 | extract x i=>
   obtain⟨r,j,z⟩:=PL w (u x) hv
   exact⟨r,mA j,z⟩
 | makeInterface ty x=>
   simp only[iK]at hv;split at hv
   ·rename_i hi
    obtain⟨d,Z,hd⟩:=Mw hi;simp only[ft]at hv;obtain⟨p,C,A⟩:=hv;cases A;refine⟨.iface ty (a.eval x),mA ?_,.iface _ _ _ (u x _ C)⟩;simp only[Instr.makeInterface,qh,fP Z,py];cases d <;> first|exact absurd rfl (hd _)|rfl
   ·cases hv
 | typeAssert x xT J ok=>
   obtain⟨r,j,z⟩:=RS (xT:=xT) w (u x) hv
   exact⟨r,mA j,z⟩
 | call c =>
   obtain⟨E,args,D⟩:=c;simp only[iK]at hv
   cases E with
   | builtin b=>
     cases b <;> try (cases hv;done)
     case len=>
       simp only at hv;split at hv
       ·rename_i x O aa g M
        have P:D[0]? =some O:=by rw[<-Rm,M];rfl
        obtain⟨r,j,z⟩:=Zt I (rt:=ty) P (u x) hv;refine⟨r,?_,z⟩;have N:args.map a.eval = #[a.eval x]:=by apply Array.ext';simp[g]
        simp only[execOp,resolve,N];exact mA j
       ·cases hv
     case min=>
       simp only[ft]at hv;obtain⟨l,C,A⟩:=hv;split at A
       ·rename_i x r
        have B:=A8 F C
        cases g:args.toList.map a.eval with
        |nil=>rw[g]at B;cases B
        | cons Q r'=>
          rw[g]at B
          cases B with
          | cons _ _ _ _ K R=>
            obtain⟨H,G,j⟩:=OB w K R A;refine⟨H,?_,j⟩;have N:(args.map a.eval).toList=Q::r':=by simpa using g
            simp only[execOp,resolve];refine mA ?_;simp only[Builtin.min_,N];simpa using G
       ·cases A
     case max=>
       simp only[ft]at hv;obtain⟨l,C,A⟩:=hv;split at A
       ·rename_i x r
        have B:=A8 F C
        cases g:args.toList.map a.eval with
        |nil=>rw[g]at B;cases B
        | cons Q r'=>
          rw[g]at B
          cases B with
          | cons _ _ _ _ K R=>
            obtain⟨H,G,j⟩:=OB w K R A;refine⟨H,?_,j⟩;have N:(args.map a.eval).toList=Q::r':=by simpa using g
            simp only[execOp,resolve];refine mA ?_;simp only[Builtin.max_,N];simpa using G
       ·cases A
   |value f=>cases hv
   |invoke r m=>cases hv
 |_=>cases hv
end
def RW(Δ:Env)(b:Nat):Prop:=∃l d,Δ l=some d/\d.ro=false/\d.b=b
structure FR (Δ a:Env) (w w':World):Prop where
 le:Δ.le a
 size:w.heap.size<=w'.heap.size
 os:w'.os=w.os
 tape:w'.tape=w.tape
 output:w'.output=w.output
 fk:∀b,b<w.heap.size->¬RW Δ b->w'.heap[b]? =w.heap[b]?
 new:∀l d,a l=some d->Δ l=some d\/w.heap.size<=d.b\/RW Δ d.b
theorem FR.refl(Δ:Env)(w:World):FR Δ Δ w w:=⟨Env.le_refl _,jj _,rfl,rfl,rfl,λ_ _ _=>rfl,λ_ _ h=> .inl h⟩
theorem FR.trans{Δ n e:Env} {w w' f:World} (h:FR Δ n w w') (h':FR n e w' f):FR Δ e w f where
 le:=Env.le_trans h.le h'.le
 size:=Gt h.size h'.size
 os:=h'.os.trans h.os
 tape:=h'.tape.trans h.tape
 output:=h'.output.trans h.output
 fk:=λb o i=>by
  rw[h'.fk b (BL o h.size) ?_,h.fk b o i];rintro⟨l,d,j,r,rfl⟩;rcases h.new l d j with a|a|a
  ·exact i ⟨l,d,a,r,rfl⟩
  ·omega
  ·exact i a
 new:=λl d j=>by
  rcases h'.new l d j with a|a|⟨p,q,k,m,c⟩
  ·exact h.new l d a
  ·exact .inr (.inl (Gt h.size a))
  ·rcases h.new p q k with g|g|g
   ·exact .inr (.inr ⟨p,q,g,m,c⟩)
   ·exact .inr (.inl (by rw[<-c];exact g))
   ·exact .inr (.inr (by rw[<-c];exact g))
theorem vM(h:Hp) (o:O) (l:Nat):(h.new o).get l=if h.next=l then some o else h.get l:=by
 rw[Hp.get_eq,Hp.get_eq];unfold Hp.new;simp only[Tr.Ik];by_cases a:h.next=l
 ·subst a;simp
 ·simp only[a,if_false];by_cases b:l<h.next
  ·rw[if_pos (by omega),if_pos b]
  ·rw[if_neg (by omega),if_neg b]
theorem pK{h:Hp} {l:Nat} (o:O) (m:Nat) (b:l<h.next):(h.put l o).get m=if l=m then some o else h.get m:=by
 rw[Hp.get_eq,Hp.get_eq];unfold Hp.put;simp only[Tr.Ik];by_cases a:l=m
 ·subst a;simp[b]
 ·simp only[a,if_false]
def Env.set(Δ:Env)(l:Nat)(d:D):Env:=λm=>if m=l then some d else Δ m
theorem Env.yD{Δ:Env} {l:Nat} {d:D} (h:Δ l=none):Δ.le (Δ.set l d):=λm e a=>by
 unfold Env.set;by_cases he:m=l
 ·subst he;rw[h]at a;cases a
 ·rw[if_neg he];exact a
theorem Env.wA(Δ:Env)(l:Nat)(d:D):(Δ.set l d) l=some d:=if_pos rfl
theorem Env.lR{Δ:Env} {l m:Nat} {d e:D} (h:(Δ.set l d) m=some e):(m=l/\e=d)\/(m≠l/\Δ m=some e):=by
 unfold Env.set at h;by_cases he:m=l
 ·rw[if_pos he]at h;cases h;exact .inl ⟨he,rfl⟩
 ·rw[if_neg he]at h;exact .inr ⟨he,h⟩
theorem WR.Gf{Δ:Env} {h:Hp} {w:World} (a:WR Δ h w):Δ h.next=none:=by
 cases hd:Δ h.next with
 |none=>rfl
 |some d=>exact absurd (a.fresh _ _ hd) (Tw _)
theorem heap_alloc(w:World) (ob:Obj) (b:Nat):(w.alloc ob).heap[b]? =if b=w.heap.size then some ob else w.heap[b]?:=by
 unfold World.alloc;simp only[Array.getElem?_push]
theorem Cd.step{Δ n:Env} {w w':World} (h:Cd Δ w) (q:∀b,b<w.heap.size->¬RW Δ b->w'.heap[b]? =w.heap[b]?) (r:∀l d,n l=some d->d.ro=false->Δ l=some d\/w.heap.size<=d.b\/RW Δ d.b):Cd n w':=by
 intro g c s;obtain⟨⟨e,fr,o⟩,p⟩:=h g c s;have k:=(SR.1 o).1;have f:¬RW Δ g:=λ⟨l,d,m,a,j⟩=>p l d m a j;refine⟨⟨e,fr,by rw[q g k f];exact o⟩,λl d m a j=>?_⟩;rcases r l d m a with i|i|i
 ·exact p l d i a j
 ·omega
 ·rw[j]at i;exact f i
theorem WR.lay{Δ:Env} {h:Hp} {w:World} (c:WR Δ h w) {l:Nat} {o:O} {d:D} {ob:Obj} (x:Δ l=none) (A:l<h.next) (B:h.get l=some o) (C:d.b=w.heap.size)
  (E:Ra (Δ.set l d) d o (some ob)):WR (Δ.set l d) h (w.alloc ob) where
 fresh:=λm e a=>by
  rcases Env.lR a with⟨rfl,rfl⟩|⟨_,a⟩
  ·exact A
  ·exact c.fresh m e a
 nW:=λm e a=>by
  simp only[World.size_alloc];rcases Env.lR a with⟨rfl,rfl⟩|⟨_,a⟩
  ·omega
  ·have:=c.nW m e a;omega
 obj:=λm e a=>by
  rcases Env.lR a with⟨rfl,rfl⟩|⟨_,a⟩
  ·refine⟨o,B,?_⟩;rw[heap_alloc,if_pos C];exact E
  ·obtain⟨F,f,i⟩:=c.obj m e a;refine⟨F,f,?_⟩;rw[heap_alloc,if_neg (Qe (c.nW m e a))];exact i.mono (Env.yD x)
 apart:=λm y e z p G a q j hp r s k t=>by
  rcases Env.lR a with⟨f,i⟩|⟨_,f⟩ <;> rcases Env.lR q with⟨n,H⟩|⟨_,n⟩
  ·exact absurd (f.trans n.symm) j
  ·have:=c.nW y z n;rw[i];omega
  ·have:=c.nW m e f;rw[H];omega
  ·exact c.apart m y e z p G f n j hp r s k t
 HL:=λg p u hp=>by
  obtain⟨e,f,i⟩:=c.HL g p u hp;exact⟨e,Env.yD x _ _ f,i⟩
 yJ:=c.yJ
 Ts:=c.Ts.step (λb v _=>by rw[heap_alloc,if_neg (Qe v)]) λm e a _=>by
  rcases Env.lR a with⟨rfl,rfl⟩|⟨_,a⟩
  ·exact .inr (.inl (by omega))
  ·exact .inl a
theorem WR.more{Δ:Env} {h:Hp} {w:World} (a:WR Δ h w) (o:O):WR Δ (h.new o) w where
 fresh:=λl d f=>wCB (a.fresh l d f)
 nW:=a.nW
 obj:=λl d f=>by
  obtain⟨n,q,r⟩:=a.obj l d f;refine⟨n,?_,r⟩;rw[vM,if_neg (Nat.ne_of_gt (a.fresh l d f))];exact q
 apart:=λm s e t p u k b i hp c=>by
  rw[vM,if_neg (Nat.ne_of_gt (a.fresh _ _ k))]at hp;rw[vM,if_neg (Nat.ne_of_gt (a.fresh _ _ b))]at c;exact a.apart m s e t p u k b i hp c
 HL:=λg p j hp=>by
  rw[vM,if_neg (by have:=a.yJ;omega)]at hp;exact a.HL g p j hp
 yJ:=X6 a.yJ
 Ts:=a.Ts
theorem FR.lay{Δ:Env} {w:World} {l:Nat} {d:D} {ob:Obj} (f:Δ l=none) (g:d.b=w.heap.size):FR Δ (Δ.set l d) w (w.alloc ob) where
 le:=Env.yD f
 size:=by simp
 os:=rfl
 tape:=rfl
 output:=rfl
 fk:=λb a _=>by rw[heap_alloc,if_neg (Qe a)]
 new:=λm e c=>by
  rcases Env.lR c with⟨rfl,rfl⟩|⟨_,c⟩
  ·exact .inr (.inl (by omega))
  ·exact .inl c
def Made(Δ:Env) (ob:O) (mk:Nat->V) (a:Obj) (mv:Nat->Value):Prop:=∀l b,Δ l=none->∃d,d.b=b/\Ra (Δ.set l d) d ob (some a)/\fM (Δ.set l d) (mk l) (mv b)
theorem Bg{Δ:Env} {d:D} {cs:List V} {c:Array Value} {e:Nat} (hs:c.size=d.Rk) (a:d.base=0) (b:cs.length<=d.Rk) (hc:∀(i:Nat) (v:V),cs[i]? =some v->∃x,c[i]? =some x/\fM Δ v x) :
  FJ Δ d cs (some (.cells c e (0,0))):=
 ⟨c,e,(0,0),rfl,hs,λ_=> .inl rfl,by omega,λi v hi=>by rw[a,yC];exact hc i v hi⟩
theorem Ue{Δ:Env} {e:Nat} {v:V} {xv:Value} {ob:O} {mk:Nat->V} (a:fM Δ v xv) (hv:m0 e v=some (ob,mk)) :
  Made Δ ob mk (.cells xv.cells e) (λb=> .pointer (some ⟨b,0,none⟩)):=by
 unfold m0 at hv;rw[g0]at hv;obtain⟨_,hv⟩:=hv;cases hv;intro l b g;have hc:=a.cells;have c:=Env.yD (d:=⟨b,0,1,v.cells.length,xv.cells.size,false,0⟩) g;refine⟨⟨b,0,1,v.cells.length,xv.cells.size,false,0⟩,rfl,⟨rfl,rfl,rfl,rfl,λ_=>?_⟩,?_⟩
 ·refine Bg rfl rfl (X2 (by first|(simpa using hc.length)|(simpa using f.length))) λi u hi=>?_;obtain⟨x,a,f⟩:=hc.get i u hi;exact⟨x,by simpa using a,f.mono c⟩
 ·exact fM.ptr l 0 ⟨b,0,1,v.cells.length,xv.cells.size,false,0⟩ (Env.wA _ _ _)
theorem Ga{a size jM:Nat} {z:V} (h:elemOf a=some (size,jM,z)) :
  yq a=some size/\YD a=some jM/\zeroV a=some z/\0<size/\z.cells.length=size/\gv z.cells=true:=by
 unfold elemOf at h;simp only[ft,g0]at h;obtain⟨s,d,b,e,k,f,c,g,i,j⟩:=h;cases j;rw[Ns]at c;exact⟨d,e,f,c,vK g,i⟩
theorem zW{t e:Nat} (h:Gi t=some e):P0.underlying t=some (.slice e):=by
 unfold Gi at h;split at h
 ·rename_i b a;cases h;exact a
 ·cases h
theorem Py(z:List V):∀(m i:Nat),(zZ m z)[i]? =if i<m*z.length then z[i % z.length]? else none
 |0,i=>by simp[zZ]
 | m + 1,i=>by
   simp only[zZ,List.getElem?_append];by_cases a:i<z.length
   ·rw[if_pos a,if_pos (by rw[Nl];omega),Nat.mod_eq_of_lt a]
   ·rw[if_neg a,Py z m]
    have e:i % z.length=(i-z.length) % z.length:=by
      rw[Nat.mod_eq_sub_mod (by omega)]
    rw[e];by_cases b:i-z.length<m*z.length
    ·rw[if_pos b,if_pos (by rw[Nl];omega)]
    ·rw[if_neg b,if_neg (by rw[Nl];omega)]
theorem A1(z:List V):∀m,(zZ m z).length=m*z.length
 |0=>by simp[zZ]
 |m+1=>by simp[zZ,A1 z m,Nl,Nat.add_comm]
theorem Qq{Δ:Env} {z:List V} {b:Array Value} (c:gM Δ z b.toList) (h0:0<z.length) (m:Nat):gM Δ (zZ m z) ((Array.range (m*z.length)).map λi=>b[i % b.size]!).toList:=by
 have hlen:=c.length;simp only[Ui]at hlen;refine gM.On (by simp[A1]) λi v hi=>?_;rw[Py]at hi;by_cases h:i<m*z.length
 ·rw[if_pos h]at hi;obtain⟨x,d,e⟩:=c.get _ _ hi;refine⟨x,?_,e⟩;have a:b[i % z.length]? =some x:=by simpa using d
  rw[hlen]at a;rw[Rm];simp[h,getElem!_def,a]
 ·rw[if_neg h]at hi;cases hi
section
variable{Δ:Env}{h:Hp}{w:World}{n:Nat}{t:Tm}{a:Act}
theorem Q8(X : TR Δ n t a) {o:Oper} {ob:O} {mk:Nat->V} (hv:(qf o).f t=some (ob,mk)) :
    ∃mo mv,(∀w,(execOp a.eval o).run P0 w = .ok (.value (mv w.heap.size)) (w.alloc mo))/\Made Δ ob mk mo mv:=by
  obtain⟨dst,op,ty,pos,af,gd⟩:=o
  cases op with
  | alloc e=>
    simp only[qf]at hv;split at hv
    ·rename_i z Q
     obtain⟨y,A,C,_⟩:=zI Q;refine⟨_,_,λw=>mA (x:= .pointer (some ⟨w.heap.size,0,none⟩)) ?_,Ue (C Δ) hv⟩;simp[Instr.alloc,A,newVar,newRow]
    ·cases hv
  | box e x=>
    simp only[qf,ft]at hv;obtain⟨v,R,P⟩:=hv;refine⟨_,_,λw=>mA (x:= .pointer (some ⟨w.heap.size,0,none⟩)) ?_,Ue (Fj X R) P⟩
    simp[Instr.box,newVar,newRow]
  | buildSlice S len parts=>
    simp only[qf]at hv;split at hv
    ·rename_i s I
     have hu:=zW I;split at hv
     ·rename_i size jM z he
      obtain⟨hs,_,Q,T,D,_⟩:=Ga he;obtain⟨y,A,C,_⟩:=zI Q;split at hv
      ·rename_i E
       have aj:len*size<=16777216:=Iu E;simp only[Fe,ft,g0]at hv;obtain⟨ps,R,cs,P,_,J⟩:=hv;cases J;have F:=(C Δ).cells;have g:=Qq F (by omega) len;have ak:y.cells.size=size:=by have:=F.length;simp only[Ui]at this;omega
       have j:gM Δ (zZ len z.cells) ((Array.range (len*size)).map λi=>(if len*size=0 then(#[]:Array Value) else y.cells)[i % (if len*size=0 then(#[]:Array Value) else y.cells).size]!).toList:=by
         by_cases h0:len*size=0
         ·rw[if_pos h0,h0]
          have:len=0:=by rcases Nat.mul_eq_zero.1 h0 with h|h <;> omega
          subst this;simp[zZ];exact .nil
         ·rw[if_neg h0];rw[D]at g;exact g
       obtain⟨nQ,Y,hr⟩:=K5 (Db X R) j P;refine⟨.cells nQ s,λb=> .slice (some ⟨b,0,none⟩) len len,λw=>mA (w:=w) (x:= .slice (some ⟨w.heap.size,0,none⟩) len len) ?_,?_⟩
       ·have B:(parts.map λ(x:Nat×Operand)=>(x.1,a.eval x.2)).toList=parts.toList.map λx=>(x.1,a.eval x.2):=by simp
        have aa:¬(len*size>2 ^ 24):=by omega
        have U:(if len*size=0 then(pure #[]:Sem (Array Value)) else do pure (<-zeroValue s).cells).run P0 w = .ok (if len*size=0 then(#[]:Array Value) else y.cells) w:=by
          by_cases h0:len*size=0
          ·rw[if_pos h0,if_pos h0];rfl
          ·rw[if_neg h0,if_neg h0];simp[A]
        simp only[Instr.buildSlice,qh,fP hu,vz hs,py,Sem.run_ite];rw[if_neg aa];simp only[Gk,py,qh];clear j U;by_cases h0:len*size=0
        ·simp only[if_pos h0]at Y⊢
         rw[B];have K:Instr.fill (λi=>some (i*size,size)) (Array.map (λx=>(#[]:Array Value)[x % (#[]:Array Value).size]!) (Array.range (len*size))) (List.map (λx=>(x.1,a.eval x.2)) parts.toList)=some nQ:=Y;rw[K];rfl
        ·simp only[if_neg h0,A,py]at Y⊢
         rw[B];have K:Instr.fill (λi=>some (i*size,size)) (Array.map (λx=>y.cells[x % y.cells.size]!) (Array.range (len*size))) (List.map (λx=>(x.1,a.eval x.2)) parts.toList)=some nQ:=Y;rw[K];rfl
       ·intro l b Z
        have L:=hr.length;simp only[Ui]at L;have al:cs.length=len*size:=by
          have h5:∀{place:Nat->Option (Nat×Nat)} {ps:List (Nat×V)} {c c':List V},B6 place c ps=some c'->c'.length=c.length:=by
            intro place ps
            induction ps with
            |nil=>intro c c' h;simp[B6]at h;rw[h]
            | cons p ps ih=>
              intro c c' h;simp only[B6,ft,g0]at h;obtain⟨q,_,_,am,h6,h7⟩:=h;rw[ih h7,(JR h6).1]
          rw[h5 P,A1,D]
        have E:=Env.yD (d:=⟨b,0,size,cs.length,nQ.size,false,0⟩) Z;refine⟨⟨b,0,size,cs.length,nQ.size,false,0⟩,rfl,⟨rfl,rfl,rfl,rfl,λ_=>?_⟩,?_⟩
        ·refine Bg rfl rfl (X2 (by first|(simpa using hc.length)|(simpa using hr.length))) λi u hi=>?_
         obtain⟨x,hx,M⟩:=hr.get i u hi;exact⟨x,by simpa using hx,M.mono E⟩
        ·refine fM.slice l 0 len len 0 ⟨b,0,size,cs.length,nQ.size,false,0⟩ (Env.wA _ _ _) rfl (jj _) (.inl ⟨rfl,?_,?_⟩)
         ·show cs.length<=0+len*size;omega
         ·show 0+0+len*size<=nQ.size;omega
      ·cases hv
     ·cases hv
    ·cases hv
  | makeSlice S m c=>
    simp only[qf]at hv;split at hv
    ·rename_i s I
     have hu:=zW I;split at hv
     ·rename_i size jM z he
      obtain⟨hs,N,Q,T,D,_⟩:=Ga he;obtain⟨y,A,C,i,hi,an⟩:=zI Q;simp only[ft]at hv;obtain⟨mv,R,cv,P,J⟩:=hv;have hm:=Fj X R;have hc:=Fj X P;unfold ig at J;split at J
      ·rename_i G c'
       simp only[g0]at J;obtain⟨h4,h5,h6,h7⟩:=J;cases h7;have ab:G<=c':=Iu h4;have ao:c'*jM<=281474976710656:=Iu h5;have ac:c'<=1099511627776:=Iu h6;have ae:i.bytes=jM:=by
         unfold YD at N;rw[ft]at N;obtain⟨i',W,hb⟩:=N;rw[hi]at W;cases W;simpa using hb
       have F:=(C Δ).cells;have g:=Qq F (by omega) c';rw[D]at g;have ag:a.eval m = .int .i64 (G:Int):=by
         generalize a.eval m=x at hm;cases hm;rfl
       have ah:a.eval c = .int .i64 (c':Int):=by
         generalize a.eval c=x at hc;cases hc;rfl
       have wr:∀k:Nat,k<=1099511627776->IntKind.i64.wrap (k:Int)=k:=λk hk=>by
         simp[IntKind.wrap,IntKind.bits,IntKind.signed];omega
       refine⟨.cells ((Array.range (c'*size)).map λi=>y.cells[i % y.cells.size]!) s,λb=> .slice (some ⟨b,0,none⟩) G c',λw=>mA (w:=w) (x:= .slice (some ⟨w.heap.size,0,none⟩) G c') ?_,?_⟩
       ·rw[ag,ah]
        have e1:((i.bytes:Int)*(c':Int)>2 ^ 48)=False:=by
          rw[ae];have:(jM:Int)*(c':Int)=((c'*jM:Nat):Int):=by rw[Nat.mul_comm];simp
          rw[this];simp;omega
        have j:(if c'*size=0 then(pure #[]:Sem (Array Value)) else do pure (<-zeroValue s).cells).run P0 w = .ok (if c'*size=0 then(#[]:Array Value) else y.cells) w:=by
          by_cases h0:c'*size=0
          ·rw[if_pos h0,if_pos h0];rfl
          ·rw[if_neg h0,if_neg h0];simp[A]
        have H:((Array.range (c'*size)).map λi=>(if c'*size=0 then(#[]:Array Value) else y.cells)[i % (if c'*size=0 then(#[]:Array Value) else y.cells).size]!)=((Array.range (c'*size)).map λi=>y.cells[i % y.cells.size]!):=by
          by_cases h0:c'*size=0
          ·rw[h0];simp
          ·rw[if_neg h0]
        have c1:¬((c':Int)<0):=by omega
        have c2:¬((G:Int)<0):=by omega
        have c3:¬((G:Int)>(c':Int)):=by omega
        simp only[Instr.makeSlice,qh,fP hu,py,asInt,asIntOf,Gk,typeInfo,run_program,hi,wr G (by omega),wr c' ac,e1,c1,c2,c3,decide_false,Bool.or_false,MR,if_false,run_askRoom,vz hs,Int.toNat_natCast];clear j;by_cases h0:c'*size=0
        ·simp only[if_pos h0,newRow,run_newObj,qh,Gk,py]at H⊢
         rw[H];rfl
        ·simp only[if_neg h0,A,newRow,run_newObj,qh,Gk,py]
         rfl
       ·intro l b Z
        have L:=g.length;simp only[Ui]at L;have ai:(zZ c' z.cells).length=c'*size:=by rw[A1,D]
        have E:=Env.yD (d:=⟨b,0,size,(zZ c' z.cells).length,c'*size,false,0⟩) Z;refine⟨⟨b,0,size,(zZ c' z.cells).length,c'*size,false,0⟩,rfl,⟨rfl,rfl,rfl,rfl,λ_=>?_⟩,?_⟩
        ·refine Bg (by simp) rfl (X2 ai) λi u hi=>?_
         obtain⟨x,hx,M⟩:=g.get i u hi;exact⟨x,by rw[Rm]at hx;exact hx,M.mono E⟩
        ·refine fM.slice l 0 G c' 0 ⟨b,0,size,(zZ c' z.cells).length,c'*size,false,0⟩ (Env.wA _ _ _) rfl ab (.inl ⟨rfl,?_,?_⟩)
         ·show(zZ c' z.cells).length<=0+c'*size;omega
         ·show 0+0+c'*size<=c'*size;omega
      ·cases J
     ·cases hv
    ·cases hv
  | makeMap S r=>
    cases r with
    | none=>
      simp only[qf]at hv;split at hv
      ·cases hv
       refine⟨.map #[] 0,λb=> .map (some b),λw=>mA (x:= .map (some w.heap.size)) (by simp[Instr.makeMap]),?_⟩;intro l b Z;exact⟨⟨b,0,0,0,0,false,1⟩,rfl,⟨rfl,rfl,rfl,#[],rfl,.nil⟩,fM.map l ⟨b,0,0,0,0,false,1⟩ (Env.wA _ _ _)⟩
      ·cases hv
    |some _=>cases hv
  |_=>cases hv
end
